import Derived.Test.YtamjcdfjkekdjaaTestG
import Derived.Test.YtamjcdfjkekdjaaEngD
set_option linter.unusedSimpArgs false
set_option linter.unusedVariables false
set_option linter.constructorNameAsVariable false
set_option autoImplicit false
namespace Go.Eng
open Go Go.RowKit Go.Proofs
def accF (l : List In) : List In := l.filter fun x => hasL x.op
theorem accF_succ {l : List In} {n : Nat} (h : n < l.length) : accF (l.take (n + 1)) = accF (l.take n) ++ (if hasL (l[n]).op = true then [l[n]] else []) := by
  unfold accF
  rw [List.take_add_one, List.getElem?_eq_getElem h, List.filter_append]
  congr 1
  simp only [Option.toList, List.filter_cons, List.filter_nil]
theorem accF_len (l : List In) (n : Nat) : (accF (l.take n)).length ≤ l.length := by
  unfold accF
  have := List.length_filter_le (fun x : In => hasL x.op) (l.take n)
  have : (l.take n).length ≤ l.length := by rw [List.length_take]; omega
  omega
theorem accF_append (s l : List In) : accF (s ++ l) = accF s ++ accF l := by simp [accF]
theorem hasL_bar {op : Int} (h : barF op = true) : hasL op = false := by unfold barF at h; unfold hasL; simp at h ⊢; omega
theorem hasL_bra {op : Int} (h : braF op = true) : hasL op = false := by unfold braF at h; unfold hasL; simp at h ⊢; omega
theorem acc_bare : ∀ l : List In, accF (turnL bareF l) = accF l
  | [] => rfl
  | x :: l => by
    have ih := acc_bare l
    simp only [turnL, accF_append, ih]
    show _ = accF ([x] ++ l)
    rw [accF_append]
    congr 1
    cases hb : braF x.op
    · have ho : oneF bareF x l = bareF x := by simp [oneF, hb]
      rw [ho]
      cases hx : barF x.op
      · simp [bareF, hx]
      · simp [bareF, hx, accF, hasL_bar hx]
    · have ho : oneF bareF x l = [setM x (cntF bareF (l.take x.m.toNat))] := by simp [oneF, hb]
      rw [ho]
      simp [accF, setM, hasL_bra hb]
theorem acc_fenced : ∀ l : List In, accF (turnL fencedF l) = accF l
  | [] => rfl
  | x :: l => by
    have ih := acc_fenced l
    have hd : hasL dmb.op = false := by decide
    simp only [turnL, accF_append, ih]
    show _ = accF ([x] ++ l)
    rw [accF_append]
    congr 1
    cases hb : braF x.op
    · have ho : oneF fencedF x l = fencedF x := by simp [oneF, hb]
      rw [ho]
      cases hx : hasL x.op <;> simp [fencedF, hx, accF, hd]
    · have ho : oneF fencedF x l = [setM x (cntF fencedF (l.take x.m.toNat))] := by simp [oneF, hb]
      rw [ho]
      simp [accF, setM, hasL_bra hb]
/-- What loads or stores has a barrier ahead of it. -/
def Fenced1 (l : List In) : Prop := ∀ (k : Nat) (h : k < l.length), hasL (l[k]).op = true → ∃ (h0 : 0 < k), (l[k - 1]).op = 11
theorem Fenced1.one {y : In} {q : List In} (hy : hasL y.op = false) (hq : Fenced1 q) : Fenced1 (y :: q) := by
  intro k h hk
  cases k with
  | zero => simp at hk; rw [hy] at hk; cases hk
  | succ k =>
    have h' : k < q.length := by simpa using h
    obtain ⟨h0, h1⟩ := hq k h' (by simpa using hk)
    refine ⟨by omega, ?_⟩
    cases k with
    | zero => omega
    | succ k => simpa using h1
theorem Fenced1.two {y : In} {q : List In} (hq : Fenced1 q) : Fenced1 (dmb :: y :: q) := by
  intro k h hk
  match k, h, hk with
  | 0, h, hk => simp [dmb, hasL] at hk
  | 1, h, hk => exact ⟨by omega, by simp [dmb]⟩
  | k + 2, h, hk =>
    have h' : k < q.length := by simpa using h
    obtain ⟨h0, h1⟩ := hq k h' (by simpa using hk)
    refine ⟨by omega, ?_⟩
    cases k with
    | zero => omega
    | succ k => simpa using h1
theorem fenced_one : ∀ l : List In, Fenced1 (turnL fencedF l)
  | [] => fun k h => absurd h (by simp [turnL])
  | x :: l => by
    have ih := fenced_one l
    simp only [turnL]
    cases hb : braF x.op
    · have ho : oneF fencedF x l = fencedF x := by simp [oneF, hb]
      rw [ho]
      cases hx : hasL x.op
      · have e : fencedF x = [x] := by simp [fencedF, hx]
        rw [e]; exact Fenced1.one hx ih
      · have e : fencedF x = [dmb, x] := by simp [fencedF, hx]
        rw [e]; exact Fenced1.two ih
    · have ho : oneF fencedF x l = [setM x (cntF fencedF (l.take x.m.toNat))] := by simp [oneF, hb]
      rw [ho]
      exact Fenced1.one (hasL_bra hb) ih
set_option maxHeartbeats 16000000 in
theorem c_accesses {l : List In} (hl : l.length ≤ 100) : SC Try.prog 64 [.pv (.sl 6 (insL l))] (.pv (.sl 6 (insL (accF l)))) := by
  refine scx_of Try.func64 rfl rfl rfl (Nat.le_of_ble_eq_true rfl) ?_
  repeat' (first
    | exact aw_ret (ret_vals (by simp; exact rfl) (by simp [*]; fail_if_success (show _)))
    | exact aw_ret (ret_vals (by simp; exact rfl) (by simp [*]; omega))
    | refine ar_end rfl ?_
    | refine ar_endD rfl (by kernel_rfl) ?_
    | refine ar_fin rfl ?_
    | refine ar_finD rfl (by kernel_rfl) ?_
    | refine ar_go3 _ rfl (by simp [insL_len, thsL_len, insL_getE, thsL_getE, inL, ints_len]; exact ⟨rfl, rfl, rfl⟩) rfl ?_
    | refine aw_sregK 0 [0] ?_
    | refine aw_regK 0 [0] ?_
    | refine aw_sregK 1 [0] ?_
    | refine aw_regK 1 [0] ?_
    | refine aw_sregK 2 [0, 3] ?_
    | refine aw_regK 2 [0, 3] ?_
    | refine aw_sregK 3 [0, 3, 4] ?_
    | refine aw_regK 3 [0, 3, 4] ?_
    | refine aw_sregK 4 [0, 3, 4] ?_
    | refine aw_regK 4 [0, 3, 4] ?_
    | refine aw_sregK 5 [0, 3, 4] ?_
    | refine aw_regK 5 [0, 3, 4] ?_
    | refine aw_sregK 6 [0, 3, 4] ?_
    | refine aw_regK 6 [0, 3, 4] ?_
    | refine aw_sregK 7 [3] ?_
    | refine aw_regK 7 [3] ?_
    | refine aw_sreg ?_
    | refine aw_sregD mixed ?_
    | refine aw_ifT (b := true) rfl rfl ?_
    | refine aw_ifF (b := false) rfl rfl ?_
    | refine aw_ifT rfl (by assumption) ?_
    | refine aw_ifF rfl (by assumption) ?_
    | refine aw_ifT rfl (decide_eq_true (by assumption)) ?_
    | refine aw_ifF rfl (decide_eq_false (by assumption)) ?_
    | refine aw_seq ?_
    | refine aw_block ?_
    | refine aw_skip ?_
    | refine aw_region ?_
    | refine aw_region_draw mixed ?_
    | refine aw_exit ?_
    | refine rq_exit ?_
    | refine blockQ_hit ?_
    | refine blockQ_miss (by decide) ?_
    | (refine ar_guard rfl rfl rfl rfl (fun h => ?_) (fun h => ?_) <;> (fail_if_success (cases h; done)) <;> (try simp at h) <;> (try subst h))
    | (refine aw_both rfl (fun h => ?_) (fun h => ?_) <;> (fail_if_success (cases h; done)) <;> (try simp at h) <;> (try subst h)))
  refine aw_nil 3 (.loc 1000) 31 6 (by simp; exact rfl) ?_
  refine aw_loopN [0, 3, 4] [.loc 1000] (by simp; exact rfl) (ι := {n : Nat // n ≤ l.length}) (fun n => ⟨25, [(0, .pv (.sl 6 (insL l))), (3, .own (.loc 1000)), (4, I .i64 n.1)], [(.loc 1000, some (.own 31 6 (insL (accF (l.take n.1)))))]⟩) (fun n => l.length - n.1) ⟨0, by omega⟩ (by simp [accF, insL]) ?_
  rintro ⟨n, hn⟩
  by_cases hlt : n < l.length
  · have hc : (n : Int) < (l.length : Int) := by omega
    have hw : IntKind.wrap .i64 ((n : Int) + 1) = (n : Int) + 1 := wrap64s (by omega) (by omega)
    have hs := accF_succ hlt
    have ha := accF_len l n
    generalize hx : l[n] = x at hs
    cases hxl : hasL x.op
    · rw [hxl] at hs
      simp only [Bool.false_eq_true, if_false, List.append_nil] at hs
      repeat' (first
        | refine ar_end rfl ?_
        | refine ar_endD rfl (by kernel_rfl) ?_
        | refine ar_fin rfl ?_
        | refine ar_finD rfl (by kernel_rfl) ?_
        | refine ar_callV Try.call45 c_refKind rfl rfl rfl rfl rfl (by simp; done) (by rfl) (by simp; done) ?_
        | refine ar_callV_if Try.call45 c_refKind rfl rfl rfl rfl rfl rfl (by simp; done) rfl (by rfl) (by simp; done) ?_
        | refine lq_normN [0, 3, 4] [.loc 1000] (by simp; exact rfl) ⟨n + 1, by omega⟩ (by dsimp only; omega) (by simp [hs])
        | refine ar_go3 _ rfl (by simp [insL_len, thsL_len, insL_getE, thsL_getE, inL, ints_len, hc, hlt, hx, kindP, hxl, hw]; exact ⟨rfl, rfl, rfl⟩) rfl ?_
        | refine aw_sregK 0 [0] ?_
        | refine aw_regK 0 [0] ?_
        | refine aw_sregK 1 [0] ?_
        | refine aw_regK 1 [0] ?_
        | refine aw_sregK 2 [0, 3] ?_
        | refine aw_regK 2 [0, 3] ?_
        | refine aw_sregK 3 [0, 3, 4] ?_
        | refine aw_regK 3 [0, 3, 4] ?_
        | refine aw_sregK 4 [0, 3, 4] ?_
        | refine aw_regK 4 [0, 3, 4] ?_
        | refine aw_sregK 5 [0, 3, 4] ?_
        | refine aw_regK 5 [0, 3, 4] ?_
        | refine aw_sregK 6 [0, 3, 4] ?_
        | refine aw_regK 6 [0, 3, 4] ?_
        | refine aw_sregK 7 [3] ?_
        | refine aw_regK 7 [3] ?_
        | refine aw_sreg ?_
        | refine aw_sregD mixed ?_
        | refine aw_ifT (b := true) rfl rfl ?_
        | refine aw_ifF (b := false) rfl rfl ?_
        | refine aw_ifT rfl (by assumption) ?_
        | refine aw_ifF rfl (by assumption) ?_
        | refine aw_ifT rfl (decide_eq_true (by assumption)) ?_
        | refine aw_ifF rfl (decide_eq_false (by assumption)) ?_
        | refine aw_seq ?_
        | refine aw_block ?_
        | refine aw_skip ?_
        | refine aw_region ?_
        | refine aw_region_draw mixed ?_
        | refine aw_exit ?_
        | refine rq_exit ?_
        | refine blockQ_hit ?_
        | refine blockQ_miss (by decide) ?_
        | (refine ar_guard rfl rfl rfl rfl (fun h => ?_) (fun h => ?_) <;> (fail_if_success (cases h; done)) <;> (try simp at h) <;> (try subst h))
        | (refine aw_both rfl (fun h => ?_) (fun h => ?_) <;> (fail_if_success (cases h; done)) <;> (try simp at h) <;> (try subst h)))
    · rw [hxl] at hs
      simp only [if_true] at hs
      repeat' (first
        | refine ar_end rfl ?_
        | refine ar_endD rfl (by kernel_rfl) ?_
        | refine ar_fin rfl ?_
        | refine ar_finD rfl (by kernel_rfl) ?_
        | refine ar_callV Try.call45 c_refKind rfl rfl rfl rfl rfl (by simp; done) (by rfl) (by simp; done) ?_
        | refine ar_callV_if Try.call45 c_refKind rfl rfl rfl rfl rfl rfl (by simp; done) rfl (by rfl) (by simp; done) ?_
        | refine ar_appO rfl rfl rfl rfl rfl (by simp; exact rfl) rfl (by simp; exact rfl) (by simp; exact rfl) (by simp; exact ⟨rfl, rfl⟩) rfl (by simp; exact rfl) (by simp; done) (by decide) (by simp [insL_len, thsL_len, maxLen]; try omega) ?_
        | refine lq_normR (.loc 23) (.loc 1000) [0, 3, 4] [.loc 1000] (by simp; exact rfl) ⟨n + 1, by omega⟩ (by dsimp only; omega) (by simp [hs, ← insL_append]; simp [insL, inL])
        | refine ar_go3 _ rfl (by simp [insL_len, thsL_len, insL_getE, thsL_getE, inL, ints_len, hc, hlt, hx, kindP, hxl, hw]; exact ⟨rfl, rfl, rfl⟩) rfl ?_
        | refine aw_sregK 0 [0] ?_
        | refine aw_regK 0 [0] ?_
        | refine aw_sregK 1 [0] ?_
        | refine aw_regK 1 [0] ?_
        | refine aw_sregK 2 [0, 3] ?_
        | refine aw_regK 2 [0, 3] ?_
        | refine aw_sregK 3 [0, 3, 4] ?_
        | refine aw_regK 3 [0, 3, 4] ?_
        | refine aw_sregK 4 [0, 3, 4] ?_
        | refine aw_regK 4 [0, 3, 4] ?_
        | refine aw_sregK 5 [0, 3, 4] ?_
        | refine aw_regK 5 [0, 3, 4] ?_
        | refine aw_sregK 6 [0, 3, 4] ?_
        | refine aw_regK 6 [0, 3, 4] ?_
        | refine aw_sregK 7 [3] ?_
        | refine aw_regK 7 [3] ?_
        | refine aw_sreg ?_
        | refine aw_sregD mixed ?_
        | refine aw_ifT (b := true) rfl rfl ?_
        | refine aw_ifF (b := false) rfl rfl ?_
        | refine aw_ifT rfl (by assumption) ?_
        | refine aw_ifF rfl (by assumption) ?_
        | refine aw_ifT rfl (decide_eq_true (by assumption)) ?_
        | refine aw_ifF rfl (decide_eq_false (by assumption)) ?_
        | refine aw_seq ?_
        | refine aw_block ?_
        | refine aw_skip ?_
        | refine aw_region ?_
        | refine aw_region_draw mixed ?_
        | refine aw_exit ?_
        | refine rq_exit ?_
        | refine blockQ_hit ?_
        | refine blockQ_miss (by decide) ?_
        | (refine ar_guard rfl rfl rfl rfl (fun h => ?_) (fun h => ?_) <;> (fail_if_success (cases h; done)) <;> (try simp at h) <;> (try subst h))
        | (refine aw_both rfl (fun h => ?_) (fun h => ?_) <;> (fail_if_success (cases h; done)) <;> (try simp at h) <;> (try subst h)))
  · have hc : ¬(n : Int) < (l.length : Int) := by omega
    have et : l.take n = l := List.take_of_length_le (by omega)
    repeat' (first
      | refine ar_end rfl ?_
      | refine ar_endD rfl (by kernel_rfl) ?_
      | refine ar_fin rfl ?_
      | refine ar_finD rfl (by kernel_rfl) ?_
      | refine lq_exit ?_
      | exact aw_ret (ret_frz (.loc 1000) (by simp; exact rfl) (by simp [et]; fail_if_success (show _)))
      | refine ar_go3 _ rfl (by simp [insL_len, thsL_len, insL_getE, thsL_getE, inL, ints_len, hc, et]; exact ⟨rfl, rfl, rfl⟩) rfl ?_
      | refine aw_sregK 0 [0] ?_
      | refine aw_regK 0 [0] ?_
      | refine aw_sregK 1 [0] ?_
      | refine aw_regK 1 [0] ?_
      | refine aw_sregK 2 [0, 3] ?_
      | refine aw_regK 2 [0, 3] ?_
      | refine aw_sregK 3 [0, 3, 4] ?_
      | refine aw_regK 3 [0, 3, 4] ?_
      | refine aw_sregK 4 [0, 3, 4] ?_
      | refine aw_regK 4 [0, 3, 4] ?_
      | refine aw_sregK 5 [0, 3, 4] ?_
      | refine aw_regK 5 [0, 3, 4] ?_
      | refine aw_sregK 6 [0, 3, 4] ?_
      | refine aw_regK 6 [0, 3, 4] ?_
      | refine aw_sregK 7 [3] ?_
      | refine aw_regK 7 [3] ?_
      | refine aw_sreg ?_
      | refine aw_sregD mixed ?_
      | refine aw_ifT (b := true) rfl rfl ?_
      | refine aw_ifF (b := false) rfl rfl ?_
      | refine aw_ifT rfl (by assumption) ?_
      | refine aw_ifF rfl (by assumption) ?_
      | refine aw_ifT rfl (decide_eq_true (by assumption)) ?_
      | refine aw_ifF rfl (decide_eq_false (by assumption)) ?_
      | refine aw_seq ?_
      | refine aw_block ?_
      | refine aw_skip ?_
      | refine aw_region ?_
      | refine aw_region_draw mixed ?_
      | refine aw_exit ?_
      | refine rq_exit ?_
      | refine blockQ_hit ?_
      | refine blockQ_miss (by decide) ?_
      | (refine ar_guard rfl rfl rfl rfl (fun h => ?_) (fun h => ?_) <;> (fail_if_success (cases h; done)) <;> (try simp at h) <;> (try subst h))
      | (refine aw_both rfl (fun h => ?_) (fun h => ?_) <;> (fail_if_success (cases h; done)) <;> (try simp at h) <;> (try subst h)))
end Go.Eng
