import Derived.Test.YtjijfghchcnbnaaDoorCondB
import Derived.Test.YtjijfghchcnbnaaDoorEngD
set_option linter.unusedSimpArgs false
set_option linter.unusedVariables false
set_option linter.constructorNameAsVariable false
set_option autoImplicit false
namespace Go.Eng
open Go Go.RowKit Go.Proofs
def fewB (c : Co) : Bool := decide (c.any.length ≤ 20) && c.any.all fun l => decide (l.length ≤ 20)
theorem fewB_iff {c : Co} : fewB c = true ↔ c.any.length ≤ 20 ∧ ∀ l ∈ c.any, l.length ≤ 20 := by
  unfold fewB
  rw [Bool.and_eq_true, List.all_eq_true]
  simp
theorem CoOk.few {c : Co} (h : fewB c = true) : CoOk c := by
  obtain ⟨h1, h2⟩ := fewB_iff.1 h
  exact ⟨Nat.le_trans h1 (by decide), fun l hl => Nat.le_trans (h2 l hl) (by decide)⟩
theorem take_all {α : Type} (p : α → Bool) {l : List α} {i : Nat} (h : i < l.length) : (l.take (i + 1)).all p = ((l.take i).all p && p l[i]) := by
  rw [List.take_add_one, List.getElem?_eq_getElem h, List.all_append]; simp
theorem take_any {α : Type} (p : α → Bool) {l : List α} {i : Nat} (h : i < l.length) : (l.take (i + 1)).any p = ((l.take i).any p || p l[i]) := by
  rw [List.take_add_one, List.getElem?_eq_getElem h, List.any_append]; simp
def cntF (c : Co) (l : List Ou) : Nat := l.countP fun o => evalF c o
theorem cnt_succ (c : Co) {l : List Ou} {i : Nat} (h : i < l.length) : cntF c (l.take (i + 1)) = cntF c (l.take i) + (if evalF c l[i] = true then 1 else 0) := by
  unfold cntF
  rw [List.take_add_one, List.getElem?_eq_getElem h, List.countP_append]
  simp [List.countP_cons]
theorem ver_cnt (c : Co) (l : List Ou) : verF c l = if c.all = true then decide ((cntF c l : Int) = (l.length : Int)) else decide (0 < (cntF c l : Int)) := by
  have hp : 0 < l.countP (fun o => evalF c o) ↔ ∃ a, a ∈ l ∧ evalF c a = true := List.countP_pos_iff
  have he : l.countP (fun o => evalF c o) = l.length ↔ ∀ a, a ∈ l → evalF c a = true := List.countP_eq_length
  unfold verF cntF
  generalize l.countP (fun o => evalF c o) = n at *
  cases c.all
  · have e : ((l.any fun o => evalF c o != false) != false) = l.any fun o => evalF c o := by simp
    rw [e, if_neg (by decide)]
    by_cases h : (l.any fun o => evalF c o) = true
    · have := hp.2 (List.any_eq_true.1 h)
      rw [h, decide_eq_true (by omega)]
    · have h2 : ¬0 < n := fun h3 => h (List.any_eq_true.2 (hp.1 h3))
      rw [Bool.not_eq_true] at h
      rw [h, decide_eq_false (by omega)]
  · have e : ((l.any fun o => evalF c o != true) != true) = l.all fun o => evalF c o := by
      rw [show ((l.any fun o => evalF c o != true) != true) = !(l.any fun o => !evalF c o) by simp, List.not_any_eq_all_not]; simp
    rw [e, if_pos rfl]
    by_cases h : (l.all fun o => evalF c o) = true
    · have := he.2 (List.all_eq_true.1 h)
      rw [h, decide_eq_true (by omega)]
    · have h2 : ¬n = l.length := fun h3 => h (List.all_eq_true.2 (he.1 h3))
      rw [Bool.not_eq_true] at h
      rw [h, decide_eq_false (by omega)]
end Go.Eng
set_option linter.unusedSimpArgs false
set_option linter.unusedVariables false
set_option linter.constructorNameAsVariable false
set_option autoImplicit false
namespace Go.Eng
open Go Go.RowKit Go.Proofs
theorem ret_rensY [Trk] {P : Program} {rs : List ResultVar} {res : AV} {Y : SMap} {st st' : AState} {r : List AV} (l : List (Name × Name)) (L : List Nat) (N : List Name) (hs : (st.rens l).keepN L N = st') (h1 : resA P st' rs = some r) (h2 : resV r = res) (h3 : ∀ p ∈ Y, p.2 = sget st'.s p.1) : retL P rs res Y .ret st :=
  ⟨st', r, by rw [← hs]; exact (Sub.rens l st).trans (Sub.keepN _ L N), h1, h2, h3⟩
set_option maxHeartbeats 16000000 in
theorem c_few [Trk] {c : Co} (hl : c.any.length ≤ maxLen) : SC Tryd.prog 10 [.agg (coC c)] (B (fewB c)) := by
  have hM : maxLen = 9223372036854775807 := rfl
  refine scx_of Tryd.func10 rfl rfl rfl (Nat.le_of_ble_eq_true rfl) ?_
  refine aw_sregK 0 [0] ?_
  refine ar_go3 _ rfl (by simp [ints_len, ints_getE, rgL_len, rgL_getE, atsL_len, atsL_getE, cosL_len, cosL_getE, ousL_len, ousL_getE, atC, ouC, coC]; exact ⟨rfl, rfl, rfl⟩) rfl ?_
  refine ar_end rfl ?_
  repeat' (first
    | refine ar_end rfl ?_
    | refine ar_endD rfl (by kernel_rfl) ?_
    | refine ar_fin rfl ?_
    | refine ar_finD rfl (by kernel_rfl) ?_
    | refine ar_go3 _ rfl (by simp [ints_len, ints_getE, rgL_len, rgL_getE, atsL_len, atsL_getE, cosL_len, cosL_getE, ousL_len, ousL_getE, atC, ouC, coC]; exact ⟨rfl, rfl, rfl⟩) rfl ?_
    | refine aw_sregK 1 [1] ?_
    | refine aw_regK 1 [1] ?_
    | refine aw_sreg ?_
    | refine aw_sregD mixed ?_
    | refine aw_ifT (b := true) rfl rfl ?_
    | refine aw_ifF (b := false) rfl rfl ?_
    | refine aw_ifT rfl (by assumption) ?_
    | refine aw_ifF rfl (by assumption) ?_
    | refine aw_ifT rfl (decide_eq_true (by assumption)) ?_
    | refine aw_ifF rfl (decide_eq_false (by assumption)) ?_
    | refine aw_seq ?_
    | refine aw_block ?_
    | refine aw_skip ?_
    | refine aw_region ?_
    | refine aw_region_draw mixed ?_
    | refine aw_exit ?_
    | refine rq_exit ?_
    | refine blockQ_hit ?_
    | refine blockQ_miss (by decide) ?_
    | (refine ar_guard rfl rfl rfl rfl (fun h => ?_) (fun h => ?_) <;> (fail_if_success (cases h; done)) <;> (try simp at h) <;> (try subst h))
    | (refine aw_both rfl (fun h => ?_) (fun h => ?_) <;> (fail_if_success (cases h; done)) <;> (try simp at h) <;> (try subst h)))
  refine aw_loopN [1, 3] [.loc 1] (by simp; exact rfl) (ι := {i : Nat // i ≤ c.any.length ∧ i ≤ 21 ∧ ∀ j, (h : j < i) → (h2 : j < c.any.length) → c.any[j].length ≤ 20}) (fun i => ⟨26, [(1, .ptr (.loc 1) 0), (3, I .i64 i.1)], [(.loc 1, some (.box 24 [.pv (.v (.bool c.all)), .pv (.sl 1 (cosL c.any))]))]⟩) (fun i => c.any.length - i.1) ⟨0, by omega, by omega, by omega⟩ (by simp) ?_
  rintro ⟨i, hi, h21, hno⟩
  by_cases hlt : i < c.any.length
  · have hd : (i : Int) < (c.any.length : Int) := by omega
    by_cases h22 : i < 21
    · have hd2 : (i : Int) < 21 := by omega
      have hw : IntKind.wrap .i64 ((i : Int) + 1) = (i : Int) + 1 := wrap64s (by omega) (by omega)
      by_cases hb : c.any[i].length ≤ 20
      · have hno2 : ∀ j, (h : j < i + 1) → (h2 : j < c.any.length) → c.any[j].length ≤ 20 := fun j h h2 => by
          by_cases e : j = i
          · subst e; exact hb
          · exact hno j (by omega) h2
        generalize hx : c.any[i] = x at *
        have hc : ¬(20 : Int) < (x.length : Int) := by omega
        repeat' (first
          | refine ar_end rfl ?_
          | refine ar_endD rfl (by kernel_rfl) ?_
          | refine ar_fin rfl ?_
          | refine ar_finD rfl (by kernel_rfl) ?_
          | refine bq_norm ?_
          | refine lq_normN [1, 3] [.loc 1] (by simp; exact rfl) ⟨i + 1, by omega, by omega, hno2⟩ (by dsimp only; omega) (by simp [])
          | refine ar_go3 _ rfl (by simp [ints_len, ints_getE, rgL_len, rgL_getE, atsL_len, atsL_getE, cosL_len, cosL_getE, ousL_len, ousL_getE, atC, ouC, coC, hd, hd2, hlt, hx, hw, hc]; exact ⟨rfl, rfl, rfl⟩) rfl ?_
          | refine aw_sregK 2 [1, 3] ?_
          | refine aw_regK 2 [1, 3] ?_
          | refine aw_sregK 3 [1, 3] ?_
          | refine aw_regK 3 [1, 3] ?_
          | refine aw_sregK 4 [1, 3] ?_
          | refine aw_regK 4 [1, 3] ?_
          | refine aw_sreg ?_
          | refine aw_sregD mixed ?_
          | refine aw_ifT (b := true) rfl rfl ?_
          | refine aw_ifF (b := false) rfl rfl ?_
          | refine aw_ifT rfl (by assumption) ?_
          | refine aw_ifF rfl (by assumption) ?_
          | refine aw_ifT rfl (decide_eq_true (by assumption)) ?_
          | refine aw_ifF rfl (decide_eq_false (by assumption)) ?_
          | refine aw_seq ?_
          | refine aw_block ?_
          | refine aw_skip ?_
          | refine aw_region ?_
          | refine aw_region_draw mixed ?_
          | refine aw_exit ?_
          | refine rq_exit ?_
          | refine blockQ_hit ?_
          | refine blockQ_miss (by decide) ?_
          | (refine ar_guard rfl rfl rfl rfl (fun h => ?_) (fun h => ?_) <;> (fail_if_success (cases h; done)) <;> (try simp at h) <;> (try subst h))
          | (refine aw_both rfl (fun h => ?_) (fun h => ?_) <;> (fail_if_success (cases h; done)) <;> (try simp at h) <;> (try subst h)))
      · have hf : fewB c = false := by
          rw [← Bool.not_eq_true, fewB_iff]
          exact fun h => hb (h.2 _ (List.getElem_mem hlt))
        generalize hx : c.any[i] = x at *
        have hc : (20 : Int) < (x.length : Int) := by omega
        rw [hf]
        repeat' (first
          | exact aw_ret (ret_vals (by simp; exact rfl) (by simp [*]; fail_if_success (show _)))
          | exact aw_ret (ret_vals (by simp; exact rfl) (by simp [*]; omega))
          | refine ar_end rfl ?_
          | refine ar_endD rfl (by kernel_rfl) ?_
          | refine ar_fin rfl ?_
          | refine ar_finD rfl (by kernel_rfl) ?_
          | refine lq_ret ?_
          | refine bq_ret ?_
          | refine tq_ret ?_
          | refine ar_go3 _ rfl (by simp [ints_len, ints_getE, rgL_len, rgL_getE, atsL_len, atsL_getE, cosL_len, cosL_getE, ousL_len, ousL_getE, atC, ouC, coC, hd, hd2, hlt, hx, hc]; exact ⟨rfl, rfl, rfl⟩) rfl ?_
          | refine aw_sregK 2 [1, 3] ?_
          | refine aw_regK 2 [1, 3] ?_
          | refine aw_sregK 4 [1, 3] ?_
          | refine aw_regK 4 [1, 3] ?_
          | refine aw_sregK 5 [] ?_
          | refine aw_regK 5 [] ?_
          | refine aw_sreg ?_
          | refine aw_sregD mixed ?_
          | refine aw_ifT (b := true) rfl rfl ?_
          | refine aw_ifF (b := false) rfl rfl ?_
          | refine aw_ifT rfl (by assumption) ?_
          | refine aw_ifF rfl (by assumption) ?_
          | refine aw_ifT rfl (decide_eq_true (by assumption)) ?_
          | refine aw_ifF rfl (decide_eq_false (by assumption)) ?_
          | refine aw_seq ?_
          | refine aw_block ?_
          | refine aw_skip ?_
          | refine aw_region ?_
          | refine aw_region_draw mixed ?_
          | refine aw_exit ?_
          | refine rq_exit ?_
          | refine blockQ_hit ?_
          | refine blockQ_miss (by decide) ?_
          | (refine ar_guard rfl rfl rfl rfl (fun h => ?_) (fun h => ?_) <;> (fail_if_success (cases h; done)) <;> (try simp at h) <;> (try subst h))
          | (refine aw_both rfl (fun h => ?_) (fun h => ?_) <;> (fail_if_success (cases h; done)) <;> (try simp at h) <;> (try subst h)))
    · have hf : fewB c = false := by
        rw [← Bool.not_eq_true, fewB_iff]
        omega
      have hd2 : ¬(i : Int) < 21 := by omega
      have hc : ¬(c.any.length : Int) ≤ 20 := by omega
      rw [hf]
      repeat' (first
        | exact aw_ret (ret_vals (by simp; exact rfl) (by simp [*]; fail_if_success (show _)))
        | exact aw_ret (ret_vals (by simp; exact rfl) (by simp [*]; omega))
        | refine ar_end rfl ?_
        | refine ar_endD rfl (by kernel_rfl) ?_
        | refine ar_fin rfl ?_
        | refine ar_finD rfl (by kernel_rfl) ?_
        | refine lq_exit ?_
        | refine ar_go3 _ rfl (by simp [ints_len, ints_getE, rgL_len, rgL_getE, atsL_len, atsL_getE, cosL_len, cosL_getE, ousL_len, ousL_getE, atC, ouC, coC, hd, hd2, hc]; exact ⟨rfl, rfl, rfl⟩) rfl ?_
        | refine aw_sregK 2 [1, 3] ?_
        | refine aw_regK 2 [1, 3] ?_
        | refine aw_sregK 6 [1] ?_
        | refine aw_regK 6 [1] ?_
        | refine aw_sreg ?_
        | refine aw_sregD mixed ?_
        | refine aw_ifT (b := true) rfl rfl ?_
        | refine aw_ifF (b := false) rfl rfl ?_
        | refine aw_ifT rfl (by assumption) ?_
        | refine aw_ifF rfl (by assumption) ?_
        | refine aw_ifT rfl (decide_eq_true (by assumption)) ?_
        | refine aw_ifF rfl (decide_eq_false (by assumption)) ?_
        | refine aw_seq ?_
        | refine aw_block ?_
        | refine aw_skip ?_
        | refine aw_region ?_
        | refine aw_region_draw mixed ?_
        | refine aw_exit ?_
        | refine rq_exit ?_
        | refine blockQ_hit ?_
        | refine blockQ_miss (by decide) ?_
        | (refine ar_guard rfl rfl rfl rfl (fun h => ?_) (fun h => ?_) <;> (fail_if_success (cases h; done)) <;> (try simp at h) <;> (try subst h))
        | (refine aw_both rfl (fun h => ?_) (fun h => ?_) <;> (fail_if_success (cases h; done)) <;> (try simp at h) <;> (try subst h)))
  have hd : ¬(i : Int) < (c.any.length : Int) := by omega
  by_cases h20 : c.any.length ≤ 20
  · have hf : fewB c = true := fewB_iff.2 ⟨h20, fun l hl => by
      obtain ⟨j, hj, rfl⟩ := List.mem_iff_getElem.1 hl
      exact hno j (by omega) hj⟩
    have hc : (c.any.length : Int) ≤ 20 := by omega
    rw [hf]
    repeat' (first
      | exact aw_ret (ret_vals (by simp; exact rfl) (by simp [*]; fail_if_success (show _)))
      | exact aw_ret (ret_vals (by simp; exact rfl) (by simp [*]; omega))
      | refine ar_end rfl ?_
      | refine ar_endD rfl (by kernel_rfl) ?_
      | refine ar_fin rfl ?_
      | refine ar_finD rfl (by kernel_rfl) ?_
      | refine lq_exit ?_
      | refine ar_go3 _ rfl (by simp [ints_len, ints_getE, rgL_len, rgL_getE, atsL_len, atsL_getE, cosL_len, cosL_getE, ousL_len, ousL_getE, atC, ouC, coC, hd, hc]; exact ⟨rfl, rfl, rfl⟩) rfl ?_
      | refine aw_sregK 2 [1, 3] ?_
      | refine aw_regK 2 [1, 3] ?_
      | refine aw_sregK 6 [1] ?_
      | refine aw_regK 6 [1] ?_
      | refine aw_sreg ?_
      | refine aw_sregD mixed ?_
      | refine aw_ifT (b := true) rfl rfl ?_
      | refine aw_ifF (b := false) rfl rfl ?_
      | refine aw_ifT rfl (by assumption) ?_
      | refine aw_ifF rfl (by assumption) ?_
      | refine aw_ifT rfl (decide_eq_true (by assumption)) ?_
      | refine aw_ifF rfl (decide_eq_false (by assumption)) ?_
      | refine aw_seq ?_
      | refine aw_block ?_
      | refine aw_skip ?_
      | refine aw_region ?_
      | refine aw_region_draw mixed ?_
      | refine aw_exit ?_
      | refine rq_exit ?_
      | refine blockQ_hit ?_
      | refine blockQ_miss (by decide) ?_
      | (refine ar_guard rfl rfl rfl rfl (fun h => ?_) (fun h => ?_) <;> (fail_if_success (cases h; done)) <;> (try simp at h) <;> (try subst h))
      | (refine aw_both rfl (fun h => ?_) (fun h => ?_) <;> (fail_if_success (cases h; done)) <;> (try simp at h) <;> (try subst h)))
  · have hf : fewB c = false := by
      rw [← Bool.not_eq_true, fewB_iff]
      exact fun h => h20 h.1
    have hc : ¬(c.any.length : Int) ≤ 20 := by omega
    rw [hf]
    repeat' (first
      | exact aw_ret (ret_vals (by simp; exact rfl) (by simp [*]; fail_if_success (show _)))
      | exact aw_ret (ret_vals (by simp; exact rfl) (by simp [*]; omega))
      | refine ar_end rfl ?_
      | refine ar_endD rfl (by kernel_rfl) ?_
      | refine ar_fin rfl ?_
      | refine ar_finD rfl (by kernel_rfl) ?_
      | refine lq_exit ?_
      | refine ar_go3 _ rfl (by simp [ints_len, ints_getE, rgL_len, rgL_getE, atsL_len, atsL_getE, cosL_len, cosL_getE, ousL_len, ousL_getE, atC, ouC, coC, hd, hc]; exact ⟨rfl, rfl, rfl⟩) rfl ?_
      | refine aw_sregK 2 [1, 3] ?_
      | refine aw_regK 2 [1, 3] ?_
      | refine aw_sregK 6 [1] ?_
      | refine aw_regK 6 [1] ?_
      | refine aw_sreg ?_
      | refine aw_sregD mixed ?_
      | refine aw_ifT (b := true) rfl rfl ?_
      | refine aw_ifF (b := false) rfl rfl ?_
      | refine aw_ifT rfl (by assumption) ?_
      | refine aw_ifF rfl (by assumption) ?_
      | refine aw_ifT rfl (decide_eq_true (by assumption)) ?_
      | refine aw_ifF rfl (decide_eq_false (by assumption)) ?_
      | refine aw_seq ?_
      | refine aw_block ?_
      | refine aw_skip ?_
      | refine aw_region ?_
      | refine aw_region_draw mixed ?_
      | refine aw_exit ?_
      | refine rq_exit ?_
      | refine blockQ_hit ?_
      | refine blockQ_miss (by decide) ?_
      | (refine ar_guard rfl rfl rfl rfl (fun h => ?_) (fun h => ?_) <;> (fail_if_success (cases h; done)) <;> (try simp at h) <;> (try subst h))
      | (refine aw_both rfl (fun h => ?_) (fun h => ?_) <;> (fail_if_success (cases h; done)) <;> (try simp at h) <;> (try subst h)))
set_option maxHeartbeats 16000000 in
theorem c_made [Trk] {c : Co} (hf : fewB c = true) : SC Tryd.prog 11 [.agg (coC c)] (.agg (coC c)) := by
  have hM : maxLen = 9223372036854775807 := rfl
  obtain ⟨hf1, hf2⟩ := fewB_iff.1 hf
  refine scx_of Tryd.func11 rfl rfl rfl (Nat.le_of_ble_eq_true rfl) ?_
  repeat' (first
    | refine ar_end rfl ?_
    | refine ar_endD rfl (by kernel_rfl) ?_
    | refine ar_fin rfl ?_
    | refine ar_finD rfl (by kernel_rfl) ?_
    | refine ar_go3 _ rfl (by simp [ints_len, ints_getE, rgL_len, rgL_getE, atsL_len, atsL_getE, cosL_len, cosL_getE, ousL_len, ousL_getE, atC, ouC, coC]; exact ⟨rfl, rfl, rfl⟩) rfl ?_
    | refine aw_sregK 0 [0] ?_
    | refine aw_regK 0 [0] ?_
    | refine aw_sregK 1 [1, 2] ?_
    | refine aw_regK 1 [1, 2] ?_
    | refine aw_sregK 2 [1, 2, 3] ?_
    | refine aw_regK 2 [1, 2, 3] ?_
    | refine aw_sreg ?_
    | refine aw_sregD mixed ?_
    | refine aw_ifT (b := true) rfl rfl ?_
    | refine aw_ifF (b := false) rfl rfl ?_
    | refine aw_ifT rfl (by assumption) ?_
    | refine aw_ifF rfl (by assumption) ?_
    | refine aw_ifT rfl (decide_eq_true (by assumption)) ?_
    | refine aw_ifF rfl (decide_eq_false (by assumption)) ?_
    | refine aw_seq ?_
    | refine aw_block ?_
    | refine aw_skip ?_
    | refine aw_region ?_
    | refine aw_region_draw mixed ?_
    | refine aw_exit ?_
    | refine rq_exit ?_
    | refine blockQ_hit ?_
    | refine blockQ_miss (by decide) ?_
    | (refine ar_guard rfl rfl rfl rfl (fun h => ?_) (fun h => ?_) <;> (fail_if_success (cases h; done)) <;> (try simp at h) <;> (try subst h))
    | (refine aw_both rfl (fun h => ?_) (fun h => ?_) <;> (fail_if_success (cases h; done)) <;> (try simp at h) <;> (try subst h)))
  refine aw_nilC (.loc 3) 1 (.loc 1001) 38 1 (by simp; exact rfl) ?_
  refine aw_loopN [1, 2, 3, 4] [.loc 1, .loc 2, .loc 3, .loc 1001] (by simp; exact rfl) (ι := {i : Nat // i ≤ c.any.length}) (fun i => ⟨55, [(1, .ptr (.loc 1) 0), (2, .ptr (.loc 2) 0), (3, .ptr (.loc 3) 0), (4, I .i64 i.1)], [(.loc 1, some (.box 24 [.pv (.v (.bool c.all)), .pv (.sl 1 (cosL c.any))])), (.loc 2, some (.box 36 [.pv (.v (.bool false)), .pv (.v (.slice none 0 0))])), (.loc 3, some (.box 36 [.pv (.v (.bool c.all)), .own (.loc 1001)])), (.loc 1001, some (.own 38 1 (cosL (c.any.take i.1))))]⟩) (fun i => c.any.length - i.1) ⟨0, by omega⟩ (by simp [cosL]) ?_
  rintro ⟨i, hi⟩
  by_cases hlt : i < c.any.length
  · have hd : (i : Int) < (c.any.length : Int) := by omega
    have hw : IntKind.wrap .i64 ((i : Int) + 1) = (i : Int) + 1 := wrap64s (by omega) (by omega)
    have hxl := hf2 _ (List.getElem_mem hlt)
    have hnx : cosL (c.any.take (i + 1)) = cosL (c.any.take i) ++ [[.sl 4 (atsL c.any[i])]] := by unfold cosL; rw [List.take_add_one, List.getElem?_eq_getElem hlt, List.map_append]; rfl
    have hcl : (cosL (c.any.take i)).length ≤ 20 := by rw [cosL_len, List.length_take]; omega
    generalize cosL (c.any.take i) = X at *
    generalize hx : c.any[i] = l at *
    repeat' (first
      | refine ar_end rfl ?_
      | refine ar_endD rfl (by kernel_rfl) ?_
      | refine ar_fin rfl ?_
      | refine ar_finD rfl (by kernel_rfl) ?_
      | refine ar_go3 _ rfl (by simp [ints_len, ints_getE, rgL_len, rgL_getE, atsL_len, atsL_getE, cosL_len, cosL_getE, ousL_len, ousL_getE, atC, ouC, coC, hd, hlt, hx]; exact ⟨rfl, rfl, rfl⟩) rfl ?_
      | refine aw_sregK 3 [1, 2, 3, 4] ?_
      | refine aw_regK 3 [1, 2, 3, 4] ?_
      | refine aw_sregK 5 [1, 2, 3, 4] ?_
      | refine aw_regK 5 [1, 2, 3, 4] ?_
      | refine aw_sregK 6 [1, 2, 3, 4, 5] ?_
      | refine aw_regK 6 [1, 2, 3, 4, 5] ?_
      | refine aw_sreg ?_
      | refine aw_sregD mixed ?_
      | refine aw_ifT (b := true) rfl rfl ?_
      | refine aw_ifF (b := false) rfl rfl ?_
      | refine aw_ifT rfl (by assumption) ?_
      | refine aw_ifF rfl (by assumption) ?_
      | refine aw_ifT rfl (decide_eq_true (by assumption)) ?_
      | refine aw_ifF rfl (decide_eq_false (by assumption)) ?_
      | refine aw_seq ?_
      | refine aw_block ?_
      | refine aw_skip ?_
      | refine aw_region ?_
      | refine aw_region_draw mixed ?_
      | refine aw_exit ?_
      | refine rq_exit ?_
      | refine blockQ_hit ?_
      | refine blockQ_miss (by decide) ?_
      | (refine ar_guard rfl rfl rfl rfl (fun h => ?_) (fun h => ?_) <;> (fail_if_success (cases h; done)) <;> (try simp at h) <;> (try subst h))
      | (refine aw_both rfl (fun h => ?_) (fun h => ?_) <;> (fail_if_success (cases h; done)) <;> (try simp at h) <;> (try subst h)))
    refine aw_nil 5 (.loc 1005) 33 4 (by simp; exact rfl) ?_
    refine aw_loopN [1, 2, 3, 4, 5, 6] [.loc 1, .loc 2, .loc 3, .loc 1001, .loc 1005] (by simp; exact rfl) (ι := {k : Nat // k ≤ l.length}) (fun k => ⟨55, [(1, .ptr (.loc 1) 0), (2, .ptr (.loc 2) 0), (3, .ptr (.loc 3) 0), (4, I .i64 i), (5, .own (.loc 1005)), (6, I .i64 k.1)], [(.loc 1, some (.box 24 [.pv (.v (.bool c.all)), .pv (.sl 1 (cosL c.any))])), (.loc 2, some (.box 36 [.pv (.v (.bool false)), .pv (.v (.slice none 0 0))])), (.loc 3, some (.box 36 [.pv (.v (.bool c.all)), .own (.loc 1001)])), (.loc 1001, some (.own 38 1 X)), (.loc 1005, some (.own 33 4 (atsL (l.take k.1))))]⟩) (fun k => l.length - k.1) ⟨0, by omega⟩ (by simp [atsL]) ?_
    rintro ⟨k, hk⟩
    by_cases hkl : k < l.length
    · have hd2 : (k : Int) < (l.length : Int) := by omega
      have hw2 : IntKind.wrap .i64 ((k : Int) + 1) = (k : Int) + 1 := wrap64s (by omega) (by omega)
      have hnt : atsL (l.take (k + 1)) = atsL (l.take k) ++ [atC l[k]] := by unfold atsL; rw [List.take_add_one, List.getElem?_eq_getElem hkl, List.map_append]; rfl
      have hal : (atsL (l.take k)).length ≤ 20 := by rw [atsL_len, List.length_take]; omega
      generalize atsL (l.take k) = A at *
      generalize hy : l[k] = a at *
      repeat' (first
        | refine ar_end rfl ?_
        | refine ar_endD rfl (by kernel_rfl) ?_
        | refine ar_fin rfl ?_
        | refine ar_finD rfl (by kernel_rfl) ?_
        | refine ar_appO rfl rfl rfl rfl rfl (by simp; exact rfl) rfl (by simp; exact rfl) (by simp; exact rfl) (by simp; exact ⟨rfl, rfl⟩) rfl (by simp; exact rfl) (by simp; done) (by decide) (by simp [hal, maxLen]; try omega) ?_
        | refine bq_norm ?_
        | refine lq_normR (.loc 47) (.loc 1005) [1, 2, 3, 4, 5, 6] [.loc 1, .loc 2, .loc 3, .loc 1001, .loc 1005] (by simp; exact rfl) ⟨k + 1, by omega⟩ (by dsimp only; omega) (by simp [hnt, atC])
        | refine ar_go3 _ rfl (by simp [ints_len, ints_getE, rgL_len, rgL_getE, atsL_len, atsL_getE, cosL_len, cosL_getE, ousL_len, ousL_getE, atC, ouC, coC, hd, hlt, hx, hd2, hkl, hy, hw2]; exact ⟨rfl, rfl, rfl⟩) rfl ?_
        | refine aw_sregK 7 [1, 2, 3, 4, 5, 6] ?_
        | refine aw_regK 7 [1, 2, 3, 4, 5, 6] ?_
        | refine aw_sregK 8 [1, 2, 3, 4, 5, 6] ?_
        | refine aw_regK 8 [1, 2, 3, 4, 5, 6] ?_
        | refine aw_sregK 9 [1, 2, 3, 4, 5, 6] ?_
        | refine aw_regK 9 [1, 2, 3, 4, 5, 6] ?_
        | refine aw_sregK 10 [1, 2, 3, 4, 5, 6, 7] ?_
        | refine aw_regK 10 [1, 2, 3, 4, 5, 6, 7] ?_
        | refine aw_sreg ?_
        | refine aw_sregD mixed ?_
        | refine aw_ifT (b := true) rfl rfl ?_
        | refine aw_ifF (b := false) rfl rfl ?_
        | refine aw_ifT rfl (by assumption) ?_
        | refine aw_ifF rfl (by assumption) ?_
        | refine aw_ifT rfl (decide_eq_true (by assumption)) ?_
        | refine aw_ifF rfl (decide_eq_false (by assumption)) ?_
        | refine aw_seq ?_
        | refine aw_block ?_
        | refine aw_skip ?_
        | refine aw_region ?_
        | refine aw_region_draw mixed ?_
        | refine aw_exit ?_
        | refine rq_exit ?_
        | refine blockQ_hit ?_
        | refine blockQ_miss (by decide) ?_
        | (refine ar_guard rfl rfl rfl rfl (fun h => ?_) (fun h => ?_) <;> (fail_if_success (cases h; done)) <;> (try simp at h) <;> (try subst h))
        | (refine aw_both rfl (fun h => ?_) (fun h => ?_) <;> (fail_if_success (cases h; done)) <;> (try simp at h) <;> (try subst h)))
    have hd2 : ¬(k : Int) < (l.length : Int) := by omega
    have hke : l.take k = l := List.take_of_length_le (by omega)
    rw [hke]
    refine aw_frz (.loc 1005) (by simp; exact rfl) ?_
    repeat' (first
      | refine ar_end rfl ?_
      | refine ar_endD rfl (by kernel_rfl) ?_
      | refine ar_fin rfl ?_
      | refine ar_finD rfl (by kernel_rfl) ?_
      | refine lq_exit ?_
      | refine ar_appO rfl rfl rfl rfl rfl (by simp; exact rfl) rfl (by simp; exact rfl) (by simp; exact rfl) (by simp; exact ⟨rfl, rfl⟩) rfl (by simp; exact rfl) (by simp; done) (by decide) (by simp [hcl, maxLen]; try omega) ?_
      | refine bq_norm ?_
      | refine lq_normR (.loc 52) (.loc 1001) [1, 2, 3, 4] [.loc 1, .loc 2, .loc 3, .loc 1001] (by simp; exact rfl) ⟨i + 1, by omega⟩ (by dsimp only; omega) (by simp [hnx])
      | refine ar_go3 _ rfl (by simp [ints_len, ints_getE, rgL_len, rgL_getE, atsL_len, atsL_getE, cosL_len, cosL_getE, ousL_len, ousL_getE, atC, ouC, coC, hd, hlt, hx, hd2, hw]; exact ⟨rfl, rfl, rfl⟩) rfl ?_
      | refine aw_sregK 4 [1, 2, 3, 4] ?_
      | refine aw_regK 4 [1, 2, 3, 4] ?_
      | refine aw_sregK 7 [1, 2, 3, 4, 5, 6] ?_
      | refine aw_regK 7 [1, 2, 3, 4, 5, 6] ?_
      | refine aw_sregK 11 [1, 2, 3, 4, 5] ?_
      | refine aw_regK 11 [1, 2, 3, 4, 5] ?_
      | refine aw_sreg ?_
      | refine aw_sregD mixed ?_
      | refine aw_ifT (b := true) rfl rfl ?_
      | refine aw_ifF (b := false) rfl rfl ?_
      | refine aw_ifT rfl (by assumption) ?_
      | refine aw_ifF rfl (by assumption) ?_
      | refine aw_ifT rfl (decide_eq_true (by assumption)) ?_
      | refine aw_ifF rfl (decide_eq_false (by assumption)) ?_
      | refine aw_seq ?_
      | refine aw_block ?_
      | refine aw_skip ?_
      | refine aw_region ?_
      | refine aw_region_draw mixed ?_
      | refine aw_exit ?_
      | refine rq_exit ?_
      | refine blockQ_hit ?_
      | refine blockQ_miss (by decide) ?_
      | (refine ar_guard rfl rfl rfl rfl (fun h => ?_) (fun h => ?_) <;> (fail_if_success (cases h; done)) <;> (try simp at h) <;> (try subst h))
      | (refine aw_both rfl (fun h => ?_) (fun h => ?_) <;> (fail_if_success (cases h; done)) <;> (try simp at h) <;> (try subst h)))
  have hd : ¬(i : Int) < (c.any.length : Int) := by omega
  have hie : c.any.take i = c.any := List.take_of_length_le (by omega)
  rw [hie]
  refine aw_frz (.loc 1001) (by simp; exact rfl) ?_
  repeat' (first
    | exact aw_ret (ret_vals (by simp; exact rfl) (by simp [ints_len, ints_getE, rgL_len, rgL_getE, atsL_len, atsL_getE, cosL_len, cosL_getE, ousL_len, ousL_getE, atC, ouC, coC]; fail_if_success (show _)))
    | exact aw_ret (ret_vals (by simp; exact rfl) (by simp [ints_len, ints_getE, rgL_len, rgL_getE, atsL_len, atsL_getE, cosL_len, cosL_getE, ousL_len, ousL_getE, atC, ouC, coC]; omega))
    | refine ar_end rfl ?_
    | refine ar_endD rfl (by kernel_rfl) ?_
    | refine ar_fin rfl ?_
    | refine ar_finD rfl (by kernel_rfl) ?_
    | refine lq_exit ?_
    | refine ar_go3 _ rfl (by simp [ints_len, ints_getE, rgL_len, rgL_getE, atsL_len, atsL_getE, cosL_len, cosL_getE, ousL_len, ousL_getE, atC, ouC, coC, hd]; exact ⟨rfl, rfl, rfl⟩) rfl ?_
    | refine aw_sregK 3 [1, 2, 3, 4] ?_
    | refine aw_regK 3 [1, 2, 3, 4] ?_
    | refine aw_sregK 12 [2, 3] ?_
    | refine aw_regK 12 [2, 3] ?_
    | refine aw_sreg ?_
    | refine aw_sregD mixed ?_
    | refine aw_ifT (b := true) rfl rfl ?_
    | refine aw_ifF (b := false) rfl rfl ?_
    | refine aw_ifT rfl (by assumption) ?_
    | refine aw_ifF rfl (by assumption) ?_
    | refine aw_ifT rfl (decide_eq_true (by assumption)) ?_
    | refine aw_ifF rfl (decide_eq_false (by assumption)) ?_
    | refine aw_seq ?_
    | refine aw_block ?_
    | refine aw_skip ?_
    | refine aw_region ?_
    | refine aw_region_draw mixed ?_
    | refine aw_exit ?_
    | refine rq_exit ?_
    | refine blockQ_hit ?_
    | refine blockQ_miss (by decide) ?_
    | (refine ar_guard rfl rfl rfl rfl (fun h => ?_) (fun h => ?_) <;> (fail_if_success (cases h; done)) <;> (try simp at h) <;> (try subst h))
    | (refine aw_both rfl (fun h => ?_) (fun h => ?_) <;> (fail_if_success (cases h; done)) <;> (try simp at h) <;> (try subst h)))
set_option maxHeartbeats 16000000 in
theorem c_madeO [Trk] {c : Co} (hf : fewB c = true) : SCX Tryd.prog 11 [.agg (coC c)] [] (.aggA [B c.all, .own (.ext 0)]) [(.ext 0, some (.own 38 1 (cosL c.any)))] := by
  have hM : maxLen = 9223372036854775807 := rfl
  obtain ⟨hf1, hf2⟩ := fewB_iff.1 hf
  refine scx_of Tryd.func11 rfl rfl rfl (Nat.le_of_ble_eq_true rfl) ?_
  repeat' (first
    | refine ar_end rfl ?_
    | refine ar_endD rfl (by kernel_rfl) ?_
    | refine ar_fin rfl ?_
    | refine ar_finD rfl (by kernel_rfl) ?_
    | refine ar_go3 _ rfl (by simp [ints_len, ints_getE, rgL_len, rgL_getE, atsL_len, atsL_getE, cosL_len, cosL_getE, ousL_len, ousL_getE, atC, ouC, coC]; exact ⟨rfl, rfl, rfl⟩) rfl ?_
    | refine aw_sregK 0 [0] ?_
    | refine aw_regK 0 [0] ?_
    | refine aw_sregK 1 [1, 2] ?_
    | refine aw_regK 1 [1, 2] ?_
    | refine aw_sregK 2 [1, 2, 3] ?_
    | refine aw_regK 2 [1, 2, 3] ?_
    | refine aw_sreg ?_
    | refine aw_sregD mixed ?_
    | refine aw_ifT (b := true) rfl rfl ?_
    | refine aw_ifF (b := false) rfl rfl ?_
    | refine aw_ifT rfl (by assumption) ?_
    | refine aw_ifF rfl (by assumption) ?_
    | refine aw_ifT rfl (decide_eq_true (by assumption)) ?_
    | refine aw_ifF rfl (decide_eq_false (by assumption)) ?_
    | refine aw_seq ?_
    | refine aw_block ?_
    | refine aw_skip ?_
    | refine aw_region ?_
    | refine aw_region_draw mixed ?_
    | refine aw_exit ?_
    | refine rq_exit ?_
    | refine blockQ_hit ?_
    | refine blockQ_miss (by decide) ?_
    | (refine ar_guard rfl rfl rfl rfl (fun h => ?_) (fun h => ?_) <;> (fail_if_success (cases h; done)) <;> (try simp at h) <;> (try subst h))
    | (refine aw_both rfl (fun h => ?_) (fun h => ?_) <;> (fail_if_success (cases h; done)) <;> (try simp at h) <;> (try subst h)))
  refine aw_nilC (.loc 3) 1 (.loc 1001) 38 1 (by simp; exact rfl) ?_
  refine aw_loopN [1, 2, 3, 4] [.loc 1, .loc 2, .loc 3, .loc 1001] (by simp; exact rfl) (ι := {i : Nat // i ≤ c.any.length}) (fun i => ⟨55, [(1, .ptr (.loc 1) 0), (2, .ptr (.loc 2) 0), (3, .ptr (.loc 3) 0), (4, I .i64 i.1)], [(.loc 1, some (.box 24 [.pv (.v (.bool c.all)), .pv (.sl 1 (cosL c.any))])), (.loc 2, some (.box 36 [.pv (.v (.bool false)), .pv (.v (.slice none 0 0))])), (.loc 3, some (.box 36 [.pv (.v (.bool c.all)), .own (.loc 1001)])), (.loc 1001, some (.own 38 1 (cosL (c.any.take i.1))))]⟩) (fun i => c.any.length - i.1) ⟨0, by omega⟩ (by simp [cosL]) ?_
  rintro ⟨i, hi⟩
  by_cases hlt : i < c.any.length
  · have hd : (i : Int) < (c.any.length : Int) := by omega
    have hw : IntKind.wrap .i64 ((i : Int) + 1) = (i : Int) + 1 := wrap64s (by omega) (by omega)
    have hxl := hf2 _ (List.getElem_mem hlt)
    have hnx : cosL (c.any.take (i + 1)) = cosL (c.any.take i) ++ [[.sl 4 (atsL c.any[i])]] := by unfold cosL; rw [List.take_add_one, List.getElem?_eq_getElem hlt, List.map_append]; rfl
    have hcl : (cosL (c.any.take i)).length ≤ 20 := by rw [cosL_len, List.length_take]; omega
    generalize cosL (c.any.take i) = X at *
    generalize hx : c.any[i] = l at *
    repeat' (first
      | refine ar_end rfl ?_
      | refine ar_endD rfl (by kernel_rfl) ?_
      | refine ar_fin rfl ?_
      | refine ar_finD rfl (by kernel_rfl) ?_
      | refine ar_go3 _ rfl (by simp [ints_len, ints_getE, rgL_len, rgL_getE, atsL_len, atsL_getE, cosL_len, cosL_getE, ousL_len, ousL_getE, atC, ouC, coC, hd, hlt, hx]; exact ⟨rfl, rfl, rfl⟩) rfl ?_
      | refine aw_sregK 3 [1, 2, 3, 4] ?_
      | refine aw_regK 3 [1, 2, 3, 4] ?_
      | refine aw_sregK 5 [1, 2, 3, 4] ?_
      | refine aw_regK 5 [1, 2, 3, 4] ?_
      | refine aw_sregK 6 [1, 2, 3, 4, 5] ?_
      | refine aw_regK 6 [1, 2, 3, 4, 5] ?_
      | refine aw_sreg ?_
      | refine aw_sregD mixed ?_
      | refine aw_ifT (b := true) rfl rfl ?_
      | refine aw_ifF (b := false) rfl rfl ?_
      | refine aw_ifT rfl (by assumption) ?_
      | refine aw_ifF rfl (by assumption) ?_
      | refine aw_ifT rfl (decide_eq_true (by assumption)) ?_
      | refine aw_ifF rfl (decide_eq_false (by assumption)) ?_
      | refine aw_seq ?_
      | refine aw_block ?_
      | refine aw_skip ?_
      | refine aw_region ?_
      | refine aw_region_draw mixed ?_
      | refine aw_exit ?_
      | refine rq_exit ?_
      | refine blockQ_hit ?_
      | refine blockQ_miss (by decide) ?_
      | (refine ar_guard rfl rfl rfl rfl (fun h => ?_) (fun h => ?_) <;> (fail_if_success (cases h; done)) <;> (try simp at h) <;> (try subst h))
      | (refine aw_both rfl (fun h => ?_) (fun h => ?_) <;> (fail_if_success (cases h; done)) <;> (try simp at h) <;> (try subst h)))
    refine aw_nil 5 (.loc 1005) 33 4 (by simp; exact rfl) ?_
    refine aw_loopN [1, 2, 3, 4, 5, 6] [.loc 1, .loc 2, .loc 3, .loc 1001, .loc 1005] (by simp; exact rfl) (ι := {k : Nat // k ≤ l.length}) (fun k => ⟨55, [(1, .ptr (.loc 1) 0), (2, .ptr (.loc 2) 0), (3, .ptr (.loc 3) 0), (4, I .i64 i), (5, .own (.loc 1005)), (6, I .i64 k.1)], [(.loc 1, some (.box 24 [.pv (.v (.bool c.all)), .pv (.sl 1 (cosL c.any))])), (.loc 2, some (.box 36 [.pv (.v (.bool false)), .pv (.v (.slice none 0 0))])), (.loc 3, some (.box 36 [.pv (.v (.bool c.all)), .own (.loc 1001)])), (.loc 1001, some (.own 38 1 X)), (.loc 1005, some (.own 33 4 (atsL (l.take k.1))))]⟩) (fun k => l.length - k.1) ⟨0, by omega⟩ (by simp [atsL]) ?_
    rintro ⟨k, hk⟩
    by_cases hkl : k < l.length
    · have hd2 : (k : Int) < (l.length : Int) := by omega
      have hw2 : IntKind.wrap .i64 ((k : Int) + 1) = (k : Int) + 1 := wrap64s (by omega) (by omega)
      have hnt : atsL (l.take (k + 1)) = atsL (l.take k) ++ [atC l[k]] := by unfold atsL; rw [List.take_add_one, List.getElem?_eq_getElem hkl, List.map_append]; rfl
      have hal : (atsL (l.take k)).length ≤ 20 := by rw [atsL_len, List.length_take]; omega
      generalize atsL (l.take k) = A at *
      generalize hy : l[k] = a at *
      repeat' (first
        | refine ar_end rfl ?_
        | refine ar_endD rfl (by kernel_rfl) ?_
        | refine ar_fin rfl ?_
        | refine ar_finD rfl (by kernel_rfl) ?_
        | refine ar_appO rfl rfl rfl rfl rfl (by simp; exact rfl) rfl (by simp; exact rfl) (by simp; exact rfl) (by simp; exact ⟨rfl, rfl⟩) rfl (by simp; exact rfl) (by simp; done) (by decide) (by simp [hal, maxLen]; try omega) ?_
        | refine bq_norm ?_
        | refine lq_normR (.loc 47) (.loc 1005) [1, 2, 3, 4, 5, 6] [.loc 1, .loc 2, .loc 3, .loc 1001, .loc 1005] (by simp; exact rfl) ⟨k + 1, by omega⟩ (by dsimp only; omega) (by simp [hnt, atC])
        | refine ar_go3 _ rfl (by simp [ints_len, ints_getE, rgL_len, rgL_getE, atsL_len, atsL_getE, cosL_len, cosL_getE, ousL_len, ousL_getE, atC, ouC, coC, hd, hlt, hx, hd2, hkl, hy, hw2]; exact ⟨rfl, rfl, rfl⟩) rfl ?_
        | refine aw_sregK 7 [1, 2, 3, 4, 5, 6] ?_
        | refine aw_regK 7 [1, 2, 3, 4, 5, 6] ?_
        | refine aw_sregK 8 [1, 2, 3, 4, 5, 6] ?_
        | refine aw_regK 8 [1, 2, 3, 4, 5, 6] ?_
        | refine aw_sregK 9 [1, 2, 3, 4, 5, 6] ?_
        | refine aw_regK 9 [1, 2, 3, 4, 5, 6] ?_
        | refine aw_sregK 10 [1, 2, 3, 4, 5, 6, 7] ?_
        | refine aw_regK 10 [1, 2, 3, 4, 5, 6, 7] ?_
        | refine aw_sreg ?_
        | refine aw_sregD mixed ?_
        | refine aw_ifT (b := true) rfl rfl ?_
        | refine aw_ifF (b := false) rfl rfl ?_
        | refine aw_ifT rfl (by assumption) ?_
        | refine aw_ifF rfl (by assumption) ?_
        | refine aw_ifT rfl (decide_eq_true (by assumption)) ?_
        | refine aw_ifF rfl (decide_eq_false (by assumption)) ?_
        | refine aw_seq ?_
        | refine aw_block ?_
        | refine aw_skip ?_
        | refine aw_region ?_
        | refine aw_region_draw mixed ?_
        | refine aw_exit ?_
        | refine rq_exit ?_
        | refine blockQ_hit ?_
        | refine blockQ_miss (by decide) ?_
        | (refine ar_guard rfl rfl rfl rfl (fun h => ?_) (fun h => ?_) <;> (fail_if_success (cases h; done)) <;> (try simp at h) <;> (try subst h))
        | (refine aw_both rfl (fun h => ?_) (fun h => ?_) <;> (fail_if_success (cases h; done)) <;> (try simp at h) <;> (try subst h)))
    have hd2 : ¬(k : Int) < (l.length : Int) := by omega
    have hke : l.take k = l := List.take_of_length_le (by omega)
    rw [hke]
    refine aw_frz (.loc 1005) (by simp; exact rfl) ?_
    repeat' (first
      | refine ar_end rfl ?_
      | refine ar_endD rfl (by kernel_rfl) ?_
      | refine ar_fin rfl ?_
      | refine ar_finD rfl (by kernel_rfl) ?_
      | refine lq_exit ?_
      | refine ar_appO rfl rfl rfl rfl rfl (by simp; exact rfl) rfl (by simp; exact rfl) (by simp; exact rfl) (by simp; exact ⟨rfl, rfl⟩) rfl (by simp; exact rfl) (by simp; done) (by decide) (by simp [hcl, maxLen]; try omega) ?_
      | refine bq_norm ?_
      | refine lq_normR (.loc 52) (.loc 1001) [1, 2, 3, 4] [.loc 1, .loc 2, .loc 3, .loc 1001] (by simp; exact rfl) ⟨i + 1, by omega⟩ (by dsimp only; omega) (by simp [hnx])
      | refine ar_go3 _ rfl (by simp [ints_len, ints_getE, rgL_len, rgL_getE, atsL_len, atsL_getE, cosL_len, cosL_getE, ousL_len, ousL_getE, atC, ouC, coC, hd, hlt, hx, hd2, hw]; exact ⟨rfl, rfl, rfl⟩) rfl ?_
      | refine aw_sregK 4 [1, 2, 3, 4] ?_
      | refine aw_regK 4 [1, 2, 3, 4] ?_
      | refine aw_sregK 7 [1, 2, 3, 4, 5, 6] ?_
      | refine aw_regK 7 [1, 2, 3, 4, 5, 6] ?_
      | refine aw_sregK 11 [1, 2, 3, 4, 5] ?_
      | refine aw_regK 11 [1, 2, 3, 4, 5] ?_
      | refine aw_sreg ?_
      | refine aw_sregD mixed ?_
      | refine aw_ifT (b := true) rfl rfl ?_
      | refine aw_ifF (b := false) rfl rfl ?_
      | refine aw_ifT rfl (by assumption) ?_
      | refine aw_ifF rfl (by assumption) ?_
      | refine aw_ifT rfl (decide_eq_true (by assumption)) ?_
      | refine aw_ifF rfl (decide_eq_false (by assumption)) ?_
      | refine aw_seq ?_
      | refine aw_block ?_
      | refine aw_skip ?_
      | refine aw_region ?_
      | refine aw_region_draw mixed ?_
      | refine aw_exit ?_
      | refine rq_exit ?_
      | refine blockQ_hit ?_
      | refine blockQ_miss (by decide) ?_
      | (refine ar_guard rfl rfl rfl rfl (fun h => ?_) (fun h => ?_) <;> (fail_if_success (cases h; done)) <;> (try simp at h) <;> (try subst h))
      | (refine aw_both rfl (fun h => ?_) (fun h => ?_) <;> (fail_if_success (cases h; done)) <;> (try simp at h) <;> (try subst h)))
  have hd : ¬(i : Int) < (c.any.length : Int) := by omega
  have hie : c.any.take i = c.any := List.take_of_length_le (by omega)
  rw [hie]
  repeat' (first
    | refine ar_end rfl ?_
    | refine ar_endD rfl (by kernel_rfl) ?_
    | refine ar_fin rfl ?_
    | refine ar_finD rfl (by kernel_rfl) ?_
    | refine lq_exit ?_
    | exact aw_ret (ret_rensY [(.loc 1001, .ext 0)] [2] [.ext 0, .loc 2] (by simp; exact rfl) (by simp; exact rfl) rfl (by simp))
    | refine ar_go3 _ rfl (by simp [ints_len, ints_getE, rgL_len, rgL_getE, atsL_len, atsL_getE, cosL_len, cosL_getE, ousL_len, ousL_getE, atC, ouC, coC, hd]; exact ⟨rfl, rfl, rfl⟩) rfl ?_
    | refine aw_sregK 3 [1, 2, 3, 4] ?_
    | refine aw_regK 3 [1, 2, 3, 4] ?_
    | refine aw_sregK 12 [2, 3] ?_
    | refine aw_regK 12 [2, 3] ?_
    | refine aw_sreg ?_
    | refine aw_sregD mixed ?_
    | refine aw_ifT (b := true) rfl rfl ?_
    | refine aw_ifF (b := false) rfl rfl ?_
    | refine aw_ifT rfl (by assumption) ?_
    | refine aw_ifF rfl (by assumption) ?_
    | refine aw_ifT rfl (decide_eq_true (by assumption)) ?_
    | refine aw_ifF rfl (decide_eq_false (by assumption)) ?_
    | refine aw_seq ?_
    | refine aw_block ?_
    | refine aw_skip ?_
    | refine aw_region ?_
    | refine aw_region_draw mixed ?_
    | refine aw_exit ?_
    | refine rq_exit ?_
    | refine blockQ_hit ?_
    | refine blockQ_miss (by decide) ?_
    | (refine ar_guard rfl rfl rfl rfl (fun h => ?_) (fun h => ?_) <;> (fail_if_success (cases h; done)) <;> (try simp at h) <;> (try subst h))
    | (refine aw_both rfl (fun h => ?_) (fun h => ?_) <;> (fail_if_success (cases h; done)) <;> (try simp at h) <;> (try subst h)))
set_option maxHeartbeats 16000000 in
theorem c_rEval [Trk] {c : Co} {o : Ou} (hc : CoOk c) : SC Tryd.prog 14 [.agg (coC c), .agg (ouC o)] (B (evalF c o)) := by
  have hM : maxLen = 9223372036854775807 := rfl
  have hcl := hc.len
  have hce := hc.each
  refine scx_of Tryd.func14 rfl rfl rfl (Nat.le_of_ble_eq_true rfl) ?_
  repeat' (first
    | refine ar_end rfl ?_
    | refine ar_endD rfl (by kernel_rfl) ?_
    | refine ar_fin rfl ?_
    | refine ar_finD rfl (by kernel_rfl) ?_
    | refine ar_go3 _ rfl (by simp [ints_len, ints_getE, rgL_len, rgL_getE, atsL_len, atsL_getE, cosL_len, cosL_getE, ousL_len, ousL_getE, atC, ouC, coC]; exact ⟨rfl, rfl, rfl⟩) rfl ?_
    | refine aw_sregK 0 [0, 1] ?_
    | refine aw_regK 0 [0, 1] ?_
    | refine aw_sregK 1 [2, 3] ?_
    | refine aw_regK 1 [2, 3] ?_
    | refine aw_sreg ?_
    | refine aw_sregD mixed ?_
    | refine aw_ifT (b := true) rfl rfl ?_
    | refine aw_ifF (b := false) rfl rfl ?_
    | refine aw_ifT rfl (by assumption) ?_
    | refine aw_ifF rfl (by assumption) ?_
    | refine aw_ifT rfl (decide_eq_true (by assumption)) ?_
    | refine aw_ifF rfl (decide_eq_false (by assumption)) ?_
    | refine aw_seq ?_
    | refine aw_block ?_
    | refine aw_skip ?_
    | refine aw_region ?_
    | refine aw_region_draw mixed ?_
    | refine aw_exit ?_
    | refine rq_exit ?_
    | refine blockQ_hit ?_
    | refine blockQ_miss (by decide) ?_
    | (refine ar_guard rfl rfl rfl rfl (fun h => ?_) (fun h => ?_) <;> (fail_if_success (cases h; done)) <;> (try simp at h) <;> (try subst h))
    | (refine aw_both rfl (fun h => ?_) (fun h => ?_) <;> (fail_if_success (cases h; done)) <;> (try simp at h) <;> (try subst h)))
  refine aw_loopN [2, 3, 5] [.loc 2, .loc 3] (by simp; exact rfl) (ι := {i : Nat // i ≤ c.any.length ∧ (c.any.take i).any (fun l => l.all fun a => holdsF a o) = false}) (fun i => ⟨39, [(2, .ptr (.loc 2) 0), (3, .ptr (.loc 3) 0), (5, I .i64 i.1)], [(.loc 2, some (.box 24 [.pv (.v (.bool c.all)), .pv (.sl 1 (cosL c.any))])), (.loc 3, some (.box 30 [.pv (.sl 1 (rgL o.rg)), .pv (.sl 1 (ints o.mem))]))]⟩) (fun i => c.any.length - i.1) ⟨0, by omega, by simp⟩ (by simp) ?_
  rintro ⟨i, hi, hno⟩
  by_cases hlt : i < c.any.length
  · have hd : (i : Int) < (c.any.length : Int) := by omega
    have hw : IntKind.wrap .i64 ((i : Int) + 1) = (i : Int) + 1 := wrap64s (by omega) (by omega)
    have hta := take_any (fun l => l.all fun a => holdsF a o) hlt
    have hxl := hce _ (List.getElem_mem hlt)
    have htrue : (c.any[i].all fun a => holdsF a o) = true → evalF c o = true := fun h => List.any_eq_true.2 ⟨_, List.getElem_mem hlt, h⟩
    rw [hno, Bool.false_or] at hta
    generalize hx : c.any[i] = l at *
    repeat' (first
      | refine ar_end rfl ?_
      | refine ar_endD rfl (by kernel_rfl) ?_
      | refine ar_fin rfl ?_
      | refine ar_finD rfl (by kernel_rfl) ?_
      | refine ar_go3 _ rfl (by simp [ints_len, ints_getE, rgL_len, rgL_getE, atsL_len, atsL_getE, cosL_len, cosL_getE, ousL_len, ousL_getE, atC, ouC, coC, hd, hlt, hx]; exact ⟨rfl, rfl, rfl⟩) rfl ?_
      | refine aw_sregK 2 [2, 3, 5] ?_
      | refine aw_regK 2 [2, 3, 5] ?_
      | refine aw_sregK 4 [2, 3, 5] ?_
      | refine aw_regK 4 [2, 3, 5] ?_
      | refine aw_sregK 5 [2, 3, 5, 6] ?_
      | refine aw_regK 5 [2, 3, 5, 6] ?_
      | refine aw_sreg ?_
      | refine aw_sregD mixed ?_
      | refine aw_ifT (b := true) rfl rfl ?_
      | refine aw_ifF (b := false) rfl rfl ?_
      | refine aw_ifT rfl (by assumption) ?_
      | refine aw_ifF rfl (by assumption) ?_
      | refine aw_ifT rfl (decide_eq_true (by assumption)) ?_
      | refine aw_ifF rfl (decide_eq_false (by assumption)) ?_
      | refine aw_seq ?_
      | refine aw_block ?_
      | refine aw_skip ?_
      | refine aw_region ?_
      | refine aw_region_draw mixed ?_
      | refine aw_exit ?_
      | refine rq_exit ?_
      | refine blockQ_hit ?_
      | refine blockQ_miss (by decide) ?_
      | (refine ar_guard rfl rfl rfl rfl (fun h => ?_) (fun h => ?_) <;> (fail_if_success (cases h; done)) <;> (try simp at h) <;> (try subst h))
      | (refine aw_both rfl (fun h => ?_) (fun h => ?_) <;> (fail_if_success (cases h; done)) <;> (try simp at h) <;> (try subst h)))
    refine aw_loopN [2, 3, 5, 6, 7] [.loc 2, .loc 3] (by simp; exact rfl) (ι := {k : Nat // k ≤ l.length}) (fun k => ⟨39, [(2, .ptr (.loc 2) 0), (3, .ptr (.loc 3) 0), (5, I .i64 i), (6, B ((l.take k.1).all fun a => holdsF a o)), (7, I .i64 k.1)], [(.loc 2, some (.box 24 [.pv (.v (.bool c.all)), .pv (.sl 1 (cosL c.any))])), (.loc 3, some (.box 30 [.pv (.sl 1 (rgL o.rg)), .pv (.sl 1 (ints o.mem))]))]⟩) (fun k => l.length - k.1) ⟨0, by omega⟩ (by simp) ?_
    rintro ⟨k, hk⟩
    by_cases hkl : k < l.length
    · have hd2 : (k : Int) < (l.length : Int) := by omega
      have hw2 : IntKind.wrap .i64 ((k : Int) + 1) = (k : Int) + 1 := wrap64s (by omega) (by omega)
      have htl := take_all (fun a => holdsF a o) hkl
      have hH := c_rHolds (a := l[k]) (o := o)
      generalize hy : l[k] = a at *
      generalize ((l.take k).all fun a => holdsF a o) = b at *
      generalize holdsF a o = b2 at *
      cases b
      ·
        repeat' (first
          | refine ar_end rfl ?_
          | refine ar_endD rfl (by kernel_rfl) ?_
          | refine ar_fin rfl ?_
          | refine ar_finD rfl (by kernel_rfl) ?_
          | refine ar_callV Tryd.call30 hH rfl rfl rfl rfl rfl (by simp; done) (by rfl) (by simp; done) ?_
          | refine ar_callV_if Tryd.call30 hH rfl rfl rfl rfl rfl rfl (by simp; done) rfl (by rfl) (by simp; done) ?_
          | refine bq_norm ?_
          | refine lq_normN [2, 3, 5, 6, 7] [.loc 2, .loc 3] (by simp; exact rfl) ⟨k + 1, by omega⟩ (by dsimp only; omega) (by simp [htl])
          | refine ar_go3 _ rfl (by simp [ints_len, ints_getE, rgL_len, rgL_getE, atsL_len, atsL_getE, cosL_len, cosL_getE, ousL_len, ousL_getE, atC, ouC, coC, hd, hlt, hx, hd2, hkl, hy, hw2]; exact ⟨rfl, rfl, rfl⟩) rfl ?_
          | refine aw_sregK 6 [2, 3, 5, 6, 7] ?_
          | refine aw_regK 6 [2, 3, 5, 6, 7] ?_
          | refine aw_sregK 7 [2, 3, 5, 6, 7] ?_
          | refine aw_regK 7 [2, 3, 5, 6, 7] ?_
          | refine aw_sregKD mixed 8 [2, 3, 5, 6, 7] (by simp; exact rfl) ?_
          | refine aw_regKD mixed 8 [2, 3, 5, 6, 7] (by simp; exact rfl) ?_
          | refine aw_sreg ?_
          | refine aw_sregD mixed ?_
          | refine aw_ifT (b := true) rfl rfl ?_
          | refine aw_ifF (b := false) rfl rfl ?_
          | refine aw_ifT rfl (by assumption) ?_
          | refine aw_ifF rfl (by assumption) ?_
          | refine aw_ifT rfl (decide_eq_true (by assumption)) ?_
          | refine aw_ifF rfl (decide_eq_false (by assumption)) ?_
          | refine aw_seq ?_
          | refine aw_block ?_
          | refine aw_skip ?_
          | refine aw_region ?_
          | refine aw_region_draw mixed ?_
          | refine aw_exit ?_
          | refine rq_exit ?_
          | refine blockQ_hit ?_
          | refine blockQ_miss (by decide) ?_
          | (refine ar_guard rfl rfl rfl rfl (fun h => ?_) (fun h => ?_) <;> (fail_if_success (cases h; done)) <;> (try simp at h) <;> (try subst h))
          | (refine aw_both rfl (fun h => ?_) (fun h => ?_) <;> (fail_if_success (cases h; done)) <;> (try simp at h) <;> (try subst h)))
      ·
        repeat' (first
          | refine ar_end rfl ?_
          | refine ar_endD rfl (by kernel_rfl) ?_
          | refine ar_fin rfl ?_
          | refine ar_finD rfl (by kernel_rfl) ?_
          | refine ar_callV Tryd.call30 hH rfl rfl rfl rfl rfl (by simp; done) (by rfl) (by simp; done) ?_
          | refine ar_callV_if Tryd.call30 hH rfl rfl rfl rfl rfl rfl (by simp; done) rfl (by rfl) (by simp; done) ?_
          | refine bq_norm ?_
          | refine lq_normN [2, 3, 5, 6, 7] [.loc 2, .loc 3] (by simp; exact rfl) ⟨k + 1, by omega⟩ (by dsimp only; omega) (by simp [htl])
          | refine ar_go3 _ rfl (by simp [ints_len, ints_getE, rgL_len, rgL_getE, atsL_len, atsL_getE, cosL_len, cosL_getE, ousL_len, ousL_getE, atC, ouC, coC, hd, hlt, hx, hd2, hkl, hy, hw2]; exact ⟨rfl, rfl, rfl⟩) rfl ?_
          | refine aw_sregK 6 [2, 3, 5, 6, 7] ?_
          | refine aw_regK 6 [2, 3, 5, 6, 7] ?_
          | refine aw_sregK 7 [2, 3, 5, 6, 7] ?_
          | refine aw_regK 7 [2, 3, 5, 6, 7] ?_
          | refine aw_sregKD mixed 8 [2, 3, 5, 6, 7] (by simp; exact rfl) ?_
          | refine aw_regKD mixed 8 [2, 3, 5, 6, 7] (by simp; exact rfl) ?_
          | refine aw_sreg ?_
          | refine aw_sregD mixed ?_
          | refine aw_ifT (b := true) rfl rfl ?_
          | refine aw_ifF (b := false) rfl rfl ?_
          | refine aw_ifT rfl (by assumption) ?_
          | refine aw_ifF rfl (by assumption) ?_
          | refine aw_ifT rfl (decide_eq_true (by assumption)) ?_
          | refine aw_ifF rfl (decide_eq_false (by assumption)) ?_
          | refine aw_seq ?_
          | refine aw_block ?_
          | refine aw_skip ?_
          | refine aw_region ?_
          | refine aw_region_draw mixed ?_
          | refine aw_exit ?_
          | refine rq_exit ?_
          | refine blockQ_hit ?_
          | refine blockQ_miss (by decide) ?_
          | (refine ar_guard rfl rfl rfl rfl (fun h => ?_) (fun h => ?_) <;> (fail_if_success (cases h; done)) <;> (try simp at h) <;> (try subst h))
          | (refine aw_both rfl (fun h => ?_) (fun h => ?_) <;> (fail_if_success (cases h; done)) <;> (try simp at h) <;> (try subst h)))
    have hd2 : ¬(k : Int) < (l.length : Int) := by omega
    have hke : l.take k = l := List.take_of_length_le (by omega)
    rw [hke]
    cases hb : (l.all fun a => holdsF a o)
    · rw [hb] at hta
      repeat' (first
        | refine ar_end rfl ?_
        | refine ar_endD rfl (by kernel_rfl) ?_
        | refine ar_fin rfl ?_
        | refine ar_finD rfl (by kernel_rfl) ?_
        | refine lq_exit ?_
        | refine bq_norm ?_
        | refine lq_normN [2, 3, 5] [.loc 2, .loc 3] (by simp; exact rfl) ⟨i + 1, by omega, hta⟩ (by dsimp only; omega) (by simp [])
        | refine ar_go3 _ rfl (by simp [ints_len, ints_getE, rgL_len, rgL_getE, atsL_len, atsL_getE, cosL_len, cosL_getE, ousL_len, ousL_getE, atC, ouC, coC, hd, hlt, hx, hd2, hw]; exact ⟨rfl, rfl, rfl⟩) rfl ?_
        | refine aw_sregK 3 [2, 3, 5] ?_
        | refine aw_regK 3 [2, 3, 5] ?_
        | refine aw_sregK 6 [2, 3, 5, 6, 7] ?_
        | refine aw_regK 6 [2, 3, 5, 6, 7] ?_
        | refine aw_sregK 9 [2, 3, 5, 6] ?_
        | refine aw_regK 9 [2, 3, 5, 6] ?_
        | refine aw_sreg ?_
        | refine aw_sregD mixed ?_
        | refine aw_ifT (b := true) rfl rfl ?_
        | refine aw_ifF (b := false) rfl rfl ?_
        | refine aw_ifT rfl (by assumption) ?_
        | refine aw_ifF rfl (by assumption) ?_
        | refine aw_ifT rfl (decide_eq_true (by assumption)) ?_
        | refine aw_ifF rfl (decide_eq_false (by assumption)) ?_
        | refine aw_seq ?_
        | refine aw_block ?_
        | refine aw_skip ?_
        | refine aw_region ?_
        | refine aw_region_draw mixed ?_
        | refine aw_exit ?_
        | refine rq_exit ?_
        | refine blockQ_hit ?_
        | refine blockQ_miss (by decide) ?_
        | (refine ar_guard rfl rfl rfl rfl (fun h => ?_) (fun h => ?_) <;> (fail_if_success (cases h; done)) <;> (try simp at h) <;> (try subst h))
        | (refine aw_both rfl (fun h => ?_) (fun h => ?_) <;> (fail_if_success (cases h; done)) <;> (try simp at h) <;> (try subst h)))
    · rw [htrue hb]
      repeat' (first
        | exact aw_ret (ret_vals (by simp; exact rfl) (by simp [*]; fail_if_success (show _)))
        | exact aw_ret (ret_vals (by simp; exact rfl) (by simp [*]; omega))
        | refine ar_end rfl ?_
        | refine ar_endD rfl (by kernel_rfl) ?_
        | refine ar_fin rfl ?_
        | refine ar_finD rfl (by kernel_rfl) ?_
        | refine lq_exit ?_
        | refine lq_ret ?_
        | refine bq_ret ?_
        | refine tq_ret ?_
        | refine ar_go3 _ rfl (by simp [ints_len, ints_getE, rgL_len, rgL_getE, atsL_len, atsL_getE, cosL_len, cosL_getE, ousL_len, ousL_getE, atC, ouC, coC, hd, hlt, hx, hd2]; exact ⟨rfl, rfl, rfl⟩) rfl ?_
        | refine aw_sregK 6 [2, 3, 5, 6, 7] ?_
        | refine aw_regK 6 [2, 3, 5, 6, 7] ?_
        | refine aw_sregK 9 [2, 3, 5, 6] ?_
        | refine aw_regK 9 [2, 3, 5, 6] ?_
        | refine aw_sregK 10 [] ?_
        | refine aw_regK 10 [] ?_
        | refine aw_sreg ?_
        | refine aw_sregD mixed ?_
        | refine aw_ifT (b := true) rfl rfl ?_
        | refine aw_ifF (b := false) rfl rfl ?_
        | refine aw_ifT rfl (by assumption) ?_
        | refine aw_ifF rfl (by assumption) ?_
        | refine aw_ifT rfl (decide_eq_true (by assumption)) ?_
        | refine aw_ifF rfl (decide_eq_false (by assumption)) ?_
        | refine aw_seq ?_
        | refine aw_block ?_
        | refine aw_skip ?_
        | refine aw_region ?_
        | refine aw_region_draw mixed ?_
        | refine aw_exit ?_
        | refine rq_exit ?_
        | refine blockQ_hit ?_
        | refine blockQ_miss (by decide) ?_
        | (refine ar_guard rfl rfl rfl rfl (fun h => ?_) (fun h => ?_) <;> (fail_if_success (cases h; done)) <;> (try simp at h) <;> (try subst h))
        | (refine aw_both rfl (fun h => ?_) (fun h => ?_) <;> (fail_if_success (cases h; done)) <;> (try simp at h) <;> (try subst h)))
  have hd : ¬(i : Int) < (c.any.length : Int) := by omega
  have hie : c.any.take i = c.any := List.take_of_length_le (by omega)
  rw [hie] at hno
  have he : evalF c o = false := hno
  rw [he]
  repeat' (first
    | exact aw_ret (ret_vals (by simp; exact rfl) (by simp [*]; fail_if_success (show _)))
    | exact aw_ret (ret_vals (by simp; exact rfl) (by simp [*]; omega))
    | refine ar_end rfl ?_
    | refine ar_endD rfl (by kernel_rfl) ?_
    | refine ar_fin rfl ?_
    | refine ar_finD rfl (by kernel_rfl) ?_
    | refine lq_exit ?_
    | refine ar_go3 _ rfl (by simp [ints_len, ints_getE, rgL_len, rgL_getE, atsL_len, atsL_getE, cosL_len, cosL_getE, ousL_len, ousL_getE, atC, ouC, coC, hd]; exact ⟨rfl, rfl, rfl⟩) rfl ?_
    | refine aw_sregK 2 [2, 3, 5] ?_
    | refine aw_regK 2 [2, 3, 5] ?_
    | refine aw_sregK 11 [] ?_
    | refine aw_regK 11 [] ?_
    | refine aw_sreg ?_
    | refine aw_sregD mixed ?_
    | refine aw_ifT (b := true) rfl rfl ?_
    | refine aw_ifF (b := false) rfl rfl ?_
    | refine aw_ifT rfl (by assumption) ?_
    | refine aw_ifF rfl (by assumption) ?_
    | refine aw_ifT rfl (decide_eq_true (by assumption)) ?_
    | refine aw_ifF rfl (decide_eq_false (by assumption)) ?_
    | refine aw_seq ?_
    | refine aw_block ?_
    | refine aw_skip ?_
    | refine aw_region ?_
    | refine aw_region_draw mixed ?_
    | refine aw_exit ?_
    | refine rq_exit ?_
    | refine blockQ_hit ?_
    | refine blockQ_miss (by decide) ?_
    | (refine ar_guard rfl rfl rfl rfl (fun h => ?_) (fun h => ?_) <;> (fail_if_success (cases h; done)) <;> (try simp at h) <;> (try subst h))
    | (refine aw_both rfl (fun h => ?_) (fun h => ?_) <;> (fail_if_success (cases h; done)) <;> (try simp at h) <;> (try subst h)))
set_option maxHeartbeats 16000000 in
theorem c_rVerdict [Trk] {c : Co} {l : List Ou} (hc : CoOk c) (hl : l.length ≤ 1000) : SC Tryd.prog 16 [.agg (coC c), .pv (.sl 2 (ousL l))] (B (verF c l)) := by
  have hM : maxLen = 9223372036854775807 := rfl
  have hcnt : ∀ l : List Ou, cntF c l ≤ l.length := fun l => List.countP_le_length
  refine scx_of Tryd.func16 rfl rfl rfl (Nat.le_of_ble_eq_true rfl) ?_
  repeat' (first
    | refine ar_end rfl ?_
    | refine ar_endD rfl (by kernel_rfl) ?_
    | refine ar_fin rfl ?_
    | refine ar_finD rfl (by kernel_rfl) ?_
    | refine ar_go3 _ rfl (by simp [ints_len, ints_getE, rgL_len, rgL_getE, atsL_len, atsL_getE, cosL_len, cosL_getE, ousL_len, ousL_getE, atC, ouC, coC]; exact ⟨rfl, rfl, rfl⟩) rfl ?_
    | refine aw_sregK 0 [0, 1] ?_
    | refine aw_regK 0 [0, 1] ?_
    | refine aw_sregK 1 [1, 2] ?_
    | refine aw_regK 1 [1, 2] ?_
    | refine aw_sregK 2 [1, 2, 5] ?_
    | refine aw_regK 2 [1, 2, 5] ?_
    | refine aw_sreg ?_
    | refine aw_sregD mixed ?_
    | refine aw_ifT (b := true) rfl rfl ?_
    | refine aw_ifF (b := false) rfl rfl ?_
    | refine aw_ifT rfl (by assumption) ?_
    | refine aw_ifF rfl (by assumption) ?_
    | refine aw_ifT rfl (decide_eq_true (by assumption)) ?_
    | refine aw_ifF rfl (decide_eq_false (by assumption)) ?_
    | refine aw_seq ?_
    | refine aw_block ?_
    | refine aw_skip ?_
    | refine aw_region ?_
    | refine aw_region_draw mixed ?_
    | refine aw_exit ?_
    | refine rq_exit ?_
    | refine blockQ_hit ?_
    | refine blockQ_miss (by decide) ?_
    | (refine ar_guard rfl rfl rfl rfl (fun h => ?_) (fun h => ?_) <;> (fail_if_success (cases h; done)) <;> (try simp at h) <;> (try subst h))
    | (refine aw_both rfl (fun h => ?_) (fun h => ?_) <;> (fail_if_success (cases h; done)) <;> (try simp at h) <;> (try subst h)))
  refine aw_loopN [1, 2, 5, 6] [.loc 2] (by simp; exact rfl) (ι := {i : Nat // i ≤ l.length}) (fun i => ⟨29, [(1, .pv (.sl 2 (ousL l))), (2, .ptr (.loc 2) 0), (5, I .i64 (cntF c (l.take i.1))), (6, I .i64 i.1)], [(.loc 2, some (.box 24 [.pv (.v (.bool c.all)), .pv (.sl 1 (cosL c.any))]))]⟩) (fun i => l.length - i.1) ⟨0, by omega⟩ (by simp [cntF]) ?_
  rintro ⟨i, hi⟩
  by_cases hlt : i < l.length
  · have hd : (i : Int) < (l.length : Int) := by omega
    have hw : IntKind.wrap .i64 ((i : Int) + 1) = (i : Int) + 1 := wrap64s (by omega) (by omega)
    have hE := c_rEval (c := c) (o := l[i]) hc
    have hs := cnt_succ c hlt
    have hn := hcnt (l.take i)
    rw [List.length_take] at hn
    have hwn : IntKind.wrap .i64 ((cntF c (l.take i) : Int) + 1) = (cntF c (l.take i) : Int) + 1 := wrap64s (by omega) (by omega)
    generalize hx : l[i] = x at *
    generalize cntF c (l.take i) = n at *
    cases hb : evalF c x
    · rw [hb] at hE hs
      rw [if_neg (by decide), Nat.add_zero] at hs
      repeat' (first
        | refine ar_end rfl ?_
        | refine ar_endD rfl (by kernel_rfl) ?_
        | refine ar_fin rfl ?_
        | refine ar_finD rfl (by kernel_rfl) ?_
        | refine ar_callV Tryd.call14 hE rfl rfl rfl rfl rfl (by simp; done) (by rfl) (by simp; done) ?_
        | refine ar_callV_if Tryd.call14 hE rfl rfl rfl rfl rfl rfl (by simp; done) rfl (by rfl) (by simp; done) ?_
        | refine bq_norm ?_
        | refine lq_normN [1, 2, 5, 6] [.loc 2] (by simp; exact rfl) ⟨i + 1, by omega⟩ (by dsimp only; omega) (by simp [hs])
        | refine ar_go3 _ rfl (by simp [ints_len, ints_getE, rgL_len, rgL_getE, atsL_len, atsL_getE, cosL_len, cosL_getE, ousL_len, ousL_getE, atC, ouC, coC, hd, hlt, hx, hw]; exact ⟨rfl, rfl, rfl⟩) rfl ?_
        | refine aw_sregK 3 [1, 2, 5, 6] ?_
        | refine aw_regK 3 [1, 2, 5, 6] ?_
        | refine aw_sregK 4 [1, 2, 5, 6] ?_
        | refine aw_regK 4 [1, 2, 5, 6] ?_
        | refine aw_sregKD mixed 5 [1, 2, 5, 6] (by simp; exact rfl) ?_
        | refine aw_regKD mixed 5 [1, 2, 5, 6] (by simp; exact rfl) ?_
        | refine aw_sreg ?_
        | refine aw_sregD mixed ?_
        | refine aw_ifT (b := true) rfl rfl ?_
        | refine aw_ifF (b := false) rfl rfl ?_
        | refine aw_ifT rfl (by assumption) ?_
        | refine aw_ifF rfl (by assumption) ?_
        | refine aw_ifT rfl (decide_eq_true (by assumption)) ?_
        | refine aw_ifF rfl (decide_eq_false (by assumption)) ?_
        | refine aw_seq ?_
        | refine aw_block ?_
        | refine aw_skip ?_
        | refine aw_region ?_
        | refine aw_region_draw mixed ?_
        | refine aw_exit ?_
        | refine rq_exit ?_
        | refine blockQ_hit ?_
        | refine blockQ_miss (by decide) ?_
        | (refine ar_guard rfl rfl rfl rfl (fun h => ?_) (fun h => ?_) <;> (fail_if_success (cases h; done)) <;> (try simp at h) <;> (try subst h))
        | (refine aw_both rfl (fun h => ?_) (fun h => ?_) <;> (fail_if_success (cases h; done)) <;> (try simp at h) <;> (try subst h)))
    · rw [hb] at hE hs
      rw [if_pos rfl] at hs
      repeat' (first
        | refine ar_end rfl ?_
        | refine ar_endD rfl (by kernel_rfl) ?_
        | refine ar_fin rfl ?_
        | refine ar_finD rfl (by kernel_rfl) ?_
        | refine ar_callV Tryd.call14 hE rfl rfl rfl rfl rfl (by simp; done) (by rfl) (by simp; done) ?_
        | refine ar_callV_if Tryd.call14 hE rfl rfl rfl rfl rfl rfl (by simp; done) rfl (by rfl) (by simp; done) ?_
        | refine bq_norm ?_
        | refine lq_normN [1, 2, 5, 6] [.loc 2] (by simp; exact rfl) ⟨i + 1, by omega⟩ (by dsimp only; omega) (by simp [hs])
        | refine ar_go3 _ rfl (by simp [ints_len, ints_getE, rgL_len, rgL_getE, atsL_len, atsL_getE, cosL_len, cosL_getE, ousL_len, ousL_getE, atC, ouC, coC, hd, hlt, hx, hw, hwn]; exact ⟨rfl, rfl, rfl⟩) rfl ?_
        | refine aw_sregK 3 [1, 2, 5, 6] ?_
        | refine aw_regK 3 [1, 2, 5, 6] ?_
        | refine aw_sregK 4 [1, 2, 5, 6] ?_
        | refine aw_regK 4 [1, 2, 5, 6] ?_
        | refine aw_sregKD mixed 5 [1, 2, 5, 6] (by simp; exact rfl) ?_
        | refine aw_regKD mixed 5 [1, 2, 5, 6] (by simp; exact rfl) ?_
        | refine aw_sregK 6 [1, 2, 5, 6] ?_
        | refine aw_regK 6 [1, 2, 5, 6] ?_
        | refine aw_sreg ?_
        | refine aw_sregD mixed ?_
        | refine aw_ifT (b := true) rfl rfl ?_
        | refine aw_ifF (b := false) rfl rfl ?_
        | refine aw_ifT rfl (by assumption) ?_
        | refine aw_ifF rfl (by assumption) ?_
        | refine aw_ifT rfl (decide_eq_true (by assumption)) ?_
        | refine aw_ifF rfl (decide_eq_false (by assumption)) ?_
        | refine aw_seq ?_
        | refine aw_block ?_
        | refine aw_skip ?_
        | refine aw_region ?_
        | refine aw_region_draw mixed ?_
        | refine aw_exit ?_
        | refine rq_exit ?_
        | refine blockQ_hit ?_
        | refine blockQ_miss (by decide) ?_
        | (refine ar_guard rfl rfl rfl rfl (fun h => ?_) (fun h => ?_) <;> (fail_if_success (cases h; done)) <;> (try simp at h) <;> (try subst h))
        | (refine aw_both rfl (fun h => ?_) (fun h => ?_) <;> (fail_if_success (cases h; done)) <;> (try simp at h) <;> (try subst h)))
  have hd : ¬(i : Int) < (l.length : Int) := by omega
  have hie : l.take i = l := List.take_of_length_le (by omega)
  rw [hie, ver_cnt]
  generalize cntF c l = n at *
  cases c.all
  ·
    repeat' (first
      | exact aw_ret (ret_vals (by simp; exact rfl) (by simp [*]; fail_if_success (show _)))
      | exact aw_ret (ret_vals (by simp; exact rfl) (by simp [*]; omega))
      | refine ar_end rfl ?_
      | refine ar_endD rfl (by kernel_rfl) ?_
      | refine ar_fin rfl ?_
      | refine ar_finD rfl (by kernel_rfl) ?_
      | refine lq_exit ?_
      | refine ar_go3 _ rfl (by simp [ints_len, ints_getE, rgL_len, rgL_getE, atsL_len, atsL_getE, cosL_len, cosL_getE, ousL_len, ousL_getE, atC, ouC, coC, hd]; exact ⟨rfl, rfl, rfl⟩) rfl ?_
      | refine aw_sregK 3 [1, 2, 5, 6] ?_
      | refine aw_regK 3 [1, 2, 5, 6] ?_
      | refine aw_sregK 7 [1, 2, 5] ?_
      | refine aw_regK 7 [1, 2, 5] ?_
      | refine aw_sregK 9 [5] ?_
      | refine aw_regK 9 [5] ?_
      | refine aw_sreg ?_
      | refine aw_sregD mixed ?_
      | refine aw_ifT (b := true) rfl rfl ?_
      | refine aw_ifF (b := false) rfl rfl ?_
      | refine aw_ifT rfl (by assumption) ?_
      | refine aw_ifF rfl (by assumption) ?_
      | refine aw_ifT rfl (decide_eq_true (by assumption)) ?_
      | refine aw_ifF rfl (decide_eq_false (by assumption)) ?_
      | refine aw_seq ?_
      | refine aw_block ?_
      | refine aw_skip ?_
      | refine aw_region ?_
      | refine aw_region_draw mixed ?_
      | refine aw_exit ?_
      | refine rq_exit ?_
      | refine blockQ_hit ?_
      | refine blockQ_miss (by decide) ?_
      | (refine ar_guard rfl rfl rfl rfl (fun h => ?_) (fun h => ?_) <;> (fail_if_success (cases h; done)) <;> (try simp at h) <;> (try subst h))
      | (refine aw_both rfl (fun h => ?_) (fun h => ?_) <;> (fail_if_success (cases h; done)) <;> (try simp at h) <;> (try subst h)))
  ·
    repeat' (first
      | exact aw_ret (ret_vals (by simp; exact rfl) (by simp [*]; fail_if_success (show _)))
      | exact aw_ret (ret_vals (by simp; exact rfl) (by simp [*]; omega))
      | refine ar_end rfl ?_
      | refine ar_endD rfl (by kernel_rfl) ?_
      | refine ar_fin rfl ?_
      | refine ar_finD rfl (by kernel_rfl) ?_
      | refine lq_exit ?_
      | refine ar_go3 _ rfl (by simp [ints_len, ints_getE, rgL_len, rgL_getE, atsL_len, atsL_getE, cosL_len, cosL_getE, ousL_len, ousL_getE, atC, ouC, coC, hd]; exact ⟨rfl, rfl, rfl⟩) rfl ?_
      | refine aw_sregK 3 [1, 2, 5, 6] ?_
      | refine aw_regK 3 [1, 2, 5, 6] ?_
      | refine aw_sregK 7 [1, 2, 5] ?_
      | refine aw_regK 7 [1, 2, 5] ?_
      | refine aw_sregK 8 [1, 5] ?_
      | refine aw_regK 8 [1, 5] ?_
      | refine aw_sreg ?_
      | refine aw_sregD mixed ?_
      | refine aw_ifT (b := true) rfl rfl ?_
      | refine aw_ifF (b := false) rfl rfl ?_
      | refine aw_ifT rfl (by assumption) ?_
      | refine aw_ifF rfl (by assumption) ?_
      | refine aw_ifT rfl (decide_eq_true (by assumption)) ?_
      | refine aw_ifF rfl (decide_eq_false (by assumption)) ?_
      | refine aw_seq ?_
      | refine aw_block ?_
      | refine aw_skip ?_
      | refine aw_region ?_
      | refine aw_region_draw mixed ?_
      | refine aw_exit ?_
      | refine rq_exit ?_
      | refine blockQ_hit ?_
      | refine blockQ_miss (by decide) ?_
      | (refine ar_guard rfl rfl rfl rfl (fun h => ?_) (fun h => ?_) <;> (fail_if_success (cases h; done)) <;> (try simp at h) <;> (try subst h))
      | (refine aw_both rfl (fun h => ?_) (fun h => ?_) <;> (fail_if_success (cases h; done)) <;> (try simp at h) <;> (try subst h)))
end Go.Eng
