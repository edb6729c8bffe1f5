import Derived.Test.YtclegllogeanlaaDerB
import Derived.Test.YtclegllogeanlaaEngF
set_option linter.unusedSimpArgs false
set_option linter.unusedVariables false
set_option linter.constructorNameAsVariable false
set_option autoImplicit false
namespace Go.Eng
open Go Go.RowKit Go.Proofs
/-! ## All ways to read -/
def tellF (c : List (List Int)) : Nat → List Int → List (List Int)
  | 0, fm => [fm]
  | m + 1, fm => (c.getD fm.length []).flatMap fun n => tellF c m (fm ++ [n])
theorem tellF_ok (c : List (List Int)) : ∀ m fm, fm.length + m = c.length → (∀ i, (h : i < fm.length) → (h2 : i < c.length) → fm[i] ∈ c[i]) → ∀ w ∈ tellF c m fm, w.length = c.length ∧ ∀ i, (h : i < w.length) → (h2 : i < c.length) → w[i] ∈ c[i]
  | 0, fm, hl, h, w, hw => by
    have : w = fm := by simpa [tellF] using hw
    subst this
    exact ⟨by omega, h⟩
  | m + 1, fm, hl, h, w, hw => by
    simp only [tellF, List.mem_flatMap] at hw
    obtain ⟨n, h1, h2⟩ := hw
    have hlt : fm.length < c.length := by omega
    rw [getD_in _ _ hlt] at h1
    refine tellF_ok c m (fm ++ [n]) (by simp; omega) (fun i hi hi2 => ?_) w h2
    by_cases hif : i < fm.length
    · rw [List.getElem_append_left hif]; exact h i hif hi2
    · have : i = fm.length := by simp at hi; omega
      subst this
      simpa using h1
def manyL (c : List (List Int)) : Nat → Nat
  | 0 => 1
  | i + 1 => manyL c i * (c.getD i []).length
theorem tellF_len (c : List (List Int)) : ∀ m fm, fm.length + m = c.length → manyL c fm.length * (tellF c m fm).length = manyL c c.length
  | 0, fm, hl => by
    have : fm.length = c.length := by omega
    simp [tellF, this]
  | m + 1, fm, hl => by
    have hlt : fm.length < c.length := by omega
    have key : ∀ l : List Int, manyL c (fm.length + 1) * (l.flatMap fun n => tellF c m (fm ++ [n])).length = l.length * manyL c c.length := fun l => by
      induction l with
      | nil => simp
      | cons n l ih =>
        have h1 := tellF_len c m (fm ++ [n]) (by simp; omega)
        have e : (fm ++ [n]).length = fm.length + 1 := by simp
        rw [e] at h1
        rw [List.flatMap_cons, List.length_append, Nat.mul_add, h1, ih, List.length_cons, Nat.succ_mul, Nat.add_comm]
    have h2 := key (c.getD fm.length [])
    have e : manyL c (fm.length + 1) = manyL c fm.length * (c.getD fm.length []).length := rfl
    have e3 : (tellF c (m + 1) fm) = ((c.getD fm.length []).flatMap fun n => tellF c m (fm ++ [n])) := rfl
    rw [e3]
    by_cases h0 : (c.getD fm.length []).length = 0
    · have hz : ∀ i, fm.length + 1 ≤ i → manyL c i = 0 := fun i hi => by
        induction i with
        | zero => omega
        | succ i ih =>
          by_cases hq : i = fm.length
          · subst hq; rw [e, h0, Nat.mul_zero]
          · rw [manyL, ih (by omega), Nat.zero_mul]
      have : c.getD fm.length [] = [] := List.eq_nil_of_length_eq_zero h0
      rw [this, hz c.length (by omega)]; simp
    · rw [e] at h2
      have h3 : (c.getD fm.length []).length * (manyL c fm.length * ((c.getD fm.length []).flatMap fun n => tellF c m (fm ++ [n])).length) = (c.getD fm.length []).length * manyL c c.length := by
        rw [← h2, Nat.mul_assoc, Nat.mul_left_comm]
      exact Nat.eq_of_mul_eq_mul_left (by omega) h3
theorem flat_take {α β : Type} (g : α → List β) {L : List α} {i : Nat} (h : i < L.length) : (L.take (i + 1)).flatMap g = (L.take i).flatMap g ++ g L[i] ∧ ((L.take i).flatMap g).length + (g L[i]).length ≤ (L.flatMap g).length := by
  have e : (L.take (i + 1)).flatMap g = (L.take i).flatMap g ++ g L[i] := by
    rw [List.take_add_one, List.getElem?_eq_getElem h, List.flatMap_append]; simp
  refine ⟨e, ?_⟩
  rw [← List.length_append, ← e]
  conv => rhs; rw [← List.take_append_drop (i + 1) L, List.flatMap_append, List.length_append]
  omega
set_option maxHeartbeats 16000000 in
theorem c_tell {c : List (List Int)} (hc : c.length ≤ 1000) (hcl : ∀ l ∈ c, l.length ≤ 1000) : ∀ m fm, fm.length + m = c.length → ∀ outs : List (List Int), outs.length + (tellF c m fm).length ≤ 20000 → SCX Try.prog 70 [.pv (.sl 1 (ints fm)), .ptr (.ext 0) 0, .ptr (.ext 1) 0, .ptr (.ext 2) 0] [(.ext 0, some (.box 72 [.pv (.sl 1 (intsL c))])), (.ext 1, some (.box 72 [.own (.ext 3)])), (.ext 2, some (.box 91 [.fn 70 [] [.ptr (.ext 0) 0, .ptr (.ext 1) 0, .ptr (.ext 2) 0]])), ((.ext 3), some (.own 53 1 (intsL (outs))))] (.tup []) [(.ext 0, some (.box 72 [.pv (.sl 1 (intsL c))])), (.ext 1, some (.box 72 [.own (.ext 3)])), (.ext 2, some (.box 91 [.fn 70 [] [.ptr (.ext 0) 0, .ptr (.ext 1) 0, .ptr (.ext 2) 0]])), ((.ext 3), some (.own 53 1 (intsL (outs ++ tellF c m fm))))]
  | 0, fm, hl, outs, hB => by
    have he : (fm.length : Int) = (c.length : Int) := by omega
    have hB2 : (tellF c 0 fm).length = 1 := rfl
    refine scx_of Try.func70 rfl rfl rfl (Nat.le_of_ble_eq_true rfl) ?_
    repeat' (first
      | refine ar_end rfl ?_
      | refine ar_endD rfl (by kernel_rfl) ?_
      | refine ar_fin rfl ?_
      | refine ar_finD rfl (by kernel_rfl) ?_
      | refine ar_appO rfl rfl rfl rfl rfl (by simp; exact rfl) rfl (by simp; exact rfl) (by simp; exact rfl) (by simp; exact ⟨rfl, rfl⟩) rfl (by simp; exact rfl) (by simp; done) (by decide) (by simp [intsL_len, maxLen]; try omega) ?_
      | exact aw_ret (ret_rens .ret (.inr rfl) [(.loc 15, .ext 3)] [.ext 0, .ext 1, .ext 2, .ext 3] (by simp; exact rfl) (by simp; exact rfl) rfl (by simp [intsL, tellF]; fail_if_success (show _)) (by simp))
      | refine ar_go3 _ rfl (by simp [ints_len, ints_getE, intsL_len, intsL_getE, he]; exact ⟨rfl, rfl, rfl⟩) rfl ?_
      | refine aw_sregK 0 [0, 1, 2, 3] ?_
      | refine aw_regK 0 [0, 1, 2, 3] ?_
      | refine aw_sregK 1 [0, 2] ?_
      | refine aw_regK 1 [0, 2] ?_
      | refine aw_sreg ?_
      | refine aw_sregD mixed ?_
      | refine aw_ifT (b := true) rfl rfl ?_
      | refine aw_ifF (b := false) rfl rfl ?_
      | refine aw_ifT rfl (by assumption) ?_
      | refine aw_ifF rfl (by assumption) ?_
      | refine aw_ifT rfl (decide_eq_true (by assumption)) ?_
      | refine aw_ifF rfl (decide_eq_false (by assumption)) ?_
      | refine aw_seq ?_
      | refine aw_block ?_
      | refine aw_skip ?_
      | refine aw_region ?_
      | refine aw_region_draw mixed ?_
      | refine aw_exit ?_
      | refine rq_exit ?_
      | refine blockQ_hit ?_
      | refine blockQ_miss (by decide) ?_
      | (refine ar_guard rfl rfl rfl rfl (fun h => ?_) (fun h => ?_) <;> (fail_if_success (cases h; done)) <;> (try simp at h) <;> (try subst h))
      | (refine aw_both rfl (fun h => ?_) (fun h => ?_) <;> (fail_if_success (cases h; done)) <;> (try simp at h) <;> (try subst h)))
  | m + 1, fm, hl, outs, hB => by
    have he : ¬(fm.length : Int) = (c.length : Int) := by omega
    have hlt : fm.length < c.length := by omega
    have hT := fun n => c_tell hc hcl m (fm ++ [n]) (by simp; omega)
    have hres : tellF c (m + 1) fm = (c.getD fm.length []).flatMap fun n => tellF c m (fm ++ [n]) := rfl
    rw [getD_in _ _ hlt] at hres
    rw [hres] at hB ⊢
    have hcl2 := hcl c[fm.length] (List.getElem_mem hlt)
    have hints : ∀ n, ints (fm ++ [n]) = ints fm ++ [[C .i64 n]] := fun n => by simp [ints]
    simp only [hints] at hT
    generalize hL : c[fm.length] = L at *
    generalize hg : (fun n => tellF c m (fm ++ [n])) = g at *
    have hgn : ∀ n, tellF c m (fm ++ [n]) = g n := fun n => by rw [← hg]
    simp only [hgn] at hT
    clear hgn hg
    refine scx_of Try.func70 rfl rfl rfl (Nat.le_of_ble_eq_true rfl) ?_
    repeat' (first
      | refine ar_end rfl ?_
      | refine ar_endD rfl (by kernel_rfl) ?_
      | refine ar_fin rfl ?_
      | refine ar_finD rfl (by kernel_rfl) ?_
      | refine ar_go3 _ rfl (by simp [ints_len, ints_getE, intsL_len, intsL_getE, he, hlt, hL]; exact ⟨rfl, rfl, rfl⟩) rfl ?_
      | refine aw_sregK 0 [0, 1, 2, 3] ?_
      | refine aw_regK 0 [0, 1, 2, 3] ?_
      | refine aw_sregK 2 [0, 1, 3] ?_
      | refine aw_regK 2 [0, 1, 3] ?_
      | refine aw_sreg ?_
      | refine aw_sregD mixed ?_
      | refine aw_ifT (b := true) rfl rfl ?_
      | refine aw_ifF (b := false) rfl rfl ?_
      | refine aw_ifT rfl (by assumption) ?_
      | refine aw_ifF rfl (by assumption) ?_
      | refine aw_ifT rfl (decide_eq_true (by assumption)) ?_
      | refine aw_ifF rfl (decide_eq_false (by assumption)) ?_
      | refine aw_seq ?_
      | refine aw_block ?_
      | refine aw_skip ?_
      | refine aw_region ?_
      | refine aw_region_draw mixed ?_
      | refine aw_exit ?_
      | refine rq_exit ?_
      | refine blockQ_hit ?_
      | refine blockQ_miss (by decide) ?_
      | (refine ar_guard rfl rfl rfl rfl (fun h => ?_) (fun h => ?_) <;> (fail_if_success (cases h; done)) <;> (try simp at h) <;> (try subst h))
      | (refine aw_both rfl (fun h => ?_) (fun h => ?_) <;> (fail_if_success (cases h; done)) <;> (try simp at h) <;> (try subst h)))
    have htk : List.take fm.length (ints fm) = ints fm := List.take_of_length_le (by simp [ints])
    refine aw_ren (.ext 3) (.loc 1000) (by simp; exact rfl) ?_
    refine aw_loopN [0, 3, 20, 21, 22] [.ext 0, .ext 1, .ext 2, .loc 1000] (by simp; exact rfl) (ι := {i : Nat // i ≤ L.length}) (fun i => ⟨38, [(0, .pv (.sl 1 (ints fm))), (3, .ptr (.ext 2) 0), (20, .pv (.sl 1 (ints L))), (21, I .i64 L.length), (22, I .i64 i.1)], [(.ext 0, some (.box 72 [.pv (.sl 1 (intsL c))])), (.ext 1, some (.box 72 [.own (.loc 1000)])), (.ext 2, some (.box 91 [.fn 70 [] [.ptr (.ext 0) 0, .ptr (.ext 1) 0, .ptr (.ext 2) 0]])), ((.loc 1000), some (.own 53 1 (intsL (outs ++ (L.take i.1).flatMap g))))]⟩) (fun i => L.length - i.1) ⟨0, by omega⟩ (by simp [ints_len]) ?_
    rintro ⟨i, hi⟩
    by_cases hil : i < L.length
    · have hw : IntKind.wrap .i64 ((i : Int) + 1) = (i : Int) + 1 := wrap64s (by omega) (by omega)
      have hd : (i : Int) < (L.length : Int) := by omega
      obtain ⟨hft, hfl⟩ := flat_take g hil
      generalize (L.take i).flatMap g = F at *
      generalize hx : L[i] = x at *
      have hT2 := hT x (outs ++ F) (by rw [List.length_append]; omega)
      generalize g x = G at *
      repeat' (first
        | refine ar_end rfl ?_
        | refine ar_endD rfl (by kernel_rfl) ?_
        | refine ar_fin rfl ?_
        | refine ar_finD rfl (by kernel_rfl) ?_
        | refine ar_appT rfl rfl rfl rfl (by simp; exact rfl) (by simp; exact ⟨rfl, rfl⟩) (by simp; exact rfl) (by simp; exact rfl) (by simp; first | exact rfl | exact ⟨rfl, rfl⟩) (by simp; exact rfl) (by simp; done) (by decide) (by simp) (by simp [ints_len, maxLen]; omega) ?_
        | refine ar_frzE [35] [.ext 0, .ext 1, .ext 2, .loc 1000] [.ext 0, .ext 1, .ext 2, .loc 36] [.loc 36] Try.call70 hT2 rfl rfl rfl rfl (by simp; exact rfl) (by simp; exact rfl) rfl (by simp; done) (by rfl) (by simp; fail_if_success (show _)) rfl ⟨by simp, by simp, (by simp [okY]; fail_if_success (show _)), by simp, by simp⟩ (by simp; fail_if_success (show _)) (by simp; done) ?_
        | refine bq_norm ?_
        | refine lq_normR (.loc 36) (.loc 1000) [0, 3, 20, 21, 22] [.ext 0, .ext 1, .ext 2, .loc 1000] (by simp; exact rfl) ⟨i + 1, by omega⟩ (by dsimp only; omega) (by simp [hft])
        | refine ar_go3 _ rfl (by simp [ints_len, ints_getE, intsL_len, intsL_getE, hil, hd, hx, hw, htk]; exact ⟨rfl, rfl, rfl⟩) rfl ?_
        | refine aw_sregK 3 [0, 3, 20, 21, 22] ?_
        | refine aw_regK 3 [0, 3, 20, 21, 22] ?_
        | refine aw_sregK 4 [0, 3, 20, 21, 22] ?_
        | refine aw_regK 4 [0, 3, 20, 21, 22] ?_
        | refine aw_sregKD mixed 5 [0, 3, 6, 20, 21, 22] (by simp; exact rfl) ?_
        | refine aw_regKD mixed 5 [0, 3, 6, 20, 21, 22] (by simp; exact rfl) ?_
        | refine aw_sregK 6 [0, 3, 20, 21, 22] ?_
        | refine aw_regK 6 [0, 3, 20, 21, 22] ?_
        | refine aw_sreg ?_
        | refine aw_sregD mixed ?_
        | refine aw_ifT (b := true) rfl rfl ?_
        | refine aw_ifF (b := false) rfl rfl ?_
        | refine aw_ifT rfl (by assumption) ?_
        | refine aw_ifF rfl (by assumption) ?_
        | refine aw_ifT rfl (decide_eq_true (by assumption)) ?_
        | refine aw_ifF rfl (decide_eq_false (by assumption)) ?_
        | refine aw_seq ?_
        | refine aw_block ?_
        | refine aw_skip ?_
        | refine aw_region ?_
        | refine aw_region_draw mixed ?_
        | refine aw_exit ?_
        | refine rq_exit ?_
        | refine blockQ_hit ?_
        | refine blockQ_miss (by decide) ?_
        | (refine ar_guard rfl rfl rfl rfl (fun h => ?_) (fun h => ?_) <;> (fail_if_success (cases h; done)) <;> (try simp at h) <;> (try subst h))
        | (refine aw_both rfl (fun h => ?_) (fun h => ?_) <;> (fail_if_success (cases h; done)) <;> (try simp at h) <;> (try subst h)))
    · have hd : ¬(i : Int) < (L.length : Int) := by omega
      have hie : L.take i = L := List.take_of_length_le (by omega)
      rw [hie]
      repeat' (first
        | refine ar_end rfl ?_
        | refine ar_endD rfl (by kernel_rfl) ?_
        | refine ar_fin rfl ?_
        | refine ar_finD rfl (by kernel_rfl) ?_
        | refine lq_exit ?_
        | exact ret_rens .normal (.inl rfl) [(.loc 1000, .ext 3)] [.ext 0, .ext 1, .ext 2, .ext 3] (by simp; exact rfl) (by simp; exact rfl) rfl (by simp []; fail_if_success (show _)) (by simp)
        | refine ar_go3 _ rfl (by simp [ints_len, ints_getE, intsL_len, intsL_getE, hd]; exact ⟨rfl, rfl, rfl⟩) rfl ?_
        | refine aw_sregK 3 [0, 3, 20, 21, 22] ?_
        | refine aw_regK 3 [0, 3, 20, 21, 22] ?_
        | refine aw_sreg ?_
        | refine aw_sregD mixed ?_
        | refine aw_ifT (b := true) rfl rfl ?_
        | refine aw_ifF (b := false) rfl rfl ?_
        | refine aw_ifT rfl (by assumption) ?_
        | refine aw_ifF rfl (by assumption) ?_
        | refine aw_ifT rfl (decide_eq_true (by assumption)) ?_
        | refine aw_ifF rfl (decide_eq_false (by assumption)) ?_
        | refine aw_seq ?_
        | refine aw_block ?_
        | refine aw_skip ?_
        | refine aw_region ?_
        | refine aw_region_draw mixed ?_
        | refine aw_exit ?_
        | refine rq_exit ?_
        | refine blockQ_hit ?_
        | refine blockQ_miss (by decide) ?_
        | (refine ar_guard rfl rfl rfl rfl (fun h => ?_) (fun h => ?_) <;> (fail_if_success (cases h; done)) <;> (try simp at h) <;> (try subst h))
        | (refine aw_both rfl (fun h => ?_) (fun h => ?_) <;> (fail_if_success (cases h; done)) <;> (try simp at h) <;> (try subst h)))
end Go.Eng
set_option linter.unusedSimpArgs false
set_option linter.unusedVariables false
set_option linter.constructorNameAsVariable false
set_option autoImplicit false
namespace Go.Eng
open Go Go.RowKit Go.Proofs
set_option maxHeartbeats 16000000 in
theorem c_tell0 {c : List (List Int)} (hc : c.length ≤ 1000) (hcl : ∀ l ∈ c, l.length ≤ 1000) (hB : (tellF c c.length []).length ≤ 20000) : SCX Try.prog 70 [.pv (.v (.slice none 0 0)), .ptr (.ext 0) 0, .ptr (.ext 1) 0, .ptr (.ext 2) 0] [(.ext 0, some (.box 72 [.pv (.sl 1 (intsL c))])), (.ext 1, some (.box 72 [.pv (.v (.slice none 0 0))])), (.ext 2, some (.box 91 [.fn 70 [] [.ptr (.ext 0) 0, .ptr (.ext 1) 0, .ptr (.ext 2) 0]]))] (.tup []) [(.ext 0, some (.box 72 [.pv (.sl 1 (intsL c))])), (.ext 1, some (.box 72 [.own (.ext 3)])), (.ext 2, some (.box 91 [.fn 70 [] [.ptr (.ext 0) 0, .ptr (.ext 1) 0, .ptr (.ext 2) 0]])), ((.ext 3), some (.own 53 1 (intsL (tellF c c.length []))))] := by
  have h := c_tell hc hcl c.length [] (by simp) [] (by simpa using hB)
  rw [List.nil_append] at h
  refine SCX.pre (args' := [.pv (.sl 1 (ints [])), .ptr (.ext 0) 0, .ptr (.ext 1) 0, .ptr (.ext 2) 0]) ?_ rfl h
  refine (Sub.nilSl _ 0 1).trans ((Sub.ownNilC _ (.ext 1) 0 (.ext 3) 53 1).trans (Sub.of ?_ (fun p hp => ?_) (fun p hp => ?_)))
  · simp [AState.nilSl, AState.ownNilC, isNilV, ints, intsL]
  · simp [AState.nilSl, AState.ownNilC, isNilV, ints, intsL] at hp ⊢
    rcases hp with rfl | rfl | rfl | rfl <;> simp
  · simp [AState.nilSl, AState.ownNilC, isNilV, ints, intsL] at hp ⊢
    rcases hp with rfl | rfl | rfl | rfl <;> simp
set_option maxHeartbeats 16000000 in
theorem c_srcAll0 {es : List Ev} {init : List Int} {c : List (List Int)} (hC : SC Try.prog 69 [.agg (exL es), .pv (.sl 1 (ints init))] (.pv (.sl 1 (intsL c)))) (hcn : c.length ≤ 1000) (hcl : ∀ l ∈ c, l.length ≤ 1000) (hov : ∃ i, i ≤ c.length ∧ 20000 < manyL c i) : SC Try.prog 43 [.agg (exL es), .pv (.sl 1 (ints init))] (.pv (.sl 1 (intsL []))) := by
  obtain ⟨q, hq1, hq2⟩ := hov
  have h00 : ∀ j, j ≤ 0 → manyL c j ≤ 20000 := fun j hj => by
    have : j = 0 := by omega
    subst this; show 1 ≤ 20000; decide
  refine scx_of Try.func43 rfl rfl rfl (Nat.le_of_ble_eq_true rfl) ?_
  repeat' (first
    | refine ar_end rfl ?_
    | refine ar_endD rfl (by kernel_rfl) ?_
    | refine ar_fin rfl ?_
    | refine ar_finD rfl (by kernel_rfl) ?_
    | refine ar_callV Try.call69 hC rfl rfl rfl rfl rfl (by simp; done) (by rfl) (by simp; done) ?_
    | refine ar_callV_if Try.call69 hC rfl rfl rfl rfl rfl rfl (by simp; done) rfl (by rfl) (by simp; done) ?_
    | refine ar_go3 _ rfl (by simp [evsL_len, evsL_getE, evL, prs_len, prs_getE, ints_len, ints_getE, intsL_len, intsL_getE]; exact ⟨rfl, rfl, rfl⟩) rfl ?_
    | refine aw_sregK 0 [0, 1] ?_
    | refine aw_regK 0 [0, 1] ?_
    | refine aw_sregK 1 [1, 2] ?_
    | refine aw_regK 1 [1, 2] ?_
    | refine aw_sregK 2 [5] ?_
    | refine aw_regK 2 [5] ?_
    | refine aw_sregK 3 [5, 6] ?_
    | refine aw_regK 3 [5, 6] ?_
    | refine aw_sreg ?_
    | refine aw_sregD mixed ?_
    | refine aw_ifT (b := true) rfl rfl ?_
    | refine aw_ifF (b := false) rfl rfl ?_
    | refine aw_ifT rfl (by assumption) ?_
    | refine aw_ifF rfl (by assumption) ?_
    | refine aw_ifT rfl (decide_eq_true (by assumption)) ?_
    | refine aw_ifF rfl (decide_eq_false (by assumption)) ?_
    | refine aw_seq ?_
    | refine aw_block ?_
    | refine aw_skip ?_
    | refine aw_region ?_
    | refine aw_region_draw mixed ?_
    | refine aw_exit ?_
    | refine rq_exit ?_
    | refine blockQ_hit ?_
    | refine blockQ_miss (by decide) ?_
    | (refine ar_guard rfl rfl rfl rfl (fun h => ?_) (fun h => ?_) <;> (fail_if_success (cases h; done)) <;> (try simp at h) <;> (try subst h))
    | (refine aw_both rfl (fun h => ?_) (fun h => ?_) <;> (fail_if_success (cases h; done)) <;> (try simp at h) <;> (try subst h)))
  refine aw_loopN [5, 6, 14, 15, 16] [.loc 5] (by simp; exact rfl) (ι := {i : Nat // i ≤ c.length ∧ ∀ j, j ≤ i → manyL c j ≤ 20000}) (fun i => ⟨33, [(5, .ptr (.loc 5) 0), (6, I .i64 (manyL c i.1)), (14, .pv (.sl 1 (intsL c))), (15, I .i64 c.length), (16, I .i64 i.1)], [(.loc 5, some (.box 72 [.pv (.sl 1 (intsL c))]))]⟩) (fun i => c.length - i.1) ⟨0, by omega, h00⟩ (by simp [manyL, intsL_len]) ?_
  rintro ⟨i, hi, hinv⟩
  by_cases hlt : i < c.length
  · have hw : IntKind.wrap .i64 ((i : Int) + 1) = (i : Int) + 1 := wrap64s (by omega) (by omega)
    have hd : (i : Int) < (c.length : Int) := by omega
    have hst : manyL c (i + 1) = manyL c i * (c.getD i []).length := rfl
    rw [getD_in _ _ hlt] at hst
    have hxl := hcl c[i] (List.getElem_mem hlt)
    generalize hx : c[i] = x at *
    have hup : manyL c i * x.length ≤ 20000 * 1000 := Nat.mul_le_mul (hinv i (Nat.le_refl _)) hxl
    have hmw : IntKind.wrap .i64 ((manyL c i : Int) * (x.length : Int)) = ((manyL c (i + 1) : Nat) : Int) := by
      rw [hst]
      have e : ((manyL c i * x.length : Nat) : Int) = (manyL c i : Int) * (x.length : Int) := Int.natCast_mul ..
      rw [← e]
      exact wrap64s (by omega) (by omega)
    clear hst hup
    by_cases h20 : manyL c (i + 1) ≤ 20000
    · have h20' : ¬(20000 : Int) < ((manyL c (i + 1) : Nat) : Int) := by omega
      have hinv2 : ∀ j, j ≤ i + 1 → manyL c j ≤ 20000 := fun j hj => by
        by_cases e : j = i + 1
        · subst e; exact h20
        · exact hinv j (by omega)
      repeat' (first
        | refine ar_end rfl ?_
        | refine ar_endD rfl (by kernel_rfl) ?_
        | refine ar_fin rfl ?_
        | refine ar_finD rfl (by kernel_rfl) ?_
        | refine bq_norm ?_
        | refine lq_normN [5, 6, 14, 15, 16] [.loc 5] (by simp; exact rfl) ⟨i + 1, by omega, hinv2⟩ (by dsimp only; omega) (by simp [hd])
        | refine ar_go3 _ rfl (by simp [ints_len, ints_getE, intsL_len, intsL_getE, hlt, hd, hx, hw, hmw, h20']; exact ⟨rfl, rfl, rfl⟩) rfl ?_
        | refine aw_sregK 4 [5, 6, 14, 15, 16] ?_
        | refine aw_regK 4 [5, 6, 14, 15, 16] ?_
        | refine aw_sregK 5 [5, 6, 14, 15, 16] ?_
        | refine aw_regK 5 [5, 6, 14, 15, 16] ?_
        | refine aw_sregK 6 [5, 6, 8, 14, 15, 16] ?_
        | refine aw_regK 6 [5, 6, 8, 14, 15, 16] ?_
        | refine aw_sregK 7 [5, 6, 14, 15, 16] ?_
        | refine aw_regK 7 [5, 6, 14, 15, 16] ?_
        | refine aw_sregK 9 [5, 6, 14, 15, 16] ?_
        | refine aw_regK 9 [5, 6, 14, 15, 16] ?_
        | refine aw_sreg ?_
        | refine aw_sregD mixed ?_
        | refine aw_ifT (b := true) rfl rfl ?_
        | refine aw_ifF (b := false) rfl rfl ?_
        | refine aw_ifT rfl (by assumption) ?_
        | refine aw_ifF rfl (by assumption) ?_
        | refine aw_ifT rfl (decide_eq_true (by assumption)) ?_
        | refine aw_ifF rfl (decide_eq_false (by assumption)) ?_
        | refine aw_seq ?_
        | refine aw_block ?_
        | refine aw_skip ?_
        | refine aw_region ?_
        | refine aw_region_draw mixed ?_
        | refine aw_exit ?_
        | refine rq_exit ?_
        | refine blockQ_hit ?_
        | refine blockQ_miss (by decide) ?_
        | (refine ar_guard rfl rfl rfl rfl (fun h => ?_) (fun h => ?_) <;> (fail_if_success (cases h; done)) <;> (try simp at h) <;> (try subst h))
        | (refine aw_both rfl (fun h => ?_) (fun h => ?_) <;> (fail_if_success (cases h; done)) <;> (try simp at h) <;> (try subst h)))
    · have h20' : (20000 : Int) < ((manyL c (i + 1) : Nat) : Int) := by omega
      repeat' (first
        | refine ar_end rfl ?_
        | refine ar_endD rfl (by kernel_rfl) ?_
        | refine ar_fin rfl ?_
        | refine ar_finD rfl (by kernel_rfl) ?_
        | exact aw_ret (ret_nil 4 1 (by simp; exact rfl) (by simp [intsL]; fail_if_success (show _)))
        | refine ar_go3 _ rfl (by simp [ints_len, ints_getE, intsL_len, intsL_getE, hlt, hd, hx, hw, hmw, h20']; exact ⟨rfl, rfl, rfl⟩) rfl ?_
        | refine aw_sregK 4 [5, 6, 14, 15, 16] ?_
        | refine aw_regK 4 [5, 6, 14, 15, 16] ?_
        | refine aw_sregK 5 [5, 6, 14, 15, 16] ?_
        | refine aw_regK 5 [5, 6, 14, 15, 16] ?_
        | refine aw_sregK 6 [5, 6, 8, 14, 15, 16] ?_
        | refine aw_regK 6 [5, 6, 8, 14, 15, 16] ?_
        | refine aw_sregK 7 [5, 6, 14, 15, 16] ?_
        | refine aw_regK 7 [5, 6, 14, 15, 16] ?_
        | refine aw_sregK 8 [] ?_
        | refine aw_regK 8 [] ?_
        | refine aw_sreg ?_
        | refine aw_sregD mixed ?_
        | refine aw_ifT (b := true) rfl rfl ?_
        | refine aw_ifF (b := false) rfl rfl ?_
        | refine aw_ifT rfl (by assumption) ?_
        | refine aw_ifF rfl (by assumption) ?_
        | refine aw_ifT rfl (decide_eq_true (by assumption)) ?_
        | refine aw_ifF rfl (decide_eq_false (by assumption)) ?_
        | refine aw_seq ?_
        | refine aw_block ?_
        | refine aw_skip ?_
        | refine aw_region ?_
        | refine aw_region_draw mixed ?_
        | refine aw_exit ?_
        | refine rq_exit ?_
        | refine blockQ_hit ?_
        | refine blockQ_miss (by decide) ?_
        | (refine ar_guard rfl rfl rfl rfl (fun h => ?_) (fun h => ?_) <;> (fail_if_success (cases h; done)) <;> (try simp at h) <;> (try subst h))
        | (refine aw_both rfl (fun h => ?_) (fun h => ?_) <;> (fail_if_success (cases h; done)) <;> (try simp at h) <;> (try subst h)))
  · have := hinv q (by omega)
    omega
set_option maxHeartbeats 16000000 in
theorem c_srcAll1 {es : List Ev} {init : List Int} {c : List (List Int)} (hC : SC Try.prog 69 [.agg (exL es), .pv (.sl 1 (ints init))] (.pv (.sl 1 (intsL c)))) (hcn : c.length ≤ 1000) (hcl : ∀ l ∈ c, l.length ≤ 1000) (hov : ∀ i, i ≤ c.length → manyL c i ≤ 20000) : SC Try.prog 43 [.agg (exL es), .pv (.sl 1 (ints init))] (.pv (.sl 1 (intsL (if manyL c c.length = 0 then [] else tellF c c.length [])))) := by
  have htl : (tellF c c.length []).length = manyL c c.length := by
    have := tellF_len c c.length [] (by simp)
    simpa [manyL] using this
  have hT := c_tell0 hcn hcl (by rw [htl]; exact hov _ (Nat.le_refl _))
  refine scx_of Try.func43 rfl rfl rfl (Nat.le_of_ble_eq_true rfl) ?_
  repeat' (first
    | refine ar_end rfl ?_
    | refine ar_endD rfl (by kernel_rfl) ?_
    | refine ar_fin rfl ?_
    | refine ar_finD rfl (by kernel_rfl) ?_
    | refine ar_callV Try.call69 hC rfl rfl rfl rfl rfl (by simp; done) (by rfl) (by simp; done) ?_
    | refine ar_callV_if Try.call69 hC rfl rfl rfl rfl rfl rfl (by simp; done) rfl (by rfl) (by simp; done) ?_
    | refine ar_go3 _ rfl (by simp [evsL_len, evsL_getE, evL, prs_len, prs_getE, ints_len, ints_getE, intsL_len, intsL_getE]; exact ⟨rfl, rfl, rfl⟩) rfl ?_
    | refine aw_sregK 0 [0, 1] ?_
    | refine aw_regK 0 [0, 1] ?_
    | refine aw_sregK 1 [1, 2] ?_
    | refine aw_regK 1 [1, 2] ?_
    | refine aw_sregK 2 [5] ?_
    | refine aw_regK 2 [5] ?_
    | refine aw_sregK 3 [5, 6] ?_
    | refine aw_regK 3 [5, 6] ?_
    | refine aw_sreg ?_
    | refine aw_sregD mixed ?_
    | refine aw_ifT (b := true) rfl rfl ?_
    | refine aw_ifF (b := false) rfl rfl ?_
    | refine aw_ifT rfl (by assumption) ?_
    | refine aw_ifF rfl (by assumption) ?_
    | refine aw_ifT rfl (decide_eq_true (by assumption)) ?_
    | refine aw_ifF rfl (decide_eq_false (by assumption)) ?_
    | refine aw_seq ?_
    | refine aw_block ?_
    | refine aw_skip ?_
    | refine aw_region ?_
    | refine aw_region_draw mixed ?_
    | refine aw_exit ?_
    | refine rq_exit ?_
    | refine blockQ_hit ?_
    | refine blockQ_miss (by decide) ?_
    | (refine ar_guard rfl rfl rfl rfl (fun h => ?_) (fun h => ?_) <;> (fail_if_success (cases h; done)) <;> (try simp at h) <;> (try subst h))
    | (refine aw_both rfl (fun h => ?_) (fun h => ?_) <;> (fail_if_success (cases h; done)) <;> (try simp at h) <;> (try subst h)))
  refine aw_loopN [5, 6, 14, 15, 16] [.loc 5] (by simp; exact rfl) (ι := {i : Nat // i ≤ c.length}) (fun i => ⟨33, [(5, .ptr (.loc 5) 0), (6, I .i64 (manyL c i.1)), (14, .pv (.sl 1 (intsL c))), (15, I .i64 c.length), (16, I .i64 i.1)], [(.loc 5, some (.box 72 [.pv (.sl 1 (intsL c))]))]⟩) (fun i => c.length - i.1) ⟨0, by omega⟩ (by simp [manyL, intsL_len]) ?_
  rintro ⟨i, hi⟩
  by_cases hlt : i < c.length
  · have hw : IntKind.wrap .i64 ((i : Int) + 1) = (i : Int) + 1 := wrap64s (by omega) (by omega)
    have hd : (i : Int) < (c.length : Int) := by omega
    have hst : manyL c (i + 1) = manyL c i * (c.getD i []).length := rfl
    rw [getD_in _ _ hlt] at hst
    have hxl := hcl c[i] (List.getElem_mem hlt)
    generalize hx : c[i] = x at *
    have hup : manyL c i * x.length ≤ 20000 * 1000 := Nat.mul_le_mul (hov i (by omega)) hxl
    have hmw : IntKind.wrap .i64 ((manyL c i : Int) * (x.length : Int)) = ((manyL c (i + 1) : Nat) : Int) := by
      rw [hst]
      have e : ((manyL c i * x.length : Nat) : Int) = (manyL c i : Int) * (x.length : Int) := Int.natCast_mul ..
      rw [← e]
      exact wrap64s (by omega) (by omega)
    clear hst hup
    have h20 := hov (i + 1) (by omega)
    have h20' : ¬(20000 : Int) < ((manyL c (i + 1) : Nat) : Int) := by omega
    repeat' (first
      | refine ar_end rfl ?_
      | refine ar_endD rfl (by kernel_rfl) ?_
      | refine ar_fin rfl ?_
      | refine ar_finD rfl (by kernel_rfl) ?_
      | refine bq_norm ?_
      | refine lq_normN [5, 6, 14, 15, 16] [.loc 5] (by simp; exact rfl) ⟨i + 1, by omega⟩ (by dsimp only; omega) (by simp [hd])
      | refine ar_go3 _ rfl (by simp [ints_len, ints_getE, intsL_len, intsL_getE, hlt, hd, hx, hw, hmw, h20']; exact ⟨rfl, rfl, rfl⟩) rfl ?_
      | refine aw_sregK 4 [5, 6, 14, 15, 16] ?_
      | refine aw_regK 4 [5, 6, 14, 15, 16] ?_
      | refine aw_sregK 5 [5, 6, 14, 15, 16] ?_
      | refine aw_regK 5 [5, 6, 14, 15, 16] ?_
      | refine aw_sregK 6 [5, 6, 8, 14, 15, 16] ?_
      | refine aw_regK 6 [5, 6, 8, 14, 15, 16] ?_
      | refine aw_sregK 7 [5, 6, 14, 15, 16] ?_
      | refine aw_regK 7 [5, 6, 14, 15, 16] ?_
      | refine aw_sregK 9 [5, 6, 14, 15, 16] ?_
      | refine aw_regK 9 [5, 6, 14, 15, 16] ?_
      | refine aw_sreg ?_
      | refine aw_sregD mixed ?_
      | refine aw_ifT (b := true) rfl rfl ?_
      | refine aw_ifF (b := false) rfl rfl ?_
      | refine aw_ifT rfl (by assumption) ?_
      | refine aw_ifF rfl (by assumption) ?_
      | refine aw_ifT rfl (decide_eq_true (by assumption)) ?_
      | refine aw_ifF rfl (decide_eq_false (by assumption)) ?_
      | refine aw_seq ?_
      | refine aw_block ?_
      | refine aw_skip ?_
      | refine aw_region ?_
      | refine aw_region_draw mixed ?_
      | refine aw_exit ?_
      | refine rq_exit ?_
      | refine blockQ_hit ?_
      | refine blockQ_miss (by decide) ?_
      | (refine ar_guard rfl rfl rfl rfl (fun h => ?_) (fun h => ?_) <;> (fail_if_success (cases h; done)) <;> (try simp at h) <;> (try subst h))
      | (refine aw_both rfl (fun h => ?_) (fun h => ?_) <;> (fail_if_success (cases h; done)) <;> (try simp at h) <;> (try subst h)))
  · have hd : ¬(i : Int) < (c.length : Int) := by omega
    have hie : i = c.length := by omega
    subst hie
    by_cases h0 : manyL c c.length = 0
    · rw [if_pos h0]
      have h0' : ((manyL c c.length : Nat) : Int) = 0 := by omega
      repeat' (first
        | refine ar_end rfl ?_
        | refine ar_endD rfl (by kernel_rfl) ?_
        | refine ar_fin rfl ?_
        | refine ar_finD rfl (by kernel_rfl) ?_
        | refine lq_exit ?_
        | exact aw_ret (ret_nil 4 1 (by simp; exact rfl) (by simp [intsL]; fail_if_success (show _)))
        | refine ar_go3 _ rfl (by simp [ints_len, ints_getE, intsL_len, intsL_getE, hd, h0, h0']; exact ⟨rfl, rfl, rfl⟩) rfl ?_
        | refine aw_sregK 4 [5, 6, 14, 15, 16] ?_
        | refine aw_regK 4 [5, 6, 14, 15, 16] ?_
        | refine aw_sregK 10 [5, 6] ?_
        | refine aw_regK 10 [5, 6] ?_
        | refine aw_sregK 11 [] ?_
        | refine aw_regK 11 [] ?_
        | refine aw_sreg ?_
        | refine aw_sregD mixed ?_
        | refine aw_ifT (b := true) rfl rfl ?_
        | refine aw_ifF (b := false) rfl rfl ?_
        | refine aw_ifT rfl (by assumption) ?_
        | refine aw_ifF rfl (by assumption) ?_
        | refine aw_ifT rfl (decide_eq_true (by assumption)) ?_
        | refine aw_ifF rfl (decide_eq_false (by assumption)) ?_
        | refine aw_seq ?_
        | refine aw_block ?_
        | refine aw_skip ?_
        | refine aw_region ?_
        | refine aw_region_draw mixed ?_
        | refine aw_exit ?_
        | refine rq_exit ?_
        | refine blockQ_hit ?_
        | refine blockQ_miss (by decide) ?_
        | (refine ar_guard rfl rfl rfl rfl (fun h => ?_) (fun h => ?_) <;> (fail_if_success (cases h; done)) <;> (try simp at h) <;> (try subst h))
        | (refine aw_both rfl (fun h => ?_) (fun h => ?_) <;> (fail_if_success (cases h; done)) <;> (try simp at h) <;> (try subst h)))
    · rw [if_neg h0]
      have h0' : ¬((manyL c c.length : Nat) : Int) = 0 := by omega
      generalize tellF c c.length [] = W at *
      repeat' (first
        | refine ar_end rfl ?_
        | refine ar_endD rfl (by kernel_rfl) ?_
        | refine ar_fin rfl ?_
        | refine ar_finD rfl (by kernel_rfl) ?_
        | refine lq_exit ?_
        | refine ar_callE [.loc 5, .loc 9, .loc 10] [.loc 5, .loc 9, .loc 10, .loc 31] [.loc 31] Try.call70 hT rfl rfl rfl rfl (by simp; exact rfl) rfl (by simp; done) (by rfl) (by simp; fail_if_success (show _)) rfl ⟨by simp, by simp, (by simp [okY]; fail_if_success (show _)), by simp, by simp⟩ (by simp; fail_if_success (show _)) ?_
        | exact aw_ret (ret_frz (.loc 31) (by simp; exact rfl) (by simp; fail_if_success (show _)))
        | refine ar_go3 _ rfl (by simp [ints_len, ints_getE, intsL_len, intsL_getE, hd, h0, h0']; exact ⟨rfl, rfl, rfl⟩) rfl ?_
        | refine aw_sregK 4 [5, 6, 14, 15, 16] ?_
        | refine aw_regK 4 [5, 6, 14, 15, 16] ?_
        | refine aw_sregK 10 [5, 6] ?_
        | refine aw_regK 10 [5, 6] ?_
        | refine aw_sregK 12 [5] ?_
        | refine aw_regK 12 [5] ?_
        | refine aw_sregK 13 [5, 9] ?_
        | refine aw_regK 13 [5, 9] ?_
        | refine aw_sregK 14 [5, 9, 10] ?_
        | refine aw_regK 14 [5, 9, 10] ?_
        | refine aw_sregK 15 [9, 10] ?_
        | refine aw_regK 15 [9, 10] ?_
        | refine aw_sregK 16 [9] ?_
        | refine aw_regK 16 [9] ?_
        | refine aw_sreg ?_
        | refine aw_sregD mixed ?_
        | refine aw_ifT (b := true) rfl rfl ?_
        | refine aw_ifF (b := false) rfl rfl ?_
        | refine aw_ifT rfl (by assumption) ?_
        | refine aw_ifF rfl (by assumption) ?_
        | refine aw_ifT rfl (decide_eq_true (by assumption)) ?_
        | refine aw_ifF rfl (decide_eq_false (by assumption)) ?_
        | refine aw_seq ?_
        | refine aw_block ?_
        | refine aw_skip ?_
        | refine aw_region ?_
        | refine aw_region_draw mixed ?_
        | refine aw_exit ?_
        | refine rq_exit ?_
        | refine blockQ_hit ?_
        | refine blockQ_miss (by decide) ?_
        | (refine ar_guard rfl rfl rfl rfl (fun h => ?_) (fun h => ?_) <;> (fail_if_success (cases h; done)) <;> (try simp at h) <;> (try subst h))
        | (refine aw_both rfl (fun h => ?_) (fun h => ?_) <;> (fail_if_success (cases h; done)) <;> (try simp at h) <;> (try subst h)))
set_option maxHeartbeats 16000000 in
theorem c_srcAll {es : List Ev} {init : List Int} (h32 : es.length ≤ 32) : ∃ W : List (List Int), SC Try.prog 43 [.agg (exL es), .pv (.sl 1 (ints init))] (.pv (.sl 1 (intsL W))) ∧ W.length ≤ 20000 ∧ ∀ w ∈ W, w.length = es.length ∧ ∀ i, (h : i < w.length) → (h2 : i < es.length) → w[i] ∈ choiceX es init es[i] := by
  have hC := c_choices (es := es) (init := init) h32
  have hcn : (choicesF es init).length = es.length := by simp [choicesF]
  have hcl : ∀ l ∈ choicesF es init, l.length ≤ 1000 := fun l hl => by
    obtain ⟨x, _, rfl⟩ := List.mem_map.1 hl
    exact Nat.le_trans (choiceX_len es init x) (by omega)
  by_cases hov : ∃ i, i ≤ (choicesF es init).length ∧ 20000 < manyL (choicesF es init) i
  · exact ⟨[], c_srcAll0 hC (by omega) hcl hov, by simp, fun w hw => by cases hw⟩
  · have hov2 : ∀ i, i ≤ (choicesF es init).length → manyL (choicesF es init) i ≤ 20000 := fun i hi => by
      by_cases h : manyL (choicesF es init) i ≤ 20000
      · exact h
      · exact absurd ⟨i, hi, by omega⟩ hov
    refine ⟨_, c_srcAll1 hC (by omega) hcl hov2, ?_, ?_⟩
    · split
      · simp
      · have := tellF_len (choicesF es init) (choicesF es init).length [] (by simp)
        have h2 := hov2 _ (Nat.le_refl _)
        simp [manyL] at this
        omega
    · intro w hw
      split at hw
      · cases hw
      · obtain ⟨h1, h2⟩ := tellF_ok (choicesF es init) _ [] (by simp) (fun i h => by simp at h) w hw
        refine ⟨by omega, fun i h h3 => ?_⟩
        have := h2 i h (by omega)
        simpa [choicesF] using this
end Go.Eng
