import Derived.Test.YtamjcdfjkekdjaaKitRef
set_option linter.unusedSimpArgs false
set_option linter.unusedVariables false
set_option linter.constructorNameAsVariable false
set_option autoImplicit false
namespace Go.Eng
open Go Go.RowKit Go.Proofs
theorem may_facts {op d a b l m behind locs : Int} (h : mayF op d a b l m behind locs = true) :
    (hasD op = true → 0 ≤ d ∧ d ≤ 3) ∧ (hasA op = true → -1 ≤ a ∧ a ≤ 3) ∧ (hasB op = true → 0 ≤ b ∧ b ≤ 3) ∧ named op = true := by
  have hi : hasI op = true → named op = true := by unfold hasI named; simp; omega
  simp only [mayF, Bool.and_eq_true] at h
  obtain ⟨h1, h2, h3, h4, h5⟩ := h
  refine ⟨fun e => ?_, fun e => ?_, fun e => ?_, ?_⟩
  · rw [e] at h1; unfold okF betw at h1; simp at h1; omega
  · rw [e] at h2; unfold okF betw at h2; simp at h2; split at h2 <;> omega
  · rw [e] at h3; unfold okF betw at h3; simp at h3; omega
  · cases e : hasI op
    · rw [e] at h5; simp at h5; exact h5.1
    · exact hi e
theorem uses3 (op a b : Int) : usesL op a b = [] ∨ (∃ x, usesL op a b = [x] ∧ (hasA op = true ∧ x = a ∧ 0 ≤ a ∨ hasB op = true ∧ x = b ∧ 0 ≤ b)) ∨ (usesL op a b = [a, b] ∧ hasA op = true ∧ 0 ≤ a ∧ hasB op = true ∧ 0 ≤ b) := by
  unfold usesL useL
  by_cases h1 : hasA op = true ∧ 0 ≤ a <;> by_cases h2 : hasB op = true ∧ 0 ≤ b
  · rw [if_pos h1, if_pos h2]; exact .inr (.inr ⟨rfl, h1.1, h1.2, h2.1, h2.2⟩)
  · rw [if_pos h1, if_neg h2]; exact .inr (.inl ⟨a, rfl, .inl ⟨h1.1, rfl, h1.2⟩⟩)
  · rw [if_neg h1, if_pos h2]; exact .inr (.inl ⟨b, rfl, .inr ⟨h2.1, rfl, h2.2⟩⟩)
  · rw [if_neg h1, if_neg h2]; exact .inl rfl
set_option maxHeartbeats 16000000 in
theorem law_InsRegs_0 {op d a b l m behind locs  : Int} (hm : mayF op d a b l m behind locs = true) (g0 : -1 ≤ givesF op d) (g3 : givesF op d ≤ 3) (k2 : kindF op = 2 → (decide (0 ≤ givesF op d) == decide (op = 10)) = true) (k1 : kindF op = 1 → 0 ≤ givesF op d) (hn : named op = true) (hu : usesL op a b = [])  : SC Try.prog 8 [.agg [C .i64 op, C .i64 d, C .i64 a, C .i64 b, C .i64 l, C .i64 m], I .i64 behind, I .i64 locs] (B true) := by
  refine scx_of Try.func8 rfl rfl rfl (Nat.le_of_ble_eq_true rfl) ?_
  repeat' (first
    | exact aw_ret (ret_vals (by simp; exact rfl) (by simp [nameE2, *]; fail_if_success (show _)))
    | exact aw_ret (ret_vals (by simp; exact rfl) (by simp [nameE2, *]; omega))
    | refine ar_end rfl ?_
    | refine ar_endD rfl (by kernel_rfl) ?_
    | refine ar_fin rfl ?_
    | refine ar_finD rfl (by kernel_rfl) ?_
    | refine ar_callV Try.call41 c_shown1 rfl rfl rfl rfl rfl (by simp; done) (by rfl) (by simp; done) ?_
    | refine ar_callV_if Try.call41 c_shown1 rfl rfl rfl rfl rfl rfl (by simp; done) rfl (by rfl) (by simp; done) ?_
    | refine ar_callV Try.call51 c_May rfl rfl rfl rfl rfl (by simp; done) (by rfl) (by simp; done) ?_
    | refine ar_callV_if Try.call51 c_May rfl rfl rfl rfl rfl rfl (by simp; done) rfl (by rfl) (by simp; done) ?_
    | refine ar_callV Try.call47 c_UsesI rfl rfl rfl rfl rfl (by simp; done) (by rfl) (by simp; done) ?_
    | refine ar_callV_if Try.call47 c_UsesI rfl rfl rfl rfl rfl rfl (by simp; done) rfl (by rfl) (by simp; done) ?_
    | refine ar_callV Try.call49 c_Gives rfl rfl rfl rfl rfl (by simp; done) (by rfl) (by simp; done) ?_
    | refine ar_callV_if Try.call49 c_Gives rfl rfl rfl rfl rfl rfl (by simp; done) rfl (by rfl) (by simp; done) ?_
    | refine ar_callV Try.call44 c_ins_Kind rfl rfl rfl rfl rfl (by simp; done) (by rfl) (by simp; done) ?_
    | refine ar_callV_if Try.call44 c_ins_Kind rfl rfl rfl rfl rfl rfl (by simp; done) rfl (by rfl) (by simp; done) ?_
    | refine ar_callV Try.call42 c_Name rfl rfl rfl rfl rfl (by simp; done) (by rfl) (by simp; done) ?_
    | refine ar_callV_if Try.call42 c_Name rfl rfl rfl rfl rfl rfl (by simp; done) rfl (by rfl) (by simp; done) ?_
    | refine ar_go3 _ rfl (by simp [nameE2, ints, wrap64s, *]; exact ⟨rfl, rfl, rfl⟩) rfl ?_
    | refine aw_sregK 0 [0, 1, 2] ?_
    | refine aw_regK 0 [0, 1, 2] ?_
    | refine aw_sregK 1 [1, 2, 3] ?_
    | refine aw_regK 1 [1, 2, 3] ?_
    | refine aw_sregK 2 [1, 2, 3, 7] ?_
    | refine aw_regK 2 [1, 2, 3, 7] ?_
    | refine aw_sregK 3 [7] ?_
    | refine aw_regK 3 [7] ?_
    | refine aw_sregK 4 [3, 7] ?_
    | refine aw_regK 4 [3, 7] ?_
    | refine aw_sregK 5 [3, 7, 8] ?_
    | refine aw_regK 5 [3, 7, 8] ?_
    | refine aw_sregK 6 [3, 7, 8, 9] ?_
    | refine aw_regK 6 [3, 7, 8, 9] ?_
    | refine aw_sregK 7 [3, 7, 8, 9] ?_
    | refine aw_regK 7 [3, 7, 8, 9] ?_
    | refine aw_sregK 8 [3, 7, 8, 9] ?_
    | refine aw_regK 8 [3, 7, 8, 9] ?_
    | refine aw_sregK 9 [] ?_
    | refine aw_regK 9 [] ?_
    | refine aw_sregK 10 [3, 7, 8] ?_
    | refine aw_regK 10 [3, 7, 8] ?_
    | refine aw_sregK 11 [3, 7, 8, 10] ?_
    | refine aw_regK 11 [3, 7, 8, 10] ?_
    | refine aw_sreg ?_
    | refine aw_sregD mixed ?_
    | refine aw_ifT (b := true) rfl rfl ?_
    | refine aw_ifF (b := false) rfl rfl ?_
    | refine aw_ifT rfl (decide_eq_true (by assumption)) ?_
    | refine aw_ifF rfl (decide_eq_false (by assumption)) ?_
    | refine aw_rounds 3 ?_
    | refine awr_step ?_
    | refine aw_seq ?_
    | refine aw_block ?_
    | refine aw_skip ?_
    | refine aw_region ?_
    | refine aw_region_draw mixed ?_
    | refine aw_exit ?_
    | refine rq_exit ?_
    | refine blockQ_hit ?_
    | refine blockQ_miss (by decide) ?_
    | (refine ar_guard rfl rfl rfl rfl (fun h => ?_) (fun h => ?_) <;> (fail_if_success (cases h; done)) <;> (try simp at h) <;> (try subst h))
    | (refine aw_both rfl (fun h => ?_) (fun h => ?_) <;> (fail_if_success (cases h; done)) <;> (try simp at h) <;> (try subst h)))
set_option maxHeartbeats 16000000 in
theorem law_InsRegs_1 {op d a b l m behind locs x : Int} (hm : mayF op d a b l m behind locs = true) (g0 : -1 ≤ givesF op d) (g3 : givesF op d ≤ 3) (k2 : kindF op = 2 → (decide (0 ≤ givesF op d) == decide (op = 10)) = true) (k1 : kindF op = 1 → 0 ≤ givesF op d) (hn : named op = true) (hu : usesL op a b = [x]) (x0 : 0 ≤ x) (x3 : x ≤ 3) : SC Try.prog 8 [.agg [C .i64 op, C .i64 d, C .i64 a, C .i64 b, C .i64 l, C .i64 m], I .i64 behind, I .i64 locs] (B true) := by
  refine scx_of Try.func8 rfl rfl rfl (Nat.le_of_ble_eq_true rfl) ?_
  repeat' (first
    | exact aw_ret (ret_vals (by simp; exact rfl) (by simp [nameE2, *]; fail_if_success (show _)))
    | exact aw_ret (ret_vals (by simp; exact rfl) (by simp [nameE2, *]; omega))
    | refine ar_end rfl ?_
    | refine ar_endD rfl (by kernel_rfl) ?_
    | refine ar_fin rfl ?_
    | refine ar_finD rfl (by kernel_rfl) ?_
    | refine ar_callV Try.call41 c_shown1 rfl rfl rfl rfl rfl (by simp; done) (by rfl) (by simp; done) ?_
    | refine ar_callV_if Try.call41 c_shown1 rfl rfl rfl rfl rfl rfl (by simp; done) rfl (by rfl) (by simp; done) ?_
    | refine ar_callV Try.call51 c_May rfl rfl rfl rfl rfl (by simp; done) (by rfl) (by simp; done) ?_
    | refine ar_callV_if Try.call51 c_May rfl rfl rfl rfl rfl rfl (by simp; done) rfl (by rfl) (by simp; done) ?_
    | refine ar_callV Try.call47 c_UsesI rfl rfl rfl rfl rfl (by simp; done) (by rfl) (by simp; done) ?_
    | refine ar_callV_if Try.call47 c_UsesI rfl rfl rfl rfl rfl rfl (by simp; done) rfl (by rfl) (by simp; done) ?_
    | refine ar_callV Try.call49 c_Gives rfl rfl rfl rfl rfl (by simp; done) (by rfl) (by simp; done) ?_
    | refine ar_callV_if Try.call49 c_Gives rfl rfl rfl rfl rfl rfl (by simp; done) rfl (by rfl) (by simp; done) ?_
    | refine ar_callV Try.call44 c_ins_Kind rfl rfl rfl rfl rfl (by simp; done) (by rfl) (by simp; done) ?_
    | refine ar_callV_if Try.call44 c_ins_Kind rfl rfl rfl rfl rfl rfl (by simp; done) rfl (by rfl) (by simp; done) ?_
    | refine ar_callV Try.call42 c_Name rfl rfl rfl rfl rfl (by simp; done) (by rfl) (by simp; done) ?_
    | refine ar_callV_if Try.call42 c_Name rfl rfl rfl rfl rfl rfl (by simp; done) rfl (by rfl) (by simp; done) ?_
    | refine ar_go3 _ rfl (by simp [nameE2, ints, wrap64s, *]; exact ⟨rfl, rfl, rfl⟩) rfl ?_
    | refine aw_sregK 0 [0, 1, 2] ?_
    | refine aw_regK 0 [0, 1, 2] ?_
    | refine aw_sregK 1 [1, 2, 3] ?_
    | refine aw_regK 1 [1, 2, 3] ?_
    | refine aw_sregK 2 [1, 2, 3, 7] ?_
    | refine aw_regK 2 [1, 2, 3, 7] ?_
    | refine aw_sregK 3 [7] ?_
    | refine aw_regK 3 [7] ?_
    | refine aw_sregK 4 [3, 7] ?_
    | refine aw_regK 4 [3, 7] ?_
    | refine aw_sregK 5 [3, 7, 8] ?_
    | refine aw_regK 5 [3, 7, 8] ?_
    | refine aw_sregK 6 [3, 7, 8, 9] ?_
    | refine aw_regK 6 [3, 7, 8, 9] ?_
    | refine aw_sregK 7 [3, 7, 8, 9] ?_
    | refine aw_regK 7 [3, 7, 8, 9] ?_
    | refine aw_sregK 8 [3, 7, 8, 9] ?_
    | refine aw_regK 8 [3, 7, 8, 9] ?_
    | refine aw_sregK 9 [] ?_
    | refine aw_regK 9 [] ?_
    | refine aw_sregK 10 [3, 7, 8] ?_
    | refine aw_regK 10 [3, 7, 8] ?_
    | refine aw_sregK 11 [3, 7, 8, 10] ?_
    | refine aw_regK 11 [3, 7, 8, 10] ?_
    | refine aw_sreg ?_
    | refine aw_sregD mixed ?_
    | refine aw_ifT (b := true) rfl rfl ?_
    | refine aw_ifF (b := false) rfl rfl ?_
    | refine aw_ifT rfl (decide_eq_true (by assumption)) ?_
    | refine aw_ifF rfl (decide_eq_false (by assumption)) ?_
    | refine aw_rounds 3 ?_
    | refine awr_step ?_
    | refine aw_seq ?_
    | refine aw_block ?_
    | refine aw_skip ?_
    | refine aw_region ?_
    | refine aw_region_draw mixed ?_
    | refine aw_exit ?_
    | refine rq_exit ?_
    | refine blockQ_hit ?_
    | refine blockQ_miss (by decide) ?_
    | (refine ar_guard rfl rfl rfl rfl (fun h => ?_) (fun h => ?_) <;> (fail_if_success (cases h; done)) <;> (try simp at h) <;> (try subst h))
    | (refine aw_both rfl (fun h => ?_) (fun h => ?_) <;> (fail_if_success (cases h; done)) <;> (try simp at h) <;> (try subst h)))
set_option maxHeartbeats 16000000 in
theorem law_InsRegs_2 {op d a b l m behind locs x y : Int} (hm : mayF op d a b l m behind locs = true) (g0 : -1 ≤ givesF op d) (g3 : givesF op d ≤ 3) (k2 : kindF op = 2 → (decide (0 ≤ givesF op d) == decide (op = 10)) = true) (k1 : kindF op = 1 → 0 ≤ givesF op d) (hn : named op = true) (hu : usesL op a b = [x, y]) (x0 : 0 ≤ x) (x3 : x ≤ 3) (y0 : 0 ≤ y) (y3 : y ≤ 3) : SC Try.prog 8 [.agg [C .i64 op, C .i64 d, C .i64 a, C .i64 b, C .i64 l, C .i64 m], I .i64 behind, I .i64 locs] (B true) := by
  refine scx_of Try.func8 rfl rfl rfl (Nat.le_of_ble_eq_true rfl) ?_
  repeat' (first
    | exact aw_ret (ret_vals (by simp; exact rfl) (by simp [nameE2, *]; fail_if_success (show _)))
    | exact aw_ret (ret_vals (by simp; exact rfl) (by simp [nameE2, *]; omega))
    | refine ar_end rfl ?_
    | refine ar_endD rfl (by kernel_rfl) ?_
    | refine ar_fin rfl ?_
    | refine ar_finD rfl (by kernel_rfl) ?_
    | refine ar_callV Try.call41 c_shown1 rfl rfl rfl rfl rfl (by simp; done) (by rfl) (by simp; done) ?_
    | refine ar_callV_if Try.call41 c_shown1 rfl rfl rfl rfl rfl rfl (by simp; done) rfl (by rfl) (by simp; done) ?_
    | refine ar_callV Try.call51 c_May rfl rfl rfl rfl rfl (by simp; done) (by rfl) (by simp; done) ?_
    | refine ar_callV_if Try.call51 c_May rfl rfl rfl rfl rfl rfl (by simp; done) rfl (by rfl) (by simp; done) ?_
    | refine ar_callV Try.call47 c_UsesI rfl rfl rfl rfl rfl (by simp; done) (by rfl) (by simp; done) ?_
    | refine ar_callV_if Try.call47 c_UsesI rfl rfl rfl rfl rfl rfl (by simp; done) rfl (by rfl) (by simp; done) ?_
    | refine ar_callV Try.call49 c_Gives rfl rfl rfl rfl rfl (by simp; done) (by rfl) (by simp; done) ?_
    | refine ar_callV_if Try.call49 c_Gives rfl rfl rfl rfl rfl rfl (by simp; done) rfl (by rfl) (by simp; done) ?_
    | refine ar_callV Try.call44 c_ins_Kind rfl rfl rfl rfl rfl (by simp; done) (by rfl) (by simp; done) ?_
    | refine ar_callV_if Try.call44 c_ins_Kind rfl rfl rfl rfl rfl rfl (by simp; done) rfl (by rfl) (by simp; done) ?_
    | refine ar_callV Try.call42 c_Name rfl rfl rfl rfl rfl (by simp; done) (by rfl) (by simp; done) ?_
    | refine ar_callV_if Try.call42 c_Name rfl rfl rfl rfl rfl rfl (by simp; done) rfl (by rfl) (by simp; done) ?_
    | refine ar_go3 _ rfl (by simp [nameE2, ints, wrap64s, *]; exact ⟨rfl, rfl, rfl⟩) rfl ?_
    | refine aw_sregK 0 [0, 1, 2] ?_
    | refine aw_regK 0 [0, 1, 2] ?_
    | refine aw_sregK 1 [1, 2, 3] ?_
    | refine aw_regK 1 [1, 2, 3] ?_
    | refine aw_sregK 2 [1, 2, 3, 7] ?_
    | refine aw_regK 2 [1, 2, 3, 7] ?_
    | refine aw_sregK 3 [7] ?_
    | refine aw_regK 3 [7] ?_
    | refine aw_sregK 4 [3, 7] ?_
    | refine aw_regK 4 [3, 7] ?_
    | refine aw_sregK 5 [3, 7, 8] ?_
    | refine aw_regK 5 [3, 7, 8] ?_
    | refine aw_sregK 6 [3, 7, 8, 9] ?_
    | refine aw_regK 6 [3, 7, 8, 9] ?_
    | refine aw_sregK 7 [3, 7, 8, 9] ?_
    | refine aw_regK 7 [3, 7, 8, 9] ?_
    | refine aw_sregK 8 [3, 7, 8, 9] ?_
    | refine aw_regK 8 [3, 7, 8, 9] ?_
    | refine aw_sregK 9 [] ?_
    | refine aw_regK 9 [] ?_
    | refine aw_sregK 10 [3, 7, 8] ?_
    | refine aw_regK 10 [3, 7, 8] ?_
    | refine aw_sregK 11 [3, 7, 8, 10] ?_
    | refine aw_regK 11 [3, 7, 8, 10] ?_
    | refine aw_sreg ?_
    | refine aw_sregD mixed ?_
    | refine aw_ifT (b := true) rfl rfl ?_
    | refine aw_ifF (b := false) rfl rfl ?_
    | refine aw_ifT rfl (decide_eq_true (by assumption)) ?_
    | refine aw_ifF rfl (decide_eq_false (by assumption)) ?_
    | refine aw_rounds 3 ?_
    | refine awr_step ?_
    | refine aw_seq ?_
    | refine aw_block ?_
    | refine aw_skip ?_
    | refine aw_region ?_
    | refine aw_region_draw mixed ?_
    | refine aw_exit ?_
    | refine rq_exit ?_
    | refine blockQ_hit ?_
    | refine blockQ_miss (by decide) ?_
    | (refine ar_guard rfl rfl rfl rfl (fun h => ?_) (fun h => ?_) <;> (fail_if_success (cases h; done)) <;> (try simp at h) <;> (try subst h))
    | (refine aw_both rfl (fun h => ?_) (fun h => ?_) <;> (fail_if_success (cases h; done)) <;> (try simp at h) <;> (try subst h)))
set_option maxHeartbeats 16000000 in
theorem law_InsRegs_f {op d a b l m behind locs : Int} (hm : mayF op d a b l m behind locs = false) : SC Try.prog 8 [.agg [C .i64 op, C .i64 d, C .i64 a, C .i64 b, C .i64 l, C .i64 m], I .i64 behind, I .i64 locs] (B true) := by
  refine scx_of Try.func8 rfl rfl rfl (Nat.le_of_ble_eq_true rfl) ?_
  repeat' (first
    | exact aw_ret (ret_vals (by simp; exact rfl) (by simp [*]; fail_if_success (show _)))
    | exact aw_ret (ret_vals (by simp; exact rfl) (by simp [*]; omega))
    | refine ar_end rfl ?_
    | refine ar_endD rfl (by kernel_rfl) ?_
    | refine ar_fin rfl ?_
    | refine ar_finD rfl (by kernel_rfl) ?_
    | refine ar_callV Try.call41 c_shown1 rfl rfl rfl rfl rfl (by simp; done) (by rfl) (by simp; done) ?_
    | refine ar_callV_if Try.call41 c_shown1 rfl rfl rfl rfl rfl rfl (by simp; done) rfl (by rfl) (by simp; done) ?_
    | refine ar_callV Try.call51 c_May rfl rfl rfl rfl rfl (by simp; done) (by rfl) (by simp; done) ?_
    | refine ar_callV_if Try.call51 c_May rfl rfl rfl rfl rfl rfl (by simp; done) rfl (by rfl) (by simp; done) ?_
    | refine ar_go3 _ rfl (by simp [*]; exact ⟨rfl, rfl, rfl⟩) rfl ?_
    | refine aw_sregK 0 [0, 1, 2] ?_
    | refine aw_regK 0 [0, 1, 2] ?_
    | refine aw_sregK 1 [1, 2, 3] ?_
    | refine aw_regK 1 [1, 2, 3] ?_
    | refine aw_sregK 2 [1, 2, 3, 7] ?_
    | refine aw_regK 2 [1, 2, 3, 7] ?_
    | refine aw_sregK 3 [7] ?_
    | refine aw_regK 3 [7] ?_
    | refine aw_sregK 4 [3, 7] ?_
    | refine aw_regK 4 [3, 7] ?_
    | refine aw_sregK 5 [3, 7, 8] ?_
    | refine aw_regK 5 [3, 7, 8] ?_
    | refine aw_sregK 6 [3, 7, 8, 9] ?_
    | refine aw_regK 6 [3, 7, 8, 9] ?_
    | refine aw_sregK 7 [3, 7, 8, 9] ?_
    | refine aw_regK 7 [3, 7, 8, 9] ?_
    | refine aw_sregK 8 [3, 7, 8, 9] ?_
    | refine aw_regK 8 [3, 7, 8, 9] ?_
    | refine aw_sregK 9 [] ?_
    | refine aw_regK 9 [] ?_
    | refine aw_sregK 10 [3, 7, 8] ?_
    | refine aw_regK 10 [3, 7, 8] ?_
    | refine aw_sregK 11 [3, 7, 8, 10] ?_
    | refine aw_regK 11 [3, 7, 8, 10] ?_
    | refine aw_sreg ?_
    | refine aw_sregD mixed ?_
    | refine aw_ifT (b := true) rfl rfl ?_
    | refine aw_ifF (b := false) rfl rfl ?_
    | refine aw_ifT rfl (decide_eq_true (by assumption)) ?_
    | refine aw_ifF rfl (decide_eq_false (by assumption)) ?_
    | refine aw_seq ?_
    | refine aw_block ?_
    | refine aw_skip ?_
    | refine aw_region ?_
    | refine aw_region_draw mixed ?_
    | refine aw_exit ?_
    | refine rq_exit ?_
    | refine blockQ_hit ?_
    | refine blockQ_miss (by decide) ?_
    | (refine ar_guard rfl rfl rfl rfl (fun h => ?_) (fun h => ?_) <;> (fail_if_success (cases h; done)) <;> (try simp at h) <;> (try subst h))
    | (refine aw_both rfl (fun h => ?_) (fun h => ?_) <;> (fail_if_success (cases h; done)) <;> (try simp at h) <;> (try subst h)))
set_option maxHeartbeats 16000000 in
theorem law_InsRegs {op d a b l m behind locs : Int} : SC Try.prog 8 [.agg [C .i64 op, C .i64 d, C .i64 a, C .i64 b, C .i64 l, C .i64 m], I .i64 behind, I .i64 locs] (B true) := by
  cases hm : mayF op d a b l m behind locs
  · exact law_InsRegs_f hm
  obtain ⟨fD, fA, fB, hn⟩ := may_facts hm
  have g0 : -1 ≤ givesF op d := by unfold givesF; cases h : hasD op <;> simp; have := fD h; omega
  have g3 : givesF op d ≤ 3 := by unfold givesF; cases h : hasD op <;> simp; have := fD h; omega
  have gD : 0 ≤ givesF op d ↔ hasD op = true := by unfold givesF; cases h : hasD op <;> simp; have := fD h; omega
  have k2 : kindF op = 2 → (decide (0 ≤ givesF op d) == decide (op = 10)) = true := by
    intro h; rw [kind2] at h
    simp only [gD]
    rcases h with rfl | rfl | rfl <;> decide
  have k1 : kindF op = 1 → 0 ≤ givesF op d := by
    intro h; rw [kind1] at h
    rw [gD]
    rcases h with rfl | rfl | rfl <;> decide
  rcases uses3 op a b with h | ⟨x, h, hx⟩ | ⟨h, h1, h2, h3, h4⟩
  · exact law_InsRegs_0 hm g0 g3 k2 k1 hn h
  · refine law_InsRegs_1 hm g0 g3 k2 k1 hn h ?_ ?_
    all_goals
      rcases hx with ⟨h1, rfl, h2⟩ | ⟨h1, rfl, h2⟩
      · have := fA h1; omega
      · have := fB h1; omega
  · exact law_InsRegs_2 hm g0 g3 k2 k1 hn h h2 (fA h1).2 h4 (fB h3).2
end Go.Eng
