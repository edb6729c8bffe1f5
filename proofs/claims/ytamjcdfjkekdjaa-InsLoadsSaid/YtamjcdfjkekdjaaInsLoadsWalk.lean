import Derived.Test.YtamjcdfjkekdjaaInsRegsWalk
set_option linter.unusedSimpArgs false
set_option linter.unusedVariables false
set_option linter.constructorNameAsVariable false
set_option autoImplicit false
namespace Go.Eng
open Go Go.RowKit Go.Proofs
set_option maxHeartbeats 16000000 in
theorem law_InsLoads_f {op d a b l m behind locs : Int} (hm : mayF op d a b l m behind locs = false) : SC Try.prog 12 [.agg [C .i64 op, C .i64 d, C .i64 a, C .i64 b, C .i64 l, C .i64 m], I .i64 behind, I .i64 locs] (B true) := by
  refine scx_of Try.func12 rfl rfl rfl (Nat.le_of_ble_eq_true rfl) ?_
  repeat' (first
    | exact aw_ret (ret_vals (by simp; exact rfl) (by simp [*]; fail_if_success (show _)))
    | exact aw_ret (ret_vals (by simp; exact rfl) (by simp [*]; omega))
    | refine ar_end rfl ?_
    | refine ar_endD rfl (by kernel_rfl) ?_
    | refine ar_fin rfl ?_
    | refine ar_finD rfl (by kernel_rfl) ?_
    | refine ar_callV Try.call41 c_shown1 rfl rfl rfl rfl rfl (by simp; done) (by rfl) (by simp; done) ?_
    | refine ar_callV_if Try.call41 c_shown1 rfl rfl rfl rfl rfl rfl (by simp; done) rfl (by rfl) (by simp; done) ?_
    | refine ar_callV Try.call51 c_May rfl rfl rfl rfl rfl (by simp; done) (by rfl) (by simp; done) ?_
    | refine ar_callV_if Try.call51 c_May rfl rfl rfl rfl rfl rfl (by simp; done) rfl (by rfl) (by simp; done) ?_
    | refine ar_go3 _ rfl (by simp [*]; exact ⟨rfl, rfl, rfl⟩) rfl ?_
    | refine aw_sregK 0 [0, 1, 2] ?_
    | refine aw_regK 0 [0, 1, 2] ?_
    | refine aw_sregK 1 [1, 2, 3] ?_
    | refine aw_regK 1 [1, 2, 3] ?_
    | refine aw_sregK 2 [1, 2, 3, 7] ?_
    | refine aw_regK 2 [1, 2, 3, 7] ?_
    | refine aw_sregK 3 [7] ?_
    | refine aw_regK 3 [7] ?_
    | refine aw_sregK 4 [3, 7] ?_
    | refine aw_regK 4 [3, 7] ?_
    | refine aw_sregK 5 [3, 7, 8] ?_
    | refine aw_regK 5 [3, 7, 8] ?_
    | refine aw_sregK 6 [3, 7, 8, 20] ?_
    | refine aw_regK 6 [3, 7, 8, 20] ?_
    | refine aw_sregKD mixed 7 [3, 7, 8] (by simp; exact rfl) ?_
    | refine aw_regKD mixed 7 [3, 7, 8] (by simp; exact rfl) ?_
    | refine aw_sregK 8 [3, 7, 8, 20] ?_
    | refine aw_regK 8 [3, 7, 8, 20] ?_
    | refine aw_sregKD mixed 9 [3, 7, 8] (by simp; exact rfl) ?_
    | refine aw_regKD mixed 9 [3, 7, 8] (by simp; exact rfl) ?_
    | refine aw_sregK 10 [3, 7, 8] ?_
    | refine aw_regK 10 [3, 7, 8] ?_
    | refine aw_sregK 11 [3, 7, 8, 9] ?_
    | refine aw_regK 11 [3, 7, 8, 9] ?_
    | refine aw_sreg ?_
    | refine aw_sregD mixed ?_
    | refine aw_ifT (b := true) rfl rfl ?_
    | refine aw_ifF (b := false) rfl rfl ?_
    | refine aw_ifT rfl (decide_eq_true (by assumption)) ?_
    | refine aw_ifF rfl (decide_eq_false (by assumption)) ?_
    | refine aw_seq ?_
    | refine aw_block ?_
    | refine aw_skip ?_
    | refine aw_region ?_
    | refine aw_region_draw mixed ?_
    | refine aw_exit ?_
    | refine rq_exit ?_
    | refine blockQ_hit ?_
    | refine blockQ_miss (by decide) ?_
    | (refine ar_guard rfl rfl rfl rfl (fun h => ?_) (fun h => ?_) <;> (fail_if_success (cases h; done)) <;> (try simp at h) <;> (try subst h))
    | (refine aw_both rfl (fun h => ?_) (fun h => ?_) <;> (fail_if_success (cases h; done)) <;> (try simp at h) <;> (try subst h)))
set_option maxHeartbeats 16000000 in
theorem law_InsLoads_1n {op d a b l m behind locs : Int} (hm : mayF op d a b l m behind locs = true) (hk : kindF op = 1) (hg : givesF op d = d) (ha : a < 0) (hu : usesL op a b = []) : SC Try.prog 12 [.agg [C .i64 op, C .i64 d, C .i64 a, C .i64 b, C .i64 l, C .i64 m], I .i64 behind, I .i64 locs] (B true) := by
  refine scx_of Try.func12 rfl rfl rfl (Nat.le_of_ble_eq_true rfl) ?_
  repeat' (first
    | exact aw_ret (ret_vals (by simp; exact rfl) (by simp [*]; fail_if_success (show _)))
    | exact aw_ret (ret_vals (by simp; exact rfl) (by simp [*]; omega))
    | refine ar_end rfl ?_
    | refine ar_endD rfl (by kernel_rfl) ?_
    | refine ar_fin rfl ?_
    | refine ar_finD rfl (by kernel_rfl) ?_
    | refine ar_callV Try.call41 c_shown1 rfl rfl rfl rfl rfl (by simp; done) (by rfl) (by simp; done) ?_
    | refine ar_callV_if Try.call41 c_shown1 rfl rfl rfl rfl rfl rfl (by simp; done) rfl (by rfl) (by simp; done) ?_
    | refine ar_callV Try.call51 c_May rfl rfl rfl rfl rfl (by simp; done) (by rfl) (by simp; done) ?_
    | refine ar_callV_if Try.call51 c_May rfl rfl rfl rfl rfl rfl (by simp; done) rfl (by rfl) (by simp; done) ?_
    | refine ar_callV Try.call47 c_UsesI rfl rfl rfl rfl rfl (by simp; done) (by rfl) (by simp; done) ?_
    | refine ar_callV_if Try.call47 c_UsesI rfl rfl rfl rfl rfl rfl (by simp; done) rfl (by rfl) (by simp; done) ?_
    | refine ar_callV Try.call49 c_Gives rfl rfl rfl rfl rfl (by simp; done) (by rfl) (by simp; done) ?_
    | refine ar_callV_if Try.call49 c_Gives rfl rfl rfl rfl rfl rfl (by simp; done) rfl (by rfl) (by simp; done) ?_
    | refine ar_callV Try.call44 c_ins_Kind rfl rfl rfl rfl rfl (by simp; done) (by rfl) (by simp; done) ?_
    | refine ar_callV_if Try.call44 c_ins_Kind rfl rfl rfl rfl rfl rfl (by simp; done) rfl (by rfl) (by simp; done) ?_
    | refine ar_go3 _ rfl (by simp [ints, *]; exact ⟨rfl, rfl, rfl⟩) rfl ?_
    | refine aw_sregK 0 [0, 1, 2] ?_
    | refine aw_regK 0 [0, 1, 2] ?_
    | refine aw_sregK 1 [1, 2, 3] ?_
    | refine aw_regK 1 [1, 2, 3] ?_
    | refine aw_sregK 2 [1, 2, 3, 7] ?_
    | refine aw_regK 2 [1, 2, 3, 7] ?_
    | refine aw_sregK 3 [7] ?_
    | refine aw_regK 3 [7] ?_
    | refine aw_sregK 4 [3, 7] ?_
    | refine aw_regK 4 [3, 7] ?_
    | refine aw_sregK 5 [3, 7, 8] ?_
    | refine aw_regK 5 [3, 7, 8] ?_
    | refine aw_sregK 6 [3, 7, 8, 20] ?_
    | refine aw_regK 6 [3, 7, 8, 20] ?_
    | refine aw_sregKD mixed 7 [3, 7, 8] (by simp; exact rfl) ?_
    | refine aw_regKD mixed 7 [3, 7, 8] (by simp; exact rfl) ?_
    | refine aw_sregK 8 [3, 7, 8, 20] ?_
    | refine aw_regK 8 [3, 7, 8, 20] ?_
    | refine aw_sregKD mixed 9 [3, 7, 8] (by simp; exact rfl) ?_
    | refine aw_regKD mixed 9 [3, 7, 8] (by simp; exact rfl) ?_
    | refine aw_sregK 10 [3, 7, 8] ?_
    | refine aw_regK 10 [3, 7, 8] ?_
    | refine aw_sregK 11 [3, 7, 8, 9] ?_
    | refine aw_regK 11 [3, 7, 8, 9] ?_
    | refine aw_sreg ?_
    | refine aw_sregD mixed ?_
    | refine aw_ifT (b := true) rfl rfl ?_
    | refine aw_ifF (b := false) rfl rfl ?_
    | refine aw_ifT rfl (decide_eq_true (by assumption)) ?_
    | refine aw_ifF rfl (decide_eq_false (by assumption)) ?_
    | refine aw_seq ?_
    | refine aw_block ?_
    | refine aw_skip ?_
    | refine aw_region ?_
    | refine aw_region_draw mixed ?_
    | refine aw_exit ?_
    | refine rq_exit ?_
    | refine blockQ_hit ?_
    | refine blockQ_miss (by decide) ?_
    | (refine ar_guard rfl rfl rfl rfl (fun h => ?_) (fun h => ?_) <;> (fail_if_success (cases h; done)) <;> (try simp at h) <;> (try subst h))
    | (refine aw_both rfl (fun h => ?_) (fun h => ?_) <;> (fail_if_success (cases h; done)) <;> (try simp at h) <;> (try subst h)))
theorem c_Ints_one {a : Int} : SC Try.prog 46 [.pv (.sl 1 [[C .i64 a]]), .pv (.sl 1 [[C .i64 a]])] (B true) := by
  have := c_Ints_eq (l := [a]) (k := [a]) rfl (by simp [maxLen])
  simpa [ints] using this
set_option maxHeartbeats 16000000 in
theorem law_InsLoads_1 {op d a b l m behind locs : Int} (hm : mayF op d a b l m behind locs = true) (hk : kindF op = 1) (hg : givesF op d = d) (ha : ¬a < 0) (ha2 : 0 ≤ a) (hu : usesL op a b = [a]) : SC Try.prog 12 [.agg [C .i64 op, C .i64 d, C .i64 a, C .i64 b, C .i64 l, C .i64 m], I .i64 behind, I .i64 locs] (B true) := by
  refine scx_of Try.func12 rfl rfl rfl (Nat.le_of_ble_eq_true rfl) ?_
  repeat' (first
    | exact aw_ret (ret_vals (by simp; exact rfl) (by simp [*]; fail_if_success (show _)))
    | exact aw_ret (ret_vals (by simp; exact rfl) (by simp [*]; omega))
    | refine ar_end rfl ?_
    | refine ar_endD rfl (by kernel_rfl) ?_
    | refine ar_fin rfl ?_
    | refine ar_finD rfl (by kernel_rfl) ?_
    | refine ar_callV Try.call41 c_shown1 rfl rfl rfl rfl rfl (by simp; done) (by rfl) (by simp; done) ?_
    | refine ar_callV_if Try.call41 c_shown1 rfl rfl rfl rfl rfl rfl (by simp; done) rfl (by rfl) (by simp; done) ?_
    | refine ar_callV Try.call51 c_May rfl rfl rfl rfl rfl (by simp; done) (by rfl) (by simp; done) ?_
    | refine ar_callV_if Try.call51 c_May rfl rfl rfl rfl rfl rfl (by simp; done) rfl (by rfl) (by simp; done) ?_
    | refine ar_callV Try.call47 c_UsesI rfl rfl rfl rfl rfl (by simp; done) (by rfl) (by simp; done) ?_
    | refine ar_callV_if Try.call47 c_UsesI rfl rfl rfl rfl rfl rfl (by simp; done) rfl (by rfl) (by simp; done) ?_
    | refine ar_callV Try.call49 c_Gives rfl rfl rfl rfl rfl (by simp; done) (by rfl) (by simp; done) ?_
    | refine ar_callV_if Try.call49 c_Gives rfl rfl rfl rfl rfl rfl (by simp; done) rfl (by rfl) (by simp; done) ?_
    | refine ar_callV Try.call44 c_ins_Kind rfl rfl rfl rfl rfl (by simp; done) (by rfl) (by simp; done) ?_
    | refine ar_callV_if Try.call44 c_ins_Kind rfl rfl rfl rfl rfl rfl (by simp; done) rfl (by rfl) (by simp; done) ?_
    | refine ar_lend Try.call46 (c_Ints_one (a := a)) rfl rfl rfl rfl rfl (by simp; done) rfl rfl rfl rfl ?_
    | refine ar_lend_if Try.call46 (c_Ints_one (a := a)) rfl rfl rfl rfl rfl rfl rfl (by simp; done) rfl rfl rfl rfl ?_
    | refine ar_go3 _ rfl (by simp [ints, *]; exact ⟨rfl, rfl, rfl⟩) rfl ?_
    | refine aw_sregK 0 [0, 1, 2] ?_
    | refine aw_regK 0 [0, 1, 2] ?_
    | refine aw_sregK 1 [1, 2, 3] ?_
    | refine aw_regK 1 [1, 2, 3] ?_
    | refine aw_sregK 2 [1, 2, 3, 7] ?_
    | refine aw_regK 2 [1, 2, 3, 7] ?_
    | refine aw_sregK 3 [7] ?_
    | refine aw_regK 3 [7] ?_
    | refine aw_sregK 4 [3, 7] ?_
    | refine aw_regK 4 [3, 7] ?_
    | refine aw_sregK 5 [3, 7, 8] ?_
    | refine aw_regK 5 [3, 7, 8] ?_
    | refine aw_sregK 6 [3, 7, 8, 20] ?_
    | refine aw_regK 6 [3, 7, 8, 20] ?_
    | refine aw_sregKD mixed 7 [3, 7, 8] (by simp; exact rfl) ?_
    | refine aw_regKD mixed 7 [3, 7, 8] (by simp; exact rfl) ?_
    | refine aw_sregK 8 [3, 7, 8, 20] ?_
    | refine aw_regK 8 [3, 7, 8, 20] ?_
    | refine aw_sregKD mixed 9 [3, 7, 8] (by simp; exact rfl) ?_
    | refine aw_regKD mixed 9 [3, 7, 8] (by simp; exact rfl) ?_
    | refine aw_sregK 10 [3, 7, 8] ?_
    | refine aw_regK 10 [3, 7, 8] ?_
    | refine aw_sregK 11 [3, 7, 8, 9] ?_
    | refine aw_regK 11 [3, 7, 8, 9] ?_
    | refine aw_sreg ?_
    | refine aw_sregD mixed ?_
    | refine aw_ifT (b := true) rfl rfl ?_
    | refine aw_ifF (b := false) rfl rfl ?_
    | refine aw_ifT rfl (decide_eq_true (by assumption)) ?_
    | refine aw_ifF rfl (decide_eq_false (by assumption)) ?_
    | refine aw_seq ?_
    | refine aw_block ?_
    | refine aw_skip ?_
    | refine aw_region ?_
    | refine aw_region_draw mixed ?_
    | refine aw_exit ?_
    | refine rq_exit ?_
    | refine blockQ_hit ?_
    | refine blockQ_miss (by decide) ?_
    | (refine ar_guard rfl rfl rfl rfl (fun h => ?_) (fun h => ?_) <;> (fail_if_success (cases h; done)) <;> (try simp at h) <;> (try subst h))
    | (refine aw_both rfl (fun h => ?_) (fun h => ?_) <;> (fail_if_success (cases h; done)) <;> (try simp at h) <;> (try subst h)))
set_option maxHeartbeats 16000000 in
theorem law_InsLoads_2n {op d b l m behind locs : Int} (hm : mayF op d (-1) b l m behind locs = true) (hk : kindF op = 2) (hu : usesL op (-1) b = [b]) : SC Try.prog 12 [.agg [C .i64 op, C .i64 d, C .i64 (-1), C .i64 b, C .i64 l, C .i64 m], I .i64 behind, I .i64 locs] (B true) := by
  refine scx_of Try.func12 rfl rfl rfl (Nat.le_of_ble_eq_true rfl) ?_
  repeat' (first
    | exact aw_ret (ret_vals (by simp; exact rfl) (by simp [*]; fail_if_success (show _)))
    | exact aw_ret (ret_vals (by simp; exact rfl) (by simp [*]; omega))
    | refine ar_end rfl ?_
    | refine ar_endD rfl (by kernel_rfl) ?_
    | refine ar_fin rfl ?_
    | refine ar_finD rfl (by kernel_rfl) ?_
    | refine ar_callV Try.call41 c_shown1 rfl rfl rfl rfl rfl (by simp; done) (by rfl) (by simp; done) ?_
    | refine ar_callV_if Try.call41 c_shown1 rfl rfl rfl rfl rfl rfl (by simp; done) rfl (by rfl) (by simp; done) ?_
    | refine ar_callV Try.call51 c_May rfl rfl rfl rfl rfl (by simp; done) (by rfl) (by simp; done) ?_
    | refine ar_callV_if Try.call51 c_May rfl rfl rfl rfl rfl rfl (by simp; done) rfl (by rfl) (by simp; done) ?_
    | refine ar_callV Try.call47 c_UsesI rfl rfl rfl rfl rfl (by simp; done) (by rfl) (by simp; done) ?_
    | refine ar_callV_if Try.call47 c_UsesI rfl rfl rfl rfl rfl rfl (by simp; done) rfl (by rfl) (by simp; done) ?_
    | refine ar_callV Try.call49 c_Gives rfl rfl rfl rfl rfl (by simp; done) (by rfl) (by simp; done) ?_
    | refine ar_callV_if Try.call49 c_Gives rfl rfl rfl rfl rfl rfl (by simp; done) rfl (by rfl) (by simp; done) ?_
    | refine ar_callV Try.call44 c_ins_Kind rfl rfl rfl rfl rfl (by simp; done) (by rfl) (by simp; done) ?_
    | refine ar_callV_if Try.call44 c_ins_Kind rfl rfl rfl rfl rfl rfl (by simp; done) rfl (by rfl) (by simp; done) ?_
    | refine ar_go3 _ rfl (by simp [ints, wrap64s, *]; exact ⟨rfl, rfl, rfl⟩) rfl ?_
    | refine aw_sregK 0 [0, 1, 2] ?_
    | refine aw_regK 0 [0, 1, 2] ?_
    | refine aw_sregK 1 [1, 2, 3] ?_
    | refine aw_regK 1 [1, 2, 3] ?_
    | refine aw_sregK 2 [1, 2, 3, 7] ?_
    | refine aw_regK 2 [1, 2, 3, 7] ?_
    | refine aw_sregK 3 [7] ?_
    | refine aw_regK 3 [7] ?_
    | refine aw_sregK 4 [3, 7] ?_
    | refine aw_regK 4 [3, 7] ?_
    | refine aw_sregK 5 [3, 7, 8] ?_
    | refine aw_regK 5 [3, 7, 8] ?_
    | refine aw_sregK 6 [3, 7, 8, 20] ?_
    | refine aw_regK 6 [3, 7, 8, 20] ?_
    | refine aw_sregKD mixed 7 [3, 7, 8] (by simp; exact rfl) ?_
    | refine aw_regKD mixed 7 [3, 7, 8] (by simp; exact rfl) ?_
    | refine aw_sregK 8 [3, 7, 8, 20] ?_
    | refine aw_regK 8 [3, 7, 8, 20] ?_
    | refine aw_sregKD mixed 9 [3, 7, 8] (by simp; exact rfl) ?_
    | refine aw_regKD mixed 9 [3, 7, 8] (by simp; exact rfl) ?_
    | refine aw_sregK 10 [3, 7, 8] ?_
    | refine aw_regK 10 [3, 7, 8] ?_
    | refine aw_sregK 11 [3, 7, 8, 9] ?_
    | refine aw_regK 11 [3, 7, 8, 9] ?_
    | refine aw_sreg ?_
    | refine aw_sregD mixed ?_
    | refine aw_ifT (b := true) rfl rfl ?_
    | refine aw_ifF (b := false) rfl rfl ?_
    | refine aw_ifT rfl (decide_eq_true (by assumption)) ?_
    | refine aw_ifF rfl (decide_eq_false (by assumption)) ?_
    | refine aw_seq ?_
    | refine aw_block ?_
    | refine aw_skip ?_
    | refine aw_region ?_
    | refine aw_region_draw mixed ?_
    | refine aw_exit ?_
    | refine rq_exit ?_
    | refine blockQ_hit ?_
    | refine blockQ_miss (by decide) ?_
    | (refine ar_guard rfl rfl rfl rfl (fun h => ?_) (fun h => ?_) <;> (fail_if_success (cases h; done)) <;> (try simp at h) <;> (try subst h))
    | (refine aw_both rfl (fun h => ?_) (fun h => ?_) <;> (fail_if_success (cases h; done)) <;> (try simp at h) <;> (try subst h)))
set_option maxHeartbeats 16000000 in
theorem law_InsLoads_2 {op d a b l m behind locs : Int} (hm : mayF op d a b l m behind locs = true) (hk : kindF op = 2) (hu : usesL op a b = [a, b]) (q1 : IntKind.wrap .i64 (a + 4) = a + 4) (q2 : (a + 4).tdiv 4 = 1) : SC Try.prog 12 [.agg [C .i64 op, C .i64 d, C .i64 a, C .i64 b, C .i64 l, C .i64 m], I .i64 behind, I .i64 locs] (B true) := by
  refine scx_of Try.func12 rfl rfl rfl (Nat.le_of_ble_eq_true rfl) ?_
  repeat' (first
    | exact aw_ret (ret_vals (by simp; exact rfl) (by simp [*]; fail_if_success (show _)))
    | exact aw_ret (ret_vals (by simp; exact rfl) (by simp [*]; omega))
    | refine ar_end rfl ?_
    | refine ar_endD rfl (by kernel_rfl) ?_
    | refine ar_fin rfl ?_
    | refine ar_finD rfl (by kernel_rfl) ?_
    | refine ar_callV Try.call41 c_shown1 rfl rfl rfl rfl rfl (by simp; done) (by rfl) (by simp; done) ?_
    | refine ar_callV_if Try.call41 c_shown1 rfl rfl rfl rfl rfl rfl (by simp; done) rfl (by rfl) (by simp; done) ?_
    | refine ar_callV Try.call51 c_May rfl rfl rfl rfl rfl (by simp; done) (by rfl) (by simp; done) ?_
    | refine ar_callV_if Try.call51 c_May rfl rfl rfl rfl rfl rfl (by simp; done) rfl (by rfl) (by simp; done) ?_
    | refine ar_callV Try.call47 c_UsesI rfl rfl rfl rfl rfl (by simp; done) (by rfl) (by simp; done) ?_
    | refine ar_callV_if Try.call47 c_UsesI rfl rfl rfl rfl rfl rfl (by simp; done) rfl (by rfl) (by simp; done) ?_
    | refine ar_callV Try.call49 c_Gives rfl rfl rfl rfl rfl (by simp; done) (by rfl) (by simp; done) ?_
    | refine ar_callV_if Try.call49 c_Gives rfl rfl rfl rfl rfl rfl (by simp; done) rfl (by rfl) (by simp; done) ?_
    | refine ar_callV Try.call44 c_ins_Kind rfl rfl rfl rfl rfl (by simp; done) (by rfl) (by simp; done) ?_
    | refine ar_callV_if Try.call44 c_ins_Kind rfl rfl rfl rfl rfl rfl (by simp; done) rfl (by rfl) (by simp; done) ?_
    | refine ar_go3 _ rfl (by simp [ints, hm, hk, hu, q1, q2, wrap64s]; exact ⟨rfl, rfl, rfl⟩) rfl ?_
    | refine aw_sregK 0 [0, 1, 2] ?_
    | refine aw_regK 0 [0, 1, 2] ?_
    | refine aw_sregK 1 [1, 2, 3] ?_
    | refine aw_regK 1 [1, 2, 3] ?_
    | refine aw_sregK 2 [1, 2, 3, 7] ?_
    | refine aw_regK 2 [1, 2, 3, 7] ?_
    | refine aw_sregK 3 [7] ?_
    | refine aw_regK 3 [7] ?_
    | refine aw_sregK 4 [3, 7] ?_
    | refine aw_regK 4 [3, 7] ?_
    | refine aw_sregK 5 [3, 7, 8] ?_
    | refine aw_regK 5 [3, 7, 8] ?_
    | refine aw_sregK 6 [3, 7, 8, 20] ?_
    | refine aw_regK 6 [3, 7, 8, 20] ?_
    | refine aw_sregKD mixed 7 [3, 7, 8] (by simp; exact rfl) ?_
    | refine aw_regKD mixed 7 [3, 7, 8] (by simp; exact rfl) ?_
    | refine aw_sregK 8 [3, 7, 8, 20] ?_
    | refine aw_regK 8 [3, 7, 8, 20] ?_
    | refine aw_sregKD mixed 9 [3, 7, 8] (by simp; exact rfl) ?_
    | refine aw_regKD mixed 9 [3, 7, 8] (by simp; exact rfl) ?_
    | refine aw_sregK 10 [3, 7, 8] ?_
    | refine aw_regK 10 [3, 7, 8] ?_
    | refine aw_sregK 11 [3, 7, 8, 9] ?_
    | refine aw_regK 11 [3, 7, 8, 9] ?_
    | refine aw_sreg ?_
    | refine aw_sregD mixed ?_
    | refine aw_ifT (b := true) rfl rfl ?_
    | refine aw_ifF (b := false) rfl rfl ?_
    | refine aw_ifT rfl (decide_eq_true (by assumption)) ?_
    | refine aw_ifF rfl (decide_eq_false (by assumption)) ?_
    | refine aw_seq ?_
    | refine aw_block ?_
    | refine aw_skip ?_
    | refine aw_region ?_
    | refine aw_region_draw mixed ?_
    | refine aw_exit ?_
    | refine rq_exit ?_
    | refine blockQ_hit ?_
    | refine blockQ_miss (by decide) ?_
    | (refine ar_guard rfl rfl rfl rfl (fun h => ?_) (fun h => ?_) <;> (fail_if_success (cases h; done)) <;> (try simp at h) <;> (try subst h))
    | (refine aw_both rfl (fun h => ?_) (fun h => ?_) <;> (fail_if_success (cases h; done)) <;> (try simp at h) <;> (try subst h)))
set_option maxHeartbeats 16000000 in
theorem law_InsLoads_0 {op d a b l m behind locs : Int} (hm : mayF op d a b l m behind locs = true) (hk : ¬kindF op = 1) (hk2 : ¬kindF op = 2) (hu : op = 11 ∨ op = 12 → usesL op a b = []) (hg : op = 11 ∨ op = 12 → givesF op d = -1) : SC Try.prog 12 [.agg [C .i64 op, C .i64 d, C .i64 a, C .i64 b, C .i64 l, C .i64 m], I .i64 behind, I .i64 locs] (B true) := by
  by_cases h : op = 11 ∨ op = 12
  · have hu := hu h
    have hg := hg h
    refine scx_of Try.func12 rfl rfl rfl (Nat.le_of_ble_eq_true rfl) ?_
    rcases h with rfl | rfl
    ·
      repeat' (first
        | exact aw_ret (ret_vals (by simp; exact rfl) (by simp [*]; fail_if_success (show _)))
        | exact aw_ret (ret_vals (by simp; exact rfl) (by simp [*]; omega))
        | refine ar_end rfl ?_
        | refine ar_endD rfl (by kernel_rfl) ?_
        | refine ar_fin rfl ?_
        | refine ar_finD rfl (by kernel_rfl) ?_
        | refine ar_callV Try.call41 c_shown1 rfl rfl rfl rfl rfl (by simp; done) (by rfl) (by simp; done) ?_
        | refine ar_callV_if Try.call41 c_shown1 rfl rfl rfl rfl rfl rfl (by simp; done) rfl (by rfl) (by simp; done) ?_
        | refine ar_callV Try.call51 c_May rfl rfl rfl rfl rfl (by simp; done) (by rfl) (by simp; done) ?_
        | refine ar_callV_if Try.call51 c_May rfl rfl rfl rfl rfl rfl (by simp; done) rfl (by rfl) (by simp; done) ?_
        | refine ar_callV Try.call47 c_UsesI rfl rfl rfl rfl rfl (by simp; done) (by rfl) (by simp; done) ?_
        | refine ar_callV_if Try.call47 c_UsesI rfl rfl rfl rfl rfl rfl (by simp; done) rfl (by rfl) (by simp; done) ?_
        | refine ar_callV Try.call49 c_Gives rfl rfl rfl rfl rfl (by simp; done) (by rfl) (by simp; done) ?_
        | refine ar_callV_if Try.call49 c_Gives rfl rfl rfl rfl rfl rfl (by simp; done) rfl (by rfl) (by simp; done) ?_
        | refine ar_callV Try.call44 c_ins_Kind rfl rfl rfl rfl rfl (by simp; done) (by rfl) (by simp; done) ?_
        | refine ar_callV_if Try.call44 c_ins_Kind rfl rfl rfl rfl rfl rfl (by simp; done) rfl (by rfl) (by simp; done) ?_
        | refine ar_go3 _ rfl (by simp [ints, *]; exact ⟨rfl, rfl, rfl⟩) rfl ?_
        | refine aw_sregK 0 [0, 1, 2] ?_
        | refine aw_regK 0 [0, 1, 2] ?_
        | refine aw_sregK 1 [1, 2, 3] ?_
        | refine aw_regK 1 [1, 2, 3] ?_
        | refine aw_sregK 2 [1, 2, 3, 7] ?_
        | refine aw_regK 2 [1, 2, 3, 7] ?_
        | refine aw_sregK 3 [7] ?_
        | refine aw_regK 3 [7] ?_
        | refine aw_sregK 4 [3, 7] ?_
        | refine aw_regK 4 [3, 7] ?_
        | refine aw_sregK 5 [3, 7, 8] ?_
        | refine aw_regK 5 [3, 7, 8] ?_
        | refine aw_sregK 6 [3, 7, 8, 20] ?_
        | refine aw_regK 6 [3, 7, 8, 20] ?_
        | refine aw_sregKD mixed 7 [3, 7, 8] (by simp; exact rfl) ?_
        | refine aw_regKD mixed 7 [3, 7, 8] (by simp; exact rfl) ?_
        | refine aw_sregK 8 [3, 7, 8, 20] ?_
        | refine aw_regK 8 [3, 7, 8, 20] ?_
        | refine aw_sregKD mixed 9 [3, 7, 8] (by simp; exact rfl) ?_
        | refine aw_regKD mixed 9 [3, 7, 8] (by simp; exact rfl) ?_
        | refine aw_sregK 10 [3, 7, 8] ?_
        | refine aw_regK 10 [3, 7, 8] ?_
        | refine aw_sregK 11 [3, 7, 8, 9] ?_
        | refine aw_regK 11 [3, 7, 8, 9] ?_
        | refine aw_sreg ?_
        | refine aw_sregD mixed ?_
        | refine aw_ifT (b := true) rfl rfl ?_
        | refine aw_ifF (b := false) rfl rfl ?_
        | refine aw_ifT rfl (decide_eq_true (by assumption)) ?_
        | refine aw_ifF rfl (decide_eq_false (by assumption)) ?_
        | refine aw_seq ?_
        | refine aw_block ?_
        | refine aw_skip ?_
        | refine aw_region ?_
        | refine aw_region_draw mixed ?_
        | refine aw_exit ?_
        | refine rq_exit ?_
        | refine blockQ_hit ?_
        | refine blockQ_miss (by decide) ?_
        | (refine ar_guard rfl rfl rfl rfl (fun h => ?_) (fun h => ?_) <;> (fail_if_success (cases h; done)) <;> (try simp at h) <;> (try subst h))
        | (refine aw_both rfl (fun h => ?_) (fun h => ?_) <;> (fail_if_success (cases h; done)) <;> (try simp at h) <;> (try subst h)))
    ·
      repeat' (first
        | exact aw_ret (ret_vals (by simp; exact rfl) (by simp [*]; fail_if_success (show _)))
        | exact aw_ret (ret_vals (by simp; exact rfl) (by simp [*]; omega))
        | refine ar_end rfl ?_
        | refine ar_endD rfl (by kernel_rfl) ?_
        | refine ar_fin rfl ?_
        | refine ar_finD rfl (by kernel_rfl) ?_
        | refine ar_callV Try.call41 c_shown1 rfl rfl rfl rfl rfl (by simp; done) (by rfl) (by simp; done) ?_
        | refine ar_callV_if Try.call41 c_shown1 rfl rfl rfl rfl rfl rfl (by simp; done) rfl (by rfl) (by simp; done) ?_
        | refine ar_callV Try.call51 c_May rfl rfl rfl rfl rfl (by simp; done) (by rfl) (by simp; done) ?_
        | refine ar_callV_if Try.call51 c_May rfl rfl rfl rfl rfl rfl (by simp; done) rfl (by rfl) (by simp; done) ?_
        | refine ar_callV Try.call47 c_UsesI rfl rfl rfl rfl rfl (by simp; done) (by rfl) (by simp; done) ?_
        | refine ar_callV_if Try.call47 c_UsesI rfl rfl rfl rfl rfl rfl (by simp; done) rfl (by rfl) (by simp; done) ?_
        | refine ar_callV Try.call49 c_Gives rfl rfl rfl rfl rfl (by simp; done) (by rfl) (by simp; done) ?_
        | refine ar_callV_if Try.call49 c_Gives rfl rfl rfl rfl rfl rfl (by simp; done) rfl (by rfl) (by simp; done) ?_
        | refine ar_callV Try.call44 c_ins_Kind rfl rfl rfl rfl rfl (by simp; done) (by rfl) (by simp; done) ?_
        | refine ar_callV_if Try.call44 c_ins_Kind rfl rfl rfl rfl rfl rfl (by simp; done) rfl (by rfl) (by simp; done) ?_
        | refine ar_go3 _ rfl (by simp [ints, *]; exact ⟨rfl, rfl, rfl⟩) rfl ?_
        | refine aw_sregK 0 [0, 1, 2] ?_
        | refine aw_regK 0 [0, 1, 2] ?_
        | refine aw_sregK 1 [1, 2, 3] ?_
        | refine aw_regK 1 [1, 2, 3] ?_
        | refine aw_sregK 2 [1, 2, 3, 7] ?_
        | refine aw_regK 2 [1, 2, 3, 7] ?_
        | refine aw_sregK 3 [7] ?_
        | refine aw_regK 3 [7] ?_
        | refine aw_sregK 4 [3, 7] ?_
        | refine aw_regK 4 [3, 7] ?_
        | refine aw_sregK 5 [3, 7, 8] ?_
        | refine aw_regK 5 [3, 7, 8] ?_
        | refine aw_sregK 6 [3, 7, 8, 20] ?_
        | refine aw_regK 6 [3, 7, 8, 20] ?_
        | refine aw_sregKD mixed 7 [3, 7, 8] (by simp; exact rfl) ?_
        | refine aw_regKD mixed 7 [3, 7, 8] (by simp; exact rfl) ?_
        | refine aw_sregK 8 [3, 7, 8, 20] ?_
        | refine aw_regK 8 [3, 7, 8, 20] ?_
        | refine aw_sregKD mixed 9 [3, 7, 8] (by simp; exact rfl) ?_
        | refine aw_regKD mixed 9 [3, 7, 8] (by simp; exact rfl) ?_
        | refine aw_sregK 10 [3, 7, 8] ?_
        | refine aw_regK 10 [3, 7, 8] ?_
        | refine aw_sregK 11 [3, 7, 8, 9] ?_
        | refine aw_regK 11 [3, 7, 8, 9] ?_
        | refine aw_sreg ?_
        | refine aw_sregD mixed ?_
        | refine aw_ifT (b := true) rfl rfl ?_
        | refine aw_ifF (b := false) rfl rfl ?_
        | refine aw_ifT rfl (decide_eq_true (by assumption)) ?_
        | refine aw_ifF rfl (decide_eq_false (by assumption)) ?_
        | refine aw_seq ?_
        | refine aw_block ?_
        | refine aw_skip ?_
        | refine aw_region ?_
        | refine aw_region_draw mixed ?_
        | refine aw_exit ?_
        | refine rq_exit ?_
        | refine blockQ_hit ?_
        | refine blockQ_miss (by decide) ?_
        | (refine ar_guard rfl rfl rfl rfl (fun h => ?_) (fun h => ?_) <;> (fail_if_success (cases h; done)) <;> (try simp at h) <;> (try subst h))
        | (refine aw_both rfl (fun h => ?_) (fun h => ?_) <;> (fail_if_success (cases h; done)) <;> (try simp at h) <;> (try subst h)))
  · have h1 : ¬op = 11 := fun e => h (.inl e)
    have h2 : ¬op = 12 := fun e => h (.inr e)
    clear hu hg
    refine scx_of Try.func12 rfl rfl rfl (Nat.le_of_ble_eq_true rfl) ?_
    repeat' (first
      | exact aw_ret (ret_vals (by simp; exact rfl) (by simp [*]; fail_if_success (show _)))
      | exact aw_ret (ret_vals (by simp; exact rfl) (by simp [*]; omega))
      | refine ar_end rfl ?_
      | refine ar_endD rfl (by kernel_rfl) ?_
      | refine ar_fin rfl ?_
      | refine ar_finD rfl (by kernel_rfl) ?_
      | refine ar_callV Try.call41 c_shown1 rfl rfl rfl rfl rfl (by simp; done) (by rfl) (by simp; done) ?_
      | refine ar_callV_if Try.call41 c_shown1 rfl rfl rfl rfl rfl rfl (by simp; done) rfl (by rfl) (by simp; done) ?_
      | refine ar_callV Try.call51 c_May rfl rfl rfl rfl rfl (by simp; done) (by rfl) (by simp; done) ?_
      | refine ar_callV_if Try.call51 c_May rfl rfl rfl rfl rfl rfl (by simp; done) rfl (by rfl) (by simp; done) ?_
      | refine ar_callV Try.call47 c_UsesI rfl rfl rfl rfl rfl (by simp; done) (by rfl) (by simp; done) ?_
      | refine ar_callV_if Try.call47 c_UsesI rfl rfl rfl rfl rfl rfl (by simp; done) rfl (by rfl) (by simp; done) ?_
      | refine ar_callV Try.call49 c_Gives rfl rfl rfl rfl rfl (by simp; done) (by rfl) (by simp; done) ?_
      | refine ar_callV_if Try.call49 c_Gives rfl rfl rfl rfl rfl rfl (by simp; done) rfl (by rfl) (by simp; done) ?_
      | refine ar_callV Try.call44 c_ins_Kind rfl rfl rfl rfl rfl (by simp; done) (by rfl) (by simp; done) ?_
      | refine ar_callV_if Try.call44 c_ins_Kind rfl rfl rfl rfl rfl rfl (by simp; done) rfl (by rfl) (by simp; done) ?_
      | refine ar_go3 _ rfl (by simp [*]; exact ⟨rfl, rfl, rfl⟩) rfl ?_
      | refine aw_sregK 0 [0, 1, 2] ?_
      | refine aw_regK 0 [0, 1, 2] ?_
      | refine aw_sregK 1 [1, 2, 3] ?_
      | refine aw_regK 1 [1, 2, 3] ?_
      | refine aw_sregK 2 [1, 2, 3, 7] ?_
      | refine aw_regK 2 [1, 2, 3, 7] ?_
      | refine aw_sregK 3 [7] ?_
      | refine aw_regK 3 [7] ?_
      | refine aw_sregK 4 [3, 7] ?_
      | refine aw_regK 4 [3, 7] ?_
      | refine aw_sregK 5 [3, 7, 8] ?_
      | refine aw_regK 5 [3, 7, 8] ?_
      | refine aw_sregK 6 [3, 7, 8, 20] ?_
      | refine aw_regK 6 [3, 7, 8, 20] ?_
      | refine aw_sregKD mixed 7 [3, 7, 8] (by simp; exact rfl) ?_
      | refine aw_regKD mixed 7 [3, 7, 8] (by simp; exact rfl) ?_
      | refine aw_sregK 8 [3, 7, 8, 20] ?_
      | refine aw_regK 8 [3, 7, 8, 20] ?_
      | refine aw_sregKD mixed 9 [3, 7, 8] (by simp; exact rfl) ?_
      | refine aw_regKD mixed 9 [3, 7, 8] (by simp; exact rfl) ?_
      | refine aw_sregK 10 [3, 7, 8] ?_
      | refine aw_regK 10 [3, 7, 8] ?_
      | refine aw_sregK 11 [3, 7, 8, 9] ?_
      | refine aw_regK 11 [3, 7, 8, 9] ?_
      | refine aw_sreg ?_
      | refine aw_sregD mixed ?_
      | refine aw_ifT (b := true) rfl rfl ?_
      | refine aw_ifF (b := false) rfl rfl ?_
      | refine aw_ifT rfl (decide_eq_true (by assumption)) ?_
      | refine aw_ifF rfl (decide_eq_false (by assumption)) ?_
      | refine aw_seq ?_
      | refine aw_block ?_
      | refine aw_skip ?_
      | refine aw_region ?_
      | refine aw_region_draw mixed ?_
      | refine aw_exit ?_
      | refine rq_exit ?_
      | refine blockQ_hit ?_
      | refine blockQ_miss (by decide) ?_
      | (refine ar_guard rfl rfl rfl rfl (fun h => ?_) (fun h => ?_) <;> (fail_if_success (cases h; done)) <;> (try simp at h) <;> (try subst h))
      | (refine aw_both rfl (fun h => ?_) (fun h => ?_) <;> (fail_if_success (cases h; done)) <;> (try simp at h) <;> (try subst h)))
set_option maxHeartbeats 16000000 in
theorem law_InsLoads {op d a b l m behind locs : Int} : SC Try.prog 12 [.agg [C .i64 op, C .i64 d, C .i64 a, C .i64 b, C .i64 l, C .i64 m], I .i64 behind, I .i64 locs] (B true) := by
  cases hm : mayF op d a b l m behind locs
  · exact law_InsLoads_f hm
  obtain ⟨fD, fA, fB, hn⟩ := may_facts hm
  have gD : hasD op = true → givesF op d = d := by intro h; simp [givesF, h]
  by_cases k1 : kindF op = 1
  · have hk := k1
    rw [kind1] at hk
    have e : hasA op = true ∧ hasB op = false ∧ hasD op = true := by rcases hk with rfl | rfl | rfl <;> decide
    by_cases ha : a < 0
    · exact law_InsLoads_1n hm k1 (gD e.2.2) ha (by simp [usesL, useL, e]; omega)
    · exact law_InsLoads_1 hm k1 (gD e.2.2) ha (by omega) (by simp [usesL, useL, e]; omega)
  by_cases k2 : kindF op = 2
  · have hk := k2
    rw [kind2] at hk
    have e : hasA op = true ∧ hasB op = true := by rcases hk with rfl | rfl | rfl <;> decide
    have := fA e.1
    have := fB e.2
    by_cases ha : a < 0
    · obtain rfl : a = -1 := by omega
      exact law_InsLoads_2n hm k2 (by simp [usesL, useL, e]; omega)
    · have hu : usesL op a b = [a, b] := by
        unfold usesL useL
        rw [if_pos ⟨e.1, by omega⟩, if_pos ⟨e.2, by omega⟩]; rfl
      exact law_InsLoads_2 hm k2 hu (wrap64s (by omega) (by omega)) (by rw [Int.tdiv_eq_ediv_of_nonneg (by omega)]; omega)
  · refine law_InsLoads_0 hm k1 k2 ?_ ?_
    · rintro (rfl | rfl) <;> simp [usesL, useL, hasA, hasB]
    · rintro (rfl | rfl) <;> simp [givesF, hasD]
end Go.Eng
