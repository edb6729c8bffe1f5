import Derived.Test.YtamjcdfjkekdjaaInsInts
set_option linter.unusedSimpArgs false
set_option linter.unusedVariables false
set_option linter.constructorNameAsVariable false
set_option autoImplicit false
namespace Go.Eng
open Go Go.RowKit Go.Proofs
def useL (h : Bool) (a : Int) : List Int := if h = true ∧ 0 ≤ a then [a] else []
def usesL (op a b : Int) : List Int := useL (hasA op) a ++ useL (hasB op) b
theorem useF_ints (h : Bool) (a : Int) : useF h a = ints (useL h a) := by unfold useF useL ints; split <;> rfl
theorem usesF_ints (op a b : Int) : usesF op a b = ints (usesL op a b) := by
  unfold usesF usesL; rw [useF_ints, useF_ints]; simp [ints]
theorem useL_len (h : Bool) (a : Int) : (useL h a).length ≤ 1 := by unfold useL; split <;> simp
theorem usesL_len (op a b : Int) : (usesL op a b).length ≤ 2 := by
  unfold usesL; have := useL_len (hasA op) a; have := useL_len (hasB op) b; simp; omega
theorem usesL_max (op a b : Int) : (usesL op a b).length ≤ maxLen := Nat.le_trans (usesL_len op a b) (by simp [maxLen])
set_option maxHeartbeats 16000000 in
theorem c_UsesI {op d a b l m : Int} : SC Try.prog 47 [.agg [C .i64 op, C .i64 d, C .i64 a, C .i64 b, C .i64 l, C .i64 m]] (.pv (.sl 1 (ints (usesL op a b)))) := by rw [← usesF_ints]; exact c_Uses
set_option maxHeartbeats 16000000 in
theorem c_refUsesI {op d a b l m : Int} : SC Try.prog 48 [.agg [C .i64 op, C .i64 d, C .i64 a, C .i64 b, C .i64 l, C .i64 m]] (.pv (.sl 1 (ints (usesL op a b)))) := by rw [← usesF_ints]; exact c_refUses
set_option maxHeartbeats 16000000 in
theorem c_Uses5 : SC Try.prog 47 [.agg [C .i64 5, C .i64 1, C .i64 2, C .i64 0, C .i64 0, C .i64 0]] (.pv (.sl 1 (ints [2]))) := c_UsesI (op := 5) (a := 2)
set_option maxHeartbeats 16000000 in
theorem c_Ints_22 : SC Try.prog 46 [.pv (.sl 1 (ints [2])), .pv (.sl 1 (ints [2]))] (B true) := c_Ints_eq (l := [2]) (k := [2]) rfl (by decide)
set_option maxHeartbeats 16000000 in
theorem c_shown1 : SC Try.prog 41 [] (B true) := by
  refine scx_of Try.func41 rfl rfl rfl (Nat.le_of_ble_eq_true rfl) ?_
  have hM : mayF 5 1 2 0 0 0 0 1 = true := by simp [mayF, hasD, hasA, hasB, hasL, hasI, okF, betw, named, mm, wrap64s]
  repeat' (first
    | exact aw_ret (ret_vals (by simp; exact rfl) (by simp [*]; fail_if_success (show _)))
    | exact aw_ret (ret_vals (by simp; exact rfl) (by simp [*]; omega))
    | refine ar_end rfl ?_
    | refine ar_endD rfl (by kernel_rfl) ?_
    | refine ar_fin rfl ?_
    | refine ar_finD rfl (by kernel_rfl) ?_
    | refine ar_callV Try.call47 c_Uses5 rfl rfl rfl rfl rfl (by simp; done) (by rfl) (by simp; done) ?_
    | refine ar_callV_if Try.call47 c_Uses5 rfl rfl rfl rfl rfl rfl (by simp; done) rfl (by rfl) (by simp; done) ?_
    | refine ar_callV Try.call49 c_Gives rfl rfl rfl rfl rfl (by simp; done) (by rfl) (by simp; done) ?_
    | refine ar_callV_if Try.call49 c_Gives rfl rfl rfl rfl rfl rfl (by simp; done) rfl (by rfl) (by simp; done) ?_
    | refine ar_callV Try.call51 c_May rfl rfl rfl rfl rfl (by simp; done) (by rfl) (by simp; done) ?_
    | refine ar_callV_if Try.call51 c_May rfl rfl rfl rfl rfl rfl (by simp; done) rfl (by rfl) (by simp; done) ?_
    | refine ar_callV Try.call42 c_Name rfl rfl rfl rfl rfl (by simp; done) (by rfl) (by simp; done) ?_
    | refine ar_callV_if Try.call42 c_Name rfl rfl rfl rfl rfl rfl (by simp; done) rfl (by rfl) (by simp; done) ?_
    | refine ar_lend Try.call46 c_Ints_22 rfl rfl rfl rfl rfl (by simp; done) rfl rfl rfl rfl ?_
    | refine ar_lend_if Try.call46 c_Ints_22 rfl rfl rfl rfl rfl rfl rfl (by simp; done) rfl rfl rfl rfl ?_
    | refine ar_go3 _ rfl (by simp [hM, givesF, hasD, nameF, ByteArray.toList_eq]; exact ⟨rfl, rfl, rfl⟩) rfl ?_
    | refine aw_sregK 0 [] ?_
    | refine aw_regK 0 [] ?_
    | refine aw_sregK 1 [] ?_
    | refine aw_regK 1 [] ?_
    | refine aw_sregK 2 [1] ?_
    | refine aw_regK 2 [1] ?_
    | refine aw_sreg ?_
    | refine aw_sregD mixed ?_
    | refine aw_ifT (b := true) rfl rfl ?_
    | refine aw_ifF (b := false) rfl rfl ?_
    | refine aw_ifT rfl (decide_eq_true (by assumption)) ?_
    | refine aw_ifF rfl (decide_eq_false (by assumption)) ?_
    | refine aw_seq ?_
    | refine aw_block ?_
    | refine aw_skip ?_
    | refine aw_region ?_
    | refine aw_region_draw mixed ?_
    | refine aw_exit ?_
    | refine rq_exit ?_
    | refine blockQ_hit ?_
    | refine blockQ_miss (by decide) ?_
    | (refine ar_guard rfl rfl rfl rfl (fun h => ?_) (fun h => ?_) <;> (fail_if_success (cases h; done)) <;> (try simp at h) <;> (try subst h))
    | (refine aw_both rfl (fun h => ?_) (fun h => ?_) <;> (fail_if_success (cases h; done)) <;> (try simp at h) <;> (try subst h)))
end Go.Eng
