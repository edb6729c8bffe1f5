import Derived.Test.YtamjcdfjkekdjaaInsRows
set_option linter.unusedSimpArgs false
set_option linter.unusedVariables false
set_option linter.constructorNameAsVariable false
set_option autoImplicit false
namespace Go.Eng
open Go Go.RowKit Go.Proofs
def useF (h : Bool) (a : Int) : List (List PV) := if h = true ∧ 0 ≤ a then [[C .i64 a]] else []
def usesF (op a b : Int) : List (List PV) := useF (hasA op) a ++ useF (hasB op) b
def mayF (op d a b l m behind locs : Int) : Bool :=
  okF (hasD op) d 0 3 && (okF (hasA op) a (if hasL op = true then -1 else 0) 3 && (okF (hasB op) b 0 3 && (okF (hasL op) l 0 (IntKind.wrap .i64 (mm true locs 0 - 1)) && (bif hasI op then immF op m behind else named op && decide (m = 0)))))
set_option maxHeartbeats 4000000 in
theorem c_Uses {op d a b l m : Int} : SC Try.prog 47 [.agg [C .i64 op, C .i64 d, C .i64 a, C .i64 b, C .i64 l, C .i64 m]] (.pv (.sl 1 (usesF op a b))) := by
  refine scx_of Try.func47 rfl rfl rfl (Nat.le_of_ble_eq_true rfl) ?_
  repeat' (first
    | refine ar_end rfl ?_
    | refine ar_endD rfl (by kernel_rfl) ?_
    | refine ar_fin rfl ?_
    | refine ar_finD rfl (by kernel_rfl) ?_
    | refine ar_callV Try.call91 c_of rfl rfl rfl rfl rfl (by simp; done) (by rfl) (by simp; done) ?_
    | refine ar_callV_if Try.call91 c_of rfl rfl rfl rfl rfl rfl (by simp; done) rfl (by rfl) (by simp; done) ?_
    | refine ar_appN rfl rfl rfl rfl (by simp; exact rfl) (by simp; fail_if_success (show _)) (by simp; exact rfl) (by simp; exact rfl) (by simp; exact ⟨rfl, rfl⟩) (by simp; exact rfl) (by simp; done) (by decide) (by simp [maxLen]; done) ?_
    | refine ar_appO rfl rfl rfl rfl rfl (by simp; exact rfl) rfl (by simp; exact rfl) (by simp; exact rfl) (by simp; exact ⟨rfl, rfl⟩) rfl (by simp; exact rfl) (by simp; done) (by decide) (by simp [maxLen]; done) ?_
    | refine ar_go3 _ rfl (by simp [fA, fB, *]; exact ⟨rfl, rfl, rfl⟩) rfl ?_
    | refine aw_sregK 0 [0] ?_
    | refine aw_regK 0 [0] ?_
    | refine aw_sregK 1 [1] ?_
    | refine aw_regK 1 [1] ?_
    | refine aw_sregK 2 [1, 3] ?_
    | refine aw_regK 2 [1, 3] ?_
    | refine aw_sregK 3 [1, 3, 4] ?_
    | refine aw_regK 3 [1, 3, 4] ?_
    | refine aw_sregK 4 [1, 3, 4] ?_
    | refine aw_regK 4 [1, 3, 4] ?_
    | refine aw_sregK 5 [1, 3, 4] ?_
    | refine aw_regK 5 [1, 3, 4] ?_
    | refine aw_sregK 6 [1, 4] ?_
    | refine aw_regK 6 [1, 4] ?_
    | refine aw_sregK 7 [4] ?_
    | refine aw_regK 7 [4] ?_
    | refine aw_sreg ?_
    | refine aw_sregD mixed ?_
    | refine aw_ifT (b := true) rfl rfl ?_
    | refine aw_ifF (b := false) rfl rfl ?_
    | refine aw_ifT rfl (decide_eq_true (by assumption)) ?_
    | refine aw_ifF rfl (decide_eq_false (by assumption)) ?_
    | refine aw_seq ?_
    | refine aw_block ?_
    | refine aw_skip ?_
    | refine aw_region ?_
    | refine aw_region_draw mixed ?_
    | refine aw_exit ?_
    | refine rq_exit ?_
    | refine blockQ_hit ?_
    | refine blockQ_miss (by decide) ?_
    | (refine ar_guard rfl rfl rfl rfl (fun h => ?_) (fun h => ?_) <;> (fail_if_success (cases h; done)) <;> (try simp at h))
    | (refine aw_both rfl (fun h => ?_) (fun h => ?_) <;> (fail_if_success (cases h; done)) <;> (try simp at h)))
  all_goals first
    | exact aw_ret (ret_frz (.loc 34) (by simp; exact rfl) (by simp [usesF, useF, *]; fail_if_success (show _)))
    | exact aw_ret (ret_frz (.loc 33) (by simp; exact rfl) (by simp [usesF, useF, *]; fail_if_success (show _)))
    | exact aw_ret (ret_frz (.loc 21) (by simp; exact rfl) (by simp [usesF, useF, *]; fail_if_success (show _)))
    | exact aw_ret (ret_nil 2 1 (by simp; exact rfl) (by simp [usesF, useF, *]; fail_if_success (show _)))
set_option maxHeartbeats 4000000 in
theorem c_refUses {op d a b l m : Int} : SC Try.prog 48 [.agg [C .i64 op, C .i64 d, C .i64 a, C .i64 b, C .i64 l, C .i64 m]] (.pv (.sl 1 (usesF op a b))) := by
  refine scx_of Try.func48 rfl rfl rfl (Nat.le_of_ble_eq_true rfl) ?_
  repeat' (first
    | refine ar_end rfl ?_
    | refine ar_endD rfl (by kernel_rfl) ?_
    | refine ar_fin rfl ?_
    | refine ar_finD rfl (by kernel_rfl) ?_
    | refine ar_callV Try.call92 c_HasA rfl rfl rfl rfl rfl (by simp; done) (by rfl) (by simp; done) ?_
    | refine ar_callV_if Try.call92 c_HasA rfl rfl rfl rfl rfl rfl (by simp; done) rfl (by rfl) (by simp; done) ?_
    | refine ar_callV Try.call93 c_HasB rfl rfl rfl rfl rfl (by simp; done) (by rfl) (by simp; done) ?_
    | refine ar_callV_if Try.call93 c_HasB rfl rfl rfl rfl rfl rfl (by simp; done) rfl (by rfl) (by simp; done) ?_
    | refine ar_appN rfl rfl rfl rfl (by simp; exact rfl) (by simp; fail_if_success (show _)) (by simp; exact rfl) (by simp; exact rfl) (by simp; exact ⟨rfl, rfl⟩) (by simp; exact rfl) (by simp; done) (by decide) (by simp [maxLen]; done) ?_
    | refine ar_appO rfl rfl rfl rfl rfl (by simp; exact rfl) rfl (by simp; exact rfl) (by simp; exact rfl) (by simp; exact ⟨rfl, rfl⟩) rfl (by simp; exact rfl) (by simp; done) (by decide) (by simp [maxLen]; done) ?_
    | refine ar_go3 _ rfl (by simp [*]; exact ⟨rfl, rfl, rfl⟩) rfl ?_
    | refine aw_sregK 0 [0] ?_
    | refine aw_regK 0 [0] ?_
    | refine aw_sregK 1 [1] ?_
    | refine aw_regK 1 [1] ?_
    | refine aw_sregK 2 [1, 3] ?_
    | refine aw_regK 2 [1, 3] ?_
    | refine aw_sregK 3 [1, 3] ?_
    | refine aw_regK 3 [1, 3] ?_
    | refine aw_sregK 4 [1, 3] ?_
    | refine aw_regK 4 [1, 3] ?_
    | refine aw_sregK 5 [1, 3] ?_
    | refine aw_regK 5 [1, 3] ?_
    | refine aw_sregK 6 [3] ?_
    | refine aw_regK 6 [3] ?_
    | refine aw_sreg ?_
    | refine aw_sregD mixed ?_
    | refine aw_ifT (b := true) rfl rfl ?_
    | refine aw_ifF (b := false) rfl rfl ?_
    | refine aw_ifT rfl (decide_eq_true (by assumption)) ?_
    | refine aw_ifF rfl (decide_eq_false (by assumption)) ?_
    | refine aw_seq ?_
    | refine aw_block ?_
    | refine aw_skip ?_
    | refine aw_region ?_
    | refine aw_region_draw mixed ?_
    | refine aw_exit ?_
    | refine rq_exit ?_
    | refine blockQ_hit ?_
    | refine blockQ_miss (by decide) ?_
    | (refine ar_guard rfl rfl rfl rfl (fun h => ?_) (fun h => ?_) <;> (fail_if_success (cases h; done)) <;> (try simp at h))
    | (refine aw_both rfl (fun h => ?_) (fun h => ?_) <;> (fail_if_success (cases h; done)) <;> (try simp at h)))
  all_goals first
    | exact aw_ret (ret_frz (.loc 27) (by simp; exact rfl) (by simp [usesF, useF, *]; fail_if_success (show _)))
    | exact aw_ret (ret_frz (.loc 26) (by simp; exact rfl) (by simp [usesF, useF, *]; fail_if_success (show _)))
    | exact aw_ret (ret_frz (.loc 15) (by simp; exact rfl) (by simp [usesF, useF, *]; fail_if_success (show _)))
    | exact aw_ret (ret_nil 2 1 (by simp; exact rfl) (by simp [usesF, useF, *]; fail_if_success (show _)))
end Go.Eng
