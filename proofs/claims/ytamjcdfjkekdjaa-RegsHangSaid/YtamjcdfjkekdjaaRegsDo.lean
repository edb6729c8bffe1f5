import Derived.Test.YtamjcdfjkekdjaaRegsHow
set_option linter.unusedSimpArgs false
set_option linter.unusedVariables false
set_option linter.constructorNameAsVariable false
set_option autoImplicit false
namespace Go.Eng
open Go Go.RowKit Go.Proofs
abbrev setF (v0 v1 v2 v3 d0 d1 d2 d3 n v d : Int) : List PV := fileL (if n = 0 then v else v0) (if n = 1 then v else v1) (if n = 2 then v else v2) (if n = 3 then v else v3) (if n = 0 then d else d0) (if n = 1 then d else d1) (if n = 2 then d else d2) (if n = 3 then d else d3)
theorem c_makes2 : SC Try.prog 90 [I .i64 2] (.fn 131 [] []) := c_makes (op := 2)
theorem c_makes3 : SC Try.prog 90 [I .i64 3] (.fn 132 [] []) := c_makes (op := 3)
theorem c_makes4 : SC Try.prog 90 [I .i64 4] (.fn 133 [] []) := c_makes (op := 4)
theorem c_Do_add {v0 v1 v2 v3 d0 d1 d2 d3 d a b l m : Int} :
    SC Try.prog 40 [.agg (fileL v0 v1 v2 v3 d0 d1 d2 d3), .agg [C .i64 2, C .i64 d, C .i64 a, C .i64 b, C .i64 l, C .i64 m]]
      (.agg (setF v0 v1 v2 v3 d0 d1 d2 d3 d (IntKind.wrap .i64 (get4 v0 v1 v2 v3 0 a + get4 v0 v1 v2 v3 0 b)) (bits .or .u32 (get4 d0 d1 d2 d3 0 a) (get4 d0 d1 d2 d3 0 b)))) := by
  refine scx_of Try.func40 rfl rfl rfl (Nat.le_of_ble_eq_true rfl) ?_
  repeat (first
    | exact aw_ret (ret_vals (by simp; exact rfl) (by simp [*]))
    | refine ar_end rfl ?_
    | refine ar_endD rfl rfl ?_
    | refine ar_callV Try.call37 c_Set rfl rfl rfl rfl rfl (by simp) (by rfl) (by simp) ?_
    | refine ar_callV_if Try.call37 c_Set rfl rfl rfl rfl rfl rfl (by simp) rfl (by rfl) (by simp) ?_
    | refine ar_callV Try.call38 c_Get rfl rfl rfl rfl rfl (by simp) (by rfl) (by simp) ?_
    | refine ar_callV_if Try.call38 c_Get rfl rfl rfl rfl rfl rfl (by simp) rfl (by rfl) (by simp) ?_
    | refine ar_callV Try.call90 c_makes2 rfl rfl rfl rfl rfl (by simp) (by rfl) (by simp) ?_
    | refine ar_callV_if Try.call90 c_makes2 rfl rfl rfl rfl rfl rfl (by simp) rfl (by rfl) (by simp) ?_
    | refine ar_callV Try.call90 c_makes3 rfl rfl rfl rfl rfl (by simp) (by rfl) (by simp) ?_
    | refine ar_callV_if Try.call90 c_makes3 rfl rfl rfl rfl rfl rfl (by simp) rfl (by rfl) (by simp) ?_
    | refine ar_callV Try.call90 c_makes4 rfl rfl rfl rfl rfl (by simp) (by rfl) (by simp) ?_
    | refine ar_callV_if Try.call90 c_makes4 rfl rfl rfl rfl rfl rfl (by simp) rfl (by rfl) (by simp) ?_
    | refine ar_callV Try.call131 c_add rfl rfl rfl rfl rfl (by simp) (by rfl) (by simp) ?_
    | refine ar_callV_if Try.call131 c_add rfl rfl rfl rfl rfl rfl (by simp) rfl (by rfl) (by simp) ?_
    | refine ar_callV Try.call132 c_eor rfl rfl rfl rfl rfl (by simp) (by rfl) (by simp) ?_
    | refine ar_callV_if Try.call132 c_eor rfl rfl rfl rfl rfl rfl (by simp) rfl (by rfl) (by simp) ?_
    | refine ar_callV Try.call133 c_and rfl rfl rfl rfl rfl (by simp) (by rfl) (by simp) ?_
    | refine ar_callV_if Try.call133 c_and rfl rfl rfl rfl rfl rfl (by simp) rfl (by rfl) (by simp) ?_
    | refine ar_eqNil rfl rfl rfl rfl (by simp) (by kernel_rfl) rfl ?_
    | refine ar_go2 _ rfl (by simp [makesF]; exact ⟨rfl, rfl, rfl⟩) rfl ?_
    | refine aw_sreg ?_
    | refine aw_sregD mixed ?_
    | refine aw_ifT (b := true) rfl rfl ?_
    | refine aw_ifF (b := false) rfl rfl ?_
    | refine aw_ifT rfl (decide_eq_true (by assumption)) ?_
    | refine aw_ifF rfl (decide_eq_false (by assumption)) ?_
    | refine aw_seq ?_
    | refine aw_block ?_
    | refine aw_skip ?_
    | refine aw_region ?_
    | refine aw_region_draw mixed ?_
    | refine aw_exit ?_
    | refine blockQ_hit ?_
    | refine blockQ_miss (by decide) ?_)
theorem c_Do_eor {v0 v1 v2 v3 d0 d1 d2 d3 d a b l m : Int} :
    SC Try.prog 40 [.agg (fileL v0 v1 v2 v3 d0 d1 d2 d3), .agg [C .i64 3, C .i64 d, C .i64 a, C .i64 b, C .i64 l, C .i64 m]]
      (.agg (setF v0 v1 v2 v3 d0 d1 d2 d3 d (bits .xor .i64 (get4 v0 v1 v2 v3 0 a) (get4 v0 v1 v2 v3 0 b)) (bits .or .u32 (get4 d0 d1 d2 d3 0 a) (get4 d0 d1 d2 d3 0 b)))) := by
  refine scx_of Try.func40 rfl rfl rfl (Nat.le_of_ble_eq_true rfl) ?_
  repeat (first
    | exact aw_ret (ret_vals (by simp; exact rfl) (by simp [*]))
    | refine ar_end rfl ?_
    | refine ar_endD rfl rfl ?_
    | refine ar_callV Try.call37 c_Set rfl rfl rfl rfl rfl (by simp) (by rfl) (by simp) ?_
    | refine ar_callV_if Try.call37 c_Set rfl rfl rfl rfl rfl rfl (by simp) rfl (by rfl) (by simp) ?_
    | refine ar_callV Try.call38 c_Get rfl rfl rfl rfl rfl (by simp) (by rfl) (by simp) ?_
    | refine ar_callV_if Try.call38 c_Get rfl rfl rfl rfl rfl rfl (by simp) rfl (by rfl) (by simp) ?_
    | refine ar_callV Try.call90 c_makes2 rfl rfl rfl rfl rfl (by simp) (by rfl) (by simp) ?_
    | refine ar_callV_if Try.call90 c_makes2 rfl rfl rfl rfl rfl rfl (by simp) rfl (by rfl) (by simp) ?_
    | refine ar_callV Try.call90 c_makes3 rfl rfl rfl rfl rfl (by simp) (by rfl) (by simp) ?_
    | refine ar_callV_if Try.call90 c_makes3 rfl rfl rfl rfl rfl rfl (by simp) rfl (by rfl) (by simp) ?_
    | refine ar_callV Try.call90 c_makes4 rfl rfl rfl rfl rfl (by simp) (by rfl) (by simp) ?_
    | refine ar_callV_if Try.call90 c_makes4 rfl rfl rfl rfl rfl rfl (by simp) rfl (by rfl) (by simp) ?_
    | refine ar_callV Try.call131 c_add rfl rfl rfl rfl rfl (by simp) (by rfl) (by simp) ?_
    | refine ar_callV_if Try.call131 c_add rfl rfl rfl rfl rfl rfl (by simp) rfl (by rfl) (by simp) ?_
    | refine ar_callV Try.call132 c_eor rfl rfl rfl rfl rfl (by simp) (by rfl) (by simp) ?_
    | refine ar_callV_if Try.call132 c_eor rfl rfl rfl rfl rfl rfl (by simp) rfl (by rfl) (by simp) ?_
    | refine ar_callV Try.call133 c_and rfl rfl rfl rfl rfl (by simp) (by rfl) (by simp) ?_
    | refine ar_callV_if Try.call133 c_and rfl rfl rfl rfl rfl rfl (by simp) rfl (by rfl) (by simp) ?_
    | refine ar_eqNil rfl rfl rfl rfl (by simp) (by kernel_rfl) rfl ?_
    | refine ar_go2 _ rfl (by simp [makesF]; exact ⟨rfl, rfl, rfl⟩) rfl ?_
    | refine aw_sreg ?_
    | refine aw_sregD mixed ?_
    | refine aw_ifT (b := true) rfl rfl ?_
    | refine aw_ifF (b := false) rfl rfl ?_
    | refine aw_ifT rfl (decide_eq_true (by assumption)) ?_
    | refine aw_ifF rfl (decide_eq_false (by assumption)) ?_
    | refine aw_seq ?_
    | refine aw_block ?_
    | refine aw_skip ?_
    | refine aw_region ?_
    | refine aw_region_draw mixed ?_
    | refine aw_exit ?_
    | refine blockQ_hit ?_
    | refine blockQ_miss (by decide) ?_)
theorem c_Do_and {v0 v1 v2 v3 d0 d1 d2 d3 d a b l m : Int} :
    SC Try.prog 40 [.agg (fileL v0 v1 v2 v3 d0 d1 d2 d3), .agg [C .i64 4, C .i64 d, C .i64 a, C .i64 b, C .i64 l, C .i64 m]]
      (.agg (setF v0 v1 v2 v3 d0 d1 d2 d3 d (bits .and .i64 (get4 v0 v1 v2 v3 0 a) (get4 v0 v1 v2 v3 0 b)) (bits .or .u32 (get4 d0 d1 d2 d3 0 a) (get4 d0 d1 d2 d3 0 b)))) := by
  refine scx_of Try.func40 rfl rfl rfl (Nat.le_of_ble_eq_true rfl) ?_
  repeat (first
    | exact aw_ret (ret_vals (by simp; exact rfl) (by simp [*]))
    | refine ar_end rfl ?_
    | refine ar_endD rfl rfl ?_
    | refine ar_callV Try.call37 c_Set rfl rfl rfl rfl rfl (by simp) (by rfl) (by simp) ?_
    | refine ar_callV_if Try.call37 c_Set rfl rfl rfl rfl rfl rfl (by simp) rfl (by rfl) (by simp) ?_
    | refine ar_callV Try.call38 c_Get rfl rfl rfl rfl rfl (by simp) (by rfl) (by simp) ?_
    | refine ar_callV_if Try.call38 c_Get rfl rfl rfl rfl rfl rfl (by simp) rfl (by rfl) (by simp) ?_
    | refine ar_callV Try.call90 c_makes2 rfl rfl rfl rfl rfl (by simp) (by rfl) (by simp) ?_
    | refine ar_callV_if Try.call90 c_makes2 rfl rfl rfl rfl rfl rfl (by simp) rfl (by rfl) (by simp) ?_
    | refine ar_callV Try.call90 c_makes3 rfl rfl rfl rfl rfl (by simp) (by rfl) (by simp) ?_
    | refine ar_callV_if Try.call90 c_makes3 rfl rfl rfl rfl rfl rfl (by simp) rfl (by rfl) (by simp) ?_
    | refine ar_callV Try.call90 c_makes4 rfl rfl rfl rfl rfl (by simp) (by rfl) (by simp) ?_
    | refine ar_callV_if Try.call90 c_makes4 rfl rfl rfl rfl rfl rfl (by simp) rfl (by rfl) (by simp) ?_
    | refine ar_callV Try.call131 c_add rfl rfl rfl rfl rfl (by simp) (by rfl) (by simp) ?_
    | refine ar_callV_if Try.call131 c_add rfl rfl rfl rfl rfl rfl (by simp) rfl (by rfl) (by simp) ?_
    | refine ar_callV Try.call132 c_eor rfl rfl rfl rfl rfl (by simp) (by rfl) (by simp) ?_
    | refine ar_callV_if Try.call132 c_eor rfl rfl rfl rfl rfl rfl (by simp) rfl (by rfl) (by simp) ?_
    | refine ar_callV Try.call133 c_and rfl rfl rfl rfl rfl (by simp) (by rfl) (by simp) ?_
    | refine ar_callV_if Try.call133 c_and rfl rfl rfl rfl rfl rfl (by simp) rfl (by rfl) (by simp) ?_
    | refine ar_eqNil rfl rfl rfl rfl (by simp) (by kernel_rfl) rfl ?_
    | refine ar_go2 _ rfl (by simp [makesF]; exact ⟨rfl, rfl, rfl⟩) rfl ?_
    | refine aw_sreg ?_
    | refine aw_sregD mixed ?_
    | refine aw_ifT (b := true) rfl rfl ?_
    | refine aw_ifF (b := false) rfl rfl ?_
    | refine aw_ifT rfl (decide_eq_true (by assumption)) ?_
    | refine aw_ifF rfl (decide_eq_false (by assumption)) ?_
    | refine aw_seq ?_
    | refine aw_block ?_
    | refine aw_skip ?_
    | refine aw_region ?_
    | refine aw_region_draw mixed ?_
    | refine aw_exit ?_
    | refine blockQ_hit ?_
    | refine blockQ_miss (by decide) ?_)
theorem c_Do_mov {v0 v1 v2 v3 d0 d1 d2 d3 d a b l m : Int} :
    SC Try.prog 40 [.agg (fileL v0 v1 v2 v3 d0 d1 d2 d3), .agg [C .i64 1, C .i64 d, C .i64 a, C .i64 b, C .i64 l, C .i64 m]]
      (.agg (setF v0 v1 v2 v3 d0 d1 d2 d3 d m 0)) := by
  refine scx_of Try.func40 rfl rfl rfl (Nat.le_of_ble_eq_true rfl) ?_
  repeat (first
    | exact aw_ret (ret_vals (by simp; exact rfl) (by simp [*]))
    | refine ar_end rfl ?_
    | refine ar_endD rfl rfl ?_
    | refine ar_callV Try.call37 c_Set rfl rfl rfl rfl rfl (by simp) (by rfl) (by simp) ?_
    | refine ar_callV_if Try.call37 c_Set rfl rfl rfl rfl rfl rfl (by simp) rfl (by rfl) (by simp) ?_
    | refine ar_callV Try.call38 c_Get rfl rfl rfl rfl rfl (by simp) (by rfl) (by simp) ?_
    | refine ar_callV_if Try.call38 c_Get rfl rfl rfl rfl rfl rfl (by simp) rfl (by rfl) (by simp) ?_
    | refine ar_callV Try.call90 c_makes2 rfl rfl rfl rfl rfl (by simp) (by rfl) (by simp) ?_
    | refine ar_callV_if Try.call90 c_makes2 rfl rfl rfl rfl rfl rfl (by simp) rfl (by rfl) (by simp) ?_
    | refine ar_callV Try.call90 c_makes3 rfl rfl rfl rfl rfl (by simp) (by rfl) (by simp) ?_
    | refine ar_callV_if Try.call90 c_makes3 rfl rfl rfl rfl rfl rfl (by simp) rfl (by rfl) (by simp) ?_
    | refine ar_callV Try.call90 c_makes4 rfl rfl rfl rfl rfl (by simp) (by rfl) (by simp) ?_
    | refine ar_callV_if Try.call90 c_makes4 rfl rfl rfl rfl rfl rfl (by simp) rfl (by rfl) (by simp) ?_
    | refine ar_callV Try.call131 c_add rfl rfl rfl rfl rfl (by simp) (by rfl) (by simp) ?_
    | refine ar_callV_if Try.call131 c_add rfl rfl rfl rfl rfl rfl (by simp) rfl (by rfl) (by simp) ?_
    | refine ar_callV Try.call132 c_eor rfl rfl rfl rfl rfl (by simp) (by rfl) (by simp) ?_
    | refine ar_callV_if Try.call132 c_eor rfl rfl rfl rfl rfl rfl (by simp) rfl (by rfl) (by simp) ?_
    | refine ar_callV Try.call133 c_and rfl rfl rfl rfl rfl (by simp) (by rfl) (by simp) ?_
    | refine ar_callV_if Try.call133 c_and rfl rfl rfl rfl rfl rfl (by simp) rfl (by rfl) (by simp) ?_
    | refine ar_eqNil rfl rfl rfl rfl (by simp) (by kernel_rfl) rfl ?_
    | refine ar_go2 _ rfl (by simp [makesF]; exact ⟨rfl, rfl, rfl⟩) rfl ?_
    | refine aw_sreg ?_
    | refine aw_sregD mixed ?_
    | refine aw_ifT (b := true) rfl rfl ?_
    | refine aw_ifF (b := false) rfl rfl ?_
    | refine aw_ifT rfl (decide_eq_true (by assumption)) ?_
    | refine aw_ifF rfl (decide_eq_false (by assumption)) ?_
    | refine aw_seq ?_
    | refine aw_block ?_
    | refine aw_skip ?_
    | refine aw_region ?_
    | refine aw_region_draw mixed ?_
    | refine aw_exit ?_
    | refine blockQ_hit ?_
    | refine blockQ_miss (by decide) ?_)
end Go.Eng
