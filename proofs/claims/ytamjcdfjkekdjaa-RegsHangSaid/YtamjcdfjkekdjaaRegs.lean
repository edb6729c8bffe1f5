import Derived.Test.YtamjcdfjkekdjaaTab
import Derived.Test.YtamjcdfjkekdjaaEc2
set_option linter.unusedSimpArgs false
set_option linter.unusedVariables false
set_option autoImplicit false
namespace Go.Eng
open Go Go.RowKit Go.Proofs
theorem mixed : Try.prog.follows .mixedOrders = true := by kernel_rfl
def kindF (op : Int) : Int := if op = 5 ∨ op = 7 ∨ op = 9 then 1 else if op = 6 ∨ op = 8 ∨ op = 10 then 2 else 0
theorem c_in {n : Int} : SC Try.prog 89 [I .i64 n] (B (decide (0 ≤ n ∧ n < 4))) := by
  refine scx_of Try.func89 rfl rfl rfl (Nat.le_of_ble_eq_true rfl) ?_
  by_cases h : 0 ≤ n
  repeat (first
    | exact aw_ret (ret_vals (by simp; exact rfl) (by simp [*]))
    | refine ar_end rfl ?_
    | refine ar_endD rfl rfl ?_
    | refine ar_go2 _ rfl (by simp [*]; exact ⟨rfl, rfl, rfl⟩) rfl ?_
    | refine aw_sreg ?_
    | refine aw_sregD mixed ?_
    | refine aw_ifT (b := true) rfl rfl ?_
    | refine aw_ifF (b := false) rfl rfl ?_
    | refine aw_ifT rfl (decide_eq_true (by assumption)) ?_
    | refine aw_ifF rfl (decide_eq_false (by assumption)) ?_
    | refine aw_seq ?_
    | refine aw_block ?_
    | refine aw_skip ?_
    | refine aw_region ?_
    | refine aw_region_draw mixed ?_
    | refine aw_exit ?_
    | refine blockQ_hit ?_
    | refine blockQ_miss (by decide) ?_)
theorem four {n : Int} (h : 0 ≤ n ∧ n < 4) : n = 0 ∨ n = 1 ∨ n = 2 ∨ n = 3 := by omega
theorem five (n : Int) : n = 0 ∨ n = 1 ∨ n = 2 ∨ n = 3 ∨ ((¬(0 ≤ n ∧ n < 4)) ∧ ¬n = 0 ∧ ¬n = 1 ∧ ¬n = 2 ∧ ¬n = 3) := by omega
abbrev fileL (v0 v1 v2 v3 d0 d1 d2 d3 : Int) : List PV := [C .i64 v0, C .i64 v1, C .i64 v2, C .i64 v3, C .u32 d0, C .u32 d1, C .u32 d2, C .u32 d3]
theorem c_Set {v0 v1 v2 v3 d0 d1 d2 d3 n v d : Int} :
    SC Try.prog 37 [.agg (fileL v0 v1 v2 v3 d0 d1 d2 d3), I .i64 n, I .i64 v, I .u32 d]
      (.agg (fileL (if n = 0 then v else v0) (if n = 1 then v else v1) (if n = 2 then v else v2) (if n = 3 then v else v3) (if n = 0 then d else d0) (if n = 1 then d else d1) (if n = 2 then d else d2) (if n = 3 then d else d3))) := by
  refine scx_of Try.func37 rfl rfl rfl (Nat.le_of_ble_eq_true rfl) ?_
  rcases five n with rfl | rfl | rfl | rfl | ⟨h, h0, h1, h2, h3⟩
  ·
    repeat (first
      | exact aw_ret (ret_vals (by simp; exact rfl) (by simp [*]))
      | refine ar_end rfl ?_
      | refine ar_endD rfl rfl ?_
      | refine ar_callV Try.call89 c_in rfl rfl rfl rfl rfl (by simp) (by rfl) (by simp) ?_
      | refine ar_callV_if Try.call89 c_in rfl rfl rfl rfl rfl rfl (by simp) rfl (by rfl) (by simp) ?_
      | refine ar_go2 _ rfl (by simp [*]; exact ⟨rfl, rfl, rfl⟩) rfl ?_
      | refine aw_sreg ?_
      | refine aw_sregD mixed ?_
      | refine aw_ifT (b := true) rfl rfl ?_
      | refine aw_ifF (b := false) rfl rfl ?_
      | refine aw_ifT rfl (decide_eq_true (by assumption)) ?_
      | refine aw_ifF rfl (decide_eq_false (by assumption)) ?_
      | refine aw_seq ?_
      | refine aw_block ?_
      | refine aw_skip ?_
      | refine aw_region ?_
      | refine aw_region_draw mixed ?_
      | refine aw_exit ?_
      | refine blockQ_hit ?_
      | refine blockQ_miss (by decide) ?_)
  ·
    repeat (first
      | exact aw_ret (ret_vals (by simp; exact rfl) (by simp [*]))
      | refine ar_end rfl ?_
      | refine ar_endD rfl rfl ?_
      | refine ar_callV Try.call89 c_in rfl rfl rfl rfl rfl (by simp) (by rfl) (by simp) ?_
      | refine ar_callV_if Try.call89 c_in rfl rfl rfl rfl rfl rfl (by simp) rfl (by rfl) (by simp) ?_
      | refine ar_go2 _ rfl (by simp [*]; exact ⟨rfl, rfl, rfl⟩) rfl ?_
      | refine aw_sreg ?_
      | refine aw_sregD mixed ?_
      | refine aw_ifT (b := true) rfl rfl ?_
      | refine aw_ifF (b := false) rfl rfl ?_
      | refine aw_ifT rfl (decide_eq_true (by assumption)) ?_
      | refine aw_ifF rfl (decide_eq_false (by assumption)) ?_
      | refine aw_seq ?_
      | refine aw_block ?_
      | refine aw_skip ?_
      | refine aw_region ?_
      | refine aw_region_draw mixed ?_
      | refine aw_exit ?_
      | refine blockQ_hit ?_
      | refine blockQ_miss (by decide) ?_)
  ·
    repeat (first
      | exact aw_ret (ret_vals (by simp; exact rfl) (by simp [*]))
      | refine ar_end rfl ?_
      | refine ar_endD rfl rfl ?_
      | refine ar_callV Try.call89 c_in rfl rfl rfl rfl rfl (by simp) (by rfl) (by simp) ?_
      | refine ar_callV_if Try.call89 c_in rfl rfl rfl rfl rfl rfl (by simp) rfl (by rfl) (by simp) ?_
      | refine ar_go2 _ rfl (by simp [*]; exact ⟨rfl, rfl, rfl⟩) rfl ?_
      | refine aw_sreg ?_
      | refine aw_sregD mixed ?_
      | refine aw_ifT (b := true) rfl rfl ?_
      | refine aw_ifF (b := false) rfl rfl ?_
      | refine aw_ifT rfl (decide_eq_true (by assumption)) ?_
      | refine aw_ifF rfl (decide_eq_false (by assumption)) ?_
      | refine aw_seq ?_
      | refine aw_block ?_
      | refine aw_skip ?_
      | refine aw_region ?_
      | refine aw_region_draw mixed ?_
      | refine aw_exit ?_
      | refine blockQ_hit ?_
      | refine blockQ_miss (by decide) ?_)
  ·
    repeat (first
      | exact aw_ret (ret_vals (by simp; exact rfl) (by simp [*]))
      | refine ar_end rfl ?_
      | refine ar_endD rfl rfl ?_
      | refine ar_callV Try.call89 c_in rfl rfl rfl rfl rfl (by simp) (by rfl) (by simp) ?_
      | refine ar_callV_if Try.call89 c_in rfl rfl rfl rfl rfl rfl (by simp) rfl (by rfl) (by simp) ?_
      | refine ar_go2 _ rfl (by simp [*]; exact ⟨rfl, rfl, rfl⟩) rfl ?_
      | refine aw_sreg ?_
      | refine aw_sregD mixed ?_
      | refine aw_ifT (b := true) rfl rfl ?_
      | refine aw_ifF (b := false) rfl rfl ?_
      | refine aw_ifT rfl (decide_eq_true (by assumption)) ?_
      | refine aw_ifF rfl (decide_eq_false (by assumption)) ?_
      | refine aw_seq ?_
      | refine aw_block ?_
      | refine aw_skip ?_
      | refine aw_region ?_
      | refine aw_region_draw mixed ?_
      | refine aw_exit ?_
      | refine blockQ_hit ?_
      | refine blockQ_miss (by decide) ?_)
  ·
    repeat (first
      | exact aw_ret (ret_vals (by simp; exact rfl) (by simp [*]))
      | refine ar_end rfl ?_
      | refine ar_endD rfl rfl ?_
      | refine ar_callV Try.call89 c_in rfl rfl rfl rfl rfl (by simp) (by rfl) (by simp) ?_
      | refine ar_callV_if Try.call89 c_in rfl rfl rfl rfl rfl rfl (by simp) rfl (by rfl) (by simp) ?_
      | refine ar_go2 _ rfl (by simp [*]; exact ⟨rfl, rfl, rfl⟩) rfl ?_
      | refine aw_sreg ?_
      | refine aw_sregD mixed ?_
      | refine aw_ifT (b := true) rfl rfl ?_
      | refine aw_ifF (b := false) rfl rfl ?_
      | refine aw_ifT rfl (decide_eq_true (by assumption)) ?_
      | refine aw_ifF rfl (decide_eq_false (by assumption)) ?_
      | refine aw_seq ?_
      | refine aw_block ?_
      | refine aw_skip ?_
      | refine aw_region ?_
      | refine aw_region_draw mixed ?_
      | refine aw_exit ?_
      | refine blockQ_hit ?_
      | refine blockQ_miss (by decide) ?_)
def get4 (a b c d z n : Int) : Int := if n = 0 then a else if n = 1 then b else if n = 2 then c else if n = 3 then d else z
theorem c_Get {v0 v1 v2 v3 d0 d1 d2 d3 n : Int} :
    SC Try.prog 38 [.agg (fileL v0 v1 v2 v3 d0 d1 d2 d3), I .i64 n] (.tup [I .i64 (get4 v0 v1 v2 v3 0 n), I .u32 (get4 d0 d1 d2 d3 0 n)]) := by
  refine scx_of Try.func38 rfl rfl rfl (Nat.le_of_ble_eq_true rfl) ?_
  rcases five n with rfl | rfl | rfl | rfl | ⟨h, h0, h1, h2, h3⟩
  ·
    repeat (first
      | exact aw_ret (ret_vals (by simp; exact rfl) (by simp [get4, *]))
      | refine ar_end rfl ?_
      | refine ar_endD rfl rfl ?_
      | refine ar_callV Try.call89 c_in rfl rfl rfl rfl rfl (by simp) (by rfl) (by simp) ?_
      | refine ar_callV_if Try.call89 c_in rfl rfl rfl rfl rfl rfl (by simp) rfl (by rfl) (by simp) ?_
      | refine ar_go2 _ rfl (by simp [*]; exact ⟨rfl, rfl, rfl⟩) rfl ?_
      | refine aw_sreg ?_
      | refine aw_sregD mixed ?_
      | refine aw_ifT (b := true) rfl rfl ?_
      | refine aw_ifF (b := false) rfl rfl ?_
      | refine aw_ifT rfl (decide_eq_true (by assumption)) ?_
      | refine aw_ifF rfl (decide_eq_false (by assumption)) ?_
      | refine aw_seq ?_
      | refine aw_block ?_
      | refine aw_skip ?_
      | refine aw_region ?_
      | refine aw_region_draw mixed ?_
      | refine aw_exit ?_
      | refine blockQ_hit ?_
      | refine blockQ_miss (by decide) ?_)
  ·
    repeat (first
      | exact aw_ret (ret_vals (by simp; exact rfl) (by simp [get4, *]))
      | refine ar_end rfl ?_
      | refine ar_endD rfl rfl ?_
      | refine ar_callV Try.call89 c_in rfl rfl rfl rfl rfl (by simp) (by rfl) (by simp) ?_
      | refine ar_callV_if Try.call89 c_in rfl rfl rfl rfl rfl rfl (by simp) rfl (by rfl) (by simp) ?_
      | refine ar_go2 _ rfl (by simp [*]; exact ⟨rfl, rfl, rfl⟩) rfl ?_
      | refine aw_sreg ?_
      | refine aw_sregD mixed ?_
      | refine aw_ifT (b := true) rfl rfl ?_
      | refine aw_ifF (b := false) rfl rfl ?_
      | refine aw_ifT rfl (decide_eq_true (by assumption)) ?_
      | refine aw_ifF rfl (decide_eq_false (by assumption)) ?_
      | refine aw_seq ?_
      | refine aw_block ?_
      | refine aw_skip ?_
      | refine aw_region ?_
      | refine aw_region_draw mixed ?_
      | refine aw_exit ?_
      | refine blockQ_hit ?_
      | refine blockQ_miss (by decide) ?_)
  ·
    repeat (first
      | exact aw_ret (ret_vals (by simp; exact rfl) (by simp [get4, *]))
      | refine ar_end rfl ?_
      | refine ar_endD rfl rfl ?_
      | refine ar_callV Try.call89 c_in rfl rfl rfl rfl rfl (by simp) (by rfl) (by simp) ?_
      | refine ar_callV_if Try.call89 c_in rfl rfl rfl rfl rfl rfl (by simp) rfl (by rfl) (by simp) ?_
      | refine ar_go2 _ rfl (by simp [*]; exact ⟨rfl, rfl, rfl⟩) rfl ?_
      | refine aw_sreg ?_
      | refine aw_sregD mixed ?_
      | refine aw_ifT (b := true) rfl rfl ?_
      | refine aw_ifF (b := false) rfl rfl ?_
      | refine aw_ifT rfl (decide_eq_true (by assumption)) ?_
      | refine aw_ifF rfl (decide_eq_false (by assumption)) ?_
      | refine aw_seq ?_
      | refine aw_block ?_
      | refine aw_skip ?_
      | refine aw_region ?_
      | refine aw_region_draw mixed ?_
      | refine aw_exit ?_
      | refine blockQ_hit ?_
      | refine blockQ_miss (by decide) ?_)
  ·
    repeat (first
      | exact aw_ret (ret_vals (by simp; exact rfl) (by simp [get4, *]))
      | refine ar_end rfl ?_
      | refine ar_endD rfl rfl ?_
      | refine ar_callV Try.call89 c_in rfl rfl rfl rfl rfl (by simp) (by rfl) (by simp) ?_
      | refine ar_callV_if Try.call89 c_in rfl rfl rfl rfl rfl rfl (by simp) rfl (by rfl) (by simp) ?_
      | refine ar_go2 _ rfl (by simp [*]; exact ⟨rfl, rfl, rfl⟩) rfl ?_
      | refine aw_sreg ?_
      | refine aw_sregD mixed ?_
      | refine aw_ifT (b := true) rfl rfl ?_
      | refine aw_ifF (b := false) rfl rfl ?_
      | refine aw_ifT rfl (decide_eq_true (by assumption)) ?_
      | refine aw_ifF rfl (decide_eq_false (by assumption)) ?_
      | refine aw_seq ?_
      | refine aw_block ?_
      | refine aw_skip ?_
      | refine aw_region ?_
      | refine aw_region_draw mixed ?_
      | refine aw_exit ?_
      | refine blockQ_hit ?_
      | refine blockQ_miss (by decide) ?_)
  ·
    repeat (first
      | exact aw_ret (ret_vals (by simp; exact rfl) (by simp [get4, *]))
      | refine ar_end rfl ?_
      | refine ar_endD rfl rfl ?_
      | refine ar_callV Try.call89 c_in rfl rfl rfl rfl rfl (by simp) (by rfl) (by simp) ?_
      | refine ar_callV_if Try.call89 c_in rfl rfl rfl rfl rfl rfl (by simp) rfl (by rfl) (by simp) ?_
      | refine ar_go2 _ rfl (by simp [*]; exact ⟨rfl, rfl, rfl⟩) rfl ?_
      | refine aw_sreg ?_
      | refine aw_sregD mixed ?_
      | refine aw_ifT (b := true) rfl rfl ?_
      | refine aw_ifF (b := false) rfl rfl ?_
      | refine aw_ifT rfl (decide_eq_true (by assumption)) ?_
      | refine aw_ifF rfl (decide_eq_false (by assumption)) ?_
      | refine aw_seq ?_
      | refine aw_block ?_
      | refine aw_skip ?_
      | refine aw_region ?_
      | refine aw_region_draw mixed ?_
      | refine aw_exit ?_
      | refine blockQ_hit ?_
      | refine blockQ_miss (by decide) ?_)
theorem c_made {v0 v1 v2 v3 d0 d1 d2 d3 : Int} : SC Try.prog 36 [.agg (fileL v0 v1 v2 v3 d0 d1 d2 d3)] (.agg (fileL v0 v1 v2 v3 d0 d1 d2 d3)) := by
  refine scx_of Try.func36 rfl rfl rfl (Nat.le_of_ble_eq_true rfl) ?_
  repeat (first
    | exact aw_ret (ret_vals (by simp; exact rfl) (by simp [*]))
    | refine ar_end rfl ?_
    | refine ar_endD rfl rfl ?_
    | refine ar_go2 _ rfl (by simp [*]; exact ⟨rfl, rfl, rfl⟩) rfl ?_
    | refine aw_sreg ?_
    | refine aw_sregD mixed ?_
    | refine aw_ifT (b := true) rfl rfl ?_
    | refine aw_ifF (b := false) rfl rfl ?_
    | refine aw_ifT rfl (decide_eq_true (by assumption)) ?_
    | refine aw_ifF rfl (decide_eq_false (by assumption)) ?_
    | refine aw_seq ?_
    | refine aw_block ?_
    | refine aw_skip ?_
    | refine aw_region ?_
    | refine aw_region_draw mixed ?_
    | refine aw_exit ?_
    | refine blockQ_hit ?_
    | refine blockQ_miss (by decide) ?_)
theorem c_real {v0 v1 v2 v3 d0 d1 d2 d3 : Int} : SC Try.prog 39 [.agg (fileL v0 v1 v2 v3 d0 d1 d2 d3)] (.agg (fileL v0 v1 v2 v3 d0 d1 d2 d3)) := by
  refine scx_of Try.func39 rfl rfl rfl (Nat.le_of_ble_eq_true rfl) ?_
  repeat (first
    | exact aw_ret (ret_vals (by simp; exact rfl) (by simp [*]))
    | refine ar_end rfl ?_
    | refine ar_endD rfl rfl ?_
    | refine ar_go2 _ rfl (by simp [*]; exact ⟨rfl, rfl, rfl⟩) rfl ?_
    | refine aw_sreg ?_
    | refine aw_sregD mixed ?_
    | refine aw_ifT (b := true) rfl rfl ?_
    | refine aw_ifF (b := false) rfl rfl ?_
    | refine aw_ifT rfl (decide_eq_true (by assumption)) ?_
    | refine aw_ifF rfl (decide_eq_false (by assumption)) ?_
    | refine aw_seq ?_
    | refine aw_block ?_
    | refine aw_skip ?_
    | refine aw_region ?_
    | refine aw_region_draw mixed ?_
    | refine aw_exit ?_
    | refine blockQ_hit ?_
    | refine blockQ_miss (by decide) ?_)
theorem rest_eq {n y : Int} (h1 : 1 ≤ y) (h2 : y ≤ 4611686018427387904) : (IntKind.wrap .i64 (n.tmod y + y)).tmod y = n % y := by
  have hy : 0 < y := by omega
  have a1 := Int.tmod_lt_of_pos n hy
  have a2 : -y < n.tmod y := by
    have := Int.lt_tmod_of_pos n hy
    omega
  rw [IntKind.wrap_i64]
  have e : (n.tmod y + y + 9223372036854775808) % 18446744073709551616 = n.tmod y + y + 9223372036854775808 := Int.emod_eq_of_lt (by omega) (by omega)
  rw [e]
  have e2 : n.tmod y + y + 9223372036854775808 - 9223372036854775808 = n.tmod y + y := by omega
  rw [e2, Int.tmod_eq_emod_of_nonneg (by omega), Int.add_emod_right, Int.tmod_def, Int.sub_mul_emod_self_left]
theorem c_rest {n y : Int} (h1 : 1 ≤ y) (h2 : y ≤ 4611686018427387904) : SC Try.prog 88 [I .i64 n, I .i64 y] (I .i64 (n % y)) := by
  refine scx_of Try.func88 rfl rfl rfl (Nat.le_of_ble_eq_true rfl) ?_
  have hn : ¬ y = 0 := by omega
  repeat (first
    | exact aw_ret (ret_vals (by simp; exact rfl) (by simp [rest_eq h1 h2]))
    | refine ar_end rfl ?_
    | refine ar_endD rfl rfl ?_
    | refine ar_go2 _ rfl (by simp [*]; exact ⟨rfl, rfl, rfl⟩) rfl ?_
    | refine aw_sreg ?_
    | refine aw_sregD mixed ?_
    | refine aw_ifT (b := true) rfl rfl ?_
    | refine aw_ifF (b := false) rfl rfl ?_
    | refine aw_ifT rfl (decide_eq_true (by assumption)) ?_
    | refine aw_ifF rfl (decide_eq_false (by assumption)) ?_
    | refine aw_seq ?_
    | refine aw_block ?_
    | refine aw_skip ?_
    | refine aw_region ?_
    | refine aw_region_draw mixed ?_
    | refine aw_exit ?_
    | refine blockQ_hit ?_
    | refine blockQ_miss (by decide) ?_)
theorem c_ins_Kind {op d a b l m : Int} : SC Try.prog 44 [.agg [C .i64 op, C .i64 d, C .i64 a, C .i64 b, C .i64 l, C .i64 m]] (I .i64 (kindF op)) := by
  refine scx_of Try.func44 rfl rfl rfl (Nat.le_of_ble_eq_true rfl) ?_
  have hc : op = 5 ∨ op = 7 ∨ op = 9 ∨ op = 6 ∨ op = 8 ∨ op = 10 ∨ (¬op = 5 ∧ ¬op = 7 ∧ ¬op = 9 ∧ ¬op = 6 ∧ ¬op = 8 ∧ ¬op = 10) := by omega
  rcases hc with rfl | rfl | rfl | rfl | rfl | rfl | ⟨h1, h2, h3, h4, h5, h6⟩ <;>
  repeat (first
    | exact aw_ret (ret_vals (by simp; exact rfl) (by simp [kindF, *]))
    | refine ar_end rfl ?_
    | refine ar_endD rfl rfl ?_
    | refine ar_go2 _ rfl (by simp [*]; exact ⟨rfl, rfl, rfl⟩) rfl ?_
    | refine aw_sreg ?_
    | refine aw_sregD mixed ?_
    | refine aw_ifT (b := true) rfl rfl ?_
    | refine aw_ifF (b := false) rfl rfl ?_
    | refine aw_ifT rfl (decide_eq_true (by assumption)) ?_
    | refine aw_ifF rfl (decide_eq_false (by assumption)) ?_
    | refine aw_seq ?_
    | refine aw_block ?_
    | refine aw_skip ?_
    | refine aw_region ?_
    | refine aw_region_draw mixed ?_
    | refine aw_exit ?_
    | refine blockQ_hit ?_
    | refine blockQ_miss (by decide) ?_)
theorem wrap64 {n : Int} (h : -9223372036854775808 ≤ n) (h2 : n < 9223372036854775808) : IntKind.wrap .i64 n = n := by
  rw [IntKind.wrap_i64]; omega
theorem place_hi {a b y : Int} (h1 : 1 ≤ y) (h2 : y ≤ 4611686018427387904) (h : IntKind.wrap .i64 (y - b % y) ≤ a % y) : IntKind.wrap .i64 (a % y - IntKind.wrap .i64 (y - b % y)) = (a + b) % y := by
  have a1 := Int.emod_nonneg a (show y ≠ 0 by omega)
  have a2 := Int.emod_lt_of_pos a (show 0 < y by omega)
  have b1 := Int.emod_nonneg b (show y ≠ 0 by omega)
  have b2 := Int.emod_lt_of_pos b (show 0 < y by omega)
  rw [wrap64 (n := y - b % y) (by omega) (by omega)] at h ⊢
  rw [wrap64 (by omega) (by omega), Int.add_emod a b y]
  generalize a % y = p at *
  generalize b % y = q at *
  have : (p + q) % y = (p + q - y) % y := by rw [Int.sub_emod_right]
  rw [this, Int.emod_eq_of_lt (by omega) (by omega)]
  omega
theorem place_lo {a b y : Int} (h1 : 1 ≤ y) (h2 : y ≤ 4611686018427387904) (h : ¬ IntKind.wrap .i64 (y - b % y) ≤ a % y) : IntKind.wrap .i64 (a % y + b % y) = (a + b) % y := by
  have a1 := Int.emod_nonneg a (show y ≠ 0 by omega)
  have a2 := Int.emod_lt_of_pos a (show 0 < y by omega)
  have b1 := Int.emod_nonneg b (show y ≠ 0 by omega)
  have b2 := Int.emod_lt_of_pos b (show 0 < y by omega)
  rw [wrap64 (n := y - b % y) (by omega) (by omega)] at h
  rw [wrap64 (by omega) (by omega), Int.add_emod a b y]
  generalize a % y = p at *
  generalize b % y = q at *
  rw [Int.emod_eq_of_lt (by omega) (by omega)]
theorem c_Place {v0 v1 v2 v3 d0 d1 d2 d3 op d a b l m y : Int} (h2 : y ≤ 4611686018427387904) :
    SC Try.prog 35 [.agg (fileL v0 v1 v2 v3 d0 d1 d2 d3), .agg [C .i64 op, C .i64 d, C .i64 a, C .i64 b, C .i64 l, C .i64 m], I .i64 y]
      (.tup [I .i64 (if y < 1 ∨ kindF op = 0 then 0 else (l + get4 v0 v1 v2 v3 0 a) % y), I .u32 (if y < 1 ∨ kindF op = 0 then 0 else get4 d0 d1 d2 d3 0 a)]) := by
  refine scx_of Try.func35 rfl rfl rfl (Nat.le_of_ble_eq_true rfl) ?_
  by_cases hy : y < 1
  ·
    repeat (first
      | exact aw_ret (ret_vals (by simp; exact rfl) (by simp [*]))
      | refine ar_end rfl ?_
      | refine ar_endD rfl rfl ?_
      | refine ar_callV Try.call44 c_ins_Kind rfl rfl rfl rfl rfl (by simp) (by rfl) (by simp) ?_
      | refine ar_callV_if Try.call44 c_ins_Kind rfl rfl rfl rfl rfl rfl (by simp) rfl (by rfl) (by simp) ?_
      | refine ar_go2 _ rfl (by simp [*]; exact ⟨rfl, rfl, rfl⟩) rfl ?_
      | refine aw_sreg ?_
      | refine aw_sregD mixed ?_
      | refine aw_ifT (b := true) rfl rfl ?_
      | refine aw_ifF (b := false) rfl rfl ?_
      | refine aw_ifT rfl (decide_eq_true (by assumption)) ?_
      | refine aw_ifF rfl (decide_eq_false (by assumption)) ?_
      | refine aw_seq ?_
      | refine aw_block ?_
      | refine aw_skip ?_
      | refine aw_region ?_
      | refine aw_region_draw mixed ?_
      | refine aw_exit ?_
      | refine blockQ_hit ?_
      | refine blockQ_miss (by decide) ?_)
  · by_cases hk : kindF op = 0
    ·
      repeat (first
        | exact aw_ret (ret_vals (by simp; exact rfl) (by simp [*]))
        | refine ar_end rfl ?_
        | refine ar_endD rfl rfl ?_
        | refine ar_callV Try.call44 c_ins_Kind rfl rfl rfl rfl rfl (by simp) (by rfl) (by simp) ?_
        | refine ar_callV_if Try.call44 c_ins_Kind rfl rfl rfl rfl rfl rfl (by simp) rfl (by rfl) (by simp) ?_
        | refine ar_go2 _ rfl (by simp [*]; exact ⟨rfl, rfl, rfl⟩) rfl ?_
        | refine aw_sreg ?_
        | refine aw_sregD mixed ?_
        | refine aw_ifT (b := true) rfl rfl ?_
        | refine aw_ifF (b := false) rfl rfl ?_
        | refine aw_ifT rfl (decide_eq_true (by assumption)) ?_
        | refine aw_ifF rfl (decide_eq_false (by assumption)) ?_
        | refine aw_seq ?_
        | refine aw_block ?_
        | refine aw_skip ?_
        | refine aw_region ?_
        | refine aw_region_draw mixed ?_
        | refine aw_exit ?_
        | refine blockQ_hit ?_
        | refine blockQ_miss (by decide) ?_)
    · have h1 : 1 ≤ y := by omega
      by_cases hh : IntKind.wrap .i64 (y - get4 v0 v1 v2 v3 0 a % y) ≤ l % y
      · have e := place_hi h1 h2 hh
        repeat (first
          | exact aw_ret (ret_vals (by simp; exact rfl) (by simp [*]))
          | refine ar_end rfl ?_
          | refine ar_endD rfl rfl ?_
          | refine ar_callV Try.call44 c_ins_Kind rfl rfl rfl rfl rfl (by simp) (by rfl) (by simp) ?_
          | refine ar_callV_if Try.call44 c_ins_Kind rfl rfl rfl rfl rfl rfl (by simp) rfl (by rfl) (by simp) ?_
          | refine ar_callV Try.call38 c_Get rfl rfl rfl rfl rfl (by simp) (by rfl) (by simp) ?_
          | refine ar_callV_if Try.call38 c_Get rfl rfl rfl rfl rfl rfl (by simp) rfl (by rfl) (by simp) ?_
          | refine ar_callV Try.call88 (c_rest h1 h2) rfl rfl rfl rfl rfl (by simp) (by rfl) (by simp) ?_
          | refine ar_callV_if Try.call88 (c_rest h1 h2) rfl rfl rfl rfl rfl rfl (by simp) rfl (by rfl) (by simp) ?_
          | refine ar_go2 _ rfl (by simp [*]; exact ⟨rfl, rfl, rfl⟩) rfl ?_
          | refine aw_sreg ?_
          | refine aw_sregD mixed ?_
          | refine aw_ifT (b := true) rfl rfl ?_
          | refine aw_ifF (b := false) rfl rfl ?_
          | refine aw_ifT rfl (decide_eq_true (by assumption)) ?_
          | refine aw_ifF rfl (decide_eq_false (by assumption)) ?_
          | refine aw_seq ?_
          | refine aw_block ?_
          | refine aw_skip ?_
          | refine aw_region ?_
          | refine aw_region_draw mixed ?_
          | refine aw_exit ?_
          | refine blockQ_hit ?_
          | refine blockQ_miss (by decide) ?_)
      · have e := place_lo h1 h2 hh
        repeat (first
          | exact aw_ret (ret_vals (by simp; exact rfl) (by simp [*]))
          | refine ar_end rfl ?_
          | refine ar_endD rfl rfl ?_
          | refine ar_callV Try.call44 c_ins_Kind rfl rfl rfl rfl rfl (by simp) (by rfl) (by simp) ?_
          | refine ar_callV_if Try.call44 c_ins_Kind rfl rfl rfl rfl rfl rfl (by simp) rfl (by rfl) (by simp) ?_
          | refine ar_callV Try.call38 c_Get rfl rfl rfl rfl rfl (by simp) (by rfl) (by simp) ?_
          | refine ar_callV_if Try.call38 c_Get rfl rfl rfl rfl rfl rfl (by simp) rfl (by rfl) (by simp) ?_
          | refine ar_callV Try.call88 (c_rest h1 h2) rfl rfl rfl rfl rfl (by simp) (by rfl) (by simp) ?_
          | refine ar_callV_if Try.call88 (c_rest h1 h2) rfl rfl rfl rfl rfl rfl (by simp) rfl (by rfl) (by simp) ?_
          | refine ar_go2 _ rfl (by simp [*]; exact ⟨rfl, rfl, rfl⟩) rfl ?_
          | refine aw_sreg ?_
          | refine aw_sregD mixed ?_
          | refine aw_ifT (b := true) rfl rfl ?_
          | refine aw_ifF (b := false) rfl rfl ?_
          | refine aw_ifT rfl (decide_eq_true (by assumption)) ?_
          | refine aw_ifF rfl (decide_eq_false (by assumption)) ?_
          | refine aw_seq ?_
          | refine aw_block ?_
          | refine aw_skip ?_
          | refine aw_region ?_
          | refine aw_region_draw mixed ?_
          | refine aw_exit ?_
          | refine blockQ_hit ?_
          | refine blockQ_miss (by decide) ?_)
theorem c_shown7 : SC Try.prog 34 [] (B true) := by
  refine scx_of Try.func34 rfl rfl rfl (Nat.le_of_ble_eq_true rfl) ?_
  repeat (first
    | exact aw_ret (ret_vals (by simp; exact rfl) (by simp [*]))
    | refine ar_end rfl ?_
    | refine ar_endD rfl rfl ?_
    | refine ar_callV Try.call37 c_Set rfl rfl rfl rfl rfl (by simp) (by rfl) (by simp) ?_
    | refine ar_callV_if Try.call37 c_Set rfl rfl rfl rfl rfl rfl (by simp) rfl (by rfl) (by simp) ?_
    | refine ar_callV Try.call35 (c_Place (y := 2) (by decide)) rfl rfl rfl rfl rfl (by simp) (by rfl) (by simp) ?_
    | refine ar_callV_if Try.call35 (c_Place (y := 2) (by decide)) rfl rfl rfl rfl rfl rfl (by simp) rfl (by rfl) (by simp) ?_
    | refine ar_go2 _ rfl (by simp [kindF, get4]; exact ⟨rfl, rfl, rfl⟩) rfl ?_
    | refine aw_sreg ?_
    | refine aw_sregD mixed ?_
    | refine aw_ifT (b := true) rfl rfl ?_
    | refine aw_ifF (b := false) rfl rfl ?_
    | refine aw_ifT rfl (decide_eq_true (by assumption)) ?_
    | refine aw_ifF rfl (decide_eq_false (by assumption)) ?_
    | refine aw_seq ?_
    | refine aw_block ?_
    | refine aw_skip ?_
    | refine aw_region ?_
    | refine aw_region_draw mixed ?_
    | refine aw_exit ?_
    | refine blockQ_hit ?_
    | refine blockQ_miss (by decide) ?_)
end Go.Eng
