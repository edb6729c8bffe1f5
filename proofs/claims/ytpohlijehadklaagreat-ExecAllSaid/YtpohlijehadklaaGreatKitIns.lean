import Derived.Test.YtpohlijehadklaaGreatTabB
import Derived.Test.YtpohlijehadklaaGreatEngC
set_option linter.unusedSimpArgs false
set_option linter.unusedVariables false
set_option autoImplicit false
namespace Go.Eng
open Go Go.RowKit Go.Proofs
theorem mixed : Tryz.prog.follows .mixedOrders = true := by kernel_rfl
def kindF (op : Int) : Int := if op = 5 ∨ op = 7 ∨ op = 9 then 1 else if op = 6 ∨ op = 8 ∨ op = 10 then 2 else 0
theorem c_in {n : Int} : SC Tryz.prog 115 [I .i64 n] (B (decide (0 ≤ n ∧ n < 4))) := by
  refine scx_of Tryz.func115 rfl rfl rfl (Nat.le_of_ble_eq_true rfl) ?_
  by_cases h : 0 ≤ n
  repeat (first
    | exact aw_ret (ret_vals (by simp; exact rfl) (by simp [*]))
    | refine ar_end rfl ?_
    | refine ar_endD rfl rfl ?_
    | refine ar_go2 _ rfl (by simp [*]; exact ⟨rfl, rfl, rfl⟩) rfl ?_
    | refine aw_sreg ?_
    | refine aw_sregD mixed ?_
    | refine aw_ifT (b := true) rfl rfl ?_
    | refine aw_ifF (b := false) rfl rfl ?_
    | refine aw_ifT rfl (decide_eq_true (by assumption)) ?_
    | refine aw_ifF rfl (decide_eq_false (by assumption)) ?_
    | refine aw_seq ?_
    | refine aw_block ?_
    | refine aw_skip ?_
    | refine aw_region ?_
    | refine aw_region_draw mixed ?_
    | refine aw_exit ?_
    | refine blockQ_hit ?_
    | refine blockQ_miss (by decide) ?_)
theorem five (n : Int) : n = 0 ∨ n = 1 ∨ n = 2 ∨ n = 3 ∨ ((¬(0 ≤ n ∧ n < 4)) ∧ ¬n = 0 ∧ ¬n = 1 ∧ ¬n = 2 ∧ ¬n = 3) := by omega
abbrev fileL (v0 v1 v2 v3 d0 d1 d2 d3 : Int) : List PV := [C .i64 v0, C .i64 v1, C .i64 v2, C .i64 v3, C .u32 d0, C .u32 d1, C .u32 d2, C .u32 d3]
theorem c_Set {v0 v1 v2 v3 d0 d1 d2 d3 n v d : Int} :
    SC Tryz.prog 98 [.agg (fileL v0 v1 v2 v3 d0 d1 d2 d3), I .i64 n, I .i64 v, I .u32 d]
      (.agg (fileL (if n = 0 then v else v0) (if n = 1 then v else v1) (if n = 2 then v else v2) (if n = 3 then v else v3) (if n = 0 then d else d0) (if n = 1 then d else d1) (if n = 2 then d else d2) (if n = 3 then d else d3))) := by
  refine scx_of Tryz.func98 rfl rfl rfl (Nat.le_of_ble_eq_true rfl) ?_
  rcases five n with rfl | rfl | rfl | rfl | ⟨h, h0, h1, h2, h3⟩
  ·
    repeat (first
      | exact aw_ret (ret_vals (by simp; exact rfl) (by simp [*]))
      | refine ar_end rfl ?_
      | refine ar_endD rfl rfl ?_
      | refine ar_callV Tryz.call115 c_in rfl rfl rfl rfl rfl (by simp) (by rfl) (by simp) ?_
      | refine ar_callV_if Tryz.call115 c_in rfl rfl rfl rfl rfl rfl (by simp) rfl (by rfl) (by simp) ?_
      | refine ar_go2 _ rfl (by simp [*]; exact ⟨rfl, rfl, rfl⟩) rfl ?_
      | refine aw_sreg ?_
      | refine aw_sregD mixed ?_
      | refine aw_ifT (b := true) rfl rfl ?_
      | refine aw_ifF (b := false) rfl rfl ?_
      | refine aw_ifT rfl (decide_eq_true (by assumption)) ?_
      | refine aw_ifF rfl (decide_eq_false (by assumption)) ?_
      | refine aw_seq ?_
      | refine aw_block ?_
      | refine aw_skip ?_
      | refine aw_region ?_
      | refine aw_region_draw mixed ?_
      | refine aw_exit ?_
      | refine blockQ_hit ?_
      | refine blockQ_miss (by decide) ?_)
  ·
    repeat (first
      | exact aw_ret (ret_vals (by simp; exact rfl) (by simp [*]))
      | refine ar_end rfl ?_
      | refine ar_endD rfl rfl ?_
      | refine ar_callV Tryz.call115 c_in rfl rfl rfl rfl rfl (by simp) (by rfl) (by simp) ?_
      | refine ar_callV_if Tryz.call115 c_in rfl rfl rfl rfl rfl rfl (by simp) rfl (by rfl) (by simp) ?_
      | refine ar_go2 _ rfl (by simp [*]; exact ⟨rfl, rfl, rfl⟩) rfl ?_
      | refine aw_sreg ?_
      | refine aw_sregD mixed ?_
      | refine aw_ifT (b := true) rfl rfl ?_
      | refine aw_ifF (b := false) rfl rfl ?_
      | refine aw_ifT rfl (decide_eq_true (by assumption)) ?_
      | refine aw_ifF rfl (decide_eq_false (by assumption)) ?_
      | refine aw_seq ?_
      | refine aw_block ?_
      | refine aw_skip ?_
      | refine aw_region ?_
      | refine aw_region_draw mixed ?_
      | refine aw_exit ?_
      | refine blockQ_hit ?_
      | refine blockQ_miss (by decide) ?_)
  ·
    repeat (first
      | exact aw_ret (ret_vals (by simp; exact rfl) (by simp [*]))
      | refine ar_end rfl ?_
      | refine ar_endD rfl rfl ?_
      | refine ar_callV Tryz.call115 c_in rfl rfl rfl rfl rfl (by simp) (by rfl) (by simp) ?_
      | refine ar_callV_if Tryz.call115 c_in rfl rfl rfl rfl rfl rfl (by simp) rfl (by rfl) (by simp) ?_
      | refine ar_go2 _ rfl (by simp [*]; exact ⟨rfl, rfl, rfl⟩) rfl ?_
      | refine aw_sreg ?_
      | refine aw_sregD mixed ?_
      | refine aw_ifT (b := true) rfl rfl ?_
      | refine aw_ifF (b := false) rfl rfl ?_
      | refine aw_ifT rfl (decide_eq_true (by assumption)) ?_
      | refine aw_ifF rfl (decide_eq_false (by assumption)) ?_
      | refine aw_seq ?_
      | refine aw_block ?_
      | refine aw_skip ?_
      | refine aw_region ?_
      | refine aw_region_draw mixed ?_
      | refine aw_exit ?_
      | refine blockQ_hit ?_
      | refine blockQ_miss (by decide) ?_)
  ·
    repeat (first
      | exact aw_ret (ret_vals (by simp; exact rfl) (by simp [*]))
      | refine ar_end rfl ?_
      | refine ar_endD rfl rfl ?_
      | refine ar_callV Tryz.call115 c_in rfl rfl rfl rfl rfl (by simp) (by rfl) (by simp) ?_
      | refine ar_callV_if Tryz.call115 c_in rfl rfl rfl rfl rfl rfl (by simp) rfl (by rfl) (by simp) ?_
      | refine ar_go2 _ rfl (by simp [*]; exact ⟨rfl, rfl, rfl⟩) rfl ?_
      | refine aw_sreg ?_
      | refine aw_sregD mixed ?_
      | refine aw_ifT (b := true) rfl rfl ?_
      | refine aw_ifF (b := false) rfl rfl ?_
      | refine aw_ifT rfl (decide_eq_true (by assumption)) ?_
      | refine aw_ifF rfl (decide_eq_false (by assumption)) ?_
      | refine aw_seq ?_
      | refine aw_block ?_
      | refine aw_skip ?_
      | refine aw_region ?_
      | refine aw_region_draw mixed ?_
      | refine aw_exit ?_
      | refine blockQ_hit ?_
      | refine blockQ_miss (by decide) ?_)
  ·
    repeat (first
      | exact aw_ret (ret_vals (by simp; exact rfl) (by simp [*]))
      | refine ar_end rfl ?_
      | refine ar_endD rfl rfl ?_
      | refine ar_callV Tryz.call115 c_in rfl rfl rfl rfl rfl (by simp) (by rfl) (by simp) ?_
      | refine ar_callV_if Tryz.call115 c_in rfl rfl rfl rfl rfl rfl (by simp) rfl (by rfl) (by simp) ?_
      | refine ar_go2 _ rfl (by simp [*]; exact ⟨rfl, rfl, rfl⟩) rfl ?_
      | refine aw_sreg ?_
      | refine aw_sregD mixed ?_
      | refine aw_ifT (b := true) rfl rfl ?_
      | refine aw_ifF (b := false) rfl rfl ?_
      | refine aw_ifT rfl (decide_eq_true (by assumption)) ?_
      | refine aw_ifF rfl (decide_eq_false (by assumption)) ?_
      | refine aw_seq ?_
      | refine aw_block ?_
      | refine aw_skip ?_
      | refine aw_region ?_
      | refine aw_region_draw mixed ?_
      | refine aw_exit ?_
      | refine blockQ_hit ?_
      | refine blockQ_miss (by decide) ?_)
def get4 (a b c d z n : Int) : Int := if n = 0 then a else if n = 1 then b else if n = 2 then c else if n = 3 then d else z
theorem c_Get {v0 v1 v2 v3 d0 d1 d2 d3 n : Int} :
    SC Tryz.prog 100 [.agg (fileL v0 v1 v2 v3 d0 d1 d2 d3), I .i64 n] (.tup [I .i64 (get4 v0 v1 v2 v3 0 n), I .u32 (get4 d0 d1 d2 d3 0 n)]) := by
  refine scx_of Tryz.func100 rfl rfl rfl (Nat.le_of_ble_eq_true rfl) ?_
  rcases five n with rfl | rfl | rfl | rfl | ⟨h, h0, h1, h2, h3⟩
  ·
    repeat (first
      | exact aw_ret (ret_vals (by simp; exact rfl) (by simp [get4, *]))
      | refine ar_end rfl ?_
      | refine ar_endD rfl rfl ?_
      | refine ar_callV Tryz.call115 c_in rfl rfl rfl rfl rfl (by simp) (by rfl) (by simp) ?_
      | refine ar_callV_if Tryz.call115 c_in rfl rfl rfl rfl rfl rfl (by simp) rfl (by rfl) (by simp) ?_
      | refine ar_go2 _ rfl (by simp [*]; exact ⟨rfl, rfl, rfl⟩) rfl ?_
      | refine aw_sreg ?_
      | refine aw_sregD mixed ?_
      | refine aw_ifT (b := true) rfl rfl ?_
      | refine aw_ifF (b := false) rfl rfl ?_
      | refine aw_ifT rfl (decide_eq_true (by assumption)) ?_
      | refine aw_ifF rfl (decide_eq_false (by assumption)) ?_
      | refine aw_seq ?_
      | refine aw_block ?_
      | refine aw_skip ?_
      | refine aw_region ?_
      | refine aw_region_draw mixed ?_
      | refine aw_exit ?_
      | refine blockQ_hit ?_
      | refine blockQ_miss (by decide) ?_)
  ·
    repeat (first
      | exact aw_ret (ret_vals (by simp; exact rfl) (by simp [get4, *]))
      | refine ar_end rfl ?_
      | refine ar_endD rfl rfl ?_
      | refine ar_callV Tryz.call115 c_in rfl rfl rfl rfl rfl (by simp) (by rfl) (by simp) ?_
      | refine ar_callV_if Tryz.call115 c_in rfl rfl rfl rfl rfl rfl (by simp) rfl (by rfl) (by simp) ?_
      | refine ar_go2 _ rfl (by simp [*]; exact ⟨rfl, rfl, rfl⟩) rfl ?_
      | refine aw_sreg ?_
      | refine aw_sregD mixed ?_
      | refine aw_ifT (b := true) rfl rfl ?_
      | refine aw_ifF (b := false) rfl rfl ?_
      | refine aw_ifT rfl (decide_eq_true (by assumption)) ?_
      | refine aw_ifF rfl (decide_eq_false (by assumption)) ?_
      | refine aw_seq ?_
      | refine aw_block ?_
      | refine aw_skip ?_
      | refine aw_region ?_
      | refine aw_region_draw mixed ?_
      | refine aw_exit ?_
      | refine blockQ_hit ?_
      | refine blockQ_miss (by decide) ?_)
  ·
    repeat (first
      | exact aw_ret (ret_vals (by simp; exact rfl) (by simp [get4, *]))
      | refine ar_end rfl ?_
      | refine ar_endD rfl rfl ?_
      | refine ar_callV Tryz.call115 c_in rfl rfl rfl rfl rfl (by simp) (by rfl) (by simp) ?_
      | refine ar_callV_if Tryz.call115 c_in rfl rfl rfl rfl rfl rfl (by simp) rfl (by rfl) (by simp) ?_
      | refine ar_go2 _ rfl (by simp [*]; exact ⟨rfl, rfl, rfl⟩) rfl ?_
      | refine aw_sreg ?_
      | refine aw_sregD mixed ?_
      | refine aw_ifT (b := true) rfl rfl ?_
      | refine aw_ifF (b := false) rfl rfl ?_
      | refine aw_ifT rfl (decide_eq_true (by assumption)) ?_
      | refine aw_ifF rfl (decide_eq_false (by assumption)) ?_
      | refine aw_seq ?_
      | refine aw_block ?_
      | refine aw_skip ?_
      | refine aw_region ?_
      | refine aw_region_draw mixed ?_
      | refine aw_exit ?_
      | refine blockQ_hit ?_
      | refine blockQ_miss (by decide) ?_)
  ·
    repeat (first
      | exact aw_ret (ret_vals (by simp; exact rfl) (by simp [get4, *]))
      | refine ar_end rfl ?_
      | refine ar_endD rfl rfl ?_
      | refine ar_callV Tryz.call115 c_in rfl rfl rfl rfl rfl (by simp) (by rfl) (by simp) ?_
      | refine ar_callV_if Tryz.call115 c_in rfl rfl rfl rfl rfl rfl (by simp) rfl (by rfl) (by simp) ?_
      | refine ar_go2 _ rfl (by simp [*]; exact ⟨rfl, rfl, rfl⟩) rfl ?_
      | refine aw_sreg ?_
      | refine aw_sregD mixed ?_
      | refine aw_ifT (b := true) rfl rfl ?_
      | refine aw_ifF (b := false) rfl rfl ?_
      | refine aw_ifT rfl (decide_eq_true (by assumption)) ?_
      | refine aw_ifF rfl (decide_eq_false (by assumption)) ?_
      | refine aw_seq ?_
      | refine aw_block ?_
      | refine aw_skip ?_
      | refine aw_region ?_
      | refine aw_region_draw mixed ?_
      | refine aw_exit ?_
      | refine blockQ_hit ?_
      | refine blockQ_miss (by decide) ?_)
  ·
    repeat (first
      | exact aw_ret (ret_vals (by simp; exact rfl) (by simp [get4, *]))
      | refine ar_end rfl ?_
      | refine ar_endD rfl rfl ?_
      | refine ar_callV Tryz.call115 c_in rfl rfl rfl rfl rfl (by simp) (by rfl) (by simp) ?_
      | refine ar_callV_if Tryz.call115 c_in rfl rfl rfl rfl rfl rfl (by simp) rfl (by rfl) (by simp) ?_
      | refine ar_go2 _ rfl (by simp [*]; exact ⟨rfl, rfl, rfl⟩) rfl ?_
      | refine aw_sreg ?_
      | refine aw_sregD mixed ?_
      | refine aw_ifT (b := true) rfl rfl ?_
      | refine aw_ifF (b := false) rfl rfl ?_
      | refine aw_ifT rfl (decide_eq_true (by assumption)) ?_
      | refine aw_ifF rfl (decide_eq_false (by assumption)) ?_
      | refine aw_seq ?_
      | refine aw_block ?_
      | refine aw_skip ?_
      | refine aw_region ?_
      | refine aw_region_draw mixed ?_
      | refine aw_exit ?_
      | refine blockQ_hit ?_
      | refine blockQ_miss (by decide) ?_)
theorem rest_eq {n y : Int} (h1 : 1 ≤ y) (h2 : y ≤ 4611686018427387904) : (IntKind.wrap .i64 (n.tmod y + y)).tmod y = n % y := by
  have hy : 0 < y := by omega
  have a1 := Int.tmod_lt_of_pos n hy
  have a2 : -y < n.tmod y := by
    have := Int.lt_tmod_of_pos n hy
    omega
  rw [IntKind.wrap_i64]
  have e : (n.tmod y + y + 9223372036854775808) % 18446744073709551616 = n.tmod y + y + 9223372036854775808 := Int.emod_eq_of_lt (by omega) (by omega)
  rw [e]
  have e2 : n.tmod y + y + 9223372036854775808 - 9223372036854775808 = n.tmod y + y := by omega
  rw [e2, Int.tmod_eq_emod_of_nonneg (by omega), Int.add_emod_right, Int.tmod_def, Int.sub_mul_emod_self_left]
theorem c_rest {n y : Int} (h1 : 1 ≤ y) (h2 : y ≤ 4611686018427387904) : SC Tryz.prog 114 [I .i64 n, I .i64 y] (I .i64 (n % y)) := by
  refine scx_of Tryz.func114 rfl rfl rfl (Nat.le_of_ble_eq_true rfl) ?_
  have hn : ¬ y = 0 := by omega
  repeat (first
    | exact aw_ret (ret_vals (by simp; exact rfl) (by simp [rest_eq h1 h2]))
    | refine ar_end rfl ?_
    | refine ar_endD rfl rfl ?_
    | refine ar_go2 _ rfl (by simp [*]; exact ⟨rfl, rfl, rfl⟩) rfl ?_
    | refine aw_sreg ?_
    | refine aw_sregD mixed ?_
    | refine aw_ifT (b := true) rfl rfl ?_
    | refine aw_ifF (b := false) rfl rfl ?_
    | refine aw_ifT rfl (decide_eq_true (by assumption)) ?_
    | refine aw_ifF rfl (decide_eq_false (by assumption)) ?_
    | refine aw_seq ?_
    | refine aw_block ?_
    | refine aw_skip ?_
    | refine aw_region ?_
    | refine aw_region_draw mixed ?_
    | refine aw_exit ?_
    | refine blockQ_hit ?_
    | refine blockQ_miss (by decide) ?_)
theorem c_ins_Kind {op d a b l m : Int} : SC Tryz.prog 48 [.agg [C .i64 op, C .i64 d, C .i64 a, C .i64 b, C .i64 l, C .i64 m]] (I .i64 (kindF op)) := by
  refine scx_of Tryz.func48 rfl rfl rfl (Nat.le_of_ble_eq_true rfl) ?_
  have hc : op = 5 ∨ op = 7 ∨ op = 9 ∨ op = 6 ∨ op = 8 ∨ op = 10 ∨ (¬op = 5 ∧ ¬op = 7 ∧ ¬op = 9 ∧ ¬op = 6 ∧ ¬op = 8 ∧ ¬op = 10) := by omega
  rcases hc with rfl | rfl | rfl | rfl | rfl | rfl | ⟨h1, h2, h3, h4, h5, h6⟩ <;>
  repeat (first
    | exact aw_ret (ret_vals (by simp; exact rfl) (by simp [kindF, *]))
    | refine ar_end rfl ?_
    | refine ar_endD rfl rfl ?_
    | refine ar_go2 _ rfl (by simp [*]; exact ⟨rfl, rfl, rfl⟩) rfl ?_
    | refine aw_sreg ?_
    | refine aw_sregD mixed ?_
    | refine aw_ifT (b := true) rfl rfl ?_
    | refine aw_ifF (b := false) rfl rfl ?_
    | refine aw_ifT rfl (decide_eq_true (by assumption)) ?_
    | refine aw_ifF rfl (decide_eq_false (by assumption)) ?_
    | refine aw_seq ?_
    | refine aw_block ?_
    | refine aw_skip ?_
    | refine aw_region ?_
    | refine aw_region_draw mixed ?_
    | refine aw_exit ?_
    | refine blockQ_hit ?_
    | refine blockQ_miss (by decide) ?_)
theorem wrap64 {n : Int} (h : -9223372036854775808 ≤ n) (h2 : n < 9223372036854775808) : IntKind.wrap .i64 n = n := by
  rw [IntKind.wrap_i64]; omega
theorem place_hi {a b y : Int} (h1 : 1 ≤ y) (h2 : y ≤ 4611686018427387904) (h : IntKind.wrap .i64 (y - b % y) ≤ a % y) : IntKind.wrap .i64 (a % y - IntKind.wrap .i64 (y - b % y)) = (a + b) % y := by
  have a1 := Int.emod_nonneg a (show y ≠ 0 by omega)
  have a2 := Int.emod_lt_of_pos a (show 0 < y by omega)
  have b1 := Int.emod_nonneg b (show y ≠ 0 by omega)
  have b2 := Int.emod_lt_of_pos b (show 0 < y by omega)
  rw [wrap64 (n := y - b % y) (by omega) (by omega)] at h ⊢
  rw [wrap64 (by omega) (by omega), Int.add_emod a b y]
  generalize a % y = p at *
  generalize b % y = q at *
  have : (p + q) % y = (p + q - y) % y := by rw [Int.sub_emod_right]
  rw [this, Int.emod_eq_of_lt (by omega) (by omega)]
  omega
theorem place_lo {a b y : Int} (h1 : 1 ≤ y) (h2 : y ≤ 4611686018427387904) (h : ¬ IntKind.wrap .i64 (y - b % y) ≤ a % y) : IntKind.wrap .i64 (a % y + b % y) = (a + b) % y := by
  have a1 := Int.emod_nonneg a (show y ≠ 0 by omega)
  have a2 := Int.emod_lt_of_pos a (show 0 < y by omega)
  have b1 := Int.emod_nonneg b (show y ≠ 0 by omega)
  have b2 := Int.emod_lt_of_pos b (show 0 < y by omega)
  rw [wrap64 (n := y - b % y) (by omega) (by omega)] at h
  rw [wrap64 (by omega) (by omega), Int.add_emod a b y]
  generalize a % y = p at *
  generalize b % y = q at *
  rw [Int.emod_eq_of_lt (by omega) (by omega)]
theorem c_Place {v0 v1 v2 v3 d0 d1 d2 d3 op d a b l m y : Int} (h2 : y ≤ 4611686018427387904) :
    SC Tryz.prog 96 [.agg (fileL v0 v1 v2 v3 d0 d1 d2 d3), .agg [C .i64 op, C .i64 d, C .i64 a, C .i64 b, C .i64 l, C .i64 m], I .i64 y]
      (.tup [I .i64 (if y < 1 ∨ kindF op = 0 then 0 else (l + get4 v0 v1 v2 v3 0 a) % y), I .u32 (if y < 1 ∨ kindF op = 0 then 0 else get4 d0 d1 d2 d3 0 a)]) := by
  refine scx_of Tryz.func96 rfl rfl rfl (Nat.le_of_ble_eq_true rfl) ?_
  by_cases hy : y < 1
  ·
    repeat (first
      | exact aw_ret (ret_vals (by simp; exact rfl) (by simp [*]))
      | refine ar_end rfl ?_
      | refine ar_endD rfl rfl ?_
      | refine ar_callV Tryz.call48 c_ins_Kind rfl rfl rfl rfl rfl (by simp) (by rfl) (by simp) ?_
      | refine ar_callV_if Tryz.call48 c_ins_Kind rfl rfl rfl rfl rfl rfl (by simp) rfl (by rfl) (by simp) ?_
      | refine ar_go2 _ rfl (by simp [*]; exact ⟨rfl, rfl, rfl⟩) rfl ?_
      | refine aw_sreg ?_
      | refine aw_sregD mixed ?_
      | refine aw_ifT (b := true) rfl rfl ?_
      | refine aw_ifF (b := false) rfl rfl ?_
      | refine aw_ifT rfl (decide_eq_true (by assumption)) ?_
      | refine aw_ifF rfl (decide_eq_false (by assumption)) ?_
      | refine aw_seq ?_
      | refine aw_block ?_
      | refine aw_skip ?_
      | refine aw_region ?_
      | refine aw_region_draw mixed ?_
      | refine aw_exit ?_
      | refine blockQ_hit ?_
      | refine blockQ_miss (by decide) ?_)
  · by_cases hk : kindF op = 0
    ·
      repeat (first
        | exact aw_ret (ret_vals (by simp; exact rfl) (by simp [*]))
        | refine ar_end rfl ?_
        | refine ar_endD rfl rfl ?_
        | refine ar_callV Tryz.call48 c_ins_Kind rfl rfl rfl rfl rfl (by simp) (by rfl) (by simp) ?_
        | refine ar_callV_if Tryz.call48 c_ins_Kind rfl rfl rfl rfl rfl rfl (by simp) rfl (by rfl) (by simp) ?_
        | refine ar_go2 _ rfl (by simp [*]; exact ⟨rfl, rfl, rfl⟩) rfl ?_
        | refine aw_sreg ?_
        | refine aw_sregD mixed ?_
        | refine aw_ifT (b := true) rfl rfl ?_
        | refine aw_ifF (b := false) rfl rfl ?_
        | refine aw_ifT rfl (decide_eq_true (by assumption)) ?_
        | refine aw_ifF rfl (decide_eq_false (by assumption)) ?_
        | refine aw_seq ?_
        | refine aw_block ?_
        | refine aw_skip ?_
        | refine aw_region ?_
        | refine aw_region_draw mixed ?_
        | refine aw_exit ?_
        | refine blockQ_hit ?_
        | refine blockQ_miss (by decide) ?_)
    · have h1 : 1 ≤ y := by omega
      by_cases hh : IntKind.wrap .i64 (y - get4 v0 v1 v2 v3 0 a % y) ≤ l % y
      · have e := place_hi h1 h2 hh
        repeat (first
          | exact aw_ret (ret_vals (by simp; exact rfl) (by simp [*]))
          | refine ar_end rfl ?_
          | refine ar_endD rfl rfl ?_
          | refine ar_callV Tryz.call48 c_ins_Kind rfl rfl rfl rfl rfl (by simp) (by rfl) (by simp) ?_
          | refine ar_callV_if Tryz.call48 c_ins_Kind rfl rfl rfl rfl rfl rfl (by simp) rfl (by rfl) (by simp) ?_
          | refine ar_callV Tryz.call100 c_Get rfl rfl rfl rfl rfl (by simp) (by rfl) (by simp) ?_
          | refine ar_callV_if Tryz.call100 c_Get rfl rfl rfl rfl rfl rfl (by simp) rfl (by rfl) (by simp) ?_
          | refine ar_callV Tryz.call114 (c_rest h1 h2) rfl rfl rfl rfl rfl (by simp) (by rfl) (by simp) ?_
          | refine ar_callV_if Tryz.call114 (c_rest h1 h2) rfl rfl rfl rfl rfl rfl (by simp) rfl (by rfl) (by simp) ?_
          | refine ar_go2 _ rfl (by simp [*]; exact ⟨rfl, rfl, rfl⟩) rfl ?_
          | refine aw_sreg ?_
          | refine aw_sregD mixed ?_
          | refine aw_ifT (b := true) rfl rfl ?_
          | refine aw_ifF (b := false) rfl rfl ?_
          | refine aw_ifT rfl (decide_eq_true (by assumption)) ?_
          | refine aw_ifF rfl (decide_eq_false (by assumption)) ?_
          | refine aw_seq ?_
          | refine aw_block ?_
          | refine aw_skip ?_
          | refine aw_region ?_
          | refine aw_region_draw mixed ?_
          | refine aw_exit ?_
          | refine blockQ_hit ?_
          | refine blockQ_miss (by decide) ?_)
      · have e := place_lo h1 h2 hh
        repeat (first
          | exact aw_ret (ret_vals (by simp; exact rfl) (by simp [*]))
          | refine ar_end rfl ?_
          | refine ar_endD rfl rfl ?_
          | refine ar_callV Tryz.call48 c_ins_Kind rfl rfl rfl rfl rfl (by simp) (by rfl) (by simp) ?_
          | refine ar_callV_if Tryz.call48 c_ins_Kind rfl rfl rfl rfl rfl rfl (by simp) rfl (by rfl) (by simp) ?_
          | refine ar_callV Tryz.call100 c_Get rfl rfl rfl rfl rfl (by simp) (by rfl) (by simp) ?_
          | refine ar_callV_if Tryz.call100 c_Get rfl rfl rfl rfl rfl rfl (by simp) rfl (by rfl) (by simp) ?_
          | refine ar_callV Tryz.call114 (c_rest h1 h2) rfl rfl rfl rfl rfl (by simp) (by rfl) (by simp) ?_
          | refine ar_callV_if Tryz.call114 (c_rest h1 h2) rfl rfl rfl rfl rfl rfl (by simp) rfl (by rfl) (by simp) ?_
          | refine ar_go2 _ rfl (by simp [*]; exact ⟨rfl, rfl, rfl⟩) rfl ?_
          | refine aw_sreg ?_
          | refine aw_sregD mixed ?_
          | refine aw_ifT (b := true) rfl rfl ?_
          | refine aw_ifF (b := false) rfl rfl ?_
          | refine aw_ifT rfl (decide_eq_true (by assumption)) ?_
          | refine aw_ifF rfl (decide_eq_false (by assumption)) ?_
          | refine aw_seq ?_
          | refine aw_block ?_
          | refine aw_skip ?_
          | refine aw_region ?_
          | refine aw_region_draw mixed ?_
          | refine aw_exit ?_
          | refine blockQ_hit ?_
          | refine blockQ_miss (by decide) ?_)
end Go.Eng
set_option linter.unusedSimpArgs false
set_option linter.unusedVariables false
set_option linter.constructorNameAsVariable false
set_option autoImplicit false
namespace Go.Eng
open Go Go.RowKit Go.Proofs
abbrev S (s : ByteArray) : PV := .v (.string s)
abbrev Str (s : ByteArray) : AV := .pv (.v (.string s))
def nameF (op : Int) : ByteArray := if op = 1 then ⟨#[109, 111, 118]⟩ else if op = 2 then ⟨#[97, 100, 100]⟩ else if op = 3 then ⟨#[101, 111, 114]⟩ else if op = 4 then ⟨#[97, 110, 100]⟩ else if op = 5 then ⟨#[108, 100, 114]⟩ else if op = 6 then ⟨#[115, 116, 114]⟩ else if op = 7 then ⟨#[108, 100, 97, 114]⟩ else if op = 8 then ⟨#[115, 116, 108, 114]⟩ else if op = 9 then ⟨#[108, 100, 120, 114]⟩ else if op = 10 then ⟨#[115, 116, 120, 114]⟩ else if op = 11 then ⟨#[100, 109, 98]⟩ else if op = 12 then ⟨#[105, 115, 98]⟩ else if op = 13 then ⟨#[99, 98, 122]⟩ else if op = 14 then ⟨#[99, 98, 110, 122]⟩ else ⟨#[]⟩
def fieldsF (op : Int) : Int := if op = 1 then 17 else if op = 2 then 7 else if op = 3 then 7 else if op = 4 then 7 else if op = 5 then 11 else if op = 6 then 14 else if op = 7 then 11 else if op = 8 then 14 else if op = 9 then 11 else if op = 10 then 15 else if op = 11 then 16 else if op = 12 then 0 else if op = 13 then 18 else if op = 14 then 18 else 0
def rowsL : List (List PV) := [[S ⟨#[]⟩, C .i64 0], [S ⟨#[109, 111, 118]⟩, C .i64 17], [S ⟨#[97, 100, 100]⟩, C .i64 7], [S ⟨#[101, 111, 114]⟩, C .i64 7], [S ⟨#[97, 110, 100]⟩, C .i64 7], [S ⟨#[108, 100, 114]⟩, C .i64 11], [S ⟨#[115, 116, 114]⟩, C .i64 14], [S ⟨#[108, 100, 97, 114]⟩, C .i64 11], [S ⟨#[115, 116, 108, 114]⟩, C .i64 14], [S ⟨#[108, 100, 120, 114]⟩, C .i64 11], [S ⟨#[115, 116, 120, 114]⟩, C .i64 15], [S ⟨#[100, 109, 98]⟩, C .i64 16], [S ⟨#[105, 115, 98]⟩, C .i64 0], [S ⟨#[99, 98, 122]⟩, C .i64 18], [S ⟨#[99, 98, 110, 122]⟩, C .i64 18]]
theorem ops (op : Int) : op = 0 ∨ op = 1 ∨ op = 2 ∨ op = 3 ∨ op = 4 ∨ op = 5 ∨ op = 6 ∨ op = 7 ∨ op = 8 ∨ op = 9 ∨ op = 10 ∨ op = 11 ∨ op = 12 ∨ op = 13 ∨ op = 14 ∨ (¬(0 ≤ op ∧ op ≤ 14)) := by omega
theorem noOp {op : Int} (h : ¬(0 ≤ op ∧ op ≤ 14)) : ¬op = 1 ∧ ¬op = 2 ∧ ¬op = 3 ∧ ¬op = 4 ∧ ¬op = 5 ∧ ¬op = 6 ∧ ¬op = 7 ∧ ¬op = 8 ∧ ¬op = 9 ∧ ¬op = 10 ∧ ¬op = 11 ∧ ¬op = 12 ∧ ¬op = 13 ∧ ¬op = 14 := by omega
theorem name_no {op : Int} (h : ¬(0 ≤ op ∧ op ≤ 14)) : nameF op = ⟨#[]⟩ := by
  obtain ⟨h1, h2, h3, h4, h5, h6, h7, h8, h9, h10, h11, h12, h13, h14⟩ := noOp h
  unfold nameF
  simp only [h1, h2, h3, h4, h5, h6, h7, h8, h9, h10, h11, h12, h13, h14, if_false]
theorem fields_no {op : Int} (h : ¬(0 ≤ op ∧ op ≤ 14)) : fieldsF op = 0 := by
  obtain ⟨h1, h2, h3, h4, h5, h6, h7, h8, h9, h10, h11, h12, h13, h14⟩ := noOp h
  unfold fieldsF
  simp only [h1, h2, h3, h4, h5, h6, h7, h8, h9, h10, h11, h12, h13, h14, if_false]
def hasD (op : Int) : Bool := decide (1 ≤ op ∧ op ≤ 4 ∨ op = 5 ∨ op = 7 ∨ op = 9 ∨ op = 10)
def hasA (op : Int) : Bool := decide (2 ≤ op ∧ op ≤ 10 ∨ op = 13 ∨ op = 14)
def hasB (op : Int) : Bool := decide (2 ≤ op ∧ op ≤ 4 ∨ op = 6 ∨ op = 8 ∨ op = 10)
def hasL (op : Int) : Bool := decide (5 ≤ op ∧ op ≤ 10)
def hasI (op : Int) : Bool := decide (op = 1 ∨ op = 11 ∨ op = 13 ∨ op = 14)
def named (op : Int) : Bool := decide (1 ≤ op ∧ op ≤ 14)
theorem fD {op : Int} : bits .and .i64 (fieldsF op) 1 = if hasD op = true then 1 else 0 := by
  rcases ops op with rfl | rfl | rfl | rfl | rfl | rfl | rfl | rfl | rfl | rfl | rfl | rfl | rfl | rfl | rfl | h
  any_goals decide
  rw [fields_no h]
  have : hasD op = false := by unfold hasD; exact decide_eq_false (by omega)
  rw [this]
  decide
theorem fA {op : Int} : bits .and .i64 (fieldsF op) 2 = if hasA op = true then 2 else 0 := by
  rcases ops op with rfl | rfl | rfl | rfl | rfl | rfl | rfl | rfl | rfl | rfl | rfl | rfl | rfl | rfl | rfl | h
  any_goals decide
  rw [fields_no h]
  have : hasA op = false := by unfold hasA; exact decide_eq_false (by omega)
  rw [this]
  decide
theorem fB {op : Int} : bits .and .i64 (fieldsF op) 4 = if hasB op = true then 4 else 0 := by
  rcases ops op with rfl | rfl | rfl | rfl | rfl | rfl | rfl | rfl | rfl | rfl | rfl | rfl | rfl | rfl | rfl | h
  any_goals decide
  rw [fields_no h]
  have : hasB op = false := by unfold hasB; exact decide_eq_false (by omega)
  rw [this]
  decide
theorem fL {op : Int} : bits .and .i64 (fieldsF op) 8 = if hasL op = true then 8 else 0 := by
  rcases ops op with rfl | rfl | rfl | rfl | rfl | rfl | rfl | rfl | rfl | rfl | rfl | rfl | rfl | rfl | rfl | h
  any_goals decide
  rw [fields_no h]
  have : hasL op = false := by unfold hasL; exact decide_eq_false (by omega)
  rw [this]
  decide
theorem fI {op : Int} : bits .and .i64 (fieldsF op) 16 = if hasI op = true then 16 else 0 := by
  rcases ops op with rfl | rfl | rfl | rfl | rfl | rfl | rfl | rfl | rfl | rfl | rfl | rfl | rfl | rfl | rfl | h
  any_goals decide
  rw [fields_no h]
  have : hasI op = false := by unfold hasI; exact decide_eq_false (by omega)
  rw [this]
  decide
theorem nameE {op : Int} : ((nameF op).toList == (⟨#[]⟩ : ByteArray).toList) = !named op := by
  rcases ops op with rfl | rfl | rfl | rfl | rfl | rfl | rfl | rfl | rfl | rfl | rfl | rfl | rfl | rfl | rfl | h
  any_goals (simp [nameF, named, ByteArray.toList_eq]; done)
  rw [name_no h]
  have : named op = false := by unfold named; exact decide_eq_false (by omega)
  rw [this]
  simp
set_option maxHeartbeats 4000000 in
theorem c_rows : SC Tryz.prog 92 [] (.pv (.sl 2 rowsL)) := by
  refine scx_of Tryz.func92 rfl rfl rfl (Nat.le_of_ble_eq_true rfl) ?_
  repeat' (first
 | refine ar_end rfl ?_
 | exact aw_ret (ret_frz (.loc 16) (by simp [chunk]; exact rfl) (by simp [rowsL]; fail_if_success (show _)))
 | refine ar_go3 _ rfl (by simp [*]; exact ⟨rfl, rfl, rfl⟩) rfl ?_
 | refine aw_sregK 0 [] ?_
 | refine aw_sregK 1 [] ?_)
set_option maxHeartbeats 4000000 in
theorem c_of {op : Int} : SC Tryz.prog 64 [I .i64 op] (.agg [S (nameF op), C .i64 (fieldsF op)]) := by
  refine scx_of Tryz.func64 rfl rfl rfl (Nat.le_of_ble_eq_true rfl) ?_
  rcases ops op with rfl | rfl | rfl | rfl | rfl | rfl | rfl | rfl | rfl | rfl | rfl | rfl | rfl | rfl | rfl | h
  rotate_right
  · have hn := name_no h
    have hf := fields_no h
    by_cases h0 : 0 ≤ op
    · have h1 : ¬op < 15 := by omega
      repeat' (first
 | exact aw_ret (ret_vals (by simp; exact rfl) (by simp [hn, hf, *]; fail_if_success (show _)))
 | refine ar_end rfl ?_
 | refine ar_callV Tryz.call92 c_rows rfl rfl rfl rfl rfl (by simp; done) (by rfl) (by simp; done) ?_
 | refine ar_go3 _ rfl (by simp [rowsL, *]; exact ⟨rfl, rfl, rfl⟩) rfl ?_
 | refine aw_sregK 0 [0] ?_
 | refine aw_sregK 1 [0, 2] ?_
 | refine aw_sregK 2 [0, 2, 3] ?_
 | refine aw_sregK 4 [2] ?_
 | refine aw_ifF (b := false) rfl rfl ?_
 | refine aw_seq ?_
 | refine aw_skip ?_)
    ·
      repeat' (first
 | exact aw_ret (ret_vals (by simp; exact rfl) (by simp [hn, hf, *]; fail_if_success (show _)))
 | refine ar_end rfl ?_
 | refine ar_callV Tryz.call92 c_rows rfl rfl rfl rfl rfl (by simp; done) (by rfl) (by simp; done) ?_
 | refine ar_go3 _ rfl (by simp [rowsL, *]; exact ⟨rfl, rfl, rfl⟩) rfl ?_
 | refine aw_sregK 0 [0] ?_
 | refine aw_sregK 1 [0, 2] ?_
 | refine aw_sregK 2 [0, 2, 3] ?_
 | refine aw_sregK 4 [2] ?_
 | refine aw_ifF (b := false) rfl rfl ?_
 | refine aw_seq ?_
 | refine aw_skip ?_)
  all_goals
    repeat' (first
 | exact aw_ret (ret_vals (by simp; exact rfl) (by simp [nameF, fieldsF]; fail_if_success (show _)))
 | refine ar_end rfl ?_
 | refine ar_callV Tryz.call92 c_rows rfl rfl rfl rfl rfl (by simp; done) (by rfl) (by simp; done) ?_
 | refine ar_go3 _ rfl (by simp [rowsL]; exact ⟨rfl, rfl, rfl⟩) rfl ?_
 | refine aw_sregK 0 [0] ?_
 | refine aw_sregK 1 [0, 2] ?_
 | refine aw_sregK 2 [0, 2, 3] ?_
 | refine aw_sregK 3 [0, 2, 3] ?_
 | refine aw_ifT (b := true) rfl rfl ?_
 | refine aw_seq ?_)
set_option maxHeartbeats 4000000 in
theorem c_refName {op : Int} : SC Tryz.prog 78 [I .i64 op] (Str (nameF op)) := by
  refine scx_of Tryz.func78 rfl rfl rfl (Nat.le_of_ble_eq_true rfl) ?_
  rcases ops op with rfl | rfl | rfl | rfl | rfl | rfl | rfl | rfl | rfl | rfl | rfl | rfl | rfl | rfl | rfl | h
  rotate_right
  · have hn := name_no h
    by_cases h0 : op < 1
    ·
      repeat' (first
 | exact aw_ret (ret_vals (by simp; exact rfl) (by simp [hn, *]; fail_if_success (show _)))
 | refine ar_end rfl ?_
 | refine ar_go3 _ rfl (by simp [chunk, *]; exact ⟨rfl, rfl, rfl⟩) rfl ?_
 | refine aw_sregK 0 [0] ?_
 | refine aw_sregK 1 [0] ?_
 | refine aw_sregK 2 [0, 3] ?_
 | refine aw_sregK 3 [] ?_
 | refine aw_ifT (b := true) rfl rfl ?_
 | refine aw_seq ?_)
    · have h1 : 14 < op := by omega
      repeat' (first
 | exact aw_ret (ret_vals (by simp; exact rfl) (by simp [hn, *]; fail_if_success (show _)))
 | refine ar_end rfl ?_
 | refine ar_go3 _ rfl (by simp [chunk, *]; exact ⟨rfl, rfl, rfl⟩) rfl ?_
 | refine aw_sregK 0 [0] ?_
 | refine aw_sregK 1 [0] ?_
 | refine aw_sregK 2 [0, 3] ?_
 | refine aw_sregK 3 [] ?_
 | refine aw_ifT (b := true) rfl rfl ?_
 | refine aw_seq ?_)
  all_goals
    repeat' (first
 | exact aw_ret (ret_vals (by simp; exact rfl) (by simp [nameF]; fail_if_success (show _)))
 | refine ar_end rfl ?_
 | refine ar_go3 _ rfl (by simp [chunk, wrap64s]; exact ⟨rfl, rfl, rfl⟩) rfl ?_
 | refine aw_sregK 0 [0] ?_
 | refine aw_sregK 1 [0] ?_
 | refine aw_sregK 2 [0, 3] ?_
 | refine aw_sregK 3 [] ?_
 | refine aw_sregK 4 [0, 3] ?_
 | refine aw_ifT (b := true) rfl rfl ?_
 | refine aw_ifF (b := false) rfl rfl ?_
 | refine aw_seq ?_
 | refine aw_skip ?_)
set_option maxHeartbeats 4000000 in
theorem c_refKind {op d a b l m : Int} : SC Tryz.prog 39 [.agg [C .i64 op, C .i64 d, C .i64 a, C .i64 b, C .i64 l, C .i64 m]] (I .i64 (kindF op)) := by
  refine scx_of Tryz.func39 rfl rfl rfl (Nat.le_of_ble_eq_true rfl) ?_
  repeat' (first
 | exact aw_ret (ret_vals (by simp; exact rfl) (by simp [kindF, *]; fail_if_success (show _)))
 | refine ar_end rfl ?_
 | refine ar_go3 _ rfl (by simp [*]; exact ⟨rfl, rfl, rfl⟩) rfl ?_
 | refine aw_sregK 0 [0] ?_
 | refine aw_sregK 1 [1] ?_
 | refine aw_sregK 2 [] ?_
 | refine aw_sregK 3 [1] ?_
 | refine aw_sregK 4 [] ?_
 | refine aw_sregK 5 [] ?_
 | refine aw_ifT (b := true) rfl rfl ?_
 | refine aw_seq ?_
 | refine aw_skip ?_
 | (refine ar_guard rfl rfl rfl rfl (fun h => ?_) (fun h => ?_) <;> (fail_if_success (cases h; done)) <;> (try simp at h))
 | (refine aw_both rfl (fun h => ?_) (fun h => ?_) <;> (fail_if_success (cases h; done)) <;> (try simp at h)))
set_option maxHeartbeats 4000000 in
theorem c_HasA {op d a b l m : Int} : SC Tryz.prog 81 [.agg [C .i64 op, C .i64 d, C .i64 a, C .i64 b, C .i64 l, C .i64 m]] (B (hasA op)) := by
  refine scx_of Tryz.func81 rfl rfl rfl (Nat.le_of_ble_eq_true rfl) ?_
  repeat' (first
 | exact aw_ret (ret_vals (by simp; exact rfl) (by simp [hasA, *]; fail_if_success (show _)))
 | exact aw_ret (ret_vals (by simp; exact rfl) (by simp [hasA, *]; omega))
 | refine ar_end rfl ?_
 | refine ar_go3 _ rfl (by simp [*]; exact ⟨rfl, rfl, rfl⟩) rfl ?_
 | refine aw_sregK 0 [0] ?_
 | refine aw_sregK 1 [1] ?_
 | (refine ar_guard rfl rfl rfl rfl (fun h => ?_) (fun h => ?_) <;> (fail_if_success (cases h; done)) <;> (try simp at h)))
theorem kind2 {op : Int} : (kindF op = 2) = (op = 6 ∨ op = 8 ∨ op = 10) := by
  unfold kindF; simp only [eq_iff_iff]; split
  · simp; omega
  · split <;> simp <;> omega
theorem kind1 {op : Int} : (kindF op = 1) = (op = 5 ∨ op = 7 ∨ op = 9) := by
  unfold kindF; simp only [eq_iff_iff]; split
  · simp; omega
  · split <;> simp <;> omega
theorem kind0 {op : Int} : (kindF op = 0) = (hasL op = false) := by
  unfold kindF hasL; simp only [eq_iff_iff]; split
  · simp; omega
  · split <;> simp <;> omega
theorem kindP {op : Int} : (0 < kindF op) = (hasL op = true) := by
  unfold kindF hasL; simp only [eq_iff_iff]; split
  · simp; omega
  · split <;> simp <;> omega
set_option maxHeartbeats 4000000 in
theorem c_HasB {op d a b l m : Int} : SC Tryz.prog 82 [.agg [C .i64 op, C .i64 d, C .i64 a, C .i64 b, C .i64 l, C .i64 m]] (B (hasB op)) := by
  refine scx_of Tryz.func82 rfl rfl rfl (Nat.le_of_ble_eq_true rfl) ?_
  repeat' (first
 | exact aw_ret (ret_vals (by simp; exact rfl) (by simp [hasB, kind2, *]; fail_if_success (show _)))
 | exact aw_ret (ret_vals (by simp; exact rfl) (by simp [hasB, kind2, *]; omega))
 | refine ar_end rfl ?_
 | refine ar_callV_if Tryz.call39 c_refKind rfl rfl rfl rfl rfl rfl (by simp; done) rfl (by rfl) (by simp; done) ?_
 | refine ar_go3 _ rfl (by simp [kind2, *]; exact ⟨rfl, rfl, rfl⟩) rfl ?_
 | refine aw_sregK 0 [0] ?_
 | refine aw_sregK 1 [1] ?_
 | (refine ar_guard rfl rfl rfl rfl (fun h => ?_) (fun h => ?_) <;> (fail_if_success (cases h; done)) <;> (try simp at h)))
set_option maxHeartbeats 4000000 in
theorem c_HasD {op d a b l m : Int} : SC Tryz.prog 80 [.agg [C .i64 op, C .i64 d, C .i64 a, C .i64 b, C .i64 l, C .i64 m]] (B (hasD op)) := by
  refine scx_of Tryz.func80 rfl rfl rfl (Nat.le_of_ble_eq_true rfl) ?_
  repeat' (first
 | exact aw_ret (ret_vals (by simp; exact rfl) (by simp [hasD, kind1, *]; fail_if_success (show _)))
 | exact aw_ret (ret_vals (by simp; exact rfl) (by simp [hasD, kind1, *]; omega))
 | refine ar_end rfl ?_
 | refine ar_callV_if Tryz.call39 c_refKind rfl rfl rfl rfl rfl rfl (by simp; done) rfl (by rfl) (by simp; done) ?_
 | refine ar_go3 _ rfl (by simp [kind1, *]; exact ⟨rfl, rfl, rfl⟩) rfl ?_
 | refine aw_sregK 0 [0] ?_
 | refine aw_sregK 1 [1] ?_
 | (refine ar_guard rfl rfl rfl rfl (fun h => ?_) (fun h => ?_) <;> (fail_if_success (cases h; done)) <;> (try simp at h)))
def betw (n lo hi : Int) : Bool := decide (lo ≤ n) && decide (n ≤ hi)
def okF (h : Bool) (n lo hi : Int) : Bool := bif h then betw n lo hi else decide (n = 0)
set_option maxHeartbeats 4000000 in
theorem c_between {n lo hi : Int} : SC Tryz.prog 65 [I .i64 n, I .i64 lo, I .i64 hi] (B (betw n lo hi)) := by
  refine scx_of Tryz.func65 rfl rfl rfl (Nat.le_of_ble_eq_true rfl) ?_
  repeat' (first
 | exact aw_ret (ret_vals (by simp; exact rfl) (by simp [betw, *]; fail_if_success (show _)))
 | exact aw_ret (ret_vals (by simp; exact rfl) (by simp [betw, *]; omega))
 | refine ar_end rfl ?_
 | refine ar_go3 _ rfl (by simp [*]; exact ⟨rfl, rfl, rfl⟩) rfl ?_
 | refine aw_sregK 0 [0, 1, 2] ?_
 | refine aw_sregK 1 [0, 1, 2] ?_
 | (refine ar_guard rfl rfl rfl rfl (fun h => ?_) (fun h => ?_) <;> (fail_if_success (cases h; done)) <;> (try simp at h)))
def immF (op m behind : Int) : Bool := if op = 1 then betw m (-1000) 1000 else if op = 11 then betw m 0 2 else betw m 0 behind
set_option maxHeartbeats 4000000 in
theorem c_imm {op d a b l m behind : Int} : SC Tryz.prog 66 [.agg [C .i64 op, C .i64 d, C .i64 a, C .i64 b, C .i64 l, C .i64 m], I .i64 behind] (B (immF op m behind)) := by
  refine scx_of Tryz.func66 rfl rfl rfl (Nat.le_of_ble_eq_true rfl) ?_
  repeat' (first
 | exact aw_ret (ret_vals (by simp; exact rfl) (by simp [immF, *]; fail_if_success (show _)))
 | refine ar_end rfl ?_
 | refine ar_callV Tryz.call65 c_between rfl rfl rfl rfl rfl (by simp; done) (by rfl) (by simp; done) ?_
 | refine ar_go3 _ rfl (by simp [*]; exact ⟨rfl, rfl, rfl⟩) rfl ?_
 | refine aw_sregK 0 [0, 1] ?_
 | refine aw_sregK 1 [1, 2] ?_
 | refine aw_sregK 2 [1, 2, 6] ?_
 | refine aw_sregK 3 [2] ?_
 | refine aw_sregK 4 [1, 2, 6] ?_
 | refine aw_sregK 5 [2] ?_
 | refine aw_sregK 6 [1, 2] ?_
 | refine aw_seq ?_
 | refine aw_block ?_
 | refine aw_skip ?_
 | (refine aw_both rfl (fun h => ?_) (fun h => ?_) <;> (fail_if_success (cases h; done)) <;> (try simp at h)))
set_option maxHeartbeats 4000000 in
theorem c_reg {h : Bool} {n lo : Int} : SC Tryz.prog 79 [B h, I .i64 n, I .i64 lo] (B (okF h n lo 3)) := by
  refine scx_of Tryz.func79 rfl rfl rfl (Nat.le_of_ble_eq_true rfl) ?_
  cases h
  all_goals
    repeat' (first
 | exact aw_ret (ret_vals (by simp; exact rfl) (by simp [okF, betw, *]; fail_if_success (show _)))
 | exact aw_ret (ret_vals (by simp; exact rfl) (by simp [okF, betw, *]; omega))
 | refine ar_end rfl ?_
 | refine ar_go3 _ rfl (by simp [*]; exact ⟨rfl, rfl, rfl⟩) rfl ?_
 | refine aw_sregK 0 [0, 1, 2] ?_
 | refine aw_sregK 1 [0, 1, 2] ?_
 | refine aw_sregK 2 [1, 2] ?_
 | refine aw_sregK 3 [1] ?_
 | refine aw_ifT (b := true) rfl rfl ?_
 | refine aw_ifF (b := false) rfl rfl ?_
 | refine aw_seq ?_
 | refine aw_skip ?_
 | (refine ar_guard rfl rfl rfl rfl (fun h => ?_) (fun h => ?_) <;> (fail_if_success (cases h; done)) <;> (try simp at h)))
end Go.Eng
set_option linter.unusedSimpArgs false
set_option linter.unusedVariables false
set_option linter.constructorNameAsVariable false
set_option autoImplicit false
namespace Go.Eng
open Go Go.RowKit Go.Proofs
def mayF (op d a b l m behind locs : Int) : Bool :=
  okF (hasD op) d 0 3 && (okF (hasA op) a (if hasL op = true then -1 else 0) 3 && (okF (hasB op) b 0 3 && (okF (hasL op) l 0 (IntKind.wrap .i64 (mm true locs 0 - 1)) && (bif hasI op then immF op m behind else named op && decide (m = 0)))))
end Go.Eng
