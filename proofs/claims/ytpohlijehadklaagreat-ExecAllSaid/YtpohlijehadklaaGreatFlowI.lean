import Derived.Test.YtpohlijehadklaaGreatEngE
import Derived.Test.YtpohlijehadklaaGreatFlowD
set_option autoImplicit false
set_option linter.unusedVariables false
set_option linter.unusedSimpArgs false
namespace Go.Eng
open Go Go.RowKit
variable {P : Program}
def loopsC : Code → List Code
  | .seq a b => loopsC a ++ loopsC b
  | .cond _ a b => loopsC a ++ loopsC b
  | .block _ c => loopsC c
  | .scope c => loopsC c
  | .loop c => c :: loopsC c
  | .rangeFunc _ _ a c => loopsC a ++ loopsC c
  | _ => []
def loopAt (fn : Func) (k : Nat) : Option Code := match fn.body with
  | some c => (loopsC c)[k]?
  | none => none
end Go.Eng
set_option linter.unusedSimpArgs false
set_option linter.unusedVariables false
set_option linter.constructorNameAsVariable false
set_option autoImplicit false
namespace Go.Eng
open Go Go.RowKit Go.Proofs
theorem refPlace {l n y : Int} (h1 : 1 ≤ y) (h3 : y ≤ 3) : (IntKind.wrap .i64 ((IntKind.wrap .i64 (l.tmod y + n.tmod y)).tmod y + y)).tmod y = (l + n) % y := by
  have a1 := Int.tmod_lt_of_pos l (b := y) (by omega)
  have a2 := Int.lt_tmod_of_pos l (b := y) (by omega)
  have b1 := Int.tmod_lt_of_pos n (b := y) (by omega)
  have b2 := Int.lt_tmod_of_pos n (b := y) (by omega)
  rw [wrap64s (n := l.tmod y + n.tmod y) (by omega) (by omega), rest_eq h1 (by omega)]
  have e1 := Int.mul_tdiv_add_tmod l y
  have e2 := Int.mul_tdiv_add_tmod n y
  have : l.tmod y + n.tmod y = (l + n) + y * (-(l.tdiv y + n.tdiv y)) := by rw [Int.mul_neg, Int.mul_add]; omega
  rw [this, Int.add_mul_emod_self_left]
theorem bitAt_zero : bitAt 0 = 1 := by decide
theorem bitAt_succ (n : Nat) : IntKind.wrap .u32 (2 * bitAt n) = bitAt (n + 1) := by
  by_cases h : n < 32
  · have : ∀ m : Fin 32, IntKind.wrap .u32 (2 * bitAt m.1) = bitAt (m.1 + 1) := by decide
    exact this ⟨n, h⟩
  · have e1 : bitAt n = 0 := by unfold bitAt; rw [Nat.min_eq_right (by omega)]; decide
    have e2 : bitAt (n + 1) = 0 := by unfold bitAt; rw [Nat.min_eq_right (by omega)]; decide
    rw [e1, e2]; decide
set_option maxHeartbeats 16000000 in
theorem c_r7Get {v0 v1 v2 v3 d0 d1 d2 d3 n : Int} : SC Tryz.prog 85 [.agg (fileL v0 v1 v2 v3 d0 d1 d2 d3), I .i64 n] (.tup [I .i64 (get4 v0 v1 v2 v3 0 n), I .u32 (get4 d0 d1 d2 d3 0 n)]) := by
  refine scx_of Tryz.func85 rfl rfl rfl (Nat.le_of_ble_eq_true rfl) ?_
  rcases five n with rfl | rfl | rfl | rfl | ⟨h, h0, h1, h2, h3⟩
  ·
    repeat' (first
 | exact aw_ret (ret_vals (by simp; exact rfl) (by simp [get4]; fail_if_success (show _)))
 | refine ar_end rfl ?_
 | refine ar_endD rfl (by kernel_rfl) ?_
 | refine ar_go3 _ rfl (by simp [*]; exact ⟨rfl, rfl, rfl⟩) rfl ?_
 | refine aw_sregK 0 [0, 1] ?_
 | refine aw_sregK 1 [1, 2] ?_
 | refine aw_sregKD mixed 3 [1, 2] (by simp; exact rfl) ?_
 | refine aw_ifF (b := false) rfl rfl ?_
 | refine aw_seq ?_
 | refine aw_skip ?_)
  ·
    repeat' (first
 | exact aw_ret (ret_vals (by simp; exact rfl) (by simp [get4]; fail_if_success (show _)))
 | refine ar_end rfl ?_
 | refine ar_endD rfl (by kernel_rfl) ?_
 | refine ar_go3 _ rfl (by simp [*]; exact ⟨rfl, rfl, rfl⟩) rfl ?_
 | refine aw_sregK 0 [0, 1] ?_
 | refine aw_sregK 1 [1, 2] ?_
 | refine aw_sregKD mixed 3 [1, 2] (by simp; exact rfl) ?_
 | refine aw_ifF (b := false) rfl rfl ?_
 | refine aw_seq ?_
 | refine aw_skip ?_)
  ·
    repeat' (first
 | exact aw_ret (ret_vals (by simp; exact rfl) (by simp [get4]; fail_if_success (show _)))
 | refine ar_end rfl ?_
 | refine ar_endD rfl (by kernel_rfl) ?_
 | refine ar_go3 _ rfl (by simp [*]; exact ⟨rfl, rfl, rfl⟩) rfl ?_
 | refine aw_sregK 0 [0, 1] ?_
 | refine aw_sregK 1 [1, 2] ?_
 | refine aw_sregKD mixed 3 [1, 2] (by simp; exact rfl) ?_
 | refine aw_ifF (b := false) rfl rfl ?_
 | refine aw_seq ?_
 | refine aw_skip ?_)
  ·
    repeat' (first
 | exact aw_ret (ret_vals (by simp; exact rfl) (by simp [get4]; fail_if_success (show _)))
 | refine ar_end rfl ?_
 | refine ar_endD rfl (by kernel_rfl) ?_
 | refine ar_go3 _ rfl (by simp [*]; exact ⟨rfl, rfl, rfl⟩) rfl ?_
 | refine aw_sregK 0 [0, 1] ?_
 | refine aw_sregK 1 [1, 2] ?_
 | refine aw_sregKD mixed 3 [1, 2] (by simp; exact rfl) ?_
 | refine aw_ifF (b := false) rfl rfl ?_
 | refine aw_seq ?_
 | refine aw_skip ?_)
  · by_cases hn : n < 0
    ·
      repeat' (first
 | exact aw_ret (ret_vals (by simp; exact rfl) (by simp [get4, h0, h1, h2, h3]; fail_if_success (show _)))
 | refine ar_end rfl ?_
 | refine ar_go3 _ rfl (by simp [hn]; exact ⟨rfl, rfl, rfl⟩) rfl ?_
 | refine aw_sregK 0 [0, 1] ?_
 | refine aw_sregK 1 [1, 2] ?_
 | refine aw_sregK 2 [] ?_
 | refine aw_ifT (b := true) rfl rfl ?_
 | refine aw_seq ?_)
    · have h4 : 3 < n := by omega
      repeat' (first
 | exact aw_ret (ret_vals (by simp; exact rfl) (by simp [get4, h0, h1, h2, h3]; fail_if_success (show _)))
 | refine ar_end rfl ?_
 | refine ar_go3 _ rfl (by simp [hn, h4]; exact ⟨rfl, rfl, rfl⟩) rfl ?_
 | refine aw_sregK 0 [0, 1] ?_
 | refine aw_sregK 1 [1, 2] ?_
 | refine aw_sregK 2 [] ?_
 | refine aw_ifT (b := true) rfl rfl ?_
 | refine aw_seq ?_)
set_option maxHeartbeats 16000000 in
theorem c_r7Set {v0 v1 v2 v3 d0 d1 d2 d3 n v d : Int} : SC Tryz.prog 88 [.agg (fileL v0 v1 v2 v3 d0 d1 d2 d3), I .i64 n, I .i64 v, I .u32 d]
      (.agg (fileL (if n = 0 then v else v0) (if n = 1 then v else v1) (if n = 2 then v else v2) (if n = 3 then v else v3) (if n = 0 then d else d0) (if n = 1 then d else d1) (if n = 2 then d else d2) (if n = 3 then d else d3))) := by
  refine scx_of Tryz.func88 rfl rfl rfl (Nat.le_of_ble_eq_true rfl) ?_
  rcases five n with rfl | rfl | rfl | rfl | ⟨h, h0, h1, h2, h3⟩
  ·
    repeat' (first
 | exact aw_ret (ret_vals (by simp; exact rfl) (by simp [*]; fail_if_success (show _)))
 | refine ar_end rfl ?_
 | refine ar_go3 _ rfl (by simp [*]; exact ⟨rfl, rfl, rfl⟩) rfl ?_
 | refine aw_sregK 0 [0, 1, 2, 3] ?_
 | refine aw_sregK 1 [1, 2, 3, 4, 8] ?_
 | refine aw_sregK 2 [1, 2, 3, 8, 9] ?_
 | refine aw_sregK 3 [1, 2, 3, 8, 9] ?_
 | refine aw_regK 4 [1, 3, 8, 9] ?_
 | refine aw_sregK 5 [8, 9] ?_
 | refine aw_ifT (b := true) rfl rfl ?_
 | refine aw_seq ?_)
  ·
    repeat' (first
 | exact aw_ret (ret_vals (by simp; exact rfl) (by simp [*]; fail_if_success (show _)))
 | refine ar_end rfl ?_
 | refine ar_go3 _ rfl (by simp [*]; exact ⟨rfl, rfl, rfl⟩) rfl ?_
 | refine aw_sregK 0 [0, 1, 2, 3] ?_
 | refine aw_sregK 1 [1, 2, 3, 4, 8] ?_
 | refine aw_sregK 2 [1, 2, 3, 8, 9] ?_
 | refine aw_sregK 3 [1, 2, 3, 8, 9] ?_
 | refine aw_regK 4 [1, 3, 8, 9] ?_
 | refine aw_sregK 5 [8, 9] ?_
 | refine aw_ifT (b := true) rfl rfl ?_
 | refine aw_seq ?_)
  ·
    repeat' (first
 | exact aw_ret (ret_vals (by simp; exact rfl) (by simp [*]; fail_if_success (show _)))
 | refine ar_end rfl ?_
 | refine ar_go3 _ rfl (by simp [*]; exact ⟨rfl, rfl, rfl⟩) rfl ?_
 | refine aw_sregK 0 [0, 1, 2, 3] ?_
 | refine aw_sregK 1 [1, 2, 3, 4, 8] ?_
 | refine aw_sregK 2 [1, 2, 3, 8, 9] ?_
 | refine aw_sregK 3 [1, 2, 3, 8, 9] ?_
 | refine aw_regK 4 [1, 3, 8, 9] ?_
 | refine aw_sregK 5 [8, 9] ?_
 | refine aw_ifT (b := true) rfl rfl ?_
 | refine aw_seq ?_)
  ·
    repeat' (first
 | exact aw_ret (ret_vals (by simp; exact rfl) (by simp [*]; fail_if_success (show _)))
 | refine ar_end rfl ?_
 | refine ar_go3 _ rfl (by simp [*]; exact ⟨rfl, rfl, rfl⟩) rfl ?_
 | refine aw_sregK 0 [0, 1, 2, 3] ?_
 | refine aw_sregK 1 [1, 2, 3, 4, 8] ?_
 | refine aw_sregK 2 [1, 2, 3, 8, 9] ?_
 | refine aw_sregK 3 [1, 2, 3, 8, 9] ?_
 | refine aw_regK 4 [1, 3, 8, 9] ?_
 | refine aw_sregK 5 [8, 9] ?_
 | refine aw_ifT (b := true) rfl rfl ?_
 | refine aw_seq ?_)
  · by_cases hn : n < 0
    · have hn' : ¬0 ≤ n := by omega
      repeat' (first
 | exact aw_ret (ret_vals (by simp; exact rfl) (by simp [h0, h1, h2, h3]; fail_if_success (show _)))
 | refine ar_end rfl ?_
 | refine ar_go3 _ rfl (by simp [hn']; exact ⟨rfl, rfl, rfl⟩) rfl ?_
 | refine aw_sregK 0 [0, 1, 2, 3] ?_
 | refine aw_sregK 1 [1, 2, 3, 4, 8] ?_
 | refine aw_sregK 2 [1, 2, 3, 8, 9] ?_
 | refine aw_sregK 5 [8, 9] ?_
 | refine aw_ifF (b := false) rfl rfl ?_
 | refine aw_seq ?_
 | refine aw_skip ?_)
    · have hn' : 0 ≤ n := by omega
      have h4 : ¬n ≤ 3 := by omega
      repeat' (first
 | exact aw_ret (ret_vals (by simp; exact rfl) (by simp [h0, h1, h2, h3]; fail_if_success (show _)))
 | refine ar_end rfl ?_
 | refine ar_go3 _ rfl (by simp [hn', h4]; exact ⟨rfl, rfl, rfl⟩) rfl ?_
 | refine aw_sregK 0 [0, 1, 2, 3] ?_
 | refine aw_sregK 1 [1, 2, 3, 4, 8] ?_
 | refine aw_sregK 2 [1, 2, 3, 8, 9] ?_
 | refine aw_sregK 5 [8, 9] ?_
 | refine aw_ifF (b := false) rfl rfl ?_
 | refine aw_seq ?_
 | refine aw_skip ?_)
set_option maxHeartbeats 16000000 in
theorem c_r7bits {a b : Int} : SC Tryz.prog 102 [I .u32 a, I .u32 b] (I .u32 (bits .or .u32 a b)) := by
  refine scx_of Tryz.func102 rfl rfl rfl (Nat.le_of_ble_eq_true rfl) ?_
  repeat' (first
 | exact aw_ret (ret_vals (by simp; exact rfl) (by simp [*]; fail_if_success (show _)))
 | refine ar_end rfl ?_
 | refine ar_go3 _ rfl (by simp [*]; exact ⟨rfl, rfl, rfl⟩) rfl ?_
 | refine aw_sregK 0 [0, 1] ?_
 | refine aw_sregK 1 [0, 1] ?_)
set_option maxHeartbeats 16000000 in
theorem c_r8fence {x : In} : SC Tryz.prog 90 [.agg (inL x)] (I .i64 (if x.op = 12 then 6 else IntKind.wrap .i64 (3 + x.m))) := by
  refine scx_of Tryz.func90 rfl rfl rfl (Nat.le_of_ble_eq_true rfl) ?_
  by_cases h : x.op = 12
  ·
    repeat' (first
 | exact aw_ret (ret_vals (by simp; exact rfl) (by simp [h]; fail_if_success (show _)))
 | refine ar_end rfl ?_
 | refine ar_go3 _ rfl (by simp [inL, h]; exact ⟨rfl, rfl, rfl⟩) rfl ?_
 | refine aw_sregK 0 [0] ?_
 | refine aw_sregK 1 [1] ?_
 | refine aw_sregK 2 [] ?_
 | refine aw_ifT (b := true) rfl rfl ?_
 | refine aw_seq ?_)
  ·
    repeat' (first
 | exact aw_ret (ret_vals (by simp; exact rfl) (by simp [h]; fail_if_success (show _)))
 | refine ar_end rfl ?_
 | refine ar_go3 _ rfl (by simp [inL, h]; exact ⟨rfl, rfl, rfl⟩) rfl ?_
 | refine aw_sregK 0 [0] ?_
 | refine aw_sregK 1 [1] ?_
 | refine aw_sregK 3 [1] ?_
 | refine aw_ifF (b := false) rfl rfl ?_
 | refine aw_seq ?_
 | refine aw_skip ?_)
set_option maxHeartbeats 16000000 in
theorem c_r7PlaceR {R : Rn} {x : In} {locs : Int} (h1 : 1 ≤ locs) (h3 : locs ≤ 3) : SC Tryz.prog 84 [.agg (fileL R.v0 R.v1 R.v2 R.v3 R.d0 R.d1 R.d2 R.d3), .agg (inL x), I .i64 locs] (.tup [I .i64 (R.loc x locs), I .u32 (R.adr x locs)]) := by
  refine scx_of Tryz.func84 rfl rfl rfl (Nat.le_of_ble_eq_true rfl) ?_
  have hl : ¬locs < 1 := by omega
  have hz : ¬locs = 0 := by omega
  unfold Rn.loc Rn.adr
  by_cases hk : kindF x.op = 0
  ·
    repeat' (first
 | exact aw_ret (ret_vals (by simp; exact rfl) (by simp [hl, hk]; fail_if_success (show _)))
 | refine ar_end rfl ?_
 | refine ar_callV_if Tryz.call39 c_refKind rfl rfl rfl rfl rfl rfl (by simp; done) rfl (by rfl) (by simp; done) ?_
 | refine ar_go3 _ rfl (by simp [inL, hl, hk]; exact ⟨rfl, rfl, rfl⟩) rfl ?_
 | refine aw_sregK 0 [0, 1, 2] ?_
 | refine aw_sregK 1 [2, 3, 4] ?_
 | refine aw_sregK 2 [] ?_
 | refine aw_ifT (b := true) rfl rfl ?_
 | refine aw_seq ?_)
  · have hp := refPlace (l := x.l) (n := R.gv x.a) h1 h3
    unfold Rn.gv at hp
    repeat' (first
 | exact aw_ret (ret_vals (by simp; exact rfl) (by simp [hl, hk, hp, Rn.gv, Rn.gd]; fail_if_success (show _)))
 | refine ar_end rfl ?_
 | refine ar_callV_if Tryz.call39 c_refKind rfl rfl rfl rfl rfl rfl (by simp; done) rfl (by rfl) (by simp; done) ?_
 | refine ar_callV Tryz.call85 c_r7Get rfl rfl rfl rfl rfl (by simp; done) (by rfl) (by simp; done) ?_
 | refine ar_go3 _ rfl (by simp [inL, hl, hk, hz]; exact ⟨rfl, rfl, rfl⟩) rfl ?_
 | refine aw_sregK 0 [0, 1, 2] ?_
 | refine aw_sregK 1 [2, 3, 4] ?_
 | refine aw_sregK 3 [2, 3, 4] ?_
 | refine aw_sregK 4 [2, 4, 8, 9] ?_
 | refine aw_sregK 5 [4, 8, 9, 10] ?_
 | refine aw_sregK 6 [8, 9, 10, 11] ?_
 | refine aw_sregK 7 [9, 10, 11, 12] ?_
 | refine aw_ifF (b := false) rfl rfl ?_
 | refine aw_seq ?_
 | refine aw_skip ?_)
set_option maxHeartbeats 16000000 in
theorem c_r7GetR {R : Rn} {n : Int} : SC Tryz.prog 85 [.agg (fileL R.v0 R.v1 R.v2 R.v3 R.d0 R.d1 R.d2 R.d3), I .i64 n] (.tup [I .i64 (R.gv n), I .u32 (R.gd n)]) := c_r7Get
set_option maxHeartbeats 16000000 in
theorem c_r7SetR {R : Rn} {n v d : Int} : SC Tryz.prog 88 [.agg (fileL R.v0 R.v1 R.v2 R.v3 R.d0 R.d1 R.d2 R.d3), I .i64 n, I .i64 v, I .u32 d] (.agg (fileL (R.reg n v d).v0 (R.reg n v d).v1 (R.reg n v d).v2 (R.reg n v d).v3 (R.reg n v d).d0 (R.reg n v d).d1 (R.reg n v d).d2 (R.reg n v d).d3)) := c_r7Set
set_option maxHeartbeats 16000000 in
theorem c_r7DoR {R : Rn} {x : In} (h : x.op = 1 ∨ x.op = 2 ∨ x.op = 3 ∨ x.op = 4) : SC Tryz.prog 86 [.agg (fileL R.v0 R.v1 R.v2 R.v3 R.d0 R.d1 R.d2 R.d3), .agg (inL x)] (.agg (fileL (R.alone x).v0 (R.alone x).v1 (R.alone x).v2 (R.alone x).v3 (R.alone x).d0 (R.alone x).d1 (R.alone x).d2 (R.alone x).d3)) := by
  refine scx_of Tryz.func86 rfl rfl rfl (Nat.le_of_ble_eq_true rfl) ?_
  rcases h with h | h | h | h
  · unfold Rn.alone opF
    repeat' (first
 | exact aw_ret (ret_vals (by simp; exact rfl) (by simp [h]; fail_if_success (show _)))
 | refine ar_end rfl ?_
 | refine ar_callV Tryz.call85 c_r7GetR rfl rfl rfl rfl rfl (by simp; done) (by rfl) (by simp; done) ?_
 | refine ar_callV Tryz.call88 c_r7SetR rfl rfl rfl rfl rfl (by simp; done) (by rfl) (by simp; done) ?_
 | refine ar_go3 _ rfl (by simp [inL, h]; exact ⟨rfl, rfl, rfl⟩) rfl ?_
 | refine aw_sregK 0 [0, 1] ?_
 | refine aw_sregK 1 [2, 3, 4] ?_
 | refine aw_sregK 2 [2, 3, 4, 5, 6] ?_
 | refine aw_sregK 3 [2, 3, 4, 5, 6, 7, 8] ?_
 | refine aw_sregK 4 [2, 3, 4, 5, 6, 7, 8, 24] ?_
 | refine aw_sregK 5 [2, 3, 4] ?_
 | refine aw_ifT (b := true) rfl rfl ?_
 | refine aw_seq ?_
 | refine aw_block ?_)
  · unfold Rn.alone opF
    repeat' (first
 | exact aw_ret (ret_vals (by simp; exact rfl) (by simp [h]; fail_if_success (show _)))
 | refine ar_end rfl ?_
 | refine ar_endD rfl (by kernel_rfl) ?_
 | refine ar_callV Tryz.call85 c_r7GetR rfl rfl rfl rfl rfl (by simp; done) (by rfl) (by simp; done) ?_
 | refine ar_callV Tryz.call102 c_r7bits rfl rfl rfl rfl rfl (by simp; done) (by rfl) (by simp; done) ?_
 | refine ar_callV Tryz.call88 c_r7SetR rfl rfl rfl rfl rfl (by simp; done) (by rfl) (by simp; done) ?_
 | refine ar_go3 _ rfl (by simp [inL, h]; exact ⟨rfl, rfl, rfl⟩) rfl ?_
 | refine aw_sregK 0 [0, 1] ?_
 | refine aw_sregK 1 [2, 3, 4] ?_
 | refine aw_sregK 2 [2, 3, 4, 5, 6] ?_
 | refine aw_sregK 3 [2, 3, 4, 5, 6, 7, 8] ?_
 | refine aw_sregK 4 [2, 3, 4, 5, 6, 7, 8, 24] ?_
 | refine aw_sregK 6 [2, 3, 4, 5, 6, 7, 8, 24] ?_
 | refine aw_sregKD mixed 7 [2, 3, 4, 5, 6, 7, 8] (by simp; exact rfl) ?_
 | refine aw_ifT (b := true) rfl rfl ?_
 | refine aw_ifF (b := false) rfl rfl ?_
 | refine aw_seq ?_
 | refine aw_block ?_)
  · unfold Rn.alone opF
    repeat' (first
 | exact aw_ret (ret_vals (by simp; exact rfl) (by simp [h]; fail_if_success (show _)))
 | refine ar_end rfl ?_
 | refine ar_endD rfl (by kernel_rfl) ?_
 | refine ar_callV Tryz.call85 c_r7GetR rfl rfl rfl rfl rfl (by simp; done) (by rfl) (by simp; done) ?_
 | refine ar_callV Tryz.call102 c_r7bits rfl rfl rfl rfl rfl (by simp; done) (by rfl) (by simp; done) ?_
 | refine ar_callV Tryz.call88 c_r7SetR rfl rfl rfl rfl rfl (by simp; done) (by rfl) (by simp; done) ?_
 | refine ar_go3 _ rfl (by simp [inL, h]; exact ⟨rfl, rfl, rfl⟩) rfl ?_
 | refine aw_sregK 0 [0, 1] ?_
 | refine aw_sregK 1 [2, 3, 4] ?_
 | refine aw_sregK 2 [2, 3, 4, 5, 6] ?_
 | refine aw_sregK 3 [2, 3, 4, 5, 6, 7, 8] ?_
 | refine aw_sregK 4 [2, 3, 4, 5, 6, 7, 8, 24] ?_
 | refine aw_sregK 6 [2, 3, 4, 5, 6, 7, 8, 24] ?_
 | refine aw_sregK 8 [2, 3, 4, 5, 6, 7, 8, 24] ?_
 | refine aw_sregKD mixed 9 [2, 3, 4, 5, 6, 7, 8] (by simp; exact rfl) ?_
 | refine aw_ifT (b := true) rfl rfl ?_
 | refine aw_ifF (b := false) rfl rfl ?_
 | refine aw_seq ?_
 | refine aw_block ?_)
  · unfold Rn.alone opF
    repeat' (first
 | exact aw_ret (ret_vals (by simp; exact rfl) (by simp [h]; fail_if_success (show _)))
 | refine ar_end rfl ?_
 | refine ar_endD rfl (by kernel_rfl) ?_
 | refine ar_callV Tryz.call85 c_r7GetR rfl rfl rfl rfl rfl (by simp; done) (by rfl) (by simp; done) ?_
 | refine ar_callV Tryz.call102 c_r7bits rfl rfl rfl rfl rfl (by simp; done) (by rfl) (by simp; done) ?_
 | refine ar_callV Tryz.call88 c_r7SetR rfl rfl rfl rfl rfl (by simp; done) (by rfl) (by simp; done) ?_
 | refine ar_go3 _ rfl (by simp [inL, h]; exact ⟨rfl, rfl, rfl⟩) rfl ?_
 | refine aw_sregK 0 [0, 1] ?_
 | refine aw_sregK 1 [2, 3, 4] ?_
 | refine aw_sregK 2 [2, 3, 4, 5, 6] ?_
 | refine aw_sregK 3 [2, 3, 4, 5, 6, 7, 8] ?_
 | refine aw_sregK 4 [2, 3, 4, 5, 6, 7, 8, 24] ?_
 | refine aw_sregK 6 [2, 3, 4, 5, 6, 7, 8, 24] ?_
 | refine aw_sregK 8 [2, 3, 4, 5, 6, 7, 8, 24] ?_
 | refine aw_sregK 10 [2, 3, 4, 5, 6, 7, 8, 24] ?_
 | refine aw_sregKD mixed 11 [2, 3, 4, 5, 6, 7, 8] (by simp; exact rfl) ?_
 | refine aw_ifT (b := true) rfl rfl ?_
 | refine aw_ifF (b := false) rfl rfl ?_
 | refine aw_seq ?_
 | refine aw_block ?_)
set_option maxHeartbeats 16000000 in
theorem c_power {k : Nat} (hk : k ≤ 40) : SC Tryz.prog 89 [I .i64 k] (I .u32 (bitAt k)) := by
  refine scx_of Tryz.func89 rfl rfl rfl (Nat.le_of_ble_eq_true rfl) ?_
  repeat' (first
 | refine ar_end rfl ?_
 | refine ar_go3 _ rfl (by simp [*]; exact ⟨rfl, rfl, rfl⟩) rfl ?_
 | refine aw_sregK 0 [0] ?_
 | refine aw_sregK 1 [0] ?_
 | refine aw_sregK 2 [0, 3] ?_
 | refine aw_seq ?_
 | refine aw_block ?_)
  refine aw_loopN [0, 3, 4] [] (by simp; exact rfl) (ι := {i : Nat // i ≤ k}) (fun i => ⟨13, [(0, I .i64 k), (3, I .u32 (bitAt i.1)), (4, I .i64 i.1)], []⟩) (fun i => k - i.1) ⟨0, by omega⟩ (by simp [bitAt_zero]) ?_
  rintro ⟨i, hi⟩
  by_cases hlt : i < k
  · have hw : IntKind.wrap .i64 ((i : Int) + 1) = (i : Int) + 1 := wrap64s (by omega) (by omega)
    have hc : (i : Int) < (k : Int) := by omega
    have hb := bitAt_succ i
    repeat' (first
 | refine ar_end rfl ?_
 | refine ar_fin rfl ?_
 | refine lq_normN [0, 3, 4] [] (by simp; exact rfl) ⟨i + 1, by omega⟩ (by dsimp only; omega) (by simp [hb])
 | refine ar_go3 _ rfl (by simp [hc, hw]; exact ⟨rfl, rfl, rfl⟩) rfl ?_
 | refine aw_sregK 3 [0, 3, 4] ?_
 | refine aw_regK 4 [0, 3, 4] ?_
 | refine aw_regK 5 [0, 3, 4] ?_
 | refine aw_ifT (b := true) rfl rfl ?_
 | refine aw_seq ?_
 | refine aw_block ?_
 | refine aw_skip ?_)
  · have hc : ¬(i : Int) < (k : Int) := by omega
    have e : i = k := by omega
    subst e
    repeat' (first
 | exact aw_ret (ret_vals (by simp; exact rfl) (by simp [*]; fail_if_success (show _)))
 | refine ar_end rfl ?_
 | refine ar_go3 _ rfl (by simp [hc]; exact ⟨rfl, rfl, rfl⟩) rfl ?_
 | refine aw_sregK 3 [0, 3, 4] ?_
 | refine aw_sregK 6 [3] ?_
 | refine aw_ifF (b := false) rfl rfl ?_
 | refine aw_seq ?_
 | refine aw_exit ?_)
set_option maxHeartbeats 16000000 in
theorem c_with {R : Rn} {e : Ev} {a d c p : Int} (hR : R.Ok) : SC Tryz.prog 87 [.agg (trL R), .agg (evL e), I .u32 a, I .u32 d, I .u32 c, I .i64 p] (.agg (trL (Rn.event { R with ctrl := c } e a d p))) := by
  obtain ⟨h1, h2, h3, h4, h5⟩ := hR
  refine scx_of Tryz.func87 rfl rfl rfl (Nat.le_of_ble_eq_true rfl) ?_
  repeat' (first
 | exact aw_ret (ret_vals (by simp; exact rfl) (by simp [Rn.event, evsL, u32s, ints, evL]; fail_if_success (show _)))
 | refine ar_end rfl ?_
 | refine ar_endD rfl (by kernel_rfl) ?_
 | refine ar_frzT [19] rfl rfl (by simp; exact rfl) (by simp; exact rfl) (by simp; exact rfl) rfl (by simp; fail_if_success (show _)) ?_
 | refine ar_frzT [27] rfl rfl (by simp; exact rfl) (by simp; exact rfl) (by simp; exact rfl) rfl (by simp; fail_if_success (show _)) ?_
 | refine ar_frzT [35] rfl rfl (by simp; exact rfl) (by simp; exact rfl) (by simp; exact rfl) rfl (by simp; fail_if_success (show _)) ?_
 | refine ar_frzT [43] rfl rfl (by simp; exact rfl) (by simp; exact rfl) (by simp; exact rfl) rfl (by simp; fail_if_success (show _)) ?_
 | refine ar_frzT [51] rfl rfl (by simp; exact rfl) (by simp; exact rfl) (by simp; exact rfl) rfl (by simp; fail_if_success (show _)) ?_
 | refine ar_appO rfl rfl rfl rfl rfl (by simp; exact rfl) rfl (by simp; exact rfl) (by simp; exact rfl) (by simp; exact ⟨rfl, rfl⟩) rfl (by simp; exact rfl) (by simp; done) (by decide) (by simp [evsL_len, u32s_len, ints_len, maxLen]; omega) ?_
 | refine ar_go3 _ rfl (by simp [evL]; exact ⟨rfl, rfl, rfl⟩) rfl ?_
 | refine aw_sregK 0 [0, 1, 2, 3, 4, 5] ?_
 | refine aw_sregKD mixed 1 [2, 3, 4, 5, 6, 7, 12] (by simp; exact rfl) ?_
 | refine aw_sregK 2 [2, 3, 4, 5, 6, 12] ?_
 | refine aw_sregK 3 [3, 4, 5, 6, 12] ?_
 | refine aw_sregK 4 [4, 5, 6, 12] ?_
 | refine aw_sregK 5 [5, 6, 12] ?_
 | refine aw_sregK 6 [6, 12] ?_)
end Go.Eng
