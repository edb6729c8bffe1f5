import Derived.Test.YtamjcdfjkekdjaaRegs
import Derived.Test.YtamjcdfjkekdjaaEc1
set_option linter.unusedSimpArgs false
set_option linter.unusedVariables false
set_option linter.constructorNameAsVariable false
set_option autoImplicit false
namespace Go.Eng
open Go Go.RowKit Go.Proofs
set_option maxHeartbeats 4000000 in
theorem law_RegsPlace_p0 {v0 v1 v2 v3 d0 d1 d2 d3 loc a locs Y L L2 H HY : Int} (y0 : ¬ Y = 0) (y1 : ¬ Y < 1) (y2 : Y ≤ 4611686018427387904) (hY : IntKind.wrap .i64 (1 + IntKind.wrap .i64 (locs.tmod 20)) = Y)
    (hA : IntKind.wrap .i64 (a.tmod 4) = 0) (hL : IntKind.wrap .i64 loc = L) (hL2 : IntKind.wrap .i64 (L + Y) = L2) (hLt : L.tmod Y = L % Y) (hH : IntKind.wrap .i64 (v0.tdiv 2) = H) (hH2 : IntKind.wrap .i64 (H + Y) = HY)
    (p0 : 0 ≤ (L + v0) % Y) (p1 : (L + v0) % Y < Y) (pq : (L2 + v0) % Y = (L + v0) % Y) (st : (L + HY) % Y = (L + H) % Y) :
    SC Try.prog 3 [.agg (fileL v0 v1 v2 v3 d0 d1 d2 d3), I .u16 loc, I .i8 a, I .u8 locs] (B true) := by
  refine scx_of Try.func3 rfl rfl rfl (Nat.le_of_ble_eq_true rfl) ?_
  repeat (first
    | exact aw_ret (ret_vals (by simp; exact rfl) (by simp [*]))
    | refine ar_end rfl ?_
    | refine ar_endD rfl (by kernel_rfl) ?_
    | refine ar_callV Try.call34 c_shown7 rfl rfl rfl rfl rfl (by simp) (by rfl) (by simp) ?_
    | refine ar_callV_if Try.call34 c_shown7 rfl rfl rfl rfl rfl rfl (by simp) rfl (by rfl) (by simp) ?_
    | refine ar_callV Try.call36 c_made rfl rfl rfl rfl rfl (by simp) (by rfl) (by simp) ?_
    | refine ar_callV_if Try.call36 c_made rfl rfl rfl rfl rfl rfl (by simp) rfl (by rfl) (by simp) ?_
    | refine ar_callV Try.call37 c_Set rfl rfl rfl rfl rfl (by simp) (by rfl) (by simp) ?_
    | refine ar_callV_if Try.call37 c_Set rfl rfl rfl rfl rfl rfl (by simp) rfl (by rfl) (by simp) ?_
    | refine ar_callV Try.call35 (c_Place y2) rfl rfl rfl rfl rfl (by simp) (by rfl) (by simp) ?_
    | refine ar_callV_if Try.call35 (c_Place y2) rfl rfl rfl rfl rfl rfl (by simp) rfl (by rfl) (by simp) ?_
    | refine ar_go2 _ rfl (by simp [get4, kindF, mm, *]; exact ⟨rfl, rfl, rfl⟩) rfl ?_
    | refine aw_sreg ?_
    | refine aw_sregD mixed ?_
    | refine aw_ifT (b := true) rfl rfl ?_
    | refine aw_ifF (b := false) rfl rfl ?_
    | refine aw_ifT rfl (decide_eq_true (by assumption)) ?_
    | refine aw_ifF rfl (decide_eq_false (by assumption)) ?_
    | refine aw_seq ?_
    | refine aw_block ?_
    | refine aw_skip ?_
    | refine aw_region ?_
    | refine aw_region_draw mixed ?_
    | refine aw_exit ?_
    | refine blockQ_hit ?_
    | refine blockQ_miss (by decide) ?_)
set_option maxHeartbeats 4000000 in
theorem law_RegsPlace_p1 {v0 v1 v2 v3 d0 d1 d2 d3 loc a locs Y L L2 H HY : Int} (y0 : ¬ Y = 0) (y1 : ¬ Y < 1) (y2 : Y ≤ 4611686018427387904) (hY : IntKind.wrap .i64 (1 + IntKind.wrap .i64 (locs.tmod 20)) = Y)
    (hA : IntKind.wrap .i64 (a.tmod 4) = 1) (hL : IntKind.wrap .i64 loc = L) (hL2 : IntKind.wrap .i64 (L + Y) = L2) (hLt : L.tmod Y = L % Y) (hH : IntKind.wrap .i64 (v1.tdiv 2) = H) (hH2 : IntKind.wrap .i64 (H + Y) = HY)
    (p0 : 0 ≤ (L + v1) % Y) (p1 : (L + v1) % Y < Y) (pq : (L2 + v1) % Y = (L + v1) % Y) (st : (L + HY) % Y = (L + H) % Y) :
    SC Try.prog 3 [.agg (fileL v0 v1 v2 v3 d0 d1 d2 d3), I .u16 loc, I .i8 a, I .u8 locs] (B true) := by
  refine scx_of Try.func3 rfl rfl rfl (Nat.le_of_ble_eq_true rfl) ?_
  repeat (first
    | exact aw_ret (ret_vals (by simp; exact rfl) (by simp [*]))
    | refine ar_end rfl ?_
    | refine ar_endD rfl (by kernel_rfl) ?_
    | refine ar_callV Try.call34 c_shown7 rfl rfl rfl rfl rfl (by simp) (by rfl) (by simp) ?_
    | refine ar_callV_if Try.call34 c_shown7 rfl rfl rfl rfl rfl rfl (by simp) rfl (by rfl) (by simp) ?_
    | refine ar_callV Try.call36 c_made rfl rfl rfl rfl rfl (by simp) (by rfl) (by simp) ?_
    | refine ar_callV_if Try.call36 c_made rfl rfl rfl rfl rfl rfl (by simp) rfl (by rfl) (by simp) ?_
    | refine ar_callV Try.call37 c_Set rfl rfl rfl rfl rfl (by simp) (by rfl) (by simp) ?_
    | refine ar_callV_if Try.call37 c_Set rfl rfl rfl rfl rfl rfl (by simp) rfl (by rfl) (by simp) ?_
    | refine ar_callV Try.call35 (c_Place y2) rfl rfl rfl rfl rfl (by simp) (by rfl) (by simp) ?_
    | refine ar_callV_if Try.call35 (c_Place y2) rfl rfl rfl rfl rfl rfl (by simp) rfl (by rfl) (by simp) ?_
    | refine ar_go2 _ rfl (by simp [get4, kindF, mm, *]; exact ⟨rfl, rfl, rfl⟩) rfl ?_
    | refine aw_sreg ?_
    | refine aw_sregD mixed ?_
    | refine aw_ifT (b := true) rfl rfl ?_
    | refine aw_ifF (b := false) rfl rfl ?_
    | refine aw_ifT rfl (decide_eq_true (by assumption)) ?_
    | refine aw_ifF rfl (decide_eq_false (by assumption)) ?_
    | refine aw_seq ?_
    | refine aw_block ?_
    | refine aw_skip ?_
    | refine aw_region ?_
    | refine aw_region_draw mixed ?_
    | refine aw_exit ?_
    | refine blockQ_hit ?_
    | refine blockQ_miss (by decide) ?_)
set_option maxHeartbeats 4000000 in
theorem law_RegsPlace_p2 {v0 v1 v2 v3 d0 d1 d2 d3 loc a locs Y L L2 H HY : Int} (y0 : ¬ Y = 0) (y1 : ¬ Y < 1) (y2 : Y ≤ 4611686018427387904) (hY : IntKind.wrap .i64 (1 + IntKind.wrap .i64 (locs.tmod 20)) = Y)
    (hA : IntKind.wrap .i64 (a.tmod 4) = 2) (hL : IntKind.wrap .i64 loc = L) (hL2 : IntKind.wrap .i64 (L + Y) = L2) (hLt : L.tmod Y = L % Y) (hH : IntKind.wrap .i64 (v2.tdiv 2) = H) (hH2 : IntKind.wrap .i64 (H + Y) = HY)
    (p0 : 0 ≤ (L + v2) % Y) (p1 : (L + v2) % Y < Y) (pq : (L2 + v2) % Y = (L + v2) % Y) (st : (L + HY) % Y = (L + H) % Y) :
    SC Try.prog 3 [.agg (fileL v0 v1 v2 v3 d0 d1 d2 d3), I .u16 loc, I .i8 a, I .u8 locs] (B true) := by
  refine scx_of Try.func3 rfl rfl rfl (Nat.le_of_ble_eq_true rfl) ?_
  repeat (first
    | exact aw_ret (ret_vals (by simp; exact rfl) (by simp [*]))
    | refine ar_end rfl ?_
    | refine ar_endD rfl (by kernel_rfl) ?_
    | refine ar_callV Try.call34 c_shown7 rfl rfl rfl rfl rfl (by simp) (by rfl) (by simp) ?_
    | refine ar_callV_if Try.call34 c_shown7 rfl rfl rfl rfl rfl rfl (by simp) rfl (by rfl) (by simp) ?_
    | refine ar_callV Try.call36 c_made rfl rfl rfl rfl rfl (by simp) (by rfl) (by simp) ?_
    | refine ar_callV_if Try.call36 c_made rfl rfl rfl rfl rfl rfl (by simp) rfl (by rfl) (by simp) ?_
    | refine ar_callV Try.call37 c_Set rfl rfl rfl rfl rfl (by simp) (by rfl) (by simp) ?_
    | refine ar_callV_if Try.call37 c_Set rfl rfl rfl rfl rfl rfl (by simp) rfl (by rfl) (by simp) ?_
    | refine ar_callV Try.call35 (c_Place y2) rfl rfl rfl rfl rfl (by simp) (by rfl) (by simp) ?_
    | refine ar_callV_if Try.call35 (c_Place y2) rfl rfl rfl rfl rfl rfl (by simp) rfl (by rfl) (by simp) ?_
    | refine ar_go2 _ rfl (by simp [get4, kindF, mm, *]; exact ⟨rfl, rfl, rfl⟩) rfl ?_
    | refine aw_sreg ?_
    | refine aw_sregD mixed ?_
    | refine aw_ifT (b := true) rfl rfl ?_
    | refine aw_ifF (b := false) rfl rfl ?_
    | refine aw_ifT rfl (decide_eq_true (by assumption)) ?_
    | refine aw_ifF rfl (decide_eq_false (by assumption)) ?_
    | refine aw_seq ?_
    | refine aw_block ?_
    | refine aw_skip ?_
    | refine aw_region ?_
    | refine aw_region_draw mixed ?_
    | refine aw_exit ?_
    | refine blockQ_hit ?_
    | refine blockQ_miss (by decide) ?_)
set_option maxHeartbeats 4000000 in
theorem law_RegsPlace_p3 {v0 v1 v2 v3 d0 d1 d2 d3 loc a locs Y L L2 H HY : Int} (y0 : ¬ Y = 0) (y1 : ¬ Y < 1) (y2 : Y ≤ 4611686018427387904) (hY : IntKind.wrap .i64 (1 + IntKind.wrap .i64 (locs.tmod 20)) = Y)
    (hA : IntKind.wrap .i64 (a.tmod 4) = 3) (hL : IntKind.wrap .i64 loc = L) (hL2 : IntKind.wrap .i64 (L + Y) = L2) (hLt : L.tmod Y = L % Y) (hH : IntKind.wrap .i64 (v3.tdiv 2) = H) (hH2 : IntKind.wrap .i64 (H + Y) = HY)
    (p0 : 0 ≤ (L + v3) % Y) (p1 : (L + v3) % Y < Y) (pq : (L2 + v3) % Y = (L + v3) % Y) (st : (L + HY) % Y = (L + H) % Y) :
    SC Try.prog 3 [.agg (fileL v0 v1 v2 v3 d0 d1 d2 d3), I .u16 loc, I .i8 a, I .u8 locs] (B true) := by
  refine scx_of Try.func3 rfl rfl rfl (Nat.le_of_ble_eq_true rfl) ?_
  repeat (first
    | exact aw_ret (ret_vals (by simp; exact rfl) (by simp [*]))
    | refine ar_end rfl ?_
    | refine ar_endD rfl (by kernel_rfl) ?_
    | refine ar_callV Try.call34 c_shown7 rfl rfl rfl rfl rfl (by simp) (by rfl) (by simp) ?_
    | refine ar_callV_if Try.call34 c_shown7 rfl rfl rfl rfl rfl rfl (by simp) rfl (by rfl) (by simp) ?_
    | refine ar_callV Try.call36 c_made rfl rfl rfl rfl rfl (by simp) (by rfl) (by simp) ?_
    | refine ar_callV_if Try.call36 c_made rfl rfl rfl rfl rfl rfl (by simp) rfl (by rfl) (by simp) ?_
    | refine ar_callV Try.call37 c_Set rfl rfl rfl rfl rfl (by simp) (by rfl) (by simp) ?_
    | refine ar_callV_if Try.call37 c_Set rfl rfl rfl rfl rfl rfl (by simp) rfl (by rfl) (by simp) ?_
    | refine ar_callV Try.call35 (c_Place y2) rfl rfl rfl rfl rfl (by simp) (by rfl) (by simp) ?_
    | refine ar_callV_if Try.call35 (c_Place y2) rfl rfl rfl rfl rfl rfl (by simp) rfl (by rfl) (by simp) ?_
    | refine ar_go2 _ rfl (by simp [get4, kindF, mm, *]; exact ⟨rfl, rfl, rfl⟩) rfl ?_
    | refine aw_sreg ?_
    | refine aw_sregD mixed ?_
    | refine aw_ifT (b := true) rfl rfl ?_
    | refine aw_ifF (b := false) rfl rfl ?_
    | refine aw_ifT rfl (decide_eq_true (by assumption)) ?_
    | refine aw_ifF rfl (decide_eq_false (by assumption)) ?_
    | refine aw_seq ?_
    | refine aw_block ?_
    | refine aw_skip ?_
    | refine aw_region ?_
    | refine aw_region_draw mixed ?_
    | refine aw_exit ?_
    | refine blockQ_hit ?_
    | refine blockQ_miss (by decide) ?_)
set_option maxHeartbeats 4000000 in
theorem law_RegsPlace_n1 {v0 v1 v2 v3 d0 d1 d2 d3 loc a locs Y L L2 H HY : Int} (y0 : ¬ Y = 0) (y1 : ¬ Y < 1) (y2 : Y ≤ 4611686018427387904) (hY : IntKind.wrap .i64 (1 + IntKind.wrap .i64 (locs.tmod 20)) = Y)
    (hA : IntKind.wrap .i64 (a.tmod 4) = -1) (hL : IntKind.wrap .i64 loc = L) (hL2 : IntKind.wrap .i64 (L + Y) = L2) (hLt : L.tmod Y = L % Y) (hH : IntKind.wrap .i64 (v0.tdiv 2) = H) (hH2 : IntKind.wrap .i64 (H + Y) = HY) (p0 : 0 ≤ L % Y) (p1 : L % Y < Y) (pq : L2 % Y = L % Y) :
    SC Try.prog 3 [.agg (fileL v0 v1 v2 v3 d0 d1 d2 d3), I .u16 loc, I .i8 a, I .u8 locs] (B true) := by
  refine scx_of Try.func3 rfl rfl rfl (Nat.le_of_ble_eq_true rfl) ?_
  repeat (first
    | exact aw_ret (ret_vals (by simp; exact rfl) (by simp [*]))
    | refine ar_end rfl ?_
    | refine ar_endD rfl (by kernel_rfl) ?_
    | refine ar_callV Try.call34 c_shown7 rfl rfl rfl rfl rfl (by simp) (by rfl) (by simp) ?_
    | refine ar_callV_if Try.call34 c_shown7 rfl rfl rfl rfl rfl rfl (by simp) rfl (by rfl) (by simp) ?_
    | refine ar_callV Try.call36 c_made rfl rfl rfl rfl rfl (by simp) (by rfl) (by simp) ?_
    | refine ar_callV_if Try.call36 c_made rfl rfl rfl rfl rfl rfl (by simp) rfl (by rfl) (by simp) ?_
    | refine ar_callV Try.call37 c_Set rfl rfl rfl rfl rfl (by simp) (by rfl) (by simp) ?_
    | refine ar_callV_if Try.call37 c_Set rfl rfl rfl rfl rfl rfl (by simp) rfl (by rfl) (by simp) ?_
    | refine ar_callV Try.call35 (c_Place y2) rfl rfl rfl rfl rfl (by simp) (by rfl) (by simp) ?_
    | refine ar_callV_if Try.call35 (c_Place y2) rfl rfl rfl rfl rfl rfl (by simp) rfl (by rfl) (by simp) ?_
    | refine ar_go2 _ rfl (by simp [get4, kindF, mm, *]; exact ⟨rfl, rfl, rfl⟩) rfl ?_
    | refine aw_sreg ?_
    | refine aw_sregD mixed ?_
    | refine aw_ifT (b := true) rfl rfl ?_
    | refine aw_ifF (b := false) rfl rfl ?_
    | refine aw_ifT rfl (decide_eq_true (by assumption)) ?_
    | refine aw_ifF rfl (decide_eq_false (by assumption)) ?_
    | refine aw_seq ?_
    | refine aw_block ?_
    | refine aw_skip ?_
    | refine aw_region ?_
    | refine aw_region_draw mixed ?_
    | refine aw_exit ?_
    | refine blockQ_hit ?_
    | refine blockQ_miss (by decide) ?_)
set_option maxHeartbeats 4000000 in
theorem law_RegsPlace_n2 {v0 v1 v2 v3 d0 d1 d2 d3 loc a locs Y L L2 H HY : Int} (y0 : ¬ Y = 0) (y1 : ¬ Y < 1) (y2 : Y ≤ 4611686018427387904) (hY : IntKind.wrap .i64 (1 + IntKind.wrap .i64 (locs.tmod 20)) = Y)
    (hA : IntKind.wrap .i64 (a.tmod 4) = -2) (hL : IntKind.wrap .i64 loc = L) (hL2 : IntKind.wrap .i64 (L + Y) = L2) (hLt : L.tmod Y = L % Y) (hH : IntKind.wrap .i64 (v0.tdiv 2) = H) (hH2 : IntKind.wrap .i64 (H + Y) = HY) (p0 : 0 ≤ L % Y) (p1 : L % Y < Y) (pq : L2 % Y = L % Y) :
    SC Try.prog 3 [.agg (fileL v0 v1 v2 v3 d0 d1 d2 d3), I .u16 loc, I .i8 a, I .u8 locs] (B true) := by
  refine scx_of Try.func3 rfl rfl rfl (Nat.le_of_ble_eq_true rfl) ?_
  repeat (first
    | exact aw_ret (ret_vals (by simp; exact rfl) (by simp [*]))
    | refine ar_end rfl ?_
    | refine ar_endD rfl (by kernel_rfl) ?_
    | refine ar_callV Try.call34 c_shown7 rfl rfl rfl rfl rfl (by simp) (by rfl) (by simp) ?_
    | refine ar_callV_if Try.call34 c_shown7 rfl rfl rfl rfl rfl rfl (by simp) rfl (by rfl) (by simp) ?_
    | refine ar_callV Try.call36 c_made rfl rfl rfl rfl rfl (by simp) (by rfl) (by simp) ?_
    | refine ar_callV_if Try.call36 c_made rfl rfl rfl rfl rfl rfl (by simp) rfl (by rfl) (by simp) ?_
    | refine ar_callV Try.call37 c_Set rfl rfl rfl rfl rfl (by simp) (by rfl) (by simp) ?_
    | refine ar_callV_if Try.call37 c_Set rfl rfl rfl rfl rfl rfl (by simp) rfl (by rfl) (by simp) ?_
    | refine ar_callV Try.call35 (c_Place y2) rfl rfl rfl rfl rfl (by simp) (by rfl) (by simp) ?_
    | refine ar_callV_if Try.call35 (c_Place y2) rfl rfl rfl rfl rfl rfl (by simp) rfl (by rfl) (by simp) ?_
    | refine ar_go2 _ rfl (by simp [get4, kindF, mm, *]; exact ⟨rfl, rfl, rfl⟩) rfl ?_
    | refine aw_sreg ?_
    | refine aw_sregD mixed ?_
    | refine aw_ifT (b := true) rfl rfl ?_
    | refine aw_ifF (b := false) rfl rfl ?_
    | refine aw_ifT rfl (decide_eq_true (by assumption)) ?_
    | refine aw_ifF rfl (decide_eq_false (by assumption)) ?_
    | refine aw_seq ?_
    | refine aw_block ?_
    | refine aw_skip ?_
    | refine aw_region ?_
    | refine aw_region_draw mixed ?_
    | refine aw_exit ?_
    | refine blockQ_hit ?_
    | refine blockQ_miss (by decide) ?_)
set_option maxHeartbeats 4000000 in
theorem law_RegsPlace_n3 {v0 v1 v2 v3 d0 d1 d2 d3 loc a locs Y L L2 H HY : Int} (y0 : ¬ Y = 0) (y1 : ¬ Y < 1) (y2 : Y ≤ 4611686018427387904) (hY : IntKind.wrap .i64 (1 + IntKind.wrap .i64 (locs.tmod 20)) = Y)
    (hA : IntKind.wrap .i64 (a.tmod 4) = -3) (hL : IntKind.wrap .i64 loc = L) (hL2 : IntKind.wrap .i64 (L + Y) = L2) (hLt : L.tmod Y = L % Y) (hH : IntKind.wrap .i64 (v0.tdiv 2) = H) (hH2 : IntKind.wrap .i64 (H + Y) = HY) (p0 : 0 ≤ L % Y) (p1 : L % Y < Y) (pq : L2 % Y = L % Y) :
    SC Try.prog 3 [.agg (fileL v0 v1 v2 v3 d0 d1 d2 d3), I .u16 loc, I .i8 a, I .u8 locs] (B true) := by
  refine scx_of Try.func3 rfl rfl rfl (Nat.le_of_ble_eq_true rfl) ?_
  repeat (first
    | exact aw_ret (ret_vals (by simp; exact rfl) (by simp [*]))
    | refine ar_end rfl ?_
    | refine ar_endD rfl (by kernel_rfl) ?_
    | refine ar_callV Try.call34 c_shown7 rfl rfl rfl rfl rfl (by simp) (by rfl) (by simp) ?_
    | refine ar_callV_if Try.call34 c_shown7 rfl rfl rfl rfl rfl rfl (by simp) rfl (by rfl) (by simp) ?_
    | refine ar_callV Try.call36 c_made rfl rfl rfl rfl rfl (by simp) (by rfl) (by simp) ?_
    | refine ar_callV_if Try.call36 c_made rfl rfl rfl rfl rfl rfl (by simp) rfl (by rfl) (by simp) ?_
    | refine ar_callV Try.call37 c_Set rfl rfl rfl rfl rfl (by simp) (by rfl) (by simp) ?_
    | refine ar_callV_if Try.call37 c_Set rfl rfl rfl rfl rfl rfl (by simp) rfl (by rfl) (by simp) ?_
    | refine ar_callV Try.call35 (c_Place y2) rfl rfl rfl rfl rfl (by simp) (by rfl) (by simp) ?_
    | refine ar_callV_if Try.call35 (c_Place y2) rfl rfl rfl rfl rfl rfl (by simp) rfl (by rfl) (by simp) ?_
    | refine ar_go2 _ rfl (by simp [get4, kindF, mm, *]; exact ⟨rfl, rfl, rfl⟩) rfl ?_
    | refine aw_sreg ?_
    | refine aw_sregD mixed ?_
    | refine aw_ifT (b := true) rfl rfl ?_
    | refine aw_ifF (b := false) rfl rfl ?_
    | refine aw_ifT rfl (decide_eq_true (by assumption)) ?_
    | refine aw_ifF rfl (decide_eq_false (by assumption)) ?_
    | refine aw_seq ?_
    | refine aw_block ?_
    | refine aw_skip ?_
    | refine aw_region ?_
    | refine aw_region_draw mixed ?_
    | refine aw_exit ?_
    | refine blockQ_hit ?_
    | refine blockQ_miss (by decide) ?_)
theorem wfr {k : IntKind} {n : Int} (h : (Lit.int k n).wf = true) : k.min ≤ n ∧ n ≤ k.max := by
  simpa [Lit.wf] using h
theorem half {v : Int} (h : (Lit.int .i64 v).wf = true) : IntKind.wrap .i64 (v.tdiv 2) = v.tdiv 2 ∧ -4611686018427387904 ≤ v.tdiv 2 ∧ v.tdiv 2 ≤ 4611686018427387904 := by
  have := wfr h
  simp [IntKind.min, IntKind.max, IntKind.signed, IntKind.bits] at this
  have h2 : -4611686018427387904 ≤ v.tdiv 2 ∧ v.tdiv 2 ≤ 4611686018427387904 := by
    have e := Int.mul_tdiv_add_tmod v 2
    have := Int.tmod_lt_of_pos v (show (0 : Int) < 2 by omega)
    have := Int.lt_tmod_of_pos v (show (0 : Int) < 2 by omega)
    omega
  exact ⟨wrap64 (by omega) (by omega), h2.1, h2.2⟩
theorem pq_of (L v Y : Int) : (L + Y + v) % Y = (L + v) % Y := by rw [Int.add_right_comm, Int.add_emod_right]
theorem st_of (L v Y : Int) : (L + (v + Y)) % Y = (L + v) % Y := by rw [← Int.add_assoc, Int.add_emod_right]
theorem law_RegsPlace {v0 v1 v2 v3 d0 d1 d2 d3 loc a locs : Int} (h0 : (Lit.int .i64 v0).wf = true) (h1 : (Lit.int .i64 v1).wf = true) (h2 : (Lit.int .i64 v2).wf = true) (h3 : (Lit.int .i64 v3).wf = true)
    (hl : (Lit.int .u16 loc).wf = true) (ha : (Lit.int .i8 a).wf = true) (hs : (Lit.int .u8 locs).wf = true) :
    SC Try.prog 3 [.agg (fileL v0 v1 v2 v3 d0 d1 d2 d3), I .u16 loc, I .i8 a, I .u8 locs] (B true) := by
  have rl := wfr hl
  have ra := wfr ha
  have rs := wfr hs
  simp [IntKind.min, IntKind.max, IntKind.signed, IntKind.bits] at rl ra rs
  have e20 : locs.tmod 20 = locs % 20 := Int.tmod_eq_emod_of_nonneg (by omega)
  have w20 : IntKind.wrap .i64 (locs.tmod 20) = locs % 20 := by rw [e20]; exact wrap64 (by omega) (by omega)
  have hY : IntKind.wrap .i64 (1 + IntKind.wrap .i64 (locs.tmod 20)) = 1 + locs % 20 := by rw [w20]; exact wrap64 (by omega) (by omega)
  have hL : IntKind.wrap .i64 loc = loc := wrap64 (by omega) (by omega)
  have hLt : loc.tmod (1 + locs % 20) = loc % (1 + locs % 20) := Int.tmod_eq_emod_of_nonneg (by omega)
  generalize hyy : 1 + locs % 20 = Y at *
  have y1 : 1 ≤ Y ∧ Y ≤ 20 := by omega
  have hL2 : IntKind.wrap .i64 (loc + Y) = loc + Y := wrap64 (by omega) (by omega)
  have f0 : ∀ v, 0 ≤ (loc + v) % Y := fun v => Int.emod_nonneg _ (by omega)
  have f1 : ∀ v, (loc + v) % Y < Y := fun v => Int.emod_lt_of_pos _ (by omega)
  have hA : IntKind.wrap .i64 (a.tmod 4) = a.tmod 4 := by
    have := Int.tmod_lt_of_pos a (show (0 : Int) < 4 by omega)
    have := Int.lt_tmod_of_pos a (show (0 : Int) < 4 by omega)
    exact wrap64 (by omega) (by omega)
  have hc : a.tmod 4 = 0 ∨ a.tmod 4 = 1 ∨ a.tmod 4 = 2 ∨ a.tmod 4 = 3 ∨ a.tmod 4 = -1 ∨ a.tmod 4 = -2 ∨ a.tmod 4 = -3 := by
    have := Int.tmod_lt_of_pos a (show (0 : Int) < 4 by omega)
    have := Int.lt_tmod_of_pos a (show (0 : Int) < 4 by omega)
    omega
  have g0 : 0 ≤ loc % Y := Int.emod_nonneg _ (by omega)
  have g1 : loc % Y < Y := Int.emod_lt_of_pos _ (by omega)
  have gq : (loc + Y) % Y = loc % Y := Int.add_emod_right _ _
  have two : ∀ {v : Int}, (Lit.int .i64 v).wf = true → IntKind.wrap .i64 (v.tdiv 2 + Y) = v.tdiv 2 + Y := fun h => by
    have := half h
    exact wrap64 (by omega) (by omega)
  rcases hc with hc | hc | hc | hc | hc | hc | hc <;> replace hA := hA.trans hc
  · exact law_RegsPlace_p0 (by omega) (by omega) (by omega) hY hA hL hL2 hLt (half h0).1 (two h0) (f0 _) (f1 _) (pq_of _ _ _) (st_of _ _ _)
  · exact law_RegsPlace_p1 (by omega) (by omega) (by omega) hY hA hL hL2 hLt (half h1).1 (two h1) (f0 _) (f1 _) (pq_of _ _ _) (st_of _ _ _)
  · exact law_RegsPlace_p2 (by omega) (by omega) (by omega) hY hA hL hL2 hLt (half h2).1 (two h2) (f0 _) (f1 _) (pq_of _ _ _) (st_of _ _ _)
  · exact law_RegsPlace_p3 (by omega) (by omega) (by omega) hY hA hL hL2 hLt (half h3).1 (two h3) (f0 _) (f1 _) (pq_of _ _ _) (st_of _ _ _)
  · exact law_RegsPlace_n1 (by omega) (by omega) (by omega) hY hA hL hL2 hLt (half h0).1 (two h0) g0 g1 gq
  · exact law_RegsPlace_n2 (by omega) (by omega) (by omega) hY hA hL hL2 hLt (half h0).1 (two h0) g0 g1 gq
  · exact law_RegsPlace_n3 (by omega) (by omega) (by omega) hY hA hL hL2 hLt (half h0).1 (two h0) g0 g1 gq
end Go.Eng
