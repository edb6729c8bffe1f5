import Derived.Test.YtamjcdfjkekdjaaRegs
import Derived.Test.YtamjcdfjkekdjaaEc1
set_option linter.unusedSimpArgs false
set_option linter.unusedVariables false
set_option autoImplicit false
namespace Go.Eng
open Go Go.RowKit Go.Proofs
abbrev W64 (n : Int) : Prop := (Lit.int .i64 n).wf = true
abbrev W32 (n : Int) : Prop := (Lit.int .u32 n).wf = true
theorem eqFile {t : TypeId} (ht : t = 26 ∨ t = 34) {a0 a1 a2 a3 b0 b1 b2 b3 : Int} (h0 : W64 a0) (h1 : W64 a1) (h2 : W64 a2) (h3 : W64 a3) (k0 : W32 b0) (k1 : W32 b1) (k2 : W32 b2) (k3 : W32 b3) :
    EqAgg Try.prog t [.int .i64 a0, .int .i64 a1, .int .i64 a2, .int .i64 a3, .int .u32 b0, .int .u32 b1, .int .u32 b2, .int .u32 b3] [.int .i64 a0, .int .i64 a1, .int .i64 a2, .int .i64 a3, .int .u32 b0, .int .u32 b1, .int .u32 b2, .int .u32 b3] true := by
  have c2 : Try.prog.cellsOf 2 = 1 := by kernel_rfl
  have c23 : Try.prog.cellsOf 23 = 1 := by kernel_rfl
  have c22 : Try.prog.cellsOf 22 = 4 := by kernel_rfl
  have c24 : Try.prog.cellsOf 24 = 4 := by kernel_rfl
  have e22 : ∀ D, Try.prog.keyLits (D + 2) 22 [.int .i64 a0, .int .i64 a1, .int .i64 a2, .int .i64 a3] = some [.int .i64 a0, .int .i64 a1, .int .i64 a2, .int .i64 a3] := by
    intro D
    simp only [W64] at h0 h1 h2 h3
    simp [Program.keyLits, Try.underlying22, Try.underlying2, c22, c2, h0, h1, h2, h3, List.range, List.range.loop]
  have e24 : ∀ D, Try.prog.keyLits (D + 2) 24 [.int .u32 b0, .int .u32 b1, .int .u32 b2, .int .u32 b3] = some [.int .u32 b0, .int .u32 b1, .int .u32 b2, .int .u32 b3] := by
    intro D
    simp only [W32] at k0 k1 k2 k3
    simp [Program.keyLits, Try.underlying24, Try.underlying23, c24, c23, k0, k1, k2, k3, List.range, List.range.loop]
  rcases ht with rfl | rfl
  · have c26 : Try.prog.cellsOf 26 = 8 := by kernel_rfl
    refine ⟨⟨3, 3, 3, [.int .i64 a0, .int .i64 a1, .int .i64 a2, .int .i64 a3, .int .u32 b0, .int .u32 b1, .int .u32 b2, .int .u32 b3], [.int .i64 a0, .int .i64 a1, .int .i64 a2, .int .i64 a3, .int .u32 b0, .int .u32 b1, .int .u32 b2, .int .u32 b3], by decide, by kernel_rfl, ?_, ?_, Iff.intro (fun _ => rfl) (fun _ => rfl)⟩, by simp, ⟨c26.symm, c26.symm⟩, by kernel_rfl⟩
    all_goals
      have e1 := e22 0
      have e2 := e24 0
      unfold Program.keyLits
      simp only [Try.underlying26]
      simp [c26, c22, c24, e1, e2]
  · have c34 : Try.prog.cellsOf 34 = 8 := by kernel_rfl
    refine ⟨⟨3, 3, 3, [.int .i64 a0, .int .i64 a1, .int .i64 a2, .int .i64 a3, .int .u32 b0, .int .u32 b1, .int .u32 b2, .int .u32 b3], [.int .i64 a0, .int .i64 a1, .int .i64 a2, .int .i64 a3, .int .u32 b0, .int .u32 b1, .int .u32 b2, .int .u32 b3], by decide, by kernel_rfl, ?_, ?_, Iff.intro (fun _ => rfl) (fun _ => rfl)⟩, by simp, ⟨c34.symm, c34.symm⟩, by kernel_rfl⟩
    all_goals
      have e1 := e22 0
      have e2 := e24 0
      unfold Program.keyLits
      simp only [Try.underlying34]
      simp [c34, c22, c24, e1, e2]
theorem wf8 {n : Int} (h : (Lit.int .u8 n).wf = true) : 0 ≤ n ∧ n ≤ 255 := by
  simp [Lit.wf, IntKind.min, IntKind.max, IntKind.signed, IntKind.bits] at h; omega
set_option maxHeartbeats 4000000 in
theorem law_RegsSets_0_0 {v0 v1 v2 v3 d0 d1 d2 d3 v dep o : Int} (h0 : W64 v0) (h1 : W64 v1) (h2 : W64 v2) (h3 : W64 v3) (k0 : W32 d0) (k1 : W32 d1) (k2 : W32 d2) (k3 : W32 d3) (hv : W64 v) (hd : W32 dep)  (hk : IntKind.wrap .i64 (o.tmod 4) = 0) :
    SC Try.prog 4 [.agg (fileL v0 v1 v2 v3 d0 d1 d2 d3), I .i64 0, I .i64 v, I .u32 dep, I .u8 o] (B true) := by
  refine scx_of Try.func4 rfl rfl rfl (Nat.le_of_ble_eq_true rfl) ?_
  repeat (first
    | exact aw_ret (ret_vals (by simp; exact rfl) (by simp [*]))
    | refine ar_end rfl ?_
    | refine ar_endD rfl (by kernel_rfl) ?_
    | refine ar_callV Try.call34 c_shown7 rfl rfl rfl rfl rfl (by simp) (by rfl) (by simp) ?_
    | refine ar_callV_if Try.call34 c_shown7 rfl rfl rfl rfl rfl rfl (by simp) rfl (by rfl) (by simp) ?_
    | refine ar_callV Try.call36 c_made rfl rfl rfl rfl rfl (by simp) (by rfl) (by simp) ?_
    | refine ar_callV_if Try.call36 c_made rfl rfl rfl rfl rfl rfl (by simp) rfl (by rfl) (by simp) ?_
    | refine ar_callV Try.call37 c_Set rfl rfl rfl rfl rfl (by simp) (by rfl) (by simp) ?_
    | refine ar_callV_if Try.call37 c_Set rfl rfl rfl rfl rfl rfl (by simp) rfl (by rfl) (by simp) ?_
    | refine ar_callV Try.call38 c_Get rfl rfl rfl rfl rfl (by simp) (by rfl) (by simp) ?_
    | refine ar_callV_if Try.call38 c_Get rfl rfl rfl rfl rfl rfl (by simp) rfl (by rfl) (by simp) ?_
    | refine ar_callV Try.call39 c_real rfl rfl rfl rfl rfl (by simp) (by rfl) (by simp) ?_
    | refine ar_callV_if Try.call39 c_real rfl rfl rfl rfl rfl rfl (by simp) rfl (by rfl) (by simp) ?_
    | refine ar_eqAgg_if (eqFile (.inl rfl) (by assumption) (by assumption) (by assumption) (by assumption) (by assumption) (by assumption) (by assumption) (by assumption)) rfl rfl rfl rfl rfl (by simp) rfl rfl rfl ?_
    | refine ar_eqAgg_if (eqFile (.inr rfl) (by assumption) (by assumption) (by assumption) (by assumption) (by assumption) (by assumption) (by assumption) (by assumption)) rfl rfl rfl rfl rfl (by simp) rfl rfl rfl ?_
    | refine ar_go2 _ rfl (by simp [get4, *]; exact ⟨rfl, rfl, rfl⟩) rfl ?_
    | refine aw_sreg ?_
    | refine aw_sregD mixed ?_
    | refine aw_ifT (b := true) rfl rfl ?_
    | refine aw_ifF (b := false) rfl rfl ?_
    | refine aw_ifT rfl (decide_eq_true (by assumption)) ?_
    | refine aw_ifF rfl (decide_eq_false (by assumption)) ?_
    | refine aw_seq ?_
    | refine aw_block ?_
    | refine aw_skip ?_
    | refine aw_region ?_
    | refine aw_region_draw mixed ?_
    | refine aw_exit ?_
    | refine blockQ_hit ?_
    | refine blockQ_miss (by decide) ?_)
set_option maxHeartbeats 4000000 in
theorem law_RegsSets_0_1 {v0 v1 v2 v3 d0 d1 d2 d3 v dep o : Int} (h0 : W64 v0) (h1 : W64 v1) (h2 : W64 v2) (h3 : W64 v3) (k0 : W32 d0) (k1 : W32 d1) (k2 : W32 d2) (k3 : W32 d3) (hv : W64 v) (hd : W32 dep)  (hk : IntKind.wrap .i64 (o.tmod 4) = 1) :
    SC Try.prog 4 [.agg (fileL v0 v1 v2 v3 d0 d1 d2 d3), I .i64 0, I .i64 v, I .u32 dep, I .u8 o] (B true) := by
  refine scx_of Try.func4 rfl rfl rfl (Nat.le_of_ble_eq_true rfl) ?_
  repeat (first
    | exact aw_ret (ret_vals (by simp; exact rfl) (by simp [*]))
    | refine ar_end rfl ?_
    | refine ar_endD rfl (by kernel_rfl) ?_
    | refine ar_callV Try.call34 c_shown7 rfl rfl rfl rfl rfl (by simp) (by rfl) (by simp) ?_
    | refine ar_callV_if Try.call34 c_shown7 rfl rfl rfl rfl rfl rfl (by simp) rfl (by rfl) (by simp) ?_
    | refine ar_callV Try.call36 c_made rfl rfl rfl rfl rfl (by simp) (by rfl) (by simp) ?_
    | refine ar_callV_if Try.call36 c_made rfl rfl rfl rfl rfl rfl (by simp) rfl (by rfl) (by simp) ?_
    | refine ar_callV Try.call37 c_Set rfl rfl rfl rfl rfl (by simp) (by rfl) (by simp) ?_
    | refine ar_callV_if Try.call37 c_Set rfl rfl rfl rfl rfl rfl (by simp) rfl (by rfl) (by simp) ?_
    | refine ar_callV Try.call38 c_Get rfl rfl rfl rfl rfl (by simp) (by rfl) (by simp) ?_
    | refine ar_callV_if Try.call38 c_Get rfl rfl rfl rfl rfl rfl (by simp) rfl (by rfl) (by simp) ?_
    | refine ar_callV Try.call39 c_real rfl rfl rfl rfl rfl (by simp) (by rfl) (by simp) ?_
    | refine ar_callV_if Try.call39 c_real rfl rfl rfl rfl rfl rfl (by simp) rfl (by rfl) (by simp) ?_
    | refine ar_eqAgg_if (eqFile (.inl rfl) (by assumption) (by assumption) (by assumption) (by assumption) (by assumption) (by assumption) (by assumption) (by assumption)) rfl rfl rfl rfl rfl (by simp) rfl rfl rfl ?_
    | refine ar_eqAgg_if (eqFile (.inr rfl) (by assumption) (by assumption) (by assumption) (by assumption) (by assumption) (by assumption) (by assumption) (by assumption)) rfl rfl rfl rfl rfl (by simp) rfl rfl rfl ?_
    | refine ar_go2 _ rfl (by simp [get4, *]; exact ⟨rfl, rfl, rfl⟩) rfl ?_
    | refine aw_sreg ?_
    | refine aw_sregD mixed ?_
    | refine aw_ifT (b := true) rfl rfl ?_
    | refine aw_ifF (b := false) rfl rfl ?_
    | refine aw_ifT rfl (decide_eq_true (by assumption)) ?_
    | refine aw_ifF rfl (decide_eq_false (by assumption)) ?_
    | refine aw_seq ?_
    | refine aw_block ?_
    | refine aw_skip ?_
    | refine aw_region ?_
    | refine aw_region_draw mixed ?_
    | refine aw_exit ?_
    | refine blockQ_hit ?_
    | refine blockQ_miss (by decide) ?_)
set_option maxHeartbeats 4000000 in
theorem law_RegsSets_0_2 {v0 v1 v2 v3 d0 d1 d2 d3 v dep o : Int} (h0 : W64 v0) (h1 : W64 v1) (h2 : W64 v2) (h3 : W64 v3) (k0 : W32 d0) (k1 : W32 d1) (k2 : W32 d2) (k3 : W32 d3) (hv : W64 v) (hd : W32 dep)  (hk : IntKind.wrap .i64 (o.tmod 4) = 2) :
    SC Try.prog 4 [.agg (fileL v0 v1 v2 v3 d0 d1 d2 d3), I .i64 0, I .i64 v, I .u32 dep, I .u8 o] (B true) := by
  refine scx_of Try.func4 rfl rfl rfl (Nat.le_of_ble_eq_true rfl) ?_
  repeat (first
    | exact aw_ret (ret_vals (by simp; exact rfl) (by simp [*]))
    | refine ar_end rfl ?_
    | refine ar_endD rfl (by kernel_rfl) ?_
    | refine ar_callV Try.call34 c_shown7 rfl rfl rfl rfl rfl (by simp) (by rfl) (by simp) ?_
    | refine ar_callV_if Try.call34 c_shown7 rfl rfl rfl rfl rfl rfl (by simp) rfl (by rfl) (by simp) ?_
    | refine ar_callV Try.call36 c_made rfl rfl rfl rfl rfl (by simp) (by rfl) (by simp) ?_
    | refine ar_callV_if Try.call36 c_made rfl rfl rfl rfl rfl rfl (by simp) rfl (by rfl) (by simp) ?_
    | refine ar_callV Try.call37 c_Set rfl rfl rfl rfl rfl (by simp) (by rfl) (by simp) ?_
    | refine ar_callV_if Try.call37 c_Set rfl rfl rfl rfl rfl rfl (by simp) rfl (by rfl) (by simp) ?_
    | refine ar_callV Try.call38 c_Get rfl rfl rfl rfl rfl (by simp) (by rfl) (by simp) ?_
    | refine ar_callV_if Try.call38 c_Get rfl rfl rfl rfl rfl rfl (by simp) rfl (by rfl) (by simp) ?_
    | refine ar_callV Try.call39 c_real rfl rfl rfl rfl rfl (by simp) (by rfl) (by simp) ?_
    | refine ar_callV_if Try.call39 c_real rfl rfl rfl rfl rfl rfl (by simp) rfl (by rfl) (by simp) ?_
    | refine ar_eqAgg_if (eqFile (.inl rfl) (by assumption) (by assumption) (by assumption) (by assumption) (by assumption) (by assumption) (by assumption) (by assumption)) rfl rfl rfl rfl rfl (by simp) rfl rfl rfl ?_
    | refine ar_eqAgg_if (eqFile (.inr rfl) (by assumption) (by assumption) (by assumption) (by assumption) (by assumption) (by assumption) (by assumption) (by assumption)) rfl rfl rfl rfl rfl (by simp) rfl rfl rfl ?_
    | refine ar_go2 _ rfl (by simp [get4, *]; exact ⟨rfl, rfl, rfl⟩) rfl ?_
    | refine aw_sreg ?_
    | refine aw_sregD mixed ?_
    | refine aw_ifT (b := true) rfl rfl ?_
    | refine aw_ifF (b := false) rfl rfl ?_
    | refine aw_ifT rfl (decide_eq_true (by assumption)) ?_
    | refine aw_ifF rfl (decide_eq_false (by assumption)) ?_
    | refine aw_seq ?_
    | refine aw_block ?_
    | refine aw_skip ?_
    | refine aw_region ?_
    | refine aw_region_draw mixed ?_
    | refine aw_exit ?_
    | refine blockQ_hit ?_
    | refine blockQ_miss (by decide) ?_)
set_option maxHeartbeats 4000000 in
theorem law_RegsSets_0_3 {v0 v1 v2 v3 d0 d1 d2 d3 v dep o : Int} (h0 : W64 v0) (h1 : W64 v1) (h2 : W64 v2) (h3 : W64 v3) (k0 : W32 d0) (k1 : W32 d1) (k2 : W32 d2) (k3 : W32 d3) (hv : W64 v) (hd : W32 dep)  (hk : IntKind.wrap .i64 (o.tmod 4) = 3) :
    SC Try.prog 4 [.agg (fileL v0 v1 v2 v3 d0 d1 d2 d3), I .i64 0, I .i64 v, I .u32 dep, I .u8 o] (B true) := by
  refine scx_of Try.func4 rfl rfl rfl (Nat.le_of_ble_eq_true rfl) ?_
  repeat (first
    | exact aw_ret (ret_vals (by simp; exact rfl) (by simp [*]))
    | refine ar_end rfl ?_
    | refine ar_endD rfl (by kernel_rfl) ?_
    | refine ar_callV Try.call34 c_shown7 rfl rfl rfl rfl rfl (by simp) (by rfl) (by simp) ?_
    | refine ar_callV_if Try.call34 c_shown7 rfl rfl rfl rfl rfl rfl (by simp) rfl (by rfl) (by simp) ?_
    | refine ar_callV Try.call36 c_made rfl rfl rfl rfl rfl (by simp) (by rfl) (by simp) ?_
    | refine ar_callV_if Try.call36 c_made rfl rfl rfl rfl rfl rfl (by simp) rfl (by rfl) (by simp) ?_
    | refine ar_callV Try.call37 c_Set rfl rfl rfl rfl rfl (by simp) (by rfl) (by simp) ?_
    | refine ar_callV_if Try.call37 c_Set rfl rfl rfl rfl rfl rfl (by simp) rfl (by rfl) (by simp) ?_
    | refine ar_callV Try.call38 c_Get rfl rfl rfl rfl rfl (by simp) (by rfl) (by simp) ?_
    | refine ar_callV_if Try.call38 c_Get rfl rfl rfl rfl rfl rfl (by simp) rfl (by rfl) (by simp) ?_
    | refine ar_callV Try.call39 c_real rfl rfl rfl rfl rfl (by simp) (by rfl) (by simp) ?_
    | refine ar_callV_if Try.call39 c_real rfl rfl rfl rfl rfl rfl (by simp) rfl (by rfl) (by simp) ?_
    | refine ar_eqAgg_if (eqFile (.inl rfl) (by assumption) (by assumption) (by assumption) (by assumption) (by assumption) (by assumption) (by assumption) (by assumption)) rfl rfl rfl rfl rfl (by simp) rfl rfl rfl ?_
    | refine ar_eqAgg_if (eqFile (.inr rfl) (by assumption) (by assumption) (by assumption) (by assumption) (by assumption) (by assumption) (by assumption) (by assumption)) rfl rfl rfl rfl rfl (by simp) rfl rfl rfl ?_
    | refine ar_go2 _ rfl (by simp [get4, *]; exact ⟨rfl, rfl, rfl⟩) rfl ?_
    | refine aw_sreg ?_
    | refine aw_sregD mixed ?_
    | refine aw_ifT (b := true) rfl rfl ?_
    | refine aw_ifF (b := false) rfl rfl ?_
    | refine aw_ifT rfl (decide_eq_true (by assumption)) ?_
    | refine aw_ifF rfl (decide_eq_false (by assumption)) ?_
    | refine aw_seq ?_
    | refine aw_block ?_
    | refine aw_skip ?_
    | refine aw_region ?_
    | refine aw_region_draw mixed ?_
    | refine aw_exit ?_
    | refine blockQ_hit ?_
    | refine blockQ_miss (by decide) ?_)
set_option maxHeartbeats 4000000 in
theorem law_RegsSets_1_0 {v0 v1 v2 v3 d0 d1 d2 d3 v dep o : Int} (h0 : W64 v0) (h1 : W64 v1) (h2 : W64 v2) (h3 : W64 v3) (k0 : W32 d0) (k1 : W32 d1) (k2 : W32 d2) (k3 : W32 d3) (hv : W64 v) (hd : W32 dep)  (hk : IntKind.wrap .i64 (o.tmod 4) = 0) :
    SC Try.prog 4 [.agg (fileL v0 v1 v2 v3 d0 d1 d2 d3), I .i64 1, I .i64 v, I .u32 dep, I .u8 o] (B true) := by
  refine scx_of Try.func4 rfl rfl rfl (Nat.le_of_ble_eq_true rfl) ?_
  repeat (first
    | exact aw_ret (ret_vals (by simp; exact rfl) (by simp [*]))
    | refine ar_end rfl ?_
    | refine ar_endD rfl (by kernel_rfl) ?_
    | refine ar_callV Try.call34 c_shown7 rfl rfl rfl rfl rfl (by simp) (by rfl) (by simp) ?_
    | refine ar_callV_if Try.call34 c_shown7 rfl rfl rfl rfl rfl rfl (by simp) rfl (by rfl) (by simp) ?_
    | refine ar_callV Try.call36 c_made rfl rfl rfl rfl rfl (by simp) (by rfl) (by simp) ?_
    | refine ar_callV_if Try.call36 c_made rfl rfl rfl rfl rfl rfl (by simp) rfl (by rfl) (by simp) ?_
    | refine ar_callV Try.call37 c_Set rfl rfl rfl rfl rfl (by simp) (by rfl) (by simp) ?_
    | refine ar_callV_if Try.call37 c_Set rfl rfl rfl rfl rfl rfl (by simp) rfl (by rfl) (by simp) ?_
    | refine ar_callV Try.call38 c_Get rfl rfl rfl rfl rfl (by simp) (by rfl) (by simp) ?_
    | refine ar_callV_if Try.call38 c_Get rfl rfl rfl rfl rfl rfl (by simp) rfl (by rfl) (by simp) ?_
    | refine ar_callV Try.call39 c_real rfl rfl rfl rfl rfl (by simp) (by rfl) (by simp) ?_
    | refine ar_callV_if Try.call39 c_real rfl rfl rfl rfl rfl rfl (by simp) rfl (by rfl) (by simp) ?_
    | refine ar_eqAgg_if (eqFile (.inl rfl) (by assumption) (by assumption) (by assumption) (by assumption) (by assumption) (by assumption) (by assumption) (by assumption)) rfl rfl rfl rfl rfl (by simp) rfl rfl rfl ?_
    | refine ar_eqAgg_if (eqFile (.inr rfl) (by assumption) (by assumption) (by assumption) (by assumption) (by assumption) (by assumption) (by assumption) (by assumption)) rfl rfl rfl rfl rfl (by simp) rfl rfl rfl ?_
    | refine ar_go2 _ rfl (by simp [get4, *]; exact ⟨rfl, rfl, rfl⟩) rfl ?_
    | refine aw_sreg ?_
    | refine aw_sregD mixed ?_
    | refine aw_ifT (b := true) rfl rfl ?_
    | refine aw_ifF (b := false) rfl rfl ?_
    | refine aw_ifT rfl (decide_eq_true (by assumption)) ?_
    | refine aw_ifF rfl (decide_eq_false (by assumption)) ?_
    | refine aw_seq ?_
    | refine aw_block ?_
    | refine aw_skip ?_
    | refine aw_region ?_
    | refine aw_region_draw mixed ?_
    | refine aw_exit ?_
    | refine blockQ_hit ?_
    | refine blockQ_miss (by decide) ?_)
set_option maxHeartbeats 4000000 in
theorem law_RegsSets_1_1 {v0 v1 v2 v3 d0 d1 d2 d3 v dep o : Int} (h0 : W64 v0) (h1 : W64 v1) (h2 : W64 v2) (h3 : W64 v3) (k0 : W32 d0) (k1 : W32 d1) (k2 : W32 d2) (k3 : W32 d3) (hv : W64 v) (hd : W32 dep)  (hk : IntKind.wrap .i64 (o.tmod 4) = 1) :
    SC Try.prog 4 [.agg (fileL v0 v1 v2 v3 d0 d1 d2 d3), I .i64 1, I .i64 v, I .u32 dep, I .u8 o] (B true) := by
  refine scx_of Try.func4 rfl rfl rfl (Nat.le_of_ble_eq_true rfl) ?_
  repeat (first
    | exact aw_ret (ret_vals (by simp; exact rfl) (by simp [*]))
    | refine ar_end rfl ?_
    | refine ar_endD rfl (by kernel_rfl) ?_
    | refine ar_callV Try.call34 c_shown7 rfl rfl rfl rfl rfl (by simp) (by rfl) (by simp) ?_
    | refine ar_callV_if Try.call34 c_shown7 rfl rfl rfl rfl rfl rfl (by simp) rfl (by rfl) (by simp) ?_
    | refine ar_callV Try.call36 c_made rfl rfl rfl rfl rfl (by simp) (by rfl) (by simp) ?_
    | refine ar_callV_if Try.call36 c_made rfl rfl rfl rfl rfl rfl (by simp) rfl (by rfl) (by simp) ?_
    | refine ar_callV Try.call37 c_Set rfl rfl rfl rfl rfl (by simp) (by rfl) (by simp) ?_
    | refine ar_callV_if Try.call37 c_Set rfl rfl rfl rfl rfl rfl (by simp) rfl (by rfl) (by simp) ?_
    | refine ar_callV Try.call38 c_Get rfl rfl rfl rfl rfl (by simp) (by rfl) (by simp) ?_
    | refine ar_callV_if Try.call38 c_Get rfl rfl rfl rfl rfl rfl (by simp) rfl (by rfl) (by simp) ?_
    | refine ar_callV Try.call39 c_real rfl rfl rfl rfl rfl (by simp) (by rfl) (by simp) ?_
    | refine ar_callV_if Try.call39 c_real rfl rfl rfl rfl rfl rfl (by simp) rfl (by rfl) (by simp) ?_
    | refine ar_eqAgg_if (eqFile (.inl rfl) (by assumption) (by assumption) (by assumption) (by assumption) (by assumption) (by assumption) (by assumption) (by assumption)) rfl rfl rfl rfl rfl (by simp) rfl rfl rfl ?_
    | refine ar_eqAgg_if (eqFile (.inr rfl) (by assumption) (by assumption) (by assumption) (by assumption) (by assumption) (by assumption) (by assumption) (by assumption)) rfl rfl rfl rfl rfl (by simp) rfl rfl rfl ?_
    | refine ar_go2 _ rfl (by simp [get4, *]; exact ⟨rfl, rfl, rfl⟩) rfl ?_
    | refine aw_sreg ?_
    | refine aw_sregD mixed ?_
    | refine aw_ifT (b := true) rfl rfl ?_
    | refine aw_ifF (b := false) rfl rfl ?_
    | refine aw_ifT rfl (decide_eq_true (by assumption)) ?_
    | refine aw_ifF rfl (decide_eq_false (by assumption)) ?_
    | refine aw_seq ?_
    | refine aw_block ?_
    | refine aw_skip ?_
    | refine aw_region ?_
    | refine aw_region_draw mixed ?_
    | refine aw_exit ?_
    | refine blockQ_hit ?_
    | refine blockQ_miss (by decide) ?_)
set_option maxHeartbeats 4000000 in
theorem law_RegsSets_1_2 {v0 v1 v2 v3 d0 d1 d2 d3 v dep o : Int} (h0 : W64 v0) (h1 : W64 v1) (h2 : W64 v2) (h3 : W64 v3) (k0 : W32 d0) (k1 : W32 d1) (k2 : W32 d2) (k3 : W32 d3) (hv : W64 v) (hd : W32 dep)  (hk : IntKind.wrap .i64 (o.tmod 4) = 2) :
    SC Try.prog 4 [.agg (fileL v0 v1 v2 v3 d0 d1 d2 d3), I .i64 1, I .i64 v, I .u32 dep, I .u8 o] (B true) := by
  refine scx_of Try.func4 rfl rfl rfl (Nat.le_of_ble_eq_true rfl) ?_
  repeat (first
    | exact aw_ret (ret_vals (by simp; exact rfl) (by simp [*]))
    | refine ar_end rfl ?_
    | refine ar_endD rfl (by kernel_rfl) ?_
    | refine ar_callV Try.call34 c_shown7 rfl rfl rfl rfl rfl (by simp) (by rfl) (by simp) ?_
    | refine ar_callV_if Try.call34 c_shown7 rfl rfl rfl rfl rfl rfl (by simp) rfl (by rfl) (by simp) ?_
    | refine ar_callV Try.call36 c_made rfl rfl rfl rfl rfl (by simp) (by rfl) (by simp) ?_
    | refine ar_callV_if Try.call36 c_made rfl rfl rfl rfl rfl rfl (by simp) rfl (by rfl) (by simp) ?_
    | refine ar_callV Try.call37 c_Set rfl rfl rfl rfl rfl (by simp) (by rfl) (by simp) ?_
    | refine ar_callV_if Try.call37 c_Set rfl rfl rfl rfl rfl rfl (by simp) rfl (by rfl) (by simp) ?_
    | refine ar_callV Try.call38 c_Get rfl rfl rfl rfl rfl (by simp) (by rfl) (by simp) ?_
    | refine ar_callV_if Try.call38 c_Get rfl rfl rfl rfl rfl rfl (by simp) rfl (by rfl) (by simp) ?_
    | refine ar_callV Try.call39 c_real rfl rfl rfl rfl rfl (by simp) (by rfl) (by simp) ?_
    | refine ar_callV_if Try.call39 c_real rfl rfl rfl rfl rfl rfl (by simp) rfl (by rfl) (by simp) ?_
    | refine ar_eqAgg_if (eqFile (.inl rfl) (by assumption) (by assumption) (by assumption) (by assumption) (by assumption) (by assumption) (by assumption) (by assumption)) rfl rfl rfl rfl rfl (by simp) rfl rfl rfl ?_
    | refine ar_eqAgg_if (eqFile (.inr rfl) (by assumption) (by assumption) (by assumption) (by assumption) (by assumption) (by assumption) (by assumption) (by assumption)) rfl rfl rfl rfl rfl (by simp) rfl rfl rfl ?_
    | refine ar_go2 _ rfl (by simp [get4, *]; exact ⟨rfl, rfl, rfl⟩) rfl ?_
    | refine aw_sreg ?_
    | refine aw_sregD mixed ?_
    | refine aw_ifT (b := true) rfl rfl ?_
    | refine aw_ifF (b := false) rfl rfl ?_
    | refine aw_ifT rfl (decide_eq_true (by assumption)) ?_
    | refine aw_ifF rfl (decide_eq_false (by assumption)) ?_
    | refine aw_seq ?_
    | refine aw_block ?_
    | refine aw_skip ?_
    | refine aw_region ?_
    | refine aw_region_draw mixed ?_
    | refine aw_exit ?_
    | refine blockQ_hit ?_
    | refine blockQ_miss (by decide) ?_)
set_option maxHeartbeats 4000000 in
theorem law_RegsSets_1_3 {v0 v1 v2 v3 d0 d1 d2 d3 v dep o : Int} (h0 : W64 v0) (h1 : W64 v1) (h2 : W64 v2) (h3 : W64 v3) (k0 : W32 d0) (k1 : W32 d1) (k2 : W32 d2) (k3 : W32 d3) (hv : W64 v) (hd : W32 dep)  (hk : IntKind.wrap .i64 (o.tmod 4) = 3) :
    SC Try.prog 4 [.agg (fileL v0 v1 v2 v3 d0 d1 d2 d3), I .i64 1, I .i64 v, I .u32 dep, I .u8 o] (B true) := by
  refine scx_of Try.func4 rfl rfl rfl (Nat.le_of_ble_eq_true rfl) ?_
  repeat (first
    | exact aw_ret (ret_vals (by simp; exact rfl) (by simp [*]))
    | refine ar_end rfl ?_
    | refine ar_endD rfl (by kernel_rfl) ?_
    | refine ar_callV Try.call34 c_shown7 rfl rfl rfl rfl rfl (by simp) (by rfl) (by simp) ?_
    | refine ar_callV_if Try.call34 c_shown7 rfl rfl rfl rfl rfl rfl (by simp) rfl (by rfl) (by simp) ?_
    | refine ar_callV Try.call36 c_made rfl rfl rfl rfl rfl (by simp) (by rfl) (by simp) ?_
    | refine ar_callV_if Try.call36 c_made rfl rfl rfl rfl rfl rfl (by simp) rfl (by rfl) (by simp) ?_
    | refine ar_callV Try.call37 c_Set rfl rfl rfl rfl rfl (by simp) (by rfl) (by simp) ?_
    | refine ar_callV_if Try.call37 c_Set rfl rfl rfl rfl rfl rfl (by simp) rfl (by rfl) (by simp) ?_
    | refine ar_callV Try.call38 c_Get rfl rfl rfl rfl rfl (by simp) (by rfl) (by simp) ?_
    | refine ar_callV_if Try.call38 c_Get rfl rfl rfl rfl rfl rfl (by simp) rfl (by rfl) (by simp) ?_
    | refine ar_callV Try.call39 c_real rfl rfl rfl rfl rfl (by simp) (by rfl) (by simp) ?_
    | refine ar_callV_if Try.call39 c_real rfl rfl rfl rfl rfl rfl (by simp) rfl (by rfl) (by simp) ?_
    | refine ar_eqAgg_if (eqFile (.inl rfl) (by assumption) (by assumption) (by assumption) (by assumption) (by assumption) (by assumption) (by assumption) (by assumption)) rfl rfl rfl rfl rfl (by simp) rfl rfl rfl ?_
    | refine ar_eqAgg_if (eqFile (.inr rfl) (by assumption) (by assumption) (by assumption) (by assumption) (by assumption) (by assumption) (by assumption) (by assumption)) rfl rfl rfl rfl rfl (by simp) rfl rfl rfl ?_
    | refine ar_go2 _ rfl (by simp [get4, *]; exact ⟨rfl, rfl, rfl⟩) rfl ?_
    | refine aw_sreg ?_
    | refine aw_sregD mixed ?_
    | refine aw_ifT (b := true) rfl rfl ?_
    | refine aw_ifF (b := false) rfl rfl ?_
    | refine aw_ifT rfl (decide_eq_true (by assumption)) ?_
    | refine aw_ifF rfl (decide_eq_false (by assumption)) ?_
    | refine aw_seq ?_
    | refine aw_block ?_
    | refine aw_skip ?_
    | refine aw_region ?_
    | refine aw_region_draw mixed ?_
    | refine aw_exit ?_
    | refine blockQ_hit ?_
    | refine blockQ_miss (by decide) ?_)
set_option maxHeartbeats 4000000 in
theorem law_RegsSets_2_0 {v0 v1 v2 v3 d0 d1 d2 d3 v dep o : Int} (h0 : W64 v0) (h1 : W64 v1) (h2 : W64 v2) (h3 : W64 v3) (k0 : W32 d0) (k1 : W32 d1) (k2 : W32 d2) (k3 : W32 d3) (hv : W64 v) (hd : W32 dep)  (hk : IntKind.wrap .i64 (o.tmod 4) = 0) :
    SC Try.prog 4 [.agg (fileL v0 v1 v2 v3 d0 d1 d2 d3), I .i64 2, I .i64 v, I .u32 dep, I .u8 o] (B true) := by
  refine scx_of Try.func4 rfl rfl rfl (Nat.le_of_ble_eq_true rfl) ?_
  repeat (first
    | exact aw_ret (ret_vals (by simp; exact rfl) (by simp [*]))
    | refine ar_end rfl ?_
    | refine ar_endD rfl (by kernel_rfl) ?_
    | refine ar_callV Try.call34 c_shown7 rfl rfl rfl rfl rfl (by simp) (by rfl) (by simp) ?_
    | refine ar_callV_if Try.call34 c_shown7 rfl rfl rfl rfl rfl rfl (by simp) rfl (by rfl) (by simp) ?_
    | refine ar_callV Try.call36 c_made rfl rfl rfl rfl rfl (by simp) (by rfl) (by simp) ?_
    | refine ar_callV_if Try.call36 c_made rfl rfl rfl rfl rfl rfl (by simp) rfl (by rfl) (by simp) ?_
    | refine ar_callV Try.call37 c_Set rfl rfl rfl rfl rfl (by simp) (by rfl) (by simp) ?_
    | refine ar_callV_if Try.call37 c_Set rfl rfl rfl rfl rfl rfl (by simp) rfl (by rfl) (by simp) ?_
    | refine ar_callV Try.call38 c_Get rfl rfl rfl rfl rfl (by simp) (by rfl) (by simp) ?_
    | refine ar_callV_if Try.call38 c_Get rfl rfl rfl rfl rfl rfl (by simp) rfl (by rfl) (by simp) ?_
    | refine ar_callV Try.call39 c_real rfl rfl rfl rfl rfl (by simp) (by rfl) (by simp) ?_
    | refine ar_callV_if Try.call39 c_real rfl rfl rfl rfl rfl rfl (by simp) rfl (by rfl) (by simp) ?_
    | refine ar_eqAgg_if (eqFile (.inl rfl) (by assumption) (by assumption) (by assumption) (by assumption) (by assumption) (by assumption) (by assumption) (by assumption)) rfl rfl rfl rfl rfl (by simp) rfl rfl rfl ?_
    | refine ar_eqAgg_if (eqFile (.inr rfl) (by assumption) (by assumption) (by assumption) (by assumption) (by assumption) (by assumption) (by assumption) (by assumption)) rfl rfl rfl rfl rfl (by simp) rfl rfl rfl ?_
    | refine ar_go2 _ rfl (by simp [get4, *]; exact ⟨rfl, rfl, rfl⟩) rfl ?_
    | refine aw_sreg ?_
    | refine aw_sregD mixed ?_
    | refine aw_ifT (b := true) rfl rfl ?_
    | refine aw_ifF (b := false) rfl rfl ?_
    | refine aw_ifT rfl (decide_eq_true (by assumption)) ?_
    | refine aw_ifF rfl (decide_eq_false (by assumption)) ?_
    | refine aw_seq ?_
    | refine aw_block ?_
    | refine aw_skip ?_
    | refine aw_region ?_
    | refine aw_region_draw mixed ?_
    | refine aw_exit ?_
    | refine blockQ_hit ?_
    | refine blockQ_miss (by decide) ?_)
set_option maxHeartbeats 4000000 in
theorem law_RegsSets_2_1 {v0 v1 v2 v3 d0 d1 d2 d3 v dep o : Int} (h0 : W64 v0) (h1 : W64 v1) (h2 : W64 v2) (h3 : W64 v3) (k0 : W32 d0) (k1 : W32 d1) (k2 : W32 d2) (k3 : W32 d3) (hv : W64 v) (hd : W32 dep)  (hk : IntKind.wrap .i64 (o.tmod 4) = 1) :
    SC Try.prog 4 [.agg (fileL v0 v1 v2 v3 d0 d1 d2 d3), I .i64 2, I .i64 v, I .u32 dep, I .u8 o] (B true) := by
  refine scx_of Try.func4 rfl rfl rfl (Nat.le_of_ble_eq_true rfl) ?_
  repeat (first
    | exact aw_ret (ret_vals (by simp; exact rfl) (by simp [*]))
    | refine ar_end rfl ?_
    | refine ar_endD rfl (by kernel_rfl) ?_
    | refine ar_callV Try.call34 c_shown7 rfl rfl rfl rfl rfl (by simp) (by rfl) (by simp) ?_
    | refine ar_callV_if Try.call34 c_shown7 rfl rfl rfl rfl rfl rfl (by simp) rfl (by rfl) (by simp) ?_
    | refine ar_callV Try.call36 c_made rfl rfl rfl rfl rfl (by simp) (by rfl) (by simp) ?_
    | refine ar_callV_if Try.call36 c_made rfl rfl rfl rfl rfl rfl (by simp) rfl (by rfl) (by simp) ?_
    | refine ar_callV Try.call37 c_Set rfl rfl rfl rfl rfl (by simp) (by rfl) (by simp) ?_
    | refine ar_callV_if Try.call37 c_Set rfl rfl rfl rfl rfl rfl (by simp) rfl (by rfl) (by simp) ?_
    | refine ar_callV Try.call38 c_Get rfl rfl rfl rfl rfl (by simp) (by rfl) (by simp) ?_
    | refine ar_callV_if Try.call38 c_Get rfl rfl rfl rfl rfl rfl (by simp) rfl (by rfl) (by simp) ?_
    | refine ar_callV Try.call39 c_real rfl rfl rfl rfl rfl (by simp) (by rfl) (by simp) ?_
    | refine ar_callV_if Try.call39 c_real rfl rfl rfl rfl rfl rfl (by simp) rfl (by rfl) (by simp) ?_
    | refine ar_eqAgg_if (eqFile (.inl rfl) (by assumption) (by assumption) (by assumption) (by assumption) (by assumption) (by assumption) (by assumption) (by assumption)) rfl rfl rfl rfl rfl (by simp) rfl rfl rfl ?_
    | refine ar_eqAgg_if (eqFile (.inr rfl) (by assumption) (by assumption) (by assumption) (by assumption) (by assumption) (by assumption) (by assumption) (by assumption)) rfl rfl rfl rfl rfl (by simp) rfl rfl rfl ?_
    | refine ar_go2 _ rfl (by simp [get4, *]; exact ⟨rfl, rfl, rfl⟩) rfl ?_
    | refine aw_sreg ?_
    | refine aw_sregD mixed ?_
    | refine aw_ifT (b := true) rfl rfl ?_
    | refine aw_ifF (b := false) rfl rfl ?_
    | refine aw_ifT rfl (decide_eq_true (by assumption)) ?_
    | refine aw_ifF rfl (decide_eq_false (by assumption)) ?_
    | refine aw_seq ?_
    | refine aw_block ?_
    | refine aw_skip ?_
    | refine aw_region ?_
    | refine aw_region_draw mixed ?_
    | refine aw_exit ?_
    | refine blockQ_hit ?_
    | refine blockQ_miss (by decide) ?_)
set_option maxHeartbeats 4000000 in
theorem law_RegsSets_2_2 {v0 v1 v2 v3 d0 d1 d2 d3 v dep o : Int} (h0 : W64 v0) (h1 : W64 v1) (h2 : W64 v2) (h3 : W64 v3) (k0 : W32 d0) (k1 : W32 d1) (k2 : W32 d2) (k3 : W32 d3) (hv : W64 v) (hd : W32 dep)  (hk : IntKind.wrap .i64 (o.tmod 4) = 2) :
    SC Try.prog 4 [.agg (fileL v0 v1 v2 v3 d0 d1 d2 d3), I .i64 2, I .i64 v, I .u32 dep, I .u8 o] (B true) := by
  refine scx_of Try.func4 rfl rfl rfl (Nat.le_of_ble_eq_true rfl) ?_
  repeat (first
    | exact aw_ret (ret_vals (by simp; exact rfl) (by simp [*]))
    | refine ar_end rfl ?_
    | refine ar_endD rfl (by kernel_rfl) ?_
    | refine ar_callV Try.call34 c_shown7 rfl rfl rfl rfl rfl (by simp) (by rfl) (by simp) ?_
    | refine ar_callV_if Try.call34 c_shown7 rfl rfl rfl rfl rfl rfl (by simp) rfl (by rfl) (by simp) ?_
    | refine ar_callV Try.call36 c_made rfl rfl rfl rfl rfl (by simp) (by rfl) (by simp) ?_
    | refine ar_callV_if Try.call36 c_made rfl rfl rfl rfl rfl rfl (by simp) rfl (by rfl) (by simp) ?_
    | refine ar_callV Try.call37 c_Set rfl rfl rfl rfl rfl (by simp) (by rfl) (by simp) ?_
    | refine ar_callV_if Try.call37 c_Set rfl rfl rfl rfl rfl rfl (by simp) rfl (by rfl) (by simp) ?_
    | refine ar_callV Try.call38 c_Get rfl rfl rfl rfl rfl (by simp) (by rfl) (by simp) ?_
    | refine ar_callV_if Try.call38 c_Get rfl rfl rfl rfl rfl rfl (by simp) rfl (by rfl) (by simp) ?_
    | refine ar_callV Try.call39 c_real rfl rfl rfl rfl rfl (by simp) (by rfl) (by simp) ?_
    | refine ar_callV_if Try.call39 c_real rfl rfl rfl rfl rfl rfl (by simp) rfl (by rfl) (by simp) ?_
    | refine ar_eqAgg_if (eqFile (.inl rfl) (by assumption) (by assumption) (by assumption) (by assumption) (by assumption) (by assumption) (by assumption) (by assumption)) rfl rfl rfl rfl rfl (by simp) rfl rfl rfl ?_
    | refine ar_eqAgg_if (eqFile (.inr rfl) (by assumption) (by assumption) (by assumption) (by assumption) (by assumption) (by assumption) (by assumption) (by assumption)) rfl rfl rfl rfl rfl (by simp) rfl rfl rfl ?_
    | refine ar_go2 _ rfl (by simp [get4, *]; exact ⟨rfl, rfl, rfl⟩) rfl ?_
    | refine aw_sreg ?_
    | refine aw_sregD mixed ?_
    | refine aw_ifT (b := true) rfl rfl ?_
    | refine aw_ifF (b := false) rfl rfl ?_
    | refine aw_ifT rfl (decide_eq_true (by assumption)) ?_
    | refine aw_ifF rfl (decide_eq_false (by assumption)) ?_
    | refine aw_seq ?_
    | refine aw_block ?_
    | refine aw_skip ?_
    | refine aw_region ?_
    | refine aw_region_draw mixed ?_
    | refine aw_exit ?_
    | refine blockQ_hit ?_
    | refine blockQ_miss (by decide) ?_)
set_option maxHeartbeats 4000000 in
theorem law_RegsSets_2_3 {v0 v1 v2 v3 d0 d1 d2 d3 v dep o : Int} (h0 : W64 v0) (h1 : W64 v1) (h2 : W64 v2) (h3 : W64 v3) (k0 : W32 d0) (k1 : W32 d1) (k2 : W32 d2) (k3 : W32 d3) (hv : W64 v) (hd : W32 dep)  (hk : IntKind.wrap .i64 (o.tmod 4) = 3) :
    SC Try.prog 4 [.agg (fileL v0 v1 v2 v3 d0 d1 d2 d3), I .i64 2, I .i64 v, I .u32 dep, I .u8 o] (B true) := by
  refine scx_of Try.func4 rfl rfl rfl (Nat.le_of_ble_eq_true rfl) ?_
  repeat (first
    | exact aw_ret (ret_vals (by simp; exact rfl) (by simp [*]))
    | refine ar_end rfl ?_
    | refine ar_endD rfl (by kernel_rfl) ?_
    | refine ar_callV Try.call34 c_shown7 rfl rfl rfl rfl rfl (by simp) (by rfl) (by simp) ?_
    | refine ar_callV_if Try.call34 c_shown7 rfl rfl rfl rfl rfl rfl (by simp) rfl (by rfl) (by simp) ?_
    | refine ar_callV Try.call36 c_made rfl rfl rfl rfl rfl (by simp) (by rfl) (by simp) ?_
    | refine ar_callV_if Try.call36 c_made rfl rfl rfl rfl rfl rfl (by simp) rfl (by rfl) (by simp) ?_
    | refine ar_callV Try.call37 c_Set rfl rfl rfl rfl rfl (by simp) (by rfl) (by simp) ?_
    | refine ar_callV_if Try.call37 c_Set rfl rfl rfl rfl rfl rfl (by simp) rfl (by rfl) (by simp) ?_
    | refine ar_callV Try.call38 c_Get rfl rfl rfl rfl rfl (by simp) (by rfl) (by simp) ?_
    | refine ar_callV_if Try.call38 c_Get rfl rfl rfl rfl rfl rfl (by simp) rfl (by rfl) (by simp) ?_
    | refine ar_callV Try.call39 c_real rfl rfl rfl rfl rfl (by simp) (by rfl) (by simp) ?_
    | refine ar_callV_if Try.call39 c_real rfl rfl rfl rfl rfl rfl (by simp) rfl (by rfl) (by simp) ?_
    | refine ar_eqAgg_if (eqFile (.inl rfl) (by assumption) (by assumption) (by assumption) (by assumption) (by assumption) (by assumption) (by assumption) (by assumption)) rfl rfl rfl rfl rfl (by simp) rfl rfl rfl ?_
    | refine ar_eqAgg_if (eqFile (.inr rfl) (by assumption) (by assumption) (by assumption) (by assumption) (by assumption) (by assumption) (by assumption) (by assumption)) rfl rfl rfl rfl rfl (by simp) rfl rfl rfl ?_
    | refine ar_go2 _ rfl (by simp [get4, *]; exact ⟨rfl, rfl, rfl⟩) rfl ?_
    | refine aw_sreg ?_
    | refine aw_sregD mixed ?_
    | refine aw_ifT (b := true) rfl rfl ?_
    | refine aw_ifF (b := false) rfl rfl ?_
    | refine aw_ifT rfl (decide_eq_true (by assumption)) ?_
    | refine aw_ifF rfl (decide_eq_false (by assumption)) ?_
    | refine aw_seq ?_
    | refine aw_block ?_
    | refine aw_skip ?_
    | refine aw_region ?_
    | refine aw_region_draw mixed ?_
    | refine aw_exit ?_
    | refine blockQ_hit ?_
    | refine blockQ_miss (by decide) ?_)
set_option maxHeartbeats 4000000 in
theorem law_RegsSets_3_0 {v0 v1 v2 v3 d0 d1 d2 d3 v dep o : Int} (h0 : W64 v0) (h1 : W64 v1) (h2 : W64 v2) (h3 : W64 v3) (k0 : W32 d0) (k1 : W32 d1) (k2 : W32 d2) (k3 : W32 d3) (hv : W64 v) (hd : W32 dep)  (hk : IntKind.wrap .i64 (o.tmod 4) = 0) :
    SC Try.prog 4 [.agg (fileL v0 v1 v2 v3 d0 d1 d2 d3), I .i64 3, I .i64 v, I .u32 dep, I .u8 o] (B true) := by
  refine scx_of Try.func4 rfl rfl rfl (Nat.le_of_ble_eq_true rfl) ?_
  repeat (first
    | exact aw_ret (ret_vals (by simp; exact rfl) (by simp [*]))
    | refine ar_end rfl ?_
    | refine ar_endD rfl (by kernel_rfl) ?_
    | refine ar_callV Try.call34 c_shown7 rfl rfl rfl rfl rfl (by simp) (by rfl) (by simp) ?_
    | refine ar_callV_if Try.call34 c_shown7 rfl rfl rfl rfl rfl rfl (by simp) rfl (by rfl) (by simp) ?_
    | refine ar_callV Try.call36 c_made rfl rfl rfl rfl rfl (by simp) (by rfl) (by simp) ?_
    | refine ar_callV_if Try.call36 c_made rfl rfl rfl rfl rfl rfl (by simp) rfl (by rfl) (by simp) ?_
    | refine ar_callV Try.call37 c_Set rfl rfl rfl rfl rfl (by simp) (by rfl) (by simp) ?_
    | refine ar_callV_if Try.call37 c_Set rfl rfl rfl rfl rfl rfl (by simp) rfl (by rfl) (by simp) ?_
    | refine ar_callV Try.call38 c_Get rfl rfl rfl rfl rfl (by simp) (by rfl) (by simp) ?_
    | refine ar_callV_if Try.call38 c_Get rfl rfl rfl rfl rfl rfl (by simp) rfl (by rfl) (by simp) ?_
    | refine ar_callV Try.call39 c_real rfl rfl rfl rfl rfl (by simp) (by rfl) (by simp) ?_
    | refine ar_callV_if Try.call39 c_real rfl rfl rfl rfl rfl rfl (by simp) rfl (by rfl) (by simp) ?_
    | refine ar_eqAgg_if (eqFile (.inl rfl) (by assumption) (by assumption) (by assumption) (by assumption) (by assumption) (by assumption) (by assumption) (by assumption)) rfl rfl rfl rfl rfl (by simp) rfl rfl rfl ?_
    | refine ar_eqAgg_if (eqFile (.inr rfl) (by assumption) (by assumption) (by assumption) (by assumption) (by assumption) (by assumption) (by assumption) (by assumption)) rfl rfl rfl rfl rfl (by simp) rfl rfl rfl ?_
    | refine ar_go2 _ rfl (by simp [get4, *]; exact ⟨rfl, rfl, rfl⟩) rfl ?_
    | refine aw_sreg ?_
    | refine aw_sregD mixed ?_
    | refine aw_ifT (b := true) rfl rfl ?_
    | refine aw_ifF (b := false) rfl rfl ?_
    | refine aw_ifT rfl (decide_eq_true (by assumption)) ?_
    | refine aw_ifF rfl (decide_eq_false (by assumption)) ?_
    | refine aw_seq ?_
    | refine aw_block ?_
    | refine aw_skip ?_
    | refine aw_region ?_
    | refine aw_region_draw mixed ?_
    | refine aw_exit ?_
    | refine blockQ_hit ?_
    | refine blockQ_miss (by decide) ?_)
set_option maxHeartbeats 4000000 in
theorem law_RegsSets_3_1 {v0 v1 v2 v3 d0 d1 d2 d3 v dep o : Int} (h0 : W64 v0) (h1 : W64 v1) (h2 : W64 v2) (h3 : W64 v3) (k0 : W32 d0) (k1 : W32 d1) (k2 : W32 d2) (k3 : W32 d3) (hv : W64 v) (hd : W32 dep)  (hk : IntKind.wrap .i64 (o.tmod 4) = 1) :
    SC Try.prog 4 [.agg (fileL v0 v1 v2 v3 d0 d1 d2 d3), I .i64 3, I .i64 v, I .u32 dep, I .u8 o] (B true) := by
  refine scx_of Try.func4 rfl rfl rfl (Nat.le_of_ble_eq_true rfl) ?_
  repeat (first
    | exact aw_ret (ret_vals (by simp; exact rfl) (by simp [*]))
    | refine ar_end rfl ?_
    | refine ar_endD rfl (by kernel_rfl) ?_
    | refine ar_callV Try.call34 c_shown7 rfl rfl rfl rfl rfl (by simp) (by rfl) (by simp) ?_
    | refine ar_callV_if Try.call34 c_shown7 rfl rfl rfl rfl rfl rfl (by simp) rfl (by rfl) (by simp) ?_
    | refine ar_callV Try.call36 c_made rfl rfl rfl rfl rfl (by simp) (by rfl) (by simp) ?_
    | refine ar_callV_if Try.call36 c_made rfl rfl rfl rfl rfl rfl (by simp) rfl (by rfl) (by simp) ?_
    | refine ar_callV Try.call37 c_Set rfl rfl rfl rfl rfl (by simp) (by rfl) (by simp) ?_
    | refine ar_callV_if Try.call37 c_Set rfl rfl rfl rfl rfl rfl (by simp) rfl (by rfl) (by simp) ?_
    | refine ar_callV Try.call38 c_Get rfl rfl rfl rfl rfl (by simp) (by rfl) (by simp) ?_
    | refine ar_callV_if Try.call38 c_Get rfl rfl rfl rfl rfl rfl (by simp) rfl (by rfl) (by simp) ?_
    | refine ar_callV Try.call39 c_real rfl rfl rfl rfl rfl (by simp) (by rfl) (by simp) ?_
    | refine ar_callV_if Try.call39 c_real rfl rfl rfl rfl rfl rfl (by simp) rfl (by rfl) (by simp) ?_
    | refine ar_eqAgg_if (eqFile (.inl rfl) (by assumption) (by assumption) (by assumption) (by assumption) (by assumption) (by assumption) (by assumption) (by assumption)) rfl rfl rfl rfl rfl (by simp) rfl rfl rfl ?_
    | refine ar_eqAgg_if (eqFile (.inr rfl) (by assumption) (by assumption) (by assumption) (by assumption) (by assumption) (by assumption) (by assumption) (by assumption)) rfl rfl rfl rfl rfl (by simp) rfl rfl rfl ?_
    | refine ar_go2 _ rfl (by simp [get4, *]; exact ⟨rfl, rfl, rfl⟩) rfl ?_
    | refine aw_sreg ?_
    | refine aw_sregD mixed ?_
    | refine aw_ifT (b := true) rfl rfl ?_
    | refine aw_ifF (b := false) rfl rfl ?_
    | refine aw_ifT rfl (decide_eq_true (by assumption)) ?_
    | refine aw_ifF rfl (decide_eq_false (by assumption)) ?_
    | refine aw_seq ?_
    | refine aw_block ?_
    | refine aw_skip ?_
    | refine aw_region ?_
    | refine aw_region_draw mixed ?_
    | refine aw_exit ?_
    | refine blockQ_hit ?_
    | refine blockQ_miss (by decide) ?_)
set_option maxHeartbeats 4000000 in
theorem law_RegsSets_3_2 {v0 v1 v2 v3 d0 d1 d2 d3 v dep o : Int} (h0 : W64 v0) (h1 : W64 v1) (h2 : W64 v2) (h3 : W64 v3) (k0 : W32 d0) (k1 : W32 d1) (k2 : W32 d2) (k3 : W32 d3) (hv : W64 v) (hd : W32 dep)  (hk : IntKind.wrap .i64 (o.tmod 4) = 2) :
    SC Try.prog 4 [.agg (fileL v0 v1 v2 v3 d0 d1 d2 d3), I .i64 3, I .i64 v, I .u32 dep, I .u8 o] (B true) := by
  refine scx_of Try.func4 rfl rfl rfl (Nat.le_of_ble_eq_true rfl) ?_
  repeat (first
    | exact aw_ret (ret_vals (by simp; exact rfl) (by simp [*]))
    | refine ar_end rfl ?_
    | refine ar_endD rfl (by kernel_rfl) ?_
    | refine ar_callV Try.call34 c_shown7 rfl rfl rfl rfl rfl (by simp) (by rfl) (by simp) ?_
    | refine ar_callV_if Try.call34 c_shown7 rfl rfl rfl rfl rfl rfl (by simp) rfl (by rfl) (by simp) ?_
    | refine ar_callV Try.call36 c_made rfl rfl rfl rfl rfl (by simp) (by rfl) (by simp) ?_
    | refine ar_callV_if Try.call36 c_made rfl rfl rfl rfl rfl rfl (by simp) rfl (by rfl) (by simp) ?_
    | refine ar_callV Try.call37 c_Set rfl rfl rfl rfl rfl (by simp) (by rfl) (by simp) ?_
    | refine ar_callV_if Try.call37 c_Set rfl rfl rfl rfl rfl rfl (by simp) rfl (by rfl) (by simp) ?_
    | refine ar_callV Try.call38 c_Get rfl rfl rfl rfl rfl (by simp) (by rfl) (by simp) ?_
    | refine ar_callV_if Try.call38 c_Get rfl rfl rfl rfl rfl rfl (by simp) rfl (by rfl) (by simp) ?_
    | refine ar_callV Try.call39 c_real rfl rfl rfl rfl rfl (by simp) (by rfl) (by simp) ?_
    | refine ar_callV_if Try.call39 c_real rfl rfl rfl rfl rfl rfl (by simp) rfl (by rfl) (by simp) ?_
    | refine ar_eqAgg_if (eqFile (.inl rfl) (by assumption) (by assumption) (by assumption) (by assumption) (by assumption) (by assumption) (by assumption) (by assumption)) rfl rfl rfl rfl rfl (by simp) rfl rfl rfl ?_
    | refine ar_eqAgg_if (eqFile (.inr rfl) (by assumption) (by assumption) (by assumption) (by assumption) (by assumption) (by assumption) (by assumption) (by assumption)) rfl rfl rfl rfl rfl (by simp) rfl rfl rfl ?_
    | refine ar_go2 _ rfl (by simp [get4, *]; exact ⟨rfl, rfl, rfl⟩) rfl ?_
    | refine aw_sreg ?_
    | refine aw_sregD mixed ?_
    | refine aw_ifT (b := true) rfl rfl ?_
    | refine aw_ifF (b := false) rfl rfl ?_
    | refine aw_ifT rfl (decide_eq_true (by assumption)) ?_
    | refine aw_ifF rfl (decide_eq_false (by assumption)) ?_
    | refine aw_seq ?_
    | refine aw_block ?_
    | refine aw_skip ?_
    | refine aw_region ?_
    | refine aw_region_draw mixed ?_
    | refine aw_exit ?_
    | refine blockQ_hit ?_
    | refine blockQ_miss (by decide) ?_)
set_option maxHeartbeats 4000000 in
theorem law_RegsSets_3_3 {v0 v1 v2 v3 d0 d1 d2 d3 v dep o : Int} (h0 : W64 v0) (h1 : W64 v1) (h2 : W64 v2) (h3 : W64 v3) (k0 : W32 d0) (k1 : W32 d1) (k2 : W32 d2) (k3 : W32 d3) (hv : W64 v) (hd : W32 dep)  (hk : IntKind.wrap .i64 (o.tmod 4) = 3) :
    SC Try.prog 4 [.agg (fileL v0 v1 v2 v3 d0 d1 d2 d3), I .i64 3, I .i64 v, I .u32 dep, I .u8 o] (B true) := by
  refine scx_of Try.func4 rfl rfl rfl (Nat.le_of_ble_eq_true rfl) ?_
  repeat (first
    | exact aw_ret (ret_vals (by simp; exact rfl) (by simp [*]))
    | refine ar_end rfl ?_
    | refine ar_endD rfl (by kernel_rfl) ?_
    | refine ar_callV Try.call34 c_shown7 rfl rfl rfl rfl rfl (by simp) (by rfl) (by simp) ?_
    | refine ar_callV_if Try.call34 c_shown7 rfl rfl rfl rfl rfl rfl (by simp) rfl (by rfl) (by simp) ?_
    | refine ar_callV Try.call36 c_made rfl rfl rfl rfl rfl (by simp) (by rfl) (by simp) ?_
    | refine ar_callV_if Try.call36 c_made rfl rfl rfl rfl rfl rfl (by simp) rfl (by rfl) (by simp) ?_
    | refine ar_callV Try.call37 c_Set rfl rfl rfl rfl rfl (by simp) (by rfl) (by simp) ?_
    | refine ar_callV_if Try.call37 c_Set rfl rfl rfl rfl rfl rfl (by simp) rfl (by rfl) (by simp) ?_
    | refine ar_callV Try.call38 c_Get rfl rfl rfl rfl rfl (by simp) (by rfl) (by simp) ?_
    | refine ar_callV_if Try.call38 c_Get rfl rfl rfl rfl rfl rfl (by simp) rfl (by rfl) (by simp) ?_
    | refine ar_callV Try.call39 c_real rfl rfl rfl rfl rfl (by simp) (by rfl) (by simp) ?_
    | refine ar_callV_if Try.call39 c_real rfl rfl rfl rfl rfl rfl (by simp) rfl (by rfl) (by simp) ?_
    | refine ar_eqAgg_if (eqFile (.inl rfl) (by assumption) (by assumption) (by assumption) (by assumption) (by assumption) (by assumption) (by assumption) (by assumption)) rfl rfl rfl rfl rfl (by simp) rfl rfl rfl ?_
    | refine ar_eqAgg_if (eqFile (.inr rfl) (by assumption) (by assumption) (by assumption) (by assumption) (by assumption) (by assumption) (by assumption) (by assumption)) rfl rfl rfl rfl rfl (by simp) rfl rfl rfl ?_
    | refine ar_go2 _ rfl (by simp [get4, *]; exact ⟨rfl, rfl, rfl⟩) rfl ?_
    | refine aw_sreg ?_
    | refine aw_sregD mixed ?_
    | refine aw_ifT (b := true) rfl rfl ?_
    | refine aw_ifF (b := false) rfl rfl ?_
    | refine aw_ifT rfl (decide_eq_true (by assumption)) ?_
    | refine aw_ifF rfl (decide_eq_false (by assumption)) ?_
    | refine aw_seq ?_
    | refine aw_block ?_
    | refine aw_skip ?_
    | refine aw_region ?_
    | refine aw_region_draw mixed ?_
    | refine aw_exit ?_
    | refine blockQ_hit ?_
    | refine blockQ_miss (by decide) ?_)
set_option maxHeartbeats 4000000 in
theorem law_RegsSets_x_0 {v0 v1 v2 v3 d0 d1 d2 d3 n v dep o : Int} (h0 : W64 v0) (h1 : W64 v1) (h2 : W64 v2) (h3 : W64 v3) (k0 : W32 d0) (k1 : W32 d1) (k2 : W32 d2) (k3 : W32 d3) (hv : W64 v) (hd : W32 dep) (hn : ¬(0 ≤ n ∧ n < 4)) (n0 : ¬n = 0) (n1 : ¬n = 1) (n2 : ¬n = 2) (n3 : ¬n = 3) (q1 : ¬ 0 ≤ n) (hk : IntKind.wrap .i64 (o.tmod 4) = 0) :
    SC Try.prog 4 [.agg (fileL v0 v1 v2 v3 d0 d1 d2 d3), I .i64 n, I .i64 v, I .u32 dep, I .u8 o] (B true) := by
  refine scx_of Try.func4 rfl rfl rfl (Nat.le_of_ble_eq_true rfl) ?_
  have m0 : ¬ (0 : Int) = n := fun h => n0 h.symm
  repeat (first
    | exact aw_ret (ret_vals (by simp; exact rfl) (by simp [*]))
    | refine ar_end rfl ?_
    | refine ar_endD rfl (by kernel_rfl) ?_
    | refine ar_callV Try.call34 c_shown7 rfl rfl rfl rfl rfl (by simp) (by rfl) (by simp) ?_
    | refine ar_callV_if Try.call34 c_shown7 rfl rfl rfl rfl rfl rfl (by simp) rfl (by rfl) (by simp) ?_
    | refine ar_callV Try.call36 c_made rfl rfl rfl rfl rfl (by simp) (by rfl) (by simp) ?_
    | refine ar_callV_if Try.call36 c_made rfl rfl rfl rfl rfl rfl (by simp) rfl (by rfl) (by simp) ?_
    | refine ar_callV Try.call37 c_Set rfl rfl rfl rfl rfl (by simp) (by rfl) (by simp) ?_
    | refine ar_callV_if Try.call37 c_Set rfl rfl rfl rfl rfl rfl (by simp) rfl (by rfl) (by simp) ?_
    | refine ar_callV Try.call38 c_Get rfl rfl rfl rfl rfl (by simp) (by rfl) (by simp) ?_
    | refine ar_callV_if Try.call38 c_Get rfl rfl rfl rfl rfl rfl (by simp) rfl (by rfl) (by simp) ?_
    | refine ar_callV Try.call39 c_real rfl rfl rfl rfl rfl (by simp) (by rfl) (by simp) ?_
    | refine ar_callV_if Try.call39 c_real rfl rfl rfl rfl rfl rfl (by simp) rfl (by rfl) (by simp) ?_
    | refine ar_eqAgg_if (eqFile (.inl rfl) (by assumption) (by assumption) (by assumption) (by assumption) (by assumption) (by assumption) (by assumption) (by assumption)) rfl rfl rfl rfl rfl (by simp) rfl rfl rfl ?_
    | refine ar_eqAgg_if (eqFile (.inr rfl) (by assumption) (by assumption) (by assumption) (by assumption) (by assumption) (by assumption) (by assumption) (by assumption)) rfl rfl rfl rfl rfl (by simp) rfl rfl rfl ?_
    | refine ar_go2 _ rfl (by simp [get4, *]; exact ⟨rfl, rfl, rfl⟩) rfl ?_
    | refine aw_sreg ?_
    | refine aw_sregD mixed ?_
    | refine aw_ifT (b := true) rfl rfl ?_
    | refine aw_ifF (b := false) rfl rfl ?_
    | refine aw_ifT rfl (decide_eq_true (by assumption)) ?_
    | refine aw_ifF rfl (decide_eq_false (by assumption)) ?_
    | refine aw_seq ?_
    | refine aw_block ?_
    | refine aw_skip ?_
    | refine aw_region ?_
    | refine aw_region_draw mixed ?_
    | refine aw_exit ?_
    | refine blockQ_hit ?_
    | refine blockQ_miss (by decide) ?_)
set_option maxHeartbeats 4000000 in
theorem law_RegsSets_x_1 {v0 v1 v2 v3 d0 d1 d2 d3 n v dep o : Int} (h0 : W64 v0) (h1 : W64 v1) (h2 : W64 v2) (h3 : W64 v3) (k0 : W32 d0) (k1 : W32 d1) (k2 : W32 d2) (k3 : W32 d3) (hv : W64 v) (hd : W32 dep) (hn : ¬(0 ≤ n ∧ n < 4)) (n0 : ¬n = 0) (n1 : ¬n = 1) (n2 : ¬n = 2) (n3 : ¬n = 3) (q1 : ¬ 0 ≤ n) (hk : IntKind.wrap .i64 (o.tmod 4) = 1) :
    SC Try.prog 4 [.agg (fileL v0 v1 v2 v3 d0 d1 d2 d3), I .i64 n, I .i64 v, I .u32 dep, I .u8 o] (B true) := by
  refine scx_of Try.func4 rfl rfl rfl (Nat.le_of_ble_eq_true rfl) ?_
  have m1 : ¬ (1 : Int) = n := fun h => n1 h.symm
  repeat (first
    | exact aw_ret (ret_vals (by simp; exact rfl) (by simp [*]))
    | refine ar_end rfl ?_
    | refine ar_endD rfl (by kernel_rfl) ?_
    | refine ar_callV Try.call34 c_shown7 rfl rfl rfl rfl rfl (by simp) (by rfl) (by simp) ?_
    | refine ar_callV_if Try.call34 c_shown7 rfl rfl rfl rfl rfl rfl (by simp) rfl (by rfl) (by simp) ?_
    | refine ar_callV Try.call36 c_made rfl rfl rfl rfl rfl (by simp) (by rfl) (by simp) ?_
    | refine ar_callV_if Try.call36 c_made rfl rfl rfl rfl rfl rfl (by simp) rfl (by rfl) (by simp) ?_
    | refine ar_callV Try.call37 c_Set rfl rfl rfl rfl rfl (by simp) (by rfl) (by simp) ?_
    | refine ar_callV_if Try.call37 c_Set rfl rfl rfl rfl rfl rfl (by simp) rfl (by rfl) (by simp) ?_
    | refine ar_callV Try.call38 c_Get rfl rfl rfl rfl rfl (by simp) (by rfl) (by simp) ?_
    | refine ar_callV_if Try.call38 c_Get rfl rfl rfl rfl rfl rfl (by simp) rfl (by rfl) (by simp) ?_
    | refine ar_callV Try.call39 c_real rfl rfl rfl rfl rfl (by simp) (by rfl) (by simp) ?_
    | refine ar_callV_if Try.call39 c_real rfl rfl rfl rfl rfl rfl (by simp) rfl (by rfl) (by simp) ?_
    | refine ar_eqAgg_if (eqFile (.inl rfl) (by assumption) (by assumption) (by assumption) (by assumption) (by assumption) (by assumption) (by assumption) (by assumption)) rfl rfl rfl rfl rfl (by simp) rfl rfl rfl ?_
    | refine ar_eqAgg_if (eqFile (.inr rfl) (by assumption) (by assumption) (by assumption) (by assumption) (by assumption) (by assumption) (by assumption) (by assumption)) rfl rfl rfl rfl rfl (by simp) rfl rfl rfl ?_
    | refine ar_go2 _ rfl (by simp [get4, *]; exact ⟨rfl, rfl, rfl⟩) rfl ?_
    | refine aw_sreg ?_
    | refine aw_sregD mixed ?_
    | refine aw_ifT (b := true) rfl rfl ?_
    | refine aw_ifF (b := false) rfl rfl ?_
    | refine aw_ifT rfl (decide_eq_true (by assumption)) ?_
    | refine aw_ifF rfl (decide_eq_false (by assumption)) ?_
    | refine aw_seq ?_
    | refine aw_block ?_
    | refine aw_skip ?_
    | refine aw_region ?_
    | refine aw_region_draw mixed ?_
    | refine aw_exit ?_
    | refine blockQ_hit ?_
    | refine blockQ_miss (by decide) ?_)
set_option maxHeartbeats 4000000 in
theorem law_RegsSets_x_2 {v0 v1 v2 v3 d0 d1 d2 d3 n v dep o : Int} (h0 : W64 v0) (h1 : W64 v1) (h2 : W64 v2) (h3 : W64 v3) (k0 : W32 d0) (k1 : W32 d1) (k2 : W32 d2) (k3 : W32 d3) (hv : W64 v) (hd : W32 dep) (hn : ¬(0 ≤ n ∧ n < 4)) (n0 : ¬n = 0) (n1 : ¬n = 1) (n2 : ¬n = 2) (n3 : ¬n = 3) (q1 : ¬ 0 ≤ n) (hk : IntKind.wrap .i64 (o.tmod 4) = 2) :
    SC Try.prog 4 [.agg (fileL v0 v1 v2 v3 d0 d1 d2 d3), I .i64 n, I .i64 v, I .u32 dep, I .u8 o] (B true) := by
  refine scx_of Try.func4 rfl rfl rfl (Nat.le_of_ble_eq_true rfl) ?_
  have m2 : ¬ (2 : Int) = n := fun h => n2 h.symm
  repeat (first
    | exact aw_ret (ret_vals (by simp; exact rfl) (by simp [*]))
    | refine ar_end rfl ?_
    | refine ar_endD rfl (by kernel_rfl) ?_
    | refine ar_callV Try.call34 c_shown7 rfl rfl rfl rfl rfl (by simp) (by rfl) (by simp) ?_
    | refine ar_callV_if Try.call34 c_shown7 rfl rfl rfl rfl rfl rfl (by simp) rfl (by rfl) (by simp) ?_
    | refine ar_callV Try.call36 c_made rfl rfl rfl rfl rfl (by simp) (by rfl) (by simp) ?_
    | refine ar_callV_if Try.call36 c_made rfl rfl rfl rfl rfl rfl (by simp) rfl (by rfl) (by simp) ?_
    | refine ar_callV Try.call37 c_Set rfl rfl rfl rfl rfl (by simp) (by rfl) (by simp) ?_
    | refine ar_callV_if Try.call37 c_Set rfl rfl rfl rfl rfl rfl (by simp) rfl (by rfl) (by simp) ?_
    | refine ar_callV Try.call38 c_Get rfl rfl rfl rfl rfl (by simp) (by rfl) (by simp) ?_
    | refine ar_callV_if Try.call38 c_Get rfl rfl rfl rfl rfl rfl (by simp) rfl (by rfl) (by simp) ?_
    | refine ar_callV Try.call39 c_real rfl rfl rfl rfl rfl (by simp) (by rfl) (by simp) ?_
    | refine ar_callV_if Try.call39 c_real rfl rfl rfl rfl rfl rfl (by simp) rfl (by rfl) (by simp) ?_
    | refine ar_eqAgg_if (eqFile (.inl rfl) (by assumption) (by assumption) (by assumption) (by assumption) (by assumption) (by assumption) (by assumption) (by assumption)) rfl rfl rfl rfl rfl (by simp) rfl rfl rfl ?_
    | refine ar_eqAgg_if (eqFile (.inr rfl) (by assumption) (by assumption) (by assumption) (by assumption) (by assumption) (by assumption) (by assumption) (by assumption)) rfl rfl rfl rfl rfl (by simp) rfl rfl rfl ?_
    | refine ar_go2 _ rfl (by simp [get4, *]; exact ⟨rfl, rfl, rfl⟩) rfl ?_
    | refine aw_sreg ?_
    | refine aw_sregD mixed ?_
    | refine aw_ifT (b := true) rfl rfl ?_
    | refine aw_ifF (b := false) rfl rfl ?_
    | refine aw_ifT rfl (decide_eq_true (by assumption)) ?_
    | refine aw_ifF rfl (decide_eq_false (by assumption)) ?_
    | refine aw_seq ?_
    | refine aw_block ?_
    | refine aw_skip ?_
    | refine aw_region ?_
    | refine aw_region_draw mixed ?_
    | refine aw_exit ?_
    | refine blockQ_hit ?_
    | refine blockQ_miss (by decide) ?_)
set_option maxHeartbeats 4000000 in
theorem law_RegsSets_x_3 {v0 v1 v2 v3 d0 d1 d2 d3 n v dep o : Int} (h0 : W64 v0) (h1 : W64 v1) (h2 : W64 v2) (h3 : W64 v3) (k0 : W32 d0) (k1 : W32 d1) (k2 : W32 d2) (k3 : W32 d3) (hv : W64 v) (hd : W32 dep) (hn : ¬(0 ≤ n ∧ n < 4)) (n0 : ¬n = 0) (n1 : ¬n = 1) (n2 : ¬n = 2) (n3 : ¬n = 3) (q1 : ¬ 0 ≤ n) (hk : IntKind.wrap .i64 (o.tmod 4) = 3) :
    SC Try.prog 4 [.agg (fileL v0 v1 v2 v3 d0 d1 d2 d3), I .i64 n, I .i64 v, I .u32 dep, I .u8 o] (B true) := by
  refine scx_of Try.func4 rfl rfl rfl (Nat.le_of_ble_eq_true rfl) ?_
  have m3 : ¬ (3 : Int) = n := fun h => n3 h.symm
  repeat (first
    | exact aw_ret (ret_vals (by simp; exact rfl) (by simp [*]))
    | refine ar_end rfl ?_
    | refine ar_endD rfl (by kernel_rfl) ?_
    | refine ar_callV Try.call34 c_shown7 rfl rfl rfl rfl rfl (by simp) (by rfl) (by simp) ?_
    | refine ar_callV_if Try.call34 c_shown7 rfl rfl rfl rfl rfl rfl (by simp) rfl (by rfl) (by simp) ?_
    | refine ar_callV Try.call36 c_made rfl rfl rfl rfl rfl (by simp) (by rfl) (by simp) ?_
    | refine ar_callV_if Try.call36 c_made rfl rfl rfl rfl rfl rfl (by simp) rfl (by rfl) (by simp) ?_
    | refine ar_callV Try.call37 c_Set rfl rfl rfl rfl rfl (by simp) (by rfl) (by simp) ?_
    | refine ar_callV_if Try.call37 c_Set rfl rfl rfl rfl rfl rfl (by simp) rfl (by rfl) (by simp) ?_
    | refine ar_callV Try.call38 c_Get rfl rfl rfl rfl rfl (by simp) (by rfl) (by simp) ?_
    | refine ar_callV_if Try.call38 c_Get rfl rfl rfl rfl rfl rfl (by simp) rfl (by rfl) (by simp) ?_
    | refine ar_callV Try.call39 c_real rfl rfl rfl rfl rfl (by simp) (by rfl) (by simp) ?_
    | refine ar_callV_if Try.call39 c_real rfl rfl rfl rfl rfl rfl (by simp) rfl (by rfl) (by simp) ?_
    | refine ar_eqAgg_if (eqFile (.inl rfl) (by assumption) (by assumption) (by assumption) (by assumption) (by assumption) (by assumption) (by assumption) (by assumption)) rfl rfl rfl rfl rfl (by simp) rfl rfl rfl ?_
    | refine ar_eqAgg_if (eqFile (.inr rfl) (by assumption) (by assumption) (by assumption) (by assumption) (by assumption) (by assumption) (by assumption) (by assumption)) rfl rfl rfl rfl rfl (by simp) rfl rfl rfl ?_
    | refine ar_go2 _ rfl (by simp [get4, *]; exact ⟨rfl, rfl, rfl⟩) rfl ?_
    | refine aw_sreg ?_
    | refine aw_sregD mixed ?_
    | refine aw_ifT (b := true) rfl rfl ?_
    | refine aw_ifF (b := false) rfl rfl ?_
    | refine aw_ifT rfl (decide_eq_true (by assumption)) ?_
    | refine aw_ifF rfl (decide_eq_false (by assumption)) ?_
    | refine aw_seq ?_
    | refine aw_block ?_
    | refine aw_skip ?_
    | refine aw_region ?_
    | refine aw_region_draw mixed ?_
    | refine aw_exit ?_
    | refine blockQ_hit ?_
    | refine blockQ_miss (by decide) ?_)
set_option maxHeartbeats 4000000 in
theorem law_RegsSets_y_0 {v0 v1 v2 v3 d0 d1 d2 d3 n v dep o : Int} (h0 : W64 v0) (h1 : W64 v1) (h2 : W64 v2) (h3 : W64 v3) (k0 : W32 d0) (k1 : W32 d1) (k2 : W32 d2) (k3 : W32 d3) (hv : W64 v) (hd : W32 dep) (hn : ¬(0 ≤ n ∧ n < 4)) (n0 : ¬n = 0) (n1 : ¬n = 1) (n2 : ¬n = 2) (n3 : ¬n = 3) (q1 : 0 ≤ n) (q2 : ¬ n ≤ 3) (hk : IntKind.wrap .i64 (o.tmod 4) = 0) :
    SC Try.prog 4 [.agg (fileL v0 v1 v2 v3 d0 d1 d2 d3), I .i64 n, I .i64 v, I .u32 dep, I .u8 o] (B true) := by
  refine scx_of Try.func4 rfl rfl rfl (Nat.le_of_ble_eq_true rfl) ?_
  have m0 : ¬ (0 : Int) = n := fun h => n0 h.symm
  repeat (first
    | exact aw_ret (ret_vals (by simp; exact rfl) (by simp [*]))
    | refine ar_end rfl ?_
    | refine ar_endD rfl (by kernel_rfl) ?_
    | refine ar_callV Try.call34 c_shown7 rfl rfl rfl rfl rfl (by simp) (by rfl) (by simp) ?_
    | refine ar_callV_if Try.call34 c_shown7 rfl rfl rfl rfl rfl rfl (by simp) rfl (by rfl) (by simp) ?_
    | refine ar_callV Try.call36 c_made rfl rfl rfl rfl rfl (by simp) (by rfl) (by simp) ?_
    | refine ar_callV_if Try.call36 c_made rfl rfl rfl rfl rfl rfl (by simp) rfl (by rfl) (by simp) ?_
    | refine ar_callV Try.call37 c_Set rfl rfl rfl rfl rfl (by simp) (by rfl) (by simp) ?_
    | refine ar_callV_if Try.call37 c_Set rfl rfl rfl rfl rfl rfl (by simp) rfl (by rfl) (by simp) ?_
    | refine ar_callV Try.call38 c_Get rfl rfl rfl rfl rfl (by simp) (by rfl) (by simp) ?_
    | refine ar_callV_if Try.call38 c_Get rfl rfl rfl rfl rfl rfl (by simp) rfl (by rfl) (by simp) ?_
    | refine ar_callV Try.call39 c_real rfl rfl rfl rfl rfl (by simp) (by rfl) (by simp) ?_
    | refine ar_callV_if Try.call39 c_real rfl rfl rfl rfl rfl rfl (by simp) rfl (by rfl) (by simp) ?_
    | refine ar_eqAgg_if (eqFile (.inl rfl) (by assumption) (by assumption) (by assumption) (by assumption) (by assumption) (by assumption) (by assumption) (by assumption)) rfl rfl rfl rfl rfl (by simp) rfl rfl rfl ?_
    | refine ar_eqAgg_if (eqFile (.inr rfl) (by assumption) (by assumption) (by assumption) (by assumption) (by assumption) (by assumption) (by assumption) (by assumption)) rfl rfl rfl rfl rfl (by simp) rfl rfl rfl ?_
    | refine ar_go2 _ rfl (by simp [get4, *]; exact ⟨rfl, rfl, rfl⟩) rfl ?_
    | refine aw_sreg ?_
    | refine aw_sregD mixed ?_
    | refine aw_ifT (b := true) rfl rfl ?_
    | refine aw_ifF (b := false) rfl rfl ?_
    | refine aw_ifT rfl (decide_eq_true (by assumption)) ?_
    | refine aw_ifF rfl (decide_eq_false (by assumption)) ?_
    | refine aw_seq ?_
    | refine aw_block ?_
    | refine aw_skip ?_
    | refine aw_region ?_
    | refine aw_region_draw mixed ?_
    | refine aw_exit ?_
    | refine blockQ_hit ?_
    | refine blockQ_miss (by decide) ?_)
set_option maxHeartbeats 4000000 in
theorem law_RegsSets_y_1 {v0 v1 v2 v3 d0 d1 d2 d3 n v dep o : Int} (h0 : W64 v0) (h1 : W64 v1) (h2 : W64 v2) (h3 : W64 v3) (k0 : W32 d0) (k1 : W32 d1) (k2 : W32 d2) (k3 : W32 d3) (hv : W64 v) (hd : W32 dep) (hn : ¬(0 ≤ n ∧ n < 4)) (n0 : ¬n = 0) (n1 : ¬n = 1) (n2 : ¬n = 2) (n3 : ¬n = 3) (q1 : 0 ≤ n) (q2 : ¬ n ≤ 3) (hk : IntKind.wrap .i64 (o.tmod 4) = 1) :
    SC Try.prog 4 [.agg (fileL v0 v1 v2 v3 d0 d1 d2 d3), I .i64 n, I .i64 v, I .u32 dep, I .u8 o] (B true) := by
  refine scx_of Try.func4 rfl rfl rfl (Nat.le_of_ble_eq_true rfl) ?_
  have m1 : ¬ (1 : Int) = n := fun h => n1 h.symm
  repeat (first
    | exact aw_ret (ret_vals (by simp; exact rfl) (by simp [*]))
    | refine ar_end rfl ?_
    | refine ar_endD rfl (by kernel_rfl) ?_
    | refine ar_callV Try.call34 c_shown7 rfl rfl rfl rfl rfl (by simp) (by rfl) (by simp) ?_
    | refine ar_callV_if Try.call34 c_shown7 rfl rfl rfl rfl rfl rfl (by simp) rfl (by rfl) (by simp) ?_
    | refine ar_callV Try.call36 c_made rfl rfl rfl rfl rfl (by simp) (by rfl) (by simp) ?_
    | refine ar_callV_if Try.call36 c_made rfl rfl rfl rfl rfl rfl (by simp) rfl (by rfl) (by simp) ?_
    | refine ar_callV Try.call37 c_Set rfl rfl rfl rfl rfl (by simp) (by rfl) (by simp) ?_
    | refine ar_callV_if Try.call37 c_Set rfl rfl rfl rfl rfl rfl (by simp) rfl (by rfl) (by simp) ?_
    | refine ar_callV Try.call38 c_Get rfl rfl rfl rfl rfl (by simp) (by rfl) (by simp) ?_
    | refine ar_callV_if Try.call38 c_Get rfl rfl rfl rfl rfl rfl (by simp) rfl (by rfl) (by simp) ?_
    | refine ar_callV Try.call39 c_real rfl rfl rfl rfl rfl (by simp) (by rfl) (by simp) ?_
    | refine ar_callV_if Try.call39 c_real rfl rfl rfl rfl rfl rfl (by simp) rfl (by rfl) (by simp) ?_
    | refine ar_eqAgg_if (eqFile (.inl rfl) (by assumption) (by assumption) (by assumption) (by assumption) (by assumption) (by assumption) (by assumption) (by assumption)) rfl rfl rfl rfl rfl (by simp) rfl rfl rfl ?_
    | refine ar_eqAgg_if (eqFile (.inr rfl) (by assumption) (by assumption) (by assumption) (by assumption) (by assumption) (by assumption) (by assumption) (by assumption)) rfl rfl rfl rfl rfl (by simp) rfl rfl rfl ?_
    | refine ar_go2 _ rfl (by simp [get4, *]; exact ⟨rfl, rfl, rfl⟩) rfl ?_
    | refine aw_sreg ?_
    | refine aw_sregD mixed ?_
    | refine aw_ifT (b := true) rfl rfl ?_
    | refine aw_ifF (b := false) rfl rfl ?_
    | refine aw_ifT rfl (decide_eq_true (by assumption)) ?_
    | refine aw_ifF rfl (decide_eq_false (by assumption)) ?_
    | refine aw_seq ?_
    | refine aw_block ?_
    | refine aw_skip ?_
    | refine aw_region ?_
    | refine aw_region_draw mixed ?_
    | refine aw_exit ?_
    | refine blockQ_hit ?_
    | refine blockQ_miss (by decide) ?_)
set_option maxHeartbeats 4000000 in
theorem law_RegsSets_y_2 {v0 v1 v2 v3 d0 d1 d2 d3 n v dep o : Int} (h0 : W64 v0) (h1 : W64 v1) (h2 : W64 v2) (h3 : W64 v3) (k0 : W32 d0) (k1 : W32 d1) (k2 : W32 d2) (k3 : W32 d3) (hv : W64 v) (hd : W32 dep) (hn : ¬(0 ≤ n ∧ n < 4)) (n0 : ¬n = 0) (n1 : ¬n = 1) (n2 : ¬n = 2) (n3 : ¬n = 3) (q1 : 0 ≤ n) (q2 : ¬ n ≤ 3) (hk : IntKind.wrap .i64 (o.tmod 4) = 2) :
    SC Try.prog 4 [.agg (fileL v0 v1 v2 v3 d0 d1 d2 d3), I .i64 n, I .i64 v, I .u32 dep, I .u8 o] (B true) := by
  refine scx_of Try.func4 rfl rfl rfl (Nat.le_of_ble_eq_true rfl) ?_
  have m2 : ¬ (2 : Int) = n := fun h => n2 h.symm
  repeat (first
    | exact aw_ret (ret_vals (by simp; exact rfl) (by simp [*]))
    | refine ar_end rfl ?_
    | refine ar_endD rfl (by kernel_rfl) ?_
    | refine ar_callV Try.call34 c_shown7 rfl rfl rfl rfl rfl (by simp) (by rfl) (by simp) ?_
    | refine ar_callV_if Try.call34 c_shown7 rfl rfl rfl rfl rfl rfl (by simp) rfl (by rfl) (by simp) ?_
    | refine ar_callV Try.call36 c_made rfl rfl rfl rfl rfl (by simp) (by rfl) (by simp) ?_
    | refine ar_callV_if Try.call36 c_made rfl rfl rfl rfl rfl rfl (by simp) rfl (by rfl) (by simp) ?_
    | refine ar_callV Try.call37 c_Set rfl rfl rfl rfl rfl (by simp) (by rfl) (by simp) ?_
    | refine ar_callV_if Try.call37 c_Set rfl rfl rfl rfl rfl rfl (by simp) rfl (by rfl) (by simp) ?_
    | refine ar_callV Try.call38 c_Get rfl rfl rfl rfl rfl (by simp) (by rfl) (by simp) ?_
    | refine ar_callV_if Try.call38 c_Get rfl rfl rfl rfl rfl rfl (by simp) rfl (by rfl) (by simp) ?_
    | refine ar_callV Try.call39 c_real rfl rfl rfl rfl rfl (by simp) (by rfl) (by simp) ?_
    | refine ar_callV_if Try.call39 c_real rfl rfl rfl rfl rfl rfl (by simp) rfl (by rfl) (by simp) ?_
    | refine ar_eqAgg_if (eqFile (.inl rfl) (by assumption) (by assumption) (by assumption) (by assumption) (by assumption) (by assumption) (by assumption) (by assumption)) rfl rfl rfl rfl rfl (by simp) rfl rfl rfl ?_
    | refine ar_eqAgg_if (eqFile (.inr rfl) (by assumption) (by assumption) (by assumption) (by assumption) (by assumption) (by assumption) (by assumption) (by assumption)) rfl rfl rfl rfl rfl (by simp) rfl rfl rfl ?_
    | refine ar_go2 _ rfl (by simp [get4, *]; exact ⟨rfl, rfl, rfl⟩) rfl ?_
    | refine aw_sreg ?_
    | refine aw_sregD mixed ?_
    | refine aw_ifT (b := true) rfl rfl ?_
    | refine aw_ifF (b := false) rfl rfl ?_
    | refine aw_ifT rfl (decide_eq_true (by assumption)) ?_
    | refine aw_ifF rfl (decide_eq_false (by assumption)) ?_
    | refine aw_seq ?_
    | refine aw_block ?_
    | refine aw_skip ?_
    | refine aw_region ?_
    | refine aw_region_draw mixed ?_
    | refine aw_exit ?_
    | refine blockQ_hit ?_
    | refine blockQ_miss (by decide) ?_)
set_option maxHeartbeats 4000000 in
theorem law_RegsSets_y_3 {v0 v1 v2 v3 d0 d1 d2 d3 n v dep o : Int} (h0 : W64 v0) (h1 : W64 v1) (h2 : W64 v2) (h3 : W64 v3) (k0 : W32 d0) (k1 : W32 d1) (k2 : W32 d2) (k3 : W32 d3) (hv : W64 v) (hd : W32 dep) (hn : ¬(0 ≤ n ∧ n < 4)) (n0 : ¬n = 0) (n1 : ¬n = 1) (n2 : ¬n = 2) (n3 : ¬n = 3) (q1 : 0 ≤ n) (q2 : ¬ n ≤ 3) (hk : IntKind.wrap .i64 (o.tmod 4) = 3) :
    SC Try.prog 4 [.agg (fileL v0 v1 v2 v3 d0 d1 d2 d3), I .i64 n, I .i64 v, I .u32 dep, I .u8 o] (B true) := by
  refine scx_of Try.func4 rfl rfl rfl (Nat.le_of_ble_eq_true rfl) ?_
  have m3 : ¬ (3 : Int) = n := fun h => n3 h.symm
  repeat (first
    | exact aw_ret (ret_vals (by simp; exact rfl) (by simp [*]))
    | refine ar_end rfl ?_
    | refine ar_endD rfl (by kernel_rfl) ?_
    | refine ar_callV Try.call34 c_shown7 rfl rfl rfl rfl rfl (by simp) (by rfl) (by simp) ?_
    | refine ar_callV_if Try.call34 c_shown7 rfl rfl rfl rfl rfl rfl (by simp) rfl (by rfl) (by simp) ?_
    | refine ar_callV Try.call36 c_made rfl rfl rfl rfl rfl (by simp) (by rfl) (by simp) ?_
    | refine ar_callV_if Try.call36 c_made rfl rfl rfl rfl rfl rfl (by simp) rfl (by rfl) (by simp) ?_
    | refine ar_callV Try.call37 c_Set rfl rfl rfl rfl rfl (by simp) (by rfl) (by simp) ?_
    | refine ar_callV_if Try.call37 c_Set rfl rfl rfl rfl rfl rfl (by simp) rfl (by rfl) (by simp) ?_
    | refine ar_callV Try.call38 c_Get rfl rfl rfl rfl rfl (by simp) (by rfl) (by simp) ?_
    | refine ar_callV_if Try.call38 c_Get rfl rfl rfl rfl rfl rfl (by simp) rfl (by rfl) (by simp) ?_
    | refine ar_callV Try.call39 c_real rfl rfl rfl rfl rfl (by simp) (by rfl) (by simp) ?_
    | refine ar_callV_if Try.call39 c_real rfl rfl rfl rfl rfl rfl (by simp) rfl (by rfl) (by simp) ?_
    | refine ar_eqAgg_if (eqFile (.inl rfl) (by assumption) (by assumption) (by assumption) (by assumption) (by assumption) (by assumption) (by assumption) (by assumption)) rfl rfl rfl rfl rfl (by simp) rfl rfl rfl ?_
    | refine ar_eqAgg_if (eqFile (.inr rfl) (by assumption) (by assumption) (by assumption) (by assumption) (by assumption) (by assumption) (by assumption) (by assumption)) rfl rfl rfl rfl rfl (by simp) rfl rfl rfl ?_
    | refine ar_go2 _ rfl (by simp [get4, *]; exact ⟨rfl, rfl, rfl⟩) rfl ?_
    | refine aw_sreg ?_
    | refine aw_sregD mixed ?_
    | refine aw_ifT (b := true) rfl rfl ?_
    | refine aw_ifF (b := false) rfl rfl ?_
    | refine aw_ifT rfl (decide_eq_true (by assumption)) ?_
    | refine aw_ifF rfl (decide_eq_false (by assumption)) ?_
    | refine aw_seq ?_
    | refine aw_block ?_
    | refine aw_skip ?_
    | refine aw_region ?_
    | refine aw_region_draw mixed ?_
    | refine aw_exit ?_
    | refine blockQ_hit ?_
    | refine blockQ_miss (by decide) ?_)
theorem law_RegsSets {v0 v1 v2 v3 d0 d1 d2 d3 n v dep o : Int} (h0 : W64 v0) (h1 : W64 v1) (h2 : W64 v2) (h3 : W64 v3) (k0 : W32 d0) (k1 : W32 d1) (k2 : W32 d2) (k3 : W32 d3) (hv : W64 v) (hd : W32 dep) (ho : (Lit.int .u8 o).wf = true) :
    SC Try.prog 4 [.agg (fileL v0 v1 v2 v3 d0 d1 d2 d3), I .i64 n, I .i64 v, I .u32 dep, I .u8 o] (B true) := by
  have ho' := wf8 ho
  have hk : IntKind.wrap .i64 (o.tmod 4) = 0 ∨ IntKind.wrap .i64 (o.tmod 4) = 1 ∨ IntKind.wrap .i64 (o.tmod 4) = 2 ∨ IntKind.wrap .i64 (o.tmod 4) = 3 := by
    rw [IntKind.wrap_i64, Int.tmod_eq_emod_of_nonneg (by omega)]; omega
  rcases five n with rfl | rfl | rfl | rfl | ⟨hn, n0, n1, n2, n3⟩
  · rcases hk with hk | hk | hk | hk
    · exact law_RegsSets_0_0 h0 h1 h2 h3 k0 k1 k2 k3 hv hd hk
    · exact law_RegsSets_0_1 h0 h1 h2 h3 k0 k1 k2 k3 hv hd hk
    · exact law_RegsSets_0_2 h0 h1 h2 h3 k0 k1 k2 k3 hv hd hk
    · exact law_RegsSets_0_3 h0 h1 h2 h3 k0 k1 k2 k3 hv hd hk
  · rcases hk with hk | hk | hk | hk
    · exact law_RegsSets_1_0 h0 h1 h2 h3 k0 k1 k2 k3 hv hd hk
    · exact law_RegsSets_1_1 h0 h1 h2 h3 k0 k1 k2 k3 hv hd hk
    · exact law_RegsSets_1_2 h0 h1 h2 h3 k0 k1 k2 k3 hv hd hk
    · exact law_RegsSets_1_3 h0 h1 h2 h3 k0 k1 k2 k3 hv hd hk
  · rcases hk with hk | hk | hk | hk
    · exact law_RegsSets_2_0 h0 h1 h2 h3 k0 k1 k2 k3 hv hd hk
    · exact law_RegsSets_2_1 h0 h1 h2 h3 k0 k1 k2 k3 hv hd hk
    · exact law_RegsSets_2_2 h0 h1 h2 h3 k0 k1 k2 k3 hv hd hk
    · exact law_RegsSets_2_3 h0 h1 h2 h3 k0 k1 k2 k3 hv hd hk
  · rcases hk with hk | hk | hk | hk
    · exact law_RegsSets_3_0 h0 h1 h2 h3 k0 k1 k2 k3 hv hd hk
    · exact law_RegsSets_3_1 h0 h1 h2 h3 k0 k1 k2 k3 hv hd hk
    · exact law_RegsSets_3_2 h0 h1 h2 h3 k0 k1 k2 k3 hv hd hk
    · exact law_RegsSets_3_3 h0 h1 h2 h3 k0 k1 k2 k3 hv hd hk
  · by_cases q1 : 0 ≤ n
    · have q2 : ¬ n ≤ 3 := by omega
      rcases hk with hk | hk | hk | hk
      · exact law_RegsSets_y_0 h0 h1 h2 h3 k0 k1 k2 k3 hv hd hn n0 n1 n2 n3 q1 q2 hk
      · exact law_RegsSets_y_1 h0 h1 h2 h3 k0 k1 k2 k3 hv hd hn n0 n1 n2 n3 q1 q2 hk
      · exact law_RegsSets_y_2 h0 h1 h2 h3 k0 k1 k2 k3 hv hd hn n0 n1 n2 n3 q1 q2 hk
      · exact law_RegsSets_y_3 h0 h1 h2 h3 k0 k1 k2 k3 hv hd hn n0 n1 n2 n3 q1 q2 hk
    · rcases hk with hk | hk | hk | hk
      · exact law_RegsSets_x_0 h0 h1 h2 h3 k0 k1 k2 k3 hv hd hn n0 n1 n2 n3 q1 hk
      · exact law_RegsSets_x_1 h0 h1 h2 h3 k0 k1 k2 k3 hv hd hn n0 n1 n2 n3 q1 hk
      · exact law_RegsSets_x_2 h0 h1 h2 h3 k0 k1 k2 k3 hv hd hn n0 n1 n2 n3 q1 hk
      · exact law_RegsSets_x_3 h0 h1 h2 h3 k0 k1 k2 k3 hv hd hn n0 n1 n2 n3 q1 hk
end Go.Eng
