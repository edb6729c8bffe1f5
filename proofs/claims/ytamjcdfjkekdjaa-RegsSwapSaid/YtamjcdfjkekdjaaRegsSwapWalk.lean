import Derived.Test.YtamjcdfjkekdjaaRegsDo
import Derived.Test.YtamjcdfjkekdjaaBitsKit
import Derived.Test.YtamjcdfjkekdjaaRegsEq
set_option linter.unusedSimpArgs false
set_option linter.unusedVariables false
set_option linter.constructorNameAsVariable false
set_option autoImplicit false
namespace Go.Eng
open Go Go.RowKit Go.Proofs
def opF (op a b : Int) : Int := if op = 2 then IntKind.wrap .i64 (a + b) else if op = 3 then bits .xor .i64 a b else bits .and .i64 a b
theorem c_Do_op {v0 v1 v2 v3 d0 d1 d2 d3 op d a b l m R M : Int} (ho : op = 2 ∨ op = 3 ∨ op = 4) (hr : opF op (get4 v0 v1 v2 v3 0 a) (get4 v0 v1 v2 v3 0 b) = R) (hm : bits .or .u32 (get4 d0 d1 d2 d3 0 a) (get4 d0 d1 d2 d3 0 b) = M) :
    SC Try.prog 40 [.agg (fileL v0 v1 v2 v3 d0 d1 d2 d3), .agg [C .i64 op, C .i64 d, C .i64 a, C .i64 b, C .i64 l, C .i64 m]] (.agg (setF v0 v1 v2 v3 d0 d1 d2 d3 d R M)) := by
  subst hr; subst hm
  rcases ho with rfl | rfl | rfl
  · exact c_Do_add
  · exact c_Do_eor
  · exact c_Do_and
theorem c_GetS {v0 v1 v2 v3 d0 d1 d2 d3 D R M : Int} (h : 0 ≤ D ∧ D < 4) : SC Try.prog 38 [.agg (setF v0 v1 v2 v3 d0 d1 d2 d3 D R M), I .i64 D] (.tup [I .i64 R, I .u32 M]) := by
  have := c_Get (v0 := if D = 0 then R else v0) (v1 := if D = 1 then R else v1) (v2 := if D = 2 then R else v2) (v3 := if D = 3 then R else v3) (d0 := if D = 0 then M else d0) (d1 := if D = 1 then M else d1) (d2 := if D = 2 then M else d2) (d3 := if D = 3 then M else d3) (n := D)
  rcases four h with rfl | rfl | rfl | rfl <;> simpa [get4, setF] using this
theorem idx8 {v0 v1 v2 v3 d0 d1 d2 d3 A : Int} (h : 0 ≤ A ∧ A < 4) : ([I .i64 v0, I .i64 v1, I .i64 v2, I .i64 v3, I .u32 d0, I .u32 d1, I .u32 d2, I .u32 d3] : List AV)[A.toNat]? = some (I .i64 (get4 v0 v1 v2 v3 0 A)) ∧ ([I .i64 v0, I .i64 v1, I .i64 v2, I .i64 v3, I .u32 d0, I .u32 d1, I .u32 d2, I .u32 d3] : List AV)[4 + A.toNat]? = some (I .u32 (get4 d0 d1 d2 d3 0 A)) := by
  rcases four h with rfl | rfl | rfl | rfl <;> exact ⟨rfl, rfl⟩
set_option maxHeartbeats 4000000 in
theorem law_RegsSwap_2 {v0 v1 v2 v3 d0 d1 d2 d3 d a b op D A Bb R M pa pb : Int} (hO : IntKind.wrap .i64 (2 + IntKind.wrap .i64 (op.tmod 3)) = 2) (eD : IntKind.wrap .i64 (d.tmod 4) = D) (eA : IntKind.wrap .i64 (a.tmod 4) = A) (eB : IntKind.wrap .i64 (b.tmod 4) = Bb)
    (hD : 0 ≤ D ∧ D < 4) (hA : 0 ≤ A) (hA2 : A.toNat < 4) (hB : 0 ≤ Bb) (hB2 : Bb.toNat < 4)
    (iA : ([I .i64 v0, I .i64 v1, I .i64 v2, I .i64 v3, I .u32 d0, I .u32 d1, I .u32 d2, I .u32 d3] : List AV)[A.toNat]? = some (I .i64 pa)) (iB : ([I .i64 v0, I .i64 v1, I .i64 v2, I .i64 v3, I .u32 d0, I .u32 d1, I .u32 d2, I .u32 d3] : List AV)[Bb.toNat]? = some (I .i64 pb))
    (ho : (2 : Int) = 2 ∨ (2 : Int) = 3 ∨ (2 : Int) = 4) (hr : opF 2 (get4 v0 v1 v2 v3 0 A) (get4 v0 v1 v2 v3 0 Bb) = R) (hm : bits .or .u32 (get4 d0 d1 d2 d3 0 A) (get4 d0 d1 d2 d3 0 Bb) = M)
    (hr2 : opF 2 (get4 v0 v1 v2 v3 0 Bb) (get4 v0 v1 v2 v3 0 A) = R) (hm2 : bits .or .u32 (get4 d0 d1 d2 d3 0 Bb) (get4 d0 d1 d2 d3 0 A) = M) (hs : IntKind.wrap .i64 (R - pa) = pb)
    (w0 : W64 (if D = 0 then R else v0)) (w1 : W64 (if D = 1 then R else v1)) (w2 : W64 (if D = 2 then R else v2)) (w3 : W64 (if D = 3 then R else v3))
    (x0 : W32 (if D = 0 then M else d0)) (x1 : W32 (if D = 1 then M else d1)) (x2 : W32 (if D = 2 then M else d2)) (x3 : W32 (if D = 3 then M else d3)) :
    SC Try.prog 6 [.agg (fileL v0 v1 v2 v3 d0 d1 d2 d3), I .u8 d, I .u8 a, I .u8 b, I .u8 op] (B true) := by
  refine scx_of Try.func6 rfl rfl rfl (Nat.le_of_ble_eq_true rfl) ?_
  repeat (first
    | exact aw_ret (ret_vals (by simp; exact rfl) (by simp [*]))
    | refine ar_end rfl ?_
    | refine ar_endD rfl (by kernel_rfl) ?_
    | refine ar_callV Try.call34 c_shown7 rfl rfl rfl rfl rfl (by simp) (by rfl) (by simp) ?_
    | refine ar_callV_if Try.call34 c_shown7 rfl rfl rfl rfl rfl rfl (by simp) rfl (by rfl) (by simp) ?_
    | refine ar_callV Try.call36 c_made rfl rfl rfl rfl rfl (by simp) (by rfl) (by simp) ?_
    | refine ar_callV_if Try.call36 c_made rfl rfl rfl rfl rfl rfl (by simp) rfl (by rfl) (by simp) ?_
    | refine ar_callV Try.call40 (c_Do_op ho hr hm) rfl rfl rfl rfl rfl (by simp) (by rfl) (by simp) ?_
    | refine ar_callV_if Try.call40 (c_Do_op ho hr hm) rfl rfl rfl rfl rfl rfl (by simp) rfl (by rfl) (by simp) ?_
    | refine ar_callV Try.call40 (c_Do_op ho hr2 hm2) rfl rfl rfl rfl rfl (by simp) (by rfl) (by simp) ?_
    | refine ar_callV_if Try.call40 (c_Do_op ho hr2 hm2) rfl rfl rfl rfl rfl rfl (by simp) rfl (by rfl) (by simp) ?_
    | refine ar_callV Try.call38 (c_GetS hD) rfl rfl rfl rfl rfl (by simp) (by rfl) (by simp) ?_
    | refine ar_callV_if Try.call38 (c_GetS hD) rfl rfl rfl rfl rfl rfl (by simp) rfl (by rfl) (by simp) ?_
    | refine ar_eqAgg_if (eqFile (.inr rfl) (by assumption) (by assumption) (by assumption) (by assumption) (by assumption) (by assumption) (by assumption) (by assumption)) rfl rfl rfl rfl rfl (by simp) rfl rfl rfl ?_
    | refine ar_go2 _ rfl (by simp [eD, eA, eB, hO, hA, hA2, hB, hB2, iA, iB, hs]; exact ⟨rfl, rfl, rfl⟩) rfl ?_
    | refine aw_sreg ?_
    | refine aw_sregD mixed ?_
    | refine aw_ifT (b := true) rfl rfl ?_
    | refine aw_ifF (b := false) rfl rfl ?_
    | refine aw_ifT rfl (decide_eq_true (by assumption)) ?_
    | refine aw_ifF rfl (decide_eq_false (by assumption)) ?_
    | refine aw_seq ?_
    | refine aw_block ?_
    | refine aw_skip ?_
    | refine aw_region ?_
    | refine aw_region_draw mixed ?_
    | refine aw_exit ?_
    | refine blockQ_hit ?_
    | refine blockQ_miss (by decide) ?_)
set_option maxHeartbeats 4000000 in
theorem law_RegsSwap_3 {v0 v1 v2 v3 d0 d1 d2 d3 d a b op D A Bb R M pa pb : Int} (hO : IntKind.wrap .i64 (2 + IntKind.wrap .i64 (op.tmod 3)) = 3) (eD : IntKind.wrap .i64 (d.tmod 4) = D) (eA : IntKind.wrap .i64 (a.tmod 4) = A) (eB : IntKind.wrap .i64 (b.tmod 4) = Bb)
    (hD : 0 ≤ D ∧ D < 4) (hA : 0 ≤ A) (hA2 : A.toNat < 4) (hB : 0 ≤ Bb) (hB2 : Bb.toNat < 4)
    (iA : ([I .i64 v0, I .i64 v1, I .i64 v2, I .i64 v3, I .u32 d0, I .u32 d1, I .u32 d2, I .u32 d3] : List AV)[A.toNat]? = some (I .i64 pa)) (iB : ([I .i64 v0, I .i64 v1, I .i64 v2, I .i64 v3, I .u32 d0, I .u32 d1, I .u32 d2, I .u32 d3] : List AV)[Bb.toNat]? = some (I .i64 pb))
    (ho : (3 : Int) = 2 ∨ (3 : Int) = 3 ∨ (3 : Int) = 4) (hr : opF 3 (get4 v0 v1 v2 v3 0 A) (get4 v0 v1 v2 v3 0 Bb) = R) (hm : bits .or .u32 (get4 d0 d1 d2 d3 0 A) (get4 d0 d1 d2 d3 0 Bb) = M)
    (hr2 : opF 3 (get4 v0 v1 v2 v3 0 Bb) (get4 v0 v1 v2 v3 0 A) = R) (hm2 : bits .or .u32 (get4 d0 d1 d2 d3 0 Bb) (get4 d0 d1 d2 d3 0 A) = M) (hs : bits .xor .i64 R pa = pb)
    (w0 : W64 (if D = 0 then R else v0)) (w1 : W64 (if D = 1 then R else v1)) (w2 : W64 (if D = 2 then R else v2)) (w3 : W64 (if D = 3 then R else v3))
    (x0 : W32 (if D = 0 then M else d0)) (x1 : W32 (if D = 1 then M else d1)) (x2 : W32 (if D = 2 then M else d2)) (x3 : W32 (if D = 3 then M else d3)) :
    SC Try.prog 6 [.agg (fileL v0 v1 v2 v3 d0 d1 d2 d3), I .u8 d, I .u8 a, I .u8 b, I .u8 op] (B true) := by
  refine scx_of Try.func6 rfl rfl rfl (Nat.le_of_ble_eq_true rfl) ?_
  repeat (first
    | exact aw_ret (ret_vals (by simp; exact rfl) (by simp [*]))
    | refine ar_end rfl ?_
    | refine ar_endD rfl (by kernel_rfl) ?_
    | refine ar_callV Try.call34 c_shown7 rfl rfl rfl rfl rfl (by simp) (by rfl) (by simp) ?_
    | refine ar_callV_if Try.call34 c_shown7 rfl rfl rfl rfl rfl rfl (by simp) rfl (by rfl) (by simp) ?_
    | refine ar_callV Try.call36 c_made rfl rfl rfl rfl rfl (by simp) (by rfl) (by simp) ?_
    | refine ar_callV_if Try.call36 c_made rfl rfl rfl rfl rfl rfl (by simp) rfl (by rfl) (by simp) ?_
    | refine ar_callV Try.call40 (c_Do_op ho hr hm) rfl rfl rfl rfl rfl (by simp) (by rfl) (by simp) ?_
    | refine ar_callV_if Try.call40 (c_Do_op ho hr hm) rfl rfl rfl rfl rfl rfl (by simp) rfl (by rfl) (by simp) ?_
    | refine ar_callV Try.call40 (c_Do_op ho hr2 hm2) rfl rfl rfl rfl rfl (by simp) (by rfl) (by simp) ?_
    | refine ar_callV_if Try.call40 (c_Do_op ho hr2 hm2) rfl rfl rfl rfl rfl rfl (by simp) rfl (by rfl) (by simp) ?_
    | refine ar_callV Try.call38 (c_GetS hD) rfl rfl rfl rfl rfl (by simp) (by rfl) (by simp) ?_
    | refine ar_callV_if Try.call38 (c_GetS hD) rfl rfl rfl rfl rfl rfl (by simp) rfl (by rfl) (by simp) ?_
    | refine ar_eqAgg_if (eqFile (.inr rfl) (by assumption) (by assumption) (by assumption) (by assumption) (by assumption) (by assumption) (by assumption) (by assumption)) rfl rfl rfl rfl rfl (by simp) rfl rfl rfl ?_
    | refine ar_go2 _ rfl (by simp [eD, eA, eB, hO, hA, hA2, hB, hB2, iA, iB, hs]; exact ⟨rfl, rfl, rfl⟩) rfl ?_
    | refine aw_sreg ?_
    | refine aw_sregD mixed ?_
    | refine aw_ifT (b := true) rfl rfl ?_
    | refine aw_ifF (b := false) rfl rfl ?_
    | refine aw_ifT rfl (decide_eq_true (by assumption)) ?_
    | refine aw_ifF rfl (decide_eq_false (by assumption)) ?_
    | refine aw_seq ?_
    | refine aw_block ?_
    | refine aw_skip ?_
    | refine aw_region ?_
    | refine aw_region_draw mixed ?_
    | refine aw_exit ?_
    | refine blockQ_hit ?_
    | refine blockQ_miss (by decide) ?_)
set_option maxHeartbeats 4000000 in
theorem law_RegsSwap_4 {v0 v1 v2 v3 d0 d1 d2 d3 d a b op D A Bb R M pa pb : Int} (hO : IntKind.wrap .i64 (2 + IntKind.wrap .i64 (op.tmod 3)) = 4) (eD : IntKind.wrap .i64 (d.tmod 4) = D) (eA : IntKind.wrap .i64 (a.tmod 4) = A) (eB : IntKind.wrap .i64 (b.tmod 4) = Bb)
    (hD : 0 ≤ D ∧ D < 4) (hA : 0 ≤ A) (hA2 : A.toNat < 4) (hB : 0 ≤ Bb) (hB2 : Bb.toNat < 4)
    (iA : ([I .i64 v0, I .i64 v1, I .i64 v2, I .i64 v3, I .u32 d0, I .u32 d1, I .u32 d2, I .u32 d3] : List AV)[A.toNat]? = some (I .i64 pa)) (iB : ([I .i64 v0, I .i64 v1, I .i64 v2, I .i64 v3, I .u32 d0, I .u32 d1, I .u32 d2, I .u32 d3] : List AV)[Bb.toNat]? = some (I .i64 pb))
    (ho : (4 : Int) = 2 ∨ (4 : Int) = 3 ∨ (4 : Int) = 4) (hr : opF 4 (get4 v0 v1 v2 v3 0 A) (get4 v0 v1 v2 v3 0 Bb) = R) (hm : bits .or .u32 (get4 d0 d1 d2 d3 0 A) (get4 d0 d1 d2 d3 0 Bb) = M)
    (hr2 : opF 4 (get4 v0 v1 v2 v3 0 Bb) (get4 v0 v1 v2 v3 0 A) = R) (hm2 : bits .or .u32 (get4 d0 d1 d2 d3 0 Bb) (get4 d0 d1 d2 d3 0 A) = M) (hs : bits .andNot .i64 R pa = 0) (hs2 : bits .andNot .i64 R pb = 0)
    (w0 : W64 (if D = 0 then R else v0)) (w1 : W64 (if D = 1 then R else v1)) (w2 : W64 (if D = 2 then R else v2)) (w3 : W64 (if D = 3 then R else v3))
    (x0 : W32 (if D = 0 then M else d0)) (x1 : W32 (if D = 1 then M else d1)) (x2 : W32 (if D = 2 then M else d2)) (x3 : W32 (if D = 3 then M else d3)) :
    SC Try.prog 6 [.agg (fileL v0 v1 v2 v3 d0 d1 d2 d3), I .u8 d, I .u8 a, I .u8 b, I .u8 op] (B true) := by
  refine scx_of Try.func6 rfl rfl rfl (Nat.le_of_ble_eq_true rfl) ?_
  repeat (first
    | exact aw_ret (ret_vals (by simp; exact rfl) (by simp [*]))
    | refine ar_end rfl ?_
    | refine ar_endD rfl (by kernel_rfl) ?_
    | refine ar_callV Try.call34 c_shown7 rfl rfl rfl rfl rfl (by simp) (by rfl) (by simp) ?_
    | refine ar_callV_if Try.call34 c_shown7 rfl rfl rfl rfl rfl rfl (by simp) rfl (by rfl) (by simp) ?_
    | refine ar_callV Try.call36 c_made rfl rfl rfl rfl rfl (by simp) (by rfl) (by simp) ?_
    | refine ar_callV_if Try.call36 c_made rfl rfl rfl rfl rfl rfl (by simp) rfl (by rfl) (by simp) ?_
    | refine ar_callV Try.call40 (c_Do_op ho hr hm) rfl rfl rfl rfl rfl (by simp) (by rfl) (by simp) ?_
    | refine ar_callV_if Try.call40 (c_Do_op ho hr hm) rfl rfl rfl rfl rfl rfl (by simp) rfl (by rfl) (by simp) ?_
    | refine ar_callV Try.call40 (c_Do_op ho hr2 hm2) rfl rfl rfl rfl rfl (by simp) (by rfl) (by simp) ?_
    | refine ar_callV_if Try.call40 (c_Do_op ho hr2 hm2) rfl rfl rfl rfl rfl rfl (by simp) rfl (by rfl) (by simp) ?_
    | refine ar_callV Try.call38 (c_GetS hD) rfl rfl rfl rfl rfl (by simp) (by rfl) (by simp) ?_
    | refine ar_callV_if Try.call38 (c_GetS hD) rfl rfl rfl rfl rfl rfl (by simp) rfl (by rfl) (by simp) ?_
    | refine ar_eqAgg_if (eqFile (.inr rfl) (by assumption) (by assumption) (by assumption) (by assumption) (by assumption) (by assumption) (by assumption) (by assumption)) rfl rfl rfl rfl rfl (by simp) rfl rfl rfl ?_
    | refine ar_go2 _ rfl (by simp [eD, eA, eB, hO, hA, hA2, hB, hB2, iA, iB, hs, hs2]; exact ⟨rfl, rfl, rfl⟩) rfl ?_
    | refine aw_sreg ?_
    | refine aw_sregD mixed ?_
    | refine aw_ifT (b := true) rfl rfl ?_
    | refine aw_ifF (b := false) rfl rfl ?_
    | refine aw_ifT rfl (decide_eq_true (by assumption)) ?_
    | refine aw_ifF rfl (decide_eq_false (by assumption)) ?_
    | refine aw_seq ?_
    | refine aw_block ?_
    | refine aw_skip ?_
    | refine aw_region ?_
    | refine aw_region_draw mixed ?_
    | refine aw_exit ?_
    | refine blockQ_hit ?_
    | refine blockQ_miss (by decide) ?_)
theorem mod4 {n : Int} (h : (Lit.int .u8 n).wf = true) : (0 ≤ IntKind.wrap .i64 (n.tmod 4) ∧ IntKind.wrap .i64 (n.tmod 4) < 4) ∧ 0 ≤ IntKind.wrap .i64 (n.tmod 4) ∧ (IntKind.wrap .i64 (n.tmod 4)).toNat < 4 := by
  have := wf8 h
  rw [IntKind.wrap_i64, Int.tmod_eq_emod_of_nonneg (by omega)]; omega
theorem mod3 {n : Int} (h : (Lit.int .u8 n).wf = true) : IntKind.wrap .i64 (2 + IntKind.wrap .i64 (n.tmod 3)) = 2 ∨ IntKind.wrap .i64 (2 + IntKind.wrap .i64 (n.tmod 3)) = 3 ∨ IntKind.wrap .i64 (2 + IntKind.wrap .i64 (n.tmod 3)) = 4 := by
  have := wf8 h
  rw [IntKind.wrap_i64, IntKind.wrap_i64, Int.tmod_eq_emod_of_nonneg (by omega)]; omega
theorem w64 {n : Int} (h : W64 n) : -9223372036854775808 ≤ n ∧ n ≤ 9223372036854775807 := by
  simpa [W64, Lit.wf, IntKind.min, IntKind.max, IntKind.signed, IntKind.bits] using h
theorem w32 {n : Int} (h : W32 n) : 0 ≤ n ∧ n ≤ 4294967295 := by
  simpa [W32, Lit.wf, IntKind.min, IntKind.max, IntKind.signed, IntKind.bits] using h
theorem W64.ite {c : Prop} [Decidable c] {x y : Int} (hx : W64 x) (hy : W64 y) : W64 (if c then x else y) := by split <;> assumption
theorem W32.ite {c : Prop} [Decidable c] {x y : Int} (hx : W32 x) (hy : W32 y) : W32 (if c then x else y) := by split <;> assumption
theorem W64.get4 {a b c d n : Int} (ha : W64 a) (hb : W64 b) (hc : W64 c) (hd : W64 d) : W64 (get4 a b c d 0 n) := by unfold Go.Eng.get4; exact W64.ite ha (W64.ite hb (W64.ite hc (W64.ite hd (by decide))))
theorem W32.get4 {a b c d n : Int} (ha : W32 a) (hb : W32 b) (hc : W32 c) (hd : W32 d) : W32 (get4 a b c d 0 n) := by unfold Go.Eng.get4; exact W32.ite ha (W32.ite hb (W32.ite hc (W32.ite hd (by decide))))
theorem wf_opF (op a b : Int) : W64 (opF op a b) := by unfold opF; exact W64.ite (wf_wrap _ _) (W64.ite (wf_bits _ _ _ _) (wf_bits _ _ _ _))
theorem opF_comm (op a b : Int) : opF op b a = opF op a b := by
  unfold opF
  rw [Int.add_comm b a, bits_comm _ .xor (.inr (.inr rfl)) b a, bits_comm _ .and (.inl rfl) b a]
theorem law_RegsSwap {v0 v1 v2 v3 d0 d1 d2 d3 d a b op : Int} (h0 : W64 v0) (h1 : W64 v1) (h2 : W64 v2) (h3 : W64 v3) (k0 : W32 d0) (k1 : W32 d1) (k2 : W32 d2) (k3 : W32 d3)
    (hd : (Lit.int .u8 d).wf = true) (ha : (Lit.int .u8 a).wf = true) (hb : (Lit.int .u8 b).wf = true) (ho : (Lit.int .u8 op).wf = true) :
    SC Try.prog 6 [.agg (fileL v0 v1 v2 v3 d0 d1 d2 d3), I .u8 d, I .u8 a, I .u8 b, I .u8 op] (B true) := by
  have D := mod4 hd
  have A := mod4 ha
  have E := mod4 hb
  have ga := w64 (W64.get4 (n := IntKind.wrap .i64 (a.tmod 4)) h0 h1 h2 h3)
  have gb := w64 (W64.get4 (n := IntKind.wrap .i64 (b.tmod 4)) h0 h1 h2 h3)
  have ww : ∀ x, W32 (bits .or .u32 x (get4 d0 d1 d2 d3 0 (IntKind.wrap .i64 (b.tmod 4)))) := fun x => wf_bits _ _ _ _
  rcases mod3 ho with e | e | e
  · exact law_RegsSwap_2 e rfl rfl rfl D.1 A.2.1 A.2.2 E.2.1 E.2.2 (idx8 A.1).1 (idx8 E.1).1 (by simp) rfl rfl (opF_comm _ _ _) (bits_comm _ _ (.inr (.inl rfl)) _ _) (add_sub64 gb)
      (W64.ite (wf_opF _ _ _) h0) (W64.ite (wf_opF _ _ _) h1) (W64.ite (wf_opF _ _ _) h2) (W64.ite (wf_opF _ _ _) h3) (W32.ite (ww _) k0) (W32.ite (ww _) k1) (W32.ite (ww _) k2) (W32.ite (ww _) k3)
  · exact law_RegsSwap_3 e rfl rfl rfl D.1 A.2.1 A.2.2 E.2.1 E.2.2 (idx8 A.1).1 (idx8 E.1).1 (by simp) rfl rfl (opF_comm _ _ _) (bits_comm _ _ (.inr (.inl rfl)) _ _) (xor_xor64 gb)
      (W64.ite (wf_opF _ _ _) h0) (W64.ite (wf_opF _ _ _) h1) (W64.ite (wf_opF _ _ _) h2) (W64.ite (wf_opF _ _ _) h3) (W32.ite (ww _) k0) (W32.ite (ww _) k1) (W32.ite (ww _) k2) (W32.ite (ww _) k3)
  · exact law_RegsSwap_4 e rfl rfl rfl D.1 A.2.1 A.2.2 E.2.1 E.2.2 (idx8 A.1).1 (idx8 E.1).1 (by simp) rfl rfl (opF_comm _ _ _) (bits_comm _ _ (.inr (.inl rfl)) _ _) (and_not64 _ _).1 (and_not64 _ _).2
      (W64.ite (wf_opF _ _ _) h0) (W64.ite (wf_opF _ _ _) h1) (W64.ite (wf_opF _ _ _) h2) (W64.ite (wf_opF _ _ _) h3) (W32.ite (ww _) k0) (W32.ite (ww _) k1) (W32.ite (ww _) k2) (W32.ite (ww _) k3)
end Go.Eng
