import Derived.Test.YtamjcdfjkekdjaaRegsSwapWalk
import Derived.Test.YtamjcdfjkekdjaaEc6
set_option linter.unusedSimpArgs false
set_option linter.unusedVariables false
set_option linter.constructorNameAsVariable false
set_option autoImplicit false
namespace Go.Eng
open Go Go.RowKit Go.Proofs
set_option maxHeartbeats 4000000 in
theorem law_RegsHang_0 {v0 v1 v2 v3 d0 d1 d2 d3 d a b op0 op A Bb R M da db : Int} (hO : IntKind.wrap .i64 (2 + IntKind.wrap .i64 (op0.tmod 3)) = op) (eD : IntKind.wrap .i64 (d.tmod 4) = 0) (eA : IntKind.wrap .i64 (a.tmod 4) = A) (eB : IntKind.wrap .i64 (b.tmod 4) = Bb)
    (hA : 0 ≤ A) (hA2 : A.toNat < 4) (hB : 0 ≤ Bb) (hB2 : Bb.toNat < 4)
    (iA : ([I .i64 v0, I .i64 v1, I .i64 v2, I .i64 v3, I .u32 d0, I .u32 d1, I .u32 d2, I .u32 d3] : List AV)[4 + A.toNat]? = some (I .u32 da)) (iB : ([I .i64 v0, I .i64 v1, I .i64 v2, I .i64 v3, I .u32 d0, I .u32 d1, I .u32 d2, I .u32 d3] : List AV)[4 + Bb.toNat]? = some (I .u32 db)) (hMM : bits .or .u32 da db = M)
    (ho : op = 2 ∨ op = 3 ∨ op = 4) (h33 : (3 : Int) = 2 ∨ (3 : Int) = 3 ∨ (3 : Int) = 4) (hr : opF op (get4 v0 v1 v2 v3 0 A) (get4 v0 v1 v2 v3 0 Bb) = R) (hm : bits .or .u32 (get4 d0 d1 d2 d3 0 A) (get4 d0 d1 d2 d3 0 Bb) = M)
    (hr2 : opF 3 (get4 v0 v1 v2 v3 0 A) (get4 v0 v1 v2 v3 0 A) = 0) (hm2 : bits .or .u32 (get4 d0 d1 d2 d3 0 A) (get4 d0 d1 d2 d3 0 A) = da) :
    SC Try.prog 5 [.agg (fileL v0 v1 v2 v3 d0 d1 d2 d3), I .u8 d, I .u8 a, I .u8 b, I .u8 op0] (B true) := by
  refine scx_of Try.func5 rfl rfl rfl (Nat.le_of_ble_eq_true rfl) ?_
  repeat' (first
    | exact aw_ret (ret_vals (by simp; exact rfl) (by simp [*]))
    | refine ar_end rfl ?_
    | refine ar_endD rfl (by kernel_rfl) ?_
    | refine ar_fin rfl ?_
    | refine ar_finD rfl (by kernel_rfl) ?_
    | refine ar_callV Try.call34 c_shown7 rfl rfl rfl rfl rfl (by simp) (by rfl) (by simp) ?_
    | refine ar_callV_if Try.call34 c_shown7 rfl rfl rfl rfl rfl rfl (by simp) rfl (by rfl) (by simp) ?_
    | refine ar_callV Try.call36 c_made rfl rfl rfl rfl rfl (by simp) (by rfl) (by simp) ?_
    | refine ar_callV_if Try.call36 c_made rfl rfl rfl rfl rfl rfl (by simp) rfl (by rfl) (by simp) ?_
    | refine ar_callV Try.call40 (c_Do_op ho hr hm) rfl rfl rfl rfl rfl (by simp) (by rfl) (by simp) ?_
    | refine ar_callV_if Try.call40 (c_Do_op ho hr hm) rfl rfl rfl rfl rfl rfl (by simp) rfl (by rfl) (by simp) ?_
    | refine ar_callV Try.call40 (c_Do_op (op := 3) h33 hr2 hm2) rfl rfl rfl rfl rfl (by simp) (by rfl) (by simp) ?_
    | refine ar_callV_if Try.call40 (c_Do_op (op := 3) h33 hr2 hm2) rfl rfl rfl rfl rfl rfl (by simp) rfl (by rfl) (by simp) ?_
    | refine ar_callV Try.call40 c_Do_mov rfl rfl rfl rfl rfl (by simp) (by rfl) (by simp) ?_
    | refine ar_callV_if Try.call40 c_Do_mov rfl rfl rfl rfl rfl rfl (by simp) rfl (by rfl) (by simp) ?_
    | refine ar_go2 _ rfl (by simp [eD, eA, eB, hO, hA, hA2, hB, hB2, iA, iB, hMM, wrap64s]; exact ⟨rfl, rfl, rfl⟩) rfl ?_
    | refine aw_sregK 0 [0, 1, 2, 3, 4] ?_
    | refine aw_regK 0 [0, 1, 2, 3, 4] ?_
    | refine aw_sregK 1 [1, 2, 3, 4, 5] ?_
    | refine aw_regK 1 [1, 2, 3, 4, 5] ?_
    | refine aw_sregK 2 [1, 2, 3, 4, 5, 11] ?_
    | refine aw_regK 2 [1, 2, 3, 4, 5, 11] ?_
    | refine aw_sregKD mixed 3 [5, 11, 12] (by simp; exact rfl) ?_
    | refine aw_regKD mixed 3 [5, 11, 12] (by simp; exact rfl) ?_
    | refine aw_sregK 4 [5, 11, 12, 13] ?_
    | refine aw_regK 4 [5, 11, 12, 13] ?_
    | refine aw_sregK 5 [5, 11, 12, 13, 14] ?_
    | refine aw_regK 5 [5, 11, 12, 13, 14] ?_
    | refine aw_sregK 6 [5, 11, 12, 13, 14] ?_
    | refine aw_regK 6 [5, 11, 12, 13, 14] ?_
    | refine aw_sregKD mixed 7 [5, 11, 12, 13, 14] (by simp; exact rfl) ?_
    | refine aw_regKD mixed 7 [5, 11, 12, 13, 14] (by simp; exact rfl) ?_
    | refine aw_sregK 8 [] ?_
    | refine aw_regK 8 [] ?_
    | refine aw_sregKD mixed 9 [5, 11, 12, 13] (by simp; exact rfl) ?_
    | refine aw_regKD mixed 9 [5, 11, 12, 13] (by simp; exact rfl) ?_
    | refine aw_sregKD mixed 10 [5, 11, 12, 13, 15] (by simp; exact rfl) ?_
    | refine aw_regKD mixed 10 [5, 11, 12, 13, 15] (by simp; exact rfl) ?_
    | refine aw_sregKD mixed 11 [5, 11, 12, 13, 15, 16] (by simp; exact rfl) ?_
    | refine aw_regKD mixed 11 [5, 11, 12, 13, 15, 16] (by simp; exact rfl) ?_
    | refine aw_sreg ?_
    | refine aw_sregD mixed ?_
    | refine aw_ifT (b := true) rfl rfl ?_
    | refine aw_ifF (b := false) rfl rfl ?_
    | refine aw_ifT rfl (decide_eq_true (by assumption)) ?_
    | refine aw_ifF rfl (decide_eq_false (by assumption)) ?_
    | refine aw_rounds 5 ?_
    | refine awr_step ?_
    | refine aw_seq ?_
    | refine aw_block ?_
    | refine aw_skip ?_
    | refine aw_region ?_
    | refine aw_region_draw mixed ?_
    | refine aw_exit ?_
    | refine rq_exit ?_
    | refine blockQ_hit ?_
    | refine blockQ_miss (by decide) ?_
    | (refine ar_guard rfl rfl rfl rfl (fun h => ?_) (fun h => ?_) <;> (fail_if_success (cases h; done)) <;> (try simp at h))
    | (refine aw_both rfl (fun h => ?_) (fun h => ?_) <;> (fail_if_success (cases h; done)) <;> (try simp at h)))
set_option maxHeartbeats 4000000 in
theorem law_RegsHang_1 {v0 v1 v2 v3 d0 d1 d2 d3 d a b op0 op A Bb R M da db : Int} (hO : IntKind.wrap .i64 (2 + IntKind.wrap .i64 (op0.tmod 3)) = op) (eD : IntKind.wrap .i64 (d.tmod 4) = 1) (eA : IntKind.wrap .i64 (a.tmod 4) = A) (eB : IntKind.wrap .i64 (b.tmod 4) = Bb)
    (hA : 0 ≤ A) (hA2 : A.toNat < 4) (hB : 0 ≤ Bb) (hB2 : Bb.toNat < 4)
    (iA : ([I .i64 v0, I .i64 v1, I .i64 v2, I .i64 v3, I .u32 d0, I .u32 d1, I .u32 d2, I .u32 d3] : List AV)[4 + A.toNat]? = some (I .u32 da)) (iB : ([I .i64 v0, I .i64 v1, I .i64 v2, I .i64 v3, I .u32 d0, I .u32 d1, I .u32 d2, I .u32 d3] : List AV)[4 + Bb.toNat]? = some (I .u32 db)) (hMM : bits .or .u32 da db = M)
    (ho : op = 2 ∨ op = 3 ∨ op = 4) (h33 : (3 : Int) = 2 ∨ (3 : Int) = 3 ∨ (3 : Int) = 4) (hr : opF op (get4 v0 v1 v2 v3 0 A) (get4 v0 v1 v2 v3 0 Bb) = R) (hm : bits .or .u32 (get4 d0 d1 d2 d3 0 A) (get4 d0 d1 d2 d3 0 Bb) = M)
    (hr2 : opF 3 (get4 v0 v1 v2 v3 0 A) (get4 v0 v1 v2 v3 0 A) = 0) (hm2 : bits .or .u32 (get4 d0 d1 d2 d3 0 A) (get4 d0 d1 d2 d3 0 A) = da) :
    SC Try.prog 5 [.agg (fileL v0 v1 v2 v3 d0 d1 d2 d3), I .u8 d, I .u8 a, I .u8 b, I .u8 op0] (B true) := by
  refine scx_of Try.func5 rfl rfl rfl (Nat.le_of_ble_eq_true rfl) ?_
  repeat' (first
    | exact aw_ret (ret_vals (by simp; exact rfl) (by simp [*]))
    | refine ar_end rfl ?_
    | refine ar_endD rfl (by kernel_rfl) ?_
    | refine ar_fin rfl ?_
    | refine ar_finD rfl (by kernel_rfl) ?_
    | refine ar_callV Try.call34 c_shown7 rfl rfl rfl rfl rfl (by simp) (by rfl) (by simp) ?_
    | refine ar_callV_if Try.call34 c_shown7 rfl rfl rfl rfl rfl rfl (by simp) rfl (by rfl) (by simp) ?_
    | refine ar_callV Try.call36 c_made rfl rfl rfl rfl rfl (by simp) (by rfl) (by simp) ?_
    | refine ar_callV_if Try.call36 c_made rfl rfl rfl rfl rfl rfl (by simp) rfl (by rfl) (by simp) ?_
    | refine ar_callV Try.call40 (c_Do_op ho hr hm) rfl rfl rfl rfl rfl (by simp) (by rfl) (by simp) ?_
    | refine ar_callV_if Try.call40 (c_Do_op ho hr hm) rfl rfl rfl rfl rfl rfl (by simp) rfl (by rfl) (by simp) ?_
    | refine ar_callV Try.call40 (c_Do_op (op := 3) h33 hr2 hm2) rfl rfl rfl rfl rfl (by simp) (by rfl) (by simp) ?_
    | refine ar_callV_if Try.call40 (c_Do_op (op := 3) h33 hr2 hm2) rfl rfl rfl rfl rfl rfl (by simp) rfl (by rfl) (by simp) ?_
    | refine ar_callV Try.call40 c_Do_mov rfl rfl rfl rfl rfl (by simp) (by rfl) (by simp) ?_
    | refine ar_callV_if Try.call40 c_Do_mov rfl rfl rfl rfl rfl rfl (by simp) rfl (by rfl) (by simp) ?_
    | refine ar_go2 _ rfl (by simp [eD, eA, eB, hO, hA, hA2, hB, hB2, iA, iB, hMM, wrap64s]; exact ⟨rfl, rfl, rfl⟩) rfl ?_
    | refine aw_sregK 0 [0, 1, 2, 3, 4] ?_
    | refine aw_regK 0 [0, 1, 2, 3, 4] ?_
    | refine aw_sregK 1 [1, 2, 3, 4, 5] ?_
    | refine aw_regK 1 [1, 2, 3, 4, 5] ?_
    | refine aw_sregK 2 [1, 2, 3, 4, 5, 11] ?_
    | refine aw_regK 2 [1, 2, 3, 4, 5, 11] ?_
    | refine aw_sregKD mixed 3 [5, 11, 12] (by simp; exact rfl) ?_
    | refine aw_regKD mixed 3 [5, 11, 12] (by simp; exact rfl) ?_
    | refine aw_sregK 4 [5, 11, 12, 13] ?_
    | refine aw_regK 4 [5, 11, 12, 13] ?_
    | refine aw_sregK 5 [5, 11, 12, 13, 14] ?_
    | refine aw_regK 5 [5, 11, 12, 13, 14] ?_
    | refine aw_sregK 6 [5, 11, 12, 13, 14] ?_
    | refine aw_regK 6 [5, 11, 12, 13, 14] ?_
    | refine aw_sregKD mixed 7 [5, 11, 12, 13, 14] (by simp; exact rfl) ?_
    | refine aw_regKD mixed 7 [5, 11, 12, 13, 14] (by simp; exact rfl) ?_
    | refine aw_sregK 8 [] ?_
    | refine aw_regK 8 [] ?_
    | refine aw_sregKD mixed 9 [5, 11, 12, 13] (by simp; exact rfl) ?_
    | refine aw_regKD mixed 9 [5, 11, 12, 13] (by simp; exact rfl) ?_
    | refine aw_sregKD mixed 10 [5, 11, 12, 13, 15] (by simp; exact rfl) ?_
    | refine aw_regKD mixed 10 [5, 11, 12, 13, 15] (by simp; exact rfl) ?_
    | refine aw_sregKD mixed 11 [5, 11, 12, 13, 15, 16] (by simp; exact rfl) ?_
    | refine aw_regKD mixed 11 [5, 11, 12, 13, 15, 16] (by simp; exact rfl) ?_
    | refine aw_sreg ?_
    | refine aw_sregD mixed ?_
    | refine aw_ifT (b := true) rfl rfl ?_
    | refine aw_ifF (b := false) rfl rfl ?_
    | refine aw_ifT rfl (decide_eq_true (by assumption)) ?_
    | refine aw_ifF rfl (decide_eq_false (by assumption)) ?_
    | refine aw_rounds 5 ?_
    | refine awr_step ?_
    | refine aw_seq ?_
    | refine aw_block ?_
    | refine aw_skip ?_
    | refine aw_region ?_
    | refine aw_region_draw mixed ?_
    | refine aw_exit ?_
    | refine rq_exit ?_
    | refine blockQ_hit ?_
    | refine blockQ_miss (by decide) ?_
    | (refine ar_guard rfl rfl rfl rfl (fun h => ?_) (fun h => ?_) <;> (fail_if_success (cases h; done)) <;> (try simp at h))
    | (refine aw_both rfl (fun h => ?_) (fun h => ?_) <;> (fail_if_success (cases h; done)) <;> (try simp at h)))
set_option maxHeartbeats 4000000 in
theorem law_RegsHang_2 {v0 v1 v2 v3 d0 d1 d2 d3 d a b op0 op A Bb R M da db : Int} (hO : IntKind.wrap .i64 (2 + IntKind.wrap .i64 (op0.tmod 3)) = op) (eD : IntKind.wrap .i64 (d.tmod 4) = 2) (eA : IntKind.wrap .i64 (a.tmod 4) = A) (eB : IntKind.wrap .i64 (b.tmod 4) = Bb)
    (hA : 0 ≤ A) (hA2 : A.toNat < 4) (hB : 0 ≤ Bb) (hB2 : Bb.toNat < 4)
    (iA : ([I .i64 v0, I .i64 v1, I .i64 v2, I .i64 v3, I .u32 d0, I .u32 d1, I .u32 d2, I .u32 d3] : List AV)[4 + A.toNat]? = some (I .u32 da)) (iB : ([I .i64 v0, I .i64 v1, I .i64 v2, I .i64 v3, I .u32 d0, I .u32 d1, I .u32 d2, I .u32 d3] : List AV)[4 + Bb.toNat]? = some (I .u32 db)) (hMM : bits .or .u32 da db = M)
    (ho : op = 2 ∨ op = 3 ∨ op = 4) (h33 : (3 : Int) = 2 ∨ (3 : Int) = 3 ∨ (3 : Int) = 4) (hr : opF op (get4 v0 v1 v2 v3 0 A) (get4 v0 v1 v2 v3 0 Bb) = R) (hm : bits .or .u32 (get4 d0 d1 d2 d3 0 A) (get4 d0 d1 d2 d3 0 Bb) = M)
    (hr2 : opF 3 (get4 v0 v1 v2 v3 0 A) (get4 v0 v1 v2 v3 0 A) = 0) (hm2 : bits .or .u32 (get4 d0 d1 d2 d3 0 A) (get4 d0 d1 d2 d3 0 A) = da) :
    SC Try.prog 5 [.agg (fileL v0 v1 v2 v3 d0 d1 d2 d3), I .u8 d, I .u8 a, I .u8 b, I .u8 op0] (B true) := by
  refine scx_of Try.func5 rfl rfl rfl (Nat.le_of_ble_eq_true rfl) ?_
  repeat' (first
    | exact aw_ret (ret_vals (by simp; exact rfl) (by simp [*]))
    | refine ar_end rfl ?_
    | refine ar_endD rfl (by kernel_rfl) ?_
    | refine ar_fin rfl ?_
    | refine ar_finD rfl (by kernel_rfl) ?_
    | refine ar_callV Try.call34 c_shown7 rfl rfl rfl rfl rfl (by simp) (by rfl) (by simp) ?_
    | refine ar_callV_if Try.call34 c_shown7 rfl rfl rfl rfl rfl rfl (by simp) rfl (by rfl) (by simp) ?_
    | refine ar_callV Try.call36 c_made rfl rfl rfl rfl rfl (by simp) (by rfl) (by simp) ?_
    | refine ar_callV_if Try.call36 c_made rfl rfl rfl rfl rfl rfl (by simp) rfl (by rfl) (by simp) ?_
    | refine ar_callV Try.call40 (c_Do_op ho hr hm) rfl rfl rfl rfl rfl (by simp) (by rfl) (by simp) ?_
    | refine ar_callV_if Try.call40 (c_Do_op ho hr hm) rfl rfl rfl rfl rfl rfl (by simp) rfl (by rfl) (by simp) ?_
    | refine ar_callV Try.call40 (c_Do_op (op := 3) h33 hr2 hm2) rfl rfl rfl rfl rfl (by simp) (by rfl) (by simp) ?_
    | refine ar_callV_if Try.call40 (c_Do_op (op := 3) h33 hr2 hm2) rfl rfl rfl rfl rfl rfl (by simp) rfl (by rfl) (by simp) ?_
    | refine ar_callV Try.call40 c_Do_mov rfl rfl rfl rfl rfl (by simp) (by rfl) (by simp) ?_
    | refine ar_callV_if Try.call40 c_Do_mov rfl rfl rfl rfl rfl rfl (by simp) rfl (by rfl) (by simp) ?_
    | refine ar_go2 _ rfl (by simp [eD, eA, eB, hO, hA, hA2, hB, hB2, iA, iB, hMM, wrap64s]; exact ⟨rfl, rfl, rfl⟩) rfl ?_
    | refine aw_sregK 0 [0, 1, 2, 3, 4] ?_
    | refine aw_regK 0 [0, 1, 2, 3, 4] ?_
    | refine aw_sregK 1 [1, 2, 3, 4, 5] ?_
    | refine aw_regK 1 [1, 2, 3, 4, 5] ?_
    | refine aw_sregK 2 [1, 2, 3, 4, 5, 11] ?_
    | refine aw_regK 2 [1, 2, 3, 4, 5, 11] ?_
    | refine aw_sregKD mixed 3 [5, 11, 12] (by simp; exact rfl) ?_
    | refine aw_regKD mixed 3 [5, 11, 12] (by simp; exact rfl) ?_
    | refine aw_sregK 4 [5, 11, 12, 13] ?_
    | refine aw_regK 4 [5, 11, 12, 13] ?_
    | refine aw_sregK 5 [5, 11, 12, 13, 14] ?_
    | refine aw_regK 5 [5, 11, 12, 13, 14] ?_
    | refine aw_sregK 6 [5, 11, 12, 13, 14] ?_
    | refine aw_regK 6 [5, 11, 12, 13, 14] ?_
    | refine aw_sregKD mixed 7 [5, 11, 12, 13, 14] (by simp; exact rfl) ?_
    | refine aw_regKD mixed 7 [5, 11, 12, 13, 14] (by simp; exact rfl) ?_
    | refine aw_sregK 8 [] ?_
    | refine aw_regK 8 [] ?_
    | refine aw_sregKD mixed 9 [5, 11, 12, 13] (by simp; exact rfl) ?_
    | refine aw_regKD mixed 9 [5, 11, 12, 13] (by simp; exact rfl) ?_
    | refine aw_sregKD mixed 10 [5, 11, 12, 13, 15] (by simp; exact rfl) ?_
    | refine aw_regKD mixed 10 [5, 11, 12, 13, 15] (by simp; exact rfl) ?_
    | refine aw_sregKD mixed 11 [5, 11, 12, 13, 15, 16] (by simp; exact rfl) ?_
    | refine aw_regKD mixed 11 [5, 11, 12, 13, 15, 16] (by simp; exact rfl) ?_
    | refine aw_sreg ?_
    | refine aw_sregD mixed ?_
    | refine aw_ifT (b := true) rfl rfl ?_
    | refine aw_ifF (b := false) rfl rfl ?_
    | refine aw_ifT rfl (decide_eq_true (by assumption)) ?_
    | refine aw_ifF rfl (decide_eq_false (by assumption)) ?_
    | refine aw_rounds 5 ?_
    | refine awr_step ?_
    | refine aw_seq ?_
    | refine aw_block ?_
    | refine aw_skip ?_
    | refine aw_region ?_
    | refine aw_region_draw mixed ?_
    | refine aw_exit ?_
    | refine rq_exit ?_
    | refine blockQ_hit ?_
    | refine blockQ_miss (by decide) ?_
    | (refine ar_guard rfl rfl rfl rfl (fun h => ?_) (fun h => ?_) <;> (fail_if_success (cases h; done)) <;> (try simp at h))
    | (refine aw_both rfl (fun h => ?_) (fun h => ?_) <;> (fail_if_success (cases h; done)) <;> (try simp at h)))
set_option maxHeartbeats 4000000 in
theorem law_RegsHang_3 {v0 v1 v2 v3 d0 d1 d2 d3 d a b op0 op A Bb R M da db : Int} (hO : IntKind.wrap .i64 (2 + IntKind.wrap .i64 (op0.tmod 3)) = op) (eD : IntKind.wrap .i64 (d.tmod 4) = 3) (eA : IntKind.wrap .i64 (a.tmod 4) = A) (eB : IntKind.wrap .i64 (b.tmod 4) = Bb)
    (hA : 0 ≤ A) (hA2 : A.toNat < 4) (hB : 0 ≤ Bb) (hB2 : Bb.toNat < 4)
    (iA : ([I .i64 v0, I .i64 v1, I .i64 v2, I .i64 v3, I .u32 d0, I .u32 d1, I .u32 d2, I .u32 d3] : List AV)[4 + A.toNat]? = some (I .u32 da)) (iB : ([I .i64 v0, I .i64 v1, I .i64 v2, I .i64 v3, I .u32 d0, I .u32 d1, I .u32 d2, I .u32 d3] : List AV)[4 + Bb.toNat]? = some (I .u32 db)) (hMM : bits .or .u32 da db = M)
    (ho : op = 2 ∨ op = 3 ∨ op = 4) (h33 : (3 : Int) = 2 ∨ (3 : Int) = 3 ∨ (3 : Int) = 4) (hr : opF op (get4 v0 v1 v2 v3 0 A) (get4 v0 v1 v2 v3 0 Bb) = R) (hm : bits .or .u32 (get4 d0 d1 d2 d3 0 A) (get4 d0 d1 d2 d3 0 Bb) = M)
    (hr2 : opF 3 (get4 v0 v1 v2 v3 0 A) (get4 v0 v1 v2 v3 0 A) = 0) (hm2 : bits .or .u32 (get4 d0 d1 d2 d3 0 A) (get4 d0 d1 d2 d3 0 A) = da) :
    SC Try.prog 5 [.agg (fileL v0 v1 v2 v3 d0 d1 d2 d3), I .u8 d, I .u8 a, I .u8 b, I .u8 op0] (B true) := by
  refine scx_of Try.func5 rfl rfl rfl (Nat.le_of_ble_eq_true rfl) ?_
  repeat' (first
    | exact aw_ret (ret_vals (by simp; exact rfl) (by simp [*]))
    | refine ar_end rfl ?_
    | refine ar_endD rfl (by kernel_rfl) ?_
    | refine ar_fin rfl ?_
    | refine ar_finD rfl (by kernel_rfl) ?_
    | refine ar_callV Try.call34 c_shown7 rfl rfl rfl rfl rfl (by simp) (by rfl) (by simp) ?_
    | refine ar_callV_if Try.call34 c_shown7 rfl rfl rfl rfl rfl rfl (by simp) rfl (by rfl) (by simp) ?_
    | refine ar_callV Try.call36 c_made rfl rfl rfl rfl rfl (by simp) (by rfl) (by simp) ?_
    | refine ar_callV_if Try.call36 c_made rfl rfl rfl rfl rfl rfl (by simp) rfl (by rfl) (by simp) ?_
    | refine ar_callV Try.call40 (c_Do_op ho hr hm) rfl rfl rfl rfl rfl (by simp) (by rfl) (by simp) ?_
    | refine ar_callV_if Try.call40 (c_Do_op ho hr hm) rfl rfl rfl rfl rfl rfl (by simp) rfl (by rfl) (by simp) ?_
    | refine ar_callV Try.call40 (c_Do_op (op := 3) h33 hr2 hm2) rfl rfl rfl rfl rfl (by simp) (by rfl) (by simp) ?_
    | refine ar_callV_if Try.call40 (c_Do_op (op := 3) h33 hr2 hm2) rfl rfl rfl rfl rfl rfl (by simp) rfl (by rfl) (by simp) ?_
    | refine ar_callV Try.call40 c_Do_mov rfl rfl rfl rfl rfl (by simp) (by rfl) (by simp) ?_
    | refine ar_callV_if Try.call40 c_Do_mov rfl rfl rfl rfl rfl rfl (by simp) rfl (by rfl) (by simp) ?_
    | refine ar_go2 _ rfl (by simp [eD, eA, eB, hO, hA, hA2, hB, hB2, iA, iB, hMM, wrap64s]; exact ⟨rfl, rfl, rfl⟩) rfl ?_
    | refine aw_sregK 0 [0, 1, 2, 3, 4] ?_
    | refine aw_regK 0 [0, 1, 2, 3, 4] ?_
    | refine aw_sregK 1 [1, 2, 3, 4, 5] ?_
    | refine aw_regK 1 [1, 2, 3, 4, 5] ?_
    | refine aw_sregK 2 [1, 2, 3, 4, 5, 11] ?_
    | refine aw_regK 2 [1, 2, 3, 4, 5, 11] ?_
    | refine aw_sregKD mixed 3 [5, 11, 12] (by simp; exact rfl) ?_
    | refine aw_regKD mixed 3 [5, 11, 12] (by simp; exact rfl) ?_
    | refine aw_sregK 4 [5, 11, 12, 13] ?_
    | refine aw_regK 4 [5, 11, 12, 13] ?_
    | refine aw_sregK 5 [5, 11, 12, 13, 14] ?_
    | refine aw_regK 5 [5, 11, 12, 13, 14] ?_
    | refine aw_sregK 6 [5, 11, 12, 13, 14] ?_
    | refine aw_regK 6 [5, 11, 12, 13, 14] ?_
    | refine aw_sregKD mixed 7 [5, 11, 12, 13, 14] (by simp; exact rfl) ?_
    | refine aw_regKD mixed 7 [5, 11, 12, 13, 14] (by simp; exact rfl) ?_
    | refine aw_sregK 8 [] ?_
    | refine aw_regK 8 [] ?_
    | refine aw_sregKD mixed 9 [5, 11, 12, 13] (by simp; exact rfl) ?_
    | refine aw_regKD mixed 9 [5, 11, 12, 13] (by simp; exact rfl) ?_
    | refine aw_sregKD mixed 10 [5, 11, 12, 13, 15] (by simp; exact rfl) ?_
    | refine aw_regKD mixed 10 [5, 11, 12, 13, 15] (by simp; exact rfl) ?_
    | refine aw_sregKD mixed 11 [5, 11, 12, 13, 15, 16] (by simp; exact rfl) ?_
    | refine aw_regKD mixed 11 [5, 11, 12, 13, 15, 16] (by simp; exact rfl) ?_
    | refine aw_sreg ?_
    | refine aw_sregD mixed ?_
    | refine aw_ifT (b := true) rfl rfl ?_
    | refine aw_ifF (b := false) rfl rfl ?_
    | refine aw_ifT rfl (decide_eq_true (by assumption)) ?_
    | refine aw_ifF rfl (decide_eq_false (by assumption)) ?_
    | refine aw_rounds 5 ?_
    | refine awr_step ?_
    | refine aw_seq ?_
    | refine aw_block ?_
    | refine aw_skip ?_
    | refine aw_region ?_
    | refine aw_region_draw mixed ?_
    | refine aw_exit ?_
    | refine rq_exit ?_
    | refine blockQ_hit ?_
    | refine blockQ_miss (by decide) ?_
    | (refine ar_guard rfl rfl rfl rfl (fun h => ?_) (fun h => ?_) <;> (fail_if_success (cases h; done)) <;> (try simp at h))
    | (refine aw_both rfl (fun h => ?_) (fun h => ?_) <;> (fail_if_success (cases h; done)) <;> (try simp at h)))
theorem law_RegsHang {v0 v1 v2 v3 d0 d1 d2 d3 d a b op : Int} (h0 : W64 v0) (h1 : W64 v1) (h2 : W64 v2) (h3 : W64 v3) (k0 : W32 d0) (k1 : W32 d1) (k2 : W32 d2) (k3 : W32 d3)
    (hd : (Lit.int .u8 d).wf = true) (ha : (Lit.int .u8 a).wf = true) (hb : (Lit.int .u8 b).wf = true) (ho : (Lit.int .u8 op).wf = true) :
    SC Try.prog 5 [.agg (fileL v0 v1 v2 v3 d0 d1 d2 d3), I .u8 d, I .u8 a, I .u8 b, I .u8 op] (B true) := by
  have D := four (mod4 hd).1
  have A := mod4 ha
  have E := mod4 hb
  have ga := w32 (W32.get4 (n := IntKind.wrap .i64 (a.tmod 4)) k0 k1 k2 k3)
  have x3 : ∀ x, opF 3 x x = 0 := fun x => by simp [opF, xor_self64]
  rcases D with e | e | e | e
  · exact law_RegsHang_0 rfl e rfl rfl A.2.1 A.2.2 E.2.1 E.2.2 (idx8 A.1).2 (idx8 E.1).2 rfl (mod3 ho) (by simp) rfl rfl (x3 _) (or_self32 ga)
  · exact law_RegsHang_1 rfl e rfl rfl A.2.1 A.2.2 E.2.1 E.2.2 (idx8 A.1).2 (idx8 E.1).2 rfl (mod3 ho) (by simp) rfl rfl (x3 _) (or_self32 ga)
  · exact law_RegsHang_2 rfl e rfl rfl A.2.1 A.2.2 E.2.1 E.2.2 (idx8 A.1).2 (idx8 E.1).2 rfl (mod3 ho) (by simp) rfl rfl (x3 _) (or_self32 ga)
  · exact law_RegsHang_3 rfl e rfl rfl A.2.1 A.2.2 E.2.1 E.2.2 (idx8 A.1).2 (idx8 E.1).2 rfl (mod3 ho) (by simp) rfl rfl (x3 _) (or_self32 ga)
end Go.Eng
