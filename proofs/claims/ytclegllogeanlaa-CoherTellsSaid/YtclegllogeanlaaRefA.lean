import Derived.Test.YtclegllogeanlaaCohD
import Derived.Test.YtclegllogeanlaaCohE
set_option linter.unusedSimpArgs false
set_option linter.unusedVariables false
set_option linter.constructorNameAsVariable false
set_option autoImplicit false
namespace Go.Eng
open Go Go.RowKit Go.Proofs
/-! ## The document's relations: contracts -/
theorem ub_dbl (i : Nat) : IntKind.wrap .u32 (2 * ub (1#32 <<< i)) = ub (1#32 <<< (i + 1)) := by
  rw [BitVec.shiftLeft_add]
  have h : ((1#32 <<< i) <<< 1).toNat = (2 * (1#32 <<< i).toNat) % 4294967296 := by
    rw [BitVec.toNat_shiftLeft, Nat.shiftLeft_eq]; omega
  have hz : ∀ n : Int, IntKind.wrap .u32 n = n % 4294967296 := fun n => by simp [IntKind.wrap, IntKind.bits, IntKind.signed]
  rw [hz]
  unfold ub
  rw [h]
  omega
theorem ub_half (x : Wd) (i : Nat) : IntKind.wrap .u32 ((ub (x >>> i)).tdiv 2) = ub (x >>> (i + 1)) := by
  have h : (x >>> (i + 1)).toNat = (x >>> i).toNat / 2 := by
    rw [BitVec.toNat_ushiftRight, BitVec.toNat_ushiftRight, Nat.shiftRight_add]; omega
  have hz : ∀ n : Int, IntKind.wrap .u32 n = n % 4294967296 := fun n => by simp [IntKind.wrap, IntKind.bits, IntKind.signed]
  have hb := (x >>> i).isLt
  rw [hz]
  unfold ub
  rw [h, Int.tdiv_eq_ediv_of_nonneg (by omega)]
  omega
theorem ub_odd (x : Wd) (k : Nat) : ((ub (x >>> k)).tmod 2 = 1) ↔ x.getLsbD k = true := by
  have h : x.getLsbD k = (x >>> k).getLsbD 0 := by rw [BitVec.getLsbD_ushiftRight]; simp
  rw [h]
  unfold ub
  rw [Int.tmod_eq_emod_of_nonneg (by omega)]
  show _ ↔ (x >>> k).toNat.testBit 0 = true
  rw [Nat.testBit_zero]
  simp only [decide_eq_true_eq]
  omega
theorem ub_addor {a : Wd} {k : Nat} (hk : k < 32) (h : a.getLsbD k = false) : IntKind.wrap .u32 (ub a + ub (1#32 <<< k)) = ub (a ||| 1#32 <<< k) := by
  have hd : a &&& 1#32 <<< k = 0#32 := wd_ext fun j hj => by
    rw [and_bit, shl1_bit]
    by_cases e : j = k
    · subst e; simp [h]
    · simp [e]
  rw [← BitVec.add_eq_or_of_and_eq_zero _ _ hd]
  have hz : ∀ n : Int, IntKind.wrap .u32 n = n % 4294967296 := fun n => by simp [IntKind.wrap, IntKind.bits, IntKind.signed]
  rw [hz]
  unfold ub
  rw [BitVec.toNat_add]
  omega
set_option maxHeartbeats 16000000 in
theorem c_rpower {k : Nat} (hk : k ≤ 1000) : SC Try.prog 87 [I .i64 k] (I .u32 (ub (1#32 <<< k))) := by
  refine scx_of Try.func87 rfl rfl rfl (Nat.le_of_ble_eq_true rfl) ?_
  repeat' (first
    | refine ar_end rfl ?_
    | refine ar_endD rfl (by kernel_rfl) ?_
    | refine ar_fin rfl ?_
    | refine ar_finD rfl (by kernel_rfl) ?_
    | refine ar_go3 _ rfl (by simp [*]; exact ⟨rfl, rfl, rfl⟩) rfl ?_
    | refine aw_sregK 0 [0] ?_
    | refine aw_regK 0 [0] ?_
    | refine aw_sregK 1 [0] ?_
    | refine aw_regK 1 [0] ?_
    | refine aw_sregK 2 [0, 3] ?_
    | refine aw_regK 2 [0, 3] ?_
    | refine aw_sreg ?_
    | refine aw_sregD mixed ?_
    | refine aw_ifT (b := true) rfl rfl ?_
    | refine aw_ifF (b := false) rfl rfl ?_
    | refine aw_ifT rfl (by assumption) ?_
    | refine aw_ifF rfl (by assumption) ?_
    | refine aw_ifT rfl (decide_eq_true (by assumption)) ?_
    | refine aw_ifF rfl (decide_eq_false (by assumption)) ?_
    | refine aw_seq ?_
    | refine aw_block ?_
    | refine aw_skip ?_
    | refine aw_region ?_
    | refine aw_region_draw mixed ?_
    | refine aw_exit ?_
    | refine rq_exit ?_
    | refine blockQ_hit ?_
    | refine blockQ_miss (by decide) ?_
    | (refine ar_guard rfl rfl rfl rfl (fun h => ?_) (fun h => ?_) <;> (fail_if_success (cases h; done)) <;> (try simp at h) <;> (try subst h))
    | (refine aw_both rfl (fun h => ?_) (fun h => ?_) <;> (fail_if_success (cases h; done)) <;> (try simp at h) <;> (try subst h)))
  refine aw_loopN [0, 3, 4] [] (by simp; exact rfl) (ι := {i : Nat // i ≤ k}) (fun i => ⟨13, [(0, I .i64 k), (3, I .u32 (ub (1#32 <<< i.1))), (4, I .i64 i.1)], []⟩) (fun i => k - i.1) ⟨0, by omega⟩ (by simp [ub]) ?_
  rintro ⟨i, hi⟩
  by_cases hlt : i < k
  · have hw : IntKind.wrap .i64 ((i : Int) + 1) = (i : Int) + 1 := wrap64s (by omega) (by omega)
    have hd : (i : Int) < (k : Int) := by omega
    have hdb := ub_dbl i
    generalize 1#32 <<< i = p at *
    generalize hq : 1#32 <<< (i + 1) = q at *
    repeat' (first
      | refine ar_end rfl ?_
      | refine ar_endD rfl (by kernel_rfl) ?_
      | refine ar_fin rfl ?_
      | refine ar_finD rfl (by kernel_rfl) ?_
      | refine bq_norm ?_
      | refine lq_normN [0, 3, 4] [] (by simp; exact rfl) ⟨i + 1, by omega⟩ (by dsimp only; omega) (by simp [hq])
      | refine ar_go3 _ rfl (by simp [hd, hw, hdb]; exact ⟨rfl, rfl, rfl⟩) rfl ?_
      | refine aw_sregK 3 [0, 3, 4] ?_
      | refine aw_regK 3 [0, 3, 4] ?_
      | refine aw_sregK 4 [0, 3, 4] ?_
      | refine aw_regK 4 [0, 3, 4] ?_
      | refine aw_sregK 5 [0, 3, 4] ?_
      | refine aw_regK 5 [0, 3, 4] ?_
      | refine aw_sreg ?_
      | refine aw_sregD mixed ?_
      | refine aw_ifT (b := true) rfl rfl ?_
      | refine aw_ifF (b := false) rfl rfl ?_
      | refine aw_ifT rfl (by assumption) ?_
      | refine aw_ifF rfl (by assumption) ?_
      | refine aw_ifT rfl (decide_eq_true (by assumption)) ?_
      | refine aw_ifF rfl (decide_eq_false (by assumption)) ?_
      | refine aw_seq ?_
      | refine aw_block ?_
      | refine aw_skip ?_
      | refine aw_region ?_
      | refine aw_region_draw mixed ?_
      | refine aw_exit ?_
      | refine rq_exit ?_
      | refine blockQ_hit ?_
      | refine blockQ_miss (by decide) ?_
      | (refine ar_guard rfl rfl rfl rfl (fun h => ?_) (fun h => ?_) <;> (fail_if_success (cases h; done)) <;> (try simp at h) <;> (try subst h))
      | (refine aw_both rfl (fun h => ?_) (fun h => ?_) <;> (fail_if_success (cases h; done)) <;> (try simp at h) <;> (try subst h)))
  · have hd : ¬(i : Int) < (k : Int) := by omega
    have hie : i = k := by omega
    subst hie
    repeat' (first
      | exact aw_ret (ret_vals (by simp; exact rfl) (by simp [*]; fail_if_success (show _)))
      | exact aw_ret (ret_vals (by simp; exact rfl) (by simp [*]; omega))
      | refine ar_end rfl ?_
      | refine ar_endD rfl (by kernel_rfl) ?_
      | refine ar_fin rfl ?_
      | refine ar_finD rfl (by kernel_rfl) ?_
      | refine lq_exit ?_
      | refine ar_go3 _ rfl (by simp [hd]; exact ⟨rfl, rfl, rfl⟩) rfl ?_
      | refine aw_sregK 3 [0, 3, 4] ?_
      | refine aw_regK 3 [0, 3, 4] ?_
      | refine aw_sregK 6 [3] ?_
      | refine aw_regK 6 [3] ?_
      | refine aw_sreg ?_
      | refine aw_sregD mixed ?_
      | refine aw_ifT (b := true) rfl rfl ?_
      | refine aw_ifF (b := false) rfl rfl ?_
      | refine aw_ifT rfl (by assumption) ?_
      | refine aw_ifF rfl (by assumption) ?_
      | refine aw_ifT rfl (decide_eq_true (by assumption)) ?_
      | refine aw_ifF rfl (decide_eq_false (by assumption)) ?_
      | refine aw_seq ?_
      | refine aw_block ?_
      | refine aw_skip ?_
      | refine aw_region ?_
      | refine aw_region_draw mixed ?_
      | refine aw_exit ?_
      | refine rq_exit ?_
      | refine blockQ_hit ?_
      | refine blockQ_miss (by decide) ?_
      | (refine ar_guard rfl rfl rfl rfl (fun h => ?_) (fun h => ?_) <;> (fail_if_success (cases h; done)) <;> (try simp at h) <;> (try subst h))
      | (refine aw_both rfl (fun h => ?_) (fun h => ?_) <;> (fail_if_success (cases h; done)) <;> (try simp at h) <;> (try subst h)))
set_option maxHeartbeats 16000000 in
theorem c_rbit {x : Wd} {k : Nat} (hk : k ≤ 1000) : SC Try.prog 91 [I .u32 (ub x), I .i64 k] (B (x.getLsbD k)) := by
  refine scx_of Try.func91 rfl rfl rfl (Nat.le_of_ble_eq_true rfl) ?_
  repeat' (first
    | refine ar_end rfl ?_
    | refine ar_endD rfl (by kernel_rfl) ?_
    | refine ar_fin rfl ?_
    | refine ar_finD rfl (by kernel_rfl) ?_
    | refine ar_go3 _ rfl (by simp [*]; exact ⟨rfl, rfl, rfl⟩) rfl ?_
    | refine aw_sregK 0 [0, 1] ?_
    | refine aw_regK 0 [0, 1] ?_
    | refine aw_sregK 1 [0, 1] ?_
    | refine aw_regK 1 [0, 1] ?_
    | refine aw_sreg ?_
    | refine aw_sregD mixed ?_
    | refine aw_ifT (b := true) rfl rfl ?_
    | refine aw_ifF (b := false) rfl rfl ?_
    | refine aw_ifT rfl (by assumption) ?_
    | refine aw_ifF rfl (by assumption) ?_
    | refine aw_ifT rfl (decide_eq_true (by assumption)) ?_
    | refine aw_ifF rfl (decide_eq_false (by assumption)) ?_
    | refine aw_seq ?_
    | refine aw_block ?_
    | refine aw_skip ?_
    | refine aw_region ?_
    | refine aw_region_draw mixed ?_
    | refine aw_exit ?_
    | refine rq_exit ?_
    | refine blockQ_hit ?_
    | refine blockQ_miss (by decide) ?_
    | (refine ar_guard rfl rfl rfl rfl (fun h => ?_) (fun h => ?_) <;> (fail_if_success (cases h; done)) <;> (try simp at h) <;> (try subst h))
    | (refine aw_both rfl (fun h => ?_) (fun h => ?_) <;> (fail_if_success (cases h; done)) <;> (try simp at h) <;> (try subst h)))
  refine aw_loopN [0, 1, 5] [] (by simp; exact rfl) (ι := {i : Nat // i ≤ k}) (fun i => ⟨16, [(0, I .u32 (ub (x >>> i.1))), (1, I .i64 k), (5, I .i64 i.1)], []⟩) (fun i => k - i.1) ⟨0, by omega⟩ (by simp) ?_
  rintro ⟨i, hi⟩
  by_cases hlt : i < k
  · have hw : IntKind.wrap .i64 ((i : Int) + 1) = (i : Int) + 1 := wrap64s (by omega) (by omega)
    have hd : (i : Int) < (k : Int) := by omega
    have hdb := ub_half x i
    have hdb2 : IntKind.wrap .u32 (((x >>> i).toNat : Int) / 2) = ub (x >>> (i + 1)) := by
      rw [← hdb]; unfold ub; rw [Int.tdiv_eq_ediv_of_nonneg (by omega)]
    generalize x >>> i = p at *
    generalize hq : x >>> (i + 1) = q at *
    repeat' (first
      | refine ar_end rfl ?_
      | refine ar_endD rfl (by kernel_rfl) ?_
      | refine ar_fin rfl ?_
      | refine ar_finD rfl (by kernel_rfl) ?_
      | refine bq_norm ?_
      | refine lq_normN [0, 1, 5] [] (by simp; exact rfl) ⟨i + 1, by omega⟩ (by dsimp only; omega) (by simp [hq])
      | refine ar_go3 _ rfl (by simp [hd, hw, hdb, hdb2]; exact ⟨rfl, rfl, rfl⟩) rfl ?_
      | refine aw_sregK 2 [0, 1, 5] ?_
      | refine aw_regK 2 [0, 1, 5] ?_
      | refine aw_sregK 3 [0, 1, 5] ?_
      | refine aw_regK 3 [0, 1, 5] ?_
      | refine aw_sregK 4 [0, 1, 5] ?_
      | refine aw_regK 4 [0, 1, 5] ?_
      | refine aw_sreg ?_
      | refine aw_sregD mixed ?_
      | refine aw_ifT (b := true) rfl rfl ?_
      | refine aw_ifF (b := false) rfl rfl ?_
      | refine aw_ifT rfl (by assumption) ?_
      | refine aw_ifF rfl (by assumption) ?_
      | refine aw_ifT rfl (decide_eq_true (by assumption)) ?_
      | refine aw_ifF rfl (decide_eq_false (by assumption)) ?_
      | refine aw_seq ?_
      | refine aw_block ?_
      | refine aw_skip ?_
      | refine aw_region ?_
      | refine aw_region_draw mixed ?_
      | refine aw_exit ?_
      | refine rq_exit ?_
      | refine blockQ_hit ?_
      | refine blockQ_miss (by decide) ?_
      | (refine ar_guard rfl rfl rfl rfl (fun h => ?_) (fun h => ?_) <;> (fail_if_success (cases h; done)) <;> (try simp at h) <;> (try subst h))
      | (refine aw_both rfl (fun h => ?_) (fun h => ?_) <;> (fail_if_success (cases h; done)) <;> (try simp at h) <;> (try subst h)))
  · have hd : ¬(i : Int) < (k : Int) := by omega
    have hie : i = k := by omega
    subst hie
    have ho := ub_odd x i
    generalize x >>> i = p at *
    cases hb : x.getLsbD i
    · rw [hb] at ho
      have ho' : ¬(ub p).tmod 2 = 1 := fun h => by cases ho.1 h
      repeat' (first
        | exact aw_ret (ret_vals (by simp; exact rfl) (by simp [*]; fail_if_success (show _)))
        | exact aw_ret (ret_vals (by simp; exact rfl) (by simp [*]; omega))
        | refine ar_end rfl ?_
        | refine ar_endD rfl (by kernel_rfl) ?_
        | refine ar_fin rfl ?_
        | refine ar_finD rfl (by kernel_rfl) ?_
        | refine lq_exit ?_
        | refine ar_go3 _ rfl (by simp [hd, ho']; exact ⟨rfl, rfl, rfl⟩) rfl ?_
        | refine aw_sregK 2 [0, 1, 5] ?_
        | refine aw_regK 2 [0, 1, 5] ?_
        | refine aw_sregK 5 [0] ?_
        | refine aw_regK 5 [0] ?_
        | refine aw_sreg ?_
        | refine aw_sregD mixed ?_
        | refine aw_ifT (b := true) rfl rfl ?_
        | refine aw_ifF (b := false) rfl rfl ?_
        | refine aw_ifT rfl (by assumption) ?_
        | refine aw_ifF rfl (by assumption) ?_
        | refine aw_ifT rfl (decide_eq_true (by assumption)) ?_
        | refine aw_ifF rfl (decide_eq_false (by assumption)) ?_
        | refine aw_seq ?_
        | refine aw_block ?_
        | refine aw_skip ?_
        | refine aw_region ?_
        | refine aw_region_draw mixed ?_
        | refine aw_exit ?_
        | refine rq_exit ?_
        | refine blockQ_hit ?_
        | refine blockQ_miss (by decide) ?_
        | (refine ar_guard rfl rfl rfl rfl (fun h => ?_) (fun h => ?_) <;> (fail_if_success (cases h; done)) <;> (try simp at h) <;> (try subst h))
        | (refine aw_both rfl (fun h => ?_) (fun h => ?_) <;> (fail_if_success (cases h; done)) <;> (try simp at h) <;> (try subst h)))
    · have ho' := ho.2 hb
      repeat' (first
        | exact aw_ret (ret_vals (by simp; exact rfl) (by simp [*]; fail_if_success (show _)))
        | exact aw_ret (ret_vals (by simp; exact rfl) (by simp [*]; omega))
        | refine ar_end rfl ?_
        | refine ar_endD rfl (by kernel_rfl) ?_
        | refine ar_fin rfl ?_
        | refine ar_finD rfl (by kernel_rfl) ?_
        | refine lq_exit ?_
        | refine ar_go3 _ rfl (by simp [hd, ho']; exact ⟨rfl, rfl, rfl⟩) rfl ?_
        | refine aw_sregK 2 [0, 1, 5] ?_
        | refine aw_regK 2 [0, 1, 5] ?_
        | refine aw_sregK 5 [0] ?_
        | refine aw_regK 5 [0] ?_
        | refine aw_sreg ?_
        | refine aw_sregD mixed ?_
        | refine aw_ifT (b := true) rfl rfl ?_
        | refine aw_ifF (b := false) rfl rfl ?_
        | refine aw_ifT rfl (by assumption) ?_
        | refine aw_ifF rfl (by assumption) ?_
        | refine aw_ifT rfl (decide_eq_true (by assumption)) ?_
        | refine aw_ifF rfl (decide_eq_false (by assumption)) ?_
        | refine aw_seq ?_
        | refine aw_block ?_
        | refine aw_skip ?_
        | refine aw_region ?_
        | refine aw_region_draw mixed ?_
        | refine aw_exit ?_
        | refine rq_exit ?_
        | refine blockQ_hit ?_
        | refine blockQ_miss (by decide) ?_
        | (refine ar_guard rfl rfl rfl rfl (fun h => ?_) (fun h => ?_) <;> (fail_if_success (cases h; done)) <;> (try simp at h) <;> (try subst h))
        | (refine aw_both rfl (fun h => ?_) (fun h => ?_) <;> (fail_if_success (cases h; done)) <;> (try simp at h) <;> (try subst h)))
def rsize (r : RL) : Nat := if 32 < r.length then 0 else r.length
theorem rsize_clean (r : RL) : rsize r = (cleanR r).length := by
  unfold rsize cleanR; split <;> simp
theorem rsize_le (r : RL) : rsize r ≤ 32 ∧ rsize r ≤ r.length := by unfold rsize; split <;> omega
set_option maxHeartbeats 16000000 in
theorem c_rsize {r : RL} : SC Try.prog 89 [.pv (.sl 1 (rl r))] (I .i64 (rsize r)) := by
  unfold rsize
  refine scx_of Try.func89 rfl rfl rfl (Nat.le_of_ble_eq_true rfl) ?_
  by_cases h : 32 < r.length
  · rw [if_pos h]
    have h' : (32 : Int) < (r.length : Int) := by omega
    repeat' (first
      | exact aw_ret (ret_vals (by simp; exact rfl) (by simp [*]; fail_if_success (show _)))
      | exact aw_ret (ret_vals (by simp; exact rfl) (by simp [*]; omega))
      | refine ar_end rfl ?_
      | refine ar_endD rfl (by kernel_rfl) ?_
      | refine ar_fin rfl ?_
      | refine ar_finD rfl (by kernel_rfl) ?_
      | refine ar_go3 _ rfl (by simp [rl_len, rl_getE, rl_set, rl_nil, List.length_set, List.getElem_set, IntKind.bits, ub_shl1', ub_shr, ub_or, ub_and, ub_andNot, ub_bit, Int.toNat_natCast, ub_zero, h']; exact ⟨rfl, rfl, rfl⟩) rfl ?_
      | refine aw_sregK 0 [0] ?_
      | refine aw_regK 0 [0] ?_
      | refine aw_sregK 1 [0] ?_
      | refine aw_regK 1 [0] ?_
      | refine aw_sregK 2 [] ?_
      | refine aw_regK 2 [] ?_
      | refine aw_sregK 3 [0] ?_
      | refine aw_regK 3 [0] ?_
      | refine aw_sreg ?_
      | refine aw_sregD mixed ?_
      | refine aw_ifT (b := true) rfl rfl ?_
      | refine aw_ifF (b := false) rfl rfl ?_
      | refine aw_ifT rfl (by assumption) ?_
      | refine aw_ifF rfl (by assumption) ?_
      | refine aw_ifT rfl (decide_eq_true (by assumption)) ?_
      | refine aw_ifF rfl (decide_eq_false (by assumption)) ?_
      | refine aw_seq ?_
      | refine aw_block ?_
      | refine aw_skip ?_
      | refine aw_region ?_
      | refine aw_region_draw mixed ?_
      | refine aw_exit ?_
      | refine rq_exit ?_
      | refine blockQ_hit ?_
      | refine blockQ_miss (by decide) ?_
      | (refine ar_guard rfl rfl rfl rfl (fun h => ?_) (fun h => ?_) <;> (fail_if_success (cases h; done)) <;> (try simp at h) <;> (try subst h))
      | (refine aw_both rfl (fun h => ?_) (fun h => ?_) <;> (fail_if_success (cases h; done)) <;> (try simp at h) <;> (try subst h)))
  · rw [if_neg h]
    have h' : ¬(32 : Int) < (r.length : Int) := by omega
    repeat' (first
      | exact aw_ret (ret_vals (by simp; exact rfl) (by simp [*]; fail_if_success (show _)))
      | exact aw_ret (ret_vals (by simp; exact rfl) (by simp [*]; omega))
      | refine ar_end rfl ?_
      | refine ar_endD rfl (by kernel_rfl) ?_
      | refine ar_fin rfl ?_
      | refine ar_finD rfl (by kernel_rfl) ?_
      | refine ar_go3 _ rfl (by simp [rl_len, rl_getE, rl_set, rl_nil, List.length_set, List.getElem_set, IntKind.bits, ub_shl1', ub_shr, ub_or, ub_and, ub_andNot, ub_bit, Int.toNat_natCast, ub_zero, h']; exact ⟨rfl, rfl, rfl⟩) rfl ?_
      | refine aw_sregK 0 [0] ?_
      | refine aw_regK 0 [0] ?_
      | refine aw_sregK 1 [0] ?_
      | refine aw_regK 1 [0] ?_
      | refine aw_sregK 2 [] ?_
      | refine aw_regK 2 [] ?_
      | refine aw_sregK 3 [0] ?_
      | refine aw_regK 3 [0] ?_
      | refine aw_sreg ?_
      | refine aw_sregD mixed ?_
      | refine aw_ifT (b := true) rfl rfl ?_
      | refine aw_ifF (b := false) rfl rfl ?_
      | refine aw_ifT rfl (by assumption) ?_
      | refine aw_ifF rfl (by assumption) ?_
      | refine aw_ifT rfl (decide_eq_true (by assumption)) ?_
      | refine aw_ifF rfl (decide_eq_false (by assumption)) ?_
      | refine aw_seq ?_
      | refine aw_block ?_
      | refine aw_skip ?_
      | refine aw_region ?_
      | refine aw_region_draw mixed ?_
      | refine aw_exit ?_
      | refine rq_exit ?_
      | refine blockQ_hit ?_
      | refine blockQ_miss (by decide) ?_
      | (refine ar_guard rfl rfl rfl rfl (fun h => ?_) (fun h => ?_) <;> (fail_if_success (cases h; done)) <;> (try simp at h) <;> (try subst h))
      | (refine aw_both rfl (fun h => ?_) (fun h => ?_) <;> (fail_if_success (cases h; done)) <;> (try simp at h) <;> (try subst h)))
theorem has_size (r : RL) (i k : Int) : hasR r i k = (decide (0 ≤ i) && decide (i < rsize r) && decide (0 ≤ k) && decide (k < rsize r) && bitR r i.toNat k.toNat) := by
  unfold hasR inR rsize
  by_cases h : 32 < r.length
  · rw [if_pos h, decide_eq_false (by omega)]
    by_cases h0 : 0 ≤ i
    · rw [decide_eq_false (show ¬i < ((0 : Nat) : Int) by omega)]; simp
    · simp [h0]
  · rw [if_neg h, decide_eq_true (show r.length ≤ 32 by omega)]; simp
set_option maxHeartbeats 16000000 in
theorem c_rhas {r : RL} {i k : Int} : SC Try.prog 68 [.pv (.sl 1 (rl r)), I .i64 i, I .i64 k] (B (hasR r i k)) := by
  have hN := c_rsize (r := r)
  have hle := rsize_le r
  rw [has_size]
  generalize rsize r = n at *
  refine scx_of Try.func68 rfl rfl rfl (Nat.le_of_ble_eq_true rfl) ?_
  by_cases h1 : 0 ≤ i
  · by_cases h2 : i < (n : Int)
    · by_cases h3 : 0 ≤ k
      · by_cases h4 : k < (n : Int)
        · obtain ⟨a, rfl⟩ : ∃ a : Nat, i = a := ⟨i.toNat, by omega⟩
          obtain ⟨b, rfl⟩ : ∃ b : Nat, k = b := ⟨k.toNat, by omega⟩
          have ha : a < r.length := by omega
          have hB := c_rbit (x := r[a]) (k := b) (by omega)
          have e : bitR r (a : Int).toNat (b : Int).toNat = (r[a]).getLsbD b := by
            rw [Int.toNat_natCast, Int.toNat_natCast]; unfold bitR; rw [getD_in _ _ ha]
          rw [e]
          generalize hx : r[a] = x at *
          repeat' (first
            | exact aw_ret (ret_vals (by simp; exact rfl) (by simp [h1, h2, h3, h4]; fail_if_success (show _)))
            | exact aw_ret (ret_vals (by simp; exact rfl) (by simp [h1, h2, h3, h4]; omega))
            | refine ar_end rfl ?_
            | refine ar_endD rfl (by kernel_rfl) ?_
            | refine ar_fin rfl ?_
            | refine ar_finD rfl (by kernel_rfl) ?_
            | refine ar_callV Try.call89 hN rfl rfl rfl rfl rfl (by simp; done) (by rfl) (by simp; done) ?_
            | refine ar_callV_if Try.call89 hN rfl rfl rfl rfl rfl rfl (by simp; done) rfl (by rfl) (by simp; done) ?_
            | refine ar_callV Try.call91 hB rfl rfl rfl rfl rfl (by simp; done) (by rfl) (by simp; done) ?_
            | refine ar_callV_if Try.call91 hB rfl rfl rfl rfl rfl rfl (by simp; done) rfl (by rfl) (by simp; done) ?_
            | refine ar_go3 _ rfl (by simp [rl_len, rl_getE, rl_set, rl_nil, List.length_set, List.getElem_set, IntKind.bits, ub_shl1', ub_shr, ub_or, ub_and, ub_andNot, ub_bit, Int.toNat_natCast, ub_zero, h1, h2, h3, h4, ha, hx]; exact ⟨rfl, rfl, rfl⟩) rfl ?_
            | refine aw_sregK 0 [0, 1, 2] ?_
            | refine aw_regK 0 [0, 1, 2] ?_
            | refine aw_sregK 1 [0, 1, 2] ?_
            | refine aw_regK 1 [0, 1, 2] ?_
            | refine aw_sregK 2 [0, 1, 2, 7] ?_
            | refine aw_regK 2 [0, 1, 2, 7] ?_
            | refine aw_sreg ?_
            | refine aw_sregD mixed ?_
            | refine aw_ifT (b := true) rfl rfl ?_
            | refine aw_ifF (b := false) rfl rfl ?_
            | refine aw_ifT rfl (by assumption) ?_
            | refine aw_ifF rfl (by assumption) ?_
            | refine aw_ifT rfl (decide_eq_true (by assumption)) ?_
            | refine aw_ifF rfl (decide_eq_false (by assumption)) ?_
            | refine aw_seq ?_
            | refine aw_block ?_
            | refine aw_skip ?_
            | refine aw_region ?_
            | refine aw_region_draw mixed ?_
            | refine aw_exit ?_
            | refine rq_exit ?_
            | refine blockQ_hit ?_
            | refine blockQ_miss (by decide) ?_
            | (refine ar_guard rfl rfl rfl rfl (fun h => ?_) (fun h => ?_) <;> (fail_if_success (cases h; done)) <;> (try simp at h) <;> (try subst h))
            | (refine aw_both rfl (fun h => ?_) (fun h => ?_) <;> (fail_if_success (cases h; done)) <;> (try simp at h) <;> (try subst h)))
        ·
          repeat' (first
            | exact aw_ret (ret_vals (by simp; exact rfl) (by simp [h1, h2, h3, h4]; fail_if_success (show _)))
            | exact aw_ret (ret_vals (by simp; exact rfl) (by simp [h1, h2, h3, h4]; omega))
            | refine ar_end rfl ?_
            | refine ar_endD rfl (by kernel_rfl) ?_
            | refine ar_fin rfl ?_
            | refine ar_finD rfl (by kernel_rfl) ?_
            | refine ar_callV Try.call89 hN rfl rfl rfl rfl rfl (by simp; done) (by rfl) (by simp; done) ?_
            | refine ar_callV_if Try.call89 hN rfl rfl rfl rfl rfl rfl (by simp; done) rfl (by rfl) (by simp; done) ?_
            | refine ar_go3 _ rfl (by simp [rl_len, rl_getE, rl_set, rl_nil, List.length_set, List.getElem_set, IntKind.bits, ub_shl1', ub_shr, ub_or, ub_and, ub_andNot, ub_bit, Int.toNat_natCast, ub_zero, h1, h2, h3, h4]; exact ⟨rfl, rfl, rfl⟩) rfl ?_
            | refine aw_sregK 0 [0, 1, 2] ?_
            | refine aw_regK 0 [0, 1, 2] ?_
            | refine aw_sregK 1 [0, 1, 2] ?_
            | refine aw_regK 1 [0, 1, 2] ?_
            | refine aw_sregK 2 [0, 1, 2, 7] ?_
            | refine aw_regK 2 [0, 1, 2, 7] ?_
            | refine aw_sreg ?_
            | refine aw_sregD mixed ?_
            | refine aw_ifT (b := true) rfl rfl ?_
            | refine aw_ifF (b := false) rfl rfl ?_
            | refine aw_ifT rfl (by assumption) ?_
            | refine aw_ifF rfl (by assumption) ?_
            | refine aw_ifT rfl (decide_eq_true (by assumption)) ?_
            | refine aw_ifF rfl (decide_eq_false (by assumption)) ?_
            | refine aw_seq ?_
            | refine aw_block ?_
            | refine aw_skip ?_
            | refine aw_region ?_
            | refine aw_region_draw mixed ?_
            | refine aw_exit ?_
            | refine rq_exit ?_
            | refine blockQ_hit ?_
            | refine blockQ_miss (by decide) ?_
            | (refine ar_guard rfl rfl rfl rfl (fun h => ?_) (fun h => ?_) <;> (fail_if_success (cases h; done)) <;> (try simp at h) <;> (try subst h))
            | (refine aw_both rfl (fun h => ?_) (fun h => ?_) <;> (fail_if_success (cases h; done)) <;> (try simp at h) <;> (try subst h)))
      ·
        repeat' (first
          | exact aw_ret (ret_vals (by simp; exact rfl) (by simp [h1, h2, h3]; fail_if_success (show _)))
          | exact aw_ret (ret_vals (by simp; exact rfl) (by simp [h1, h2, h3]; omega))
          | refine ar_end rfl ?_
          | refine ar_endD rfl (by kernel_rfl) ?_
          | refine ar_fin rfl ?_
          | refine ar_finD rfl (by kernel_rfl) ?_
          | refine ar_callV Try.call89 hN rfl rfl rfl rfl rfl (by simp; done) (by rfl) (by simp; done) ?_
          | refine ar_callV_if Try.call89 hN rfl rfl rfl rfl rfl rfl (by simp; done) rfl (by rfl) (by simp; done) ?_
          | refine ar_go3 _ rfl (by simp [rl_len, rl_getE, rl_set, rl_nil, List.length_set, List.getElem_set, IntKind.bits, ub_shl1', ub_shr, ub_or, ub_and, ub_andNot, ub_bit, Int.toNat_natCast, ub_zero, h1, h2, h3]; exact ⟨rfl, rfl, rfl⟩) rfl ?_
          | refine aw_sregK 0 [0, 1, 2] ?_
          | refine aw_regK 0 [0, 1, 2] ?_
          | refine aw_sregK 1 [0, 1, 2] ?_
          | refine aw_regK 1 [0, 1, 2] ?_
          | refine aw_sregK 2 [0, 1, 2, 7] ?_
          | refine aw_regK 2 [0, 1, 2, 7] ?_
          | refine aw_sreg ?_
          | refine aw_sregD mixed ?_
          | refine aw_ifT (b := true) rfl rfl ?_
          | refine aw_ifF (b := false) rfl rfl ?_
          | refine aw_ifT rfl (by assumption) ?_
          | refine aw_ifF rfl (by assumption) ?_
          | refine aw_ifT rfl (decide_eq_true (by assumption)) ?_
          | refine aw_ifF rfl (decide_eq_false (by assumption)) ?_
          | refine aw_seq ?_
          | refine aw_block ?_
          | refine aw_skip ?_
          | refine aw_region ?_
          | refine aw_region_draw mixed ?_
          | refine aw_exit ?_
          | refine rq_exit ?_
          | refine blockQ_hit ?_
          | refine blockQ_miss (by decide) ?_
          | (refine ar_guard rfl rfl rfl rfl (fun h => ?_) (fun h => ?_) <;> (fail_if_success (cases h; done)) <;> (try simp at h) <;> (try subst h))
          | (refine aw_both rfl (fun h => ?_) (fun h => ?_) <;> (fail_if_success (cases h; done)) <;> (try simp at h) <;> (try subst h)))
    ·
      repeat' (first
        | exact aw_ret (ret_vals (by simp; exact rfl) (by simp [h1, h2]; fail_if_success (show _)))
        | exact aw_ret (ret_vals (by simp; exact rfl) (by simp [h1, h2]; omega))
        | refine ar_end rfl ?_
        | refine ar_endD rfl (by kernel_rfl) ?_
        | refine ar_fin rfl ?_
        | refine ar_finD rfl (by kernel_rfl) ?_
        | refine ar_callV Try.call89 hN rfl rfl rfl rfl rfl (by simp; done) (by rfl) (by simp; done) ?_
        | refine ar_callV_if Try.call89 hN rfl rfl rfl rfl rfl rfl (by simp; done) rfl (by rfl) (by simp; done) ?_
        | refine ar_go3 _ rfl (by simp [rl_len, rl_getE, rl_set, rl_nil, List.length_set, List.getElem_set, IntKind.bits, ub_shl1', ub_shr, ub_or, ub_and, ub_andNot, ub_bit, Int.toNat_natCast, ub_zero, h1, h2]; exact ⟨rfl, rfl, rfl⟩) rfl ?_
        | refine aw_sregK 0 [0, 1, 2] ?_
        | refine aw_regK 0 [0, 1, 2] ?_
        | refine aw_sregK 1 [0, 1, 2] ?_
        | refine aw_regK 1 [0, 1, 2] ?_
        | refine aw_sregK 2 [0, 1, 2, 7] ?_
        | refine aw_regK 2 [0, 1, 2, 7] ?_
        | refine aw_sreg ?_
        | refine aw_sregD mixed ?_
        | refine aw_ifT (b := true) rfl rfl ?_
        | refine aw_ifF (b := false) rfl rfl ?_
        | refine aw_ifT rfl (by assumption) ?_
        | refine aw_ifF rfl (by assumption) ?_
        | refine aw_ifT rfl (decide_eq_true (by assumption)) ?_
        | refine aw_ifF rfl (decide_eq_false (by assumption)) ?_
        | refine aw_seq ?_
        | refine aw_block ?_
        | refine aw_skip ?_
        | refine aw_region ?_
        | refine aw_region_draw mixed ?_
        | refine aw_exit ?_
        | refine rq_exit ?_
        | refine blockQ_hit ?_
        | refine blockQ_miss (by decide) ?_
        | (refine ar_guard rfl rfl rfl rfl (fun h => ?_) (fun h => ?_) <;> (fail_if_success (cases h; done)) <;> (try simp at h) <;> (try subst h))
        | (refine aw_both rfl (fun h => ?_) (fun h => ?_) <;> (fail_if_success (cases h; done)) <;> (try simp at h) <;> (try subst h)))
  ·
    repeat' (first
      | exact aw_ret (ret_vals (by simp; exact rfl) (by simp [h1]; fail_if_success (show _)))
      | exact aw_ret (ret_vals (by simp; exact rfl) (by simp [h1]; omega))
      | refine ar_end rfl ?_
      | refine ar_endD rfl (by kernel_rfl) ?_
      | refine ar_fin rfl ?_
      | refine ar_finD rfl (by kernel_rfl) ?_
      | refine ar_callV Try.call89 hN rfl rfl rfl rfl rfl (by simp; done) (by rfl) (by simp; done) ?_
      | refine ar_callV_if Try.call89 hN rfl rfl rfl rfl rfl rfl (by simp; done) rfl (by rfl) (by simp; done) ?_
      | refine ar_go3 _ rfl (by simp [rl_len, rl_getE, rl_set, rl_nil, List.length_set, List.getElem_set, IntKind.bits, ub_shl1', ub_shr, ub_or, ub_and, ub_andNot, ub_bit, Int.toNat_natCast, ub_zero, h1]; exact ⟨rfl, rfl, rfl⟩) rfl ?_
      | refine aw_sregK 0 [0, 1, 2] ?_
      | refine aw_regK 0 [0, 1, 2] ?_
      | refine aw_sregK 1 [0, 1, 2] ?_
      | refine aw_regK 1 [0, 1, 2] ?_
      | refine aw_sregK 2 [0, 1, 2, 7] ?_
      | refine aw_regK 2 [0, 1, 2, 7] ?_
      | refine aw_sreg ?_
      | refine aw_sregD mixed ?_
      | refine aw_ifT (b := true) rfl rfl ?_
      | refine aw_ifF (b := false) rfl rfl ?_
      | refine aw_ifT rfl (by assumption) ?_
      | refine aw_ifF rfl (by assumption) ?_
      | refine aw_ifT rfl (decide_eq_true (by assumption)) ?_
      | refine aw_ifF rfl (decide_eq_false (by assumption)) ?_
      | refine aw_seq ?_
      | refine aw_block ?_
      | refine aw_skip ?_
      | refine aw_region ?_
      | refine aw_region_draw mixed ?_
      | refine aw_exit ?_
      | refine rq_exit ?_
      | refine blockQ_hit ?_
      | refine blockQ_miss (by decide) ?_
      | (refine ar_guard rfl rfl rfl rfl (fun h => ?_) (fun h => ?_) <;> (fail_if_success (cases h; done)) <;> (try simp at h) <;> (try subst h))
      | (refine aw_both rfl (fun h => ?_) (fun h => ?_) <;> (fail_if_success (cases h; done)) <;> (try simp at h) <;> (try subst h)))
theorem add_same {o : RL} {p : Nat × Nat} (h : bitR o p.1 p.2 = true) : addR o p = o := by
  unfold addR
  refine List.ext_getElem (by simp) fun k h1 h2 => ?_
  rw [List.getElem_set]
  by_cases e : p.1 = k
  · rw [if_pos e]
    subst e
    rw [getD_in _ _ h2]
    refine wd_ext fun j hj => ?_
    rw [or_bit, shl1_bit]
    by_cases ej : j = p.2
    · subst ej
      unfold bitR at h
      rw [getD_in _ _ h2] at h
      rw [h]; simp
    · simp [ej]
  · rw [if_neg e]
theorem fold_take (n : Nat) (ps : List (Nat × Nat)) {i : Nat} (h : i < ps.length) : foldR n (ps.take (i + 1)) = addR (foldR n (ps.take i)) ps[i] := by
  rw [List.take_add_one, List.getElem?_eq_getElem h, ← fold_snoc]; rfl
set_option maxHeartbeats 16000000 in
theorem c_rmade {n : Nat} {ps : List (Nat × Nat)} (h32 : n ≤ 32) (hl : ps.length ≤ 1000000) (hp : ∀ p ∈ ps, p.1 < n ∧ p.2 < n) : SCO Try.prog 62 [I .i64 n, .pv (.sl 2 (prs ps))] 33 1 (rl (foldR n ps)) := by
  refine scx_of Try.func62 rfl rfl rfl (Nat.le_of_ble_eq_true rfl) ?_
  repeat' (first
    | refine ar_end rfl ?_
    | refine ar_endD rfl (by kernel_rfl) ?_
    | refine ar_fin rfl ?_
    | refine ar_finD rfl (by kernel_rfl) ?_
    | refine ar_make (m := n) rfl rfl rfl rfl (by simp; exact rfl) (by simp; exact rfl) (by simp; exact ⟨rfl, rfl⟩) (by simp; exact rfl) rfl (by simp; done) (by decide) (by simp []; exact rfl) (by simp []; exact rfl) rfl (by simp [maxLen]; omega) ?_
    | refine ar_go3 _ rfl (by simp [evsL_len, evsL_getE, evL, prs_len, prs_getE]; exact ⟨rfl, rfl, rfl⟩) rfl ?_
    | refine aw_sregK 0 [0, 1] ?_
    | refine aw_regK 0 [0, 1] ?_
    | refine aw_sregK 1 [0, 1] ?_
    | refine aw_regK 1 [0, 1] ?_
    | refine aw_sregK 2 [1, 5] ?_
    | refine aw_regK 2 [1, 5] ?_
    | refine aw_sreg ?_
    | refine aw_sregD mixed ?_
    | refine aw_ifT (b := true) rfl rfl ?_
    | refine aw_ifF (b := false) rfl rfl ?_
    | refine aw_ifT rfl (by assumption) ?_
    | refine aw_ifF rfl (by assumption) ?_
    | refine aw_ifT rfl (decide_eq_true (by assumption)) ?_
    | refine aw_ifF rfl (decide_eq_false (by assumption)) ?_
    | refine aw_seq ?_
    | refine aw_block ?_
    | refine aw_skip ?_
    | refine aw_region ?_
    | refine aw_region_draw mixed ?_
    | refine aw_exit ?_
    | refine rq_exit ?_
    | refine blockQ_hit ?_
    | refine blockQ_miss (by decide) ?_
    | (refine ar_guard rfl rfl rfl rfl (fun h => ?_) (fun h => ?_) <;> (fail_if_success (cases h; done)) <;> (try simp at h) <;> (try subst h))
    | (refine aw_both rfl (fun h => ?_) (fun h => ?_) <;> (fail_if_success (cases h; done)) <;> (try simp at h) <;> (try subst h)))
  refine aw_loopN [1, 5, 6] [.loc 8] (by simp; exact rfl) (ι := {i : Nat // i ≤ ps.length}) (fun i => ⟨51, [(1, .pv (.sl 2 (prs ps))), (5, .own (.loc 8)), (6, I .i64 i.1)], [(.loc 8, some (.own 33 1 (rl (foldR n (ps.take i.1)))))]⟩) (fun i => ps.length - i.1) ⟨0, by omega⟩ (by simp [foldR, rl_zero]) ?_
  rintro ⟨i, hi⟩
  by_cases hlt : i < ps.length
  · have hw : IntKind.wrap .i64 ((i : Int) + 1) = (i : Int) + 1 := wrap64s (by omega) (by omega)
    have hd : (i : Int) < (ps.length : Int) := by omega
    obtain ⟨hp1, hp2⟩ := hp ps[i] (List.getElem_mem hlt)
    have hst := fold_take n ps hlt
    have hol := fold_len n (ps.take i)
    have hcl : Cl n (foldR n (ps.take i)) := fold_cl h32 fun p h => (hp p (List.mem_of_mem_take h)).2
    generalize foldR n (ps.take i) = o at *
    generalize hpe : ps[i] = p at *
    obtain ⟨a, b⟩ := p
    dsimp only at hp1 hp2 hst
    have hao : a < o.length := by omega
    have hH := c_rhas (r := o) (i := (a : Int)) (k := (b : Int))
    have hP := c_rpower (k := b) (by omega)
    rw [has_nat hcl] at hH
    cases hb : bitR o a b
    · rw [hb] at hH
      unfold bitR at hb
      rw [getD_in _ _ hao] at hb
      have hadd := ub_addor (a := o[a]) (k := b) (by omega) hb
      unfold addR at hst
      rw [getD_in _ _ hao] at hst
      generalize hoa : o[a] = oa at *
      generalize 1#32 <<< b = pw at *
      repeat' (first
        | refine ar_end rfl ?_
        | refine ar_endD rfl (by kernel_rfl) ?_
        | refine ar_fin rfl ?_
        | refine ar_finD rfl (by kernel_rfl) ?_
        | refine ar_lend Try.call68 hH rfl rfl rfl rfl rfl (by simp; done) rfl rfl rfl rfl ?_
        | refine ar_lend_if Try.call68 hH rfl rfl rfl rfl rfl rfl rfl (by simp; done) rfl rfl rfl rfl ?_
        | refine ar_callV Try.call87 hP rfl rfl rfl rfl rfl (by simp; done) (by rfl) (by simp; done) ?_
        | refine ar_callV_if Try.call87 hP rfl rfl rfl rfl rfl rfl (by simp; done) rfl (by rfl) (by simp; done) ?_
        | refine bq_norm ?_
        | refine lq_normN [1, 5, 6] [.loc 8] (by simp; exact rfl) ⟨i + 1, by omega⟩ (by dsimp only; omega) (by simp [hst, rl_set])
        | refine ar_go3 _ rfl (by simp [rl_len, rl_getE, rl_set, rl_nil, List.length_set, List.getElem_set, IntKind.bits, ub_shl1', ub_shr, ub_or, ub_and, ub_andNot, ub_bit, Int.toNat_natCast, ub_zero, evsL_len, evsL_getE, evL, prs_len, prs_getE, hlt, hd, hpe, hao, hoa, hadd, hw]; exact ⟨rfl, rfl, rfl⟩) rfl ?_
        | refine aw_sregK 3 [1, 5, 6] ?_
        | refine aw_regK 3 [1, 5, 6] ?_
        | refine aw_sregK 4 [1, 5, 6] ?_
        | refine aw_regK 4 [1, 5, 6] ?_
        | refine aw_sregKD mixed 5 [1, 5, 6] (by simp; exact rfl) ?_
        | refine aw_regKD mixed 5 [1, 5, 6] (by simp; exact rfl) ?_
        | refine aw_sregKD mixed 6 [1, 5, 6] (by simp; exact rfl) ?_
        | refine aw_regKD mixed 6 [1, 5, 6] (by simp; exact rfl) ?_
        | refine aw_sreg ?_
        | refine aw_sregD mixed ?_
        | refine aw_ifT (b := true) rfl rfl ?_
        | refine aw_ifF (b := false) rfl rfl ?_
        | refine aw_ifT rfl (by assumption) ?_
        | refine aw_ifF rfl (by assumption) ?_
        | refine aw_ifT rfl (decide_eq_true (by assumption)) ?_
        | refine aw_ifF rfl (decide_eq_false (by assumption)) ?_
        | refine aw_seq ?_
        | refine aw_block ?_
        | refine aw_skip ?_
        | refine aw_region ?_
        | refine aw_region_draw mixed ?_
        | refine aw_exit ?_
        | refine rq_exit ?_
        | refine blockQ_hit ?_
        | refine blockQ_miss (by decide) ?_
        | (refine ar_guard rfl rfl rfl rfl (fun h => ?_) (fun h => ?_) <;> (fail_if_success (cases h; done)) <;> (try simp at h) <;> (try subst h))
        | (refine aw_both rfl (fun h => ?_) (fun h => ?_) <;> (fail_if_success (cases h; done)) <;> (try simp at h) <;> (try subst h)))
    · rw [hb] at hH
      rw [add_same hb] at hst
      repeat' (first
        | refine ar_end rfl ?_
        | refine ar_endD rfl (by kernel_rfl) ?_
        | refine ar_fin rfl ?_
        | refine ar_finD rfl (by kernel_rfl) ?_
        | refine ar_lend Try.call68 hH rfl rfl rfl rfl rfl (by simp; done) rfl rfl rfl rfl ?_
        | refine ar_lend_if Try.call68 hH rfl rfl rfl rfl rfl rfl rfl (by simp; done) rfl rfl rfl rfl ?_
        | refine bq_norm ?_
        | refine lq_normN [1, 5, 6] [.loc 8] (by simp; exact rfl) ⟨i + 1, by omega⟩ (by dsimp only; omega) (by simp [hst])
        | refine ar_go3 _ rfl (by simp [rl_len, rl_getE, rl_set, rl_nil, List.length_set, List.getElem_set, IntKind.bits, ub_shl1', ub_shr, ub_or, ub_and, ub_andNot, ub_bit, Int.toNat_natCast, ub_zero, evsL_len, evsL_getE, evL, prs_len, prs_getE, hlt, hd, hpe, hao, hw]; exact ⟨rfl, rfl, rfl⟩) rfl ?_
        | refine aw_sregK 3 [1, 5, 6] ?_
        | refine aw_regK 3 [1, 5, 6] ?_
        | refine aw_sregK 4 [1, 5, 6] ?_
        | refine aw_regK 4 [1, 5, 6] ?_
        | refine aw_sregKD mixed 5 [1, 5, 6] (by simp; exact rfl) ?_
        | refine aw_regKD mixed 5 [1, 5, 6] (by simp; exact rfl) ?_
        | refine aw_sreg ?_
        | refine aw_sregD mixed ?_
        | refine aw_ifT (b := true) rfl rfl ?_
        | refine aw_ifF (b := false) rfl rfl ?_
        | refine aw_ifT rfl (by assumption) ?_
        | refine aw_ifF rfl (by assumption) ?_
        | refine aw_ifT rfl (decide_eq_true (by assumption)) ?_
        | refine aw_ifF rfl (decide_eq_false (by assumption)) ?_
        | refine aw_seq ?_
        | refine aw_block ?_
        | refine aw_skip ?_
        | refine aw_region ?_
        | refine aw_region_draw mixed ?_
        | refine aw_exit ?_
        | refine rq_exit ?_
        | refine blockQ_hit ?_
        | refine blockQ_miss (by decide) ?_
        | (refine ar_guard rfl rfl rfl rfl (fun h => ?_) (fun h => ?_) <;> (fail_if_success (cases h; done)) <;> (try simp at h) <;> (try subst h))
        | (refine aw_both rfl (fun h => ?_) (fun h => ?_) <;> (fail_if_success (cases h; done)) <;> (try simp at h) <;> (try subst h)))
  · have hd : ¬(i : Int) < (ps.length : Int) := by omega
    have hie : ps.take i = ps := List.take_of_length_le (by omega)
    rw [hie]
    repeat' (first
      | refine ar_end rfl ?_
      | refine ar_endD rfl (by kernel_rfl) ?_
      | refine ar_fin rfl ?_
      | refine ar_finD rfl (by kernel_rfl) ?_
      | refine lq_exit ?_
      | exact aw_ret (ret_own (.loc 8) (by simp; exact rfl) (by simp) (by simp []))
      | refine ar_go3 _ rfl (by simp [evsL_len, evsL_getE, evL, prs_len, prs_getE, hd]; exact ⟨rfl, rfl, rfl⟩) rfl ?_
      | refine aw_sregK 3 [1, 5, 6] ?_
      | refine aw_regK 3 [1, 5, 6] ?_
      | refine aw_sregK 7 [5] ?_
      | refine aw_regK 7 [5] ?_
      | refine aw_sreg ?_
      | refine aw_sregD mixed ?_
      | refine aw_ifT (b := true) rfl rfl ?_
      | refine aw_ifF (b := false) rfl rfl ?_
      | refine aw_ifT rfl (by assumption) ?_
      | refine aw_ifF rfl (by assumption) ?_
      | refine aw_ifT rfl (decide_eq_true (by assumption)) ?_
      | refine aw_ifF rfl (decide_eq_false (by assumption)) ?_
      | refine aw_seq ?_
      | refine aw_block ?_
      | refine aw_skip ?_
      | refine aw_region ?_
      | refine aw_region_draw mixed ?_
      | refine aw_exit ?_
      | refine rq_exit ?_
      | refine blockQ_hit ?_
      | refine blockQ_miss (by decide) ?_
      | (refine ar_guard rfl rfl rfl rfl (fun h => ?_) (fun h => ?_) <;> (fail_if_success (cases h; done)) <;> (try simp at h) <;> (try subst h))
      | (refine aw_both rfl (fun h => ?_) (fun h => ?_) <;> (fail_if_success (cases h; done)) <;> (try simp at h) <;> (try subst h)))
set_option maxHeartbeats 16000000 in
theorem c_rmadeV {n : Nat} {ps : List (Nat × Nat)} (h32 : n ≤ 32) (hl : ps.length ≤ 1000000) (hp : ∀ p ∈ ps, p.1 < n ∧ p.2 < n) : SC Try.prog 62 [I .i64 n, .pv (.sl 2 (prs ps))] (.pv (.sl 1 (rl (foldR n ps)))) := sco_sc (c_rmade h32 hl hp)
theorem pairs_in (r : RL) : ∀ p ∈ pairsR r, p.1 < rsize r ∧ p.2 < rsize r := fun p hp => by
  obtain ⟨h1, h2, _⟩ := mem_pairs.1 hp
  rw [rsize_clean]; exact ⟨h1, h2⟩
theorem pairs_le (r : RL) : (pairsR r).length ≤ 1024 := by
  rw [pairs_eq]
  have := clean_le r
  exact Nat.le_trans (upto_len _ _ _) (Nat.le_trans (Nat.mul_le_mul this this) (by decide))
theorem fold_pairs (r : RL) : foldR (rsize r) (pairsR r) = cleanR r := by
  have hle := clean_le r
  have hc : Cl (rsize r) (cleanR r) := by
    unfold rsize
    by_cases h : 32 < r.length
    · rw [if_pos h]; unfold cleanR; rw [if_pos h]; exact ⟨by omega, rfl, fun i k _ => bit_out (by simp)⟩
    · rw [if_neg h]; exact clean_cl (by omega)
  have hf : Cl (rsize r) (foldR (rsize r) (pairsR r)) := fold_cl hc.n32 fun p hp => (pairs_in r p hp).2
  refine hf.ext hc fun i k hi hk => ?_
  rw [fold_bit hi (by have := hc.n32; omega)]
  cases hb : bitR (cleanR r) i k
  · refine decide_eq_false fun h => ?_
    have := (mem_pairs.1 h).2.2
    rw [hb] at this; cases this
  · refine decide_eq_true (mem_pairs.2 ⟨?_, ?_, hb⟩)
    · rw [← rsize_clean]; exact hi
    · rw [← rsize_clean]; exact hk
set_option maxHeartbeats 16000000 in
theorem c_rpairs {r : RL} : SCO Try.prog 90 [.pv (.sl 1 (rl r))] 75 2 (prs (pairsR r)) := by
  have hN := c_rsize (r := r)
  have hle := rsize_le r
  have hq0 : ∀ i k : Nat, i < rsize r → k < rsize r → hasR r (i : Int) (k : Int) = bitR (cleanR r) i k := fun i k hi hk => by
    have h32 : r.length ≤ 32 := by unfold rsize at hi; split at hi <;> omega
    rw [has_size, clean_bit h32]
    have e : decide (k < r.length) = true := decide_eq_true (by omega)
    simp [hi, hk, e]
  rw [pairs_eq, ← rsize_clean]
  generalize hq : (fun p : Nat × Nat => bitR (cleanR r) p.1 p.2) = q
  have hq1 : ∀ i k : Nat, i < rsize r → k < rsize r → hasR r (i : Int) (k : Int) = q (i, k) := fun i k hi hk => by rw [hq0 i k hi hk, ← hq]
  clear hq0 hq
  generalize rsize r = n at *
  refine scx_of Try.func90 rfl rfl rfl (Nat.le_of_ble_eq_true rfl) ?_
  repeat' (first
    | refine ar_end rfl ?_
    | refine ar_endD rfl (by kernel_rfl) ?_
    | refine ar_fin rfl ?_
    | refine ar_finD rfl (by kernel_rfl) ?_
    | refine ar_callV Try.call89 hN rfl rfl rfl rfl rfl (by simp; done) (by rfl) (by simp; done) ?_
    | refine ar_callV_if Try.call89 hN rfl rfl rfl rfl rfl rfl (by simp; done) rfl (by rfl) (by simp; done) ?_
    | refine ar_go3 _ rfl (by simp [rl_len, rl_getE, rl_set, rl_nil, List.length_set, List.getElem_set, IntKind.bits, ub_shl1', ub_shr, ub_or, ub_and, ub_andNot, ub_bit, Int.toNat_natCast, ub_zero]; exact ⟨rfl, rfl, rfl⟩) rfl ?_
    | refine aw_sregK 0 [0] ?_
    | refine aw_regK 0 [0] ?_
    | refine aw_sregK 1 [0] ?_
    | refine aw_regK 1 [0] ?_
    | refine aw_sregK 2 [0, 3] ?_
    | refine aw_regK 2 [0, 3] ?_
    | refine aw_sregK 3 [0, 3, 4] ?_
    | refine aw_regK 3 [0, 3, 4] ?_
    | refine aw_sreg ?_
    | refine aw_sregD mixed ?_
    | refine aw_ifT (b := true) rfl rfl ?_
    | refine aw_ifF (b := false) rfl rfl ?_
    | refine aw_ifT rfl (by assumption) ?_
    | refine aw_ifF rfl (by assumption) ?_
    | refine aw_ifT rfl (decide_eq_true (by assumption)) ?_
    | refine aw_ifF rfl (decide_eq_false (by assumption)) ?_
    | refine aw_seq ?_
    | refine aw_block ?_
    | refine aw_skip ?_
    | refine aw_region ?_
    | refine aw_region_draw mixed ?_
    | refine aw_exit ?_
    | refine rq_exit ?_
    | refine blockQ_hit ?_
    | refine blockQ_miss (by decide) ?_
    | (refine ar_guard rfl rfl rfl rfl (fun h => ?_) (fun h => ?_) <;> (fail_if_success (cases h; done)) <;> (try simp at h) <;> (try subst h))
    | (refine aw_both rfl (fun h => ?_) (fun h => ?_) <;> (fail_if_success (cases h; done)) <;> (try simp at h) <;> (try subst h)))
  refine aw_nil 3 (.loc 1000) 75 2 (by simp; exact rfl) ?_
  refine aw_loopN [0, 3, 4, 5] [.loc 1000] (by simp; exact rfl) (ι := {i : Nat // i ≤ n}) (fun i => ⟨30, [(0, .pv (.sl 1 (rl r))), (3, .own (.loc 1000)), (4, I .i64 n), (5, I .i64 i.1)], [(.loc 1000, some (.own 75 2 (prs (uptoF q n i.1))))]⟩) (fun i => n - i.1) ⟨0, by omega⟩ (by simp [upto_zero, prs]) ?_
  rintro ⟨i, hi⟩
  by_cases hlt : i < n
  · have hw : IntKind.wrap .i64 ((i : Int) + 1) = (i : Int) + 1 := wrap64s (by omega) (by omega)
    have hd : (i : Int) < (n : Int) := by omega
    have hus := upto_succ q n i
    have hul := upto_len q n i
    have hul2 : i * n ≤ 1024 := Nat.le_trans (Nat.mul_le_mul (show i ≤ 32 by omega) (show n ≤ 32 by omega)) (by decide)
    generalize uptoF q n i = U at *
    repeat' (first
      | refine ar_end rfl ?_
      | refine ar_endD rfl (by kernel_rfl) ?_
      | refine ar_fin rfl ?_
      | refine ar_finD rfl (by kernel_rfl) ?_
      | refine ar_go3 _ rfl (by simp [rl_len, rl_getE, rl_set, rl_nil, List.length_set, List.getElem_set, IntKind.bits, ub_shl1', ub_shr, ub_or, ub_and, ub_andNot, ub_bit, Int.toNat_natCast, ub_zero, hd]; exact ⟨rfl, rfl, rfl⟩) rfl ?_
      | refine aw_sregK 4 [0, 3, 4, 5] ?_
      | refine aw_regK 4 [0, 3, 4, 5] ?_
      | refine aw_sregK 6 [0, 3, 4, 5] ?_
      | refine aw_regK 6 [0, 3, 4, 5] ?_
      | refine aw_sreg ?_
      | refine aw_sregD mixed ?_
      | refine aw_ifT (b := true) rfl rfl ?_
      | refine aw_ifF (b := false) rfl rfl ?_
      | refine aw_ifT rfl (by assumption) ?_
      | refine aw_ifF rfl (by assumption) ?_
      | refine aw_ifT rfl (decide_eq_true (by assumption)) ?_
      | refine aw_ifF rfl (decide_eq_false (by assumption)) ?_
      | refine aw_seq ?_
      | refine aw_block ?_
      | refine aw_skip ?_
      | refine aw_region ?_
      | refine aw_region_draw mixed ?_
      | refine aw_exit ?_
      | refine rq_exit ?_
      | refine blockQ_hit ?_
      | refine blockQ_miss (by decide) ?_
      | (refine ar_guard rfl rfl rfl rfl (fun h => ?_) (fun h => ?_) <;> (fail_if_success (cases h; done)) <;> (try simp at h) <;> (try subst h))
      | (refine aw_both rfl (fun h => ?_) (fun h => ?_) <;> (fail_if_success (cases h; done)) <;> (try simp at h) <;> (try subst h)))
    refine aw_loopN [0, 3, 4, 5, 6] [.loc 1000] (by simp; exact rfl) (ι := {k : Nat // k ≤ n}) (fun k => ⟨30, [(0, .pv (.sl 1 (rl r))), (3, .own (.loc 1000)), (4, I .i64 n), (5, I .i64 i), (6, I .i64 k.1)], [(.loc 1000, some (.own 75 2 (prs (U ++ rowF q i k.1))))]⟩) (fun k => n - k.1) ⟨0, by omega⟩ (by simp [row_zero]) ?_
    rintro ⟨k, hk⟩
    by_cases hkl : k < n
    · have hw2 : IntKind.wrap .i64 ((k : Int) + 1) = (k : Int) + 1 := wrap64s (by omega) (by omega)
      have hd2 : (k : Int) < (n : Int) := by omega
      have hrs := row_succ q i k
      have hrle := row_len q i k
      have hH := c_rhas (r := r) (i := (i : Int)) (k := (k : Int))
      rw [hq1 i k hlt hkl] at hH
      generalize rowF q i k = V at *
      cases hb : q (i, k)
      · rw [hb] at hH hrs
        rw [if_neg (by decide), List.append_nil] at hrs
        repeat' (first
          | refine ar_end rfl ?_
          | refine ar_endD rfl (by kernel_rfl) ?_
          | refine ar_fin rfl ?_
          | refine ar_finD rfl (by kernel_rfl) ?_
          | refine ar_callV Try.call68 hH rfl rfl rfl rfl rfl (by simp; done) (by rfl) (by simp; done) ?_
          | refine ar_callV_if Try.call68 hH rfl rfl rfl rfl rfl rfl (by simp; done) rfl (by rfl) (by simp; done) ?_
          | refine bq_norm ?_
          | refine lq_normN [0, 3, 4, 5, 6] [.loc 1000] (by simp; exact rfl) ⟨k + 1, by omega⟩ (by dsimp only; omega) (by simp [hrs])
          | refine ar_go3 _ rfl (by simp [rl_len, rl_getE, rl_set, rl_nil, List.length_set, List.getElem_set, IntKind.bits, ub_shl1', ub_shr, ub_or, ub_and, ub_andNot, ub_bit, Int.toNat_natCast, ub_zero, hd2, hw2]; exact ⟨rfl, rfl, rfl⟩) rfl ?_
          | refine aw_sregK 7 [0, 3, 4, 5, 6] ?_
          | refine aw_regK 7 [0, 3, 4, 5, 6] ?_
          | refine aw_sregK 8 [0, 3, 4, 5, 6] ?_
          | refine aw_regK 8 [0, 3, 4, 5, 6] ?_
          | refine aw_sregK 9 [0, 3, 4, 5, 6] ?_
          | refine aw_regK 9 [0, 3, 4, 5, 6] ?_
          | refine aw_sregK 10 [0, 3, 4, 5, 6] ?_
          | refine aw_regK 10 [0, 3, 4, 5, 6] ?_
          | refine aw_sreg ?_
          | refine aw_sregD mixed ?_
          | refine aw_ifT (b := true) rfl rfl ?_
          | refine aw_ifF (b := false) rfl rfl ?_
          | refine aw_ifT rfl (by assumption) ?_
          | refine aw_ifF rfl (by assumption) ?_
          | refine aw_ifT rfl (decide_eq_true (by assumption)) ?_
          | refine aw_ifF rfl (decide_eq_false (by assumption)) ?_
          | refine aw_seq ?_
          | refine aw_block ?_
          | refine aw_skip ?_
          | refine aw_region ?_
          | refine aw_region_draw mixed ?_
          | refine aw_exit ?_
          | refine rq_exit ?_
          | refine blockQ_hit ?_
          | refine blockQ_miss (by decide) ?_
          | (refine ar_guard rfl rfl rfl rfl (fun h => ?_) (fun h => ?_) <;> (fail_if_success (cases h; done)) <;> (try simp at h) <;> (try subst h))
          | (refine aw_both rfl (fun h => ?_) (fun h => ?_) <;> (fail_if_success (cases h; done)) <;> (try simp at h) <;> (try subst h)))
      · rw [hb] at hH hrs
        rw [if_pos rfl] at hrs
        repeat' (first
          | refine ar_end rfl ?_
          | refine ar_endD rfl (by kernel_rfl) ?_
          | refine ar_fin rfl ?_
          | refine ar_finD rfl (by kernel_rfl) ?_
          | refine ar_callV Try.call68 hH rfl rfl rfl rfl rfl (by simp; done) (by rfl) (by simp; done) ?_
          | refine ar_callV_if Try.call68 hH rfl rfl rfl rfl rfl rfl (by simp; done) rfl (by rfl) (by simp; done) ?_
          | refine ar_appO rfl rfl rfl rfl rfl (by simp; exact rfl) rfl (by simp; exact rfl) (by simp; exact rfl) (by simp; exact ⟨rfl, rfl⟩) rfl (by simp; exact rfl) (by simp; done) (by decide) (by simp [prs_len, maxLen]; try omega) ?_
          | refine bq_norm ?_
          | refine lq_normR (.loc 28) (.loc 1000) [0, 3, 4, 5, 6] [.loc 1000] (by simp; exact rfl) ⟨k + 1, by omega⟩ (by dsimp only; omega) (by rw [hrs, ← List.append_assoc, prs_app]; simp [prs])
          | refine ar_go3 _ rfl (by simp [rl_len, rl_getE, rl_set, rl_nil, List.length_set, List.getElem_set, IntKind.bits, ub_shl1', ub_shr, ub_or, ub_and, ub_andNot, ub_bit, Int.toNat_natCast, ub_zero, hd2, hw2]; exact ⟨rfl, rfl, rfl⟩) rfl ?_
          | refine aw_sregK 7 [0, 3, 4, 5, 6] ?_
          | refine aw_regK 7 [0, 3, 4, 5, 6] ?_
          | refine aw_sregK 8 [0, 3, 4, 5, 6] ?_
          | refine aw_regK 8 [0, 3, 4, 5, 6] ?_
          | refine aw_sregK 9 [0, 3, 4, 5, 6] ?_
          | refine aw_regK 9 [0, 3, 4, 5, 6] ?_
          | refine aw_sregK 10 [0, 3, 4, 5, 6] ?_
          | refine aw_regK 10 [0, 3, 4, 5, 6] ?_
          | refine aw_sreg ?_
          | refine aw_sregD mixed ?_
          | refine aw_ifT (b := true) rfl rfl ?_
          | refine aw_ifF (b := false) rfl rfl ?_
          | refine aw_ifT rfl (by assumption) ?_
          | refine aw_ifF rfl (by assumption) ?_
          | refine aw_ifT rfl (decide_eq_true (by assumption)) ?_
          | refine aw_ifF rfl (decide_eq_false (by assumption)) ?_
          | refine aw_seq ?_
          | refine aw_block ?_
          | refine aw_skip ?_
          | refine aw_region ?_
          | refine aw_region_draw mixed ?_
          | refine aw_exit ?_
          | refine rq_exit ?_
          | refine blockQ_hit ?_
          | refine blockQ_miss (by decide) ?_
          | (refine ar_guard rfl rfl rfl rfl (fun h => ?_) (fun h => ?_) <;> (fail_if_success (cases h; done)) <;> (try simp at h) <;> (try subst h))
          | (refine aw_both rfl (fun h => ?_) (fun h => ?_) <;> (fail_if_success (cases h; done)) <;> (try simp at h) <;> (try subst h)))
    · have hd2 : ¬(k : Int) < (n : Int) := by omega
      have hke : k = n := by omega
      subst hke
      rw [← hus]
      repeat' (first
        | refine ar_end rfl ?_
        | refine ar_endD rfl (by kernel_rfl) ?_
        | refine ar_fin rfl ?_
        | refine ar_finD rfl (by kernel_rfl) ?_
        | refine lq_exit ?_
        | refine bq_norm ?_
        | refine lq_normN [0, 3, 4, 5] [.loc 1000] (by simp; exact rfl) ⟨i + 1, by omega⟩ (by dsimp only; omega) (by simp [hd])
        | refine ar_go3 _ rfl (by simp [rl_len, rl_getE, rl_set, rl_nil, List.length_set, List.getElem_set, IntKind.bits, ub_shl1', ub_shr, ub_or, ub_and, ub_andNot, ub_bit, Int.toNat_natCast, ub_zero, hd2, hw]; exact ⟨rfl, rfl, rfl⟩) rfl ?_
        | refine aw_sregK 5 [0, 3, 4, 5] ?_
        | refine aw_regK 5 [0, 3, 4, 5] ?_
        | refine aw_sregK 7 [0, 3, 4, 5, 6] ?_
        | refine aw_regK 7 [0, 3, 4, 5, 6] ?_
        | refine aw_sreg ?_
        | refine aw_sregD mixed ?_
        | refine aw_ifT (b := true) rfl rfl ?_
        | refine aw_ifF (b := false) rfl rfl ?_
        | refine aw_ifT rfl (by assumption) ?_
        | refine aw_ifF rfl (by assumption) ?_
        | refine aw_ifT rfl (decide_eq_true (by assumption)) ?_
        | refine aw_ifF rfl (decide_eq_false (by assumption)) ?_
        | refine aw_seq ?_
        | refine aw_block ?_
        | refine aw_skip ?_
        | refine aw_region ?_
        | refine aw_region_draw mixed ?_
        | refine aw_exit ?_
        | refine rq_exit ?_
        | refine blockQ_hit ?_
        | refine blockQ_miss (by decide) ?_
        | (refine ar_guard rfl rfl rfl rfl (fun h => ?_) (fun h => ?_) <;> (fail_if_success (cases h; done)) <;> (try simp at h) <;> (try subst h))
        | (refine aw_both rfl (fun h => ?_) (fun h => ?_) <;> (fail_if_success (cases h; done)) <;> (try simp at h) <;> (try subst h)))
  · have hd : ¬(i : Int) < (n : Int) := by omega
    have hie : i = n := by omega
    subst hie
    repeat' (first
      | refine ar_end rfl ?_
      | refine ar_endD rfl (by kernel_rfl) ?_
      | refine ar_fin rfl ?_
      | refine ar_finD rfl (by kernel_rfl) ?_
      | refine lq_exit ?_
      | exact aw_ret (ret_own (.loc 1000) (by simp; exact rfl) (by simp) (by simp []))
      | refine ar_go3 _ rfl (by simp [rl_len, rl_getE, rl_set, rl_nil, List.length_set, List.getElem_set, IntKind.bits, ub_shl1', ub_shr, ub_or, ub_and, ub_andNot, ub_bit, Int.toNat_natCast, ub_zero, hd]; exact ⟨rfl, rfl, rfl⟩) rfl ?_
      | refine aw_sregK 4 [0, 3, 4, 5] ?_
      | refine aw_regK 4 [0, 3, 4, 5] ?_
      | refine aw_sregK 11 [3] ?_
      | refine aw_regK 11 [3] ?_
      | refine aw_sreg ?_
      | refine aw_sregD mixed ?_
      | refine aw_ifT (b := true) rfl rfl ?_
      | refine aw_ifF (b := false) rfl rfl ?_
      | refine aw_ifT rfl (by assumption) ?_
      | refine aw_ifF rfl (by assumption) ?_
      | refine aw_ifT rfl (decide_eq_true (by assumption)) ?_
      | refine aw_ifF rfl (decide_eq_false (by assumption)) ?_
      | refine aw_seq ?_
      | refine aw_block ?_
      | refine aw_skip ?_
      | refine aw_region ?_
      | refine aw_region_draw mixed ?_
      | refine aw_exit ?_
      | refine rq_exit ?_
      | refine blockQ_hit ?_
      | refine blockQ_miss (by decide) ?_
      | (refine ar_guard rfl rfl rfl rfl (fun h => ?_) (fun h => ?_) <;> (fail_if_success (cases h; done)) <;> (try simp at h) <;> (try subst h))
      | (refine aw_both rfl (fun h => ?_) (fun h => ?_) <;> (fail_if_success (cases h; done)) <;> (try simp at h) <;> (try subst h)))
set_option maxHeartbeats 16000000 in
theorem c_rpairsV {r : RL} : SC Try.prog 90 [.pv (.sl 1 (rl r))] (.pv (.sl 2 (prs (pairsR r)))) := sco_sc c_rpairs
set_option maxHeartbeats 16000000 in
theorem c_rclean {r : RL} : SC Try.prog 67 [.pv (.sl 1 (rl r))] (.pv (.sl 1 (rl (cleanR r)))) := by
  have hN := c_rsize (r := r)
  have hP := c_rpairsV (r := r)
  have hM := c_rmadeV (n := rsize r) (ps := pairsR r) (rsize_le r).1 (Nat.le_trans (pairs_le r) (by decide)) (pairs_in r)
  rw [fold_pairs] at hM
  generalize pairsR r = ps at *
  generalize rsize r = n at *
  generalize cleanR r = x at *
  refine scx_of Try.func67 rfl rfl rfl (Nat.le_of_ble_eq_true rfl) ?_
  repeat' (first
    | exact aw_ret (ret_vals (by simp; exact rfl) (by simp [*]; fail_if_success (show _)))
    | exact aw_ret (ret_vals (by simp; exact rfl) (by simp [*]; omega))
    | refine ar_end rfl ?_
    | refine ar_endD rfl (by kernel_rfl) ?_
    | refine ar_fin rfl ?_
    | refine ar_finD rfl (by kernel_rfl) ?_
    | refine ar_callV Try.call89 hN rfl rfl rfl rfl rfl (by simp; done) (by rfl) (by simp; done) ?_
    | refine ar_callV_if Try.call89 hN rfl rfl rfl rfl rfl rfl (by simp; done) rfl (by rfl) (by simp; done) ?_
    | refine ar_callV Try.call90 hP rfl rfl rfl rfl rfl (by simp; done) (by rfl) (by simp; done) ?_
    | refine ar_callV_if Try.call90 hP rfl rfl rfl rfl rfl rfl (by simp; done) rfl (by rfl) (by simp; done) ?_
    | refine ar_callV Try.call62 hM rfl rfl rfl rfl rfl (by simp; done) (by rfl) (by simp; done) ?_
    | refine ar_callV_if Try.call62 hM rfl rfl rfl rfl rfl rfl (by simp; done) rfl (by rfl) (by simp; done) ?_
    | refine ar_go3 _ rfl (by simp [rl_len, rl_getE, rl_set, rl_nil, List.length_set, List.getElem_set, IntKind.bits, ub_shl1', ub_shr, ub_or, ub_and, ub_andNot, ub_bit, Int.toNat_natCast, ub_zero]; exact ⟨rfl, rfl, rfl⟩) rfl ?_
    | refine aw_sregK 0 [0] ?_
    | refine aw_regK 0 [0] ?_
    | refine aw_sregK 1 [0] ?_
    | refine aw_regK 1 [0] ?_
    | refine aw_sreg ?_
    | refine aw_sregD mixed ?_
    | refine aw_ifT (b := true) rfl rfl ?_
    | refine aw_ifF (b := false) rfl rfl ?_
    | refine aw_ifT rfl (by assumption) ?_
    | refine aw_ifF rfl (by assumption) ?_
    | refine aw_ifT rfl (decide_eq_true (by assumption)) ?_
    | refine aw_ifF rfl (decide_eq_false (by assumption)) ?_
    | refine aw_seq ?_
    | refine aw_block ?_
    | refine aw_skip ?_
    | refine aw_region ?_
    | refine aw_region_draw mixed ?_
    | refine aw_exit ?_
    | refine rq_exit ?_
    | refine blockQ_hit ?_
    | refine blockQ_miss (by decide) ?_
    | (refine ar_guard rfl rfl rfl rfl (fun h => ?_) (fun h => ?_) <;> (fail_if_success (cases h; done)) <;> (try simp at h) <;> (try subst h))
    | (refine aw_both rfl (fun h => ?_) (fun h => ?_) <;> (fail_if_success (cases h; done)) <;> (try simp at h) <;> (try subst h)))
theorem fold_both {a b : RL} (h : rsize a = rsize b) : foldR (rsize a) (pairsR a ++ pairsR b) = bothR (· ||| ·) a b := by
  have ha : Cl (rsize a) (cleanR a) := by
    have := fold_pairs a
    rw [← this]
    exact fold_cl (rsize_le a).1 fun p hp => (pairs_in a p hp).2
  have hb : Cl (rsize a) (cleanR b) := by
    have := fold_pairs b
    rw [← this, ← h]
    exact fold_cl (rsize_le a).1 fun p hp => by rw [h]; exact (pairs_in b p hp).2
  have hO := orR ha hb
  rw [both_clean] at hO
  refine Cl.ext (fold_cl (rsize_le a).1 fun p hp => ?_) hO.1 fun i k hi hk => ?_
  · rcases List.mem_append.1 hp with h1 | h1
    · exact (pairs_in a p h1).2
    · rw [h]; exact (pairs_in b p h1).2
  · have h32 := (rsize_le a).1
    rw [hO.2, fold_bit hi (by omega)]
    have e1 : (i, k) ∈ pairsR a ↔ bitR (cleanR a) i k = true := by
      rw [mem_pairs, ← rsize_clean]; exact ⟨fun h => h.2.2, fun h => ⟨hi, hk, h⟩⟩
    have e2 : (i, k) ∈ pairsR b ↔ bitR (cleanR b) i k = true := by
      rw [mem_pairs, ← rsize_clean, ← h]; exact ⟨fun h => h.2.2, fun h => ⟨hi, hk, h⟩⟩
    rw [Bool.eq_iff_iff, decide_eq_true_eq, List.mem_append, e1, e2, Bool.or_eq_true]
set_option maxHeartbeats 16000000 in
theorem c_ror {a b : RL} : SC Try.prog 65 [.pv (.sl 1 (rl a)), .pv (.sl 1 (rl b))] (.pv (.sl 1 (rl (bothR (· ||| ·) a b)))) := by
  have hNa := c_rsize (r := a)
  have hNb := c_rsize (r := b)
  by_cases h : rsize a = rsize b
  · have hPa := c_rpairsV (r := a)
    have hPb := c_rpairsV (r := b)
    have la := pairs_le a
    have lb := pairs_le b
    have hM := c_rmadeV (n := rsize a) (ps := pairsR a ++ pairsR b) (rsize_le a).1 (by simp; omega) (fun p hp => by
      rcases List.mem_append.1 hp with h1 | h1
      · exact pairs_in a p h1
      · rw [h]; exact pairs_in b p h1)
    rw [fold_both h, prs_app] at hM
    have hc : (rsize a : Int) = (rsize b : Int) := by omega
    generalize bothR (· ||| ·) a b = Z at *
    generalize pairsR a = pa at *
    generalize pairsR b = pb at *
    rw [← h] at hNb
    generalize rsize a = n at *
    refine scx_of Try.func65 rfl rfl rfl (Nat.le_of_ble_eq_true rfl) ?_
    repeat' (first
      | exact aw_ret (ret_vals (by simp; exact rfl) (by simp [*]; fail_if_success (show _)))
      | exact aw_ret (ret_vals (by simp; exact rfl) (by simp [*]; omega))
      | refine ar_end rfl ?_
      | refine ar_endD rfl (by kernel_rfl) ?_
      | refine ar_fin rfl ?_
      | refine ar_finD rfl (by kernel_rfl) ?_
      | refine ar_callV Try.call89 hNa rfl rfl rfl rfl rfl (by simp; done) (by rfl) (by simp; done) ?_
      | refine ar_callV_if Try.call89 hNa rfl rfl rfl rfl rfl rfl (by simp; done) rfl (by rfl) (by simp; done) ?_
      | refine ar_callV Try.call89 hNb rfl rfl rfl rfl rfl (by simp; done) (by rfl) (by simp; done) ?_
      | refine ar_callV_if Try.call89 hNb rfl rfl rfl rfl rfl rfl (by simp; done) rfl (by rfl) (by simp; done) ?_
      | refine ar_callV Try.call90 hPa rfl rfl rfl rfl rfl (by simp; done) (by rfl) (by simp; done) ?_
      | refine ar_callV_if Try.call90 hPa rfl rfl rfl rfl rfl rfl (by simp; done) rfl (by rfl) (by simp; done) ?_
      | refine ar_callV Try.call90 hPb rfl rfl rfl rfl rfl (by simp; done) (by rfl) (by simp; done) ?_
      | refine ar_callV_if Try.call90 hPb rfl rfl rfl rfl rfl rfl (by simp; done) rfl (by rfl) (by simp; done) ?_
      | refine ar_appO rfl rfl rfl rfl rfl (by simp; exact rfl) rfl (by simp; exact rfl) (by simp; exact rfl) (by simp; exact ⟨rfl, rfl⟩) rfl (by simp; exact rfl) (by simp; done) (by decide) (by simp [prs_len, maxLen]; try omega) ?_
      | refine ar_frzV Try.call62 hM rfl rfl rfl rfl (by simp; exact rfl) (by simp; fail_if_success (show _)) (by simp; exact rfl) rfl (by simp; done) (by first | (simp; done) | (simp; exact rfl)) ⟨by rfl, by rfl, by rfl⟩ ?_
      | refine ar_go3 _ rfl (by simp [rl_len, rl_getE, rl_set, rl_nil, List.length_set, List.getElem_set, IntKind.bits, ub_shl1', ub_shr, ub_or, ub_and, ub_andNot, ub_bit, Int.toNat_natCast, ub_zero, evsL_len, evsL_getE, evL, prs_len, prs_getE]; exact ⟨rfl, rfl, rfl⟩) rfl ?_
      | refine aw_sregK 0 [0, 1] ?_
      | refine aw_regK 0 [0, 1] ?_
      | refine aw_sregK 1 [0, 1] ?_
      | refine aw_regK 1 [0, 1] ?_
      | refine aw_sregK 2 [] ?_
      | refine aw_regK 2 [] ?_
      | refine aw_sregK 3 [0, 1] ?_
      | refine aw_regK 3 [0, 1] ?_
      | refine aw_sreg ?_
      | refine aw_sregD mixed ?_
      | refine aw_ifT (b := true) rfl rfl ?_
      | refine aw_ifF (b := false) rfl rfl ?_
      | refine aw_ifT rfl (by assumption) ?_
      | refine aw_ifF rfl (by assumption) ?_
      | refine aw_ifT rfl (decide_eq_true (by assumption)) ?_
      | refine aw_ifF rfl (decide_eq_false (by assumption)) ?_
      | refine aw_seq ?_
      | refine aw_block ?_
      | refine aw_skip ?_
      | refine aw_region ?_
      | refine aw_region_draw mixed ?_
      | refine aw_exit ?_
      | refine rq_exit ?_
      | refine blockQ_hit ?_
      | refine blockQ_miss (by decide) ?_
      | (refine ar_guard rfl rfl rfl rfl (fun h => ?_) (fun h => ?_) <;> (fail_if_success (cases h; done)) <;> (try simp at h) <;> (try subst h))
      | (refine aw_both rfl (fun h => ?_) (fun h => ?_) <;> (fail_if_success (cases h; done)) <;> (try simp at h) <;> (try subst h)))
  · have hc : ¬(rsize a : Int) = (rsize b : Int) := by omega
    have e : bothR (· ||| ·) a b = [] := by unfold bothR; rw [← rsize_clean, ← rsize_clean, if_neg h]
    rw [e]
    generalize rsize a = n at *
    generalize rsize b = m at *
    refine scx_of Try.func65 rfl rfl rfl (Nat.le_of_ble_eq_true rfl) ?_
    repeat' (first
      | refine ar_end rfl ?_
      | refine ar_endD rfl (by kernel_rfl) ?_
      | refine ar_fin rfl ?_
      | refine ar_finD rfl (by kernel_rfl) ?_
      | refine ar_callV Try.call89 hNa rfl rfl rfl rfl rfl (by simp; done) (by rfl) (by simp; done) ?_
      | refine ar_callV_if Try.call89 hNa rfl rfl rfl rfl rfl rfl (by simp; done) rfl (by rfl) (by simp; done) ?_
      | refine ar_callV Try.call89 hNb rfl rfl rfl rfl rfl (by simp; done) (by rfl) (by simp; done) ?_
      | refine ar_callV_if Try.call89 hNb rfl rfl rfl rfl rfl rfl (by simp; done) rfl (by rfl) (by simp; done) ?_
      | exact aw_ret (ret_nil 4 1 (by simp; exact rfl) (by simp [rl]; fail_if_success (show _)))
      | refine ar_go3 _ rfl (by simp [rl_len, rl_getE, rl_set, rl_nil, List.length_set, List.getElem_set, IntKind.bits, ub_shl1', ub_shr, ub_or, ub_and, ub_andNot, ub_bit, Int.toNat_natCast, ub_zero, hc]; exact ⟨rfl, rfl, rfl⟩) rfl ?_
      | refine aw_sregK 0 [0, 1] ?_
      | refine aw_regK 0 [0, 1] ?_
      | refine aw_sregK 1 [0, 1] ?_
      | refine aw_regK 1 [0, 1] ?_
      | refine aw_sregK 2 [] ?_
      | refine aw_regK 2 [] ?_
      | refine aw_sreg ?_
      | refine aw_sregD mixed ?_
      | refine aw_ifT (b := true) rfl rfl ?_
      | refine aw_ifF (b := false) rfl rfl ?_
      | refine aw_ifT rfl (by assumption) ?_
      | refine aw_ifF rfl (by assumption) ?_
      | refine aw_ifT rfl (decide_eq_true (by assumption)) ?_
      | refine aw_ifF rfl (decide_eq_false (by assumption)) ?_
      | refine aw_seq ?_
      | refine aw_block ?_
      | refine aw_skip ?_
      | refine aw_region ?_
      | refine aw_region_draw mixed ?_
      | refine aw_exit ?_
      | refine rq_exit ?_
      | refine blockQ_hit ?_
      | refine blockQ_miss (by decide) ?_
      | (refine ar_guard rfl rfl rfl rfl (fun h => ?_) (fun h => ?_) <;> (fail_if_success (cases h; done)) <;> (try simp at h) <;> (try subst h))
      | (refine aw_both rfl (fun h => ?_) (fun h => ?_) <;> (fail_if_success (cases h; done)) <;> (try simp at h) <;> (try subst h)))
set_option maxHeartbeats 16000000 in
theorem c_rsame {a b : RL} : SC Try.prog 35 [.pv (.sl 1 (rl a)), .pv (.sl 1 (rl b))] (B (sameR a b)) := by
  have hA := c_rclean (r := a)
  have hB := c_rclean (r := b)
  have hal := clean_le a
  unfold sameR
  generalize cleanR a = x at *
  generalize cleanR b = y at *
  by_cases hl : x.length = y.length
  · have hlI : (x.length : Int) = (y.length : Int) := by omega
    refine scx_of Try.func35 rfl rfl rfl (Nat.le_of_ble_eq_true rfl) ?_
    repeat' (first
      | refine ar_end rfl ?_
      | refine ar_endD rfl (by kernel_rfl) ?_
      | refine ar_fin rfl ?_
      | refine ar_finD rfl (by kernel_rfl) ?_
      | refine ar_callV Try.call67 hA rfl rfl rfl rfl rfl (by simp; done) (by rfl) (by simp; done) ?_
      | refine ar_callV_if Try.call67 hA rfl rfl rfl rfl rfl rfl (by simp; done) rfl (by rfl) (by simp; done) ?_
      | refine ar_callV Try.call67 hB rfl rfl rfl rfl rfl (by simp; done) (by rfl) (by simp; done) ?_
      | refine ar_callV_if Try.call67 hB rfl rfl rfl rfl rfl rfl (by simp; done) rfl (by rfl) (by simp; done) ?_
      | refine ar_go3 _ rfl (by simp [rl_len, rl_getE, rl_set, rl_nil, List.length_set, List.getElem_set, IntKind.bits, ub_shl1', ub_shr, ub_or, ub_and, ub_andNot, ub_bit, Int.toNat_natCast, ub_zero, hl, hlI]; exact ⟨rfl, rfl, rfl⟩) rfl ?_
      | refine aw_sregK 0 [0, 1] ?_
      | refine aw_regK 0 [0, 1] ?_
      | refine aw_sregK 1 [0, 1] ?_
      | refine aw_regK 1 [0, 1] ?_
      | refine aw_sregK 2 [1, 5] ?_
      | refine aw_regK 2 [1, 5] ?_
      | refine aw_sregK 3 [5, 6] ?_
      | refine aw_regK 3 [5, 6] ?_
      | refine aw_sregK 5 [5, 6] ?_
      | refine aw_regK 5 [5, 6] ?_
      | refine aw_sreg ?_
      | refine aw_sregD mixed ?_
      | refine aw_ifT (b := true) rfl rfl ?_
      | refine aw_ifF (b := false) rfl rfl ?_
      | refine aw_ifT rfl (by assumption) ?_
      | refine aw_ifF rfl (by assumption) ?_
      | refine aw_ifT rfl (decide_eq_true (by assumption)) ?_
      | refine aw_ifF rfl (decide_eq_false (by assumption)) ?_
      | refine aw_seq ?_
      | refine aw_block ?_
      | refine aw_skip ?_
      | refine aw_region ?_
      | refine aw_region_draw mixed ?_
      | refine aw_exit ?_
      | refine rq_exit ?_
      | refine blockQ_hit ?_
      | refine blockQ_miss (by decide) ?_
      | (refine ar_guard rfl rfl rfl rfl (fun h => ?_) (fun h => ?_) <;> (fail_if_success (cases h; done)) <;> (try simp at h) <;> (try subst h))
      | (refine aw_both rfl (fun h => ?_) (fun h => ?_) <;> (fail_if_success (cases h; done)) <;> (try simp at h) <;> (try subst h)))
    refine aw_loopN [5, 6, 7] [] (by simp; exact rfl) (ι := {i : Nat // i ≤ x.length ∧ x.take i = y.take i}) (fun i => ⟨32, [(5, .pv (.sl 1 (rl x))), (6, .pv (.sl 1 (rl y))), (7, I .i64 i.1)], []⟩) (fun i => x.length - i.1) ⟨0, by omega, by simp⟩ (by simp) ?_
    rintro ⟨i, hi, hpre⟩
    by_cases hlt : i < x.length
    · have hw : IntKind.wrap .i64 ((i : Int) + 1) = (i : Int) + 1 := wrap64s (by omega) (by omega)
      have hd : (i : Int) < (x.length : Int) := by omega
      have hd' : (i : Int) < (y.length : Int) := by omega
      have hly : i < y.length := by omega
      by_cases he : x[i] = y[i]
      · have hpre2 := take_eq_succ hpre hlt hly he
        generalize hu : x[i] = u at *
        generalize hv : y[i] = v at *
        subst he
        repeat' (first
          | refine ar_end rfl ?_
          | refine ar_endD rfl (by kernel_rfl) ?_
          | refine ar_fin rfl ?_
          | refine ar_finD rfl (by kernel_rfl) ?_
          | refine bq_norm ?_
          | refine lq_normN [5, 6, 7] [] (by simp; exact rfl) ⟨i + 1, by omega, hpre2⟩ (by dsimp only; omega) (by simp [hd])
          | refine ar_go3 _ rfl (by simp [rl_len, rl_getE, rl_set, rl_nil, List.length_set, List.getElem_set, IntKind.bits, ub_shl1', ub_shr, ub_or, ub_and, ub_andNot, ub_bit, Int.toNat_natCast, ub_zero, hlt, hly, hl, hlI, hd, hd', hu, hv, hw]; exact ⟨rfl, rfl, rfl⟩) rfl ?_
          | refine aw_sregK 6 [5, 6, 7] ?_
          | refine aw_regK 6 [5, 6, 7] ?_
          | refine aw_sregK 7 [5, 6, 7] ?_
          | refine aw_regK 7 [5, 6, 7] ?_
          | refine aw_sregKD mixed 8 [5, 6, 7] (by simp; exact rfl) ?_
          | refine aw_regKD mixed 8 [5, 6, 7] (by simp; exact rfl) ?_
          | refine aw_sreg ?_
          | refine aw_sregD mixed ?_
          | refine aw_ifT (b := true) rfl rfl ?_
          | refine aw_ifF (b := false) rfl rfl ?_
          | refine aw_ifT rfl (by assumption) ?_
          | refine aw_ifF rfl (by assumption) ?_
          | refine aw_ifT rfl (decide_eq_true (by assumption)) ?_
          | refine aw_ifF rfl (decide_eq_false (by assumption)) ?_
          | refine aw_seq ?_
          | refine aw_block ?_
          | refine aw_skip ?_
          | refine aw_region ?_
          | refine aw_region_draw mixed ?_
          | refine aw_exit ?_
          | refine rq_exit ?_
          | refine blockQ_hit ?_
          | refine blockQ_miss (by decide) ?_
          | (refine ar_guard rfl rfl rfl rfl (fun h => ?_) (fun h => ?_) <;> (fail_if_success (cases h; done)) <;> (try simp at h) <;> (try subst h))
          | (refine aw_both rfl (fun h => ?_) (fun h => ?_) <;> (fail_if_success (cases h; done)) <;> (try simp at h) <;> (try subst h)))
      · have hne : ¬x = y := fun e => he (by subst e; rfl)
        generalize hu : x[i] = u at *
        generalize hv : y[i] = v at *
        have hub : ¬ub u = ub v := fun e => he (ub_inj.1 e)
        repeat' (first
          | exact aw_ret (ret_vals (by simp; exact rfl) (by simp [hne]; fail_if_success (show _)))
          | exact aw_ret (ret_vals (by simp; exact rfl) (by simp [hne]; omega))
          | refine ar_end rfl ?_
          | refine ar_endD rfl (by kernel_rfl) ?_
          | refine ar_fin rfl ?_
          | refine ar_finD rfl (by kernel_rfl) ?_
          | refine ar_go3 _ rfl (by simp [rl_len, rl_getE, rl_set, rl_nil, List.length_set, List.getElem_set, IntKind.bits, ub_shl1', ub_shr, ub_or, ub_and, ub_andNot, ub_bit, Int.toNat_natCast, ub_zero, hlt, hly, hl, hlI, hd, hd', hu, hv, hub]; exact ⟨rfl, rfl, rfl⟩) rfl ?_
          | refine aw_sregK 6 [5, 6, 7] ?_
          | refine aw_regK 6 [5, 6, 7] ?_
          | refine aw_sregK 7 [5, 6, 7] ?_
          | refine aw_regK 7 [5, 6, 7] ?_
          | refine aw_sregKD mixed 8 [5, 6, 7] (by simp; exact rfl) ?_
          | refine aw_regKD mixed 8 [5, 6, 7] (by simp; exact rfl) ?_
          | refine aw_sregK 9 [] ?_
          | refine aw_regK 9 [] ?_
          | refine aw_sreg ?_
          | refine aw_sregD mixed ?_
          | refine aw_ifT (b := true) rfl rfl ?_
          | refine aw_ifF (b := false) rfl rfl ?_
          | refine aw_ifT rfl (by assumption) ?_
          | refine aw_ifF rfl (by assumption) ?_
          | refine aw_ifT rfl (decide_eq_true (by assumption)) ?_
          | refine aw_ifF rfl (decide_eq_false (by assumption)) ?_
          | refine aw_seq ?_
          | refine aw_block ?_
          | refine aw_skip ?_
          | refine aw_region ?_
          | refine aw_region_draw mixed ?_
          | refine aw_exit ?_
          | refine rq_exit ?_
          | refine blockQ_hit ?_
          | refine blockQ_miss (by decide) ?_
          | (refine ar_guard rfl rfl rfl rfl (fun h => ?_) (fun h => ?_) <;> (fail_if_success (cases h; done)) <;> (try simp at h) <;> (try subst h))
          | (refine aw_both rfl (fun h => ?_) (fun h => ?_) <;> (fail_if_success (cases h; done)) <;> (try simp at h) <;> (try subst h)))
    · have hd : ¬(i : Int) < (x.length : Int) := by omega
      have hd' : ¬(i : Int) < (y.length : Int) := by omega
      have he : x = y := by
        have h1 : x.take i = x := List.take_of_length_le (by omega)
        have h2 : y.take i = y := List.take_of_length_le (by omega)
        rw [h1, h2] at hpre; exact hpre
      repeat' (first
        | exact aw_ret (ret_vals (by simp; exact rfl) (by simp [he]; fail_if_success (show _)))
        | exact aw_ret (ret_vals (by simp; exact rfl) (by simp [he]; omega))
        | refine ar_end rfl ?_
        | refine ar_endD rfl (by kernel_rfl) ?_
        | refine ar_fin rfl ?_
        | refine ar_finD rfl (by kernel_rfl) ?_
        | refine lq_exit ?_
        | refine ar_go3 _ rfl (by simp [rl_len, rl_getE, rl_set, rl_nil, List.length_set, List.getElem_set, IntKind.bits, ub_shl1', ub_shr, ub_or, ub_and, ub_andNot, ub_bit, Int.toNat_natCast, ub_zero, hd, hd', hl]; exact ⟨rfl, rfl, rfl⟩) rfl ?_
        | refine aw_sregK 6 [5, 6, 7] ?_
        | refine aw_regK 6 [5, 6, 7] ?_
        | refine aw_sregK 10 [] ?_
        | refine aw_regK 10 [] ?_
        | refine aw_sreg ?_
        | refine aw_sregD mixed ?_
        | refine aw_ifT (b := true) rfl rfl ?_
        | refine aw_ifF (b := false) rfl rfl ?_
        | refine aw_ifT rfl (by assumption) ?_
        | refine aw_ifF rfl (by assumption) ?_
        | refine aw_ifT rfl (decide_eq_true (by assumption)) ?_
        | refine aw_ifF rfl (decide_eq_false (by assumption)) ?_
        | refine aw_seq ?_
        | refine aw_block ?_
        | refine aw_skip ?_
        | refine aw_region ?_
        | refine aw_region_draw mixed ?_
        | refine aw_exit ?_
        | refine rq_exit ?_
        | refine blockQ_hit ?_
        | refine blockQ_miss (by decide) ?_
        | (refine ar_guard rfl rfl rfl rfl (fun h => ?_) (fun h => ?_) <;> (fail_if_success (cases h; done)) <;> (try simp at h) <;> (try subst h))
        | (refine aw_both rfl (fun h => ?_) (fun h => ?_) <;> (fail_if_success (cases h; done)) <;> (try simp at h) <;> (try subst h)))
  · have hlI : ¬(x.length : Int) = (y.length : Int) := by omega
    have hne : ¬x = y := fun e => hl (by rw [e])
    refine scx_of Try.func35 rfl rfl rfl (Nat.le_of_ble_eq_true rfl) ?_
    repeat' (first
      | exact aw_ret (ret_vals (by simp; exact rfl) (by simp [hne]; fail_if_success (show _)))
      | exact aw_ret (ret_vals (by simp; exact rfl) (by simp [hne]; omega))
      | refine ar_end rfl ?_
      | refine ar_endD rfl (by kernel_rfl) ?_
      | refine ar_fin rfl ?_
      | refine ar_finD rfl (by kernel_rfl) ?_
      | refine ar_callV Try.call67 hA rfl rfl rfl rfl rfl (by simp; done) (by rfl) (by simp; done) ?_
      | refine ar_callV_if Try.call67 hA rfl rfl rfl rfl rfl rfl (by simp; done) rfl (by rfl) (by simp; done) ?_
      | refine ar_callV Try.call67 hB rfl rfl rfl rfl rfl (by simp; done) (by rfl) (by simp; done) ?_
      | refine ar_callV_if Try.call67 hB rfl rfl rfl rfl rfl rfl (by simp; done) rfl (by rfl) (by simp; done) ?_
      | refine ar_go3 _ rfl (by simp [rl_len, rl_getE, rl_set, rl_nil, List.length_set, List.getElem_set, IntKind.bits, ub_shl1', ub_shr, ub_or, ub_and, ub_andNot, ub_bit, Int.toNat_natCast, ub_zero, hlI]; exact ⟨rfl, rfl, rfl⟩) rfl ?_
      | refine aw_sregK 0 [0, 1] ?_
      | refine aw_regK 0 [0, 1] ?_
      | refine aw_sregK 1 [0, 1] ?_
      | refine aw_regK 1 [0, 1] ?_
      | refine aw_sregK 2 [1, 5] ?_
      | refine aw_regK 2 [1, 5] ?_
      | refine aw_sregK 3 [5, 6] ?_
      | refine aw_regK 3 [5, 6] ?_
      | refine aw_sregK 4 [] ?_
      | refine aw_regK 4 [] ?_
      | refine aw_sreg ?_
      | refine aw_sregD mixed ?_
      | refine aw_ifT (b := true) rfl rfl ?_
      | refine aw_ifF (b := false) rfl rfl ?_
      | refine aw_ifT rfl (by assumption) ?_
      | refine aw_ifF rfl (by assumption) ?_
      | refine aw_ifT rfl (decide_eq_true (by assumption)) ?_
      | refine aw_ifF rfl (decide_eq_false (by assumption)) ?_
      | refine aw_seq ?_
      | refine aw_block ?_
      | refine aw_skip ?_
      | refine aw_region ?_
      | refine aw_region_draw mixed ?_
      | refine aw_exit ?_
      | refine rq_exit ?_
      | refine blockQ_hit ?_
      | refine blockQ_miss (by decide) ?_
      | (refine ar_guard rfl rfl rfl rfl (fun h => ?_) (fun h => ?_) <;> (fail_if_success (cases h; done)) <;> (try simp at h) <;> (try subst h))
      | (refine aw_both rfl (fun h => ?_) (fun h => ?_) <;> (fail_if_success (cases h; done)) <;> (try simp at h) <;> (try subst h)))
end Go.Eng
