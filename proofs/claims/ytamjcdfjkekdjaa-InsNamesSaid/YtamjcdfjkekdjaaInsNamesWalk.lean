import Derived.Test.YtamjcdfjkekdjaaInsShown
set_option linter.unusedSimpArgs false
set_option linter.unusedVariables false
set_option linter.constructorNameAsVariable false
set_option autoImplicit false
namespace Go.Eng
open Go Go.RowKit Go.Proofs
theorem ba_size (l : List UInt8) : (⟨l.toArray⟩ : ByteArray).size = l.length := by simp [ByteArray.size]
theorem ba_get (l : List UInt8) (i : Nat) : (⟨l.toArray⟩ : ByteArray)[i]? = l[i]? := by
  by_cases h : i < l.length
  · rw [getElem?_pos _ i (by rw [ba_size]; exact h), List.getElem?_eq_getElem h]
    rfl
  · rw [getElem?_neg _ i (by rw [ba_size]; exact h), List.getElem?_eq_none (by omega)]
theorem ba_getE (l : List UInt8) (i : Nat) (h : i < (⟨l.toArray⟩ : ByteArray).size) : (⟨l.toArray⟩ : ByteArray)[i] = l[i]'(by rw [ba_size] at h; exact h) := rfl
theorem name_1 {b : Int} : (([109, 111, 118] : List UInt8) == (nameF b).data.toList) = decide ((1 : Int) = b) := by
  rcases ops b with rfl | rfl | rfl | rfl | rfl | rfl | rfl | rfl | rfl | rfl | rfl | rfl | rfl | rfl | rfl | h
  any_goals (simp [nameF, ByteArray.toList_eq]; done)
  rw [name_no h]
  have : decide ((1 : Int) = b) = false := decide_eq_false (by omega)
  rw [this]; simp
set_option maxHeartbeats 16000000 in
theorem law_InsNames_1 {b : Int} : SC Try.prog 11 [I .i64 1, I .i64 b] (B true) := by
  refine scx_of Try.func11 rfl rfl rfl (Nat.le_of_ble_eq_true rfl) ?_
  have e : nameF 1 = ⟨#[109, 111, 118]⟩ := by simp [nameF]
  repeat' (first
    | exact aw_ret (ret_vals (by simp; exact rfl) (by simp [*]; fail_if_success (show _)))
    | exact aw_ret (ret_vals (by simp; exact rfl) (by simp [*]; omega))
    | refine ar_end rfl ?_
    | refine ar_endD rfl (by kernel_rfl) ?_
    | refine ar_fin rfl ?_
    | refine ar_finD rfl (by kernel_rfl) ?_
    | refine ar_callV Try.call41 c_shown1 rfl rfl rfl rfl rfl (by simp; done) (by rfl) (by simp; done) ?_
    | refine ar_callV_if Try.call41 c_shown1 rfl rfl rfl rfl rfl rfl (by simp; done) rfl (by rfl) (by simp; done) ?_
    | refine ar_callV Try.call42 c_Name rfl rfl rfl rfl rfl (by simp; done) (by rfl) (by simp; done) ?_
    | refine ar_callV_if Try.call42 c_Name rfl rfl rfl rfl rfl rfl (by simp; done) rfl (by rfl) (by simp; done) ?_
    | refine ar_go3 _ rfl (by simp [e, ba_size, ba_get, ba_getE, ByteArray.toList_eq, name_1, wrap64s]; exact ⟨rfl, rfl, rfl⟩) rfl ?_
    | refine aw_sregK 0 [0, 1] ?_
    | refine aw_regK 0 [0, 1] ?_
    | refine aw_sregK 1 [0, 1] ?_
    | refine aw_regK 1 [0, 1] ?_
    | refine aw_sregK 2 [0, 1, 5] ?_
    | refine aw_regK 2 [0, 1, 5] ?_
    | refine aw_sregK 3 [0, 1, 5, 6] ?_
    | refine aw_regK 3 [0, 1, 5, 6] ?_
    | refine aw_sregK 4 [0, 1, 5, 6, 7] ?_
    | refine aw_regK 4 [0, 1, 5, 6, 7] ?_
    | refine aw_sregK 5 [0, 1, 5, 6, 7] ?_
    | refine aw_regK 5 [0, 1, 5, 6, 7] ?_
    | refine aw_sregK 6 [0, 1, 5, 6, 7] ?_
    | refine aw_regK 6 [0, 1, 5, 6, 7] ?_
    | refine aw_sregK 7 [] ?_
    | refine aw_regK 7 [] ?_
    | refine aw_sregK 8 [0, 1, 5, 6] ?_
    | refine aw_regK 8 [0, 1, 5, 6] ?_
    | refine aw_sreg ?_
    | refine aw_sregD mixed ?_
    | refine aw_ifT (b := true) rfl rfl ?_
    | refine aw_ifF (b := false) rfl rfl ?_
    | refine aw_ifT rfl (decide_eq_true (by assumption)) ?_
    | refine aw_ifF rfl (decide_eq_false (by assumption)) ?_
    | refine aw_rounds 6 ?_
    | refine awr_step ?_
    | refine aw_seq ?_
    | refine aw_block ?_
    | refine aw_skip ?_
    | refine aw_region ?_
    | refine aw_region_draw mixed ?_
    | refine aw_exit ?_
    | refine rq_exit ?_
    | refine blockQ_hit ?_
    | refine blockQ_miss (by decide) ?_
    | (refine ar_guard rfl rfl rfl rfl (fun h => ?_) (fun h => ?_) <;> (fail_if_success (cases h; done)) <;> (try simp at h) <;> (try subst h))
    | (refine aw_both rfl (fun h => ?_) (fun h => ?_) <;> (fail_if_success (cases h; done)) <;> (try simp at h) <;> (try subst h)))
theorem name_2 {b : Int} : (([97, 100, 100] : List UInt8) == (nameF b).data.toList) = decide ((2 : Int) = b) := by
  rcases ops b with rfl | rfl | rfl | rfl | rfl | rfl | rfl | rfl | rfl | rfl | rfl | rfl | rfl | rfl | rfl | h
  any_goals (simp [nameF, ByteArray.toList_eq]; done)
  rw [name_no h]
  have : decide ((2 : Int) = b) = false := decide_eq_false (by omega)
  rw [this]; simp
set_option maxHeartbeats 16000000 in
theorem law_InsNames_2 {b : Int} : SC Try.prog 11 [I .i64 2, I .i64 b] (B true) := by
  refine scx_of Try.func11 rfl rfl rfl (Nat.le_of_ble_eq_true rfl) ?_
  have e : nameF 2 = ⟨#[97, 100, 100]⟩ := by simp [nameF]
  repeat' (first
    | exact aw_ret (ret_vals (by simp; exact rfl) (by simp [*]; fail_if_success (show _)))
    | exact aw_ret (ret_vals (by simp; exact rfl) (by simp [*]; omega))
    | refine ar_end rfl ?_
    | refine ar_endD rfl (by kernel_rfl) ?_
    | refine ar_fin rfl ?_
    | refine ar_finD rfl (by kernel_rfl) ?_
    | refine ar_callV Try.call41 c_shown1 rfl rfl rfl rfl rfl (by simp; done) (by rfl) (by simp; done) ?_
    | refine ar_callV_if Try.call41 c_shown1 rfl rfl rfl rfl rfl rfl (by simp; done) rfl (by rfl) (by simp; done) ?_
    | refine ar_callV Try.call42 c_Name rfl rfl rfl rfl rfl (by simp; done) (by rfl) (by simp; done) ?_
    | refine ar_callV_if Try.call42 c_Name rfl rfl rfl rfl rfl rfl (by simp; done) rfl (by rfl) (by simp; done) ?_
    | refine ar_go3 _ rfl (by simp [e, ba_size, ba_get, ba_getE, ByteArray.toList_eq, name_2, wrap64s]; exact ⟨rfl, rfl, rfl⟩) rfl ?_
    | refine aw_sregK 0 [0, 1] ?_
    | refine aw_regK 0 [0, 1] ?_
    | refine aw_sregK 1 [0, 1] ?_
    | refine aw_regK 1 [0, 1] ?_
    | refine aw_sregK 2 [0, 1, 5] ?_
    | refine aw_regK 2 [0, 1, 5] ?_
    | refine aw_sregK 3 [0, 1, 5, 6] ?_
    | refine aw_regK 3 [0, 1, 5, 6] ?_
    | refine aw_sregK 4 [0, 1, 5, 6, 7] ?_
    | refine aw_regK 4 [0, 1, 5, 6, 7] ?_
    | refine aw_sregK 5 [0, 1, 5, 6, 7] ?_
    | refine aw_regK 5 [0, 1, 5, 6, 7] ?_
    | refine aw_sregK 6 [0, 1, 5, 6, 7] ?_
    | refine aw_regK 6 [0, 1, 5, 6, 7] ?_
    | refine aw_sregK 7 [] ?_
    | refine aw_regK 7 [] ?_
    | refine aw_sregK 8 [0, 1, 5, 6] ?_
    | refine aw_regK 8 [0, 1, 5, 6] ?_
    | refine aw_sreg ?_
    | refine aw_sregD mixed ?_
    | refine aw_ifT (b := true) rfl rfl ?_
    | refine aw_ifF (b := false) rfl rfl ?_
    | refine aw_ifT rfl (decide_eq_true (by assumption)) ?_
    | refine aw_ifF rfl (decide_eq_false (by assumption)) ?_
    | refine aw_rounds 6 ?_
    | refine awr_step ?_
    | refine aw_seq ?_
    | refine aw_block ?_
    | refine aw_skip ?_
    | refine aw_region ?_
    | refine aw_region_draw mixed ?_
    | refine aw_exit ?_
    | refine rq_exit ?_
    | refine blockQ_hit ?_
    | refine blockQ_miss (by decide) ?_
    | (refine ar_guard rfl rfl rfl rfl (fun h => ?_) (fun h => ?_) <;> (fail_if_success (cases h; done)) <;> (try simp at h) <;> (try subst h))
    | (refine aw_both rfl (fun h => ?_) (fun h => ?_) <;> (fail_if_success (cases h; done)) <;> (try simp at h) <;> (try subst h)))
theorem name_3 {b : Int} : (([101, 111, 114] : List UInt8) == (nameF b).data.toList) = decide ((3 : Int) = b) := by
  rcases ops b with rfl | rfl | rfl | rfl | rfl | rfl | rfl | rfl | rfl | rfl | rfl | rfl | rfl | rfl | rfl | h
  any_goals (simp [nameF, ByteArray.toList_eq]; done)
  rw [name_no h]
  have : decide ((3 : Int) = b) = false := decide_eq_false (by omega)
  rw [this]; simp
set_option maxHeartbeats 16000000 in
theorem law_InsNames_3 {b : Int} : SC Try.prog 11 [I .i64 3, I .i64 b] (B true) := by
  refine scx_of Try.func11 rfl rfl rfl (Nat.le_of_ble_eq_true rfl) ?_
  have e : nameF 3 = ⟨#[101, 111, 114]⟩ := by simp [nameF]
  repeat' (first
    | exact aw_ret (ret_vals (by simp; exact rfl) (by simp [*]; fail_if_success (show _)))
    | exact aw_ret (ret_vals (by simp; exact rfl) (by simp [*]; omega))
    | refine ar_end rfl ?_
    | refine ar_endD rfl (by kernel_rfl) ?_
    | refine ar_fin rfl ?_
    | refine ar_finD rfl (by kernel_rfl) ?_
    | refine ar_callV Try.call41 c_shown1 rfl rfl rfl rfl rfl (by simp; done) (by rfl) (by simp; done) ?_
    | refine ar_callV_if Try.call41 c_shown1 rfl rfl rfl rfl rfl rfl (by simp; done) rfl (by rfl) (by simp; done) ?_
    | refine ar_callV Try.call42 c_Name rfl rfl rfl rfl rfl (by simp; done) (by rfl) (by simp; done) ?_
    | refine ar_callV_if Try.call42 c_Name rfl rfl rfl rfl rfl rfl (by simp; done) rfl (by rfl) (by simp; done) ?_
    | refine ar_go3 _ rfl (by simp [e, ba_size, ba_get, ba_getE, ByteArray.toList_eq, name_3, wrap64s]; exact ⟨rfl, rfl, rfl⟩) rfl ?_
    | refine aw_sregK 0 [0, 1] ?_
    | refine aw_regK 0 [0, 1] ?_
    | refine aw_sregK 1 [0, 1] ?_
    | refine aw_regK 1 [0, 1] ?_
    | refine aw_sregK 2 [0, 1, 5] ?_
    | refine aw_regK 2 [0, 1, 5] ?_
    | refine aw_sregK 3 [0, 1, 5, 6] ?_
    | refine aw_regK 3 [0, 1, 5, 6] ?_
    | refine aw_sregK 4 [0, 1, 5, 6, 7] ?_
    | refine aw_regK 4 [0, 1, 5, 6, 7] ?_
    | refine aw_sregK 5 [0, 1, 5, 6, 7] ?_
    | refine aw_regK 5 [0, 1, 5, 6, 7] ?_
    | refine aw_sregK 6 [0, 1, 5, 6, 7] ?_
    | refine aw_regK 6 [0, 1, 5, 6, 7] ?_
    | refine aw_sregK 7 [] ?_
    | refine aw_regK 7 [] ?_
    | refine aw_sregK 8 [0, 1, 5, 6] ?_
    | refine aw_regK 8 [0, 1, 5, 6] ?_
    | refine aw_sreg ?_
    | refine aw_sregD mixed ?_
    | refine aw_ifT (b := true) rfl rfl ?_
    | refine aw_ifF (b := false) rfl rfl ?_
    | refine aw_ifT rfl (decide_eq_true (by assumption)) ?_
    | refine aw_ifF rfl (decide_eq_false (by assumption)) ?_
    | refine aw_rounds 6 ?_
    | refine awr_step ?_
    | refine aw_seq ?_
    | refine aw_block ?_
    | refine aw_skip ?_
    | refine aw_region ?_
    | refine aw_region_draw mixed ?_
    | refine aw_exit ?_
    | refine rq_exit ?_
    | refine blockQ_hit ?_
    | refine blockQ_miss (by decide) ?_
    | (refine ar_guard rfl rfl rfl rfl (fun h => ?_) (fun h => ?_) <;> (fail_if_success (cases h; done)) <;> (try simp at h) <;> (try subst h))
    | (refine aw_both rfl (fun h => ?_) (fun h => ?_) <;> (fail_if_success (cases h; done)) <;> (try simp at h) <;> (try subst h)))
theorem name_4 {b : Int} : (([97, 110, 100] : List UInt8) == (nameF b).data.toList) = decide ((4 : Int) = b) := by
  rcases ops b with rfl | rfl | rfl | rfl | rfl | rfl | rfl | rfl | rfl | rfl | rfl | rfl | rfl | rfl | rfl | h
  any_goals (simp [nameF, ByteArray.toList_eq]; done)
  rw [name_no h]
  have : decide ((4 : Int) = b) = false := decide_eq_false (by omega)
  rw [this]; simp
set_option maxHeartbeats 16000000 in
theorem law_InsNames_4 {b : Int} : SC Try.prog 11 [I .i64 4, I .i64 b] (B true) := by
  refine scx_of Try.func11 rfl rfl rfl (Nat.le_of_ble_eq_true rfl) ?_
  have e : nameF 4 = ⟨#[97, 110, 100]⟩ := by simp [nameF]
  repeat' (first
    | exact aw_ret (ret_vals (by simp; exact rfl) (by simp [*]; fail_if_success (show _)))
    | exact aw_ret (ret_vals (by simp; exact rfl) (by simp [*]; omega))
    | refine ar_end rfl ?_
    | refine ar_endD rfl (by kernel_rfl) ?_
    | refine ar_fin rfl ?_
    | refine ar_finD rfl (by kernel_rfl) ?_
    | refine ar_callV Try.call41 c_shown1 rfl rfl rfl rfl rfl (by simp; done) (by rfl) (by simp; done) ?_
    | refine ar_callV_if Try.call41 c_shown1 rfl rfl rfl rfl rfl rfl (by simp; done) rfl (by rfl) (by simp; done) ?_
    | refine ar_callV Try.call42 c_Name rfl rfl rfl rfl rfl (by simp; done) (by rfl) (by simp; done) ?_
    | refine ar_callV_if Try.call42 c_Name rfl rfl rfl rfl rfl rfl (by simp; done) rfl (by rfl) (by simp; done) ?_
    | refine ar_go3 _ rfl (by simp [e, ba_size, ba_get, ba_getE, ByteArray.toList_eq, name_4, wrap64s]; exact ⟨rfl, rfl, rfl⟩) rfl ?_
    | refine aw_sregK 0 [0, 1] ?_
    | refine aw_regK 0 [0, 1] ?_
    | refine aw_sregK 1 [0, 1] ?_
    | refine aw_regK 1 [0, 1] ?_
    | refine aw_sregK 2 [0, 1, 5] ?_
    | refine aw_regK 2 [0, 1, 5] ?_
    | refine aw_sregK 3 [0, 1, 5, 6] ?_
    | refine aw_regK 3 [0, 1, 5, 6] ?_
    | refine aw_sregK 4 [0, 1, 5, 6, 7] ?_
    | refine aw_regK 4 [0, 1, 5, 6, 7] ?_
    | refine aw_sregK 5 [0, 1, 5, 6, 7] ?_
    | refine aw_regK 5 [0, 1, 5, 6, 7] ?_
    | refine aw_sregK 6 [0, 1, 5, 6, 7] ?_
    | refine aw_regK 6 [0, 1, 5, 6, 7] ?_
    | refine aw_sregK 7 [] ?_
    | refine aw_regK 7 [] ?_
    | refine aw_sregK 8 [0, 1, 5, 6] ?_
    | refine aw_regK 8 [0, 1, 5, 6] ?_
    | refine aw_sreg ?_
    | refine aw_sregD mixed ?_
    | refine aw_ifT (b := true) rfl rfl ?_
    | refine aw_ifF (b := false) rfl rfl ?_
    | refine aw_ifT rfl (decide_eq_true (by assumption)) ?_
    | refine aw_ifF rfl (decide_eq_false (by assumption)) ?_
    | refine aw_rounds 6 ?_
    | refine awr_step ?_
    | refine aw_seq ?_
    | refine aw_block ?_
    | refine aw_skip ?_
    | refine aw_region ?_
    | refine aw_region_draw mixed ?_
    | refine aw_exit ?_
    | refine rq_exit ?_
    | refine blockQ_hit ?_
    | refine blockQ_miss (by decide) ?_
    | (refine ar_guard rfl rfl rfl rfl (fun h => ?_) (fun h => ?_) <;> (fail_if_success (cases h; done)) <;> (try simp at h) <;> (try subst h))
    | (refine aw_both rfl (fun h => ?_) (fun h => ?_) <;> (fail_if_success (cases h; done)) <;> (try simp at h) <;> (try subst h)))
theorem name_5 {b : Int} : (([108, 100, 114] : List UInt8) == (nameF b).data.toList) = decide ((5 : Int) = b) := by
  rcases ops b with rfl | rfl | rfl | rfl | rfl | rfl | rfl | rfl | rfl | rfl | rfl | rfl | rfl | rfl | rfl | h
  any_goals (simp [nameF, ByteArray.toList_eq]; done)
  rw [name_no h]
  have : decide ((5 : Int) = b) = false := decide_eq_false (by omega)
  rw [this]; simp
set_option maxHeartbeats 16000000 in
theorem law_InsNames_5 {b : Int} : SC Try.prog 11 [I .i64 5, I .i64 b] (B true) := by
  refine scx_of Try.func11 rfl rfl rfl (Nat.le_of_ble_eq_true rfl) ?_
  have e : nameF 5 = ⟨#[108, 100, 114]⟩ := by simp [nameF]
  repeat' (first
    | exact aw_ret (ret_vals (by simp; exact rfl) (by simp [*]; fail_if_success (show _)))
    | exact aw_ret (ret_vals (by simp; exact rfl) (by simp [*]; omega))
    | refine ar_end rfl ?_
    | refine ar_endD rfl (by kernel_rfl) ?_
    | refine ar_fin rfl ?_
    | refine ar_finD rfl (by kernel_rfl) ?_
    | refine ar_callV Try.call41 c_shown1 rfl rfl rfl rfl rfl (by simp; done) (by rfl) (by simp; done) ?_
    | refine ar_callV_if Try.call41 c_shown1 rfl rfl rfl rfl rfl rfl (by simp; done) rfl (by rfl) (by simp; done) ?_
    | refine ar_callV Try.call42 c_Name rfl rfl rfl rfl rfl (by simp; done) (by rfl) (by simp; done) ?_
    | refine ar_callV_if Try.call42 c_Name rfl rfl rfl rfl rfl rfl (by simp; done) rfl (by rfl) (by simp; done) ?_
    | refine ar_go3 _ rfl (by simp [e, ba_size, ba_get, ba_getE, ByteArray.toList_eq, name_5, wrap64s]; exact ⟨rfl, rfl, rfl⟩) rfl ?_
    | refine aw_sregK 0 [0, 1] ?_
    | refine aw_regK 0 [0, 1] ?_
    | refine aw_sregK 1 [0, 1] ?_
    | refine aw_regK 1 [0, 1] ?_
    | refine aw_sregK 2 [0, 1, 5] ?_
    | refine aw_regK 2 [0, 1, 5] ?_
    | refine aw_sregK 3 [0, 1, 5, 6] ?_
    | refine aw_regK 3 [0, 1, 5, 6] ?_
    | refine aw_sregK 4 [0, 1, 5, 6, 7] ?_
    | refine aw_regK 4 [0, 1, 5, 6, 7] ?_
    | refine aw_sregK 5 [0, 1, 5, 6, 7] ?_
    | refine aw_regK 5 [0, 1, 5, 6, 7] ?_
    | refine aw_sregK 6 [0, 1, 5, 6, 7] ?_
    | refine aw_regK 6 [0, 1, 5, 6, 7] ?_
    | refine aw_sregK 7 [] ?_
    | refine aw_regK 7 [] ?_
    | refine aw_sregK 8 [0, 1, 5, 6] ?_
    | refine aw_regK 8 [0, 1, 5, 6] ?_
    | refine aw_sreg ?_
    | refine aw_sregD mixed ?_
    | refine aw_ifT (b := true) rfl rfl ?_
    | refine aw_ifF (b := false) rfl rfl ?_
    | refine aw_ifT rfl (decide_eq_true (by assumption)) ?_
    | refine aw_ifF rfl (decide_eq_false (by assumption)) ?_
    | refine aw_rounds 6 ?_
    | refine awr_step ?_
    | refine aw_seq ?_
    | refine aw_block ?_
    | refine aw_skip ?_
    | refine aw_region ?_
    | refine aw_region_draw mixed ?_
    | refine aw_exit ?_
    | refine rq_exit ?_
    | refine blockQ_hit ?_
    | refine blockQ_miss (by decide) ?_
    | (refine ar_guard rfl rfl rfl rfl (fun h => ?_) (fun h => ?_) <;> (fail_if_success (cases h; done)) <;> (try simp at h) <;> (try subst h))
    | (refine aw_both rfl (fun h => ?_) (fun h => ?_) <;> (fail_if_success (cases h; done)) <;> (try simp at h) <;> (try subst h)))
theorem name_6 {b : Int} : (([115, 116, 114] : List UInt8) == (nameF b).data.toList) = decide ((6 : Int) = b) := by
  rcases ops b with rfl | rfl | rfl | rfl | rfl | rfl | rfl | rfl | rfl | rfl | rfl | rfl | rfl | rfl | rfl | h
  any_goals (simp [nameF, ByteArray.toList_eq]; done)
  rw [name_no h]
  have : decide ((6 : Int) = b) = false := decide_eq_false (by omega)
  rw [this]; simp
set_option maxHeartbeats 16000000 in
theorem law_InsNames_6 {b : Int} : SC Try.prog 11 [I .i64 6, I .i64 b] (B true) := by
  refine scx_of Try.func11 rfl rfl rfl (Nat.le_of_ble_eq_true rfl) ?_
  have e : nameF 6 = ⟨#[115, 116, 114]⟩ := by simp [nameF]
  repeat' (first
    | exact aw_ret (ret_vals (by simp; exact rfl) (by simp [*]; fail_if_success (show _)))
    | exact aw_ret (ret_vals (by simp; exact rfl) (by simp [*]; omega))
    | refine ar_end rfl ?_
    | refine ar_endD rfl (by kernel_rfl) ?_
    | refine ar_fin rfl ?_
    | refine ar_finD rfl (by kernel_rfl) ?_
    | refine ar_callV Try.call41 c_shown1 rfl rfl rfl rfl rfl (by simp; done) (by rfl) (by simp; done) ?_
    | refine ar_callV_if Try.call41 c_shown1 rfl rfl rfl rfl rfl rfl (by simp; done) rfl (by rfl) (by simp; done) ?_
    | refine ar_callV Try.call42 c_Name rfl rfl rfl rfl rfl (by simp; done) (by rfl) (by simp; done) ?_
    | refine ar_callV_if Try.call42 c_Name rfl rfl rfl rfl rfl rfl (by simp; done) rfl (by rfl) (by simp; done) ?_
    | refine ar_go3 _ rfl (by simp [e, ba_size, ba_get, ba_getE, ByteArray.toList_eq, name_6, wrap64s]; exact ⟨rfl, rfl, rfl⟩) rfl ?_
    | refine aw_sregK 0 [0, 1] ?_
    | refine aw_regK 0 [0, 1] ?_
    | refine aw_sregK 1 [0, 1] ?_
    | refine aw_regK 1 [0, 1] ?_
    | refine aw_sregK 2 [0, 1, 5] ?_
    | refine aw_regK 2 [0, 1, 5] ?_
    | refine aw_sregK 3 [0, 1, 5, 6] ?_
    | refine aw_regK 3 [0, 1, 5, 6] ?_
    | refine aw_sregK 4 [0, 1, 5, 6, 7] ?_
    | refine aw_regK 4 [0, 1, 5, 6, 7] ?_
    | refine aw_sregK 5 [0, 1, 5, 6, 7] ?_
    | refine aw_regK 5 [0, 1, 5, 6, 7] ?_
    | refine aw_sregK 6 [0, 1, 5, 6, 7] ?_
    | refine aw_regK 6 [0, 1, 5, 6, 7] ?_
    | refine aw_sregK 7 [] ?_
    | refine aw_regK 7 [] ?_
    | refine aw_sregK 8 [0, 1, 5, 6] ?_
    | refine aw_regK 8 [0, 1, 5, 6] ?_
    | refine aw_sreg ?_
    | refine aw_sregD mixed ?_
    | refine aw_ifT (b := true) rfl rfl ?_
    | refine aw_ifF (b := false) rfl rfl ?_
    | refine aw_ifT rfl (decide_eq_true (by assumption)) ?_
    | refine aw_ifF rfl (decide_eq_false (by assumption)) ?_
    | refine aw_rounds 6 ?_
    | refine awr_step ?_
    | refine aw_seq ?_
    | refine aw_block ?_
    | refine aw_skip ?_
    | refine aw_region ?_
    | refine aw_region_draw mixed ?_
    | refine aw_exit ?_
    | refine rq_exit ?_
    | refine blockQ_hit ?_
    | refine blockQ_miss (by decide) ?_
    | (refine ar_guard rfl rfl rfl rfl (fun h => ?_) (fun h => ?_) <;> (fail_if_success (cases h; done)) <;> (try simp at h) <;> (try subst h))
    | (refine aw_both rfl (fun h => ?_) (fun h => ?_) <;> (fail_if_success (cases h; done)) <;> (try simp at h) <;> (try subst h)))
theorem name_7 {b : Int} : (([108, 100, 97, 114] : List UInt8) == (nameF b).data.toList) = decide ((7 : Int) = b) := by
  rcases ops b with rfl | rfl | rfl | rfl | rfl | rfl | rfl | rfl | rfl | rfl | rfl | rfl | rfl | rfl | rfl | h
  any_goals (simp [nameF, ByteArray.toList_eq]; done)
  rw [name_no h]
  have : decide ((7 : Int) = b) = false := decide_eq_false (by omega)
  rw [this]; simp
set_option maxHeartbeats 16000000 in
theorem law_InsNames_7 {b : Int} : SC Try.prog 11 [I .i64 7, I .i64 b] (B true) := by
  refine scx_of Try.func11 rfl rfl rfl (Nat.le_of_ble_eq_true rfl) ?_
  have e : nameF 7 = ⟨#[108, 100, 97, 114]⟩ := by simp [nameF]
  repeat' (first
    | exact aw_ret (ret_vals (by simp; exact rfl) (by simp [*]; fail_if_success (show _)))
    | exact aw_ret (ret_vals (by simp; exact rfl) (by simp [*]; omega))
    | refine ar_end rfl ?_
    | refine ar_endD rfl (by kernel_rfl) ?_
    | refine ar_fin rfl ?_
    | refine ar_finD rfl (by kernel_rfl) ?_
    | refine ar_callV Try.call41 c_shown1 rfl rfl rfl rfl rfl (by simp; done) (by rfl) (by simp; done) ?_
    | refine ar_callV_if Try.call41 c_shown1 rfl rfl rfl rfl rfl rfl (by simp; done) rfl (by rfl) (by simp; done) ?_
    | refine ar_callV Try.call42 c_Name rfl rfl rfl rfl rfl (by simp; done) (by rfl) (by simp; done) ?_
    | refine ar_callV_if Try.call42 c_Name rfl rfl rfl rfl rfl rfl (by simp; done) rfl (by rfl) (by simp; done) ?_
    | refine ar_go3 _ rfl (by simp [e, ba_size, ba_get, ba_getE, ByteArray.toList_eq, name_7, wrap64s]; exact ⟨rfl, rfl, rfl⟩) rfl ?_
    | refine aw_sregK 0 [0, 1] ?_
    | refine aw_regK 0 [0, 1] ?_
    | refine aw_sregK 1 [0, 1] ?_
    | refine aw_regK 1 [0, 1] ?_
    | refine aw_sregK 2 [0, 1, 5] ?_
    | refine aw_regK 2 [0, 1, 5] ?_
    | refine aw_sregK 3 [0, 1, 5, 6] ?_
    | refine aw_regK 3 [0, 1, 5, 6] ?_
    | refine aw_sregK 4 [0, 1, 5, 6, 7] ?_
    | refine aw_regK 4 [0, 1, 5, 6, 7] ?_
    | refine aw_sregK 5 [0, 1, 5, 6, 7] ?_
    | refine aw_regK 5 [0, 1, 5, 6, 7] ?_
    | refine aw_sregK 6 [0, 1, 5, 6, 7] ?_
    | refine aw_regK 6 [0, 1, 5, 6, 7] ?_
    | refine aw_sregK 7 [] ?_
    | refine aw_regK 7 [] ?_
    | refine aw_sregK 8 [0, 1, 5, 6] ?_
    | refine aw_regK 8 [0, 1, 5, 6] ?_
    | refine aw_sreg ?_
    | refine aw_sregD mixed ?_
    | refine aw_ifT (b := true) rfl rfl ?_
    | refine aw_ifF (b := false) rfl rfl ?_
    | refine aw_ifT rfl (decide_eq_true (by assumption)) ?_
    | refine aw_ifF rfl (decide_eq_false (by assumption)) ?_
    | refine aw_rounds 6 ?_
    | refine awr_step ?_
    | refine aw_seq ?_
    | refine aw_block ?_
    | refine aw_skip ?_
    | refine aw_region ?_
    | refine aw_region_draw mixed ?_
    | refine aw_exit ?_
    | refine rq_exit ?_
    | refine blockQ_hit ?_
    | refine blockQ_miss (by decide) ?_
    | (refine ar_guard rfl rfl rfl rfl (fun h => ?_) (fun h => ?_) <;> (fail_if_success (cases h; done)) <;> (try simp at h) <;> (try subst h))
    | (refine aw_both rfl (fun h => ?_) (fun h => ?_) <;> (fail_if_success (cases h; done)) <;> (try simp at h) <;> (try subst h)))
theorem name_8 {b : Int} : (([115, 116, 108, 114] : List UInt8) == (nameF b).data.toList) = decide ((8 : Int) = b) := by
  rcases ops b with rfl | rfl | rfl | rfl | rfl | rfl | rfl | rfl | rfl | rfl | rfl | rfl | rfl | rfl | rfl | h
  any_goals (simp [nameF, ByteArray.toList_eq]; done)
  rw [name_no h]
  have : decide ((8 : Int) = b) = false := decide_eq_false (by omega)
  rw [this]; simp
set_option maxHeartbeats 16000000 in
theorem law_InsNames_8 {b : Int} : SC Try.prog 11 [I .i64 8, I .i64 b] (B true) := by
  refine scx_of Try.func11 rfl rfl rfl (Nat.le_of_ble_eq_true rfl) ?_
  have e : nameF 8 = ⟨#[115, 116, 108, 114]⟩ := by simp [nameF]
  repeat' (first
    | exact aw_ret (ret_vals (by simp; exact rfl) (by simp [*]; fail_if_success (show _)))
    | exact aw_ret (ret_vals (by simp; exact rfl) (by simp [*]; omega))
    | refine ar_end rfl ?_
    | refine ar_endD rfl (by kernel_rfl) ?_
    | refine ar_fin rfl ?_
    | refine ar_finD rfl (by kernel_rfl) ?_
    | refine ar_callV Try.call41 c_shown1 rfl rfl rfl rfl rfl (by simp; done) (by rfl) (by simp; done) ?_
    | refine ar_callV_if Try.call41 c_shown1 rfl rfl rfl rfl rfl rfl (by simp; done) rfl (by rfl) (by simp; done) ?_
    | refine ar_callV Try.call42 c_Name rfl rfl rfl rfl rfl (by simp; done) (by rfl) (by simp; done) ?_
    | refine ar_callV_if Try.call42 c_Name rfl rfl rfl rfl rfl rfl (by simp; done) rfl (by rfl) (by simp; done) ?_
    | refine ar_go3 _ rfl (by simp [e, ba_size, ba_get, ba_getE, ByteArray.toList_eq, name_8, wrap64s]; exact ⟨rfl, rfl, rfl⟩) rfl ?_
    | refine aw_sregK 0 [0, 1] ?_
    | refine aw_regK 0 [0, 1] ?_
    | refine aw_sregK 1 [0, 1] ?_
    | refine aw_regK 1 [0, 1] ?_
    | refine aw_sregK 2 [0, 1, 5] ?_
    | refine aw_regK 2 [0, 1, 5] ?_
    | refine aw_sregK 3 [0, 1, 5, 6] ?_
    | refine aw_regK 3 [0, 1, 5, 6] ?_
    | refine aw_sregK 4 [0, 1, 5, 6, 7] ?_
    | refine aw_regK 4 [0, 1, 5, 6, 7] ?_
    | refine aw_sregK 5 [0, 1, 5, 6, 7] ?_
    | refine aw_regK 5 [0, 1, 5, 6, 7] ?_
    | refine aw_sregK 6 [0, 1, 5, 6, 7] ?_
    | refine aw_regK 6 [0, 1, 5, 6, 7] ?_
    | refine aw_sregK 7 [] ?_
    | refine aw_regK 7 [] ?_
    | refine aw_sregK 8 [0, 1, 5, 6] ?_
    | refine aw_regK 8 [0, 1, 5, 6] ?_
    | refine aw_sreg ?_
    | refine aw_sregD mixed ?_
    | refine aw_ifT (b := true) rfl rfl ?_
    | refine aw_ifF (b := false) rfl rfl ?_
    | refine aw_ifT rfl (decide_eq_true (by assumption)) ?_
    | refine aw_ifF rfl (decide_eq_false (by assumption)) ?_
    | refine aw_rounds 6 ?_
    | refine awr_step ?_
    | refine aw_seq ?_
    | refine aw_block ?_
    | refine aw_skip ?_
    | refine aw_region ?_
    | refine aw_region_draw mixed ?_
    | refine aw_exit ?_
    | refine rq_exit ?_
    | refine blockQ_hit ?_
    | refine blockQ_miss (by decide) ?_
    | (refine ar_guard rfl rfl rfl rfl (fun h => ?_) (fun h => ?_) <;> (fail_if_success (cases h; done)) <;> (try simp at h) <;> (try subst h))
    | (refine aw_both rfl (fun h => ?_) (fun h => ?_) <;> (fail_if_success (cases h; done)) <;> (try simp at h) <;> (try subst h)))
theorem name_9 {b : Int} : (([108, 100, 120, 114] : List UInt8) == (nameF b).data.toList) = decide ((9 : Int) = b) := by
  rcases ops b with rfl | rfl | rfl | rfl | rfl | rfl | rfl | rfl | rfl | rfl | rfl | rfl | rfl | rfl | rfl | h
  any_goals (simp [nameF, ByteArray.toList_eq]; done)
  rw [name_no h]
  have : decide ((9 : Int) = b) = false := decide_eq_false (by omega)
  rw [this]; simp
set_option maxHeartbeats 16000000 in
theorem law_InsNames_9 {b : Int} : SC Try.prog 11 [I .i64 9, I .i64 b] (B true) := by
  refine scx_of Try.func11 rfl rfl rfl (Nat.le_of_ble_eq_true rfl) ?_
  have e : nameF 9 = ⟨#[108, 100, 120, 114]⟩ := by simp [nameF]
  repeat' (first
    | exact aw_ret (ret_vals (by simp; exact rfl) (by simp [*]; fail_if_success (show _)))
    | exact aw_ret (ret_vals (by simp; exact rfl) (by simp [*]; omega))
    | refine ar_end rfl ?_
    | refine ar_endD rfl (by kernel_rfl) ?_
    | refine ar_fin rfl ?_
    | refine ar_finD rfl (by kernel_rfl) ?_
    | refine ar_callV Try.call41 c_shown1 rfl rfl rfl rfl rfl (by simp; done) (by rfl) (by simp; done) ?_
    | refine ar_callV_if Try.call41 c_shown1 rfl rfl rfl rfl rfl rfl (by simp; done) rfl (by rfl) (by simp; done) ?_
    | refine ar_callV Try.call42 c_Name rfl rfl rfl rfl rfl (by simp; done) (by rfl) (by simp; done) ?_
    | refine ar_callV_if Try.call42 c_Name rfl rfl rfl rfl rfl rfl (by simp; done) rfl (by rfl) (by simp; done) ?_
    | refine ar_go3 _ rfl (by simp [e, ba_size, ba_get, ba_getE, ByteArray.toList_eq, name_9, wrap64s]; exact ⟨rfl, rfl, rfl⟩) rfl ?_
    | refine aw_sregK 0 [0, 1] ?_
    | refine aw_regK 0 [0, 1] ?_
    | refine aw_sregK 1 [0, 1] ?_
    | refine aw_regK 1 [0, 1] ?_
    | refine aw_sregK 2 [0, 1, 5] ?_
    | refine aw_regK 2 [0, 1, 5] ?_
    | refine aw_sregK 3 [0, 1, 5, 6] ?_
    | refine aw_regK 3 [0, 1, 5, 6] ?_
    | refine aw_sregK 4 [0, 1, 5, 6, 7] ?_
    | refine aw_regK 4 [0, 1, 5, 6, 7] ?_
    | refine aw_sregK 5 [0, 1, 5, 6, 7] ?_
    | refine aw_regK 5 [0, 1, 5, 6, 7] ?_
    | refine aw_sregK 6 [0, 1, 5, 6, 7] ?_
    | refine aw_regK 6 [0, 1, 5, 6, 7] ?_
    | refine aw_sregK 7 [] ?_
    | refine aw_regK 7 [] ?_
    | refine aw_sregK 8 [0, 1, 5, 6] ?_
    | refine aw_regK 8 [0, 1, 5, 6] ?_
    | refine aw_sreg ?_
    | refine aw_sregD mixed ?_
    | refine aw_ifT (b := true) rfl rfl ?_
    | refine aw_ifF (b := false) rfl rfl ?_
    | refine aw_ifT rfl (decide_eq_true (by assumption)) ?_
    | refine aw_ifF rfl (decide_eq_false (by assumption)) ?_
    | refine aw_rounds 6 ?_
    | refine awr_step ?_
    | refine aw_seq ?_
    | refine aw_block ?_
    | refine aw_skip ?_
    | refine aw_region ?_
    | refine aw_region_draw mixed ?_
    | refine aw_exit ?_
    | refine rq_exit ?_
    | refine blockQ_hit ?_
    | refine blockQ_miss (by decide) ?_
    | (refine ar_guard rfl rfl rfl rfl (fun h => ?_) (fun h => ?_) <;> (fail_if_success (cases h; done)) <;> (try simp at h) <;> (try subst h))
    | (refine aw_both rfl (fun h => ?_) (fun h => ?_) <;> (fail_if_success (cases h; done)) <;> (try simp at h) <;> (try subst h)))
theorem name_10 {b : Int} : (([115, 116, 120, 114] : List UInt8) == (nameF b).data.toList) = decide ((10 : Int) = b) := by
  rcases ops b with rfl | rfl | rfl | rfl | rfl | rfl | rfl | rfl | rfl | rfl | rfl | rfl | rfl | rfl | rfl | h
  any_goals (simp [nameF, ByteArray.toList_eq]; done)
  rw [name_no h]
  have : decide ((10 : Int) = b) = false := decide_eq_false (by omega)
  rw [this]; simp
set_option maxHeartbeats 16000000 in
theorem law_InsNames_10 {b : Int} : SC Try.prog 11 [I .i64 10, I .i64 b] (B true) := by
  refine scx_of Try.func11 rfl rfl rfl (Nat.le_of_ble_eq_true rfl) ?_
  have e : nameF 10 = ⟨#[115, 116, 120, 114]⟩ := by simp [nameF]
  repeat' (first
    | exact aw_ret (ret_vals (by simp; exact rfl) (by simp [*]; fail_if_success (show _)))
    | exact aw_ret (ret_vals (by simp; exact rfl) (by simp [*]; omega))
    | refine ar_end rfl ?_
    | refine ar_endD rfl (by kernel_rfl) ?_
    | refine ar_fin rfl ?_
    | refine ar_finD rfl (by kernel_rfl) ?_
    | refine ar_callV Try.call41 c_shown1 rfl rfl rfl rfl rfl (by simp; done) (by rfl) (by simp; done) ?_
    | refine ar_callV_if Try.call41 c_shown1 rfl rfl rfl rfl rfl rfl (by simp; done) rfl (by rfl) (by simp; done) ?_
    | refine ar_callV Try.call42 c_Name rfl rfl rfl rfl rfl (by simp; done) (by rfl) (by simp; done) ?_
    | refine ar_callV_if Try.call42 c_Name rfl rfl rfl rfl rfl rfl (by simp; done) rfl (by rfl) (by simp; done) ?_
    | refine ar_go3 _ rfl (by simp [e, ba_size, ba_get, ba_getE, ByteArray.toList_eq, name_10, wrap64s]; exact ⟨rfl, rfl, rfl⟩) rfl ?_
    | refine aw_sregK 0 [0, 1] ?_
    | refine aw_regK 0 [0, 1] ?_
    | refine aw_sregK 1 [0, 1] ?_
    | refine aw_regK 1 [0, 1] ?_
    | refine aw_sregK 2 [0, 1, 5] ?_
    | refine aw_regK 2 [0, 1, 5] ?_
    | refine aw_sregK 3 [0, 1, 5, 6] ?_
    | refine aw_regK 3 [0, 1, 5, 6] ?_
    | refine aw_sregK 4 [0, 1, 5, 6, 7] ?_
    | refine aw_regK 4 [0, 1, 5, 6, 7] ?_
    | refine aw_sregK 5 [0, 1, 5, 6, 7] ?_
    | refine aw_regK 5 [0, 1, 5, 6, 7] ?_
    | refine aw_sregK 6 [0, 1, 5, 6, 7] ?_
    | refine aw_regK 6 [0, 1, 5, 6, 7] ?_
    | refine aw_sregK 7 [] ?_
    | refine aw_regK 7 [] ?_
    | refine aw_sregK 8 [0, 1, 5, 6] ?_
    | refine aw_regK 8 [0, 1, 5, 6] ?_
    | refine aw_sreg ?_
    | refine aw_sregD mixed ?_
    | refine aw_ifT (b := true) rfl rfl ?_
    | refine aw_ifF (b := false) rfl rfl ?_
    | refine aw_ifT rfl (decide_eq_true (by assumption)) ?_
    | refine aw_ifF rfl (decide_eq_false (by assumption)) ?_
    | refine aw_rounds 6 ?_
    | refine awr_step ?_
    | refine aw_seq ?_
    | refine aw_block ?_
    | refine aw_skip ?_
    | refine aw_region ?_
    | refine aw_region_draw mixed ?_
    | refine aw_exit ?_
    | refine rq_exit ?_
    | refine blockQ_hit ?_
    | refine blockQ_miss (by decide) ?_
    | (refine ar_guard rfl rfl rfl rfl (fun h => ?_) (fun h => ?_) <;> (fail_if_success (cases h; done)) <;> (try simp at h) <;> (try subst h))
    | (refine aw_both rfl (fun h => ?_) (fun h => ?_) <;> (fail_if_success (cases h; done)) <;> (try simp at h) <;> (try subst h)))
theorem name_11 {b : Int} : (([100, 109, 98] : List UInt8) == (nameF b).data.toList) = decide ((11 : Int) = b) := by
  rcases ops b with rfl | rfl | rfl | rfl | rfl | rfl | rfl | rfl | rfl | rfl | rfl | rfl | rfl | rfl | rfl | h
  any_goals (simp [nameF, ByteArray.toList_eq]; done)
  rw [name_no h]
  have : decide ((11 : Int) = b) = false := decide_eq_false (by omega)
  rw [this]; simp
set_option maxHeartbeats 16000000 in
theorem law_InsNames_11 {b : Int} : SC Try.prog 11 [I .i64 11, I .i64 b] (B true) := by
  refine scx_of Try.func11 rfl rfl rfl (Nat.le_of_ble_eq_true rfl) ?_
  have e : nameF 11 = ⟨#[100, 109, 98]⟩ := by simp [nameF]
  repeat' (first
    | exact aw_ret (ret_vals (by simp; exact rfl) (by simp [*]; fail_if_success (show _)))
    | exact aw_ret (ret_vals (by simp; exact rfl) (by simp [*]; omega))
    | refine ar_end rfl ?_
    | refine ar_endD rfl (by kernel_rfl) ?_
    | refine ar_fin rfl ?_
    | refine ar_finD rfl (by kernel_rfl) ?_
    | refine ar_callV Try.call41 c_shown1 rfl rfl rfl rfl rfl (by simp; done) (by rfl) (by simp; done) ?_
    | refine ar_callV_if Try.call41 c_shown1 rfl rfl rfl rfl rfl rfl (by simp; done) rfl (by rfl) (by simp; done) ?_
    | refine ar_callV Try.call42 c_Name rfl rfl rfl rfl rfl (by simp; done) (by rfl) (by simp; done) ?_
    | refine ar_callV_if Try.call42 c_Name rfl rfl rfl rfl rfl rfl (by simp; done) rfl (by rfl) (by simp; done) ?_
    | refine ar_go3 _ rfl (by simp [e, ba_size, ba_get, ba_getE, ByteArray.toList_eq, name_11, wrap64s]; exact ⟨rfl, rfl, rfl⟩) rfl ?_
    | refine aw_sregK 0 [0, 1] ?_
    | refine aw_regK 0 [0, 1] ?_
    | refine aw_sregK 1 [0, 1] ?_
    | refine aw_regK 1 [0, 1] ?_
    | refine aw_sregK 2 [0, 1, 5] ?_
    | refine aw_regK 2 [0, 1, 5] ?_
    | refine aw_sregK 3 [0, 1, 5, 6] ?_
    | refine aw_regK 3 [0, 1, 5, 6] ?_
    | refine aw_sregK 4 [0, 1, 5, 6, 7] ?_
    | refine aw_regK 4 [0, 1, 5, 6, 7] ?_
    | refine aw_sregK 5 [0, 1, 5, 6, 7] ?_
    | refine aw_regK 5 [0, 1, 5, 6, 7] ?_
    | refine aw_sregK 6 [0, 1, 5, 6, 7] ?_
    | refine aw_regK 6 [0, 1, 5, 6, 7] ?_
    | refine aw_sregK 7 [] ?_
    | refine aw_regK 7 [] ?_
    | refine aw_sregK 8 [0, 1, 5, 6] ?_
    | refine aw_regK 8 [0, 1, 5, 6] ?_
    | refine aw_sreg ?_
    | refine aw_sregD mixed ?_
    | refine aw_ifT (b := true) rfl rfl ?_
    | refine aw_ifF (b := false) rfl rfl ?_
    | refine aw_ifT rfl (decide_eq_true (by assumption)) ?_
    | refine aw_ifF rfl (decide_eq_false (by assumption)) ?_
    | refine aw_rounds 6 ?_
    | refine awr_step ?_
    | refine aw_seq ?_
    | refine aw_block ?_
    | refine aw_skip ?_
    | refine aw_region ?_
    | refine aw_region_draw mixed ?_
    | refine aw_exit ?_
    | refine rq_exit ?_
    | refine blockQ_hit ?_
    | refine blockQ_miss (by decide) ?_
    | (refine ar_guard rfl rfl rfl rfl (fun h => ?_) (fun h => ?_) <;> (fail_if_success (cases h; done)) <;> (try simp at h) <;> (try subst h))
    | (refine aw_both rfl (fun h => ?_) (fun h => ?_) <;> (fail_if_success (cases h; done)) <;> (try simp at h) <;> (try subst h)))
theorem name_12 {b : Int} : (([105, 115, 98] : List UInt8) == (nameF b).data.toList) = decide ((12 : Int) = b) := by
  rcases ops b with rfl | rfl | rfl | rfl | rfl | rfl | rfl | rfl | rfl | rfl | rfl | rfl | rfl | rfl | rfl | h
  any_goals (simp [nameF, ByteArray.toList_eq]; done)
  rw [name_no h]
  have : decide ((12 : Int) = b) = false := decide_eq_false (by omega)
  rw [this]; simp
set_option maxHeartbeats 16000000 in
theorem law_InsNames_12 {b : Int} : SC Try.prog 11 [I .i64 12, I .i64 b] (B true) := by
  refine scx_of Try.func11 rfl rfl rfl (Nat.le_of_ble_eq_true rfl) ?_
  have e : nameF 12 = ⟨#[105, 115, 98]⟩ := by simp [nameF]
  repeat' (first
    | exact aw_ret (ret_vals (by simp; exact rfl) (by simp [*]; fail_if_success (show _)))
    | exact aw_ret (ret_vals (by simp; exact rfl) (by simp [*]; omega))
    | refine ar_end rfl ?_
    | refine ar_endD rfl (by kernel_rfl) ?_
    | refine ar_fin rfl ?_
    | refine ar_finD rfl (by kernel_rfl) ?_
    | refine ar_callV Try.call41 c_shown1 rfl rfl rfl rfl rfl (by simp; done) (by rfl) (by simp; done) ?_
    | refine ar_callV_if Try.call41 c_shown1 rfl rfl rfl rfl rfl rfl (by simp; done) rfl (by rfl) (by simp; done) ?_
    | refine ar_callV Try.call42 c_Name rfl rfl rfl rfl rfl (by simp; done) (by rfl) (by simp; done) ?_
    | refine ar_callV_if Try.call42 c_Name rfl rfl rfl rfl rfl rfl (by simp; done) rfl (by rfl) (by simp; done) ?_
    | refine ar_go3 _ rfl (by simp [e, ba_size, ba_get, ba_getE, ByteArray.toList_eq, name_12, wrap64s]; exact ⟨rfl, rfl, rfl⟩) rfl ?_
    | refine aw_sregK 0 [0, 1] ?_
    | refine aw_regK 0 [0, 1] ?_
    | refine aw_sregK 1 [0, 1] ?_
    | refine aw_regK 1 [0, 1] ?_
    | refine aw_sregK 2 [0, 1, 5] ?_
    | refine aw_regK 2 [0, 1, 5] ?_
    | refine aw_sregK 3 [0, 1, 5, 6] ?_
    | refine aw_regK 3 [0, 1, 5, 6] ?_
    | refine aw_sregK 4 [0, 1, 5, 6, 7] ?_
    | refine aw_regK 4 [0, 1, 5, 6, 7] ?_
    | refine aw_sregK 5 [0, 1, 5, 6, 7] ?_
    | refine aw_regK 5 [0, 1, 5, 6, 7] ?_
    | refine aw_sregK 6 [0, 1, 5, 6, 7] ?_
    | refine aw_regK 6 [0, 1, 5, 6, 7] ?_
    | refine aw_sregK 7 [] ?_
    | refine aw_regK 7 [] ?_
    | refine aw_sregK 8 [0, 1, 5, 6] ?_
    | refine aw_regK 8 [0, 1, 5, 6] ?_
    | refine aw_sreg ?_
    | refine aw_sregD mixed ?_
    | refine aw_ifT (b := true) rfl rfl ?_
    | refine aw_ifF (b := false) rfl rfl ?_
    | refine aw_ifT rfl (decide_eq_true (by assumption)) ?_
    | refine aw_ifF rfl (decide_eq_false (by assumption)) ?_
    | refine aw_rounds 6 ?_
    | refine awr_step ?_
    | refine aw_seq ?_
    | refine aw_block ?_
    | refine aw_skip ?_
    | refine aw_region ?_
    | refine aw_region_draw mixed ?_
    | refine aw_exit ?_
    | refine rq_exit ?_
    | refine blockQ_hit ?_
    | refine blockQ_miss (by decide) ?_
    | (refine ar_guard rfl rfl rfl rfl (fun h => ?_) (fun h => ?_) <;> (fail_if_success (cases h; done)) <;> (try simp at h) <;> (try subst h))
    | (refine aw_both rfl (fun h => ?_) (fun h => ?_) <;> (fail_if_success (cases h; done)) <;> (try simp at h) <;> (try subst h)))
theorem name_13 {b : Int} : (([99, 98, 122] : List UInt8) == (nameF b).data.toList) = decide ((13 : Int) = b) := by
  rcases ops b with rfl | rfl | rfl | rfl | rfl | rfl | rfl | rfl | rfl | rfl | rfl | rfl | rfl | rfl | rfl | h
  any_goals (simp [nameF, ByteArray.toList_eq]; done)
  rw [name_no h]
  have : decide ((13 : Int) = b) = false := decide_eq_false (by omega)
  rw [this]; simp
set_option maxHeartbeats 16000000 in
theorem law_InsNames_13 {b : Int} : SC Try.prog 11 [I .i64 13, I .i64 b] (B true) := by
  refine scx_of Try.func11 rfl rfl rfl (Nat.le_of_ble_eq_true rfl) ?_
  have e : nameF 13 = ⟨#[99, 98, 122]⟩ := by simp [nameF]
  repeat' (first
    | exact aw_ret (ret_vals (by simp; exact rfl) (by simp [*]; fail_if_success (show _)))
    | exact aw_ret (ret_vals (by simp; exact rfl) (by simp [*]; omega))
    | refine ar_end rfl ?_
    | refine ar_endD rfl (by kernel_rfl) ?_
    | refine ar_fin rfl ?_
    | refine ar_finD rfl (by kernel_rfl) ?_
    | refine ar_callV Try.call41 c_shown1 rfl rfl rfl rfl rfl (by simp; done) (by rfl) (by simp; done) ?_
    | refine ar_callV_if Try.call41 c_shown1 rfl rfl rfl rfl rfl rfl (by simp; done) rfl (by rfl) (by simp; done) ?_
    | refine ar_callV Try.call42 c_Name rfl rfl rfl rfl rfl (by simp; done) (by rfl) (by simp; done) ?_
    | refine ar_callV_if Try.call42 c_Name rfl rfl rfl rfl rfl rfl (by simp; done) rfl (by rfl) (by simp; done) ?_
    | refine ar_go3 _ rfl (by simp [e, ba_size, ba_get, ba_getE, ByteArray.toList_eq, name_13, wrap64s]; exact ⟨rfl, rfl, rfl⟩) rfl ?_
    | refine aw_sregK 0 [0, 1] ?_
    | refine aw_regK 0 [0, 1] ?_
    | refine aw_sregK 1 [0, 1] ?_
    | refine aw_regK 1 [0, 1] ?_
    | refine aw_sregK 2 [0, 1, 5] ?_
    | refine aw_regK 2 [0, 1, 5] ?_
    | refine aw_sregK 3 [0, 1, 5, 6] ?_
    | refine aw_regK 3 [0, 1, 5, 6] ?_
    | refine aw_sregK 4 [0, 1, 5, 6, 7] ?_
    | refine aw_regK 4 [0, 1, 5, 6, 7] ?_
    | refine aw_sregK 5 [0, 1, 5, 6, 7] ?_
    | refine aw_regK 5 [0, 1, 5, 6, 7] ?_
    | refine aw_sregK 6 [0, 1, 5, 6, 7] ?_
    | refine aw_regK 6 [0, 1, 5, 6, 7] ?_
    | refine aw_sregK 7 [] ?_
    | refine aw_regK 7 [] ?_
    | refine aw_sregK 8 [0, 1, 5, 6] ?_
    | refine aw_regK 8 [0, 1, 5, 6] ?_
    | refine aw_sreg ?_
    | refine aw_sregD mixed ?_
    | refine aw_ifT (b := true) rfl rfl ?_
    | refine aw_ifF (b := false) rfl rfl ?_
    | refine aw_ifT rfl (decide_eq_true (by assumption)) ?_
    | refine aw_ifF rfl (decide_eq_false (by assumption)) ?_
    | refine aw_rounds 6 ?_
    | refine awr_step ?_
    | refine aw_seq ?_
    | refine aw_block ?_
    | refine aw_skip ?_
    | refine aw_region ?_
    | refine aw_region_draw mixed ?_
    | refine aw_exit ?_
    | refine rq_exit ?_
    | refine blockQ_hit ?_
    | refine blockQ_miss (by decide) ?_
    | (refine ar_guard rfl rfl rfl rfl (fun h => ?_) (fun h => ?_) <;> (fail_if_success (cases h; done)) <;> (try simp at h) <;> (try subst h))
    | (refine aw_both rfl (fun h => ?_) (fun h => ?_) <;> (fail_if_success (cases h; done)) <;> (try simp at h) <;> (try subst h)))
theorem name_14 {b : Int} : (([99, 98, 110, 122] : List UInt8) == (nameF b).data.toList) = decide ((14 : Int) = b) := by
  rcases ops b with rfl | rfl | rfl | rfl | rfl | rfl | rfl | rfl | rfl | rfl | rfl | rfl | rfl | rfl | rfl | h
  any_goals (simp [nameF, ByteArray.toList_eq]; done)
  rw [name_no h]
  have : decide ((14 : Int) = b) = false := decide_eq_false (by omega)
  rw [this]; simp
set_option maxHeartbeats 16000000 in
theorem law_InsNames_14 {b : Int} : SC Try.prog 11 [I .i64 14, I .i64 b] (B true) := by
  refine scx_of Try.func11 rfl rfl rfl (Nat.le_of_ble_eq_true rfl) ?_
  have e : nameF 14 = ⟨#[99, 98, 110, 122]⟩ := by simp [nameF]
  repeat' (first
    | exact aw_ret (ret_vals (by simp; exact rfl) (by simp [*]; fail_if_success (show _)))
    | exact aw_ret (ret_vals (by simp; exact rfl) (by simp [*]; omega))
    | refine ar_end rfl ?_
    | refine ar_endD rfl (by kernel_rfl) ?_
    | refine ar_fin rfl ?_
    | refine ar_finD rfl (by kernel_rfl) ?_
    | refine ar_callV Try.call41 c_shown1 rfl rfl rfl rfl rfl (by simp; done) (by rfl) (by simp; done) ?_
    | refine ar_callV_if Try.call41 c_shown1 rfl rfl rfl rfl rfl rfl (by simp; done) rfl (by rfl) (by simp; done) ?_
    | refine ar_callV Try.call42 c_Name rfl rfl rfl rfl rfl (by simp; done) (by rfl) (by simp; done) ?_
    | refine ar_callV_if Try.call42 c_Name rfl rfl rfl rfl rfl rfl (by simp; done) rfl (by rfl) (by simp; done) ?_
    | refine ar_go3 _ rfl (by simp [e, ba_size, ba_get, ba_getE, ByteArray.toList_eq, name_14, wrap64s]; exact ⟨rfl, rfl, rfl⟩) rfl ?_
    | refine aw_sregK 0 [0, 1] ?_
    | refine aw_regK 0 [0, 1] ?_
    | refine aw_sregK 1 [0, 1] ?_
    | refine aw_regK 1 [0, 1] ?_
    | refine aw_sregK 2 [0, 1, 5] ?_
    | refine aw_regK 2 [0, 1, 5] ?_
    | refine aw_sregK 3 [0, 1, 5, 6] ?_
    | refine aw_regK 3 [0, 1, 5, 6] ?_
    | refine aw_sregK 4 [0, 1, 5, 6, 7] ?_
    | refine aw_regK 4 [0, 1, 5, 6, 7] ?_
    | refine aw_sregK 5 [0, 1, 5, 6, 7] ?_
    | refine aw_regK 5 [0, 1, 5, 6, 7] ?_
    | refine aw_sregK 6 [0, 1, 5, 6, 7] ?_
    | refine aw_regK 6 [0, 1, 5, 6, 7] ?_
    | refine aw_sregK 7 [] ?_
    | refine aw_regK 7 [] ?_
    | refine aw_sregK 8 [0, 1, 5, 6] ?_
    | refine aw_regK 8 [0, 1, 5, 6] ?_
    | refine aw_sreg ?_
    | refine aw_sregD mixed ?_
    | refine aw_ifT (b := true) rfl rfl ?_
    | refine aw_ifF (b := false) rfl rfl ?_
    | refine aw_ifT rfl (decide_eq_true (by assumption)) ?_
    | refine aw_ifF rfl (decide_eq_false (by assumption)) ?_
    | refine aw_rounds 6 ?_
    | refine awr_step ?_
    | refine aw_seq ?_
    | refine aw_block ?_
    | refine aw_skip ?_
    | refine aw_region ?_
    | refine aw_region_draw mixed ?_
    | refine aw_exit ?_
    | refine rq_exit ?_
    | refine blockQ_hit ?_
    | refine blockQ_miss (by decide) ?_
    | (refine ar_guard rfl rfl rfl rfl (fun h => ?_) (fun h => ?_) <;> (fail_if_success (cases h; done)) <;> (try simp at h) <;> (try subst h))
    | (refine aw_both rfl (fun h => ?_) (fun h => ?_) <;> (fail_if_success (cases h; done)) <;> (try simp at h) <;> (try subst h)))
set_option maxHeartbeats 16000000 in
theorem law_InsNames_n {a b : Int} (h : nameF a = ⟨#[]⟩) (h1 : ¬(1 ≤ a ∧ a ≤ 14)) : SC Try.prog 11 [I .i64 a, I .i64 b] (B true) := by
  by_cases q : 1 ≤ a
  · have q2 : ¬ a ≤ 14 := fun e => h1 ⟨q, e⟩
    refine scx_of Try.func11 rfl rfl rfl (Nat.le_of_ble_eq_true rfl) ?_
    repeat' (first
      | exact aw_ret (ret_vals (by simp; exact rfl) (by simp [*]; fail_if_success (show _)))
      | exact aw_ret (ret_vals (by simp; exact rfl) (by simp [*]; omega))
      | refine ar_end rfl ?_
      | refine ar_endD rfl (by kernel_rfl) ?_
      | refine ar_fin rfl ?_
      | refine ar_finD rfl (by kernel_rfl) ?_
      | refine ar_callV Try.call41 c_shown1 rfl rfl rfl rfl rfl (by simp; done) (by rfl) (by simp; done) ?_
      | refine ar_callV_if Try.call41 c_shown1 rfl rfl rfl rfl rfl rfl (by simp; done) rfl (by rfl) (by simp; done) ?_
      | refine ar_callV Try.call42 c_Name rfl rfl rfl rfl rfl (by simp; done) (by rfl) (by simp; done) ?_
      | refine ar_callV_if Try.call42 c_Name rfl rfl rfl rfl rfl rfl (by simp; done) rfl (by rfl) (by simp; done) ?_
      | refine ar_go3 _ rfl (by simp [h, q, q2, ba_size, ByteArray.toList_eq]; exact ⟨rfl, rfl, rfl⟩) rfl ?_
      | refine aw_sregK 0 [0, 1] ?_
      | refine aw_regK 0 [0, 1] ?_
      | refine aw_sregK 1 [0, 1] ?_
      | refine aw_regK 1 [0, 1] ?_
      | refine aw_sregK 2 [0, 1, 5] ?_
      | refine aw_regK 2 [0, 1, 5] ?_
      | refine aw_sregK 3 [0, 1, 5, 6] ?_
      | refine aw_regK 3 [0, 1, 5, 6] ?_
      | refine aw_sregK 4 [0, 1, 5, 6, 7] ?_
      | refine aw_regK 4 [0, 1, 5, 6, 7] ?_
      | refine aw_sregK 5 [0, 1, 5, 6, 7] ?_
      | refine aw_regK 5 [0, 1, 5, 6, 7] ?_
      | refine aw_sregK 6 [0, 1, 5, 6, 7] ?_
      | refine aw_regK 6 [0, 1, 5, 6, 7] ?_
      | refine aw_sregK 7 [] ?_
      | refine aw_regK 7 [] ?_
      | refine aw_sregK 8 [0, 1, 5, 6] ?_
      | refine aw_regK 8 [0, 1, 5, 6] ?_
      | refine aw_sreg ?_
      | refine aw_sregD mixed ?_
      | refine aw_ifT (b := true) rfl rfl ?_
      | refine aw_ifF (b := false) rfl rfl ?_
      | refine aw_ifT rfl (decide_eq_true (by assumption)) ?_
      | refine aw_ifF rfl (decide_eq_false (by assumption)) ?_
      | refine aw_rounds 6 ?_
      | refine awr_step ?_
      | refine aw_seq ?_
      | refine aw_block ?_
      | refine aw_skip ?_
      | refine aw_region ?_
      | refine aw_region_draw mixed ?_
      | refine aw_exit ?_
      | refine rq_exit ?_
      | refine blockQ_hit ?_
      | refine blockQ_miss (by decide) ?_
      | (refine ar_guard rfl rfl rfl rfl (fun h => ?_) (fun h => ?_) <;> (fail_if_success (cases h; done)) <;> (try simp at h) <;> (try subst h))
      | (refine aw_both rfl (fun h => ?_) (fun h => ?_) <;> (fail_if_success (cases h; done)) <;> (try simp at h) <;> (try subst h)))
  · refine scx_of Try.func11 rfl rfl rfl (Nat.le_of_ble_eq_true rfl) ?_
    repeat' (first
      | exact aw_ret (ret_vals (by simp; exact rfl) (by simp [*]; fail_if_success (show _)))
      | exact aw_ret (ret_vals (by simp; exact rfl) (by simp [*]; omega))
      | refine ar_end rfl ?_
      | refine ar_endD rfl (by kernel_rfl) ?_
      | refine ar_fin rfl ?_
      | refine ar_finD rfl (by kernel_rfl) ?_
      | refine ar_callV Try.call41 c_shown1 rfl rfl rfl rfl rfl (by simp; done) (by rfl) (by simp; done) ?_
      | refine ar_callV_if Try.call41 c_shown1 rfl rfl rfl rfl rfl rfl (by simp; done) rfl (by rfl) (by simp; done) ?_
      | refine ar_callV Try.call42 c_Name rfl rfl rfl rfl rfl (by simp; done) (by rfl) (by simp; done) ?_
      | refine ar_callV_if Try.call42 c_Name rfl rfl rfl rfl rfl rfl (by simp; done) rfl (by rfl) (by simp; done) ?_
      | refine ar_go3 _ rfl (by simp [h, q, ba_size, ByteArray.toList_eq]; exact ⟨rfl, rfl, rfl⟩) rfl ?_
      | refine aw_sregK 0 [0, 1] ?_
      | refine aw_regK 0 [0, 1] ?_
      | refine aw_sregK 1 [0, 1] ?_
      | refine aw_regK 1 [0, 1] ?_
      | refine aw_sregK 2 [0, 1, 5] ?_
      | refine aw_regK 2 [0, 1, 5] ?_
      | refine aw_sregK 3 [0, 1, 5, 6] ?_
      | refine aw_regK 3 [0, 1, 5, 6] ?_
      | refine aw_sregK 4 [0, 1, 5, 6, 7] ?_
      | refine aw_regK 4 [0, 1, 5, 6, 7] ?_
      | refine aw_sregK 5 [0, 1, 5, 6, 7] ?_
      | refine aw_regK 5 [0, 1, 5, 6, 7] ?_
      | refine aw_sregK 6 [0, 1, 5, 6, 7] ?_
      | refine aw_regK 6 [0, 1, 5, 6, 7] ?_
      | refine aw_sregK 7 [] ?_
      | refine aw_regK 7 [] ?_
      | refine aw_sregK 8 [0, 1, 5, 6] ?_
      | refine aw_regK 8 [0, 1, 5, 6] ?_
      | refine aw_sreg ?_
      | refine aw_sregD mixed ?_
      | refine aw_ifT (b := true) rfl rfl ?_
      | refine aw_ifF (b := false) rfl rfl ?_
      | refine aw_ifT rfl (decide_eq_true (by assumption)) ?_
      | refine aw_ifF rfl (decide_eq_false (by assumption)) ?_
      | refine aw_rounds 6 ?_
      | refine awr_step ?_
      | refine aw_seq ?_
      | refine aw_block ?_
      | refine aw_skip ?_
      | refine aw_region ?_
      | refine aw_region_draw mixed ?_
      | refine aw_exit ?_
      | refine rq_exit ?_
      | refine blockQ_hit ?_
      | refine blockQ_miss (by decide) ?_
      | (refine ar_guard rfl rfl rfl rfl (fun h => ?_) (fun h => ?_) <;> (fail_if_success (cases h; done)) <;> (try simp at h) <;> (try subst h))
      | (refine aw_both rfl (fun h => ?_) (fun h => ?_) <;> (fail_if_success (cases h; done)) <;> (try simp at h) <;> (try subst h)))
set_option maxHeartbeats 16000000 in
theorem law_InsNames {a b : Int} : SC Try.prog 11 [I .i64 a, I .i64 b] (B true) := by
  rcases ops a with rfl | rfl | rfl | rfl | rfl | rfl | rfl | rfl | rfl | rfl | rfl | rfl | rfl | rfl | rfl | h
  · exact law_InsNames_n rfl (by omega)
  · exact law_InsNames_1
  · exact law_InsNames_2
  · exact law_InsNames_3
  · exact law_InsNames_4
  · exact law_InsNames_5
  · exact law_InsNames_6
  · exact law_InsNames_7
  · exact law_InsNames_8
  · exact law_InsNames_9
  · exact law_InsNames_10
  · exact law_InsNames_11
  · exact law_InsNames_12
  · exact law_InsNames_13
  · exact law_InsNames_14
  · exact law_InsNames_n (name_no h) (by omega)
end Go.Eng
