import Derived.Test.YtamjcdfjkekdjaaFlowValsWalk
import Derived.Test.YtamjcdfjkekdjaaFlowF
set_option linter.unusedSimpArgs false
set_option linter.unusedVariables false
set_option linter.constructorNameAsVariable false
set_option autoImplicit false
namespace Go.Eng
open Go Go.RowKit Go.Proofs
set_option maxHeartbeats 16000000 in
theorem law_FlowHangs {th : List In} {vals : List Int} {lucks : List Bool} (hth : ∀ x ∈ th, wfIn x) (hvw : ∀ v ∈ vals, W64 v) : SC Try.prog 21 [.pv (.sl 6 (insL th)), .pv (.sl 1 (ints vals)), .pv (.sl 1 (bls lucks))] (B true) := by
  by_cases h8 : 8 < (th.length : Int)
  · refine scx_of Try.func21 rfl rfl rfl (Nat.le_of_ble_eq_true rfl) ?_
    repeat' (first
      | exact aw_ret (ret_vals (by simp; exact rfl) (by simp [*]; fail_if_success (show _)))
      | exact aw_ret (ret_vals (by simp; exact rfl) (by simp [*]; omega))
      | refine ar_end rfl ?_
      | refine ar_endD rfl (by kernel_rfl) ?_
      | refine ar_fin rfl ?_
      | refine ar_finD rfl (by kernel_rfl) ?_
      | refine ar_callV Try.call65 c_shown8 rfl rfl rfl rfl rfl (by simp; done) (by rfl) (by simp; done) ?_
      | refine ar_callV_if Try.call65 c_shown8 rfl rfl rfl rfl rfl rfl (by simp; done) rfl (by rfl) (by simp; done) ?_
      | refine ar_go3 _ rfl (by simp [insL_len, insL_getE, inL, ints_len, ints_getE, bls_len, evsL_len, evsL_getE, evL, u32s_len, u32s_getE, h8]; exact ⟨rfl, rfl, rfl⟩) rfl ?_
      | refine aw_sregK 0 [0, 1, 2] ?_
      | refine aw_regK 0 [0, 1, 2] ?_
      | refine aw_sregK 1 [0, 1, 2] ?_
      | refine aw_regK 1 [0, 1, 2] ?_
      | refine aw_sregK 2 [0, 1, 2, 7] ?_
      | refine aw_regK 2 [0, 1, 2, 7] ?_
      | refine aw_sregK 3 [7] ?_
      | refine aw_regK 3 [7] ?_
      | refine aw_sregK 4 [0, 1, 2, 7] ?_
      | refine aw_regK 4 [0, 1, 2, 7] ?_
      | refine aw_sregK 5 [7, 8] ?_
      | refine aw_regK 5 [7, 8] ?_
      | refine aw_sregK 6 [7, 8, 9] ?_
      | refine aw_regK 6 [7, 8, 9] ?_
      | refine aw_sregK 7 [] ?_
      | refine aw_regK 7 [] ?_
      | refine aw_sregK 8 [7, 8, 9] ?_
      | refine aw_regK 8 [7, 8, 9] ?_
      | refine aw_sregK 9 [7, 8, 9, 10] ?_
      | refine aw_regK 9 [7, 8, 9, 10] ?_
      | refine aw_sregK 10 [7, 8, 9, 10, 11] ?_
      | refine aw_regK 10 [7, 8, 9, 10, 11] ?_
      | refine aw_sregK 11 [7, 8, 9, 10, 11, 12] ?_
      | refine aw_regK 11 [7, 8, 9, 10, 11, 12] ?_
      | refine aw_sregK 12 [7, 8, 9, 10, 11, 12] ?_
      | refine aw_regK 12 [7, 8, 9, 10, 11, 12] ?_
      | refine aw_sregK 13 [7, 8, 9, 10, 11, 12] ?_
      | refine aw_regK 13 [7, 8, 9, 10, 11, 12] ?_
      | refine aw_sregKD mixed 14 [7, 8, 9, 10, 11, 12, 13] (by simp; exact rfl) ?_
      | refine aw_regKD mixed 14 [7, 8, 9, 10, 11, 12, 13] (by simp; exact rfl) ?_
      | refine aw_sregK 15 [] ?_
      | refine aw_regK 15 [] ?_
      | refine aw_sregK 16 [7, 8, 9, 10, 12, 13] ?_
      | refine aw_regK 16 [7, 8, 9, 10, 12, 13] ?_
      | refine aw_sregKD mixed 17 [7, 8, 9, 10, 12, 13, 14] (by simp; exact rfl) ?_
      | refine aw_regKD mixed 17 [7, 8, 9, 10, 12, 13, 14] (by simp; exact rfl) ?_
      | refine aw_sregK 18 [] ?_
      | refine aw_regK 18 [] ?_
      | refine aw_sregK 19 [7, 8, 9, 10, 12, 13] ?_
      | refine aw_regK 19 [7, 8, 9, 10, 12, 13] ?_
      | refine aw_sregK 20 [7, 8, 9, 10, 11, 12, 13] ?_
      | refine aw_regK 20 [7, 8, 9, 10, 11, 12, 13] ?_
      | refine aw_sregK 21 [7, 8, 9, 10, 11, 12] ?_
      | refine aw_regK 21 [7, 8, 9, 10, 11, 12] ?_
      | refine aw_sregK 22 [7, 8, 10] ?_
      | refine aw_regK 22 [7, 8, 10] ?_
      | refine aw_sregK 23 [7, 8, 10, 15] ?_
      | refine aw_regK 23 [7, 8, 10, 15] ?_
      | refine aw_sregK 24 [7, 8, 10, 15] ?_
      | refine aw_regK 24 [7, 8, 10, 15] ?_
      | refine aw_sregK 25 [7, 8, 10, 15] ?_
      | refine aw_regK 25 [7, 8, 10, 15] ?_
      | refine aw_sregK 26 [] ?_
      | refine aw_regK 26 [] ?_
      | refine aw_sregK 27 [7] ?_
      | refine aw_regK 27 [7] ?_
      | refine aw_sreg ?_
      | refine aw_sregD mixed ?_
      | refine aw_ifT (b := true) rfl rfl ?_
      | refine aw_ifF (b := false) rfl rfl ?_
      | refine aw_ifT rfl (by assumption) ?_
      | refine aw_ifF rfl (by assumption) ?_
      | refine aw_ifT rfl (decide_eq_true (by assumption)) ?_
      | refine aw_ifF rfl (decide_eq_false (by assumption)) ?_
      | refine aw_seq ?_
      | refine aw_block ?_
      | refine aw_skip ?_
      | refine aw_region ?_
      | refine aw_region_draw mixed ?_
      | refine aw_exit ?_
      | refine rq_exit ?_
      | refine blockQ_hit ?_
      | refine blockQ_miss (by decide) ?_
      | (refine ar_guard rfl rfl rfl rfl (fun h => ?_) (fun h => ?_) <;> (fail_if_success (cases h; done)) <;> (try simp at h) <;> (try subst h))
      | (refine aw_both rfl (fun h => ?_) (fun h => ?_) <;> (fail_if_success (cases h; done)) <;> (try simp at h) <;> (try subst h)))
  by_cases hv40 : 40 < (vals.length : Int)
  · refine scx_of Try.func21 rfl rfl rfl (Nat.le_of_ble_eq_true rfl) ?_
    repeat' (first
      | exact aw_ret (ret_vals (by simp; exact rfl) (by simp [*]; fail_if_success (show _)))
      | exact aw_ret (ret_vals (by simp; exact rfl) (by simp [*]; omega))
      | refine ar_end rfl ?_
      | refine ar_endD rfl (by kernel_rfl) ?_
      | refine ar_fin rfl ?_
      | refine ar_finD rfl (by kernel_rfl) ?_
      | refine ar_callV Try.call65 c_shown8 rfl rfl rfl rfl rfl (by simp; done) (by rfl) (by simp; done) ?_
      | refine ar_callV_if Try.call65 c_shown8 rfl rfl rfl rfl rfl rfl (by simp; done) rfl (by rfl) (by simp; done) ?_
      | refine ar_go3 _ rfl (by simp [insL_len, insL_getE, inL, ints_len, ints_getE, bls_len, evsL_len, evsL_getE, evL, u32s_len, u32s_getE, h8, hv40]; exact ⟨rfl, rfl, rfl⟩) rfl ?_
      | refine aw_sregK 0 [0, 1, 2] ?_
      | refine aw_regK 0 [0, 1, 2] ?_
      | refine aw_sregK 1 [0, 1, 2] ?_
      | refine aw_regK 1 [0, 1, 2] ?_
      | refine aw_sregK 2 [0, 1, 2, 7] ?_
      | refine aw_regK 2 [0, 1, 2, 7] ?_
      | refine aw_sregK 3 [7] ?_
      | refine aw_regK 3 [7] ?_
      | refine aw_sregK 4 [0, 1, 2, 7] ?_
      | refine aw_regK 4 [0, 1, 2, 7] ?_
      | refine aw_sregK 5 [7, 8] ?_
      | refine aw_regK 5 [7, 8] ?_
      | refine aw_sregK 6 [7, 8, 9] ?_
      | refine aw_regK 6 [7, 8, 9] ?_
      | refine aw_sregK 7 [] ?_
      | refine aw_regK 7 [] ?_
      | refine aw_sregK 8 [7, 8, 9] ?_
      | refine aw_regK 8 [7, 8, 9] ?_
      | refine aw_sregK 9 [7, 8, 9, 10] ?_
      | refine aw_regK 9 [7, 8, 9, 10] ?_
      | refine aw_sregK 10 [7, 8, 9, 10, 11] ?_
      | refine aw_regK 10 [7, 8, 9, 10, 11] ?_
      | refine aw_sregK 11 [7, 8, 9, 10, 11, 12] ?_
      | refine aw_regK 11 [7, 8, 9, 10, 11, 12] ?_
      | refine aw_sregK 12 [7, 8, 9, 10, 11, 12] ?_
      | refine aw_regK 12 [7, 8, 9, 10, 11, 12] ?_
      | refine aw_sregK 13 [7, 8, 9, 10, 11, 12] ?_
      | refine aw_regK 13 [7, 8, 9, 10, 11, 12] ?_
      | refine aw_sregKD mixed 14 [7, 8, 9, 10, 11, 12, 13] (by simp; exact rfl) ?_
      | refine aw_regKD mixed 14 [7, 8, 9, 10, 11, 12, 13] (by simp; exact rfl) ?_
      | refine aw_sregK 15 [] ?_
      | refine aw_regK 15 [] ?_
      | refine aw_sregK 16 [7, 8, 9, 10, 12, 13] ?_
      | refine aw_regK 16 [7, 8, 9, 10, 12, 13] ?_
      | refine aw_sregKD mixed 17 [7, 8, 9, 10, 12, 13, 14] (by simp; exact rfl) ?_
      | refine aw_regKD mixed 17 [7, 8, 9, 10, 12, 13, 14] (by simp; exact rfl) ?_
      | refine aw_sregK 18 [] ?_
      | refine aw_regK 18 [] ?_
      | refine aw_sregK 19 [7, 8, 9, 10, 12, 13] ?_
      | refine aw_regK 19 [7, 8, 9, 10, 12, 13] ?_
      | refine aw_sregK 20 [7, 8, 9, 10, 11, 12, 13] ?_
      | refine aw_regK 20 [7, 8, 9, 10, 11, 12, 13] ?_
      | refine aw_sregK 21 [7, 8, 9, 10, 11, 12] ?_
      | refine aw_regK 21 [7, 8, 9, 10, 11, 12] ?_
      | refine aw_sregK 22 [7, 8, 10] ?_
      | refine aw_regK 22 [7, 8, 10] ?_
      | refine aw_sregK 23 [7, 8, 10, 15] ?_
      | refine aw_regK 23 [7, 8, 10, 15] ?_
      | refine aw_sregK 24 [7, 8, 10, 15] ?_
      | refine aw_regK 24 [7, 8, 10, 15] ?_
      | refine aw_sregK 25 [7, 8, 10, 15] ?_
      | refine aw_regK 25 [7, 8, 10, 15] ?_
      | refine aw_sregK 26 [] ?_
      | refine aw_regK 26 [] ?_
      | refine aw_sregK 27 [7] ?_
      | refine aw_regK 27 [7] ?_
      | refine aw_sreg ?_
      | refine aw_sregD mixed ?_
      | refine aw_ifT (b := true) rfl rfl ?_
      | refine aw_ifF (b := false) rfl rfl ?_
      | refine aw_ifT rfl (by assumption) ?_
      | refine aw_ifF rfl (by assumption) ?_
      | refine aw_ifT rfl (decide_eq_true (by assumption)) ?_
      | refine aw_ifF rfl (decide_eq_false (by assumption)) ?_
      | refine aw_seq ?_
      | refine aw_block ?_
      | refine aw_skip ?_
      | refine aw_region ?_
      | refine aw_region_draw mixed ?_
      | refine aw_exit ?_
      | refine rq_exit ?_
      | refine blockQ_hit ?_
      | refine blockQ_miss (by decide) ?_
      | (refine ar_guard rfl rfl rfl rfl (fun h => ?_) (fun h => ?_) <;> (fail_if_success (cases h; done)) <;> (try simp at h) <;> (try subst h))
      | (refine aw_both rfl (fun h => ?_) (fun h => ?_) <;> (fail_if_success (cases h; done)) <;> (try simp at h) <;> (try subst h)))
  by_cases hl40 : 40 < (lucks.length : Int)
  · refine scx_of Try.func21 rfl rfl rfl (Nat.le_of_ble_eq_true rfl) ?_
    repeat' (first
      | exact aw_ret (ret_vals (by simp; exact rfl) (by simp [*]; fail_if_success (show _)))
      | exact aw_ret (ret_vals (by simp; exact rfl) (by simp [*]; omega))
      | refine ar_end rfl ?_
      | refine ar_endD rfl (by kernel_rfl) ?_
      | refine ar_fin rfl ?_
      | refine ar_finD rfl (by kernel_rfl) ?_
      | refine ar_callV Try.call65 c_shown8 rfl rfl rfl rfl rfl (by simp; done) (by rfl) (by simp; done) ?_
      | refine ar_callV_if Try.call65 c_shown8 rfl rfl rfl rfl rfl rfl (by simp; done) rfl (by rfl) (by simp; done) ?_
      | refine ar_go3 _ rfl (by simp [insL_len, insL_getE, inL, ints_len, ints_getE, bls_len, evsL_len, evsL_getE, evL, u32s_len, u32s_getE, h8, hv40, hl40]; exact ⟨rfl, rfl, rfl⟩) rfl ?_
      | refine aw_sregK 0 [0, 1, 2] ?_
      | refine aw_regK 0 [0, 1, 2] ?_
      | refine aw_sregK 1 [0, 1, 2] ?_
      | refine aw_regK 1 [0, 1, 2] ?_
      | refine aw_sregK 2 [0, 1, 2, 7] ?_
      | refine aw_regK 2 [0, 1, 2, 7] ?_
      | refine aw_sregK 3 [7] ?_
      | refine aw_regK 3 [7] ?_
      | refine aw_sregK 4 [0, 1, 2, 7] ?_
      | refine aw_regK 4 [0, 1, 2, 7] ?_
      | refine aw_sregK 5 [7, 8] ?_
      | refine aw_regK 5 [7, 8] ?_
      | refine aw_sregK 6 [7, 8, 9] ?_
      | refine aw_regK 6 [7, 8, 9] ?_
      | refine aw_sregK 7 [] ?_
      | refine aw_regK 7 [] ?_
      | refine aw_sregK 8 [7, 8, 9] ?_
      | refine aw_regK 8 [7, 8, 9] ?_
      | refine aw_sregK 9 [7, 8, 9, 10] ?_
      | refine aw_regK 9 [7, 8, 9, 10] ?_
      | refine aw_sregK 10 [7, 8, 9, 10, 11] ?_
      | refine aw_regK 10 [7, 8, 9, 10, 11] ?_
      | refine aw_sregK 11 [7, 8, 9, 10, 11, 12] ?_
      | refine aw_regK 11 [7, 8, 9, 10, 11, 12] ?_
      | refine aw_sregK 12 [7, 8, 9, 10, 11, 12] ?_
      | refine aw_regK 12 [7, 8, 9, 10, 11, 12] ?_
      | refine aw_sregK 13 [7, 8, 9, 10, 11, 12] ?_
      | refine aw_regK 13 [7, 8, 9, 10, 11, 12] ?_
      | refine aw_sregKD mixed 14 [7, 8, 9, 10, 11, 12, 13] (by simp; exact rfl) ?_
      | refine aw_regKD mixed 14 [7, 8, 9, 10, 11, 12, 13] (by simp; exact rfl) ?_
      | refine aw_sregK 15 [] ?_
      | refine aw_regK 15 [] ?_
      | refine aw_sregK 16 [7, 8, 9, 10, 12, 13] ?_
      | refine aw_regK 16 [7, 8, 9, 10, 12, 13] ?_
      | refine aw_sregKD mixed 17 [7, 8, 9, 10, 12, 13, 14] (by simp; exact rfl) ?_
      | refine aw_regKD mixed 17 [7, 8, 9, 10, 12, 13, 14] (by simp; exact rfl) ?_
      | refine aw_sregK 18 [] ?_
      | refine aw_regK 18 [] ?_
      | refine aw_sregK 19 [7, 8, 9, 10, 12, 13] ?_
      | refine aw_regK 19 [7, 8, 9, 10, 12, 13] ?_
      | refine aw_sregK 20 [7, 8, 9, 10, 11, 12, 13] ?_
      | refine aw_regK 20 [7, 8, 9, 10, 11, 12, 13] ?_
      | refine aw_sregK 21 [7, 8, 9, 10, 11, 12] ?_
      | refine aw_regK 21 [7, 8, 9, 10, 11, 12] ?_
      | refine aw_sregK 22 [7, 8, 10] ?_
      | refine aw_regK 22 [7, 8, 10] ?_
      | refine aw_sregK 23 [7, 8, 10, 15] ?_
      | refine aw_regK 23 [7, 8, 10, 15] ?_
      | refine aw_sregK 24 [7, 8, 10, 15] ?_
      | refine aw_regK 24 [7, 8, 10, 15] ?_
      | refine aw_sregK 25 [7, 8, 10, 15] ?_
      | refine aw_regK 25 [7, 8, 10, 15] ?_
      | refine aw_sregK 26 [] ?_
      | refine aw_regK 26 [] ?_
      | refine aw_sregK 27 [7] ?_
      | refine aw_regK 27 [7] ?_
      | refine aw_sreg ?_
      | refine aw_sregD mixed ?_
      | refine aw_ifT (b := true) rfl rfl ?_
      | refine aw_ifF (b := false) rfl rfl ?_
      | refine aw_ifT rfl (by assumption) ?_
      | refine aw_ifF rfl (by assumption) ?_
      | refine aw_ifT rfl (decide_eq_true (by assumption)) ?_
      | refine aw_ifF rfl (decide_eq_false (by assumption)) ?_
      | refine aw_seq ?_
      | refine aw_block ?_
      | refine aw_skip ?_
      | refine aw_region ?_
      | refine aw_region_draw mixed ?_
      | refine aw_exit ?_
      | refine rq_exit ?_
      | refine blockQ_hit ?_
      | refine blockQ_miss (by decide) ?_
      | (refine ar_guard rfl rfl rfl rfl (fun h => ?_) (fun h => ?_) <;> (fail_if_success (cases h; done)) <;> (try simp at h) <;> (try subst h))
      | (refine aw_both rfl (fun h => ?_) (fun h => ?_) <;> (fail_if_success (cases h; done)) <;> (try simp at h) <;> (try subst h)))
  have hR := c_Run (th := th) (locs := 2) (vals := vals) (lucks := lucks) (by simp [maxLen]; omega) (by omega) (by omega)
  obtain ⟨hW, k, hk, hI⟩ := run_wf (locs := 2) (lucks := lucks) hth hvw
  have hH := run_hang (th := th) (locs := 2) (vals := vals) (lucks := lucks)
  generalize runF th 2 vals lucks = R at *
  have hel := hI.es
  obtain ⟨hAd, hDa, hCt, hPa, hEv, hd0, hd1, hd2, hd3, _, _, _⟩ := hH
  have hes8 : ¬8 < (R.es.length : Int) := by omega
  have z0 := andNot_zero _ _ hd0
  have z1 := andNot_zero _ _ hd1
  have z2 := andNot_zero _ _ hd2
  have z3 := andNot_zero _ _ hd3
  refine scx_of Try.func21 rfl rfl rfl (Nat.le_of_ble_eq_true rfl) ?_
  repeat' (first
    | exact aw_ret (ret_vals (by simp; exact rfl) (by simp [*]; fail_if_success (show _)))
    | exact aw_ret (ret_vals (by simp; exact rfl) (by simp [*]; omega))
    | refine ar_end rfl ?_
    | refine ar_endD rfl (by kernel_rfl) ?_
    | refine ar_fin rfl ?_
    | refine ar_finD rfl (by kernel_rfl) ?_
    | refine ar_callV Try.call65 c_shown8 rfl rfl rfl rfl rfl (by simp; done) (by rfl) (by simp; done) ?_
    | refine ar_callV_if Try.call65 c_shown8 rfl rfl rfl rfl rfl rfl (by simp; done) rfl (by rfl) (by simp; done) ?_
    | refine ar_callV Try.call68 hR rfl rfl rfl rfl rfl (by simp; done) (by rfl) (by simp; done) ?_
    | refine ar_callV_if Try.call68 hR rfl rfl rfl rfl rfl rfl (by simp; done) rfl (by rfl) (by simp; done) ?_
    | refine ar_go3 _ rfl (by simp [insL_len, insL_getE, inL, ints_len, ints_getE, bls_len, evsL_len, evsL_getE, evL, u32s_len, u32s_getE, h8, hv40, hl40, hAd, hDa, hCt, hPa, hes8]; exact ⟨rfl, rfl, rfl⟩) rfl ?_
    | refine aw_sregK 0 [0, 1, 2] ?_
    | refine aw_regK 0 [0, 1, 2] ?_
    | refine aw_sregK 1 [0, 1, 2] ?_
    | refine aw_regK 1 [0, 1, 2] ?_
    | refine aw_sregK 2 [0, 1, 2, 7] ?_
    | refine aw_regK 2 [0, 1, 2, 7] ?_
    | refine aw_sregK 3 [7] ?_
    | refine aw_regK 3 [7] ?_
    | refine aw_sregK 4 [0, 1, 2, 7] ?_
    | refine aw_regK 4 [0, 1, 2, 7] ?_
    | refine aw_sregK 5 [7, 8] ?_
    | refine aw_regK 5 [7, 8] ?_
    | refine aw_sregK 6 [7, 8, 9] ?_
    | refine aw_regK 6 [7, 8, 9] ?_
    | refine aw_sregK 7 [] ?_
    | refine aw_regK 7 [] ?_
    | refine aw_sregK 8 [7, 8, 9] ?_
    | refine aw_regK 8 [7, 8, 9] ?_
    | refine aw_sregK 9 [7, 8, 9, 10] ?_
    | refine aw_regK 9 [7, 8, 9, 10] ?_
    | refine aw_sregK 10 [7, 8, 9, 10, 11] ?_
    | refine aw_regK 10 [7, 8, 9, 10, 11] ?_
    | refine aw_sregK 11 [7, 8, 9, 10, 11, 12] ?_
    | refine aw_regK 11 [7, 8, 9, 10, 11, 12] ?_
    | refine aw_sregK 12 [7, 8, 9, 10, 11, 12] ?_
    | refine aw_regK 12 [7, 8, 9, 10, 11, 12] ?_
    | refine aw_sregK 13 [7, 8, 9, 10, 11, 12] ?_
    | refine aw_regK 13 [7, 8, 9, 10, 11, 12] ?_
    | refine aw_sregKD mixed 14 [7, 8, 9, 10, 11, 12, 13] (by simp; exact rfl) ?_
    | refine aw_regKD mixed 14 [7, 8, 9, 10, 11, 12, 13] (by simp; exact rfl) ?_
    | refine aw_sregK 15 [] ?_
    | refine aw_regK 15 [] ?_
    | refine aw_sregK 16 [7, 8, 9, 10, 12, 13] ?_
    | refine aw_regK 16 [7, 8, 9, 10, 12, 13] ?_
    | refine aw_sregKD mixed 17 [7, 8, 9, 10, 12, 13, 14] (by simp; exact rfl) ?_
    | refine aw_regKD mixed 17 [7, 8, 9, 10, 12, 13, 14] (by simp; exact rfl) ?_
    | refine aw_sregK 18 [] ?_
    | refine aw_regK 18 [] ?_
    | refine aw_sregK 19 [7, 8, 9, 10, 12, 13] ?_
    | refine aw_regK 19 [7, 8, 9, 10, 12, 13] ?_
    | refine aw_sregK 20 [7, 8, 9, 10, 11, 12, 13] ?_
    | refine aw_regK 20 [7, 8, 9, 10, 11, 12, 13] ?_
    | refine aw_sregK 21 [7, 8, 9, 10, 11, 12] ?_
    | refine aw_regK 21 [7, 8, 9, 10, 11, 12] ?_
    | refine aw_sregK 22 [7, 8, 10] ?_
    | refine aw_regK 22 [7, 8, 10] ?_
    | refine aw_sregK 23 [7, 8, 10, 15] ?_
    | refine aw_regK 23 [7, 8, 10, 15] ?_
    | refine aw_sregK 24 [7, 8, 10, 15] ?_
    | refine aw_regK 24 [7, 8, 10, 15] ?_
    | refine aw_sregK 25 [7, 8, 10, 15] ?_
    | refine aw_regK 25 [7, 8, 10, 15] ?_
    | refine aw_sregK 26 [] ?_
    | refine aw_regK 26 [] ?_
    | refine aw_sregK 27 [7] ?_
    | refine aw_regK 27 [7] ?_
    | refine aw_sreg ?_
    | refine aw_sregD mixed ?_
    | refine aw_ifT (b := true) rfl rfl ?_
    | refine aw_ifF (b := false) rfl rfl ?_
    | refine aw_ifT rfl (by assumption) ?_
    | refine aw_ifF rfl (by assumption) ?_
    | refine aw_ifT rfl (decide_eq_true (by assumption)) ?_
    | refine aw_ifF rfl (decide_eq_false (by assumption)) ?_
    | refine aw_seq ?_
    | refine aw_block ?_
    | refine aw_skip ?_
    | refine aw_region ?_
    | refine aw_region_draw mixed ?_
    | refine aw_exit ?_
    | refine rq_exit ?_
    | refine blockQ_hit ?_
    | refine blockQ_miss (by decide) ?_
    | (refine ar_guard rfl rfl rfl rfl (fun h => ?_) (fun h => ?_) <;> (fail_if_success (cases h; done)) <;> (try simp at h) <;> (try subst h))
    | (refine aw_both rfl (fun h => ?_) (fun h => ?_) <;> (fail_if_success (cases h; done)) <;> (try simp at h) <;> (try subst h)))
  refine aw_loopN [7, 8, 9, 10, 11, 12] [.loc 8] (by simp; exact rfl) (ι := {n : Nat // n ≤ R.es.length}) (fun n => ⟨215, [(7, B true), (8, .ptr (.loc 8) 0), (9, I .i64 R.es.length), (10, I .u32 (ldM R.es n.1)), (11, I .u32 (prevC R.ct n.1)), (12, I .i64 n.1)], [(.loc 8, some (.box 76 [.pv (.sl 7 (evsL R.es)), .pv (.sl 1 (u32s R.ad)), .pv (.sl 1 (u32s R.da)), .pv (.sl 1 (u32s R.ct)), .pv (.sl 1 (ints R.pa)), I .i64 R.v0, I .i64 R.v1, I .i64 R.v2, I .i64 R.v3, I .u32 R.d0, I .u32 R.d1, I .u32 R.d2, I .u32 R.d3, I .i64 R.nv, I .i64 R.nl, I .i64 R.more]))]⟩) (fun n => R.es.length - n.1) ⟨0, by simp⟩ (by simp [ldM, prevC]) ?_
  rintro ⟨n, hn⟩
  by_cases hlt : n < R.es.length
  · have hc : (n : Int) < (R.es.length : Int) := by omega
    have w1 : IntKind.wrap .i64 ((n : Int) + 1) = (n : Int) + 1 := wrap64s (by omega) (by omega)
    have wat : IntKind.wrap .u64 (n : Int) = (n : Int) := by simp [IntKind.wrap, IntKind.bits, IntKind.signed]; omega
    have ha1 : n < R.ad.length := by omega
    have hdl : n < R.da.length := by omega
    have hc1 : n < R.ct.length := by omega
    have hp1 : n < R.pa.length := by omega
    have hE := hEv n hlt
    have hpc : prevC R.ct (n + 1) = R.ct.getD n 0 := rfl
    have hld : ldM R.es (n + 1) = if (R.es.getD n ev0).k = 1 then bits .or .u32 (ldM R.es n) (bitAt n) else ldM R.es n := rfl
    rw [getD_at hlt, getD_at ha1, getD_at hdl, getD_at hc1, getD_at hp1] at hE
    rw [getD_at hc1] at hpc
    rw [getD_at hlt] at hld
    generalize hee : R.es[n] = e at hE hld
    generalize haa : R.ad[n] = a at hE
    generalize hda : R.da[n] = d at hE
    generalize hca : R.ct[n] = c at hE hpc
    generalize hpa : R.pa[n] = p at hE
    obtain ⟨qa, qd, qc, qp, qz, ⟨qk1, qk6⟩, fth, qpair⟩ := hE
    have f1 := andNot_zero _ _ ((qa.or qd).or qc)
    have f2 := andNot_zero _ _ qp
    have kk1 : ¬e.k < 1 := by omega
    have kk6 : ¬6 < e.k := by omega
    by_cases hk1 : e.k = 1
    · have hpn : ¬0 ≤ p := by rw [qpair.iff, hk1]; omega
      have hpi : ¬(n : Int) ≤ p := by omega
      obtain rfl : d = 0 := qz (by omega)
      rw [if_pos hk1] at hld
      repeat' (first
        | refine ar_end rfl ?_
        | refine ar_endD rfl (by kernel_rfl) ?_
        | refine ar_fin rfl ?_
        | refine ar_finD rfl (by kernel_rfl) ?_
        | refine lq_normN [7, 8, 9, 10, 11, 12] [.loc 8] (by simp; exact rfl) ⟨n + 1, by omega⟩ (by dsimp only; omega) (by simp [hld, hpc, bitAt, IntKind.bits])
        | refine ar_go3 _ rfl (by simp [insL_len, insL_getE, inL, ints_len, ints_getE, bls_len, evsL_len, evsL_getE, evL, u32s_len, u32s_getE, hc, hlt, ha1, hc1, hp1, hee, haa, hda, hca, hpa, fth, w1, wat, hdl, f1, f2, hk1, hpn, hpi]; exact ⟨rfl, rfl, rfl⟩) rfl ?_
        | refine aw_sregK 0 [0, 1, 2] ?_
        | refine aw_regK 0 [0, 1, 2] ?_
        | refine aw_sregK 1 [0, 1, 2] ?_
        | refine aw_regK 1 [0, 1, 2] ?_
        | refine aw_sregK 2 [0, 1, 2, 7] ?_
        | refine aw_regK 2 [0, 1, 2, 7] ?_
        | refine aw_sregK 3 [7] ?_
        | refine aw_regK 3 [7] ?_
        | refine aw_sregK 4 [0, 1, 2, 7] ?_
        | refine aw_regK 4 [0, 1, 2, 7] ?_
        | refine aw_sregK 5 [7, 8] ?_
        | refine aw_regK 5 [7, 8] ?_
        | refine aw_sregK 6 [7, 8, 9] ?_
        | refine aw_regK 6 [7, 8, 9] ?_
        | refine aw_sregK 7 [] ?_
        | refine aw_regK 7 [] ?_
        | refine aw_sregK 8 [7, 8, 9] ?_
        | refine aw_regK 8 [7, 8, 9] ?_
        | refine aw_sregK 9 [7, 8, 9, 10] ?_
        | refine aw_regK 9 [7, 8, 9, 10] ?_
        | refine aw_sregK 10 [7, 8, 9, 10, 11] ?_
        | refine aw_regK 10 [7, 8, 9, 10, 11] ?_
        | refine aw_sregK 11 [7, 8, 9, 10, 11, 12] ?_
        | refine aw_regK 11 [7, 8, 9, 10, 11, 12] ?_
        | refine aw_sregK 12 [7, 8, 9, 10, 11, 12] ?_
        | refine aw_regK 12 [7, 8, 9, 10, 11, 12] ?_
        | refine aw_sregK 13 [7, 8, 9, 10, 11, 12] ?_
        | refine aw_regK 13 [7, 8, 9, 10, 11, 12] ?_
        | refine aw_sregKD mixed 14 [7, 8, 9, 10, 11, 12, 13] (by simp; exact rfl) ?_
        | refine aw_regKD mixed 14 [7, 8, 9, 10, 11, 12, 13] (by simp; exact rfl) ?_
        | refine aw_sregK 15 [] ?_
        | refine aw_regK 15 [] ?_
        | refine aw_sregK 16 [7, 8, 9, 10, 12, 13] ?_
        | refine aw_regK 16 [7, 8, 9, 10, 12, 13] ?_
        | refine aw_sregKD mixed 17 [7, 8, 9, 10, 12, 13, 14] (by simp; exact rfl) ?_
        | refine aw_regKD mixed 17 [7, 8, 9, 10, 12, 13, 14] (by simp; exact rfl) ?_
        | refine aw_sregK 18 [] ?_
        | refine aw_regK 18 [] ?_
        | refine aw_sregK 19 [7, 8, 9, 10, 12, 13] ?_
        | refine aw_regK 19 [7, 8, 9, 10, 12, 13] ?_
        | refine aw_sregK 20 [7, 8, 9, 10, 11, 12, 13] ?_
        | refine aw_regK 20 [7, 8, 9, 10, 11, 12, 13] ?_
        | refine aw_sregK 21 [7, 8, 9, 10, 11, 12] ?_
        | refine aw_regK 21 [7, 8, 9, 10, 11, 12] ?_
        | refine aw_sregK 22 [7, 8, 10] ?_
        | refine aw_regK 22 [7, 8, 10] ?_
        | refine aw_sregK 23 [7, 8, 10, 15] ?_
        | refine aw_regK 23 [7, 8, 10, 15] ?_
        | refine aw_sregK 24 [7, 8, 10, 15] ?_
        | refine aw_regK 24 [7, 8, 10, 15] ?_
        | refine aw_sregK 25 [7, 8, 10, 15] ?_
        | refine aw_regK 25 [7, 8, 10, 15] ?_
        | refine aw_sregK 26 [] ?_
        | refine aw_regK 26 [] ?_
        | refine aw_sregK 27 [7] ?_
        | refine aw_regK 27 [7] ?_
        | refine aw_sreg ?_
        | refine aw_sregD mixed ?_
        | refine aw_ifT (b := true) rfl rfl ?_
        | refine aw_ifF (b := false) rfl rfl ?_
        | refine aw_ifT rfl (by assumption) ?_
        | refine aw_ifF rfl (by assumption) ?_
        | refine aw_ifT rfl (decide_eq_true (by assumption)) ?_
        | refine aw_ifF rfl (decide_eq_false (by assumption)) ?_
        | refine aw_seq ?_
        | refine aw_block ?_
        | refine aw_skip ?_
        | refine aw_region ?_
        | refine aw_region_draw mixed ?_
        | refine aw_exit ?_
        | refine rq_exit ?_
        | refine blockQ_hit ?_
        | refine blockQ_miss (by decide) ?_
        | (refine ar_guard rfl rfl rfl rfl (fun h => ?_) (fun h => ?_) <;> (fail_if_success (cases h; done)) <;> (try simp at h) <;> (try subst h))
        | (refine aw_both rfl (fun h => ?_) (fun h => ?_) <;> (fail_if_success (cases h; done)) <;> (try simp at h) <;> (try subst h)))
    rw [if_neg hk1] at hld
    by_cases hk2 : e.k = 2
    · by_cases hp0 : 0 ≤ p
      · have hex : e.ex = true := (qpair.iff.1 hp0).2
        obtain ⟨r1, r2, r3⟩ := qpair.k hp0
        have rl := qpair.lt hp0
        have rl2 : p.toNat < R.es.length := by omega
        rw [getD_at rl2] at r1 r2 r3
        have hpi : ¬(n : Int) ≤ p := by omega
        generalize hqq : R.es[p.toNat] = q at r1 r2 r3
        repeat' (first
          | refine ar_end rfl ?_
          | refine ar_endD rfl (by kernel_rfl) ?_
          | refine ar_fin rfl ?_
          | refine ar_finD rfl (by kernel_rfl) ?_
          | refine lq_normN [7, 8, 9, 10, 11, 12] [.loc 8] (by simp; exact rfl) ⟨n + 1, by omega⟩ (by dsimp only; omega) (by simp [hld, hpc])
          | refine ar_go3 _ rfl (by simp [insL_len, insL_getE, inL, ints_len, ints_getE, bls_len, evsL_len, evsL_getE, evL, u32s_len, u32s_getE, hc, hlt, ha1, hc1, hp1, hee, haa, hda, hca, hpa, fth, w1, wat, hdl, f1, f2, hk2, hp0, hpi, hex, rl2, hqq, r1, r2, r3]; exact ⟨rfl, rfl, rfl⟩) rfl ?_
          | refine aw_sregK 0 [0, 1, 2] ?_
          | refine aw_regK 0 [0, 1, 2] ?_
          | refine aw_sregK 1 [0, 1, 2] ?_
          | refine aw_regK 1 [0, 1, 2] ?_
          | refine aw_sregK 2 [0, 1, 2, 7] ?_
          | refine aw_regK 2 [0, 1, 2, 7] ?_
          | refine aw_sregK 3 [7] ?_
          | refine aw_regK 3 [7] ?_
          | refine aw_sregK 4 [0, 1, 2, 7] ?_
          | refine aw_regK 4 [0, 1, 2, 7] ?_
          | refine aw_sregK 5 [7, 8] ?_
          | refine aw_regK 5 [7, 8] ?_
          | refine aw_sregK 6 [7, 8, 9] ?_
          | refine aw_regK 6 [7, 8, 9] ?_
          | refine aw_sregK 7 [] ?_
          | refine aw_regK 7 [] ?_
          | refine aw_sregK 8 [7, 8, 9] ?_
          | refine aw_regK 8 [7, 8, 9] ?_
          | refine aw_sregK 9 [7, 8, 9, 10] ?_
          | refine aw_regK 9 [7, 8, 9, 10] ?_
          | refine aw_sregK 10 [7, 8, 9, 10, 11] ?_
          | refine aw_regK 10 [7, 8, 9, 10, 11] ?_
          | refine aw_sregK 11 [7, 8, 9, 10, 11, 12] ?_
          | refine aw_regK 11 [7, 8, 9, 10, 11, 12] ?_
          | refine aw_sregK 12 [7, 8, 9, 10, 11, 12] ?_
          | refine aw_regK 12 [7, 8, 9, 10, 11, 12] ?_
          | refine aw_sregK 13 [7, 8, 9, 10, 11, 12] ?_
          | refine aw_regK 13 [7, 8, 9, 10, 11, 12] ?_
          | refine aw_sregKD mixed 14 [7, 8, 9, 10, 11, 12, 13] (by simp; exact rfl) ?_
          | refine aw_regKD mixed 14 [7, 8, 9, 10, 11, 12, 13] (by simp; exact rfl) ?_
          | refine aw_sregK 15 [] ?_
          | refine aw_regK 15 [] ?_
          | refine aw_sregK 16 [7, 8, 9, 10, 12, 13] ?_
          | refine aw_regK 16 [7, 8, 9, 10, 12, 13] ?_
          | refine aw_sregKD mixed 17 [7, 8, 9, 10, 12, 13, 14] (by simp; exact rfl) ?_
          | refine aw_regKD mixed 17 [7, 8, 9, 10, 12, 13, 14] (by simp; exact rfl) ?_
          | refine aw_sregK 18 [] ?_
          | refine aw_regK 18 [] ?_
          | refine aw_sregK 19 [7, 8, 9, 10, 12, 13] ?_
          | refine aw_regK 19 [7, 8, 9, 10, 12, 13] ?_
          | refine aw_sregK 20 [7, 8, 9, 10, 11, 12, 13] ?_
          | refine aw_regK 20 [7, 8, 9, 10, 11, 12, 13] ?_
          | refine aw_sregK 21 [7, 8, 9, 10, 11, 12] ?_
          | refine aw_regK 21 [7, 8, 9, 10, 11, 12] ?_
          | refine aw_sregK 22 [7, 8, 10] ?_
          | refine aw_regK 22 [7, 8, 10] ?_
          | refine aw_sregK 23 [7, 8, 10, 15] ?_
          | refine aw_regK 23 [7, 8, 10, 15] ?_
          | refine aw_sregK 24 [7, 8, 10, 15] ?_
          | refine aw_regK 24 [7, 8, 10, 15] ?_
          | refine aw_sregK 25 [7, 8, 10, 15] ?_
          | refine aw_regK 25 [7, 8, 10, 15] ?_
          | refine aw_sregK 26 [] ?_
          | refine aw_regK 26 [] ?_
          | refine aw_sregK 27 [7] ?_
          | refine aw_regK 27 [7] ?_
          | refine aw_sreg ?_
          | refine aw_sregD mixed ?_
          | refine aw_ifT (b := true) rfl rfl ?_
          | refine aw_ifF (b := false) rfl rfl ?_
          | refine aw_ifT rfl (by assumption) ?_
          | refine aw_ifF rfl (by assumption) ?_
          | refine aw_ifT rfl (decide_eq_true (by assumption)) ?_
          | refine aw_ifF rfl (decide_eq_false (by assumption)) ?_
          | refine aw_seq ?_
          | refine aw_block ?_
          | refine aw_skip ?_
          | refine aw_region ?_
          | refine aw_region_draw mixed ?_
          | refine aw_exit ?_
          | refine rq_exit ?_
          | refine blockQ_hit ?_
          | refine blockQ_miss (by decide) ?_
          | (refine ar_guard rfl rfl rfl rfl (fun h => ?_) (fun h => ?_) <;> (fail_if_success (cases h; done)) <;> (try simp at h) <;> (try subst h))
          | (refine aw_both rfl (fun h => ?_) (fun h => ?_) <;> (fail_if_success (cases h; done)) <;> (try simp at h) <;> (try subst h)))
      · have hex : e.ex = false := by
          cases hx : e.ex
          · rfl
          · exact absurd (qpair.iff.2 ⟨hk2, hx⟩) hp0
        have hpi : ¬(n : Int) ≤ p := by omega
        repeat' (first
          | refine ar_end rfl ?_
          | refine ar_endD rfl (by kernel_rfl) ?_
          | refine ar_fin rfl ?_
          | refine ar_finD rfl (by kernel_rfl) ?_
          | refine lq_normN [7, 8, 9, 10, 11, 12] [.loc 8] (by simp; exact rfl) ⟨n + 1, by omega⟩ (by dsimp only; omega) (by simp [hld, hpc])
          | refine ar_go3 _ rfl (by simp [insL_len, insL_getE, inL, ints_len, ints_getE, bls_len, evsL_len, evsL_getE, evL, u32s_len, u32s_getE, hc, hlt, ha1, hc1, hp1, hee, haa, hda, hca, hpa, fth, w1, wat, hdl, f1, f2, hk2, hp0, hpi, hex]; exact ⟨rfl, rfl, rfl⟩) rfl ?_
          | refine aw_sregK 0 [0, 1, 2] ?_
          | refine aw_regK 0 [0, 1, 2] ?_
          | refine aw_sregK 1 [0, 1, 2] ?_
          | refine aw_regK 1 [0, 1, 2] ?_
          | refine aw_sregK 2 [0, 1, 2, 7] ?_
          | refine aw_regK 2 [0, 1, 2, 7] ?_
          | refine aw_sregK 3 [7] ?_
          | refine aw_regK 3 [7] ?_
          | refine aw_sregK 4 [0, 1, 2, 7] ?_
          | refine aw_regK 4 [0, 1, 2, 7] ?_
          | refine aw_sregK 5 [7, 8] ?_
          | refine aw_regK 5 [7, 8] ?_
          | refine aw_sregK 6 [7, 8, 9] ?_
          | refine aw_regK 6 [7, 8, 9] ?_
          | refine aw_sregK 7 [] ?_
          | refine aw_regK 7 [] ?_
          | refine aw_sregK 8 [7, 8, 9] ?_
          | refine aw_regK 8 [7, 8, 9] ?_
          | refine aw_sregK 9 [7, 8, 9, 10] ?_
          | refine aw_regK 9 [7, 8, 9, 10] ?_
          | refine aw_sregK 10 [7, 8, 9, 10, 11] ?_
          | refine aw_regK 10 [7, 8, 9, 10, 11] ?_
          | refine aw_sregK 11 [7, 8, 9, 10, 11, 12] ?_
          | refine aw_regK 11 [7, 8, 9, 10, 11, 12] ?_
          | refine aw_sregK 12 [7, 8, 9, 10, 11, 12] ?_
          | refine aw_regK 12 [7, 8, 9, 10, 11, 12] ?_
          | refine aw_sregK 13 [7, 8, 9, 10, 11, 12] ?_
          | refine aw_regK 13 [7, 8, 9, 10, 11, 12] ?_
          | refine aw_sregKD mixed 14 [7, 8, 9, 10, 11, 12, 13] (by simp; exact rfl) ?_
          | refine aw_regKD mixed 14 [7, 8, 9, 10, 11, 12, 13] (by simp; exact rfl) ?_
          | refine aw_sregK 15 [] ?_
          | refine aw_regK 15 [] ?_
          | refine aw_sregK 16 [7, 8, 9, 10, 12, 13] ?_
          | refine aw_regK 16 [7, 8, 9, 10, 12, 13] ?_
          | refine aw_sregKD mixed 17 [7, 8, 9, 10, 12, 13, 14] (by simp; exact rfl) ?_
          | refine aw_regKD mixed 17 [7, 8, 9, 10, 12, 13, 14] (by simp; exact rfl) ?_
          | refine aw_sregK 18 [] ?_
          | refine aw_regK 18 [] ?_
          | refine aw_sregK 19 [7, 8, 9, 10, 12, 13] ?_
          | refine aw_regK 19 [7, 8, 9, 10, 12, 13] ?_
          | refine aw_sregK 20 [7, 8, 9, 10, 11, 12, 13] ?_
          | refine aw_regK 20 [7, 8, 9, 10, 11, 12, 13] ?_
          | refine aw_sregK 21 [7, 8, 9, 10, 11, 12] ?_
          | refine aw_regK 21 [7, 8, 9, 10, 11, 12] ?_
          | refine aw_sregK 22 [7, 8, 10] ?_
          | refine aw_regK 22 [7, 8, 10] ?_
          | refine aw_sregK 23 [7, 8, 10, 15] ?_
          | refine aw_regK 23 [7, 8, 10, 15] ?_
          | refine aw_sregK 24 [7, 8, 10, 15] ?_
          | refine aw_regK 24 [7, 8, 10, 15] ?_
          | refine aw_sregK 25 [7, 8, 10, 15] ?_
          | refine aw_regK 25 [7, 8, 10, 15] ?_
          | refine aw_sregK 26 [] ?_
          | refine aw_regK 26 [] ?_
          | refine aw_sregK 27 [7] ?_
          | refine aw_regK 27 [7] ?_
          | refine aw_sreg ?_
          | refine aw_sregD mixed ?_
          | refine aw_ifT (b := true) rfl rfl ?_
          | refine aw_ifF (b := false) rfl rfl ?_
          | refine aw_ifT rfl (by assumption) ?_
          | refine aw_ifF rfl (by assumption) ?_
          | refine aw_ifT rfl (decide_eq_true (by assumption)) ?_
          | refine aw_ifF rfl (decide_eq_false (by assumption)) ?_
          | refine aw_seq ?_
          | refine aw_block ?_
          | refine aw_skip ?_
          | refine aw_region ?_
          | refine aw_region_draw mixed ?_
          | refine aw_exit ?_
          | refine rq_exit ?_
          | refine blockQ_hit ?_
          | refine blockQ_miss (by decide) ?_
          | (refine ar_guard rfl rfl rfl rfl (fun h => ?_) (fun h => ?_) <;> (fail_if_success (cases h; done)) <;> (try simp at h) <;> (try subst h))
          | (refine aw_both rfl (fun h => ?_) (fun h => ?_) <;> (fail_if_success (cases h; done)) <;> (try simp at h) <;> (try subst h)))
    · have hpn : ¬0 ≤ p := by rw [qpair.iff]; exact fun h => hk2 h.1
      have hpi : ¬(n : Int) ≤ p := by omega
      obtain rfl : d = 0 := qz hk2
      repeat' (first
        | refine ar_end rfl ?_
        | refine ar_endD rfl (by kernel_rfl) ?_
        | refine ar_fin rfl ?_
        | refine ar_finD rfl (by kernel_rfl) ?_
        | refine lq_normN [7, 8, 9, 10, 11, 12] [.loc 8] (by simp; exact rfl) ⟨n + 1, by omega⟩ (by dsimp only; omega) (by simp [hld, hpc])
        | refine ar_go3 _ rfl (by simp [insL_len, insL_getE, inL, ints_len, ints_getE, bls_len, evsL_len, evsL_getE, evL, u32s_len, u32s_getE, hc, hlt, ha1, hc1, hp1, hee, haa, hda, hca, hpa, fth, w1, wat, hdl, f1, f2, hk1, hk2, kk1, kk6, hpn, hpi]; exact ⟨rfl, rfl, rfl⟩) rfl ?_
        | refine aw_sregK 0 [0, 1, 2] ?_
        | refine aw_regK 0 [0, 1, 2] ?_
        | refine aw_sregK 1 [0, 1, 2] ?_
        | refine aw_regK 1 [0, 1, 2] ?_
        | refine aw_sregK 2 [0, 1, 2, 7] ?_
        | refine aw_regK 2 [0, 1, 2, 7] ?_
        | refine aw_sregK 3 [7] ?_
        | refine aw_regK 3 [7] ?_
        | refine aw_sregK 4 [0, 1, 2, 7] ?_
        | refine aw_regK 4 [0, 1, 2, 7] ?_
        | refine aw_sregK 5 [7, 8] ?_
        | refine aw_regK 5 [7, 8] ?_
        | refine aw_sregK 6 [7, 8, 9] ?_
        | refine aw_regK 6 [7, 8, 9] ?_
        | refine aw_sregK 7 [] ?_
        | refine aw_regK 7 [] ?_
        | refine aw_sregK 8 [7, 8, 9] ?_
        | refine aw_regK 8 [7, 8, 9] ?_
        | refine aw_sregK 9 [7, 8, 9, 10] ?_
        | refine aw_regK 9 [7, 8, 9, 10] ?_
        | refine aw_sregK 10 [7, 8, 9, 10, 11] ?_
        | refine aw_regK 10 [7, 8, 9, 10, 11] ?_
        | refine aw_sregK 11 [7, 8, 9, 10, 11, 12] ?_
        | refine aw_regK 11 [7, 8, 9, 10, 11, 12] ?_
        | refine aw_sregK 12 [7, 8, 9, 10, 11, 12] ?_
        | refine aw_regK 12 [7, 8, 9, 10, 11, 12] ?_
        | refine aw_sregK 13 [7, 8, 9, 10, 11, 12] ?_
        | refine aw_regK 13 [7, 8, 9, 10, 11, 12] ?_
        | refine aw_sregKD mixed 14 [7, 8, 9, 10, 11, 12, 13] (by simp; exact rfl) ?_
        | refine aw_regKD mixed 14 [7, 8, 9, 10, 11, 12, 13] (by simp; exact rfl) ?_
        | refine aw_sregK 15 [] ?_
        | refine aw_regK 15 [] ?_
        | refine aw_sregK 16 [7, 8, 9, 10, 12, 13] ?_
        | refine aw_regK 16 [7, 8, 9, 10, 12, 13] ?_
        | refine aw_sregKD mixed 17 [7, 8, 9, 10, 12, 13, 14] (by simp; exact rfl) ?_
        | refine aw_regKD mixed 17 [7, 8, 9, 10, 12, 13, 14] (by simp; exact rfl) ?_
        | refine aw_sregK 18 [] ?_
        | refine aw_regK 18 [] ?_
        | refine aw_sregK 19 [7, 8, 9, 10, 12, 13] ?_
        | refine aw_regK 19 [7, 8, 9, 10, 12, 13] ?_
        | refine aw_sregK 20 [7, 8, 9, 10, 11, 12, 13] ?_
        | refine aw_regK 20 [7, 8, 9, 10, 11, 12, 13] ?_
        | refine aw_sregK 21 [7, 8, 9, 10, 11, 12] ?_
        | refine aw_regK 21 [7, 8, 9, 10, 11, 12] ?_
        | refine aw_sregK 22 [7, 8, 10] ?_
        | refine aw_regK 22 [7, 8, 10] ?_
        | refine aw_sregK 23 [7, 8, 10, 15] ?_
        | refine aw_regK 23 [7, 8, 10, 15] ?_
        | refine aw_sregK 24 [7, 8, 10, 15] ?_
        | refine aw_regK 24 [7, 8, 10, 15] ?_
        | refine aw_sregK 25 [7, 8, 10, 15] ?_
        | refine aw_regK 25 [7, 8, 10, 15] ?_
        | refine aw_sregK 26 [] ?_
        | refine aw_regK 26 [] ?_
        | refine aw_sregK 27 [7] ?_
        | refine aw_regK 27 [7] ?_
        | refine aw_sreg ?_
        | refine aw_sregD mixed ?_
        | refine aw_ifT (b := true) rfl rfl ?_
        | refine aw_ifF (b := false) rfl rfl ?_
        | refine aw_ifT rfl (by assumption) ?_
        | refine aw_ifF rfl (by assumption) ?_
        | refine aw_ifT rfl (decide_eq_true (by assumption)) ?_
        | refine aw_ifF rfl (decide_eq_false (by assumption)) ?_
        | refine aw_seq ?_
        | refine aw_block ?_
        | refine aw_skip ?_
        | refine aw_region ?_
        | refine aw_region_draw mixed ?_
        | refine aw_exit ?_
        | refine rq_exit ?_
        | refine blockQ_hit ?_
        | refine blockQ_miss (by decide) ?_
        | (refine ar_guard rfl rfl rfl rfl (fun h => ?_) (fun h => ?_) <;> (fail_if_success (cases h; done)) <;> (try simp at h) <;> (try subst h))
        | (refine aw_both rfl (fun h => ?_) (fun h => ?_) <;> (fail_if_success (cases h; done)) <;> (try simp at h) <;> (try subst h)))
  have hc : ¬(n : Int) < (R.es.length : Int) := by omega
  have en : n = R.es.length := by omega
  subst en
  have w01 : IntKind.wrap .i64 1 = 1 := rfl
  have w02 : IntKind.wrap .i64 2 = 2 := rfl
  have w03 : IntKind.wrap .i64 3 = 3 := rfl
  have w04 : IntKind.wrap .i64 4 = 4 := rfl
  repeat' (first
    | exact aw_ret (ret_vals (by simp; exact rfl) (by simp [*]; fail_if_success (show _)))
    | exact aw_ret (ret_vals (by simp; exact rfl) (by simp [*]; omega))
    | refine ar_end rfl ?_
    | refine ar_endD rfl (by kernel_rfl) ?_
    | refine ar_fin rfl ?_
    | refine ar_finD rfl (by kernel_rfl) ?_
    | refine lq_exit ?_
    | refine ar_go3 _ rfl (by simp [insL_len, insL_getE, inL, ints_len, ints_getE, bls_len, evsL_len, evsL_getE, evL, u32s_len, u32s_getE, z0, z1, z2, z3, w01, w02, w03, w04]; exact ⟨rfl, rfl, rfl⟩) rfl ?_
    | refine aw_sregK 0 [0, 1, 2] ?_
    | refine aw_regK 0 [0, 1, 2] ?_
    | refine aw_sregK 1 [0, 1, 2] ?_
    | refine aw_regK 1 [0, 1, 2] ?_
    | refine aw_sregK 2 [0, 1, 2, 7] ?_
    | refine aw_regK 2 [0, 1, 2, 7] ?_
    | refine aw_sregK 3 [7] ?_
    | refine aw_regK 3 [7] ?_
    | refine aw_sregK 4 [0, 1, 2, 7] ?_
    | refine aw_regK 4 [0, 1, 2, 7] ?_
    | refine aw_sregK 5 [7, 8] ?_
    | refine aw_regK 5 [7, 8] ?_
    | refine aw_sregK 6 [7, 8, 9] ?_
    | refine aw_regK 6 [7, 8, 9] ?_
    | refine aw_sregK 7 [] ?_
    | refine aw_regK 7 [] ?_
    | refine aw_sregK 8 [7, 8, 9] ?_
    | refine aw_regK 8 [7, 8, 9] ?_
    | refine aw_sregK 9 [7, 8, 9, 10] ?_
    | refine aw_regK 9 [7, 8, 9, 10] ?_
    | refine aw_sregK 10 [7, 8, 9, 10, 11] ?_
    | refine aw_regK 10 [7, 8, 9, 10, 11] ?_
    | refine aw_sregK 11 [7, 8, 9, 10, 11, 12] ?_
    | refine aw_regK 11 [7, 8, 9, 10, 11, 12] ?_
    | refine aw_sregK 12 [7, 8, 9, 10, 11, 12] ?_
    | refine aw_regK 12 [7, 8, 9, 10, 11, 12] ?_
    | refine aw_sregK 13 [7, 8, 9, 10, 11, 12] ?_
    | refine aw_regK 13 [7, 8, 9, 10, 11, 12] ?_
    | refine aw_sregKD mixed 14 [7, 8, 9, 10, 11, 12, 13] (by simp; exact rfl) ?_
    | refine aw_regKD mixed 14 [7, 8, 9, 10, 11, 12, 13] (by simp; exact rfl) ?_
    | refine aw_sregK 15 [] ?_
    | refine aw_regK 15 [] ?_
    | refine aw_sregK 16 [7, 8, 9, 10, 12, 13] ?_
    | refine aw_regK 16 [7, 8, 9, 10, 12, 13] ?_
    | refine aw_sregKD mixed 17 [7, 8, 9, 10, 12, 13, 14] (by simp; exact rfl) ?_
    | refine aw_regKD mixed 17 [7, 8, 9, 10, 12, 13, 14] (by simp; exact rfl) ?_
    | refine aw_sregK 18 [] ?_
    | refine aw_regK 18 [] ?_
    | refine aw_sregK 19 [7, 8, 9, 10, 12, 13] ?_
    | refine aw_regK 19 [7, 8, 9, 10, 12, 13] ?_
    | refine aw_sregK 20 [7, 8, 9, 10, 11, 12, 13] ?_
    | refine aw_regK 20 [7, 8, 9, 10, 11, 12, 13] ?_
    | refine aw_sregK 21 [7, 8, 9, 10, 11, 12] ?_
    | refine aw_regK 21 [7, 8, 9, 10, 11, 12] ?_
    | refine aw_sregK 22 [7, 8, 10] ?_
    | refine aw_regK 22 [7, 8, 10] ?_
    | refine aw_sregK 23 [7, 8, 10, 15] ?_
    | refine aw_regK 23 [7, 8, 10, 15] ?_
    | refine aw_sregK 24 [7, 8, 10, 15] ?_
    | refine aw_regK 24 [7, 8, 10, 15] ?_
    | refine aw_sregK 25 [7, 8, 10, 15] ?_
    | refine aw_regK 25 [7, 8, 10, 15] ?_
    | refine aw_sregK 26 [] ?_
    | refine aw_regK 26 [] ?_
    | refine aw_sregK 27 [7] ?_
    | refine aw_regK 27 [7] ?_
    | refine aw_sreg ?_
    | refine aw_sregD mixed ?_
    | refine aw_ifT (b := true) rfl rfl ?_
    | refine aw_ifF (b := false) rfl rfl ?_
    | refine aw_ifT rfl (by assumption) ?_
    | refine aw_ifF rfl (by assumption) ?_
    | refine aw_ifT rfl (decide_eq_true (by assumption)) ?_
    | refine aw_ifF rfl (decide_eq_false (by assumption)) ?_
    | refine aw_rounds 5 ?_
    | refine awr_step ?_
    | refine aw_seq ?_
    | refine aw_block ?_
    | refine aw_skip ?_
    | refine aw_region ?_
    | refine aw_region_draw mixed ?_
    | refine aw_exit ?_
    | refine rq_exit ?_
    | refine blockQ_hit ?_
    | refine blockQ_miss (by decide) ?_
    | (refine ar_guard rfl rfl rfl rfl (fun h => ?_) (fun h => ?_) <;> (fail_if_success (cases h; done)) <;> (try simp at h) <;> (try subst h))
    | (refine aw_both rfl (fun h => ?_) (fun h => ?_) <;> (fail_if_success (cases h; done)) <;> (try simp at h) <;> (try subst h)))
end Go.Eng
