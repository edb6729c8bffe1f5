import Derived.Test.YtamjcdfjkekdjaaFlowE
set_option linter.unusedSimpArgs false
set_option linter.unusedVariables false
set_option linter.constructorNameAsVariable false
set_option autoImplicit false
namespace Go.Eng
open Go Go.RowKit Go.Proofs
set_option maxHeartbeats 16000000 in
theorem law_FlowVals {th : List In} {vals : List Int} {lucks : List Bool} (hth : ∀ x ∈ th, wfIn x) (hvw : ∀ v ∈ vals, W64 v) : SC Try.prog 22 [.pv (.sl 6 (insL th)), .pv (.sl 1 (ints vals)), .pv (.sl 1 (bls lucks))] (B true) := by
  by_cases h8 : 8 < (th.length : Int)
  · refine scx_of Try.func22 rfl rfl rfl (Nat.le_of_ble_eq_true rfl) ?_
    repeat' (first
      | exact aw_ret (ret_vals (by simp; exact rfl) (by simp [*]; fail_if_success (show _)))
      | exact aw_ret (ret_vals (by simp; exact rfl) (by simp [*]; omega))
      | refine ar_end rfl ?_
      | refine ar_endD rfl (by kernel_rfl) ?_
      | refine ar_fin rfl ?_
      | refine ar_finD rfl (by kernel_rfl) ?_
      | refine ar_callV Try.call65 c_shown8 rfl rfl rfl rfl rfl (by simp; done) (by rfl) (by simp; done) ?_
      | refine ar_callV_if Try.call65 c_shown8 rfl rfl rfl rfl rfl rfl (by simp; done) rfl (by rfl) (by simp; done) ?_
      | refine ar_go3 _ rfl (by simp [insL_len, insL_getE, inL, ints_len, ints_getE, bls_len, evsL_len, evsL_getE, evL, u32s_len, u32s_getE, h8]; exact ⟨rfl, rfl, rfl⟩) rfl ?_
      | refine aw_sregK 0 [0, 1, 2] ?_
      | refine aw_regK 0 [0, 1, 2] ?_
      | refine aw_sregK 1 [0, 1, 2] ?_
      | refine aw_regK 1 [0, 1, 2] ?_
      | refine aw_sregK 2 [0, 1, 2, 7] ?_
      | refine aw_regK 2 [0, 1, 2, 7] ?_
      | refine aw_sregK 3 [7] ?_
      | refine aw_regK 3 [7] ?_
      | refine aw_sregK 4 [0, 1, 2, 7] ?_
      | refine aw_regK 4 [0, 1, 2, 7] ?_
      | refine aw_sregK 5 [0, 1, 7, 8] ?_
      | refine aw_regK 5 [0, 1, 7, 8] ?_
      | refine aw_sregK 6 [0, 1, 7, 8, 9] ?_
      | refine aw_regK 6 [0, 1, 7, 8, 9] ?_
      | refine aw_sregK 7 [0, 1, 7, 8, 9, 10] ?_
      | refine aw_regK 7 [0, 1, 7, 8, 9, 10] ?_
      | refine aw_sregK 8 [0, 1, 7, 8, 9, 10] ?_
      | refine aw_regK 8 [0, 1, 7, 8, 9, 10] ?_
      | refine aw_sregK 9 [0, 1, 7, 8, 9, 10] ?_
      | refine aw_regK 9 [0, 1, 7, 8, 9, 10] ?_
      | refine aw_sregKD mixed 10 [0, 1, 7, 8, 9, 10] (by simp; exact rfl) ?_
      | refine aw_regKD mixed 10 [0, 1, 7, 8, 9, 10] (by simp; exact rfl) ?_
      | refine aw_sregK 11 [] ?_
      | refine aw_regK 11 [] ?_
      | refine aw_sregK 12 [0, 1, 7, 8, 9, 10] ?_
      | refine aw_regK 12 [0, 1, 7, 8, 9, 10] ?_
      | refine aw_sregK 13 [0, 7, 8, 9] ?_
      | refine aw_regK 13 [0, 7, 8, 9] ?_
      | refine aw_sregK 14 [0, 7, 8, 9, 11] ?_
      | refine aw_regK 14 [0, 7, 8, 9, 11] ?_
      | refine aw_sregK 15 [0, 7, 8, 9, 11, 12] ?_
      | refine aw_regK 15 [0, 7, 8, 9, 11, 12] ?_
      | refine aw_sregK 16 [0, 7, 8, 9, 11, 12] ?_
      | refine aw_regK 16 [0, 7, 8, 9, 11, 12] ?_
      | refine aw_sregK 17 [0, 7, 8, 9, 11, 12] ?_
      | refine aw_regK 17 [0, 7, 8, 9, 11, 12] ?_
      | refine aw_sregK 18 [0, 7, 8, 9, 11, 12, 13] ?_
      | refine aw_regK 18 [0, 7, 8, 9, 11, 12, 13] ?_
      | refine aw_sregK 19 [7, 8, 9, 11] ?_
      | refine aw_regK 19 [7, 8, 9, 11] ?_
      | refine aw_sreg ?_
      | refine aw_sregD mixed ?_
      | refine aw_ifT (b := true) rfl rfl ?_
      | refine aw_ifF (b := false) rfl rfl ?_
      | refine aw_ifT rfl (by assumption) ?_
      | refine aw_ifF rfl (by assumption) ?_
      | refine aw_ifT rfl (decide_eq_true (by assumption)) ?_
      | refine aw_ifF rfl (decide_eq_false (by assumption)) ?_
      | refine aw_seq ?_
      | refine aw_block ?_
      | refine aw_skip ?_
      | refine aw_region ?_
      | refine aw_region_draw mixed ?_
      | refine aw_exit ?_
      | refine rq_exit ?_
      | refine blockQ_hit ?_
      | refine blockQ_miss (by decide) ?_
      | (refine ar_guard rfl rfl rfl rfl (fun h => ?_) (fun h => ?_) <;> (fail_if_success (cases h; done)) <;> (try simp at h) <;> (try subst h))
      | (refine aw_both rfl (fun h => ?_) (fun h => ?_) <;> (fail_if_success (cases h; done)) <;> (try simp at h) <;> (try subst h)))
  by_cases hv40 : 40 < (vals.length : Int)
  · refine scx_of Try.func22 rfl rfl rfl (Nat.le_of_ble_eq_true rfl) ?_
    repeat' (first
      | exact aw_ret (ret_vals (by simp; exact rfl) (by simp [*]; fail_if_success (show _)))
      | exact aw_ret (ret_vals (by simp; exact rfl) (by simp [*]; omega))
      | refine ar_end rfl ?_
      | refine ar_endD rfl (by kernel_rfl) ?_
      | refine ar_fin rfl ?_
      | refine ar_finD rfl (by kernel_rfl) ?_
      | refine ar_callV Try.call65 c_shown8 rfl rfl rfl rfl rfl (by simp; done) (by rfl) (by simp; done) ?_
      | refine ar_callV_if Try.call65 c_shown8 rfl rfl rfl rfl rfl rfl (by simp; done) rfl (by rfl) (by simp; done) ?_
      | refine ar_go3 _ rfl (by simp [insL_len, insL_getE, inL, ints_len, ints_getE, bls_len, evsL_len, evsL_getE, evL, u32s_len, u32s_getE, h8, hv40]; exact ⟨rfl, rfl, rfl⟩) rfl ?_
      | refine aw_sregK 0 [0, 1, 2] ?_
      | refine aw_regK 0 [0, 1, 2] ?_
      | refine aw_sregK 1 [0, 1, 2] ?_
      | refine aw_regK 1 [0, 1, 2] ?_
      | refine aw_sregK 2 [0, 1, 2, 7] ?_
      | refine aw_regK 2 [0, 1, 2, 7] ?_
      | refine aw_sregK 3 [7] ?_
      | refine aw_regK 3 [7] ?_
      | refine aw_sregK 4 [0, 1, 2, 7] ?_
      | refine aw_regK 4 [0, 1, 2, 7] ?_
      | refine aw_sregK 5 [0, 1, 7, 8] ?_
      | refine aw_regK 5 [0, 1, 7, 8] ?_
      | refine aw_sregK 6 [0, 1, 7, 8, 9] ?_
      | refine aw_regK 6 [0, 1, 7, 8, 9] ?_
      | refine aw_sregK 7 [0, 1, 7, 8, 9, 10] ?_
      | refine aw_regK 7 [0, 1, 7, 8, 9, 10] ?_
      | refine aw_sregK 8 [0, 1, 7, 8, 9, 10] ?_
      | refine aw_regK 8 [0, 1, 7, 8, 9, 10] ?_
      | refine aw_sregK 9 [0, 1, 7, 8, 9, 10] ?_
      | refine aw_regK 9 [0, 1, 7, 8, 9, 10] ?_
      | refine aw_sregKD mixed 10 [0, 1, 7, 8, 9, 10] (by simp; exact rfl) ?_
      | refine aw_regKD mixed 10 [0, 1, 7, 8, 9, 10] (by simp; exact rfl) ?_
      | refine aw_sregK 11 [] ?_
      | refine aw_regK 11 [] ?_
      | refine aw_sregK 12 [0, 1, 7, 8, 9, 10] ?_
      | refine aw_regK 12 [0, 1, 7, 8, 9, 10] ?_
      | refine aw_sregK 13 [0, 7, 8, 9] ?_
      | refine aw_regK 13 [0, 7, 8, 9] ?_
      | refine aw_sregK 14 [0, 7, 8, 9, 11] ?_
      | refine aw_regK 14 [0, 7, 8, 9, 11] ?_
      | refine aw_sregK 15 [0, 7, 8, 9, 11, 12] ?_
      | refine aw_regK 15 [0, 7, 8, 9, 11, 12] ?_
      | refine aw_sregK 16 [0, 7, 8, 9, 11, 12] ?_
      | refine aw_regK 16 [0, 7, 8, 9, 11, 12] ?_
      | refine aw_sregK 17 [0, 7, 8, 9, 11, 12] ?_
      | refine aw_regK 17 [0, 7, 8, 9, 11, 12] ?_
      | refine aw_sregK 18 [0, 7, 8, 9, 11, 12, 13] ?_
      | refine aw_regK 18 [0, 7, 8, 9, 11, 12, 13] ?_
      | refine aw_sregK 19 [7, 8, 9, 11] ?_
      | refine aw_regK 19 [7, 8, 9, 11] ?_
      | refine aw_sreg ?_
      | refine aw_sregD mixed ?_
      | refine aw_ifT (b := true) rfl rfl ?_
      | refine aw_ifF (b := false) rfl rfl ?_
      | refine aw_ifT rfl (by assumption) ?_
      | refine aw_ifF rfl (by assumption) ?_
      | refine aw_ifT rfl (decide_eq_true (by assumption)) ?_
      | refine aw_ifF rfl (decide_eq_false (by assumption)) ?_
      | refine aw_seq ?_
      | refine aw_block ?_
      | refine aw_skip ?_
      | refine aw_region ?_
      | refine aw_region_draw mixed ?_
      | refine aw_exit ?_
      | refine rq_exit ?_
      | refine blockQ_hit ?_
      | refine blockQ_miss (by decide) ?_
      | (refine ar_guard rfl rfl rfl rfl (fun h => ?_) (fun h => ?_) <;> (fail_if_success (cases h; done)) <;> (try simp at h) <;> (try subst h))
      | (refine aw_both rfl (fun h => ?_) (fun h => ?_) <;> (fail_if_success (cases h; done)) <;> (try simp at h) <;> (try subst h)))
  by_cases hl40 : 40 < (lucks.length : Int)
  · refine scx_of Try.func22 rfl rfl rfl (Nat.le_of_ble_eq_true rfl) ?_
    repeat' (first
      | exact aw_ret (ret_vals (by simp; exact rfl) (by simp [*]; fail_if_success (show _)))
      | exact aw_ret (ret_vals (by simp; exact rfl) (by simp [*]; omega))
      | refine ar_end rfl ?_
      | refine ar_endD rfl (by kernel_rfl) ?_
      | refine ar_fin rfl ?_
      | refine ar_finD rfl (by kernel_rfl) ?_
      | refine ar_callV Try.call65 c_shown8 rfl rfl rfl rfl rfl (by simp; done) (by rfl) (by simp; done) ?_
      | refine ar_callV_if Try.call65 c_shown8 rfl rfl rfl rfl rfl rfl (by simp; done) rfl (by rfl) (by simp; done) ?_
      | refine ar_go3 _ rfl (by simp [insL_len, insL_getE, inL, ints_len, ints_getE, bls_len, evsL_len, evsL_getE, evL, u32s_len, u32s_getE, h8, hv40, hl40]; exact ⟨rfl, rfl, rfl⟩) rfl ?_
      | refine aw_sregK 0 [0, 1, 2] ?_
      | refine aw_regK 0 [0, 1, 2] ?_
      | refine aw_sregK 1 [0, 1, 2] ?_
      | refine aw_regK 1 [0, 1, 2] ?_
      | refine aw_sregK 2 [0, 1, 2, 7] ?_
      | refine aw_regK 2 [0, 1, 2, 7] ?_
      | refine aw_sregK 3 [7] ?_
      | refine aw_regK 3 [7] ?_
      | refine aw_sregK 4 [0, 1, 2, 7] ?_
      | refine aw_regK 4 [0, 1, 2, 7] ?_
      | refine aw_sregK 5 [0, 1, 7, 8] ?_
      | refine aw_regK 5 [0, 1, 7, 8] ?_
      | refine aw_sregK 6 [0, 1, 7, 8, 9] ?_
      | refine aw_regK 6 [0, 1, 7, 8, 9] ?_
      | refine aw_sregK 7 [0, 1, 7, 8, 9, 10] ?_
      | refine aw_regK 7 [0, 1, 7, 8, 9, 10] ?_
      | refine aw_sregK 8 [0, 1, 7, 8, 9, 10] ?_
      | refine aw_regK 8 [0, 1, 7, 8, 9, 10] ?_
      | refine aw_sregK 9 [0, 1, 7, 8, 9, 10] ?_
      | refine aw_regK 9 [0, 1, 7, 8, 9, 10] ?_
      | refine aw_sregKD mixed 10 [0, 1, 7, 8, 9, 10] (by simp; exact rfl) ?_
      | refine aw_regKD mixed 10 [0, 1, 7, 8, 9, 10] (by simp; exact rfl) ?_
      | refine aw_sregK 11 [] ?_
      | refine aw_regK 11 [] ?_
      | refine aw_sregK 12 [0, 1, 7, 8, 9, 10] ?_
      | refine aw_regK 12 [0, 1, 7, 8, 9, 10] ?_
      | refine aw_sregK 13 [0, 7, 8, 9] ?_
      | refine aw_regK 13 [0, 7, 8, 9] ?_
      | refine aw_sregK 14 [0, 7, 8, 9, 11] ?_
      | refine aw_regK 14 [0, 7, 8, 9, 11] ?_
      | refine aw_sregK 15 [0, 7, 8, 9, 11, 12] ?_
      | refine aw_regK 15 [0, 7, 8, 9, 11, 12] ?_
      | refine aw_sregK 16 [0, 7, 8, 9, 11, 12] ?_
      | refine aw_regK 16 [0, 7, 8, 9, 11, 12] ?_
      | refine aw_sregK 17 [0, 7, 8, 9, 11, 12] ?_
      | refine aw_regK 17 [0, 7, 8, 9, 11, 12] ?_
      | refine aw_sregK 18 [0, 7, 8, 9, 11, 12, 13] ?_
      | refine aw_regK 18 [0, 7, 8, 9, 11, 12, 13] ?_
      | refine aw_sregK 19 [7, 8, 9, 11] ?_
      | refine aw_regK 19 [7, 8, 9, 11] ?_
      | refine aw_sreg ?_
      | refine aw_sregD mixed ?_
      | refine aw_ifT (b := true) rfl rfl ?_
      | refine aw_ifF (b := false) rfl rfl ?_
      | refine aw_ifT rfl (by assumption) ?_
      | refine aw_ifF rfl (by assumption) ?_
      | refine aw_ifT rfl (decide_eq_true (by assumption)) ?_
      | refine aw_ifF rfl (decide_eq_false (by assumption)) ?_
      | refine aw_seq ?_
      | refine aw_block ?_
      | refine aw_skip ?_
      | refine aw_region ?_
      | refine aw_region_draw mixed ?_
      | refine aw_exit ?_
      | refine rq_exit ?_
      | refine blockQ_hit ?_
      | refine blockQ_miss (by decide) ?_
      | (refine ar_guard rfl rfl rfl rfl (fun h => ?_) (fun h => ?_) <;> (fail_if_success (cases h; done)) <;> (try simp at h) <;> (try subst h))
      | (refine aw_both rfl (fun h => ?_) (fun h => ?_) <;> (fail_if_success (cases h; done)) <;> (try simp at h) <;> (try subst h)))
  have hR := c_Run (th := th) (locs := 2) (vals := vals) (lucks := lucks) (by simp [maxLen]; omega) (by omega) (by omega)
  obtain ⟨hW, k, hk, hI⟩ := run_wf (locs := 2) (lucks := lucks) hth hvw
  have hreads := run_reads (th := th) (locs := 2) (vals := vals) (lucks := lucks)
  have hmore := run_more (th := th) (locs := 2) (vals := vals) (lucks := lucks)
  have hquiet := @run_quiet th 2 vals lucks
  generalize runF th 2 vals lucks = R at *
  have hel := hI.es
  refine scx_of Try.func22 rfl rfl rfl (Nat.le_of_ble_eq_true rfl) ?_
  repeat' (first
    | exact aw_ret (ret_vals (by simp; exact rfl) (by simp [*]; fail_if_success (show _)))
    | exact aw_ret (ret_vals (by simp; exact rfl) (by simp [*]; omega))
    | refine ar_end rfl ?_
    | refine ar_endD rfl (by kernel_rfl) ?_
    | refine ar_fin rfl ?_
    | refine ar_finD rfl (by kernel_rfl) ?_
    | refine ar_callV Try.call65 c_shown8 rfl rfl rfl rfl rfl (by simp; done) (by rfl) (by simp; done) ?_
    | refine ar_callV_if Try.call65 c_shown8 rfl rfl rfl rfl rfl rfl (by simp; done) rfl (by rfl) (by simp; done) ?_
    | refine ar_callV Try.call68 hR rfl rfl rfl rfl rfl (by simp; done) (by rfl) (by simp; done) ?_
    | refine ar_callV_if Try.call68 hR rfl rfl rfl rfl rfl rfl (by simp; done) rfl (by rfl) (by simp; done) ?_
    | refine ar_go3 _ rfl (by simp [insL_len, insL_getE, inL, ints_len, ints_getE, bls_len, evsL_len, evsL_getE, evL, u32s_len, u32s_getE, h8, hv40, hl40]; exact ⟨rfl, rfl, rfl⟩) rfl ?_
    | refine aw_sregK 0 [0, 1, 2] ?_
    | refine aw_regK 0 [0, 1, 2] ?_
    | refine aw_sregK 1 [0, 1, 2] ?_
    | refine aw_regK 1 [0, 1, 2] ?_
    | refine aw_sregK 2 [0, 1, 2, 7] ?_
    | refine aw_regK 2 [0, 1, 2, 7] ?_
    | refine aw_sregK 3 [7] ?_
    | refine aw_regK 3 [7] ?_
    | refine aw_sregK 4 [0, 1, 2, 7] ?_
    | refine aw_regK 4 [0, 1, 2, 7] ?_
    | refine aw_sregK 5 [0, 1, 7, 8] ?_
    | refine aw_regK 5 [0, 1, 7, 8] ?_
    | refine aw_sregK 6 [0, 1, 7, 8, 9] ?_
    | refine aw_regK 6 [0, 1, 7, 8, 9] ?_
    | refine aw_sregK 7 [0, 1, 7, 8, 9, 10] ?_
    | refine aw_regK 7 [0, 1, 7, 8, 9, 10] ?_
    | refine aw_sregK 8 [0, 1, 7, 8, 9, 10] ?_
    | refine aw_regK 8 [0, 1, 7, 8, 9, 10] ?_
    | refine aw_sregK 9 [0, 1, 7, 8, 9, 10] ?_
    | refine aw_regK 9 [0, 1, 7, 8, 9, 10] ?_
    | refine aw_sregKD mixed 10 [0, 1, 7, 8, 9, 10] (by simp; exact rfl) ?_
    | refine aw_regKD mixed 10 [0, 1, 7, 8, 9, 10] (by simp; exact rfl) ?_
    | refine aw_sregK 11 [] ?_
    | refine aw_regK 11 [] ?_
    | refine aw_sregK 12 [0, 1, 7, 8, 9, 10] ?_
    | refine aw_regK 12 [0, 1, 7, 8, 9, 10] ?_
    | refine aw_sregK 13 [0, 7, 8, 9] ?_
    | refine aw_regK 13 [0, 7, 8, 9] ?_
    | refine aw_sregK 14 [0, 7, 8, 9, 11] ?_
    | refine aw_regK 14 [0, 7, 8, 9, 11] ?_
    | refine aw_sregK 15 [0, 7, 8, 9, 11, 12] ?_
    | refine aw_regK 15 [0, 7, 8, 9, 11, 12] ?_
    | refine aw_sregK 16 [0, 7, 8, 9, 11, 12] ?_
    | refine aw_regK 16 [0, 7, 8, 9, 11, 12] ?_
    | refine aw_sregK 17 [0, 7, 8, 9, 11, 12] ?_
    | refine aw_regK 17 [0, 7, 8, 9, 11, 12] ?_
    | refine aw_sregK 18 [0, 7, 8, 9, 11, 12, 13] ?_
    | refine aw_regK 18 [0, 7, 8, 9, 11, 12, 13] ?_
    | refine aw_sregK 19 [7, 8, 9, 11] ?_
    | refine aw_regK 19 [7, 8, 9, 11] ?_
    | refine aw_sreg ?_
    | refine aw_sregD mixed ?_
    | refine aw_ifT (b := true) rfl rfl ?_
    | refine aw_ifF (b := false) rfl rfl ?_
    | refine aw_ifT rfl (by assumption) ?_
    | refine aw_ifF rfl (by assumption) ?_
    | refine aw_ifT rfl (decide_eq_true (by assumption)) ?_
    | refine aw_ifF rfl (decide_eq_false (by assumption)) ?_
    | refine aw_seq ?_
    | refine aw_block ?_
    | refine aw_skip ?_
    | refine aw_region ?_
    | refine aw_region_draw mixed ?_
    | refine aw_exit ?_
    | refine rq_exit ?_
    | refine blockQ_hit ?_
    | refine blockQ_miss (by decide) ?_
    | (refine ar_guard rfl rfl rfl rfl (fun h => ?_) (fun h => ?_) <;> (fail_if_success (cases h; done)) <;> (try simp at h) <;> (try subst h))
    | (refine aw_both rfl (fun h => ?_) (fun h => ?_) <;> (fail_if_success (cases h; done)) <;> (try simp at h) <;> (try subst h)))
  refine aw_loopN [0, 1, 7, 8, 9, 10] [.loc 8] (by simp; exact rfl) (ι := {n : Nat // n ≤ R.es.length}) (fun n => ⟨130, [(0, .pv (.sl 6 (insL th))), (1, .pv (.sl 1 (ints vals))), (7, B true), (8, .ptr (.loc 8) 0), (9, I .i64 (rdN R.es n.1)), (10, I .i64 n.1)], [(.loc 8, some (.box 76 [.pv (.sl 7 (evsL R.es)), .pv (.sl 1 (u32s R.ad)), .pv (.sl 1 (u32s R.da)), .pv (.sl 1 (u32s R.ct)), .pv (.sl 1 (ints R.pa)), I .i64 R.v0, I .i64 R.v1, I .i64 R.v2, I .i64 R.v3, I .u32 R.d0, I .u32 R.d1, I .u32 R.d2, I .u32 R.d3, I .i64 R.nv, I .i64 R.nl, I .i64 R.more]))]⟩) (fun n => R.es.length - n.1) ⟨0, by simp⟩ (by simp [rdN]) ?_
  rintro ⟨n, hn⟩
  by_cases hlt : n < R.es.length
  · have hc : (n : Int) < (R.es.length : Int) := by omega
    have w1 : IntKind.wrap .i64 ((n : Int) + 1) = (n : Int) + 1 := wrap64s (by omega) (by omega)
    have hs := rdN_succ hlt
    have hle := rdN_le R.es n
    by_cases hek : R.es[n].k = 1
    · obtain ⟨hrl, hrv⟩ := reads_at hreads hlt hek
      rw [if_pos hek] at hs
      have w2 : IntKind.wrap .i64 ((rdN R.es n : Int) + 1) = (rdN R.es n : Int) + 1 := wrap64s (by omega) (by omega)
      have hrd : ¬((vals.length : Int) ≤ (rdN R.es n : Int)) := by omega
      generalize hee : R.es[n] = e at hek hrv
      generalize hvv : vals[rdN R.es n] = v at hrv
      repeat' (first
        | refine ar_end rfl ?_
        | refine ar_endD rfl (by kernel_rfl) ?_
        | refine ar_fin rfl ?_
        | refine ar_finD rfl (by kernel_rfl) ?_
        | refine lq_normN [0, 1, 7, 8, 9, 10] [.loc 8] (by simp; exact rfl) ⟨n + 1, by omega⟩ (by dsimp only; omega) (by simp [hs])
        | refine ar_go3 _ rfl (by simp [insL_len, insL_getE, inL, ints_len, ints_getE, bls_len, evsL_len, evsL_getE, evL, u32s_len, u32s_getE, hc, hlt, hee, hek, hrd, hrl, hvv, hrv, w1, w2]; exact ⟨rfl, rfl, rfl⟩) rfl ?_
        | refine aw_sregK 0 [0, 1, 2] ?_
        | refine aw_regK 0 [0, 1, 2] ?_
        | refine aw_sregK 1 [0, 1, 2] ?_
        | refine aw_regK 1 [0, 1, 2] ?_
        | refine aw_sregK 2 [0, 1, 2, 7] ?_
        | refine aw_regK 2 [0, 1, 2, 7] ?_
        | refine aw_sregK 3 [7] ?_
        | refine aw_regK 3 [7] ?_
        | refine aw_sregK 4 [0, 1, 2, 7] ?_
        | refine aw_regK 4 [0, 1, 2, 7] ?_
        | refine aw_sregK 5 [0, 1, 7, 8] ?_
        | refine aw_regK 5 [0, 1, 7, 8] ?_
        | refine aw_sregK 6 [0, 1, 7, 8, 9] ?_
        | refine aw_regK 6 [0, 1, 7, 8, 9] ?_
        | refine aw_sregK 7 [0, 1, 7, 8, 9, 10] ?_
        | refine aw_regK 7 [0, 1, 7, 8, 9, 10] ?_
        | refine aw_sregK 8 [0, 1, 7, 8, 9, 10] ?_
        | refine aw_regK 8 [0, 1, 7, 8, 9, 10] ?_
        | refine aw_sregK 9 [0, 1, 7, 8, 9, 10] ?_
        | refine aw_regK 9 [0, 1, 7, 8, 9, 10] ?_
        | refine aw_sregKD mixed 10 [0, 1, 7, 8, 9, 10] (by simp; exact rfl) ?_
        | refine aw_regKD mixed 10 [0, 1, 7, 8, 9, 10] (by simp; exact rfl) ?_
        | refine aw_sregK 11 [] ?_
        | refine aw_regK 11 [] ?_
        | refine aw_sregK 12 [0, 1, 7, 8, 9, 10] ?_
        | refine aw_regK 12 [0, 1, 7, 8, 9, 10] ?_
        | refine aw_sregK 13 [0, 7, 8, 9] ?_
        | refine aw_regK 13 [0, 7, 8, 9] ?_
        | refine aw_sregK 14 [0, 7, 8, 9, 11] ?_
        | refine aw_regK 14 [0, 7, 8, 9, 11] ?_
        | refine aw_sregK 15 [0, 7, 8, 9, 11, 12] ?_
        | refine aw_regK 15 [0, 7, 8, 9, 11, 12] ?_
        | refine aw_sregK 16 [0, 7, 8, 9, 11, 12] ?_
        | refine aw_regK 16 [0, 7, 8, 9, 11, 12] ?_
        | refine aw_sregK 17 [0, 7, 8, 9, 11, 12] ?_
        | refine aw_regK 17 [0, 7, 8, 9, 11, 12] ?_
        | refine aw_sregK 18 [0, 7, 8, 9, 11, 12, 13] ?_
        | refine aw_regK 18 [0, 7, 8, 9, 11, 12, 13] ?_
        | refine aw_sregK 19 [7, 8, 9, 11] ?_
        | refine aw_regK 19 [7, 8, 9, 11] ?_
        | refine aw_sreg ?_
        | refine aw_sregD mixed ?_
        | refine aw_ifT (b := true) rfl rfl ?_
        | refine aw_ifF (b := false) rfl rfl ?_
        | refine aw_ifT rfl (by assumption) ?_
        | refine aw_ifF rfl (by assumption) ?_
        | refine aw_ifT rfl (decide_eq_true (by assumption)) ?_
        | refine aw_ifF rfl (decide_eq_false (by assumption)) ?_
        | refine aw_seq ?_
        | refine aw_block ?_
        | refine aw_skip ?_
        | refine aw_region ?_
        | refine aw_region_draw mixed ?_
        | refine aw_exit ?_
        | refine rq_exit ?_
        | refine blockQ_hit ?_
        | refine blockQ_miss (by decide) ?_
        | (refine ar_guard rfl rfl rfl rfl (fun h => ?_) (fun h => ?_) <;> (fail_if_success (cases h; done)) <;> (try simp at h) <;> (try subst h))
        | (refine aw_both rfl (fun h => ?_) (fun h => ?_) <;> (fail_if_success (cases h; done)) <;> (try simp at h) <;> (try subst h)))
    · rw [if_neg hek] at hs
      generalize hee : R.es[n] = e at hek
      repeat' (first
        | refine ar_end rfl ?_
        | refine ar_endD rfl (by kernel_rfl) ?_
        | refine ar_fin rfl ?_
        | refine ar_finD rfl (by kernel_rfl) ?_
        | refine lq_normN [0, 1, 7, 8, 9, 10] [.loc 8] (by simp; exact rfl) ⟨n + 1, by omega⟩ (by dsimp only; omega) (by simp [hs])
        | refine ar_go3 _ rfl (by simp [insL_len, insL_getE, inL, ints_len, ints_getE, bls_len, evsL_len, evsL_getE, evL, u32s_len, u32s_getE, hc, hlt, hee, hek, w1]; exact ⟨rfl, rfl, rfl⟩) rfl ?_
        | refine aw_sregK 0 [0, 1, 2] ?_
        | refine aw_regK 0 [0, 1, 2] ?_
        | refine aw_sregK 1 [0, 1, 2] ?_
        | refine aw_regK 1 [0, 1, 2] ?_
        | refine aw_sregK 2 [0, 1, 2, 7] ?_
        | refine aw_regK 2 [0, 1, 2, 7] ?_
        | refine aw_sregK 3 [7] ?_
        | refine aw_regK 3 [7] ?_
        | refine aw_sregK 4 [0, 1, 2, 7] ?_
        | refine aw_regK 4 [0, 1, 2, 7] ?_
        | refine aw_sregK 5 [0, 1, 7, 8] ?_
        | refine aw_regK 5 [0, 1, 7, 8] ?_
        | refine aw_sregK 6 [0, 1, 7, 8, 9] ?_
        | refine aw_regK 6 [0, 1, 7, 8, 9] ?_
        | refine aw_sregK 7 [0, 1, 7, 8, 9, 10] ?_
        | refine aw_regK 7 [0, 1, 7, 8, 9, 10] ?_
        | refine aw_sregK 8 [0, 1, 7, 8, 9, 10] ?_
        | refine aw_regK 8 [0, 1, 7, 8, 9, 10] ?_
        | refine aw_sregK 9 [0, 1, 7, 8, 9, 10] ?_
        | refine aw_regK 9 [0, 1, 7, 8, 9, 10] ?_
        | refine aw_sregKD mixed 10 [0, 1, 7, 8, 9, 10] (by simp; exact rfl) ?_
        | refine aw_regKD mixed 10 [0, 1, 7, 8, 9, 10] (by simp; exact rfl) ?_
        | refine aw_sregK 11 [] ?_
        | refine aw_regK 11 [] ?_
        | refine aw_sregK 12 [0, 1, 7, 8, 9, 10] ?_
        | refine aw_regK 12 [0, 1, 7, 8, 9, 10] ?_
        | refine aw_sregK 13 [0, 7, 8, 9] ?_
        | refine aw_regK 13 [0, 7, 8, 9] ?_
        | refine aw_sregK 14 [0, 7, 8, 9, 11] ?_
        | refine aw_regK 14 [0, 7, 8, 9, 11] ?_
        | refine aw_sregK 15 [0, 7, 8, 9, 11, 12] ?_
        | refine aw_regK 15 [0, 7, 8, 9, 11, 12] ?_
        | refine aw_sregK 16 [0, 7, 8, 9, 11, 12] ?_
        | refine aw_regK 16 [0, 7, 8, 9, 11, 12] ?_
        | refine aw_sregK 17 [0, 7, 8, 9, 11, 12] ?_
        | refine aw_regK 17 [0, 7, 8, 9, 11, 12] ?_
        | refine aw_sregK 18 [0, 7, 8, 9, 11, 12, 13] ?_
        | refine aw_regK 18 [0, 7, 8, 9, 11, 12, 13] ?_
        | refine aw_sregK 19 [7, 8, 9, 11] ?_
        | refine aw_regK 19 [7, 8, 9, 11] ?_
        | refine aw_sreg ?_
        | refine aw_sregD mixed ?_
        | refine aw_ifT (b := true) rfl rfl ?_
        | refine aw_ifF (b := false) rfl rfl ?_
        | refine aw_ifT rfl (by assumption) ?_
        | refine aw_ifF rfl (by assumption) ?_
        | refine aw_ifT rfl (decide_eq_true (by assumption)) ?_
        | refine aw_ifF rfl (decide_eq_false (by assumption)) ?_
        | refine aw_seq ?_
        | refine aw_block ?_
        | refine aw_skip ?_
        | refine aw_region ?_
        | refine aw_region_draw mixed ?_
        | refine aw_exit ?_
        | refine rq_exit ?_
        | refine blockQ_hit ?_
        | refine blockQ_miss (by decide) ?_
        | (refine ar_guard rfl rfl rfl rfl (fun h => ?_) (fun h => ?_) <;> (fail_if_success (cases h; done)) <;> (try simp at h) <;> (try subst h))
        | (refine aw_both rfl (fun h => ?_) (fun h => ?_) <;> (fail_if_success (cases h; done)) <;> (try simp at h) <;> (try subst h)))
  have hc : ¬(n : Int) < (R.es.length : Int) := by omega
  have hnv : (rdN R.es n : Int) = R.nv := by
    have h1 := congrArg List.length hreads
    rw [List.length_map, List.length_take] at h1
    have h2 : R.es.take n = R.es := List.take_of_length_le (by omega)
    have := hI.nv
    unfold rdN
    rw [h2]
    omega
  repeat' (first
    | refine ar_end rfl ?_
    | refine ar_endD rfl (by kernel_rfl) ?_
    | refine ar_fin rfl ?_
    | refine ar_finD rfl (by kernel_rfl) ?_
    | refine lq_exit ?_
    | refine ar_go3 _ rfl (by simp [insL_len, insL_getE, inL, ints_len, ints_getE, bls_len, evsL_len, evsL_getE, evL, u32s_len, u32s_getE, hc, hnv]; exact ⟨rfl, rfl, rfl⟩) rfl ?_
    | refine aw_sregK 0 [0, 1, 2] ?_
    | refine aw_regK 0 [0, 1, 2] ?_
    | refine aw_sregK 1 [0, 1, 2] ?_
    | refine aw_regK 1 [0, 1, 2] ?_
    | refine aw_sregK 2 [0, 1, 2, 7] ?_
    | refine aw_regK 2 [0, 1, 2, 7] ?_
    | refine aw_sregK 3 [7] ?_
    | refine aw_regK 3 [7] ?_
    | refine aw_sregK 4 [0, 1, 2, 7] ?_
    | refine aw_regK 4 [0, 1, 2, 7] ?_
    | refine aw_sregK 5 [0, 1, 7, 8] ?_
    | refine aw_regK 5 [0, 1, 7, 8] ?_
    | refine aw_sregK 6 [0, 1, 7, 8, 9] ?_
    | refine aw_regK 6 [0, 1, 7, 8, 9] ?_
    | refine aw_sregK 7 [0, 1, 7, 8, 9, 10] ?_
    | refine aw_regK 7 [0, 1, 7, 8, 9, 10] ?_
    | refine aw_sregK 8 [0, 1, 7, 8, 9, 10] ?_
    | refine aw_regK 8 [0, 1, 7, 8, 9, 10] ?_
    | refine aw_sregK 9 [0, 1, 7, 8, 9, 10] ?_
    | refine aw_regK 9 [0, 1, 7, 8, 9, 10] ?_
    | refine aw_sregKD mixed 10 [0, 1, 7, 8, 9, 10] (by simp; exact rfl) ?_
    | refine aw_regKD mixed 10 [0, 1, 7, 8, 9, 10] (by simp; exact rfl) ?_
    | refine aw_sregK 11 [] ?_
    | refine aw_regK 11 [] ?_
    | refine aw_sregK 12 [0, 1, 7, 8, 9, 10] ?_
    | refine aw_regK 12 [0, 1, 7, 8, 9, 10] ?_
    | refine aw_sregK 13 [0, 7, 8, 9] ?_
    | refine aw_regK 13 [0, 7, 8, 9] ?_
    | refine aw_sregK 14 [0, 7, 8, 9, 11] ?_
    | refine aw_regK 14 [0, 7, 8, 9, 11] ?_
    | refine aw_sregK 15 [0, 7, 8, 9, 11, 12] ?_
    | refine aw_regK 15 [0, 7, 8, 9, 11, 12] ?_
    | refine aw_sregK 16 [0, 7, 8, 9, 11, 12] ?_
    | refine aw_regK 16 [0, 7, 8, 9, 11, 12] ?_
    | refine aw_sregK 17 [0, 7, 8, 9, 11, 12] ?_
    | refine aw_regK 17 [0, 7, 8, 9, 11, 12] ?_
    | refine aw_sregK 18 [0, 7, 8, 9, 11, 12, 13] ?_
    | refine aw_regK 18 [0, 7, 8, 9, 11, 12, 13] ?_
    | refine aw_sregK 19 [7, 8, 9, 11] ?_
    | refine aw_regK 19 [7, 8, 9, 11] ?_
    | refine aw_sreg ?_
    | refine aw_sregD mixed ?_
    | refine aw_ifT (b := true) rfl rfl ?_
    | refine aw_ifF (b := false) rfl rfl ?_
    | refine aw_ifT rfl (by assumption) ?_
    | refine aw_ifF rfl (by assumption) ?_
    | refine aw_ifT rfl (decide_eq_true (by assumption)) ?_
    | refine aw_ifF rfl (decide_eq_false (by assumption)) ?_
    | refine aw_seq ?_
    | refine aw_block ?_
    | refine aw_skip ?_
    | refine aw_region ?_
    | refine aw_region_draw mixed ?_
    | refine aw_exit ?_
    | refine rq_exit ?_
    | refine blockQ_hit ?_
    | refine blockQ_miss (by decide) ?_
    | (refine ar_guard rfl rfl rfl rfl (fun h => ?_) (fun h => ?_) <;> (fail_if_success (cases h; done)) <;> (try simp at h) <;> (try subst h))
    | (refine aw_both rfl (fun h => ?_) (fun h => ?_) <;> (fail_if_success (cases h; done)) <;> (try simp at h) <;> (try subst h)))
  refine aw_loopN [0, 7, 8, 9, 11, 12] [.loc 8] (by simp; exact rfl) (ι := {n : Nat // n ≤ th.length}) (fun n => ⟨130, [(0, .pv (.sl 6 (insL th))), (7, B true), (8, .ptr (.loc 8) 0), (9, I .i64 R.nv), (11, B (quietF (th.take n.1))), (12, I .i64 n.1)], [(.loc 8, some (.box 76 [.pv (.sl 7 (evsL R.es)), .pv (.sl 1 (u32s R.ad)), .pv (.sl 1 (u32s R.da)), .pv (.sl 1 (u32s R.ct)), .pv (.sl 1 (ints R.pa)), I .i64 R.v0, I .i64 R.v1, I .i64 R.v2, I .i64 R.v3, I .u32 R.d0, I .u32 R.d1, I .u32 R.d2, I .u32 R.d3, I .i64 R.nv, I .i64 R.nl, I .i64 R.more]))]⟩) (fun n => th.length - n.1) ⟨0, by simp⟩ (by simp [hnv, quietF]) ?_
  rintro ⟨m, hm⟩
  by_cases hml : m < th.length
  · have hd : (m : Int) < (th.length : Int) := by omega
    have w3 : IntKind.wrap .i64 ((m : Int) + 1) = (m : Int) + 1 := wrap64s (by omega) (by omega)
    have hqs := quiet_take hml
    generalize hx : th[m] = x at hqs
    by_cases hqt : quietF (th.take m) = true
    · rw [hqt] at hqs
      by_cases q5 : x.op = 5
      · have hqs' : quietF (th.take (m + 1)) = false := by rw [hqs]; simp [quietX, q5]
        repeat' (first
          | refine ar_end rfl ?_
          | refine ar_endD rfl (by kernel_rfl) ?_
          | refine ar_fin rfl ?_
          | refine ar_finD rfl (by kernel_rfl) ?_
          | refine lq_normN [0, 7, 8, 9, 11, 12] [.loc 8] (by simp; exact rfl) ⟨m + 1, by omega⟩ (by dsimp only; omega) (by simp [hqs'])
          | refine ar_go3 _ rfl (by simp [insL_len, insL_getE, inL, ints_len, ints_getE, bls_len, evsL_len, evsL_getE, evL, u32s_len, u32s_getE, hd, hml, hx, hqt, q5, w3]; exact ⟨rfl, rfl, rfl⟩) rfl ?_
          | refine aw_sregK 0 [0, 1, 2] ?_
          | refine aw_regK 0 [0, 1, 2] ?_
          | refine aw_sregK 1 [0, 1, 2] ?_
          | refine aw_regK 1 [0, 1, 2] ?_
          | refine aw_sregK 2 [0, 1, 2, 7] ?_
          | refine aw_regK 2 [0, 1, 2, 7] ?_
          | refine aw_sregK 3 [7] ?_
          | refine aw_regK 3 [7] ?_
          | refine aw_sregK 4 [0, 1, 2, 7] ?_
          | refine aw_regK 4 [0, 1, 2, 7] ?_
          | refine aw_sregK 5 [0, 1, 7, 8] ?_
          | refine aw_regK 5 [0, 1, 7, 8] ?_
          | refine aw_sregK 6 [0, 1, 7, 8, 9] ?_
          | refine aw_regK 6 [0, 1, 7, 8, 9] ?_
          | refine aw_sregK 7 [0, 1, 7, 8, 9, 10] ?_
          | refine aw_regK 7 [0, 1, 7, 8, 9, 10] ?_
          | refine aw_sregK 8 [0, 1, 7, 8, 9, 10] ?_
          | refine aw_regK 8 [0, 1, 7, 8, 9, 10] ?_
          | refine aw_sregK 9 [0, 1, 7, 8, 9, 10] ?_
          | refine aw_regK 9 [0, 1, 7, 8, 9, 10] ?_
          | refine aw_sregKD mixed 10 [0, 1, 7, 8, 9, 10] (by simp; exact rfl) ?_
          | refine aw_regKD mixed 10 [0, 1, 7, 8, 9, 10] (by simp; exact rfl) ?_
          | refine aw_sregK 11 [] ?_
          | refine aw_regK 11 [] ?_
          | refine aw_sregK 12 [0, 1, 7, 8, 9, 10] ?_
          | refine aw_regK 12 [0, 1, 7, 8, 9, 10] ?_
          | refine aw_sregK 13 [0, 7, 8, 9] ?_
          | refine aw_regK 13 [0, 7, 8, 9] ?_
          | refine aw_sregK 14 [0, 7, 8, 9, 11] ?_
          | refine aw_regK 14 [0, 7, 8, 9, 11] ?_
          | refine aw_sregK 15 [0, 7, 8, 9, 11, 12] ?_
          | refine aw_regK 15 [0, 7, 8, 9, 11, 12] ?_
          | refine aw_sregK 16 [0, 7, 8, 9, 11, 12] ?_
          | refine aw_regK 16 [0, 7, 8, 9, 11, 12] ?_
          | refine aw_sregK 17 [0, 7, 8, 9, 11, 12] ?_
          | refine aw_regK 17 [0, 7, 8, 9, 11, 12] ?_
          | refine aw_sregK 18 [0, 7, 8, 9, 11, 12, 13] ?_
          | refine aw_regK 18 [0, 7, 8, 9, 11, 12, 13] ?_
          | refine aw_sregK 19 [7, 8, 9, 11] ?_
          | refine aw_regK 19 [7, 8, 9, 11] ?_
          | refine aw_sreg ?_
          | refine aw_sregD mixed ?_
          | refine aw_ifT (b := true) rfl rfl ?_
          | refine aw_ifF (b := false) rfl rfl ?_
          | refine aw_ifT rfl (by assumption) ?_
          | refine aw_ifF rfl (by assumption) ?_
          | refine aw_ifT rfl (decide_eq_true (by assumption)) ?_
          | refine aw_ifF rfl (decide_eq_false (by assumption)) ?_
          | refine aw_seq ?_
          | refine aw_block ?_
          | refine aw_skip ?_
          | refine aw_region ?_
          | refine aw_region_draw mixed ?_
          | refine aw_exit ?_
          | refine rq_exit ?_
          | refine blockQ_hit ?_
          | refine blockQ_miss (by decide) ?_
          | (refine ar_guard rfl rfl rfl rfl (fun h => ?_) (fun h => ?_) <;> (fail_if_success (cases h; done)) <;> (try simp at h) <;> (try subst h))
          | (refine aw_both rfl (fun h => ?_) (fun h => ?_) <;> (fail_if_success (cases h; done)) <;> (try simp at h) <;> (try subst h)))
      by_cases q7 : x.op = 7
      · have hqs' : quietF (th.take (m + 1)) = false := by rw [hqs]; simp [quietX, q7]
        repeat' (first
          | refine ar_end rfl ?_
          | refine ar_endD rfl (by kernel_rfl) ?_
          | refine ar_fin rfl ?_
          | refine ar_finD rfl (by kernel_rfl) ?_
          | refine lq_normN [0, 7, 8, 9, 11, 12] [.loc 8] (by simp; exact rfl) ⟨m + 1, by omega⟩ (by dsimp only; omega) (by simp [hqs'])
          | refine ar_go3 _ rfl (by simp [insL_len, insL_getE, inL, ints_len, ints_getE, bls_len, evsL_len, evsL_getE, evL, u32s_len, u32s_getE, hd, hml, hx, hqt, q5, q7, w3]; exact ⟨rfl, rfl, rfl⟩) rfl ?_
          | refine aw_sregK 0 [0, 1, 2] ?_
          | refine aw_regK 0 [0, 1, 2] ?_
          | refine aw_sregK 1 [0, 1, 2] ?_
          | refine aw_regK 1 [0, 1, 2] ?_
          | refine aw_sregK 2 [0, 1, 2, 7] ?_
          | refine aw_regK 2 [0, 1, 2, 7] ?_
          | refine aw_sregK 3 [7] ?_
          | refine aw_regK 3 [7] ?_
          | refine aw_sregK 4 [0, 1, 2, 7] ?_
          | refine aw_regK 4 [0, 1, 2, 7] ?_
          | refine aw_sregK 5 [0, 1, 7, 8] ?_
          | refine aw_regK 5 [0, 1, 7, 8] ?_
          | refine aw_sregK 6 [0, 1, 7, 8, 9] ?_
          | refine aw_regK 6 [0, 1, 7, 8, 9] ?_
          | refine aw_sregK 7 [0, 1, 7, 8, 9, 10] ?_
          | refine aw_regK 7 [0, 1, 7, 8, 9, 10] ?_
          | refine aw_sregK 8 [0, 1, 7, 8, 9, 10] ?_
          | refine aw_regK 8 [0, 1, 7, 8, 9, 10] ?_
          | refine aw_sregK 9 [0, 1, 7, 8, 9, 10] ?_
          | refine aw_regK 9 [0, 1, 7, 8, 9, 10] ?_
          | refine aw_sregKD mixed 10 [0, 1, 7, 8, 9, 10] (by simp; exact rfl) ?_
          | refine aw_regKD mixed 10 [0, 1, 7, 8, 9, 10] (by simp; exact rfl) ?_
          | refine aw_sregK 11 [] ?_
          | refine aw_regK 11 [] ?_
          | refine aw_sregK 12 [0, 1, 7, 8, 9, 10] ?_
          | refine aw_regK 12 [0, 1, 7, 8, 9, 10] ?_
          | refine aw_sregK 13 [0, 7, 8, 9] ?_
          | refine aw_regK 13 [0, 7, 8, 9] ?_
          | refine aw_sregK 14 [0, 7, 8, 9, 11] ?_
          | refine aw_regK 14 [0, 7, 8, 9, 11] ?_
          | refine aw_sregK 15 [0, 7, 8, 9, 11, 12] ?_
          | refine aw_regK 15 [0, 7, 8, 9, 11, 12] ?_
          | refine aw_sregK 16 [0, 7, 8, 9, 11, 12] ?_
          | refine aw_regK 16 [0, 7, 8, 9, 11, 12] ?_
          | refine aw_sregK 17 [0, 7, 8, 9, 11, 12] ?_
          | refine aw_regK 17 [0, 7, 8, 9, 11, 12] ?_
          | refine aw_sregK 18 [0, 7, 8, 9, 11, 12, 13] ?_
          | refine aw_regK 18 [0, 7, 8, 9, 11, 12, 13] ?_
          | refine aw_sregK 19 [7, 8, 9, 11] ?_
          | refine aw_regK 19 [7, 8, 9, 11] ?_
          | refine aw_sreg ?_
          | refine aw_sregD mixed ?_
          | refine aw_ifT (b := true) rfl rfl ?_
          | refine aw_ifF (b := false) rfl rfl ?_
          | refine aw_ifT rfl (by assumption) ?_
          | refine aw_ifF rfl (by assumption) ?_
          | refine aw_ifT rfl (decide_eq_true (by assumption)) ?_
          | refine aw_ifF rfl (decide_eq_false (by assumption)) ?_
          | refine aw_seq ?_
          | refine aw_block ?_
          | refine aw_skip ?_
          | refine aw_region ?_
          | refine aw_region_draw mixed ?_
          | refine aw_exit ?_
          | refine rq_exit ?_
          | refine blockQ_hit ?_
          | refine blockQ_miss (by decide) ?_
          | (refine ar_guard rfl rfl rfl rfl (fun h => ?_) (fun h => ?_) <;> (fail_if_success (cases h; done)) <;> (try simp at h) <;> (try subst h))
          | (refine aw_both rfl (fun h => ?_) (fun h => ?_) <;> (fail_if_success (cases h; done)) <;> (try simp at h) <;> (try subst h)))
      by_cases q9 : x.op = 9
      · have hqs' : quietF (th.take (m + 1)) = false := by rw [hqs]; simp [quietX, q9]
        repeat' (first
          | refine ar_end rfl ?_
          | refine ar_endD rfl (by kernel_rfl) ?_
          | refine ar_fin rfl ?_
          | refine ar_finD rfl (by kernel_rfl) ?_
          | refine lq_normN [0, 7, 8, 9, 11, 12] [.loc 8] (by simp; exact rfl) ⟨m + 1, by omega⟩ (by dsimp only; omega) (by simp [hqs'])
          | refine ar_go3 _ rfl (by simp [insL_len, insL_getE, inL, ints_len, ints_getE, bls_len, evsL_len, evsL_getE, evL, u32s_len, u32s_getE, hd, hml, hx, hqt, q5, q7, q9, w3]; exact ⟨rfl, rfl, rfl⟩) rfl ?_
          | refine aw_sregK 0 [0, 1, 2] ?_
          | refine aw_regK 0 [0, 1, 2] ?_
          | refine aw_sregK 1 [0, 1, 2] ?_
          | refine aw_regK 1 [0, 1, 2] ?_
          | refine aw_sregK 2 [0, 1, 2, 7] ?_
          | refine aw_regK 2 [0, 1, 2, 7] ?_
          | refine aw_sregK 3 [7] ?_
          | refine aw_regK 3 [7] ?_
          | refine aw_sregK 4 [0, 1, 2, 7] ?_
          | refine aw_regK 4 [0, 1, 2, 7] ?_
          | refine aw_sregK 5 [0, 1, 7, 8] ?_
          | refine aw_regK 5 [0, 1, 7, 8] ?_
          | refine aw_sregK 6 [0, 1, 7, 8, 9] ?_
          | refine aw_regK 6 [0, 1, 7, 8, 9] ?_
          | refine aw_sregK 7 [0, 1, 7, 8, 9, 10] ?_
          | refine aw_regK 7 [0, 1, 7, 8, 9, 10] ?_
          | refine aw_sregK 8 [0, 1, 7, 8, 9, 10] ?_
          | refine aw_regK 8 [0, 1, 7, 8, 9, 10] ?_
          | refine aw_sregK 9 [0, 1, 7, 8, 9, 10] ?_
          | refine aw_regK 9 [0, 1, 7, 8, 9, 10] ?_
          | refine aw_sregKD mixed 10 [0, 1, 7, 8, 9, 10] (by simp; exact rfl) ?_
          | refine aw_regKD mixed 10 [0, 1, 7, 8, 9, 10] (by simp; exact rfl) ?_
          | refine aw_sregK 11 [] ?_
          | refine aw_regK 11 [] ?_
          | refine aw_sregK 12 [0, 1, 7, 8, 9, 10] ?_
          | refine aw_regK 12 [0, 1, 7, 8, 9, 10] ?_
          | refine aw_sregK 13 [0, 7, 8, 9] ?_
          | refine aw_regK 13 [0, 7, 8, 9] ?_
          | refine aw_sregK 14 [0, 7, 8, 9, 11] ?_
          | refine aw_regK 14 [0, 7, 8, 9, 11] ?_
          | refine aw_sregK 15 [0, 7, 8, 9, 11, 12] ?_
          | refine aw_regK 15 [0, 7, 8, 9, 11, 12] ?_
          | refine aw_sregK 16 [0, 7, 8, 9, 11, 12] ?_
          | refine aw_regK 16 [0, 7, 8, 9, 11, 12] ?_
          | refine aw_sregK 17 [0, 7, 8, 9, 11, 12] ?_
          | refine aw_regK 17 [0, 7, 8, 9, 11, 12] ?_
          | refine aw_sregK 18 [0, 7, 8, 9, 11, 12, 13] ?_
          | refine aw_regK 18 [0, 7, 8, 9, 11, 12, 13] ?_
          | refine aw_sregK 19 [7, 8, 9, 11] ?_
          | refine aw_regK 19 [7, 8, 9, 11] ?_
          | refine aw_sreg ?_
          | refine aw_sregD mixed ?_
          | refine aw_ifT (b := true) rfl rfl ?_
          | refine aw_ifF (b := false) rfl rfl ?_
          | refine aw_ifT rfl (by assumption) ?_
          | refine aw_ifF rfl (by assumption) ?_
          | refine aw_ifT rfl (decide_eq_true (by assumption)) ?_
          | refine aw_ifF rfl (decide_eq_false (by assumption)) ?_
          | refine aw_seq ?_
          | refine aw_block ?_
          | refine aw_skip ?_
          | refine aw_region ?_
          | refine aw_region_draw mixed ?_
          | refine aw_exit ?_
          | refine rq_exit ?_
          | refine blockQ_hit ?_
          | refine blockQ_miss (by decide) ?_
          | (refine ar_guard rfl rfl rfl rfl (fun h => ?_) (fun h => ?_) <;> (fail_if_success (cases h; done)) <;> (try simp at h) <;> (try subst h))
          | (refine aw_both rfl (fun h => ?_) (fun h => ?_) <;> (fail_if_success (cases h; done)) <;> (try simp at h) <;> (try subst h)))
      by_cases q10 : x.op = 10
      · have hqs' : quietF (th.take (m + 1)) = false := by rw [hqs]; simp [quietX, q10]
        repeat' (first
          | refine ar_end rfl ?_
          | refine ar_endD rfl (by kernel_rfl) ?_
          | refine ar_fin rfl ?_
          | refine ar_finD rfl (by kernel_rfl) ?_
          | refine lq_normN [0, 7, 8, 9, 11, 12] [.loc 8] (by simp; exact rfl) ⟨m + 1, by omega⟩ (by dsimp only; omega) (by simp [hqs'])
          | refine ar_go3 _ rfl (by simp [insL_len, insL_getE, inL, ints_len, ints_getE, bls_len, evsL_len, evsL_getE, evL, u32s_len, u32s_getE, hd, hml, hx, hqt, q5, q7, q9, q10, w3]; exact ⟨rfl, rfl, rfl⟩) rfl ?_
          | refine aw_sregK 0 [0, 1, 2] ?_
          | refine aw_regK 0 [0, 1, 2] ?_
          | refine aw_sregK 1 [0, 1, 2] ?_
          | refine aw_regK 1 [0, 1, 2] ?_
          | refine aw_sregK 2 [0, 1, 2, 7] ?_
          | refine aw_regK 2 [0, 1, 2, 7] ?_
          | refine aw_sregK 3 [7] ?_
          | refine aw_regK 3 [7] ?_
          | refine aw_sregK 4 [0, 1, 2, 7] ?_
          | refine aw_regK 4 [0, 1, 2, 7] ?_
          | refine aw_sregK 5 [0, 1, 7, 8] ?_
          | refine aw_regK 5 [0, 1, 7, 8] ?_
          | refine aw_sregK 6 [0, 1, 7, 8, 9] ?_
          | refine aw_regK 6 [0, 1, 7, 8, 9] ?_
          | refine aw_sregK 7 [0, 1, 7, 8, 9, 10] ?_
          | refine aw_regK 7 [0, 1, 7, 8, 9, 10] ?_
          | refine aw_sregK 8 [0, 1, 7, 8, 9, 10] ?_
          | refine aw_regK 8 [0, 1, 7, 8, 9, 10] ?_
          | refine aw_sregK 9 [0, 1, 7, 8, 9, 10] ?_
          | refine aw_regK 9 [0, 1, 7, 8, 9, 10] ?_
          | refine aw_sregKD mixed 10 [0, 1, 7, 8, 9, 10] (by simp; exact rfl) ?_
          | refine aw_regKD mixed 10 [0, 1, 7, 8, 9, 10] (by simp; exact rfl) ?_
          | refine aw_sregK 11 [] ?_
          | refine aw_regK 11 [] ?_
          | refine aw_sregK 12 [0, 1, 7, 8, 9, 10] ?_
          | refine aw_regK 12 [0, 1, 7, 8, 9, 10] ?_
          | refine aw_sregK 13 [0, 7, 8, 9] ?_
          | refine aw_regK 13 [0, 7, 8, 9] ?_
          | refine aw_sregK 14 [0, 7, 8, 9, 11] ?_
          | refine aw_regK 14 [0, 7, 8, 9, 11] ?_
          | refine aw_sregK 15 [0, 7, 8, 9, 11, 12] ?_
          | refine aw_regK 15 [0, 7, 8, 9, 11, 12] ?_
          | refine aw_sregK 16 [0, 7, 8, 9, 11, 12] ?_
          | refine aw_regK 16 [0, 7, 8, 9, 11, 12] ?_
          | refine aw_sregK 17 [0, 7, 8, 9, 11, 12] ?_
          | refine aw_regK 17 [0, 7, 8, 9, 11, 12] ?_
          | refine aw_sregK 18 [0, 7, 8, 9, 11, 12, 13] ?_
          | refine aw_regK 18 [0, 7, 8, 9, 11, 12, 13] ?_
          | refine aw_sregK 19 [7, 8, 9, 11] ?_
          | refine aw_regK 19 [7, 8, 9, 11] ?_
          | refine aw_sreg ?_
          | refine aw_sregD mixed ?_
          | refine aw_ifT (b := true) rfl rfl ?_
          | refine aw_ifF (b := false) rfl rfl ?_
          | refine aw_ifT rfl (by assumption) ?_
          | refine aw_ifF rfl (by assumption) ?_
          | refine aw_ifT rfl (decide_eq_true (by assumption)) ?_
          | refine aw_ifF rfl (decide_eq_false (by assumption)) ?_
          | refine aw_seq ?_
          | refine aw_block ?_
          | refine aw_skip ?_
          | refine aw_region ?_
          | refine aw_region_draw mixed ?_
          | refine aw_exit ?_
          | refine rq_exit ?_
          | refine blockQ_hit ?_
          | refine blockQ_miss (by decide) ?_
          | (refine ar_guard rfl rfl rfl rfl (fun h => ?_) (fun h => ?_) <;> (fail_if_success (cases h; done)) <;> (try simp at h) <;> (try subst h))
          | (refine aw_both rfl (fun h => ?_) (fun h => ?_) <;> (fail_if_success (cases h; done)) <;> (try simp at h) <;> (try subst h)))
      · have hqs' : quietF (th.take (m + 1)) = true := by rw [hqs]; simp [quietX, q5, q7, q9, q10]
        repeat' (first
          | refine ar_end rfl ?_
          | refine ar_endD rfl (by kernel_rfl) ?_
          | refine ar_fin rfl ?_
          | refine ar_finD rfl (by kernel_rfl) ?_
          | refine lq_normN [0, 7, 8, 9, 11, 12] [.loc 8] (by simp; exact rfl) ⟨m + 1, by omega⟩ (by dsimp only; omega) (by simp [hqs'])
          | refine ar_go3 _ rfl (by simp [insL_len, insL_getE, inL, ints_len, ints_getE, bls_len, evsL_len, evsL_getE, evL, u32s_len, u32s_getE, hd, hml, hx, hqt, q5, q7, q9, q10, w3]; exact ⟨rfl, rfl, rfl⟩) rfl ?_
          | refine aw_sregK 0 [0, 1, 2] ?_
          | refine aw_regK 0 [0, 1, 2] ?_
          | refine aw_sregK 1 [0, 1, 2] ?_
          | refine aw_regK 1 [0, 1, 2] ?_
          | refine aw_sregK 2 [0, 1, 2, 7] ?_
          | refine aw_regK 2 [0, 1, 2, 7] ?_
          | refine aw_sregK 3 [7] ?_
          | refine aw_regK 3 [7] ?_
          | refine aw_sregK 4 [0, 1, 2, 7] ?_
          | refine aw_regK 4 [0, 1, 2, 7] ?_
          | refine aw_sregK 5 [0, 1, 7, 8] ?_
          | refine aw_regK 5 [0, 1, 7, 8] ?_
          | refine aw_sregK 6 [0, 1, 7, 8, 9] ?_
          | refine aw_regK 6 [0, 1, 7, 8, 9] ?_
          | refine aw_sregK 7 [0, 1, 7, 8, 9, 10] ?_
          | refine aw_regK 7 [0, 1, 7, 8, 9, 10] ?_
          | refine aw_sregK 8 [0, 1, 7, 8, 9, 10] ?_
          | refine aw_regK 8 [0, 1, 7, 8, 9, 10] ?_
          | refine aw_sregK 9 [0, 1, 7, 8, 9, 10] ?_
          | refine aw_regK 9 [0, 1, 7, 8, 9, 10] ?_
          | refine aw_sregKD mixed 10 [0, 1, 7, 8, 9, 10] (by simp; exact rfl) ?_
          | refine aw_regKD mixed 10 [0, 1, 7, 8, 9, 10] (by simp; exact rfl) ?_
          | refine aw_sregK 11 [] ?_
          | refine aw_regK 11 [] ?_
          | refine aw_sregK 12 [0, 1, 7, 8, 9, 10] ?_
          | refine aw_regK 12 [0, 1, 7, 8, 9, 10] ?_
          | refine aw_sregK 13 [0, 7, 8, 9] ?_
          | refine aw_regK 13 [0, 7, 8, 9] ?_
          | refine aw_sregK 14 [0, 7, 8, 9, 11] ?_
          | refine aw_regK 14 [0, 7, 8, 9, 11] ?_
          | refine aw_sregK 15 [0, 7, 8, 9, 11, 12] ?_
          | refine aw_regK 15 [0, 7, 8, 9, 11, 12] ?_
          | refine aw_sregK 16 [0, 7, 8, 9, 11, 12] ?_
          | refine aw_regK 16 [0, 7, 8, 9, 11, 12] ?_
          | refine aw_sregK 17 [0, 7, 8, 9, 11, 12] ?_
          | refine aw_regK 17 [0, 7, 8, 9, 11, 12] ?_
          | refine aw_sregK 18 [0, 7, 8, 9, 11, 12, 13] ?_
          | refine aw_regK 18 [0, 7, 8, 9, 11, 12, 13] ?_
          | refine aw_sregK 19 [7, 8, 9, 11] ?_
          | refine aw_regK 19 [7, 8, 9, 11] ?_
          | refine aw_sreg ?_
          | refine aw_sregD mixed ?_
          | refine aw_ifT (b := true) rfl rfl ?_
          | refine aw_ifF (b := false) rfl rfl ?_
          | refine aw_ifT rfl (by assumption) ?_
          | refine aw_ifF rfl (by assumption) ?_
          | refine aw_ifT rfl (decide_eq_true (by assumption)) ?_
          | refine aw_ifF rfl (decide_eq_false (by assumption)) ?_
          | refine aw_seq ?_
          | refine aw_block ?_
          | refine aw_skip ?_
          | refine aw_region ?_
          | refine aw_region_draw mixed ?_
          | refine aw_exit ?_
          | refine rq_exit ?_
          | refine blockQ_hit ?_
          | refine blockQ_miss (by decide) ?_
          | (refine ar_guard rfl rfl rfl rfl (fun h => ?_) (fun h => ?_) <;> (fail_if_success (cases h; done)) <;> (try simp at h) <;> (try subst h))
          | (refine aw_both rfl (fun h => ?_) (fun h => ?_) <;> (fail_if_success (cases h; done)) <;> (try simp at h) <;> (try subst h)))
    · have hqf : quietF (th.take m) = false := by simpa using hqt
      rw [hqf] at hqs
      have hqs' : quietF (th.take (m + 1)) = false := by rw [hqs]; rfl
      repeat' (first
        | refine ar_end rfl ?_
        | refine ar_endD rfl (by kernel_rfl) ?_
        | refine ar_fin rfl ?_
        | refine ar_finD rfl (by kernel_rfl) ?_
        | refine lq_normN [0, 7, 8, 9, 11, 12] [.loc 8] (by simp; exact rfl) ⟨m + 1, by omega⟩ (by dsimp only; omega) (by simp [hqs'])
        | refine ar_go3 _ rfl (by simp [insL_len, insL_getE, inL, ints_len, ints_getE, bls_len, evsL_len, evsL_getE, evL, u32s_len, u32s_getE, hd, hml, hx, hqf, w3]; exact ⟨rfl, rfl, rfl⟩) rfl ?_
        | refine aw_sregK 0 [0, 1, 2] ?_
        | refine aw_regK 0 [0, 1, 2] ?_
        | refine aw_sregK 1 [0, 1, 2] ?_
        | refine aw_regK 1 [0, 1, 2] ?_
        | refine aw_sregK 2 [0, 1, 2, 7] ?_
        | refine aw_regK 2 [0, 1, 2, 7] ?_
        | refine aw_sregK 3 [7] ?_
        | refine aw_regK 3 [7] ?_
        | refine aw_sregK 4 [0, 1, 2, 7] ?_
        | refine aw_regK 4 [0, 1, 2, 7] ?_
        | refine aw_sregK 5 [0, 1, 7, 8] ?_
        | refine aw_regK 5 [0, 1, 7, 8] ?_
        | refine aw_sregK 6 [0, 1, 7, 8, 9] ?_
        | refine aw_regK 6 [0, 1, 7, 8, 9] ?_
        | refine aw_sregK 7 [0, 1, 7, 8, 9, 10] ?_
        | refine aw_regK 7 [0, 1, 7, 8, 9, 10] ?_
        | refine aw_sregK 8 [0, 1, 7, 8, 9, 10] ?_
        | refine aw_regK 8 [0, 1, 7, 8, 9, 10] ?_
        | refine aw_sregK 9 [0, 1, 7, 8, 9, 10] ?_
        | refine aw_regK 9 [0, 1, 7, 8, 9, 10] ?_
        | refine aw_sregKD mixed 10 [0, 1, 7, 8, 9, 10] (by simp; exact rfl) ?_
        | refine aw_regKD mixed 10 [0, 1, 7, 8, 9, 10] (by simp; exact rfl) ?_
        | refine aw_sregK 11 [] ?_
        | refine aw_regK 11 [] ?_
        | refine aw_sregK 12 [0, 1, 7, 8, 9, 10] ?_
        | refine aw_regK 12 [0, 1, 7, 8, 9, 10] ?_
        | refine aw_sregK 13 [0, 7, 8, 9] ?_
        | refine aw_regK 13 [0, 7, 8, 9] ?_
        | refine aw_sregK 14 [0, 7, 8, 9, 11] ?_
        | refine aw_regK 14 [0, 7, 8, 9, 11] ?_
        | refine aw_sregK 15 [0, 7, 8, 9, 11, 12] ?_
        | refine aw_regK 15 [0, 7, 8, 9, 11, 12] ?_
        | refine aw_sregK 16 [0, 7, 8, 9, 11, 12] ?_
        | refine aw_regK 16 [0, 7, 8, 9, 11, 12] ?_
        | refine aw_sregK 17 [0, 7, 8, 9, 11, 12] ?_
        | refine aw_regK 17 [0, 7, 8, 9, 11, 12] ?_
        | refine aw_sregK 18 [0, 7, 8, 9, 11, 12, 13] ?_
        | refine aw_regK 18 [0, 7, 8, 9, 11, 12, 13] ?_
        | refine aw_sregK 19 [7, 8, 9, 11] ?_
        | refine aw_regK 19 [7, 8, 9, 11] ?_
        | refine aw_sreg ?_
        | refine aw_sregD mixed ?_
        | refine aw_ifT (b := true) rfl rfl ?_
        | refine aw_ifF (b := false) rfl rfl ?_
        | refine aw_ifT rfl (by assumption) ?_
        | refine aw_ifF rfl (by assumption) ?_
        | refine aw_ifT rfl (decide_eq_true (by assumption)) ?_
        | refine aw_ifF rfl (decide_eq_false (by assumption)) ?_
        | refine aw_seq ?_
        | refine aw_block ?_
        | refine aw_skip ?_
        | refine aw_region ?_
        | refine aw_region_draw mixed ?_
        | refine aw_exit ?_
        | refine rq_exit ?_
        | refine blockQ_hit ?_
        | refine blockQ_miss (by decide) ?_
        | (refine ar_guard rfl rfl rfl rfl (fun h => ?_) (fun h => ?_) <;> (fail_if_success (cases h; done)) <;> (try simp at h) <;> (try subst h))
        | (refine aw_both rfl (fun h => ?_) (fun h => ?_) <;> (fail_if_success (cases h; done)) <;> (try simp at h) <;> (try subst h)))
  have hd : ¬(m : Int) < (th.length : Int) := by omega
  have et : th.take m = th := List.take_of_length_le (by omega)
  rw [et]
  obtain ⟨m0, m2⟩ := hmore
  by_cases hqt : quietF th = true
  · obtain ⟨z1, z2, z3⟩ := hquiet hqt
    repeat' (first
      | exact aw_ret (ret_vals (by simp; exact rfl) (by simp [z1, z2, z3]; fail_if_success (show _)))
      | exact aw_ret (ret_vals (by simp; exact rfl) (by simp [z1, z2, z3]; omega))
      | refine ar_end rfl ?_
      | refine ar_endD rfl (by kernel_rfl) ?_
      | refine ar_fin rfl ?_
      | refine ar_finD rfl (by kernel_rfl) ?_
      | refine lq_exit ?_
      | refine ar_go3 _ rfl (by simp [insL_len, insL_getE, inL, ints_len, ints_getE, bls_len, evsL_len, evsL_getE, evL, u32s_len, u32s_getE, hd, hqt, z1, z2, z3]; exact ⟨rfl, rfl, rfl⟩) rfl ?_
      | refine aw_sregK 0 [0, 1, 2] ?_
      | refine aw_regK 0 [0, 1, 2] ?_
      | refine aw_sregK 1 [0, 1, 2] ?_
      | refine aw_regK 1 [0, 1, 2] ?_
      | refine aw_sregK 2 [0, 1, 2, 7] ?_
      | refine aw_regK 2 [0, 1, 2, 7] ?_
      | refine aw_sregK 3 [7] ?_
      | refine aw_regK 3 [7] ?_
      | refine aw_sregK 4 [0, 1, 2, 7] ?_
      | refine aw_regK 4 [0, 1, 2, 7] ?_
      | refine aw_sregK 5 [0, 1, 7, 8] ?_
      | refine aw_regK 5 [0, 1, 7, 8] ?_
      | refine aw_sregK 6 [0, 1, 7, 8, 9] ?_
      | refine aw_regK 6 [0, 1, 7, 8, 9] ?_
      | refine aw_sregK 7 [0, 1, 7, 8, 9, 10] ?_
      | refine aw_regK 7 [0, 1, 7, 8, 9, 10] ?_
      | refine aw_sregK 8 [0, 1, 7, 8, 9, 10] ?_
      | refine aw_regK 8 [0, 1, 7, 8, 9, 10] ?_
      | refine aw_sregK 9 [0, 1, 7, 8, 9, 10] ?_
      | refine aw_regK 9 [0, 1, 7, 8, 9, 10] ?_
      | refine aw_sregKD mixed 10 [0, 1, 7, 8, 9, 10] (by simp; exact rfl) ?_
      | refine aw_regKD mixed 10 [0, 1, 7, 8, 9, 10] (by simp; exact rfl) ?_
      | refine aw_sregK 11 [] ?_
      | refine aw_regK 11 [] ?_
      | refine aw_sregK 12 [0, 1, 7, 8, 9, 10] ?_
      | refine aw_regK 12 [0, 1, 7, 8, 9, 10] ?_
      | refine aw_sregK 13 [0, 7, 8, 9] ?_
      | refine aw_regK 13 [0, 7, 8, 9] ?_
      | refine aw_sregK 14 [0, 7, 8, 9, 11] ?_
      | refine aw_regK 14 [0, 7, 8, 9, 11] ?_
      | refine aw_sregK 15 [0, 7, 8, 9, 11, 12] ?_
      | refine aw_regK 15 [0, 7, 8, 9, 11, 12] ?_
      | refine aw_sregK 16 [0, 7, 8, 9, 11, 12] ?_
      | refine aw_regK 16 [0, 7, 8, 9, 11, 12] ?_
      | refine aw_sregK 17 [0, 7, 8, 9, 11, 12] ?_
      | refine aw_regK 17 [0, 7, 8, 9, 11, 12] ?_
      | refine aw_sregK 18 [0, 7, 8, 9, 11, 12, 13] ?_
      | refine aw_regK 18 [0, 7, 8, 9, 11, 12, 13] ?_
      | refine aw_sregK 19 [7, 8, 9, 11] ?_
      | refine aw_regK 19 [7, 8, 9, 11] ?_
      | refine aw_sreg ?_
      | refine aw_sregD mixed ?_
      | refine aw_ifT (b := true) rfl rfl ?_
      | refine aw_ifF (b := false) rfl rfl ?_
      | refine aw_ifT rfl (by assumption) ?_
      | refine aw_ifF rfl (by assumption) ?_
      | refine aw_ifT rfl (decide_eq_true (by assumption)) ?_
      | refine aw_ifF rfl (decide_eq_false (by assumption)) ?_
      | refine aw_seq ?_
      | refine aw_block ?_
      | refine aw_skip ?_
      | refine aw_region ?_
      | refine aw_region_draw mixed ?_
      | refine aw_exit ?_
      | refine rq_exit ?_
      | refine blockQ_hit ?_
      | refine blockQ_miss (by decide) ?_
      | (refine ar_guard rfl rfl rfl rfl (fun h => ?_) (fun h => ?_) <;> (fail_if_success (cases h; done)) <;> (try simp at h) <;> (try subst h))
      | (refine aw_both rfl (fun h => ?_) (fun h => ?_) <;> (fail_if_success (cases h; done)) <;> (try simp at h) <;> (try subst h)))
  · have hqf : quietF th = false := by simpa using hqt
    repeat' (first
      | exact aw_ret (ret_vals (by simp; exact rfl) (by simp [m0, m2]; fail_if_success (show _)))
      | exact aw_ret (ret_vals (by simp; exact rfl) (by simp [m0, m2]; omega))
      | refine ar_end rfl ?_
      | refine ar_endD rfl (by kernel_rfl) ?_
      | refine ar_fin rfl ?_
      | refine ar_finD rfl (by kernel_rfl) ?_
      | refine lq_exit ?_
      | refine ar_go3 _ rfl (by simp [insL_len, insL_getE, inL, ints_len, ints_getE, bls_len, evsL_len, evsL_getE, evL, u32s_len, u32s_getE, hd, hqf, m0, m2]; exact ⟨rfl, rfl, rfl⟩) rfl ?_
      | refine aw_sregK 0 [0, 1, 2] ?_
      | refine aw_regK 0 [0, 1, 2] ?_
      | refine aw_sregK 1 [0, 1, 2] ?_
      | refine aw_regK 1 [0, 1, 2] ?_
      | refine aw_sregK 2 [0, 1, 2, 7] ?_
      | refine aw_regK 2 [0, 1, 2, 7] ?_
      | refine aw_sregK 3 [7] ?_
      | refine aw_regK 3 [7] ?_
      | refine aw_sregK 4 [0, 1, 2, 7] ?_
      | refine aw_regK 4 [0, 1, 2, 7] ?_
      | refine aw_sregK 5 [0, 1, 7, 8] ?_
      | refine aw_regK 5 [0, 1, 7, 8] ?_
      | refine aw_sregK 6 [0, 1, 7, 8, 9] ?_
      | refine aw_regK 6 [0, 1, 7, 8, 9] ?_
      | refine aw_sregK 7 [0, 1, 7, 8, 9, 10] ?_
      | refine aw_regK 7 [0, 1, 7, 8, 9, 10] ?_
      | refine aw_sregK 8 [0, 1, 7, 8, 9, 10] ?_
      | refine aw_regK 8 [0, 1, 7, 8, 9, 10] ?_
      | refine aw_sregK 9 [0, 1, 7, 8, 9, 10] ?_
      | refine aw_regK 9 [0, 1, 7, 8, 9, 10] ?_
      | refine aw_sregKD mixed 10 [0, 1, 7, 8, 9, 10] (by simp; exact rfl) ?_
      | refine aw_regKD mixed 10 [0, 1, 7, 8, 9, 10] (by simp; exact rfl) ?_
      | refine aw_sregK 11 [] ?_
      | refine aw_regK 11 [] ?_
      | refine aw_sregK 12 [0, 1, 7, 8, 9, 10] ?_
      | refine aw_regK 12 [0, 1, 7, 8, 9, 10] ?_
      | refine aw_sregK 13 [0, 7, 8, 9] ?_
      | refine aw_regK 13 [0, 7, 8, 9] ?_
      | refine aw_sregK 14 [0, 7, 8, 9, 11] ?_
      | refine aw_regK 14 [0, 7, 8, 9, 11] ?_
      | refine aw_sregK 15 [0, 7, 8, 9, 11, 12] ?_
      | refine aw_regK 15 [0, 7, 8, 9, 11, 12] ?_
      | refine aw_sregK 16 [0, 7, 8, 9, 11, 12] ?_
      | refine aw_regK 16 [0, 7, 8, 9, 11, 12] ?_
      | refine aw_sregK 17 [0, 7, 8, 9, 11, 12] ?_
      | refine aw_regK 17 [0, 7, 8, 9, 11, 12] ?_
      | refine aw_sregK 18 [0, 7, 8, 9, 11, 12, 13] ?_
      | refine aw_regK 18 [0, 7, 8, 9, 11, 12, 13] ?_
      | refine aw_sregK 19 [7, 8, 9, 11] ?_
      | refine aw_regK 19 [7, 8, 9, 11] ?_
      | refine aw_sreg ?_
      | refine aw_sregD mixed ?_
      | refine aw_ifT (b := true) rfl rfl ?_
      | refine aw_ifF (b := false) rfl rfl ?_
      | refine aw_ifT rfl (by assumption) ?_
      | refine aw_ifF rfl (by assumption) ?_
      | refine aw_ifT rfl (decide_eq_true (by assumption)) ?_
      | refine aw_ifF rfl (decide_eq_false (by assumption)) ?_
      | refine aw_seq ?_
      | refine aw_block ?_
      | refine aw_skip ?_
      | refine aw_region ?_
      | refine aw_region_draw mixed ?_
      | refine aw_exit ?_
      | refine rq_exit ?_
      | refine blockQ_hit ?_
      | refine blockQ_miss (by decide) ?_
      | (refine ar_guard rfl rfl rfl rfl (fun h => ?_) (fun h => ?_) <;> (fail_if_success (cases h; done)) <;> (try simp at h) <;> (try subst h))
      | (refine aw_both rfl (fun h => ?_) (fun h => ?_) <;> (fail_if_success (cases h; done)) <;> (try simp at h) <;> (try subst h)))
end Go.Eng
