import Derived.Test.YtamjcdfjkekdjaaFlowBeginsWalk
set_option linter.unusedSimpArgs false
set_option linter.unusedVariables false
set_option linter.constructorNameAsVariable false
set_option autoImplicit false
namespace Go.Eng
open Go Go.RowKit Go.Proofs
set_option maxHeartbeats 16000000 in
theorem law_FlowMore {th : List In} {vals : List Int} {lucks : List Bool} {cut : Int} (hth : ∀ x ∈ th, wfIn x) (hvw : ∀ v ∈ vals, W64 v) (hcut : (Lit.int .u8 cut).wf = true) : SC Try.prog 20 [.pv (.sl 6 (insL th)), .pv (.sl 1 (ints vals)), .pv (.sl 1 (bls lucks)), I .u8 cut] (B true) := by
  by_cases h8 : 8 < (th.length : Int)
  · refine scx_of Try.func20 rfl rfl rfl (Nat.le_of_ble_eq_true rfl) ?_
    repeat' (first
      | exact aw_ret (ret_vals (by simp; exact rfl) (by simp [*]; fail_if_success (show _)))
      | exact aw_ret (ret_vals (by simp; exact rfl) (by simp [*]; omega))
      | refine ar_end rfl ?_
      | refine ar_endD rfl (by kernel_rfl) ?_
      | refine ar_fin rfl ?_
      | refine ar_finD rfl (by kernel_rfl) ?_
      | refine ar_callV Try.call65 c_shown8 rfl rfl rfl rfl rfl (by simp; done) (by rfl) (by simp; done) ?_
      | refine ar_callV_if Try.call65 c_shown8 rfl rfl rfl rfl rfl rfl (by simp; done) rfl (by rfl) (by simp; done) ?_
      | refine ar_go3 _ rfl (by simp [insL_len, insL_getE, inL, ints_len, ints_getE, bls_len, evsL_len, evsL_getE, evL, u32s_len, u32s_getE, h8]; exact ⟨rfl, rfl, rfl⟩) rfl ?_
      | refine aw_sregK 0 [0, 1, 2, 3] ?_
      | refine aw_regK 0 [0, 1, 2, 3] ?_
      | refine aw_sregK 1 [0, 1, 2, 3] ?_
      | refine aw_regK 1 [0, 1, 2, 3] ?_
      | refine aw_sregK 2 [0, 1, 2, 3, 9] ?_
      | refine aw_regK 2 [0, 1, 2, 3, 9] ?_
      | refine aw_sregK 3 [9] ?_
      | refine aw_regK 3 [9] ?_
      | refine aw_sregK 4 [0, 1, 2, 3, 9] ?_
      | refine aw_regK 4 [0, 1, 2, 3, 9] ?_
      | refine aw_sregK 5 [0, 1, 2, 3, 9, 10] ?_
      | refine aw_regK 5 [0, 1, 2, 3, 9, 10] ?_
      | refine aw_sregK 6 [] ?_
      | refine aw_regK 6 [] ?_
      | refine aw_sregKD mixed 7 [0, 1, 2, 3, 9, 10] (by simp; exact rfl) ?_
      | refine aw_regKD mixed 7 [0, 1, 2, 3, 9, 10] (by simp; exact rfl) ?_
      | refine aw_sregKD mixed 8 [0, 1, 2, 3, 9, 10, 11] (by simp; exact rfl) ?_
      | refine aw_regKD mixed 8 [0, 1, 2, 3, 9, 10, 11] (by simp; exact rfl) ?_
      | refine aw_sregK 9 [] ?_
      | refine aw_regK 9 [] ?_
      | refine aw_sregK 10 [0, 1, 2, 3, 9, 10] ?_
      | refine aw_regK 10 [0, 1, 2, 3, 9, 10] ?_
      | refine aw_sregK 11 [0, 1, 2, 9, 10, 12] ?_
      | refine aw_regK 11 [0, 1, 2, 9, 10, 12] ?_
      | refine aw_sregK 12 [9, 10, 12, 13] ?_
      | refine aw_regK 12 [9, 10, 12, 13] ?_
      | refine aw_sregK 13 [] ?_
      | refine aw_regK 13 [] ?_
      | refine aw_sregKD mixed 14 [9, 10, 12, 13] (by simp; exact rfl) ?_
      | refine aw_regKD mixed 14 [9, 10, 12, 13] (by simp; exact rfl) ?_
      | refine aw_sreg ?_
      | refine aw_sregD mixed ?_
      | refine aw_ifT (b := true) rfl rfl ?_
      | refine aw_ifF (b := false) rfl rfl ?_
      | refine aw_ifT rfl (by assumption) ?_
      | refine aw_ifF rfl (by assumption) ?_
      | refine aw_ifT rfl (decide_eq_true (by assumption)) ?_
      | refine aw_ifF rfl (decide_eq_false (by assumption)) ?_
      | refine aw_seq ?_
      | refine aw_block ?_
      | refine aw_skip ?_
      | refine aw_region ?_
      | refine aw_region_draw mixed ?_
      | refine aw_exit ?_
      | refine rq_exit ?_
      | refine blockQ_hit ?_
      | refine blockQ_miss (by decide) ?_
      | (refine ar_guard rfl rfl rfl rfl (fun h => ?_) (fun h => ?_) <;> (fail_if_success (cases h; done)) <;> (try simp at h) <;> (try subst h))
      | (refine aw_both rfl (fun h => ?_) (fun h => ?_) <;> (fail_if_success (cases h; done)) <;> (try simp at h) <;> (try subst h)))
  by_cases hv40 : 40 < (vals.length : Int)
  · refine scx_of Try.func20 rfl rfl rfl (Nat.le_of_ble_eq_true rfl) ?_
    repeat' (first
      | exact aw_ret (ret_vals (by simp; exact rfl) (by simp [*]; fail_if_success (show _)))
      | exact aw_ret (ret_vals (by simp; exact rfl) (by simp [*]; omega))
      | refine ar_end rfl ?_
      | refine ar_endD rfl (by kernel_rfl) ?_
      | refine ar_fin rfl ?_
      | refine ar_finD rfl (by kernel_rfl) ?_
      | refine ar_callV Try.call65 c_shown8 rfl rfl rfl rfl rfl (by simp; done) (by rfl) (by simp; done) ?_
      | refine ar_callV_if Try.call65 c_shown8 rfl rfl rfl rfl rfl rfl (by simp; done) rfl (by rfl) (by simp; done) ?_
      | refine ar_go3 _ rfl (by simp [insL_len, insL_getE, inL, ints_len, ints_getE, bls_len, evsL_len, evsL_getE, evL, u32s_len, u32s_getE, h8, hv40]; exact ⟨rfl, rfl, rfl⟩) rfl ?_
      | refine aw_sregK 0 [0, 1, 2, 3] ?_
      | refine aw_regK 0 [0, 1, 2, 3] ?_
      | refine aw_sregK 1 [0, 1, 2, 3] ?_
      | refine aw_regK 1 [0, 1, 2, 3] ?_
      | refine aw_sregK 2 [0, 1, 2, 3, 9] ?_
      | refine aw_regK 2 [0, 1, 2, 3, 9] ?_
      | refine aw_sregK 3 [9] ?_
      | refine aw_regK 3 [9] ?_
      | refine aw_sregK 4 [0, 1, 2, 3, 9] ?_
      | refine aw_regK 4 [0, 1, 2, 3, 9] ?_
      | refine aw_sregK 5 [0, 1, 2, 3, 9, 10] ?_
      | refine aw_regK 5 [0, 1, 2, 3, 9, 10] ?_
      | refine aw_sregK 6 [] ?_
      | refine aw_regK 6 [] ?_
      | refine aw_sregKD mixed 7 [0, 1, 2, 3, 9, 10] (by simp; exact rfl) ?_
      | refine aw_regKD mixed 7 [0, 1, 2, 3, 9, 10] (by simp; exact rfl) ?_
      | refine aw_sregKD mixed 8 [0, 1, 2, 3, 9, 10, 11] (by simp; exact rfl) ?_
      | refine aw_regKD mixed 8 [0, 1, 2, 3, 9, 10, 11] (by simp; exact rfl) ?_
      | refine aw_sregK 9 [] ?_
      | refine aw_regK 9 [] ?_
      | refine aw_sregK 10 [0, 1, 2, 3, 9, 10] ?_
      | refine aw_regK 10 [0, 1, 2, 3, 9, 10] ?_
      | refine aw_sregK 11 [0, 1, 2, 9, 10, 12] ?_
      | refine aw_regK 11 [0, 1, 2, 9, 10, 12] ?_
      | refine aw_sregK 12 [9, 10, 12, 13] ?_
      | refine aw_regK 12 [9, 10, 12, 13] ?_
      | refine aw_sregK 13 [] ?_
      | refine aw_regK 13 [] ?_
      | refine aw_sregKD mixed 14 [9, 10, 12, 13] (by simp; exact rfl) ?_
      | refine aw_regKD mixed 14 [9, 10, 12, 13] (by simp; exact rfl) ?_
      | refine aw_sreg ?_
      | refine aw_sregD mixed ?_
      | refine aw_ifT (b := true) rfl rfl ?_
      | refine aw_ifF (b := false) rfl rfl ?_
      | refine aw_ifT rfl (by assumption) ?_
      | refine aw_ifF rfl (by assumption) ?_
      | refine aw_ifT rfl (decide_eq_true (by assumption)) ?_
      | refine aw_ifF rfl (decide_eq_false (by assumption)) ?_
      | refine aw_seq ?_
      | refine aw_block ?_
      | refine aw_skip ?_
      | refine aw_region ?_
      | refine aw_region_draw mixed ?_
      | refine aw_exit ?_
      | refine rq_exit ?_
      | refine blockQ_hit ?_
      | refine blockQ_miss (by decide) ?_
      | (refine ar_guard rfl rfl rfl rfl (fun h => ?_) (fun h => ?_) <;> (fail_if_success (cases h; done)) <;> (try simp at h) <;> (try subst h))
      | (refine aw_both rfl (fun h => ?_) (fun h => ?_) <;> (fail_if_success (cases h; done)) <;> (try simp at h) <;> (try subst h)))
  by_cases hl40 : 40 < (lucks.length : Int)
  · refine scx_of Try.func20 rfl rfl rfl (Nat.le_of_ble_eq_true rfl) ?_
    repeat' (first
      | exact aw_ret (ret_vals (by simp; exact rfl) (by simp [*]; fail_if_success (show _)))
      | exact aw_ret (ret_vals (by simp; exact rfl) (by simp [*]; omega))
      | refine ar_end rfl ?_
      | refine ar_endD rfl (by kernel_rfl) ?_
      | refine ar_fin rfl ?_
      | refine ar_finD rfl (by kernel_rfl) ?_
      | refine ar_callV Try.call65 c_shown8 rfl rfl rfl rfl rfl (by simp; done) (by rfl) (by simp; done) ?_
      | refine ar_callV_if Try.call65 c_shown8 rfl rfl rfl rfl rfl rfl (by simp; done) rfl (by rfl) (by simp; done) ?_
      | refine ar_go3 _ rfl (by simp [insL_len, insL_getE, inL, ints_len, ints_getE, bls_len, evsL_len, evsL_getE, evL, u32s_len, u32s_getE, h8, hv40, hl40]; exact ⟨rfl, rfl, rfl⟩) rfl ?_
      | refine aw_sregK 0 [0, 1, 2, 3] ?_
      | refine aw_regK 0 [0, 1, 2, 3] ?_
      | refine aw_sregK 1 [0, 1, 2, 3] ?_
      | refine aw_regK 1 [0, 1, 2, 3] ?_
      | refine aw_sregK 2 [0, 1, 2, 3, 9] ?_
      | refine aw_regK 2 [0, 1, 2, 3, 9] ?_
      | refine aw_sregK 3 [9] ?_
      | refine aw_regK 3 [9] ?_
      | refine aw_sregK 4 [0, 1, 2, 3, 9] ?_
      | refine aw_regK 4 [0, 1, 2, 3, 9] ?_
      | refine aw_sregK 5 [0, 1, 2, 3, 9, 10] ?_
      | refine aw_regK 5 [0, 1, 2, 3, 9, 10] ?_
      | refine aw_sregK 6 [] ?_
      | refine aw_regK 6 [] ?_
      | refine aw_sregKD mixed 7 [0, 1, 2, 3, 9, 10] (by simp; exact rfl) ?_
      | refine aw_regKD mixed 7 [0, 1, 2, 3, 9, 10] (by simp; exact rfl) ?_
      | refine aw_sregKD mixed 8 [0, 1, 2, 3, 9, 10, 11] (by simp; exact rfl) ?_
      | refine aw_regKD mixed 8 [0, 1, 2, 3, 9, 10, 11] (by simp; exact rfl) ?_
      | refine aw_sregK 9 [] ?_
      | refine aw_regK 9 [] ?_
      | refine aw_sregK 10 [0, 1, 2, 3, 9, 10] ?_
      | refine aw_regK 10 [0, 1, 2, 3, 9, 10] ?_
      | refine aw_sregK 11 [0, 1, 2, 9, 10, 12] ?_
      | refine aw_regK 11 [0, 1, 2, 9, 10, 12] ?_
      | refine aw_sregK 12 [9, 10, 12, 13] ?_
      | refine aw_regK 12 [9, 10, 12, 13] ?_
      | refine aw_sregK 13 [] ?_
      | refine aw_regK 13 [] ?_
      | refine aw_sregKD mixed 14 [9, 10, 12, 13] (by simp; exact rfl) ?_
      | refine aw_regKD mixed 14 [9, 10, 12, 13] (by simp; exact rfl) ?_
      | refine aw_sreg ?_
      | refine aw_sregD mixed ?_
      | refine aw_ifT (b := true) rfl rfl ?_
      | refine aw_ifF (b := false) rfl rfl ?_
      | refine aw_ifT rfl (by assumption) ?_
      | refine aw_ifF rfl (by assumption) ?_
      | refine aw_ifT rfl (decide_eq_true (by assumption)) ?_
      | refine aw_ifF rfl (decide_eq_false (by assumption)) ?_
      | refine aw_seq ?_
      | refine aw_block ?_
      | refine aw_skip ?_
      | refine aw_region ?_
      | refine aw_region_draw mixed ?_
      | refine aw_exit ?_
      | refine rq_exit ?_
      | refine blockQ_hit ?_
      | refine blockQ_miss (by decide) ?_
      | (refine ar_guard rfl rfl rfl rfl (fun h => ?_) (fun h => ?_) <;> (fail_if_success (cases h; done)) <;> (try simp at h) <;> (try subst h))
      | (refine aw_both rfl (fun h => ?_) (fun h => ?_) <;> (fail_if_success (cases h; done)) <;> (try simp at h) <;> (try subst h)))
  have hR := c_Run (th := th) (locs := 2) (vals := vals) (lucks := lucks) (by simp [maxLen]; omega) (by omega) (by omega)
  obtain ⟨hW, q, hq, hI⟩ := run_wf (th := th) (locs := 2) (lucks := lucks) hth hvw
  have hmore0 := more_law0 (th := th) (vals := vals) (lucks := lucks)
  have hcutk := fun k => more_law (th := th) (vals := vals) (lucks := lucks) (k := k)
  have hel := hI.es
  have had := hI.ad
  have hda := hI.da
  have hct := hI.ct
  have hpa := hI.pa
  obtain ⟨n0, n1⟩ := hI.nv
  obtain ⟨u0, u1⟩ := hI.nl
  have hM8 : (8 : Nat) ≤ maxLen := by simp [maxLen]
  have hS := c_SameT hW (by omega) had hda hct hpa
  obtain ⟨wcut, k, hmod, hkl⟩ := cut_mod (n := (runF th 2 vals lucks).nv.toNat) hcut
  have hA := c_Run (th := th) (locs := 2) (vals := vals.take (runF th 2 vals lucks).nv.toNat) (lucks := lucks.take (runF th 2 vals lucks).nl.toNat) (by simp [maxLen]; omega) (by simp; omega) (by simp; omega)
  have hB := c_Run (th := th) (locs := 2) (vals := vals.take k) (lucks := lucks) (by simp [maxLen]; omega) (by simp; omega) (by omega)
  obtain ⟨hWB, q2, hq2, hIB⟩ := run_wf (th := th) (locs := 2) (vals := vals.take k) (lucks := lucks) hth (fun v hv => hvw v (List.mem_of_mem_take hv))
  have hck := hcutk k (by omega)
  have e1 : ((runF th 2 vals lucks).nv.toNat : Int) = (runF th 2 vals lucks).nv := by omega
  rw [e1] at hmod
  have hBn : (runF th 2 (vals.take k) lucks).nv ≤ k := by have := hIB.nv; rw [List.length_take] at this; omega
  have hpre : (runF th 2 (vals.take k) lucks).es <+: (runF th 2 vals lucks).es := by
    rcases hck with h | h
    · rw [h]; exact List.prefix_refl _
    · exact h.2.2
  have hor : (k : Int) = (runF th 2 vals lucks).nv ∨ ((runF th 2 (vals.take k) lucks).more = 1 ∧ (runF th 2 (vals.take k) lucks).nv = k) := by
    rcases hck with h | h
    · left; rw [h] at hBn; omega
    · exact .inr ⟨h.1, h.2.1⟩
  have hbt : (runF th 2 vals lucks).es.take (runF th 2 (vals.take k) lucks).es.length = (runF th 2 (vals.take k) lucks).es := by
    obtain ⟨t, e⟩ := hpre
    rw [← e]; simp
  have hbl := hpre.length_le
  have hE := c_Events (l := (runF th 2 (vals.take k) lucks).es) (by have := hIB.es; omega) hWB.es
  clear hck hcutk hpre hWB hIB
  generalize runF th 2 (vals.take k) lucks = B at *
  generalize hAq : runF th 2 (vals.take (runF th 2 vals lucks).nv.toNat) (lucks.take (runF th 2 vals lucks).nl.toNat) = A at *
  generalize runF th 2 vals lucks = R at *
  have g1 : ¬(vals.length : Int) < R.nv := by omega
  have g2 : ¬(lucks.length : Int) < R.nl := by omega
  have g3 : ¬R.nv < 0 := by omega
  have g4 : ¬R.nl < 0 := by omega
  have g5 : R.nv.toNat ≤ vals.length := by omega
  have g6 : R.nl.toNat ≤ lucks.length := by omega
  have g7 : IntKind.wrap .i64 (R.nv + 1) = R.nv + 1 := wrap64s (by omega) (by omega)
  have g8 : ¬R.nv + 1 = 0 := by omega
  have g9 : k ≤ vals.length := by omega
  have ga : ¬(R.es.length : Int) < (B.es.length : Int) := by omega
  have gb : ¬(k : Int) < B.nv := by omega
  by_cases h0 : R.more = 0
  · rw [hmore0 h0] at hA
    have hRe := c_real8 (R := R)
    unfold trL at hRe hS
    rw [h0] at hRe hS
    by_cases hk : (k : Int) = R.nv
    · refine scx_of Try.func20 rfl rfl rfl (Nat.le_of_ble_eq_true rfl) ?_
      repeat' (first
        | exact aw_ret (ret_vals (by simp; exact rfl) (by simp [hk]; fail_if_success (show _)))
        | exact aw_ret (ret_vals (by simp; exact rfl) (by simp [hk]; omega))
        | refine ar_end rfl ?_
        | refine ar_endD rfl (by kernel_rfl) ?_
        | refine ar_fin rfl ?_
        | refine ar_finD rfl (by kernel_rfl) ?_
        | refine ar_callV Try.call65 c_shown8 rfl rfl rfl rfl rfl (by simp; done) (by rfl) (by simp; done) ?_
        | refine ar_callV_if Try.call65 c_shown8 rfl rfl rfl rfl rfl rfl (by simp; done) rfl (by rfl) (by simp; done) ?_
        | refine ar_callV Try.call68 hR rfl rfl rfl rfl rfl (by simp; done) (by rfl) (by simp; done) ?_
        | refine ar_callV_if Try.call68 hR rfl rfl rfl rfl rfl rfl (by simp; done) rfl (by rfl) (by simp; done) ?_
        | refine ar_callV Try.call68 hA rfl rfl rfl rfl rfl (by simp; done) (by rfl) (by simp; done) ?_
        | refine ar_callV_if Try.call68 hA rfl rfl rfl rfl rfl rfl (by simp; done) rfl (by rfl) (by simp; done) ?_
        | refine ar_callV Try.call68 hB rfl rfl rfl rfl rfl (by simp; done) (by rfl) (by simp; done) ?_
        | refine ar_callV_if Try.call68 hB rfl rfl rfl rfl rfl rfl (by simp; done) rfl (by rfl) (by simp; done) ?_
        | refine ar_callV Try.call70 hE rfl rfl rfl rfl rfl (by simp; done) (by rfl) (by simp; done) ?_
        | refine ar_callV_if Try.call70 hE rfl rfl rfl rfl rfl rfl (by simp; done) rfl (by rfl) (by simp; done) ?_
        | refine ar_callV Try.call67 hRe rfl rfl rfl rfl rfl (by simp; done) (by rfl) (by simp; done) ?_
        | refine ar_callV_if Try.call67 hRe rfl rfl rfl rfl rfl rfl (by simp; done) rfl (by rfl) (by simp; done) ?_
        | refine ar_callV Try.call66 hS rfl rfl rfl rfl rfl (by simp; done) (by rfl) (by simp; done) ?_
        | refine ar_callV_if Try.call66 hS rfl rfl rfl rfl rfl rfl (by simp; done) rfl (by rfl) (by simp; done) ?_
        | refine ar_go3 _ rfl (by simp [insL_len, insL_getE, inL, ints_len, ints_getE, bls_len, evsL_len, evsL_getE, evL, u32s_len, u32s_getE, insL_take, ints_take, bls_take, evsL_take, h8, hv40, hl40, g1, g2, g3, g4, g5, g6, g7, g8, g9, ga, gb, n0, u0, wcut, hmod, hbl, hbt, h0]; exact ⟨rfl, rfl, rfl⟩) rfl ?_
        | refine aw_sregK 0 [0, 1, 2, 3] ?_
        | refine aw_regK 0 [0, 1, 2, 3] ?_
        | refine aw_sregK 1 [0, 1, 2, 3] ?_
        | refine aw_regK 1 [0, 1, 2, 3] ?_
        | refine aw_sregK 2 [0, 1, 2, 3, 9] ?_
        | refine aw_regK 2 [0, 1, 2, 3, 9] ?_
        | refine aw_sregK 3 [9] ?_
        | refine aw_regK 3 [9] ?_
        | refine aw_sregK 4 [0, 1, 2, 3, 9] ?_
        | refine aw_regK 4 [0, 1, 2, 3, 9] ?_
        | refine aw_sregK 5 [0, 1, 2, 3, 9, 10] ?_
        | refine aw_regK 5 [0, 1, 2, 3, 9, 10] ?_
        | refine aw_sregK 6 [] ?_
        | refine aw_regK 6 [] ?_
        | refine aw_sregKD mixed 7 [0, 1, 2, 3, 9, 10] (by simp; exact rfl) ?_
        | refine aw_regKD mixed 7 [0, 1, 2, 3, 9, 10] (by simp; exact rfl) ?_
        | refine aw_sregKD mixed 8 [0, 1, 2, 3, 9, 10, 11] (by simp; exact rfl) ?_
        | refine aw_regKD mixed 8 [0, 1, 2, 3, 9, 10, 11] (by simp; exact rfl) ?_
        | refine aw_sregK 9 [] ?_
        | refine aw_regK 9 [] ?_
        | refine aw_sregK 10 [0, 1, 2, 3, 9, 10] ?_
        | refine aw_regK 10 [0, 1, 2, 3, 9, 10] ?_
        | refine aw_sregK 11 [0, 1, 2, 9, 10, 12] ?_
        | refine aw_regK 11 [0, 1, 2, 9, 10, 12] ?_
        | refine aw_sregK 12 [9, 10, 12, 13] ?_
        | refine aw_regK 12 [9, 10, 12, 13] ?_
        | refine aw_sregK 13 [] ?_
        | refine aw_regK 13 [] ?_
        | refine aw_sregKD mixed 14 [9, 10, 12, 13] (by simp; exact rfl) ?_
        | refine aw_regKD mixed 14 [9, 10, 12, 13] (by simp; exact rfl) ?_
        | refine aw_sreg ?_
        | refine aw_sregD mixed ?_
        | refine aw_ifT (b := true) rfl rfl ?_
        | refine aw_ifF (b := false) rfl rfl ?_
        | refine aw_ifT rfl (by assumption) ?_
        | refine aw_ifF rfl (by assumption) ?_
        | refine aw_ifT rfl (decide_eq_true (by assumption)) ?_
        | refine aw_ifF rfl (decide_eq_false (by assumption)) ?_
        | refine aw_seq ?_
        | refine aw_block ?_
        | refine aw_skip ?_
        | refine aw_region ?_
        | refine aw_region_draw mixed ?_
        | refine aw_exit ?_
        | refine rq_exit ?_
        | refine blockQ_hit ?_
        | refine blockQ_miss (by decide) ?_
        | (refine ar_guard rfl rfl rfl rfl (fun h => ?_) (fun h => ?_) <;> (fail_if_success (cases h; done)) <;> (try simp at h) <;> (try subst h))
        | (refine aw_both rfl (fun h => ?_) (fun h => ?_) <;> (fail_if_success (cases h; done)) <;> (try simp at h) <;> (try subst h)))
    · obtain ⟨b1, b2⟩ : B.more = 1 ∧ B.nv = k := by rcases hor with h | h; exact absurd h hk; exact h
      refine scx_of Try.func20 rfl rfl rfl (Nat.le_of_ble_eq_true rfl) ?_
      repeat' (first
        | exact aw_ret (ret_vals (by simp; exact rfl) (by simp [b1, b2]; fail_if_success (show _)))
        | exact aw_ret (ret_vals (by simp; exact rfl) (by simp [b1, b2]; omega))
        | refine ar_end rfl ?_
        | refine ar_endD rfl (by kernel_rfl) ?_
        | refine ar_fin rfl ?_
        | refine ar_finD rfl (by kernel_rfl) ?_
        | refine ar_callV Try.call65 c_shown8 rfl rfl rfl rfl rfl (by simp; done) (by rfl) (by simp; done) ?_
        | refine ar_callV_if Try.call65 c_shown8 rfl rfl rfl rfl rfl rfl (by simp; done) rfl (by rfl) (by simp; done) ?_
        | refine ar_callV Try.call68 hR rfl rfl rfl rfl rfl (by simp; done) (by rfl) (by simp; done) ?_
        | refine ar_callV_if Try.call68 hR rfl rfl rfl rfl rfl rfl (by simp; done) rfl (by rfl) (by simp; done) ?_
        | refine ar_callV Try.call68 hA rfl rfl rfl rfl rfl (by simp; done) (by rfl) (by simp; done) ?_
        | refine ar_callV_if Try.call68 hA rfl rfl rfl rfl rfl rfl (by simp; done) rfl (by rfl) (by simp; done) ?_
        | refine ar_callV Try.call68 hB rfl rfl rfl rfl rfl (by simp; done) (by rfl) (by simp; done) ?_
        | refine ar_callV_if Try.call68 hB rfl rfl rfl rfl rfl rfl (by simp; done) rfl (by rfl) (by simp; done) ?_
        | refine ar_callV Try.call70 hE rfl rfl rfl rfl rfl (by simp; done) (by rfl) (by simp; done) ?_
        | refine ar_callV_if Try.call70 hE rfl rfl rfl rfl rfl rfl (by simp; done) rfl (by rfl) (by simp; done) ?_
        | refine ar_callV Try.call67 hRe rfl rfl rfl rfl rfl (by simp; done) (by rfl) (by simp; done) ?_
        | refine ar_callV_if Try.call67 hRe rfl rfl rfl rfl rfl rfl (by simp; done) rfl (by rfl) (by simp; done) ?_
        | refine ar_callV Try.call66 hS rfl rfl rfl rfl rfl (by simp; done) (by rfl) (by simp; done) ?_
        | refine ar_callV_if Try.call66 hS rfl rfl rfl rfl rfl rfl (by simp; done) rfl (by rfl) (by simp; done) ?_
        | refine ar_go3 _ rfl (by simp [insL_len, insL_getE, inL, ints_len, ints_getE, bls_len, evsL_len, evsL_getE, evL, u32s_len, u32s_getE, insL_take, ints_take, bls_take, evsL_take, h8, hv40, hl40, g1, g2, g3, g4, g5, g6, g7, g8, g9, ga, gb, n0, u0, wcut, hmod, hbl, hbt, h0, hk, b1, b2]; exact ⟨rfl, rfl, rfl⟩) rfl ?_
        | refine aw_sregK 0 [0, 1, 2, 3] ?_
        | refine aw_regK 0 [0, 1, 2, 3] ?_
        | refine aw_sregK 1 [0, 1, 2, 3] ?_
        | refine aw_regK 1 [0, 1, 2, 3] ?_
        | refine aw_sregK 2 [0, 1, 2, 3, 9] ?_
        | refine aw_regK 2 [0, 1, 2, 3, 9] ?_
        | refine aw_sregK 3 [9] ?_
        | refine aw_regK 3 [9] ?_
        | refine aw_sregK 4 [0, 1, 2, 3, 9] ?_
        | refine aw_regK 4 [0, 1, 2, 3, 9] ?_
        | refine aw_sregK 5 [0, 1, 2, 3, 9, 10] ?_
        | refine aw_regK 5 [0, 1, 2, 3, 9, 10] ?_
        | refine aw_sregK 6 [] ?_
        | refine aw_regK 6 [] ?_
        | refine aw_sregKD mixed 7 [0, 1, 2, 3, 9, 10] (by simp; exact rfl) ?_
        | refine aw_regKD mixed 7 [0, 1, 2, 3, 9, 10] (by simp; exact rfl) ?_
        | refine aw_sregKD mixed 8 [0, 1, 2, 3, 9, 10, 11] (by simp; exact rfl) ?_
        | refine aw_regKD mixed 8 [0, 1, 2, 3, 9, 10, 11] (by simp; exact rfl) ?_
        | refine aw_sregK 9 [] ?_
        | refine aw_regK 9 [] ?_
        | refine aw_sregK 10 [0, 1, 2, 3, 9, 10] ?_
        | refine aw_regK 10 [0, 1, 2, 3, 9, 10] ?_
        | refine aw_sregK 11 [0, 1, 2, 9, 10, 12] ?_
        | refine aw_regK 11 [0, 1, 2, 9, 10, 12] ?_
        | refine aw_sregK 12 [9, 10, 12, 13] ?_
        | refine aw_regK 12 [9, 10, 12, 13] ?_
        | refine aw_sregK 13 [] ?_
        | refine aw_regK 13 [] ?_
        | refine aw_sregKD mixed 14 [9, 10, 12, 13] (by simp; exact rfl) ?_
        | refine aw_regKD mixed 14 [9, 10, 12, 13] (by simp; exact rfl) ?_
        | refine aw_sreg ?_
        | refine aw_sregD mixed ?_
        | refine aw_ifT (b := true) rfl rfl ?_
        | refine aw_ifF (b := false) rfl rfl ?_
        | refine aw_ifT rfl (by assumption) ?_
        | refine aw_ifF rfl (by assumption) ?_
        | refine aw_ifT rfl (decide_eq_true (by assumption)) ?_
        | refine aw_ifF rfl (decide_eq_false (by assumption)) ?_
        | refine aw_seq ?_
        | refine aw_block ?_
        | refine aw_skip ?_
        | refine aw_region ?_
        | refine aw_region_draw mixed ?_
        | refine aw_exit ?_
        | refine rq_exit ?_
        | refine blockQ_hit ?_
        | refine blockQ_miss (by decide) ?_
        | (refine ar_guard rfl rfl rfl rfl (fun h => ?_) (fun h => ?_) <;> (fail_if_success (cases h; done)) <;> (try simp at h) <;> (try subst h))
        | (refine aw_both rfl (fun h => ?_) (fun h => ?_) <;> (fail_if_success (cases h; done)) <;> (try simp at h) <;> (try subst h)))
  · by_cases hk : (k : Int) = R.nv
    · refine scx_of Try.func20 rfl rfl rfl (Nat.le_of_ble_eq_true rfl) ?_
      repeat' (first
        | exact aw_ret (ret_vals (by simp; exact rfl) (by simp [hk]; fail_if_success (show _)))
        | exact aw_ret (ret_vals (by simp; exact rfl) (by simp [hk]; omega))
        | refine ar_end rfl ?_
        | refine ar_endD rfl (by kernel_rfl) ?_
        | refine ar_fin rfl ?_
        | refine ar_finD rfl (by kernel_rfl) ?_
        | refine ar_callV Try.call65 c_shown8 rfl rfl rfl rfl rfl (by simp; done) (by rfl) (by simp; done) ?_
        | refine ar_callV_if Try.call65 c_shown8 rfl rfl rfl rfl rfl rfl (by simp; done) rfl (by rfl) (by simp; done) ?_
        | refine ar_callV Try.call68 hR rfl rfl rfl rfl rfl (by simp; done) (by rfl) (by simp; done) ?_
        | refine ar_callV_if Try.call68 hR rfl rfl rfl rfl rfl rfl (by simp; done) rfl (by rfl) (by simp; done) ?_
        | refine ar_callV Try.call68 hA rfl rfl rfl rfl rfl (by simp; done) (by rfl) (by simp; done) ?_
        | refine ar_callV_if Try.call68 hA rfl rfl rfl rfl rfl rfl (by simp; done) rfl (by rfl) (by simp; done) ?_
        | refine ar_callV Try.call68 hB rfl rfl rfl rfl rfl (by simp; done) (by rfl) (by simp; done) ?_
        | refine ar_callV_if Try.call68 hB rfl rfl rfl rfl rfl rfl (by simp; done) rfl (by rfl) (by simp; done) ?_
        | refine ar_callV Try.call70 hE rfl rfl rfl rfl rfl (by simp; done) (by rfl) (by simp; done) ?_
        | refine ar_callV_if Try.call70 hE rfl rfl rfl rfl rfl rfl (by simp; done) rfl (by rfl) (by simp; done) ?_
        | refine ar_go3 _ rfl (by simp [insL_len, insL_getE, inL, ints_len, ints_getE, bls_len, evsL_len, evsL_getE, evL, u32s_len, u32s_getE, insL_take, ints_take, bls_take, evsL_take, h8, hv40, hl40, g1, g2, g3, g4, g5, g6, g7, g8, g9, ga, gb, n0, u0, wcut, hmod, hbl, hbt, h0]; exact ⟨rfl, rfl, rfl⟩) rfl ?_
        | refine aw_sregK 0 [0, 1, 2, 3] ?_
        | refine aw_regK 0 [0, 1, 2, 3] ?_
        | refine aw_sregK 1 [0, 1, 2, 3] ?_
        | refine aw_regK 1 [0, 1, 2, 3] ?_
        | refine aw_sregK 2 [0, 1, 2, 3, 9] ?_
        | refine aw_regK 2 [0, 1, 2, 3, 9] ?_
        | refine aw_sregK 3 [9] ?_
        | refine aw_regK 3 [9] ?_
        | refine aw_sregK 4 [0, 1, 2, 3, 9] ?_
        | refine aw_regK 4 [0, 1, 2, 3, 9] ?_
        | refine aw_sregK 5 [0, 1, 2, 3, 9, 10] ?_
        | refine aw_regK 5 [0, 1, 2, 3, 9, 10] ?_
        | refine aw_sregK 6 [] ?_
        | refine aw_regK 6 [] ?_
        | refine aw_sregKD mixed 7 [0, 1, 2, 3, 9, 10] (by simp; exact rfl) ?_
        | refine aw_regKD mixed 7 [0, 1, 2, 3, 9, 10] (by simp; exact rfl) ?_
        | refine aw_sregKD mixed 8 [0, 1, 2, 3, 9, 10, 11] (by simp; exact rfl) ?_
        | refine aw_regKD mixed 8 [0, 1, 2, 3, 9, 10, 11] (by simp; exact rfl) ?_
        | refine aw_sregK 9 [] ?_
        | refine aw_regK 9 [] ?_
        | refine aw_sregK 10 [0, 1, 2, 3, 9, 10] ?_
        | refine aw_regK 10 [0, 1, 2, 3, 9, 10] ?_
        | refine aw_sregK 11 [0, 1, 2, 9, 10, 12] ?_
        | refine aw_regK 11 [0, 1, 2, 9, 10, 12] ?_
        | refine aw_sregK 12 [9, 10, 12, 13] ?_
        | refine aw_regK 12 [9, 10, 12, 13] ?_
        | refine aw_sregK 13 [] ?_
        | refine aw_regK 13 [] ?_
        | refine aw_sregKD mixed 14 [9, 10, 12, 13] (by simp; exact rfl) ?_
        | refine aw_regKD mixed 14 [9, 10, 12, 13] (by simp; exact rfl) ?_
        | refine aw_sreg ?_
        | refine aw_sregD mixed ?_
        | refine aw_ifT (b := true) rfl rfl ?_
        | refine aw_ifF (b := false) rfl rfl ?_
        | refine aw_ifT rfl (by assumption) ?_
        | refine aw_ifF rfl (by assumption) ?_
        | refine aw_ifT rfl (decide_eq_true (by assumption)) ?_
        | refine aw_ifF rfl (decide_eq_false (by assumption)) ?_
        | refine aw_seq ?_
        | refine aw_block ?_
        | refine aw_skip ?_
        | refine aw_region ?_
        | refine aw_region_draw mixed ?_
        | refine aw_exit ?_
        | refine rq_exit ?_
        | refine blockQ_hit ?_
        | refine blockQ_miss (by decide) ?_
        | (refine ar_guard rfl rfl rfl rfl (fun h => ?_) (fun h => ?_) <;> (fail_if_success (cases h; done)) <;> (try simp at h) <;> (try subst h))
        | (refine aw_both rfl (fun h => ?_) (fun h => ?_) <;> (fail_if_success (cases h; done)) <;> (try simp at h) <;> (try subst h)))
    · obtain ⟨b1, b2⟩ : B.more = 1 ∧ B.nv = k := by rcases hor with h | h; exact absurd h hk; exact h
      refine scx_of Try.func20 rfl rfl rfl (Nat.le_of_ble_eq_true rfl) ?_
      repeat' (first
        | exact aw_ret (ret_vals (by simp; exact rfl) (by simp [b1, b2]; fail_if_success (show _)))
        | exact aw_ret (ret_vals (by simp; exact rfl) (by simp [b1, b2]; omega))
        | refine ar_end rfl ?_
        | refine ar_endD rfl (by kernel_rfl) ?_
        | refine ar_fin rfl ?_
        | refine ar_finD rfl (by kernel_rfl) ?_
        | refine ar_callV Try.call65 c_shown8 rfl rfl rfl rfl rfl (by simp; done) (by rfl) (by simp; done) ?_
        | refine ar_callV_if Try.call65 c_shown8 rfl rfl rfl rfl rfl rfl (by simp; done) rfl (by rfl) (by simp; done) ?_
        | refine ar_callV Try.call68 hR rfl rfl rfl rfl rfl (by simp; done) (by rfl) (by simp; done) ?_
        | refine ar_callV_if Try.call68 hR rfl rfl rfl rfl rfl rfl (by simp; done) rfl (by rfl) (by simp; done) ?_
        | refine ar_callV Try.call68 hA rfl rfl rfl rfl rfl (by simp; done) (by rfl) (by simp; done) ?_
        | refine ar_callV_if Try.call68 hA rfl rfl rfl rfl rfl rfl (by simp; done) rfl (by rfl) (by simp; done) ?_
        | refine ar_callV Try.call68 hB rfl rfl rfl rfl rfl (by simp; done) (by rfl) (by simp; done) ?_
        | refine ar_callV_if Try.call68 hB rfl rfl rfl rfl rfl rfl (by simp; done) rfl (by rfl) (by simp; done) ?_
        | refine ar_callV Try.call70 hE rfl rfl rfl rfl rfl (by simp; done) (by rfl) (by simp; done) ?_
        | refine ar_callV_if Try.call70 hE rfl rfl rfl rfl rfl rfl (by simp; done) rfl (by rfl) (by simp; done) ?_
        | refine ar_go3 _ rfl (by simp [insL_len, insL_getE, inL, ints_len, ints_getE, bls_len, evsL_len, evsL_getE, evL, u32s_len, u32s_getE, insL_take, ints_take, bls_take, evsL_take, h8, hv40, hl40, g1, g2, g3, g4, g5, g6, g7, g8, g9, ga, gb, n0, u0, wcut, hmod, hbl, hbt, h0, hk, b1, b2]; exact ⟨rfl, rfl, rfl⟩) rfl ?_
        | refine aw_sregK 0 [0, 1, 2, 3] ?_
        | refine aw_regK 0 [0, 1, 2, 3] ?_
        | refine aw_sregK 1 [0, 1, 2, 3] ?_
        | refine aw_regK 1 [0, 1, 2, 3] ?_
        | refine aw_sregK 2 [0, 1, 2, 3, 9] ?_
        | refine aw_regK 2 [0, 1, 2, 3, 9] ?_
        | refine aw_sregK 3 [9] ?_
        | refine aw_regK 3 [9] ?_
        | refine aw_sregK 4 [0, 1, 2, 3, 9] ?_
        | refine aw_regK 4 [0, 1, 2, 3, 9] ?_
        | refine aw_sregK 5 [0, 1, 2, 3, 9, 10] ?_
        | refine aw_regK 5 [0, 1, 2, 3, 9, 10] ?_
        | refine aw_sregK 6 [] ?_
        | refine aw_regK 6 [] ?_
        | refine aw_sregKD mixed 7 [0, 1, 2, 3, 9, 10] (by simp; exact rfl) ?_
        | refine aw_regKD mixed 7 [0, 1, 2, 3, 9, 10] (by simp; exact rfl) ?_
        | refine aw_sregKD mixed 8 [0, 1, 2, 3, 9, 10, 11] (by simp; exact rfl) ?_
        | refine aw_regKD mixed 8 [0, 1, 2, 3, 9, 10, 11] (by simp; exact rfl) ?_
        | refine aw_sregK 9 [] ?_
        | refine aw_regK 9 [] ?_
        | refine aw_sregK 10 [0, 1, 2, 3, 9, 10] ?_
        | refine aw_regK 10 [0, 1, 2, 3, 9, 10] ?_
        | refine aw_sregK 11 [0, 1, 2, 9, 10, 12] ?_
        | refine aw_regK 11 [0, 1, 2, 9, 10, 12] ?_
        | refine aw_sregK 12 [9, 10, 12, 13] ?_
        | refine aw_regK 12 [9, 10, 12, 13] ?_
        | refine aw_sregK 13 [] ?_
        | refine aw_regK 13 [] ?_
        | refine aw_sregKD mixed 14 [9, 10, 12, 13] (by simp; exact rfl) ?_
        | refine aw_regKD mixed 14 [9, 10, 12, 13] (by simp; exact rfl) ?_
        | refine aw_sreg ?_
        | refine aw_sregD mixed ?_
        | refine aw_ifT (b := true) rfl rfl ?_
        | refine aw_ifF (b := false) rfl rfl ?_
        | refine aw_ifT rfl (by assumption) ?_
        | refine aw_ifF rfl (by assumption) ?_
        | refine aw_ifT rfl (decide_eq_true (by assumption)) ?_
        | refine aw_ifF rfl (decide_eq_false (by assumption)) ?_
        | refine aw_seq ?_
        | refine aw_block ?_
        | refine aw_skip ?_
        | refine aw_region ?_
        | refine aw_region_draw mixed ?_
        | refine aw_exit ?_
        | refine rq_exit ?_
        | refine blockQ_hit ?_
        | refine blockQ_miss (by decide) ?_
        | (refine ar_guard rfl rfl rfl rfl (fun h => ?_) (fun h => ?_) <;> (fail_if_success (cases h; done)) <;> (try simp at h) <;> (try subst h))
        | (refine aw_both rfl (fun h => ?_) (fun h => ?_) <;> (fail_if_success (cases h; done)) <;> (try simp at h) <;> (try subst h)))
end Go.Eng
