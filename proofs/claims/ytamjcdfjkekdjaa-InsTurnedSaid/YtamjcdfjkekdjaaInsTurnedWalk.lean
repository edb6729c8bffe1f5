import Derived.Test.YtamjcdfjkekdjaaInsShown
set_option linter.unusedSimpArgs false
set_option linter.unusedVariables false
set_option linter.constructorNameAsVariable false
set_option autoImplicit false
namespace Go.Eng
open Go Go.RowKit Go.Proofs
set_option maxHeartbeats 16000000 in
theorem law_InsTurned_w {op d a b l m behind locs L1 : Int} (hL : IntKind.wrap .i64 (locs + 1) = L1)
    (k1 : mayF op d a b l m behind locs = true → mayF op 4 a b l m behind locs = false ∧ mayF op d a (-1) l m behind locs = false ∧ mayF op d 4 b l m behind locs = false ∧ (0 ≤ locs → mayF op d a b L1 m behind locs = false) ∧ mayF 15 d a b l m behind locs = false) :
    SC Try.prog 10 [.agg [C .i64 op, C .i64 d, C .i64 a, C .i64 b, C .i64 l, C .i64 m], I .i64 behind, I .i64 locs] (B true) := by
  refine scx_of Try.func10 rfl rfl rfl (Nat.le_of_ble_eq_true rfl) ?_
  cases hm : mayF op d a b l m behind locs
  · clear k1
    repeat' (first
      | exact aw_ret (ret_vals (by simp; exact rfl) (by simp [*]; fail_if_success (show _)))
      | exact aw_ret (ret_vals (by simp; exact rfl) (by simp [*]; omega))
      | refine ar_end rfl ?_
      | refine ar_endD rfl (by kernel_rfl) ?_
      | refine ar_fin rfl ?_
      | refine ar_finD rfl (by kernel_rfl) ?_
      | refine ar_callV Try.call41 c_shown1 rfl rfl rfl rfl rfl (by simp; done) (by rfl) (by simp; done) ?_
      | refine ar_callV_if Try.call41 c_shown1 rfl rfl rfl rfl rfl rfl (by simp; done) rfl (by rfl) (by simp; done) ?_
      | refine ar_callV Try.call51 c_May rfl rfl rfl rfl rfl (by simp; done) (by rfl) (by simp; done) ?_
      | refine ar_callV_if Try.call51 c_May rfl rfl rfl rfl rfl rfl (by simp; done) rfl (by rfl) (by simp; done) ?_
      | refine ar_go3 _ rfl (by simp [*]; exact ⟨rfl, rfl, rfl⟩) rfl ?_
      | refine aw_sregK 0 [0, 1, 2] ?_
      | refine aw_regK 0 [0, 1, 2] ?_
      | refine aw_sregK 1 [1, 2, 3] ?_
      | refine aw_regK 1 [1, 2, 3] ?_
      | refine aw_sregK 2 [1, 2, 3, 7] ?_
      | refine aw_regK 2 [1, 2, 3, 7] ?_
      | refine aw_sregK 3 [7] ?_
      | refine aw_regK 3 [7] ?_
      | refine aw_sregK 4 [1, 2, 3, 7] ?_
      | refine aw_regK 4 [1, 2, 3, 7] ?_
      | refine aw_sregK 5 [1, 2, 3, 7, 8] ?_
      | refine aw_regK 5 [1, 2, 3, 7, 8] ?_
      | refine aw_sregK 6 [1, 2, 3, 7, 8] ?_
      | refine aw_regK 6 [1, 2, 3, 7, 8] ?_
      | refine aw_sregK 7 [1, 2, 3, 7, 8, 9] ?_
      | refine aw_regK 7 [1, 2, 3, 7, 8, 9] ?_
      | refine aw_sregK 8 [1, 2, 3, 7, 8, 9] ?_
      | refine aw_regK 8 [1, 2, 3, 7, 8, 9] ?_
      | refine aw_sregK 9 [1, 2, 3, 7, 8, 9, 10] ?_
      | refine aw_regK 9 [1, 2, 3, 7, 8, 9, 10] ?_
      | refine aw_sregK 10 [1, 2, 3, 7, 8, 9, 10] ?_
      | refine aw_regK 10 [1, 2, 3, 7, 8, 9, 10] ?_
      | refine aw_sregK 11 [1, 2, 3, 7, 8, 9, 10, 11] ?_
      | refine aw_regK 11 [1, 2, 3, 7, 8, 9, 10, 11] ?_
      | refine aw_sregK 12 [1, 2, 3, 7, 8, 9, 10, 11] ?_
      | refine aw_regK 12 [1, 2, 3, 7, 8, 9, 10, 11] ?_
      | refine aw_sregK 13 [1, 2, 7, 8, 9, 10, 11, 12] ?_
      | refine aw_regK 13 [1, 2, 7, 8, 9, 10, 11, 12] ?_
      | refine aw_sregK 14 [1, 2, 7, 8, 9, 10, 11, 12] ?_
      | refine aw_regK 14 [1, 2, 7, 8, 9, 10, 11, 12] ?_
      | refine aw_sreg ?_
      | refine aw_sregD mixed ?_
      | refine aw_ifT (b := true) rfl rfl ?_
      | refine aw_ifF (b := false) rfl rfl ?_
      | refine aw_ifT rfl (decide_eq_true (by assumption)) ?_
      | refine aw_ifF rfl (decide_eq_false (by assumption)) ?_
      | refine aw_seq ?_
      | refine aw_block ?_
      | refine aw_skip ?_
      | refine aw_region ?_
      | refine aw_region_draw mixed ?_
      | refine aw_exit ?_
      | refine rq_exit ?_
      | refine blockQ_hit ?_
      | refine blockQ_miss (by decide) ?_
      | (refine ar_guard rfl rfl rfl rfl (fun h => ?_) (fun h => ?_) <;> (fail_if_success (cases h; done)) <;> (try simp at h) <;> (try subst h))
      | (refine aw_both rfl (fun h => ?_) (fun h => ?_) <;> (fail_if_success (cases h; done)) <;> (try simp at h) <;> (try subst h)))
  · obtain ⟨q1, q2, q3, q4, q5⟩ := k1 hm
    clear k1
    repeat' (first
      | exact aw_ret (ret_vals (by simp; exact rfl) (by simp [*]; fail_if_success (show _)))
      | exact aw_ret (ret_vals (by simp; exact rfl) (by simp [*]; omega))
      | refine ar_end rfl ?_
      | refine ar_endD rfl (by kernel_rfl) ?_
      | refine ar_fin rfl ?_
      | refine ar_finD rfl (by kernel_rfl) ?_
      | refine ar_callV Try.call41 c_shown1 rfl rfl rfl rfl rfl (by simp; done) (by rfl) (by simp; done) ?_
      | refine ar_callV_if Try.call41 c_shown1 rfl rfl rfl rfl rfl rfl (by simp; done) rfl (by rfl) (by simp; done) ?_
      | refine ar_callV Try.call51 c_May rfl rfl rfl rfl rfl (by simp; done) (by rfl) (by simp; done) ?_
      | refine ar_callV_if Try.call51 c_May rfl rfl rfl rfl rfl rfl (by simp; done) rfl (by rfl) (by simp; done) ?_
      | refine ar_go3 _ rfl (by simp [*]; exact ⟨rfl, rfl, rfl⟩) rfl ?_
      | refine aw_sregK 0 [0, 1, 2] ?_
      | refine aw_regK 0 [0, 1, 2] ?_
      | refine aw_sregK 1 [1, 2, 3] ?_
      | refine aw_regK 1 [1, 2, 3] ?_
      | refine aw_sregK 2 [1, 2, 3, 7] ?_
      | refine aw_regK 2 [1, 2, 3, 7] ?_
      | refine aw_sregK 3 [7] ?_
      | refine aw_regK 3 [7] ?_
      | refine aw_sregK 4 [1, 2, 3, 7] ?_
      | refine aw_regK 4 [1, 2, 3, 7] ?_
      | refine aw_sregK 5 [1, 2, 3, 7, 8] ?_
      | refine aw_regK 5 [1, 2, 3, 7, 8] ?_
      | refine aw_sregK 6 [1, 2, 3, 7, 8] ?_
      | refine aw_regK 6 [1, 2, 3, 7, 8] ?_
      | refine aw_sregK 7 [1, 2, 3, 7, 8, 9] ?_
      | refine aw_regK 7 [1, 2, 3, 7, 8, 9] ?_
      | refine aw_sregK 8 [1, 2, 3, 7, 8, 9] ?_
      | refine aw_regK 8 [1, 2, 3, 7, 8, 9] ?_
      | refine aw_sregK 9 [1, 2, 3, 7, 8, 9, 10] ?_
      | refine aw_regK 9 [1, 2, 3, 7, 8, 9, 10] ?_
      | refine aw_sregK 10 [1, 2, 3, 7, 8, 9, 10] ?_
      | refine aw_regK 10 [1, 2, 3, 7, 8, 9, 10] ?_
      | refine aw_sregK 11 [1, 2, 3, 7, 8, 9, 10, 11] ?_
      | refine aw_regK 11 [1, 2, 3, 7, 8, 9, 10, 11] ?_
      | refine aw_sregK 12 [1, 2, 3, 7, 8, 9, 10, 11] ?_
      | refine aw_regK 12 [1, 2, 3, 7, 8, 9, 10, 11] ?_
      | refine aw_sregK 13 [1, 2, 7, 8, 9, 10, 11, 12] ?_
      | refine aw_regK 13 [1, 2, 7, 8, 9, 10, 11, 12] ?_
      | refine aw_sregK 14 [1, 2, 7, 8, 9, 10, 11, 12] ?_
      | refine aw_regK 14 [1, 2, 7, 8, 9, 10, 11, 12] ?_
      | refine aw_sreg ?_
      | refine aw_sregD mixed ?_
      | refine aw_ifT (b := true) rfl rfl ?_
      | refine aw_ifF (b := false) rfl rfl ?_
      | refine aw_ifT rfl (decide_eq_true (by assumption)) ?_
      | refine aw_ifF rfl (decide_eq_false (by assumption)) ?_
      | refine aw_seq ?_
      | refine aw_block ?_
      | refine aw_skip ?_
      | refine aw_region ?_
      | refine aw_region_draw mixed ?_
      | refine aw_exit ?_
      | refine rq_exit ?_
      | refine blockQ_hit ?_
      | refine blockQ_miss (by decide) ?_
      | (refine ar_guard rfl rfl rfl rfl (fun h => ?_) (fun h => ?_) <;> (fail_if_success (cases h; done)) <;> (try simp at h) <;> (try subst h))
      | (refine aw_both rfl (fun h => ?_) (fun h => ?_) <;> (fail_if_success (cases h; done)) <;> (try simp at h) <;> (try subst h)))
theorem okF_false {h : Bool} {n lo hi : Int} (h0 : ¬n = 0) (h1 : ¬(lo ≤ n ∧ n ≤ hi)) : okF h n lo hi = false := by
  cases h
  · simp [okF, h0]
  · unfold okF betw; simp; omega
set_option maxHeartbeats 16000000 in
theorem law_InsTurned {op d a b l m behind locs : Int} (h : (Lit.int .i64 locs).wf = true) : SC Try.prog 10 [.agg [C .i64 op, C .i64 d, C .i64 a, C .i64 b, C .i64 l, C .i64 m], I .i64 behind, I .i64 locs] (B true) := by
  have hw : -9223372036854775808 ≤ locs ∧ locs ≤ 9223372036854775807 := by simpa [Lit.wf, IntKind.min, IntKind.max, IntKind.signed, IntKind.bits] using h
  refine law_InsTurned_w rfl fun hm => ⟨?_, ?_, ?_, fun h0 => ?_, ?_⟩
  · unfold mayF; rw [okF_false (n := 4) (by omega) (by omega)]; rfl
  · unfold mayF; rw [okF_false (n := -1) (lo := 0) (by omega) (by omega)]; simp
  · unfold mayF; rw [okF_false (n := 4) (lo := if hasL op = true then -1 else 0) (by omega) (by omega)]; simp
  · unfold mayF
    have hmm : IntKind.wrap .i64 (mm true locs 0 - 1) = mm true locs 0 - 1 := wrap64s (by unfold mm; simp only [if_true]; split <;> omega) (by unfold mm; simp only [if_true]; split <;> omega)
    rw [hmm, okF_false (n := IntKind.wrap .i64 (locs + 1)) (lo := 0) (hi := mm true locs 0 - 1)]
    · simp
    · rw [IntKind.wrap_i64]; omega
    · unfold mm; simp only [if_true]; rw [IntKind.wrap_i64]; split <;> omega
  · have e1 : hasI 15 = false := by decide
    have e2 : named 15 = false := by decide
    unfold mayF; rw [e1, e2]; simp
end Go.Eng
