import Derived.Test.YtpohlijehadklaaGreatKitMay
set_option linter.unusedSimpArgs false
set_option linter.unusedVariables false
set_option linter.constructorNameAsVariable false
set_option autoImplicit false
namespace Go.Eng
open Go Go.RowKit Go.Proofs
def mayR (op d a b l m behind locs : Int) : Bool :=
  named op && ((bif hasL op then (decide (0 ≤ l) && decide (l < locs)) else decide (l = 0)) && (okF (hasD op) d 0 3 && (okF (hasA op) a (if hasL op = true then -1 else 0) 3 && (okF (hasB op) b 0 3 &&
    (if op = 1 then betw m (-1000) 1000 else if op = 11 then betw m 0 2 else if op = 13 ∨ op = 14 then betw m 0 behind else decide (m = 0))))))
set_option maxHeartbeats 16000000 in
theorem c_refMay_t {op d a b l m behind locs : Int} (hL : hasL op = true) : SC Tryz.prog 58 [.agg [C .i64 op, C .i64 d, C .i64 a, C .i64 b, C .i64 l, C .i64 m], I .i64 behind, I .i64 locs] (B (mayR op d a b l m behind locs)) := by
  refine scx_of Tryz.func58 rfl rfl rfl (Nat.le_of_ble_eq_true rfl) ?_
  repeat' (first
 | exact aw_ret (ret_vals (by simp; exact rfl) (by simp [mayR, betw, *]; fail_if_success (show _)))
 | exact aw_ret (ret_vals (by simp; exact rfl) (by simp [mayR, betw, *]; omega))
 | refine ar_end rfl ?_
 | refine ar_endD rfl (by kernel_rfl) ?_
 | refine ar_callV Tryz.call78 c_refName rfl rfl rfl rfl rfl (by simp; done) (by rfl) (by simp; done) ?_
 | refine ar_callV Tryz.call39 c_refKind rfl rfl rfl rfl rfl (by simp; done) (by rfl) (by simp; done) ?_
 | refine ar_callV_if Tryz.call80 c_HasD rfl rfl rfl rfl rfl rfl (by simp; done) rfl (by rfl) (by simp; done) ?_
 | refine ar_callV_if Tryz.call81 c_HasA rfl rfl rfl rfl rfl rfl (by simp; done) rfl (by rfl) (by simp; done) ?_
 | refine ar_callV_if Tryz.call82 c_HasB rfl rfl rfl rfl rfl rfl (by simp; done) rfl (by rfl) (by simp; done) ?_
 | refine ar_callV_if Tryz.call79 c_reg rfl rfl rfl rfl rfl rfl (by simp; done) rfl (by rfl) (by simp; done) ?_
 | refine ar_go3 _ rfl (by simp [kindP, nameE2, *]; exact ⟨rfl, rfl, rfl⟩) rfl ?_
 | refine aw_sregK 0 [0, 1, 2] ?_
 | refine aw_sregK 1 [1, 2, 3] ?_
 | refine aw_sregK 2 [1, 2, 3, 7] ?_
 | refine aw_sregK 3 [1, 2, 3, 7, 8] ?_
 | refine aw_sregK 4 [1, 2, 3] ?_
 | refine aw_regK 5 [1, 2, 3, 7] ?_
 | refine aw_sregKD mixed 6 [1, 3, 7, 8] (by simp; exact rfl) ?_
 | refine aw_sregK 7 [] ?_
 | refine aw_sregK 8 [1, 3] ?_
 | refine aw_sregK 9 [1, 3, 58] ?_
 | refine aw_sregK 10 [3] ?_
 | refine aw_sregK 11 [1, 3, 58] ?_
 | refine aw_sregK 12 [3] ?_
 | refine aw_sregK 13 [1, 3, 58] ?_
 | refine aw_regK 14 [1, 3, 58] ?_
 | refine aw_sregK 15 [1, 3] ?_
 | refine aw_sregK 16 [3] ?_
 | refine aw_ifT (b := true) rfl rfl ?_
 | refine aw_seq ?_
 | refine aw_block ?_
 | refine aw_skip ?_
 | (refine ar_guard rfl rfl rfl rfl (fun h => ?_) (fun h => ?_) <;> (fail_if_success (cases h; done)) <;> (try simp at h) <;> (try subst h))
 | (refine aw_both rfl (fun h => ?_) (fun h => ?_) <;> (fail_if_success (cases h; done)) <;> (try simp at h) <;> (try subst h)))
set_option maxHeartbeats 16000000 in
theorem c_refMay_f {op d a b l m behind locs : Int} (hL : hasL op = false) : SC Tryz.prog 58 [.agg [C .i64 op, C .i64 d, C .i64 a, C .i64 b, C .i64 l, C .i64 m], I .i64 behind, I .i64 locs] (B (mayR op d a b l m behind locs)) := by
  refine scx_of Tryz.func58 rfl rfl rfl (Nat.le_of_ble_eq_true rfl) ?_
  repeat' (first
 | exact aw_ret (ret_vals (by simp; exact rfl) (by simp [mayR, betw, *]; fail_if_success (show _)))
 | exact aw_ret (ret_vals (by simp; exact rfl) (by simp [mayR, betw, *]; omega))
 | refine ar_end rfl ?_
 | refine ar_endD rfl (by kernel_rfl) ?_
 | refine ar_callV Tryz.call78 c_refName rfl rfl rfl rfl rfl (by simp; done) (by rfl) (by simp; done) ?_
 | refine ar_callV Tryz.call39 c_refKind rfl rfl rfl rfl rfl (by simp; done) (by rfl) (by simp; done) ?_
 | refine ar_callV_if Tryz.call80 c_HasD rfl rfl rfl rfl rfl rfl (by simp; done) rfl (by rfl) (by simp; done) ?_
 | refine ar_callV_if Tryz.call81 c_HasA rfl rfl rfl rfl rfl rfl (by simp; done) rfl (by rfl) (by simp; done) ?_
 | refine ar_callV_if Tryz.call82 c_HasB rfl rfl rfl rfl rfl rfl (by simp; done) rfl (by rfl) (by simp; done) ?_
 | refine ar_callV_if Tryz.call79 c_reg rfl rfl rfl rfl rfl rfl (by simp; done) rfl (by rfl) (by simp; done) ?_
 | refine ar_go3 _ rfl (by simp [kindP, nameE2, *]; exact ⟨rfl, rfl, rfl⟩) rfl ?_
 | refine aw_sregK 0 [0, 1, 2] ?_
 | refine aw_sregK 1 [1, 2, 3] ?_
 | refine aw_sregK 2 [1, 2, 3, 7] ?_
 | refine aw_sregK 3 [1, 2, 3, 7, 8] ?_
 | refine aw_sregKD mixed 6 [1, 3, 7, 8] (by simp; exact rfl) ?_
 | refine aw_sregK 7 [] ?_
 | refine aw_sregK 8 [1, 3] ?_
 | refine aw_sregK 9 [1, 3, 58] ?_
 | refine aw_sregK 10 [3] ?_
 | refine aw_sregK 11 [1, 3, 58] ?_
 | refine aw_sregK 12 [3] ?_
 | refine aw_sregK 13 [1, 3, 58] ?_
 | refine aw_regK 14 [1, 3, 58] ?_
 | refine aw_sregK 15 [1, 3] ?_
 | refine aw_sregK 16 [3] ?_
 | refine aw_ifT (b := true) rfl rfl ?_
 | refine aw_ifF (b := false) rfl rfl ?_
 | refine aw_seq ?_
 | refine aw_block ?_
 | refine aw_skip ?_
 | (refine ar_guard rfl rfl rfl rfl (fun h => ?_) (fun h => ?_) <;> (fail_if_success (cases h; done)) <;> (try simp at h) <;> (try subst h))
 | (refine aw_both rfl (fun h => ?_) (fun h => ?_) <;> (fail_if_success (cases h; done)) <;> (try simp at h) <;> (try subst h)))
theorem may_eq {op d a b l m behind locs : Int} (h : (Lit.int .i64 locs).wf = true) : mayR op d a b l m behind locs = mayF op d a b l m behind locs := by
  have hw : -9223372036854775808 ≤ locs ∧ locs ≤ 9223372036854775807 := by simpa [Lit.wf, IntKind.min, IntKind.max, IntKind.signed, IntKind.bits] using h
  have hm : IntKind.wrap .i64 (mm true locs 0 - 1) = mm true locs 0 - 1 := wrap64s (by unfold mm; simp only [if_true]; split <;> omega) (by unfold mm; simp only [if_true]; split <;> omega)
  unfold mayR mayF
  rw [hm]
  rcases ops op with rfl | rfl | rfl | rfl | rfl | rfl | rfl | rfl | rfl | rfl | rfl | rfl | rfl | rfl | rfl | h
  rotate_right
  · obtain ⟨h1, h2, h3, h4, h5, h6, h7, h8, h9, h10, h11, h12, h13, h14⟩ := noOp h
    have e0 : named op = false := by unfold named; exact decide_eq_false (by omega)
    have e5 : hasI op = false := by unfold hasI; exact decide_eq_false (by omega)
    simp [e0, e5]
  all_goals simp [named, hasD, hasA, hasB, hasL, hasI, okF, betw, immF, mm]
  all_goals (try (rw [Bool.eq_iff_iff]; simp; (try split) <;> omega))
set_option maxHeartbeats 16000000 in
theorem c_refMay {op d a b l m behind locs : Int} (h : (Lit.int .i64 locs).wf = true) : SC Tryz.prog 58 [.agg [C .i64 op, C .i64 d, C .i64 a, C .i64 b, C .i64 l, C .i64 m], I .i64 behind, I .i64 locs] (B (mayF op d a b l m behind locs)) := by
  rw [← may_eq h]
  cases hL : hasL op
  · exact c_refMay_f hL
  · exact c_refMay_t hL
end Go.Eng
set_option linter.unusedSimpArgs false
set_option linter.unusedVariables false
set_option linter.constructorNameAsVariable false
set_option autoImplicit false
namespace Go.Eng
open Go Go.RowKit Go.Proofs
/-- Are two lists of numbers the same? -/
def ints (l : List Int) : List (List PV) := l.map fun n => [C .i64 n]
theorem ints_len {l : List Int} : (ints l).length = l.length := by simp [ints]
theorem ints_getE {l : List Int} {i : Nat} (h : i < (ints l).length) : (ints l)[i] = [C .i64 (l[i]'(by simpa [ints] using h))] := by simp [ints]
theorem wrap_succ {i n : Nat} (h : i < n) (hn : n ≤ maxLen) : IntKind.wrap .i64 ((i : Int) + 1) = (i : Int) + 1 := by
  have : maxLen = 9223372036854775807 := rfl
  exact wrap64s (by omega) (by omega)
end Go.Eng
