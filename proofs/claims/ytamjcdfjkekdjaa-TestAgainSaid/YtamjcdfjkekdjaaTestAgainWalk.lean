import Derived.Test.YtamjcdfjkekdjaaTestF
import Derived.Test.YtamjcdfjkekdjaaTestG
set_option linter.unusedSimpArgs false
set_option linter.unusedVariables false
set_option linter.constructorNameAsVariable false
set_option autoImplicit false
namespace Go.Eng
open Go Go.RowKit Go.Proofs
theorem anyE_succ {t : List (List In)} {n : Nat} (h : n < t.length) : anyE (t.take (n + 1)) = (anyE (t.take n) || decide (((t[n]).length : Int) = 0)) := by
  unfold anyE
  rw [List.take_add_one, List.getElem?_eq_getElem h, List.any_append]
  congr 1
  simp only [Option.toList, List.any_cons, List.any_nil, Bool.or_false]
  cases t[n] <;> simp <;> omega
set_option maxHeartbeats 16000000 in
theorem law_TestAgain {i : List Int} {t : List (List In)} (hw : WfT t) : SC Try.prog 18 [.agg (testL i t)] (B true) := by
  cases hfb : fewB i t
  · refine scx_of Try.func18 rfl rfl rfl (Nat.le_of_ble_eq_true rfl) ?_
    repeat' (first
      | exact aw_ret (ret_vals (by simp; exact rfl) (by simp [*]; fail_if_success (show _)))
      | exact aw_ret (ret_vals (by simp; exact rfl) (by simp [*]; omega))
      | refine ar_end rfl ?_
      | refine ar_endD rfl (by kernel_rfl) ?_
      | refine ar_fin rfl ?_
      | refine ar_finD rfl (by kernel_rfl) ?_
      | refine ar_callV Try.call53 c_shown2 rfl rfl rfl rfl rfl (by simp; done) (by rfl) (by simp; done) ?_
      | refine ar_callV_if Try.call53 c_shown2 rfl rfl rfl rfl rfl rfl (by simp; done) rfl (by rfl) (by simp; done) ?_
      | refine ar_callV Try.call54 c_Few rfl rfl rfl rfl rfl (by simp; done) (by rfl) (by simp; done) ?_
      | refine ar_callV_if Try.call54 c_Few rfl rfl rfl rfl rfl rfl (by simp; done) rfl (by rfl) (by simp; done) ?_
      | refine ar_go3 _ rfl (by simp [hfb]; exact ⟨rfl, rfl, rfl⟩) rfl ?_
      | refine aw_sregK 0 [0] ?_
      | refine aw_regK 0 [0] ?_
      | refine aw_sregK 1 [1] ?_
      | refine aw_regK 1 [1] ?_
      | refine aw_sregK 2 [1, 3] ?_
      | refine aw_regK 2 [1, 3] ?_
      | refine aw_sregK 3 [3] ?_
      | refine aw_regK 3 [3] ?_
      | refine aw_sregK 4 [1, 3] ?_
      | refine aw_regK 4 [1, 3] ?_
      | refine aw_sregK 5 [1, 3, 6] ?_
      | refine aw_regK 5 [1, 3, 6] ?_
      | refine aw_sregK 6 [3] ?_
      | refine aw_regK 6 [3] ?_
      | refine aw_sregK 7 [1, 3] ?_
      | refine aw_regK 7 [1, 3] ?_
      | refine aw_sregK 8 [1, 3, 7] ?_
      | refine aw_regK 8 [1, 3, 7] ?_
      | refine aw_sregK 9 [1, 3, 7, 10] ?_
      | refine aw_regK 9 [1, 3, 7, 10] ?_
      | refine aw_sregK 10 [1, 3, 7, 10, 11] ?_
      | refine aw_regK 10 [1, 3, 7, 10, 11] ?_
      | refine aw_sregK 11 [1, 3, 7, 10, 11, 12] ?_
      | refine aw_regK 11 [1, 3, 7, 10, 11, 12] ?_
      | refine aw_sregK 12 [1, 3, 7, 10, 11, 12] ?_
      | refine aw_regK 12 [1, 3, 7, 10, 11, 12] ?_
      | refine aw_sregK 13 [1, 3, 7, 10, 11, 12] ?_
      | refine aw_regK 13 [1, 3, 7, 10, 11, 12] ?_
      | refine aw_sregK 14 [1, 3, 7, 10, 11] ?_
      | refine aw_regK 14 [1, 3, 7, 10, 11] ?_
      | refine aw_sregK 15 [3, 7, 10, 11, 13] ?_
      | refine aw_regK 15 [3, 7, 10, 11, 13] ?_
      | refine aw_sregKD mixed 16 [3, 7, 10, 11, 13, 16] (by simp; exact rfl) ?_
      | refine aw_regKD mixed 16 [3, 7, 10, 11, 13, 16] (by simp; exact rfl) ?_
      | refine aw_sreg ?_
      | refine aw_sregD mixed ?_
      | refine aw_ifT (b := true) rfl rfl ?_
      | refine aw_ifF (b := false) rfl rfl ?_
      | refine aw_ifT rfl (by assumption) ?_
      | refine aw_ifF rfl (by assumption) ?_
      | refine aw_ifT rfl (decide_eq_true (by assumption)) ?_
      | refine aw_ifF rfl (decide_eq_false (by assumption)) ?_
      | refine aw_seq ?_
      | refine aw_block ?_
      | refine aw_skip ?_
      | refine aw_region ?_
      | refine aw_region_draw mixed ?_
      | refine aw_exit ?_
      | refine rq_exit ?_
      | refine blockQ_hit ?_
      | refine blockQ_miss (by decide) ?_
      | (refine ar_guard rfl rfl rfl rfl (fun h => ?_) (fun h => ?_) <;> (fail_if_success (cases h; done)) <;> (try simp at h) <;> (try subst h))
      | (refine aw_both rfl (fun h => ?_) (fun h => ?_) <;> (fail_if_success (cases h; done)) <;> (try simp at h) <;> (try subst h)))
  have hf := fewB_iff.1 hfb
  have hl : i.length ≤ maxLen := Nat.le_trans hf.1 (by simp [maxLen])
  have hC := c_Check (i := i) (t := t) hl
  cases h : okTest i t
  · have hz : ¬(checkF i t).2.2 = 0 := by simpa [okTest] using h
    refine scx_of Try.func18 rfl rfl rfl (Nat.le_of_ble_eq_true rfl) ?_
    repeat' (first
      | exact aw_ret (ret_vals (by simp; exact rfl) (by simp [*]; fail_if_success (show _)))
      | exact aw_ret (ret_vals (by simp; exact rfl) (by simp [*]; omega))
      | refine ar_end rfl ?_
      | refine ar_endD rfl (by kernel_rfl) ?_
      | refine ar_fin rfl ?_
      | refine ar_finD rfl (by kernel_rfl) ?_
      | refine ar_callV Try.call53 c_shown2 rfl rfl rfl rfl rfl (by simp; done) (by rfl) (by simp; done) ?_
      | refine ar_callV_if Try.call53 c_shown2 rfl rfl rfl rfl rfl rfl (by simp; done) rfl (by rfl) (by simp; done) ?_
      | refine ar_callV Try.call54 c_Few rfl rfl rfl rfl rfl (by simp; done) (by rfl) (by simp; done) ?_
      | refine ar_callV_if Try.call54 c_Few rfl rfl rfl rfl rfl rfl (by simp; done) rfl (by rfl) (by simp; done) ?_
      | refine ar_callV Try.call55 hC rfl rfl rfl rfl rfl (by simp; done) (by rfl) (by simp; done) ?_
      | refine ar_callV_if Try.call55 hC rfl rfl rfl rfl rfl rfl (by simp; done) rfl (by rfl) (by simp; done) ?_
      | refine ar_go3 _ rfl (by simp [hfb, hz]; exact ⟨rfl, rfl, rfl⟩) rfl ?_
      | refine aw_sregK 0 [0] ?_
      | refine aw_regK 0 [0] ?_
      | refine aw_sregK 1 [1] ?_
      | refine aw_regK 1 [1] ?_
      | refine aw_sregK 2 [1, 3] ?_
      | refine aw_regK 2 [1, 3] ?_
      | refine aw_sregK 3 [3] ?_
      | refine aw_regK 3 [3] ?_
      | refine aw_sregK 4 [1, 3] ?_
      | refine aw_regK 4 [1, 3] ?_
      | refine aw_sregK 5 [1, 3, 6] ?_
      | refine aw_regK 5 [1, 3, 6] ?_
      | refine aw_sregK 6 [3] ?_
      | refine aw_regK 6 [3] ?_
      | refine aw_sregK 7 [1, 3] ?_
      | refine aw_regK 7 [1, 3] ?_
      | refine aw_sregK 8 [1, 3, 7] ?_
      | refine aw_regK 8 [1, 3, 7] ?_
      | refine aw_sregK 9 [1, 3, 7, 10] ?_
      | refine aw_regK 9 [1, 3, 7, 10] ?_
      | refine aw_sregK 10 [1, 3, 7, 10, 11] ?_
      | refine aw_regK 10 [1, 3, 7, 10, 11] ?_
      | refine aw_sregK 11 [1, 3, 7, 10, 11, 12] ?_
      | refine aw_regK 11 [1, 3, 7, 10, 11, 12] ?_
      | refine aw_sregK 12 [1, 3, 7, 10, 11, 12] ?_
      | refine aw_regK 12 [1, 3, 7, 10, 11, 12] ?_
      | refine aw_sregK 13 [1, 3, 7, 10, 11, 12] ?_
      | refine aw_regK 13 [1, 3, 7, 10, 11, 12] ?_
      | refine aw_sregK 14 [1, 3, 7, 10, 11] ?_
      | refine aw_regK 14 [1, 3, 7, 10, 11] ?_
      | refine aw_sregK 15 [3, 7, 10, 11, 13] ?_
      | refine aw_regK 15 [3, 7, 10, 11, 13] ?_
      | refine aw_sregKD mixed 16 [3, 7, 10, 11, 13, 16] (by simp; exact rfl) ?_
      | refine aw_regKD mixed 16 [3, 7, 10, 11, 13, 16] (by simp; exact rfl) ?_
      | refine aw_sreg ?_
      | refine aw_sregD mixed ?_
      | refine aw_ifT (b := true) rfl rfl ?_
      | refine aw_ifF (b := false) rfl rfl ?_
      | refine aw_ifT rfl (by assumption) ?_
      | refine aw_ifF rfl (by assumption) ?_
      | refine aw_ifT rfl (decide_eq_true (by assumption)) ?_
      | refine aw_ifF rfl (decide_eq_false (by assumption)) ?_
      | refine aw_seq ?_
      | refine aw_block ?_
      | refine aw_skip ?_
      | refine aw_region ?_
      | refine aw_region_draw mixed ?_
      | refine aw_exit ?_
      | refine rq_exit ?_
      | refine blockQ_hit ?_
      | refine blockQ_miss (by decide) ?_
      | (refine ar_guard rfl rfl rfl rfl (fun h => ?_) (fun h => ?_) <;> (fail_if_success (cases h; done)) <;> (try simp at h) <;> (try subst h))
      | (refine aw_both rfl (fun h => ?_) (fun h => ?_) <;> (fail_if_success (cases h; done)) <;> (try simp at h) <;> (try subst h)))
  have hz : (checkF i t).2.2 = 0 := by simpa [okTest] using h
  have hB := c_Bare (i := i) (t := t) hl
  have hF := c_Fenced (i := i) (t := t) hl
  rw [h, if_pos rfl] at hB hF
  have hokb := ok_bare h
  have hS1 := c_Same hl (wfT_bare h hw)
  have hS2 := c_Same hl (wfT_fenced h hw)
  have hB2 := c_Bare (i := i) (t := bareT t) hl
  have hF2 := c_Fenced (i := i) (t := fencedT t) hl
  rw [fencedT_twice, ite_self] at hF2
  rw [bareT_twice, ite_self] at hB2
  have hC2 := c_Check (i := i) (t := bareT t) hl
  have hC3 := c_Check (i := i) (t := fencedT t) hl
  have hbl : (bareT t).length ≤ 10 := by have := hf.2.1; simpa [bareT] using this
  generalize fencedT t = g at *
  generalize bareT t = b at *
  refine scx_of Try.func18 rfl rfl rfl (Nat.le_of_ble_eq_true rfl) ?_
  repeat' (first
    | exact aw_ret (ret_vals (by simp; exact rfl) (by simp [*]; fail_if_success (show _)))
    | exact aw_ret (ret_vals (by simp; exact rfl) (by simp [*]; omega))
    | refine ar_end rfl ?_
    | refine ar_endD rfl (by kernel_rfl) ?_
    | refine ar_fin rfl ?_
    | refine ar_finD rfl (by kernel_rfl) ?_
    | refine ar_callV Try.call53 c_shown2 rfl rfl rfl rfl rfl (by simp; done) (by rfl) (by simp; done) ?_
    | refine ar_callV_if Try.call53 c_shown2 rfl rfl rfl rfl rfl rfl (by simp; done) rfl (by rfl) (by simp; done) ?_
    | refine ar_callV Try.call54 c_Few rfl rfl rfl rfl rfl (by simp; done) (by rfl) (by simp; done) ?_
    | refine ar_callV_if Try.call54 c_Few rfl rfl rfl rfl rfl rfl (by simp; done) rfl (by rfl) (by simp; done) ?_
    | refine ar_callV Try.call55 hC rfl rfl rfl rfl rfl (by simp; done) (by rfl) (by simp; done) ?_
    | refine ar_callV_if Try.call55 hC rfl rfl rfl rfl rfl rfl (by simp; done) rfl (by rfl) (by simp; done) ?_
    | refine ar_callV Try.call59 hB rfl rfl rfl rfl rfl (by simp; done) (by rfl) (by simp; done) ?_
    | refine ar_callV_if Try.call59 hB rfl rfl rfl rfl rfl rfl (by simp; done) rfl (by rfl) (by simp; done) ?_
    | refine ar_callV Try.call55 hC2 rfl rfl rfl rfl rfl (by simp; done) (by rfl) (by simp; done) ?_
    | refine ar_callV_if Try.call55 hC2 rfl rfl rfl rfl rfl rfl (by simp; done) rfl (by rfl) (by simp; done) ?_
    | refine ar_go3 _ rfl (by simp [hfb, hz, insL_len, thsL_len, insL_getE, thsL_getE, inL, ints_len]; exact ⟨rfl, rfl, rfl⟩) rfl ?_
    | refine aw_sregK 0 [0] ?_
    | refine aw_regK 0 [0] ?_
    | refine aw_sregK 1 [1] ?_
    | refine aw_regK 1 [1] ?_
    | refine aw_sregK 2 [1, 3] ?_
    | refine aw_regK 2 [1, 3] ?_
    | refine aw_sregK 3 [3] ?_
    | refine aw_regK 3 [3] ?_
    | refine aw_sregK 4 [1, 3] ?_
    | refine aw_regK 4 [1, 3] ?_
    | refine aw_sregK 5 [1, 3, 6] ?_
    | refine aw_regK 5 [1, 3, 6] ?_
    | refine aw_sregK 6 [3] ?_
    | refine aw_regK 6 [3] ?_
    | refine aw_sregK 7 [1, 3] ?_
    | refine aw_regK 7 [1, 3] ?_
    | refine aw_sregK 8 [1, 3, 7] ?_
    | refine aw_regK 8 [1, 3, 7] ?_
    | refine aw_sregK 9 [1, 3, 7, 10] ?_
    | refine aw_regK 9 [1, 3, 7, 10] ?_
    | refine aw_sregK 10 [1, 3, 7, 10, 11] ?_
    | refine aw_regK 10 [1, 3, 7, 10, 11] ?_
    | refine aw_sregK 11 [1, 3, 7, 10, 11, 12] ?_
    | refine aw_regK 11 [1, 3, 7, 10, 11, 12] ?_
    | refine aw_sregK 12 [1, 3, 7, 10, 11, 12] ?_
    | refine aw_regK 12 [1, 3, 7, 10, 11, 12] ?_
    | refine aw_sregK 13 [1, 3, 7, 10, 11, 12] ?_
    | refine aw_regK 13 [1, 3, 7, 10, 11, 12] ?_
    | refine aw_sregK 14 [1, 3, 7, 10, 11] ?_
    | refine aw_regK 14 [1, 3, 7, 10, 11] ?_
    | refine aw_sregK 15 [3, 7, 10, 11, 13] ?_
    | refine aw_regK 15 [3, 7, 10, 11, 13] ?_
    | refine aw_sregKD mixed 16 [3, 7, 10, 11, 13, 16] (by simp; exact rfl) ?_
    | refine aw_regKD mixed 16 [3, 7, 10, 11, 13, 16] (by simp; exact rfl) ?_
    | refine aw_sreg ?_
    | refine aw_sregD mixed ?_
    | refine aw_ifT (b := true) rfl rfl ?_
    | refine aw_ifF (b := false) rfl rfl ?_
    | refine aw_ifT rfl (by assumption) ?_
    | refine aw_ifF rfl (by assumption) ?_
    | refine aw_ifT rfl (decide_eq_true (by assumption)) ?_
    | refine aw_ifF rfl (decide_eq_false (by assumption)) ?_
    | refine aw_seq ?_
    | refine aw_block ?_
    | refine aw_skip ?_
    | refine aw_region ?_
    | refine aw_region_draw mixed ?_
    | refine aw_exit ?_
    | refine rq_exit ?_
    | refine blockQ_hit ?_
    | refine blockQ_miss (by decide) ?_
    | (refine ar_guard rfl rfl rfl rfl (fun h => ?_) (fun h => ?_) <;> (fail_if_success (cases h; done)) <;> (try simp at h) <;> (try subst h))
    | (refine aw_both rfl (fun h => ?_) (fun h => ?_) <;> (fail_if_success (cases h; done)) <;> (try simp at h) <;> (try subst h)))
  refine aw_loopN [1, 3, 7, 10, 11, 12] [.loc 1, .loc 7] (by simp; exact rfl) (ι := {n : Nat // n ≤ b.length}) (fun n => ⟨91, [(1, .ptr (.loc 1) 0), (3, B true), (7, .ptr (.loc 7) 0), (10, I .i64 (checkF i b).2.2), (11, B (anyE (b.take n.1))), (12, I .i64 n.1)], [(.loc 1, some (.box 55 [.pv (.sl 1 (ints i)), .pv (.sl 1 (thsL t))])), (.loc 7, some (.box 55 [.pv (.sl 1 (ints i)), .pv (.sl 1 (thsL b))]))]⟩) (fun n => b.length - n.1) ⟨0, by omega⟩ (by simp [anyE]) ?_
  rintro ⟨n, hn⟩
  by_cases hlt : n < b.length
  · have hc : (n : Int) < (b.length : Int) := by omega
    have hw3 : IntKind.wrap .i64 ((n : Int) + 1) = (n : Int) + 1 := wrap64s (by omega) (by omega)
    have hs := anyE_succ hlt
    generalize hth : b[n] = th at hs
    cases he : anyE (b.take n)
    · rw [he, Bool.false_or] at hs
      repeat' (first
        | refine ar_end rfl ?_
        | refine ar_endD rfl (by kernel_rfl) ?_
        | refine ar_fin rfl ?_
        | refine ar_finD rfl (by kernel_rfl) ?_
        | refine lq_normN [1, 3, 7, 10, 11, 12] [.loc 1, .loc 7] (by simp; exact rfl) ⟨n + 1, by omega⟩ (by dsimp only; omega) (by simp [hs])
        | refine ar_go3 _ rfl (by simp [insL_len, thsL_len, insL_getE, thsL_getE, inL, ints_len, hlt, hc, hth, hw3, he]; exact ⟨rfl, rfl, rfl⟩) rfl ?_
        | refine aw_sregK 0 [0] ?_
        | refine aw_regK 0 [0] ?_
        | refine aw_sregK 1 [1] ?_
        | refine aw_regK 1 [1] ?_
        | refine aw_sregK 2 [1, 3] ?_
        | refine aw_regK 2 [1, 3] ?_
        | refine aw_sregK 3 [3] ?_
        | refine aw_regK 3 [3] ?_
        | refine aw_sregK 4 [1, 3] ?_
        | refine aw_regK 4 [1, 3] ?_
        | refine aw_sregK 5 [1, 3, 6] ?_
        | refine aw_regK 5 [1, 3, 6] ?_
        | refine aw_sregK 6 [3] ?_
        | refine aw_regK 6 [3] ?_
        | refine aw_sregK 7 [1, 3] ?_
        | refine aw_regK 7 [1, 3] ?_
        | refine aw_sregK 8 [1, 3, 7] ?_
        | refine aw_regK 8 [1, 3, 7] ?_
        | refine aw_sregK 9 [1, 3, 7, 10] ?_
        | refine aw_regK 9 [1, 3, 7, 10] ?_
        | refine aw_sregK 10 [1, 3, 7, 10, 11] ?_
        | refine aw_regK 10 [1, 3, 7, 10, 11] ?_
        | refine aw_sregK 11 [1, 3, 7, 10, 11, 12] ?_
        | refine aw_regK 11 [1, 3, 7, 10, 11, 12] ?_
        | refine aw_sregK 12 [1, 3, 7, 10, 11, 12] ?_
        | refine aw_regK 12 [1, 3, 7, 10, 11, 12] ?_
        | refine aw_sregK 13 [1, 3, 7, 10, 11, 12] ?_
        | refine aw_regK 13 [1, 3, 7, 10, 11, 12] ?_
        | refine aw_sregK 14 [1, 3, 7, 10, 11] ?_
        | refine aw_regK 14 [1, 3, 7, 10, 11] ?_
        | refine aw_sregK 15 [3, 7, 10, 11, 13] ?_
        | refine aw_regK 15 [3, 7, 10, 11, 13] ?_
        | refine aw_sregKD mixed 16 [3, 7, 10, 11, 13, 16] (by simp; exact rfl) ?_
        | refine aw_regKD mixed 16 [3, 7, 10, 11, 13, 16] (by simp; exact rfl) ?_
        | refine aw_sreg ?_
        | refine aw_sregD mixed ?_
        | refine aw_ifT (b := true) rfl rfl ?_
        | refine aw_ifF (b := false) rfl rfl ?_
        | refine aw_ifT rfl (by assumption) ?_
        | refine aw_ifF rfl (by assumption) ?_
        | refine aw_ifT rfl (decide_eq_true (by assumption)) ?_
        | refine aw_ifF rfl (decide_eq_false (by assumption)) ?_
        | refine aw_seq ?_
        | refine aw_block ?_
        | refine aw_skip ?_
        | refine aw_region ?_
        | refine aw_region_draw mixed ?_
        | refine aw_exit ?_
        | refine rq_exit ?_
        | refine blockQ_hit ?_
        | refine blockQ_miss (by decide) ?_
        | (refine ar_guard rfl rfl rfl rfl (fun h => ?_) (fun h => ?_) <;> (fail_if_success (cases h; done)) <;> (try simp at h) <;> (try subst h))
        | (refine aw_both rfl (fun h => ?_) (fun h => ?_) <;> (fail_if_success (cases h; done)) <;> (try simp at h) <;> (try subst h)))
    · rw [he, Bool.true_or] at hs
      repeat' (first
        | refine ar_end rfl ?_
        | refine ar_endD rfl (by kernel_rfl) ?_
        | refine ar_fin rfl ?_
        | refine ar_finD rfl (by kernel_rfl) ?_
        | refine lq_normN [1, 3, 7, 10, 11, 12] [.loc 1, .loc 7] (by simp; exact rfl) ⟨n + 1, by omega⟩ (by dsimp only; omega) (by simp [hs])
        | refine ar_go3 _ rfl (by simp [insL_len, thsL_len, insL_getE, thsL_getE, inL, ints_len, hlt, hc, hth, hw3, he]; exact ⟨rfl, rfl, rfl⟩) rfl ?_
        | refine aw_sregK 0 [0] ?_
        | refine aw_regK 0 [0] ?_
        | refine aw_sregK 1 [1] ?_
        | refine aw_regK 1 [1] ?_
        | refine aw_sregK 2 [1, 3] ?_
        | refine aw_regK 2 [1, 3] ?_
        | refine aw_sregK 3 [3] ?_
        | refine aw_regK 3 [3] ?_
        | refine aw_sregK 4 [1, 3] ?_
        | refine aw_regK 4 [1, 3] ?_
        | refine aw_sregK 5 [1, 3, 6] ?_
        | refine aw_regK 5 [1, 3, 6] ?_
        | refine aw_sregK 6 [3] ?_
        | refine aw_regK 6 [3] ?_
        | refine aw_sregK 7 [1, 3] ?_
        | refine aw_regK 7 [1, 3] ?_
        | refine aw_sregK 8 [1, 3, 7] ?_
        | refine aw_regK 8 [1, 3, 7] ?_
        | refine aw_sregK 9 [1, 3, 7, 10] ?_
        | refine aw_regK 9 [1, 3, 7, 10] ?_
        | refine aw_sregK 10 [1, 3, 7, 10, 11] ?_
        | refine aw_regK 10 [1, 3, 7, 10, 11] ?_
        | refine aw_sregK 11 [1, 3, 7, 10, 11, 12] ?_
        | refine aw_regK 11 [1, 3, 7, 10, 11, 12] ?_
        | refine aw_sregK 12 [1, 3, 7, 10, 11, 12] ?_
        | refine aw_regK 12 [1, 3, 7, 10, 11, 12] ?_
        | refine aw_sregK 13 [1, 3, 7, 10, 11, 12] ?_
        | refine aw_regK 13 [1, 3, 7, 10, 11, 12] ?_
        | refine aw_sregK 14 [1, 3, 7, 10, 11] ?_
        | refine aw_regK 14 [1, 3, 7, 10, 11] ?_
        | refine aw_sregK 15 [3, 7, 10, 11, 13] ?_
        | refine aw_regK 15 [3, 7, 10, 11, 13] ?_
        | refine aw_sregKD mixed 16 [3, 7, 10, 11, 13, 16] (by simp; exact rfl) ?_
        | refine aw_regKD mixed 16 [3, 7, 10, 11, 13, 16] (by simp; exact rfl) ?_
        | refine aw_sreg ?_
        | refine aw_sregD mixed ?_
        | refine aw_ifT (b := true) rfl rfl ?_
        | refine aw_ifF (b := false) rfl rfl ?_
        | refine aw_ifT rfl (by assumption) ?_
        | refine aw_ifF rfl (by assumption) ?_
        | refine aw_ifT rfl (decide_eq_true (by assumption)) ?_
        | refine aw_ifF rfl (decide_eq_false (by assumption)) ?_
        | refine aw_seq ?_
        | refine aw_block ?_
        | refine aw_skip ?_
        | refine aw_region ?_
        | refine aw_region_draw mixed ?_
        | refine aw_exit ?_
        | refine rq_exit ?_
        | refine blockQ_hit ?_
        | refine blockQ_miss (by decide) ?_
        | (refine ar_guard rfl rfl rfl rfl (fun h => ?_) (fun h => ?_) <;> (fail_if_success (cases h; done)) <;> (try simp at h) <;> (try subst h))
        | (refine aw_both rfl (fun h => ?_) (fun h => ?_) <;> (fail_if_success (cases h; done)) <;> (try simp at h) <;> (try subst h)))
  · have hc : ¬(n : Int) < (b.length : Int) := by omega
    have et : b.take n = b := List.take_of_length_le (by omega)
    have hq : decide ((checkF i b).2.2 = 0) = !anyE b := hokb
    cases he : anyE b
    · have hz2 : (checkF i b).2.2 = 0 := by rw [he] at hq; simpa using hq
      by_cases hg : (checkF i g).2.2 = 0
      ·
        repeat' (first
          | exact aw_ret (ret_vals (by simp; exact rfl) (by simp [*]; fail_if_success (show _)))
          | exact aw_ret (ret_vals (by simp; exact rfl) (by simp [*]; omega))
          | refine ar_end rfl ?_
          | refine ar_endD rfl (by kernel_rfl) ?_
          | refine ar_fin rfl ?_
          | refine ar_finD rfl (by kernel_rfl) ?_
          | refine ar_callV Try.call60 hF rfl rfl rfl rfl rfl (by simp; done) (by rfl) (by simp; done) ?_
          | refine ar_callV_if Try.call60 hF rfl rfl rfl rfl rfl rfl (by simp; done) rfl (by rfl) (by simp; done) ?_
          | refine ar_callV Try.call55 hC3 rfl rfl rfl rfl rfl (by simp; done) (by rfl) (by simp; done) ?_
          | refine ar_callV_if Try.call55 hC3 rfl rfl rfl rfl rfl rfl (by simp; done) rfl (by rfl) (by simp; done) ?_
          | refine ar_callV Try.call59 hB2 rfl rfl rfl rfl rfl (by simp; done) (by rfl) (by simp; done) ?_
          | refine ar_callV_if Try.call59 hB2 rfl rfl rfl rfl rfl rfl (by simp; done) rfl (by rfl) (by simp; done) ?_
          | refine ar_callV Try.call61 hS1 rfl rfl rfl rfl rfl (by simp; done) (by rfl) (by simp; done) ?_
          | refine ar_callV_if Try.call61 hS1 rfl rfl rfl rfl rfl rfl (by simp; done) rfl (by rfl) (by simp; done) ?_
          | refine ar_callV Try.call60 hF2 rfl rfl rfl rfl rfl (by simp; done) (by rfl) (by simp; done) ?_
          | refine ar_callV_if Try.call60 hF2 rfl rfl rfl rfl rfl rfl (by simp; done) rfl (by rfl) (by simp; done) ?_
          | refine ar_callV Try.call61 hS2 rfl rfl rfl rfl rfl (by simp; done) (by rfl) (by simp; done) ?_
          | refine ar_callV_if Try.call61 hS2 rfl rfl rfl rfl rfl rfl (by simp; done) rfl (by rfl) (by simp; done) ?_
          | refine lq_exit ?_
          | refine ar_go3 _ rfl (by simp [insL_len, thsL_len, insL_getE, thsL_getE, inL, ints_len, hc, et, he, hz2, hg]; exact ⟨rfl, rfl, rfl⟩) rfl ?_
          | refine aw_sregK 0 [0] ?_
          | refine aw_regK 0 [0] ?_
          | refine aw_sregK 1 [1] ?_
          | refine aw_regK 1 [1] ?_
          | refine aw_sregK 2 [1, 3] ?_
          | refine aw_regK 2 [1, 3] ?_
          | refine aw_sregK 3 [3] ?_
          | refine aw_regK 3 [3] ?_
          | refine aw_sregK 4 [1, 3] ?_
          | refine aw_regK 4 [1, 3] ?_
          | refine aw_sregK 5 [1, 3, 6] ?_
          | refine aw_regK 5 [1, 3, 6] ?_
          | refine aw_sregK 6 [3] ?_
          | refine aw_regK 6 [3] ?_
          | refine aw_sregK 7 [1, 3] ?_
          | refine aw_regK 7 [1, 3] ?_
          | refine aw_sregK 8 [1, 3, 7] ?_
          | refine aw_regK 8 [1, 3, 7] ?_
          | refine aw_sregK 9 [1, 3, 7, 10] ?_
          | refine aw_regK 9 [1, 3, 7, 10] ?_
          | refine aw_sregK 10 [1, 3, 7, 10, 11] ?_
          | refine aw_regK 10 [1, 3, 7, 10, 11] ?_
          | refine aw_sregK 11 [1, 3, 7, 10, 11, 12] ?_
          | refine aw_regK 11 [1, 3, 7, 10, 11, 12] ?_
          | refine aw_sregK 12 [1, 3, 7, 10, 11, 12] ?_
          | refine aw_regK 12 [1, 3, 7, 10, 11, 12] ?_
          | refine aw_sregK 13 [1, 3, 7, 10, 11, 12] ?_
          | refine aw_regK 13 [1, 3, 7, 10, 11, 12] ?_
          | refine aw_sregK 14 [1, 3, 7, 10, 11] ?_
          | refine aw_regK 14 [1, 3, 7, 10, 11] ?_
          | refine aw_sregK 15 [3, 7, 10, 11, 13] ?_
          | refine aw_regK 15 [3, 7, 10, 11, 13] ?_
          | refine aw_sregKD mixed 16 [3, 7, 10, 11, 13, 16] (by simp; exact rfl) ?_
          | refine aw_regKD mixed 16 [3, 7, 10, 11, 13, 16] (by simp; exact rfl) ?_
          | refine aw_sreg ?_
          | refine aw_sregD mixed ?_
          | refine aw_ifT (b := true) rfl rfl ?_
          | refine aw_ifF (b := false) rfl rfl ?_
          | refine aw_ifT rfl (by assumption) ?_
          | refine aw_ifF rfl (by assumption) ?_
          | refine aw_ifT rfl (decide_eq_true (by assumption)) ?_
          | refine aw_ifF rfl (decide_eq_false (by assumption)) ?_
          | refine aw_seq ?_
          | refine aw_block ?_
          | refine aw_skip ?_
          | refine aw_region ?_
          | refine aw_region_draw mixed ?_
          | refine aw_exit ?_
          | refine rq_exit ?_
          | refine blockQ_hit ?_
          | refine blockQ_miss (by decide) ?_
          | (refine ar_guard rfl rfl rfl rfl (fun h => ?_) (fun h => ?_) <;> (fail_if_success (cases h; done)) <;> (try simp at h) <;> (try subst h))
          | (refine aw_both rfl (fun h => ?_) (fun h => ?_) <;> (fail_if_success (cases h; done)) <;> (try simp at h) <;> (try subst h)))
      ·
        repeat' (first
          | exact aw_ret (ret_vals (by simp; exact rfl) (by simp [*]; fail_if_success (show _)))
          | exact aw_ret (ret_vals (by simp; exact rfl) (by simp [*]; omega))
          | refine ar_end rfl ?_
          | refine ar_endD rfl (by kernel_rfl) ?_
          | refine ar_fin rfl ?_
          | refine ar_finD rfl (by kernel_rfl) ?_
          | refine ar_callV Try.call60 hF rfl rfl rfl rfl rfl (by simp; done) (by rfl) (by simp; done) ?_
          | refine ar_callV_if Try.call60 hF rfl rfl rfl rfl rfl rfl (by simp; done) rfl (by rfl) (by simp; done) ?_
          | refine ar_callV Try.call55 hC3 rfl rfl rfl rfl rfl (by simp; done) (by rfl) (by simp; done) ?_
          | refine ar_callV_if Try.call55 hC3 rfl rfl rfl rfl rfl rfl (by simp; done) rfl (by rfl) (by simp; done) ?_
          | refine ar_callV Try.call59 hB2 rfl rfl rfl rfl rfl (by simp; done) (by rfl) (by simp; done) ?_
          | refine ar_callV_if Try.call59 hB2 rfl rfl rfl rfl rfl rfl (by simp; done) rfl (by rfl) (by simp; done) ?_
          | refine ar_callV Try.call61 hS1 rfl rfl rfl rfl rfl (by simp; done) (by rfl) (by simp; done) ?_
          | refine ar_callV_if Try.call61 hS1 rfl rfl rfl rfl rfl rfl (by simp; done) rfl (by rfl) (by simp; done) ?_
          | refine ar_callV Try.call60 hF2 rfl rfl rfl rfl rfl (by simp; done) (by rfl) (by simp; done) ?_
          | refine ar_callV_if Try.call60 hF2 rfl rfl rfl rfl rfl rfl (by simp; done) rfl (by rfl) (by simp; done) ?_
          | refine ar_callV Try.call61 hS2 rfl rfl rfl rfl rfl (by simp; done) (by rfl) (by simp; done) ?_
          | refine ar_callV_if Try.call61 hS2 rfl rfl rfl rfl rfl rfl (by simp; done) rfl (by rfl) (by simp; done) ?_
          | refine lq_exit ?_
          | refine ar_go3 _ rfl (by simp [insL_len, thsL_len, insL_getE, thsL_getE, inL, ints_len, hc, et, he, hz2, hg]; exact ⟨rfl, rfl, rfl⟩) rfl ?_
          | refine aw_sregK 0 [0] ?_
          | refine aw_regK 0 [0] ?_
          | refine aw_sregK 1 [1] ?_
          | refine aw_regK 1 [1] ?_
          | refine aw_sregK 2 [1, 3] ?_
          | refine aw_regK 2 [1, 3] ?_
          | refine aw_sregK 3 [3] ?_
          | refine aw_regK 3 [3] ?_
          | refine aw_sregK 4 [1, 3] ?_
          | refine aw_regK 4 [1, 3] ?_
          | refine aw_sregK 5 [1, 3, 6] ?_
          | refine aw_regK 5 [1, 3, 6] ?_
          | refine aw_sregK 6 [3] ?_
          | refine aw_regK 6 [3] ?_
          | refine aw_sregK 7 [1, 3] ?_
          | refine aw_regK 7 [1, 3] ?_
          | refine aw_sregK 8 [1, 3, 7] ?_
          | refine aw_regK 8 [1, 3, 7] ?_
          | refine aw_sregK 9 [1, 3, 7, 10] ?_
          | refine aw_regK 9 [1, 3, 7, 10] ?_
          | refine aw_sregK 10 [1, 3, 7, 10, 11] ?_
          | refine aw_regK 10 [1, 3, 7, 10, 11] ?_
          | refine aw_sregK 11 [1, 3, 7, 10, 11, 12] ?_
          | refine aw_regK 11 [1, 3, 7, 10, 11, 12] ?_
          | refine aw_sregK 12 [1, 3, 7, 10, 11, 12] ?_
          | refine aw_regK 12 [1, 3, 7, 10, 11, 12] ?_
          | refine aw_sregK 13 [1, 3, 7, 10, 11, 12] ?_
          | refine aw_regK 13 [1, 3, 7, 10, 11, 12] ?_
          | refine aw_sregK 14 [1, 3, 7, 10, 11] ?_
          | refine aw_regK 14 [1, 3, 7, 10, 11] ?_
          | refine aw_sregK 15 [3, 7, 10, 11, 13] ?_
          | refine aw_regK 15 [3, 7, 10, 11, 13] ?_
          | refine aw_sregKD mixed 16 [3, 7, 10, 11, 13, 16] (by simp; exact rfl) ?_
          | refine aw_regKD mixed 16 [3, 7, 10, 11, 13, 16] (by simp; exact rfl) ?_
          | refine aw_sreg ?_
          | refine aw_sregD mixed ?_
          | refine aw_ifT (b := true) rfl rfl ?_
          | refine aw_ifF (b := false) rfl rfl ?_
          | refine aw_ifT rfl (by assumption) ?_
          | refine aw_ifF rfl (by assumption) ?_
          | refine aw_ifT rfl (decide_eq_true (by assumption)) ?_
          | refine aw_ifF rfl (decide_eq_false (by assumption)) ?_
          | refine aw_seq ?_
          | refine aw_block ?_
          | refine aw_skip ?_
          | refine aw_region ?_
          | refine aw_region_draw mixed ?_
          | refine aw_exit ?_
          | refine rq_exit ?_
          | refine blockQ_hit ?_
          | refine blockQ_miss (by decide) ?_
          | (refine ar_guard rfl rfl rfl rfl (fun h => ?_) (fun h => ?_) <;> (fail_if_success (cases h; done)) <;> (try simp at h) <;> (try subst h))
          | (refine aw_both rfl (fun h => ?_) (fun h => ?_) <;> (fail_if_success (cases h; done)) <;> (try simp at h) <;> (try subst h)))
    · have hz2 : ¬(checkF i b).2.2 = 0 := by rw [he] at hq; simpa using hq
      by_cases hg : (checkF i g).2.2 = 0
      ·
        repeat' (first
          | exact aw_ret (ret_vals (by simp; exact rfl) (by simp [*]; fail_if_success (show _)))
          | exact aw_ret (ret_vals (by simp; exact rfl) (by simp [*]; omega))
          | refine ar_end rfl ?_
          | refine ar_endD rfl (by kernel_rfl) ?_
          | refine ar_fin rfl ?_
          | refine ar_finD rfl (by kernel_rfl) ?_
          | refine ar_callV Try.call60 hF rfl rfl rfl rfl rfl (by simp; done) (by rfl) (by simp; done) ?_
          | refine ar_callV_if Try.call60 hF rfl rfl rfl rfl rfl rfl (by simp; done) rfl (by rfl) (by simp; done) ?_
          | refine ar_callV Try.call55 hC3 rfl rfl rfl rfl rfl (by simp; done) (by rfl) (by simp; done) ?_
          | refine ar_callV_if Try.call55 hC3 rfl rfl rfl rfl rfl rfl (by simp; done) rfl (by rfl) (by simp; done) ?_
          | refine ar_callV Try.call60 hF2 rfl rfl rfl rfl rfl (by simp; done) (by rfl) (by simp; done) ?_
          | refine ar_callV_if Try.call60 hF2 rfl rfl rfl rfl rfl rfl (by simp; done) rfl (by rfl) (by simp; done) ?_
          | refine ar_callV Try.call61 hS2 rfl rfl rfl rfl rfl (by simp; done) (by rfl) (by simp; done) ?_
          | refine ar_callV_if Try.call61 hS2 rfl rfl rfl rfl rfl rfl (by simp; done) rfl (by rfl) (by simp; done) ?_
          | refine lq_exit ?_
          | refine ar_go3 _ rfl (by simp [insL_len, thsL_len, insL_getE, thsL_getE, inL, ints_len, hc, et, he, hz2, hg]; exact ⟨rfl, rfl, rfl⟩) rfl ?_
          | refine aw_sregK 0 [0] ?_
          | refine aw_regK 0 [0] ?_
          | refine aw_sregK 1 [1] ?_
          | refine aw_regK 1 [1] ?_
          | refine aw_sregK 2 [1, 3] ?_
          | refine aw_regK 2 [1, 3] ?_
          | refine aw_sregK 3 [3] ?_
          | refine aw_regK 3 [3] ?_
          | refine aw_sregK 4 [1, 3] ?_
          | refine aw_regK 4 [1, 3] ?_
          | refine aw_sregK 5 [1, 3, 6] ?_
          | refine aw_regK 5 [1, 3, 6] ?_
          | refine aw_sregK 6 [3] ?_
          | refine aw_regK 6 [3] ?_
          | refine aw_sregK 7 [1, 3] ?_
          | refine aw_regK 7 [1, 3] ?_
          | refine aw_sregK 8 [1, 3, 7] ?_
          | refine aw_regK 8 [1, 3, 7] ?_
          | refine aw_sregK 9 [1, 3, 7, 10] ?_
          | refine aw_regK 9 [1, 3, 7, 10] ?_
          | refine aw_sregK 10 [1, 3, 7, 10, 11] ?_
          | refine aw_regK 10 [1, 3, 7, 10, 11] ?_
          | refine aw_sregK 11 [1, 3, 7, 10, 11, 12] ?_
          | refine aw_regK 11 [1, 3, 7, 10, 11, 12] ?_
          | refine aw_sregK 12 [1, 3, 7, 10, 11, 12] ?_
          | refine aw_regK 12 [1, 3, 7, 10, 11, 12] ?_
          | refine aw_sregK 13 [1, 3, 7, 10, 11, 12] ?_
          | refine aw_regK 13 [1, 3, 7, 10, 11, 12] ?_
          | refine aw_sregK 14 [1, 3, 7, 10, 11] ?_
          | refine aw_regK 14 [1, 3, 7, 10, 11] ?_
          | refine aw_sregK 15 [3, 7, 10, 11, 13] ?_
          | refine aw_regK 15 [3, 7, 10, 11, 13] ?_
          | refine aw_sregKD mixed 16 [3, 7, 10, 11, 13, 16] (by simp; exact rfl) ?_
          | refine aw_regKD mixed 16 [3, 7, 10, 11, 13, 16] (by simp; exact rfl) ?_
          | refine aw_sreg ?_
          | refine aw_sregD mixed ?_
          | refine aw_ifT (b := true) rfl rfl ?_
          | refine aw_ifF (b := false) rfl rfl ?_
          | refine aw_ifT rfl (by assumption) ?_
          | refine aw_ifF rfl (by assumption) ?_
          | refine aw_ifT rfl (decide_eq_true (by assumption)) ?_
          | refine aw_ifF rfl (decide_eq_false (by assumption)) ?_
          | refine aw_seq ?_
          | refine aw_block ?_
          | refine aw_skip ?_
          | refine aw_region ?_
          | refine aw_region_draw mixed ?_
          | refine aw_exit ?_
          | refine rq_exit ?_
          | refine blockQ_hit ?_
          | refine blockQ_miss (by decide) ?_
          | (refine ar_guard rfl rfl rfl rfl (fun h => ?_) (fun h => ?_) <;> (fail_if_success (cases h; done)) <;> (try simp at h) <;> (try subst h))
          | (refine aw_both rfl (fun h => ?_) (fun h => ?_) <;> (fail_if_success (cases h; done)) <;> (try simp at h) <;> (try subst h)))
      ·
        repeat' (first
          | exact aw_ret (ret_vals (by simp; exact rfl) (by simp [*]; fail_if_success (show _)))
          | exact aw_ret (ret_vals (by simp; exact rfl) (by simp [*]; omega))
          | refine ar_end rfl ?_
          | refine ar_endD rfl (by kernel_rfl) ?_
          | refine ar_fin rfl ?_
          | refine ar_finD rfl (by kernel_rfl) ?_
          | refine ar_callV Try.call60 hF rfl rfl rfl rfl rfl (by simp; done) (by rfl) (by simp; done) ?_
          | refine ar_callV_if Try.call60 hF rfl rfl rfl rfl rfl rfl (by simp; done) rfl (by rfl) (by simp; done) ?_
          | refine ar_callV Try.call55 hC3 rfl rfl rfl rfl rfl (by simp; done) (by rfl) (by simp; done) ?_
          | refine ar_callV_if Try.call55 hC3 rfl rfl rfl rfl rfl rfl (by simp; done) rfl (by rfl) (by simp; done) ?_
          | refine ar_callV Try.call60 hF2 rfl rfl rfl rfl rfl (by simp; done) (by rfl) (by simp; done) ?_
          | refine ar_callV_if Try.call60 hF2 rfl rfl rfl rfl rfl rfl (by simp; done) rfl (by rfl) (by simp; done) ?_
          | refine ar_callV Try.call61 hS2 rfl rfl rfl rfl rfl (by simp; done) (by rfl) (by simp; done) ?_
          | refine ar_callV_if Try.call61 hS2 rfl rfl rfl rfl rfl rfl (by simp; done) rfl (by rfl) (by simp; done) ?_
          | refine lq_exit ?_
          | refine ar_go3 _ rfl (by simp [insL_len, thsL_len, insL_getE, thsL_getE, inL, ints_len, hc, et, he, hz2, hg]; exact ⟨rfl, rfl, rfl⟩) rfl ?_
          | refine aw_sregK 0 [0] ?_
          | refine aw_regK 0 [0] ?_
          | refine aw_sregK 1 [1] ?_
          | refine aw_regK 1 [1] ?_
          | refine aw_sregK 2 [1, 3] ?_
          | refine aw_regK 2 [1, 3] ?_
          | refine aw_sregK 3 [3] ?_
          | refine aw_regK 3 [3] ?_
          | refine aw_sregK 4 [1, 3] ?_
          | refine aw_regK 4 [1, 3] ?_
          | refine aw_sregK 5 [1, 3, 6] ?_
          | refine aw_regK 5 [1, 3, 6] ?_
          | refine aw_sregK 6 [3] ?_
          | refine aw_regK 6 [3] ?_
          | refine aw_sregK 7 [1, 3] ?_
          | refine aw_regK 7 [1, 3] ?_
          | refine aw_sregK 8 [1, 3, 7] ?_
          | refine aw_regK 8 [1, 3, 7] ?_
          | refine aw_sregK 9 [1, 3, 7, 10] ?_
          | refine aw_regK 9 [1, 3, 7, 10] ?_
          | refine aw_sregK 10 [1, 3, 7, 10, 11] ?_
          | refine aw_regK 10 [1, 3, 7, 10, 11] ?_
          | refine aw_sregK 11 [1, 3, 7, 10, 11, 12] ?_
          | refine aw_regK 11 [1, 3, 7, 10, 11, 12] ?_
          | refine aw_sregK 12 [1, 3, 7, 10, 11, 12] ?_
          | refine aw_regK 12 [1, 3, 7, 10, 11, 12] ?_
          | refine aw_sregK 13 [1, 3, 7, 10, 11, 12] ?_
          | refine aw_regK 13 [1, 3, 7, 10, 11, 12] ?_
          | refine aw_sregK 14 [1, 3, 7, 10, 11] ?_
          | refine aw_regK 14 [1, 3, 7, 10, 11] ?_
          | refine aw_sregK 15 [3, 7, 10, 11, 13] ?_
          | refine aw_regK 15 [3, 7, 10, 11, 13] ?_
          | refine aw_sregKD mixed 16 [3, 7, 10, 11, 13, 16] (by simp; exact rfl) ?_
          | refine aw_regKD mixed 16 [3, 7, 10, 11, 13, 16] (by simp; exact rfl) ?_
          | refine aw_sreg ?_
          | refine aw_sregD mixed ?_
          | refine aw_ifT (b := true) rfl rfl ?_
          | refine aw_ifF (b := false) rfl rfl ?_
          | refine aw_ifT rfl (by assumption) ?_
          | refine aw_ifF rfl (by assumption) ?_
          | refine aw_ifT rfl (decide_eq_true (by assumption)) ?_
          | refine aw_ifF rfl (decide_eq_false (by assumption)) ?_
          | refine aw_seq ?_
          | refine aw_block ?_
          | refine aw_skip ?_
          | refine aw_region ?_
          | refine aw_region_draw mixed ?_
          | refine aw_exit ?_
          | refine rq_exit ?_
          | refine blockQ_hit ?_
          | refine blockQ_miss (by decide) ?_
          | (refine ar_guard rfl rfl rfl rfl (fun h => ?_) (fun h => ?_) <;> (fail_if_success (cases h; done)) <;> (try simp at h) <;> (try subst h))
          | (refine aw_both rfl (fun h => ?_) (fun h => ?_) <;> (fail_if_success (cases h; done)) <;> (try simp at h) <;> (try subst h)))
end Go.Eng
