import Derived.Test.YtamjcdfjkekdjaaTestCountsWalk
set_option linter.unusedSimpArgs false
set_option linter.unusedVariables false
set_option linter.constructorNameAsVariable false
set_option autoImplicit false
namespace Go.Eng
open Go Go.RowKit Go.Proofs
def ldr : In := ⟨5, 0, -1, 0, 0, 0⟩
theorem ldr_may {L : Int} (behind : Int) (h : 1 ≤ L ∧ L ≤ 3) : mayI ldr behind L = true := by
  have hm : IntKind.wrap .i64 (mm true L 0 - 1) = L - 1 := by
    have : mm true L 0 = L := by unfold mm; simp; omega
    rw [this]; exact wrap64s (by omega) (by omega)
  unfold mayI mayF
  simp only [ldr, hm]
  simp [hasD, hasA, hasB, hasL, hasI, named, okF, betw]
  omega
theorem ldr_good {L : Int} (h : 1 ≤ L ∧ L ≤ 3) : ∀ (n : Nat) (len : Int) (k : Nat), badI L len k (List.replicate n ldr) = none
  | 0, _, _ => rfl
  | n + 1, len, k => by
    rw [List.replicate_succ, badI, if_pos (ldr_may _ h)]
    exact ldr_good h n len (k + 1)
theorem goodT_ldr {L : Int} (h : 1 ≤ L ∧ L ≤ 3) (n : Nat) (hn : 1 ≤ n ∧ n ≤ 8) : goodT L (List.replicate n ldr) := by
  refine ⟨by simp; omega, ldr_good h _ _ _⟩
theorem more_full {i : List Int} {t : List (List In)} (h : okTest i t = true) : checkF i (t.take 2 ++ [List.replicate 5 ldr]) = (0, 0, 3) := by
  obtain ⟨h1, h2, h3⟩ := okTest_iff.1 h
  have hs : sizedF i t = true := h1
  simp [sizedF] at h1
  have hb : badT i.length 0 (t.take 2 ++ [List.replicate 5 ldr]) = none := by
    rw [badT_iff] at h2 ⊢
    intro th hth
    rcases List.mem_append.1 hth with hh | hh
    · exact h2 th (List.mem_of_mem_take hh)
    · rw [List.mem_singleton.1 hh]; exact goodT_ldr (by omega) 5 (by omega)
  have hz : sizedF i (t.take 2 ++ [List.replicate 5 ldr]) = true := by
    simp [sizedF, h1.1]; omega
  rw [checkF_none hz hb]
  have hk : fullF (t.take 2 ++ [List.replicate 5 ldr]) = true := by
    have e : kcT 1 (t.take 2 ++ [List.replicate 5 ldr]) = kcT 1 (t.take 2) + 5 := by
      rw [kcT_append, kcT_one]
      congr 1
    have hp : 0 ≤ kcT 1 (t.take 2) := by
      refine (kcT_bnd 1 (t := t.take 2) fun l hl => ?_).1
      have := (ok_facts h).2.2.2.2 l (List.mem_of_mem_take hl)
      omega
    unfold fullF
    rw [e, decide_eq_true (by omega)]
    rfl
  rw [hk]; rfl
theorem more_four {i : List Int} {t : List (List In)} (h : okTest i t = true) : checkF i (t ++ [[ldr], [ldr], [ldr]]) = (0, 0, 1) := by
  have h4 := (ok_facts h).2.2.2.1
  refine checkF_sz ?_
  unfold sizedF
  simp only [List.length_append, List.length_cons, List.length_nil, Bool.and_eq_false_iff, decide_eq_false_iff_not]
  omega
theorem more_none (t : List (List In)) : checkF [] t = (0, 0, 1) := checkF_sz (by simp [sizedF])
set_option maxHeartbeats 16000000 in
theorem c_CheckA {i : List Int} {t : List (List In)} (h : okTest i t = true) : SC Try.prog 55 [.agg [.sl 1 (ints i), .sl 1 (thsL (t.take 2) ++ [[.sl 6 [[C .i64 5, C .i64 0, C .i64 (-1), C .i64 0, C .i64 0, C .i64 0], [C .i64 5, C .i64 0, C .i64 (-1), C .i64 0, C .i64 0, C .i64 0], [C .i64 5, C .i64 0, C .i64 (-1), C .i64 0, C .i64 0, C .i64 0], [C .i64 5, C .i64 0, C .i64 (-1), C .i64 0, C .i64 0, C .i64 0], [C .i64 5, C .i64 0, C .i64 (-1), C .i64 0, C .i64 0, C .i64 0]]]])]] (.tup [I .i64 0, I .i64 0, I .i64 3]) := by
  have := c_Check (i := i) (t := t.take 2 ++ [List.replicate 5 ldr]) (by have := (ok_facts h).1; simp [maxLen]; omega)
  rw [more_full h] at this
  rw [testL, ← thsL_append] at this
  exact this
set_option maxHeartbeats 16000000 in
theorem c_CheckB {i : List Int} {t : List (List In)} (h : okTest i t = true) : SC Try.prog 55 [.agg [.sl 1 (ints i), .sl 1 (thsL t ++ [[.sl 6 [[C .i64 5, C .i64 0, C .i64 (-1), C .i64 0, C .i64 0, C .i64 0]]], [.sl 6 [[C .i64 5, C .i64 0, C .i64 (-1), C .i64 0, C .i64 0, C .i64 0]]], [.sl 6 [[C .i64 5, C .i64 0, C .i64 (-1), C .i64 0, C .i64 0, C .i64 0]]]])]] (.tup [I .i64 0, I .i64 0, I .i64 1]) := by
  have := c_Check (i := i) (t := t ++ [[ldr], [ldr], [ldr]]) (by have := (ok_facts h).1; simp [maxLen]; omega)
  rw [more_four h] at this
  rw [testL, ← thsL_append] at this
  exact this
set_option maxHeartbeats 16000000 in
theorem c_CheckC {t : List (List In)} : SC Try.prog 55 [.agg [.v (.slice none 0 0), .sl 1 (thsL t)]] (.tup [I .i64 0, I .i64 0, I .i64 1]) := by
  have := noInit (c_Check (i := []) (t := t) (by simp))
  rw [more_none t] at this
  exact this
set_option maxHeartbeats 16000000 in
theorem law_TestMore {i : List Int} {t : List (List In)} : SC Try.prog 15 [.agg (testL i t)] (B true) := by
  cases hfb : fewB i t
  · refine scx_of Try.func15 rfl rfl rfl (Nat.le_of_ble_eq_true rfl) ?_
    repeat' (first
      | exact aw_ret (ret_vals (by simp; exact rfl) (by simp [*]; fail_if_success (show _)))
      | exact aw_ret (ret_vals (by simp; exact rfl) (by simp [*]; omega))
      | refine ar_end rfl ?_
      | refine ar_endD rfl (by kernel_rfl) ?_
      | refine ar_fin rfl ?_
      | refine ar_finD rfl (by kernel_rfl) ?_
      | refine ar_callV Try.call53 c_shown2 rfl rfl rfl rfl rfl (by simp; done) (by rfl) (by simp; done) ?_
      | refine ar_callV_if Try.call53 c_shown2 rfl rfl rfl rfl rfl rfl (by simp; done) rfl (by rfl) (by simp; done) ?_
      | refine ar_callV Try.call54 c_Few rfl rfl rfl rfl rfl (by simp; done) (by rfl) (by simp; done) ?_
      | refine ar_callV_if Try.call54 c_Few rfl rfl rfl rfl rfl rfl (by simp; done) rfl (by rfl) (by simp; done) ?_
      | refine ar_go3 _ rfl (by simp [hfb]; exact ⟨rfl, rfl, rfl⟩) rfl ?_
      | refine aw_sregK 0 [0] ?_
      | refine aw_regK 0 [0] ?_
      | refine aw_sregK 1 [1] ?_
      | refine aw_regK 1 [1] ?_
      | refine aw_sregK 2 [1, 3] ?_
      | refine aw_regK 2 [1, 3] ?_
      | refine aw_sregK 3 [3] ?_
      | refine aw_regK 3 [3] ?_
      | refine aw_sregK 4 [1, 3] ?_
      | refine aw_regK 4 [1, 3] ?_
      | refine aw_sregK 5 [1, 3, 6] ?_
      | refine aw_regK 5 [1, 3, 6] ?_
      | refine aw_sregK 6 [3] ?_
      | refine aw_regK 6 [3] ?_
      | refine aw_sregK 7 [1, 3] ?_
      | refine aw_regK 7 [1, 3] ?_
      | refine aw_sregK 8 [1, 3, 7] ?_
      | refine aw_regK 8 [1, 3, 7] ?_
      | refine aw_sregKD mixed 9 [1, 3, 7, 8] (by simp; exact rfl) ?_
      | refine aw_regKD mixed 9 [1, 3, 7, 8] (by simp; exact rfl) ?_
      | refine aw_sregK 10 [1, 3, 7, 8] ?_
      | refine aw_regK 10 [1, 3, 7, 8] ?_
      | refine aw_sregKD mixed 11 [1, 3, 7, 8, 9] (by simp; exact rfl) ?_
      | refine aw_regKD mixed 11 [1, 3, 7, 8, 9] (by simp; exact rfl) ?_
      | refine aw_sregK 12 [1, 3, 8, 9] ?_
      | refine aw_regK 12 [1, 3, 8, 9] ?_
      | refine aw_sregK 13 [3, 8, 9, 10] ?_
      | refine aw_regK 13 [3, 8, 9, 10] ?_
      | refine aw_sregK 14 [3, 8, 9, 10] ?_
      | refine aw_regK 14 [3, 8, 9, 10] ?_
      | refine aw_sregK 15 [3, 9, 10, 13] ?_
      | refine aw_regK 15 [3, 9, 10, 13] ?_
      | refine aw_sregK 16 [3, 10, 13, 16] ?_
      | refine aw_regK 16 [3, 10, 13, 16] ?_
      | refine aw_sregK 17 [3, 13, 16, 19] ?_
      | refine aw_regK 17 [3, 13, 16, 19] ?_
      | refine aw_sreg ?_
      | refine aw_sregD mixed ?_
      | refine aw_ifT (b := true) rfl rfl ?_
      | refine aw_ifF (b := false) rfl rfl ?_
      | refine aw_ifT rfl (by assumption) ?_
      | refine aw_ifF rfl (by assumption) ?_
      | refine aw_ifT rfl (decide_eq_true (by assumption)) ?_
      | refine aw_ifF rfl (decide_eq_false (by assumption)) ?_
      | refine aw_seq ?_
      | refine aw_block ?_
      | refine aw_skip ?_
      | refine aw_region ?_
      | refine aw_region_draw mixed ?_
      | refine aw_exit ?_
      | refine rq_exit ?_
      | refine blockQ_hit ?_
      | refine blockQ_miss (by decide) ?_
      | (refine ar_guard rfl rfl rfl rfl (fun h => ?_) (fun h => ?_) <;> (fail_if_success (cases h; done)) <;> (try simp at h) <;> (try subst h))
      | (refine aw_both rfl (fun h => ?_) (fun h => ?_) <;> (fail_if_success (cases h; done)) <;> (try simp at h) <;> (try subst h)))
  · have hf := fewB_iff.1 hfb
    have hl : i.length ≤ maxLen := Nat.le_trans hf.1 (by simp [maxLen])
    by_cases hz : (checkF i t).2.2 = 0
    · have h : okTest i t = true := by simpa [okTest] using hz
      obtain ⟨f1, f2, f3, f4, f5⟩ := ok_facts h
      have hA := c_CheckA h
      have hB := c_CheckB h
      have hC := c_CheckC (t := t)
      have hm : mm false (t.length : Int) 2 = ((min t.length 2 : Nat) : Int) := by unfold mm; simp; split <;> omega
      have p1 : (min t.length 2) ≤ t.length := by omega
      have e1 : List.take (min t.length 2) (thsL t) = thsL (t.take 2) := by simp [thsL, List.map_take, Nat.min_comm]
      refine scx_of Try.func15 rfl rfl rfl (Nat.le_of_ble_eq_true rfl) ?_
      repeat' (first
        | exact aw_ret (ret_vals (by simp; exact rfl) (by simp [*]; fail_if_success (show _)))
        | exact aw_ret (ret_vals (by simp; exact rfl) (by simp [*]; omega))
        | refine ar_end rfl ?_
        | refine ar_endD rfl (by kernel_rfl) ?_
        | refine ar_fin rfl ?_
        | refine ar_finD rfl (by kernel_rfl) ?_
        | refine ar_callV Try.call53 c_shown2 rfl rfl rfl rfl rfl (by simp; done) (by rfl) (by simp; done) ?_
        | refine ar_callV_if Try.call53 c_shown2 rfl rfl rfl rfl rfl rfl (by simp; done) rfl (by rfl) (by simp; done) ?_
        | refine ar_callV Try.call54 c_Few rfl rfl rfl rfl rfl (by simp; done) (by rfl) (by simp; done) ?_
        | refine ar_callV_if Try.call54 c_Few rfl rfl rfl rfl rfl rfl (by simp; done) rfl (by rfl) (by simp; done) ?_
        | refine ar_callV Try.call55 hA rfl rfl rfl rfl rfl (by simp; done) (by rfl) (by simp; done) ?_
        | refine ar_callV_if Try.call55 hA rfl rfl rfl rfl rfl rfl (by simp; done) rfl (by rfl) (by simp; done) ?_
        | refine ar_callV Try.call55 hB rfl rfl rfl rfl rfl (by simp; done) (by rfl) (by simp; done) ?_
        | refine ar_callV_if Try.call55 hB rfl rfl rfl rfl rfl rfl (by simp; done) rfl (by rfl) (by simp; done) ?_
        | refine ar_callV Try.call55 hC rfl rfl rfl rfl rfl (by simp; done) (by rfl) (by simp; done) ?_
        | refine ar_callV_if Try.call55 hC rfl rfl rfl rfl rfl rfl (by simp; done) rfl (by rfl) (by simp; done) ?_
        | refine ar_callV Try.call55 (c_Check (i := i) (t := t) hl) rfl rfl rfl rfl rfl (by simp; done) (by rfl) (by simp; done) ?_
        | refine ar_callV_if Try.call55 (c_Check (i := i) (t := t) hl) rfl rfl rfl rfl rfl rfl (by simp; done) rfl (by rfl) (by simp; done) ?_
        | refine ar_appO rfl rfl rfl rfl rfl (by simp; exact rfl) rfl (by simp; exact rfl) (by simp; exact rfl) (by simp; exact ⟨rfl, rfl⟩) rfl (by simp; exact rfl) (by simp; done) (by decide) (by simp [insL_len, thsL_len, maxLen]; try omega) ?_
        | refine ar_frz rfl rfl (by simp; exact rfl) rfl (by simp; fail_if_success (show _)) (by simp; exact rfl) (by simp; exact rfl) rfl (by simp; fail_if_success (show _)) ?_
        | refine aw_frz (.loc 52) (by simp; exact rfl) (aw_frz (.loc 66) (by simp; exact rfl) (aw_sregK 14 [3, 8, 9, 10] ?_))
        | refine ar_go3 _ rfl (by simp [hfb, hz, insL_len, thsL_len, insL_getE, thsL_getE, inL, ints_len, hm, p1, e1]; exact ⟨rfl, rfl, rfl⟩) rfl ?_
        | refine aw_sregK 0 [0] ?_
        | refine aw_regK 0 [0] ?_
        | refine aw_sregK 1 [1] ?_
        | refine aw_regK 1 [1] ?_
        | refine aw_sregK 2 [1, 3] ?_
        | refine aw_regK 2 [1, 3] ?_
        | refine aw_sregK 3 [3] ?_
        | refine aw_regK 3 [3] ?_
        | refine aw_sregK 4 [1, 3] ?_
        | refine aw_regK 4 [1, 3] ?_
        | refine aw_sregK 5 [1, 3, 6] ?_
        | refine aw_regK 5 [1, 3, 6] ?_
        | refine aw_sregK 6 [3] ?_
        | refine aw_regK 6 [3] ?_
        | refine aw_sregK 7 [1, 3] ?_
        | refine aw_regK 7 [1, 3] ?_
        | refine aw_sregK 8 [1, 3, 7] ?_
        | refine aw_regK 8 [1, 3, 7] ?_
        | refine aw_sregKD mixed 9 [1, 3, 7, 8] (by simp; exact rfl) ?_
        | refine aw_regKD mixed 9 [1, 3, 7, 8] (by simp; exact rfl) ?_
        | refine aw_sregK 10 [1, 3, 7, 8] ?_
        | refine aw_regK 10 [1, 3, 7, 8] ?_
        | refine aw_sregKD mixed 11 [1, 3, 7, 8, 9] (by simp; exact rfl) ?_
        | refine aw_regKD mixed 11 [1, 3, 7, 8, 9] (by simp; exact rfl) ?_
        | refine aw_sregK 12 [1, 3, 8, 9] ?_
        | refine aw_regK 12 [1, 3, 8, 9] ?_
        | refine aw_sregK 13 [3, 8, 9, 10] ?_
        | refine aw_regK 13 [3, 8, 9, 10] ?_
        | refine aw_sregK 14 [3, 8, 9, 10] ?_
        | refine aw_regK 14 [3, 8, 9, 10] ?_
        | refine aw_sregK 15 [3, 9, 10, 13] ?_
        | refine aw_regK 15 [3, 9, 10, 13] ?_
        | refine aw_sregK 16 [3, 10, 13, 16] ?_
        | refine aw_regK 16 [3, 10, 13, 16] ?_
        | refine aw_sregK 17 [3, 13, 16, 19] ?_
        | refine aw_regK 17 [3, 13, 16, 19] ?_
        | refine aw_sreg ?_
        | refine aw_sregD mixed ?_
        | refine aw_ifT (b := true) rfl rfl ?_
        | refine aw_ifF (b := false) rfl rfl ?_
        | refine aw_ifT rfl (by assumption) ?_
        | refine aw_ifF rfl (by assumption) ?_
        | refine aw_ifT rfl (decide_eq_true (by assumption)) ?_
        | refine aw_ifF rfl (decide_eq_false (by assumption)) ?_
        | refine aw_seq ?_
        | refine aw_block ?_
        | refine aw_skip ?_
        | refine aw_region ?_
        | refine aw_region_draw mixed ?_
        | refine aw_exit ?_
        | refine rq_exit ?_
        | refine blockQ_hit ?_
        | refine blockQ_miss (by decide) ?_
        | (refine ar_guard rfl rfl rfl rfl (fun h => ?_) (fun h => ?_) <;> (fail_if_success (cases h; done)) <;> (try simp at h) <;> (try subst h))
        | (refine aw_both rfl (fun h => ?_) (fun h => ?_) <;> (fail_if_success (cases h; done)) <;> (try simp at h) <;> (try subst h)))
    · refine scx_of Try.func15 rfl rfl rfl (Nat.le_of_ble_eq_true rfl) ?_
      repeat' (first
        | exact aw_ret (ret_vals (by simp; exact rfl) (by simp [*]; fail_if_success (show _)))
        | exact aw_ret (ret_vals (by simp; exact rfl) (by simp [*]; omega))
        | refine ar_end rfl ?_
        | refine ar_endD rfl (by kernel_rfl) ?_
        | refine ar_fin rfl ?_
        | refine ar_finD rfl (by kernel_rfl) ?_
        | refine ar_callV Try.call53 c_shown2 rfl rfl rfl rfl rfl (by simp; done) (by rfl) (by simp; done) ?_
        | refine ar_callV_if Try.call53 c_shown2 rfl rfl rfl rfl rfl rfl (by simp; done) rfl (by rfl) (by simp; done) ?_
        | refine ar_callV Try.call54 c_Few rfl rfl rfl rfl rfl (by simp; done) (by rfl) (by simp; done) ?_
        | refine ar_callV_if Try.call54 c_Few rfl rfl rfl rfl rfl rfl (by simp; done) rfl (by rfl) (by simp; done) ?_
        | refine ar_callV Try.call55 (c_Check (i := i) (t := t) hl) rfl rfl rfl rfl rfl (by simp; done) (by rfl) (by simp; done) ?_
        | refine ar_callV_if Try.call55 (c_Check (i := i) (t := t) hl) rfl rfl rfl rfl rfl rfl (by simp; done) rfl (by rfl) (by simp; done) ?_
        | refine ar_go3 _ rfl (by simp [hfb, hz, insL_len, thsL_len, insL_getE, thsL_getE, inL, ints_len]; exact ⟨rfl, rfl, rfl⟩) rfl ?_
        | refine aw_sregK 0 [0] ?_
        | refine aw_regK 0 [0] ?_
        | refine aw_sregK 1 [1] ?_
        | refine aw_regK 1 [1] ?_
        | refine aw_sregK 2 [1, 3] ?_
        | refine aw_regK 2 [1, 3] ?_
        | refine aw_sregK 3 [3] ?_
        | refine aw_regK 3 [3] ?_
        | refine aw_sregK 4 [1, 3] ?_
        | refine aw_regK 4 [1, 3] ?_
        | refine aw_sregK 5 [1, 3, 6] ?_
        | refine aw_regK 5 [1, 3, 6] ?_
        | refine aw_sregK 6 [3] ?_
        | refine aw_regK 6 [3] ?_
        | refine aw_sregK 7 [1, 3] ?_
        | refine aw_regK 7 [1, 3] ?_
        | refine aw_sregK 8 [1, 3, 7] ?_
        | refine aw_regK 8 [1, 3, 7] ?_
        | refine aw_sregKD mixed 9 [1, 3, 7, 8] (by simp; exact rfl) ?_
        | refine aw_regKD mixed 9 [1, 3, 7, 8] (by simp; exact rfl) ?_
        | refine aw_sregK 10 [1, 3, 7, 8] ?_
        | refine aw_regK 10 [1, 3, 7, 8] ?_
        | refine aw_sregKD mixed 11 [1, 3, 7, 8, 9] (by simp; exact rfl) ?_
        | refine aw_regKD mixed 11 [1, 3, 7, 8, 9] (by simp; exact rfl) ?_
        | refine aw_sregK 12 [1, 3, 8, 9] ?_
        | refine aw_regK 12 [1, 3, 8, 9] ?_
        | refine aw_sregK 13 [3, 8, 9, 10] ?_
        | refine aw_regK 13 [3, 8, 9, 10] ?_
        | refine aw_sregK 14 [3, 8, 9, 10] ?_
        | refine aw_regK 14 [3, 8, 9, 10] ?_
        | refine aw_sregK 15 [3, 9, 10, 13] ?_
        | refine aw_regK 15 [3, 9, 10, 13] ?_
        | refine aw_sregK 16 [3, 10, 13, 16] ?_
        | refine aw_regK 16 [3, 10, 13, 16] ?_
        | refine aw_sregK 17 [3, 13, 16, 19] ?_
        | refine aw_regK 17 [3, 13, 16, 19] ?_
        | refine aw_sreg ?_
        | refine aw_sregD mixed ?_
        | refine aw_ifT (b := true) rfl rfl ?_
        | refine aw_ifF (b := false) rfl rfl ?_
        | refine aw_ifT rfl (by assumption) ?_
        | refine aw_ifF rfl (by assumption) ?_
        | refine aw_ifT rfl (decide_eq_true (by assumption)) ?_
        | refine aw_ifF rfl (decide_eq_false (by assumption)) ?_
        | refine aw_seq ?_
        | refine aw_block ?_
        | refine aw_skip ?_
        | refine aw_region ?_
        | refine aw_region_draw mixed ?_
        | refine aw_exit ?_
        | refine rq_exit ?_
        | refine blockQ_hit ?_
        | refine blockQ_miss (by decide) ?_
        | (refine ar_guard rfl rfl rfl rfl (fun h => ?_) (fun h => ?_) <;> (fail_if_success (cases h; done)) <;> (try simp at h) <;> (try subst h))
        | (refine aw_both rfl (fun h => ?_) (fun h => ?_) <;> (fail_if_success (cases h; done)) <;> (try simp at h) <;> (try subst h)))
end Go.Eng
