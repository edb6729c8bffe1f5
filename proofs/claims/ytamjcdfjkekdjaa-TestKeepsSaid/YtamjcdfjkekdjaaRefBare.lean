import Derived.Test.YtamjcdfjkekdjaaTestE
set_option linter.unusedSimpArgs false
set_option linter.unusedVariables false
set_option linter.constructorNameAsVariable false
set_option autoImplicit false
namespace Go.Eng
open Go Go.RowKit Go.Proofs
set_option maxHeartbeats 16000000 in
theorem c_refBare {i : List Int} {t : List (List In)} (ht : t.length ≤ 10) (hlen : ∀ th ∈ t, th.length ≤ 40) (hok : ∀ th ∈ t, BraOk th) : SC Try.prog 62 [.agg (testL i t)] (.agg (testL i (bareT t))) := by
  refine scx_of Try.func62 rfl rfl rfl (Nat.le_of_ble_eq_true rfl) ?_
  repeat' (first
    | exact aw_ret (ret_vals (by simp; exact rfl) (by simp [*]; fail_if_success (show _)))
    | exact aw_ret (ret_vals (by simp; exact rfl) (by simp [*]; omega))
    | refine ar_end rfl ?_
    | refine ar_endD rfl (by kernel_rfl) ?_
    | refine ar_fin rfl ?_
    | refine ar_finD rfl (by kernel_rfl) ?_
    | refine ar_go3 _ rfl (by simp [insL_len, thsL_len, insL_getE, thsL_getE, inL, ints_len]; exact ⟨rfl, rfl, rfl⟩) rfl ?_
    | refine aw_sregK 0 [0] ?_
    | refine aw_regK 0 [0] ?_
    | refine aw_sregK 1 [1, 2] ?_
    | refine aw_regK 1 [1, 2] ?_
    | refine aw_sregK 2 [1, 2, 3] ?_
    | refine aw_regK 2 [1, 2, 3] ?_
    | refine aw_sregK 3 [1, 2, 3, 4] ?_
    | refine aw_regK 3 [1, 2, 3, 4] ?_
    | refine aw_sregK 4 [1, 2, 3, 4] ?_
    | refine aw_regK 4 [1, 2, 3, 4] ?_
    | refine aw_sregK 5 [1, 2, 3, 4] ?_
    | refine aw_regK 5 [1, 2, 3, 4] ?_
    | refine aw_sregK 6 [1, 2, 3, 4, 5] ?_
    | refine aw_regK 6 [1, 2, 3, 4, 5] ?_
    | refine aw_sregK 7 [1, 2, 3, 4, 5, 6] ?_
    | refine aw_regK 7 [1, 2, 3, 4, 5, 6] ?_
    | refine aw_sregK 8 [1, 2, 3, 4, 5, 6, 7] ?_
    | refine aw_regK 8 [1, 2, 3, 4, 5, 6, 7] ?_
    | refine aw_sregK 9 [1, 2, 3, 4, 5, 6, 7] ?_
    | refine aw_regK 9 [1, 2, 3, 4, 5, 6, 7] ?_
    | refine aw_sregK 10 [1, 2, 3, 4, 5, 6, 7] ?_
    | refine aw_regK 10 [1, 2, 3, 4, 5, 6, 7] ?_
    | refine aw_sregK 11 [1, 2, 3, 4, 5, 6, 7] ?_
    | refine aw_regK 11 [1, 2, 3, 4, 5, 6, 7] ?_
    | refine aw_sregK 12 [1, 2, 3, 4, 5, 6, 7, 8] ?_
    | refine aw_regK 12 [1, 2, 3, 4, 5, 6, 7, 8] ?_
    | refine aw_sregK 13 [1, 2, 3, 4, 5, 6, 7, 8, 9] ?_
    | refine aw_regK 13 [1, 2, 3, 4, 5, 6, 7, 8, 9] ?_
    | refine aw_sregK 14 [1, 2, 3, 4, 5, 6, 7, 8, 9] ?_
    | refine aw_regK 14 [1, 2, 3, 4, 5, 6, 7, 8, 9] ?_
    | refine aw_sregK 15 [1, 2, 3, 4, 5, 6, 7, 8, 9] ?_
    | refine aw_regK 15 [1, 2, 3, 4, 5, 6, 7, 8, 9] ?_
    | refine aw_sregK 16 [1, 2, 3, 4, 5, 6, 7, 8, 9] ?_
    | refine aw_regK 16 [1, 2, 3, 4, 5, 6, 7, 8, 9] ?_
    | refine aw_sregK 17 [1, 2, 3, 4, 5, 6, 7, 8] ?_
    | refine aw_regK 17 [1, 2, 3, 4, 5, 6, 7, 8] ?_
    | refine aw_sregK 18 [1, 2, 3, 4, 6] ?_
    | refine aw_regK 18 [1, 2, 3, 4, 6] ?_
    | refine aw_sregK 19 [2, 3] ?_
    | refine aw_regK 19 [2, 3] ?_
    | refine aw_sreg ?_
    | refine aw_sregD mixed ?_
    | refine aw_ifT (b := true) rfl rfl ?_
    | refine aw_ifF (b := false) rfl rfl ?_
    | refine aw_ifT rfl (by assumption) ?_
    | refine aw_ifF rfl (by assumption) ?_
    | refine aw_ifT rfl (decide_eq_true (by assumption)) ?_
    | refine aw_ifF rfl (decide_eq_false (by assumption)) ?_
    | refine aw_seq ?_
    | refine aw_block ?_
    | refine aw_skip ?_
    | refine aw_region ?_
    | refine aw_region_draw mixed ?_
    | refine aw_exit ?_
    | refine rq_exit ?_
    | refine blockQ_hit ?_
    | refine blockQ_miss (by decide) ?_
    | (refine ar_guard rfl rfl rfl rfl (fun h => ?_) (fun h => ?_) <;> (fail_if_success (cases h; done)) <;> (try simp at h) <;> (try subst h))
    | (refine aw_both rfl (fun h => ?_) (fun h => ?_) <;> (fail_if_success (cases h; done)) <;> (try simp at h) <;> (try subst h)))
  refine aw_nilC (.loc 3) 1 (.loc 1001) 64 1 (by simp; exact rfl) ?_
  refine aw_loopN [1, 2, 3, 4] [.loc 1, .loc 2, .loc 3, .loc 1001] (by simp; exact rfl) (ι := {n : Nat // n ≤ t.length}) (fun n => ⟨88, [(1, .ptr (.loc 1) 0), (2, .ptr (.loc 2) 0), (3, .ptr (.loc 3) 0), (4, I .i64 n.1)], [(.loc 1, some (.box 55 [.pv (.sl 1 (ints i)), .pv (.sl 1 (thsL t))])), (.loc 2, some (.box 55 [.pv (.v (.slice none 0 0)), .pv (.v (.slice none 0 0))])), (.loc 3, some (.box 55 [.pv (.sl 1 (ints i)), .own (.loc 1001)])), (.loc 1001, some (.own 64 1 (thsL ((t.take n.1).map (turnL bareF)))))]⟩) (fun n => t.length - n.1) ⟨0, by omega⟩ (by simp [thsL_len, thsL]) ?_
  rintro ⟨n, hn⟩
  by_cases hlt : n < t.length
  · have hc : (n : Int) < (t.length : Int) := by omega
    have hw : IntKind.wrap .i64 ((n : Int) + 1) = (n : Int) + 1 := wrap64s (by omega) (by omega)
    have l40 := hlen _ (List.getElem_mem hlt)
    have hbo := hok _ (List.getElem_mem hlt)
    have htk : (t.take (n + 1)).map (turnL bareF) = (t.take n).map (turnL bareF) ++ [turnL bareF t[n]] := by rw [List.take_add_one, List.getElem?_eq_getElem hlt, List.map_append]; rfl
    generalize hth : t[n] = th at l40 hbo htk
    repeat' (first
      | exact aw_ret (ret_vals (by simp; exact rfl) (by simp [*]; fail_if_success (show _)))
      | exact aw_ret (ret_vals (by simp; exact rfl) (by simp [*]; omega))
      | refine ar_end rfl ?_
      | refine ar_endD rfl (by kernel_rfl) ?_
      | refine ar_fin rfl ?_
      | refine ar_finD rfl (by kernel_rfl) ?_
      | refine ar_go3 _ rfl (by simp [insL_len, thsL_len, insL_getE, thsL_getE, inL, ints_len, hc, hlt, hth]; exact ⟨rfl, rfl, rfl⟩) rfl ?_
      | refine aw_sregK 0 [0] ?_
      | refine aw_regK 0 [0] ?_
      | refine aw_sregK 1 [1, 2] ?_
      | refine aw_regK 1 [1, 2] ?_
      | refine aw_sregK 2 [1, 2, 3] ?_
      | refine aw_regK 2 [1, 2, 3] ?_
      | refine aw_sregK 3 [1, 2, 3, 4] ?_
      | refine aw_regK 3 [1, 2, 3, 4] ?_
      | refine aw_sregK 4 [1, 2, 3, 4] ?_
      | refine aw_regK 4 [1, 2, 3, 4] ?_
      | refine aw_sregK 5 [1, 2, 3, 4] ?_
      | refine aw_regK 5 [1, 2, 3, 4] ?_
      | refine aw_sregK 6 [1, 2, 3, 4, 5] ?_
      | refine aw_regK 6 [1, 2, 3, 4, 5] ?_
      | refine aw_sregK 7 [1, 2, 3, 4, 5, 6] ?_
      | refine aw_regK 7 [1, 2, 3, 4, 5, 6] ?_
      | refine aw_sregK 8 [1, 2, 3, 4, 5, 6, 7] ?_
      | refine aw_regK 8 [1, 2, 3, 4, 5, 6, 7] ?_
      | refine aw_sregK 9 [1, 2, 3, 4, 5, 6, 7] ?_
      | refine aw_regK 9 [1, 2, 3, 4, 5, 6, 7] ?_
      | refine aw_sregK 10 [1, 2, 3, 4, 5, 6, 7] ?_
      | refine aw_regK 10 [1, 2, 3, 4, 5, 6, 7] ?_
      | refine aw_sregK 11 [1, 2, 3, 4, 5, 6, 7] ?_
      | refine aw_regK 11 [1, 2, 3, 4, 5, 6, 7] ?_
      | refine aw_sregK 12 [1, 2, 3, 4, 5, 6, 7, 8] ?_
      | refine aw_regK 12 [1, 2, 3, 4, 5, 6, 7, 8] ?_
      | refine aw_sregK 13 [1, 2, 3, 4, 5, 6, 7, 8, 9] ?_
      | refine aw_regK 13 [1, 2, 3, 4, 5, 6, 7, 8, 9] ?_
      | refine aw_sregK 14 [1, 2, 3, 4, 5, 6, 7, 8, 9] ?_
      | refine aw_regK 14 [1, 2, 3, 4, 5, 6, 7, 8, 9] ?_
      | refine aw_sregK 15 [1, 2, 3, 4, 5, 6, 7, 8, 9] ?_
      | refine aw_regK 15 [1, 2, 3, 4, 5, 6, 7, 8, 9] ?_
      | refine aw_sregK 16 [1, 2, 3, 4, 5, 6, 7, 8, 9] ?_
      | refine aw_regK 16 [1, 2, 3, 4, 5, 6, 7, 8, 9] ?_
      | refine aw_sregK 17 [1, 2, 3, 4, 5, 6, 7, 8] ?_
      | refine aw_regK 17 [1, 2, 3, 4, 5, 6, 7, 8] ?_
      | refine aw_sregK 18 [1, 2, 3, 4, 6] ?_
      | refine aw_regK 18 [1, 2, 3, 4, 6] ?_
      | refine aw_sregK 19 [2, 3] ?_
      | refine aw_regK 19 [2, 3] ?_
      | refine aw_sreg ?_
      | refine aw_sregD mixed ?_
      | refine aw_ifT (b := true) rfl rfl ?_
      | refine aw_ifF (b := false) rfl rfl ?_
      | refine aw_ifT rfl (by assumption) ?_
      | refine aw_ifF rfl (by assumption) ?_
      | refine aw_ifT rfl (decide_eq_true (by assumption)) ?_
      | refine aw_ifF rfl (decide_eq_false (by assumption)) ?_
      | refine aw_seq ?_
      | refine aw_block ?_
      | refine aw_skip ?_
      | refine aw_region ?_
      | refine aw_region_draw mixed ?_
      | refine aw_exit ?_
      | refine rq_exit ?_
      | refine blockQ_hit ?_
      | refine blockQ_miss (by decide) ?_
      | (refine ar_guard rfl rfl rfl rfl (fun h => ?_) (fun h => ?_) <;> (fail_if_success (cases h; done)) <;> (try simp at h) <;> (try subst h))
      | (refine aw_both rfl (fun h => ?_) (fun h => ?_) <;> (fail_if_success (cases h; done)) <;> (try simp at h) <;> (try subst h)))
    refine aw_nil 6 (.loc 1000) 31 6 (by simp; exact rfl) ?_
    refine aw_loopN [1, 2, 3, 4, 5, 6, 7] [.loc 1, .loc 2, .loc 3, .loc 1001, .loc 1000] (by simp; exact rfl) (ι := {p : Nat × List In // p.1 ≤ th.length ∧ p.2 ++ turnL bareF (th.drop p.1) = turnL bareF th ∧ p.2.length ≤ 2 * p.1}) (fun p => ⟨88, [(1, .ptr (.loc 1) 0), (2, .ptr (.loc 2) 0), (3, .ptr (.loc 3) 0), (4, I .i64 n), (5, .pv (.sl 6 (insL th))), (6, .own (.loc 1000)), (7, I .i64 p.1.1)], [(.loc 1, some (.box 55 [.pv (.sl 1 (ints i)), .pv (.sl 1 (thsL t))])), (.loc 2, some (.box 55 [.pv (.v (.slice none 0 0)), .pv (.v (.slice none 0 0))])), (.loc 3, some (.box 55 [.pv (.sl 1 (ints i)), .own (.loc 1001)])), (.loc 1001, some (.own 64 1 (thsL ((t.take n).map (turnL bareF))))), (.loc 1000, some (.own 31 6 (insL p.1.2)))]⟩) (fun p => th.length - p.1.1) ⟨(0, []), by simp, by simp, by simp⟩ (by simp [insL_len, insL]) ?_
    rintro ⟨⟨j, acc⟩, hj, hq, ha⟩
    dsimp only at hj hq ha
    by_cases hjl : j < th.length
    · have hd : (j : Int) < (th.length : Int) := by omega
      have w3 : IntKind.wrap .i64 ((j : Int) + 1) = (j : Int) + 1 := wrap64s (by omega) (by omega)
      rw [List.drop_eq_getElem_cons hjl, turnL] at hq
      have hb := hbo j hjl
      generalize hx : th[j] = x at hq hb
      cases hbx : braF x.op
      · have ho : oneF bareF x (th.drop (j + 1)) = bareF x := by simp [oneF, hbx]
        rw [ho, ← List.append_assoc] at hq
        have n13 : ¬x.op = 13 := by intro e; rw [e] at hbx; simp [braF] at hbx
        have n14 : ¬x.op = 14 := by intro e; rw [e] at hbx; simp [braF] at hbx
        cases hbar : barF x.op
        · have hB : bareF x = [x] := by simp [bareF, hbar]
          rw [hB] at hq
          have hsk : skipsF x 0 = x := by simp [skipsF, hbx]
          repeat' (first
            | refine ar_end rfl ?_
            | refine ar_endD rfl (by kernel_rfl) ?_
            | refine ar_fin rfl ?_
            | refine ar_finD rfl (by kernel_rfl) ?_
            | refine ar_callV Try.call104 c_fence rfl rfl rfl rfl rfl (by simp; done) (by rfl) (by simp; done) ?_
            | refine ar_callV_if Try.call104 c_fence rfl rfl rfl rfl rfl rfl (by simp; done) rfl (by rfl) (by simp; done) ?_
            | refine ar_callV Try.call105 c_skips rfl rfl rfl rfl rfl (by simp; done) (by rfl) (by simp; done) ?_
            | refine ar_callV_if Try.call105 c_skips rfl rfl rfl rfl rfl rfl (by simp; done) rfl (by rfl) (by simp; done) ?_
            | refine ar_appO rfl rfl rfl rfl rfl (by simp; exact rfl) rfl (by simp; exact rfl) (by simp; exact rfl) (by simp; exact ⟨rfl, rfl⟩) rfl (by simp; exact rfl) (by simp; done) (by decide) (by simp [insL_len, thsL_len, maxLen]; try omega) ?_
            | refine lq_normR (.loc 80) (.loc 1000) [1, 2, 3, 4, 5, 6, 7] [.loc 1, .loc 2, .loc 3, .loc 1001, .loc 1000] (by simp; exact rfl) ⟨(j + 1, acc ++ [x]), by dsimp only; omega, hq, by simp; omega⟩ (by dsimp only; omega) (by simp [← insL_append, hsk]; simp [insL, inL])
            | refine ar_go3 _ rfl (by simp [insL_len, thsL_len, insL_getE, thsL_getE, inL, ints_len, hd, hjl, hx, w3, hbar, n13, n14, hsk]; exact ⟨rfl, rfl, rfl⟩) rfl ?_
            | refine aw_sregK 0 [0] ?_
            | refine aw_regK 0 [0] ?_
            | refine aw_sregK 1 [1, 2] ?_
            | refine aw_regK 1 [1, 2] ?_
            | refine aw_sregK 2 [1, 2, 3] ?_
            | refine aw_regK 2 [1, 2, 3] ?_
            | refine aw_sregK 3 [1, 2, 3, 4] ?_
            | refine aw_regK 3 [1, 2, 3, 4] ?_
            | refine aw_sregK 4 [1, 2, 3, 4] ?_
            | refine aw_regK 4 [1, 2, 3, 4] ?_
            | refine aw_sregK 5 [1, 2, 3, 4] ?_
            | refine aw_regK 5 [1, 2, 3, 4] ?_
            | refine aw_sregK 6 [1, 2, 3, 4, 5] ?_
            | refine aw_regK 6 [1, 2, 3, 4, 5] ?_
            | refine aw_sregK 7 [1, 2, 3, 4, 5, 6] ?_
            | refine aw_regK 7 [1, 2, 3, 4, 5, 6] ?_
            | refine aw_sregK 8 [1, 2, 3, 4, 5, 6, 7] ?_
            | refine aw_regK 8 [1, 2, 3, 4, 5, 6, 7] ?_
            | refine aw_sregK 9 [1, 2, 3, 4, 5, 6, 7] ?_
            | refine aw_regK 9 [1, 2, 3, 4, 5, 6, 7] ?_
            | refine aw_sregK 10 [1, 2, 3, 4, 5, 6, 7] ?_
            | refine aw_regK 10 [1, 2, 3, 4, 5, 6, 7] ?_
            | refine aw_sregK 11 [1, 2, 3, 4, 5, 6, 7] ?_
            | refine aw_regK 11 [1, 2, 3, 4, 5, 6, 7] ?_
            | refine aw_sregK 12 [1, 2, 3, 4, 5, 6, 7, 8] ?_
            | refine aw_regK 12 [1, 2, 3, 4, 5, 6, 7, 8] ?_
            | refine aw_sregK 13 [1, 2, 3, 4, 5, 6, 7, 8, 9] ?_
            | refine aw_regK 13 [1, 2, 3, 4, 5, 6, 7, 8, 9] ?_
            | refine aw_sregK 14 [1, 2, 3, 4, 5, 6, 7, 8, 9] ?_
            | refine aw_regK 14 [1, 2, 3, 4, 5, 6, 7, 8, 9] ?_
            | refine aw_sregK 15 [1, 2, 3, 4, 5, 6, 7, 8, 9] ?_
            | refine aw_regK 15 [1, 2, 3, 4, 5, 6, 7, 8, 9] ?_
            | refine aw_sregK 16 [1, 2, 3, 4, 5, 6, 7, 8, 9] ?_
            | refine aw_regK 16 [1, 2, 3, 4, 5, 6, 7, 8, 9] ?_
            | refine aw_sregK 17 [1, 2, 3, 4, 5, 6, 7, 8] ?_
            | refine aw_regK 17 [1, 2, 3, 4, 5, 6, 7, 8] ?_
            | refine aw_sregK 18 [1, 2, 3, 4, 6] ?_
            | refine aw_regK 18 [1, 2, 3, 4, 6] ?_
            | refine aw_sregK 19 [2, 3] ?_
            | refine aw_regK 19 [2, 3] ?_
            | refine aw_sreg ?_
            | refine aw_sregD mixed ?_
            | refine aw_ifT (b := true) rfl rfl ?_
            | refine aw_ifF (b := false) rfl rfl ?_
            | refine aw_ifT rfl (by assumption) ?_
            | refine aw_ifF rfl (by assumption) ?_
            | refine aw_ifT rfl (decide_eq_true (by assumption)) ?_
            | refine aw_ifF rfl (decide_eq_false (by assumption)) ?_
            | refine aw_rounds 1 ?_
            | refine awr_step ?_
            | refine aw_seq ?_
            | refine aw_block ?_
            | refine aw_skip ?_
            | refine aw_region ?_
            | refine aw_region_draw mixed ?_
            | refine aw_exit ?_
            | refine rq_exit ?_
            | refine blockQ_hit ?_
            | refine blockQ_miss (by decide) ?_
            | (refine ar_guard rfl rfl rfl rfl (fun h => ?_) (fun h => ?_) <;> (fail_if_success (cases h; done)) <;> (try simp at h) <;> (try subst h))
            | (refine aw_both rfl (fun h => ?_) (fun h => ?_) <;> (fail_if_success (cases h; done)) <;> (try simp at h) <;> (try subst h)))
        · have hB : bareF x = [] := by simp [bareF, hbar]
          rw [hB, List.append_nil] at hq
          repeat' (first
            | refine ar_end rfl ?_
            | refine ar_endD rfl (by kernel_rfl) ?_
            | refine ar_fin rfl ?_
            | refine ar_finD rfl (by kernel_rfl) ?_
            | refine ar_callV Try.call104 c_fence rfl rfl rfl rfl rfl (by simp; done) (by rfl) (by simp; done) ?_
            | refine ar_callV_if Try.call104 c_fence rfl rfl rfl rfl rfl rfl (by simp; done) rfl (by rfl) (by simp; done) ?_
            | refine lq_normN [1, 2, 3, 4, 5, 6, 7] [.loc 1, .loc 2, .loc 3, .loc 1001, .loc 1000] (by simp; exact rfl) ⟨(j + 1, acc), by dsimp only; omega, hq, by dsimp only; omega⟩ (by dsimp only; omega) (by simp)
            | refine ar_go3 _ rfl (by simp [insL_len, thsL_len, insL_getE, thsL_getE, inL, ints_len, hd, hjl, hx, w3, hbar]; exact ⟨rfl, rfl, rfl⟩) rfl ?_
            | refine aw_sregK 0 [0] ?_
            | refine aw_regK 0 [0] ?_
            | refine aw_sregK 1 [1, 2] ?_
            | refine aw_regK 1 [1, 2] ?_
            | refine aw_sregK 2 [1, 2, 3] ?_
            | refine aw_regK 2 [1, 2, 3] ?_
            | refine aw_sregK 3 [1, 2, 3, 4] ?_
            | refine aw_regK 3 [1, 2, 3, 4] ?_
            | refine aw_sregK 4 [1, 2, 3, 4] ?_
            | refine aw_regK 4 [1, 2, 3, 4] ?_
            | refine aw_sregK 5 [1, 2, 3, 4] ?_
            | refine aw_regK 5 [1, 2, 3, 4] ?_
            | refine aw_sregK 6 [1, 2, 3, 4, 5] ?_
            | refine aw_regK 6 [1, 2, 3, 4, 5] ?_
            | refine aw_sregK 7 [1, 2, 3, 4, 5, 6] ?_
            | refine aw_regK 7 [1, 2, 3, 4, 5, 6] ?_
            | refine aw_sregK 8 [1, 2, 3, 4, 5, 6, 7] ?_
            | refine aw_regK 8 [1, 2, 3, 4, 5, 6, 7] ?_
            | refine aw_sregK 9 [1, 2, 3, 4, 5, 6, 7] ?_
            | refine aw_regK 9 [1, 2, 3, 4, 5, 6, 7] ?_
            | refine aw_sregK 10 [1, 2, 3, 4, 5, 6, 7] ?_
            | refine aw_regK 10 [1, 2, 3, 4, 5, 6, 7] ?_
            | refine aw_sregK 11 [1, 2, 3, 4, 5, 6, 7] ?_
            | refine aw_regK 11 [1, 2, 3, 4, 5, 6, 7] ?_
            | refine aw_sregK 12 [1, 2, 3, 4, 5, 6, 7, 8] ?_
            | refine aw_regK 12 [1, 2, 3, 4, 5, 6, 7, 8] ?_
            | refine aw_sregK 13 [1, 2, 3, 4, 5, 6, 7, 8, 9] ?_
            | refine aw_regK 13 [1, 2, 3, 4, 5, 6, 7, 8, 9] ?_
            | refine aw_sregK 14 [1, 2, 3, 4, 5, 6, 7, 8, 9] ?_
            | refine aw_regK 14 [1, 2, 3, 4, 5, 6, 7, 8, 9] ?_
            | refine aw_sregK 15 [1, 2, 3, 4, 5, 6, 7, 8, 9] ?_
            | refine aw_regK 15 [1, 2, 3, 4, 5, 6, 7, 8, 9] ?_
            | refine aw_sregK 16 [1, 2, 3, 4, 5, 6, 7, 8, 9] ?_
            | refine aw_regK 16 [1, 2, 3, 4, 5, 6, 7, 8, 9] ?_
            | refine aw_sregK 17 [1, 2, 3, 4, 5, 6, 7, 8] ?_
            | refine aw_regK 17 [1, 2, 3, 4, 5, 6, 7, 8] ?_
            | refine aw_sregK 18 [1, 2, 3, 4, 6] ?_
            | refine aw_regK 18 [1, 2, 3, 4, 6] ?_
            | refine aw_sregK 19 [2, 3] ?_
            | refine aw_regK 19 [2, 3] ?_
            | refine aw_sreg ?_
            | refine aw_sregD mixed ?_
            | refine aw_ifT (b := true) rfl rfl ?_
            | refine aw_ifF (b := false) rfl rfl ?_
            | refine aw_ifT rfl (by assumption) ?_
            | refine aw_ifF rfl (by assumption) ?_
            | refine aw_ifT rfl (decide_eq_true (by assumption)) ?_
            | refine aw_ifF rfl (decide_eq_false (by assumption)) ?_
            | refine aw_seq ?_
            | refine aw_block ?_
            | refine aw_skip ?_
            | refine aw_region ?_
            | refine aw_region_draw mixed ?_
            | refine aw_exit ?_
            | refine rq_exit ?_
            | refine blockQ_hit ?_
            | refine blockQ_miss (by decide) ?_
            | (refine ar_guard rfl rfl rfl rfl (fun h => ?_) (fun h => ?_) <;> (fail_if_success (cases h; done)) <;> (try simp at h) <;> (try subst h))
            | (refine aw_both rfl (fun h => ?_) (fun h => ?_) <;> (fail_if_success (cases h; done)) <;> (try simp at h) <;> (try subst h)))
      · obtain ⟨m0, m1⟩ := hb hbx
        obtain ⟨M, hM⟩ : ∃ M : Nat, x.m = (M : Int) := ⟨x.m.toNat, by omega⟩
        have ho : oneF bareF x (th.drop (j + 1)) = [setM x (cntF bareF ((th.drop (j + 1)).take M))] := by simp [oneF, hbx, hM]
        rw [ho, ← List.append_assoc] at hq
        have hyl : ((th.drop (j + 1)).take M).length = M := by simp; omega
        generalize hys : (th.drop (j + 1)).take M = ys at hq hyl
        have hop : x.op = 13 ∨ x.op = 14 := by unfold braF at hbx; simpa using hbx
        rcases hop with hk | hk
        · have hTo : x.op = 13 := hk
          have hbar : barF x.op = false := by rw [hTo]; decide
          repeat' (first
            | refine ar_end rfl ?_
            | refine ar_endD rfl (by kernel_rfl) ?_
            | refine ar_fin rfl ?_
            | refine ar_finD rfl (by kernel_rfl) ?_
            | refine ar_callV Try.call104 c_fence rfl rfl rfl rfl rfl (by simp; done) (by rfl) (by simp; done) ?_
            | refine ar_callV_if Try.call104 c_fence rfl rfl rfl rfl rfl rfl (by simp; done) rfl (by rfl) (by simp; done) ?_
            | refine ar_go3 _ rfl (by simp [insL_len, thsL_len, insL_getE, thsL_getE, inL, ints_len, hd, hjl, hx, hbar]; exact ⟨rfl, rfl, rfl⟩) rfl ?_
            | refine aw_sregK 0 [0] ?_
            | refine aw_regK 0 [0] ?_
            | refine aw_sregK 1 [1, 2] ?_
            | refine aw_regK 1 [1, 2] ?_
            | refine aw_sregK 2 [1, 2, 3] ?_
            | refine aw_regK 2 [1, 2, 3] ?_
            | refine aw_sregK 3 [1, 2, 3, 4] ?_
            | refine aw_regK 3 [1, 2, 3, 4] ?_
            | refine aw_sregK 4 [1, 2, 3, 4] ?_
            | refine aw_regK 4 [1, 2, 3, 4] ?_
            | refine aw_sregK 5 [1, 2, 3, 4] ?_
            | refine aw_regK 5 [1, 2, 3, 4] ?_
            | refine aw_sregK 6 [1, 2, 3, 4, 5] ?_
            | refine aw_regK 6 [1, 2, 3, 4, 5] ?_
            | refine aw_sregK 7 [1, 2, 3, 4, 5, 6] ?_
            | refine aw_regK 7 [1, 2, 3, 4, 5, 6] ?_
            | refine aw_sregK 8 [1, 2, 3, 4, 5, 6, 7] ?_
            | refine aw_regK 8 [1, 2, 3, 4, 5, 6, 7] ?_
            | refine aw_sregK 9 [1, 2, 3, 4, 5, 6, 7] ?_
            | refine aw_regK 9 [1, 2, 3, 4, 5, 6, 7] ?_
            | refine aw_sregK 10 [1, 2, 3, 4, 5, 6, 7] ?_
            | refine aw_regK 10 [1, 2, 3, 4, 5, 6, 7] ?_
            | refine aw_sregK 11 [1, 2, 3, 4, 5, 6, 7] ?_
            | refine aw_regK 11 [1, 2, 3, 4, 5, 6, 7] ?_
            | refine aw_sregK 12 [1, 2, 3, 4, 5, 6, 7, 8] ?_
            | refine aw_regK 12 [1, 2, 3, 4, 5, 6, 7, 8] ?_
            | refine aw_sregK 13 [1, 2, 3, 4, 5, 6, 7, 8, 9] ?_
            | refine aw_regK 13 [1, 2, 3, 4, 5, 6, 7, 8, 9] ?_
            | refine aw_sregK 14 [1, 2, 3, 4, 5, 6, 7, 8, 9] ?_
            | refine aw_regK 14 [1, 2, 3, 4, 5, 6, 7, 8, 9] ?_
            | refine aw_sregK 15 [1, 2, 3, 4, 5, 6, 7, 8, 9] ?_
            | refine aw_regK 15 [1, 2, 3, 4, 5, 6, 7, 8, 9] ?_
            | refine aw_sregK 16 [1, 2, 3, 4, 5, 6, 7, 8, 9] ?_
            | refine aw_regK 16 [1, 2, 3, 4, 5, 6, 7, 8, 9] ?_
            | refine aw_sregK 17 [1, 2, 3, 4, 5, 6, 7, 8] ?_
            | refine aw_regK 17 [1, 2, 3, 4, 5, 6, 7, 8] ?_
            | refine aw_sregK 18 [1, 2, 3, 4, 6] ?_
            | refine aw_regK 18 [1, 2, 3, 4, 6] ?_
            | refine aw_sregK 19 [2, 3] ?_
            | refine aw_regK 19 [2, 3] ?_
            | refine aw_sreg ?_
            | refine aw_sregD mixed ?_
            | refine aw_ifT (b := true) rfl rfl ?_
            | refine aw_ifF (b := false) rfl rfl ?_
            | refine aw_ifT rfl (by assumption) ?_
            | refine aw_ifF rfl (by assumption) ?_
            | refine aw_ifT rfl (decide_eq_true (by assumption)) ?_
            | refine aw_ifF rfl (decide_eq_false (by assumption)) ?_
            | refine aw_seq ?_
            | refine aw_block ?_
            | refine aw_skip ?_
            | refine aw_region ?_
            | refine aw_region_draw mixed ?_
            | refine aw_exit ?_
            | refine rq_exit ?_
            | refine blockQ_hit ?_
            | refine blockQ_miss (by decide) ?_
            | (refine ar_guard rfl rfl rfl rfl (fun h => ?_) (fun h => ?_) <;> (fail_if_success (cases h; done)) <;> (try simp at h) <;> (try subst h))
            | (refine aw_both rfl (fun h => ?_) (fun h => ?_) <;> (fail_if_success (cases h; done)) <;> (try simp at h) <;> (try subst h)))
          refine aw_loopN [1, 2, 3, 4, 5, 6, 7, 8, 9] [.loc 1, .loc 2, .loc 3, .loc 1001, .loc 1000] (by simp; exact rfl) (ι := {q : Nat // q ≤ M}) (fun q => ⟨88, [(1, .ptr (.loc 1) 0), (2, .ptr (.loc 2) 0), (3, .ptr (.loc 3) 0), (4, I .i64 n), (5, .pv (.sl 6 (insL th))), (6, .own (.loc 1000)), (7, I .i64 j), (8, I .i64 (cntF bareF (ys.take q.1))), (9, I .i64 q.1)], [(.loc 1, some (.box 55 [.pv (.sl 1 (ints i)), .pv (.sl 1 (thsL t))])), (.loc 2, some (.box 55 [.pv (.v (.slice none 0 0)), .pv (.v (.slice none 0 0))])), (.loc 3, some (.box 55 [.pv (.sl 1 (ints i)), .own (.loc 1001)])), (.loc 1001, some (.own 64 1 (thsL ((t.take n).map (turnL bareF))))), (.loc 1000, some (.own 31 6 (insL acc)))]⟩) (fun q => M - q.1) ⟨0, by omega⟩ (by simp [insL_len, insL, cntF]) ?_
          rintro ⟨q, hq1⟩
          by_cases hql : q < M
          · have hqd : (q : Int) < x.m := by omega
            have hqy : q < ys.length := by omega
            have w5 : IntKind.wrap .i64 ((q : Int) + 1) = (q : Int) + 1 := wrap64s (by omega) (by omega)
            have w7 : IntKind.wrap .i64 ((j : Int) + 1 + (q : Int)) = (j : Int) + 1 + (q : Int) := wrap64s (by omega) (by omega)
            have t7 : ((j : Int) + 1 + (q : Int)).toNat = j + 1 + q := by omega
            have p7 : 0 ≤ (j : Int) + 1 + (q : Int) := by omega
            have l7 : j + 1 + q < th.length := by omega
            have e1 := cntF_succ bareF hqy
            have e2 := cntF_bnd bare_2 (ys.take q)
            have e3 : ((ys.take q).length : Int) ≤ 40 := by rw [List.length_take]; omega
            have hy : th[j + 1 + q] = ys[q] := by simp [← hys, List.getElem_take, List.getElem_drop]
            generalize hyv : ys[q] = y at e1 hy
            have w6 : IntKind.wrap .i64 (cntF bareF (ys.take q) + 1) = cntF bareF (ys.take q) + 1 := wrap64s (by omega) (by omega)
            cases hyb : barF y.op
            · have e5 : (bareF y).length = 1 := by simp [bareF, hyb]
              rw [e5] at e1
              repeat' (first
                | refine ar_end rfl ?_
                | refine ar_endD rfl (by kernel_rfl) ?_
                | refine ar_fin rfl ?_
                | refine ar_finD rfl (by kernel_rfl) ?_
                | refine ar_callV Try.call104 c_fence rfl rfl rfl rfl rfl (by simp; done) (by rfl) (by simp; done) ?_
                | refine ar_callV_if Try.call104 c_fence rfl rfl rfl rfl rfl rfl (by simp; done) rfl (by rfl) (by simp; done) ?_
                | refine lq_normN [1, 2, 3, 4, 5, 6, 7, 8, 9] [.loc 1, .loc 2, .loc 3, .loc 1001, .loc 1000] (by simp; exact rfl) ⟨q + 1, by omega⟩ (by dsimp only; omega) (by simp [e1])
                | refine ar_go3 _ rfl (by simp [insL_len, thsL_len, insL_getE, thsL_getE, inL, ints_len, hd, hjl, hx, hqd, hTo, w3, w5, w6, w7, t7, p7, l7, hy, hyb]; exact ⟨rfl, rfl, rfl⟩) rfl ?_
                | refine aw_sregK 0 [0] ?_
                | refine aw_regK 0 [0] ?_
                | refine aw_sregK 1 [1, 2] ?_
                | refine aw_regK 1 [1, 2] ?_
                | refine aw_sregK 2 [1, 2, 3] ?_
                | refine aw_regK 2 [1, 2, 3] ?_
                | refine aw_sregK 3 [1, 2, 3, 4] ?_
                | refine aw_regK 3 [1, 2, 3, 4] ?_
                | refine aw_sregK 4 [1, 2, 3, 4] ?_
                | refine aw_regK 4 [1, 2, 3, 4] ?_
                | refine aw_sregK 5 [1, 2, 3, 4] ?_
                | refine aw_regK 5 [1, 2, 3, 4] ?_
                | refine aw_sregK 6 [1, 2, 3, 4, 5] ?_
                | refine aw_regK 6 [1, 2, 3, 4, 5] ?_
                | refine aw_sregK 7 [1, 2, 3, 4, 5, 6] ?_
                | refine aw_regK 7 [1, 2, 3, 4, 5, 6] ?_
                | refine aw_sregK 8 [1, 2, 3, 4, 5, 6, 7] ?_
                | refine aw_regK 8 [1, 2, 3, 4, 5, 6, 7] ?_
                | refine aw_sregK 9 [1, 2, 3, 4, 5, 6, 7] ?_
                | refine aw_regK 9 [1, 2, 3, 4, 5, 6, 7] ?_
                | refine aw_sregK 10 [1, 2, 3, 4, 5, 6, 7] ?_
                | refine aw_regK 10 [1, 2, 3, 4, 5, 6, 7] ?_
                | refine aw_sregK 11 [1, 2, 3, 4, 5, 6, 7] ?_
                | refine aw_regK 11 [1, 2, 3, 4, 5, 6, 7] ?_
                | refine aw_sregK 12 [1, 2, 3, 4, 5, 6, 7, 8] ?_
                | refine aw_regK 12 [1, 2, 3, 4, 5, 6, 7, 8] ?_
                | refine aw_sregK 13 [1, 2, 3, 4, 5, 6, 7, 8, 9] ?_
                | refine aw_regK 13 [1, 2, 3, 4, 5, 6, 7, 8, 9] ?_
                | refine aw_sregK 14 [1, 2, 3, 4, 5, 6, 7, 8, 9] ?_
                | refine aw_regK 14 [1, 2, 3, 4, 5, 6, 7, 8, 9] ?_
                | refine aw_sregK 15 [1, 2, 3, 4, 5, 6, 7, 8, 9] ?_
                | refine aw_regK 15 [1, 2, 3, 4, 5, 6, 7, 8, 9] ?_
                | refine aw_sregK 16 [1, 2, 3, 4, 5, 6, 7, 8, 9] ?_
                | refine aw_regK 16 [1, 2, 3, 4, 5, 6, 7, 8, 9] ?_
                | refine aw_sregK 17 [1, 2, 3, 4, 5, 6, 7, 8] ?_
                | refine aw_regK 17 [1, 2, 3, 4, 5, 6, 7, 8] ?_
                | refine aw_sregK 18 [1, 2, 3, 4, 6] ?_
                | refine aw_regK 18 [1, 2, 3, 4, 6] ?_
                | refine aw_sregK 19 [2, 3] ?_
                | refine aw_regK 19 [2, 3] ?_
                | refine aw_sreg ?_
                | refine aw_sregD mixed ?_
                | refine aw_ifT (b := true) rfl rfl ?_
                | refine aw_ifF (b := false) rfl rfl ?_
                | refine aw_ifT rfl (by assumption) ?_
                | refine aw_ifF rfl (by assumption) ?_
                | refine aw_ifT rfl (decide_eq_true (by assumption)) ?_
                | refine aw_ifF rfl (decide_eq_false (by assumption)) ?_
                | refine aw_seq ?_
                | refine aw_block ?_
                | refine aw_skip ?_
                | refine aw_region ?_
                | refine aw_region_draw mixed ?_
                | refine aw_exit ?_
                | refine rq_exit ?_
                | refine blockQ_hit ?_
                | refine blockQ_miss (by decide) ?_
                | (refine ar_guard rfl rfl rfl rfl (fun h => ?_) (fun h => ?_) <;> (fail_if_success (cases h; done)) <;> (try simp at h) <;> (try subst h))
                | (refine aw_both rfl (fun h => ?_) (fun h => ?_) <;> (fail_if_success (cases h; done)) <;> (try simp at h) <;> (try subst h)))
            · have e5 : (bareF y).length = 0 := by simp [bareF, hyb]
              rw [e5] at e1
              repeat' (first
                | refine ar_end rfl ?_
                | refine ar_endD rfl (by kernel_rfl) ?_
                | refine ar_fin rfl ?_
                | refine ar_finD rfl (by kernel_rfl) ?_
                | refine ar_callV Try.call104 c_fence rfl rfl rfl rfl rfl (by simp; done) (by rfl) (by simp; done) ?_
                | refine ar_callV_if Try.call104 c_fence rfl rfl rfl rfl rfl rfl (by simp; done) rfl (by rfl) (by simp; done) ?_
                | refine lq_normN [1, 2, 3, 4, 5, 6, 7, 8, 9] [.loc 1, .loc 2, .loc 3, .loc 1001, .loc 1000] (by simp; exact rfl) ⟨q + 1, by omega⟩ (by dsimp only; omega) (by simp [e1])
                | refine ar_go3 _ rfl (by simp [insL_len, thsL_len, insL_getE, thsL_getE, inL, ints_len, hd, hjl, hx, hqd, hTo, w3, w5, w6, w7, t7, p7, l7, hy, hyb]; exact ⟨rfl, rfl, rfl⟩) rfl ?_
                | refine aw_sregK 0 [0] ?_
                | refine aw_regK 0 [0] ?_
                | refine aw_sregK 1 [1, 2] ?_
                | refine aw_regK 1 [1, 2] ?_
                | refine aw_sregK 2 [1, 2, 3] ?_
                | refine aw_regK 2 [1, 2, 3] ?_
                | refine aw_sregK 3 [1, 2, 3, 4] ?_
                | refine aw_regK 3 [1, 2, 3, 4] ?_
                | refine aw_sregK 4 [1, 2, 3, 4] ?_
                | refine aw_regK 4 [1, 2, 3, 4] ?_
                | refine aw_sregK 5 [1, 2, 3, 4] ?_
                | refine aw_regK 5 [1, 2, 3, 4] ?_
                | refine aw_sregK 6 [1, 2, 3, 4, 5] ?_
                | refine aw_regK 6 [1, 2, 3, 4, 5] ?_
                | refine aw_sregK 7 [1, 2, 3, 4, 5, 6] ?_
                | refine aw_regK 7 [1, 2, 3, 4, 5, 6] ?_
                | refine aw_sregK 8 [1, 2, 3, 4, 5, 6, 7] ?_
                | refine aw_regK 8 [1, 2, 3, 4, 5, 6, 7] ?_
                | refine aw_sregK 9 [1, 2, 3, 4, 5, 6, 7] ?_
                | refine aw_regK 9 [1, 2, 3, 4, 5, 6, 7] ?_
                | refine aw_sregK 10 [1, 2, 3, 4, 5, 6, 7] ?_
                | refine aw_regK 10 [1, 2, 3, 4, 5, 6, 7] ?_
                | refine aw_sregK 11 [1, 2, 3, 4, 5, 6, 7] ?_
                | refine aw_regK 11 [1, 2, 3, 4, 5, 6, 7] ?_
                | refine aw_sregK 12 [1, 2, 3, 4, 5, 6, 7, 8] ?_
                | refine aw_regK 12 [1, 2, 3, 4, 5, 6, 7, 8] ?_
                | refine aw_sregK 13 [1, 2, 3, 4, 5, 6, 7, 8, 9] ?_
                | refine aw_regK 13 [1, 2, 3, 4, 5, 6, 7, 8, 9] ?_
                | refine aw_sregK 14 [1, 2, 3, 4, 5, 6, 7, 8, 9] ?_
                | refine aw_regK 14 [1, 2, 3, 4, 5, 6, 7, 8, 9] ?_
                | refine aw_sregK 15 [1, 2, 3, 4, 5, 6, 7, 8, 9] ?_
                | refine aw_regK 15 [1, 2, 3, 4, 5, 6, 7, 8, 9] ?_
                | refine aw_sregK 16 [1, 2, 3, 4, 5, 6, 7, 8, 9] ?_
                | refine aw_regK 16 [1, 2, 3, 4, 5, 6, 7, 8, 9] ?_
                | refine aw_sregK 17 [1, 2, 3, 4, 5, 6, 7, 8] ?_
                | refine aw_regK 17 [1, 2, 3, 4, 5, 6, 7, 8] ?_
                | refine aw_sregK 18 [1, 2, 3, 4, 6] ?_
                | refine aw_regK 18 [1, 2, 3, 4, 6] ?_
                | refine aw_sregK 19 [2, 3] ?_
                | refine aw_regK 19 [2, 3] ?_
                | refine aw_sreg ?_
                | refine aw_sregD mixed ?_
                | refine aw_ifT (b := true) rfl rfl ?_
                | refine aw_ifF (b := false) rfl rfl ?_
                | refine aw_ifT rfl (by assumption) ?_
                | refine aw_ifF rfl (by assumption) ?_
                | refine aw_ifT rfl (decide_eq_true (by assumption)) ?_
                | refine aw_ifF rfl (decide_eq_false (by assumption)) ?_
                | refine aw_seq ?_
                | refine aw_block ?_
                | refine aw_skip ?_
                | refine aw_region ?_
                | refine aw_region_draw mixed ?_
                | refine aw_exit ?_
                | refine rq_exit ?_
                | refine blockQ_hit ?_
                | refine blockQ_miss (by decide) ?_
                | (refine ar_guard rfl rfl rfl rfl (fun h => ?_) (fun h => ?_) <;> (fail_if_success (cases h; done)) <;> (try simp at h) <;> (try subst h))
                | (refine aw_both rfl (fun h => ?_) (fun h => ?_) <;> (fail_if_success (cases h; done)) <;> (try simp at h) <;> (try subst h)))
          · have hqd : ¬(q : Int) < x.m := by omega
            have et : ys.take q = ys := List.take_of_length_le (by omega)
            have hsk : skipsF x (cntF bareF ys) = setM x (cntF bareF ys) := by simp [skipsF, hbx]
            repeat' (first
              | refine ar_end rfl ?_
              | refine ar_endD rfl (by kernel_rfl) ?_
              | refine ar_fin rfl ?_
              | refine ar_finD rfl (by kernel_rfl) ?_
              | refine ar_callV Try.call105 c_skips rfl rfl rfl rfl rfl (by simp; done) (by rfl) (by simp; done) ?_
              | refine ar_callV_if Try.call105 c_skips rfl rfl rfl rfl rfl rfl (by simp; done) rfl (by rfl) (by simp; done) ?_
              | refine ar_appO rfl rfl rfl rfl rfl (by simp; exact rfl) rfl (by simp; exact rfl) (by simp; exact rfl) (by simp; exact ⟨rfl, rfl⟩) rfl (by simp; exact rfl) (by simp; done) (by decide) (by simp [insL_len, thsL_len, maxLen]; try omega) ?_
              | refine lq_exit ?_
              | refine lq_normR (.loc 80) (.loc 1000) [1, 2, 3, 4, 5, 6, 7] [.loc 1, .loc 2, .loc 3, .loc 1001, .loc 1000] (by simp; exact rfl) ⟨(j + 1, acc ++ [setM x (cntF bareF ys)]), by dsimp only; omega, hq, by simp; omega⟩ (by dsimp only; omega) (by simp [← insL_append, hsk]; simp [insL, setM, inL])
              | refine ar_go3 _ rfl (by simp [insL_len, thsL_len, insL_getE, thsL_getE, inL, ints_len, hd, hjl, hx, hqd, et, w3, hsk]; exact ⟨rfl, rfl, rfl⟩) rfl ?_
              | refine aw_sregK 0 [0] ?_
              | refine aw_regK 0 [0] ?_
              | refine aw_sregK 1 [1, 2] ?_
              | refine aw_regK 1 [1, 2] ?_
              | refine aw_sregK 2 [1, 2, 3] ?_
              | refine aw_regK 2 [1, 2, 3] ?_
              | refine aw_sregK 3 [1, 2, 3, 4] ?_
              | refine aw_regK 3 [1, 2, 3, 4] ?_
              | refine aw_sregK 4 [1, 2, 3, 4] ?_
              | refine aw_regK 4 [1, 2, 3, 4] ?_
              | refine aw_sregK 5 [1, 2, 3, 4] ?_
              | refine aw_regK 5 [1, 2, 3, 4] ?_
              | refine aw_sregK 6 [1, 2, 3, 4, 5] ?_
              | refine aw_regK 6 [1, 2, 3, 4, 5] ?_
              | refine aw_sregK 7 [1, 2, 3, 4, 5, 6] ?_
              | refine aw_regK 7 [1, 2, 3, 4, 5, 6] ?_
              | refine aw_sregK 8 [1, 2, 3, 4, 5, 6, 7] ?_
              | refine aw_regK 8 [1, 2, 3, 4, 5, 6, 7] ?_
              | refine aw_sregK 9 [1, 2, 3, 4, 5, 6, 7] ?_
              | refine aw_regK 9 [1, 2, 3, 4, 5, 6, 7] ?_
              | refine aw_sregK 10 [1, 2, 3, 4, 5, 6, 7] ?_
              | refine aw_regK 10 [1, 2, 3, 4, 5, 6, 7] ?_
              | refine aw_sregK 11 [1, 2, 3, 4, 5, 6, 7] ?_
              | refine aw_regK 11 [1, 2, 3, 4, 5, 6, 7] ?_
              | refine aw_sregK 12 [1, 2, 3, 4, 5, 6, 7, 8] ?_
              | refine aw_regK 12 [1, 2, 3, 4, 5, 6, 7, 8] ?_
              | refine aw_sregK 13 [1, 2, 3, 4, 5, 6, 7, 8, 9] ?_
              | refine aw_regK 13 [1, 2, 3, 4, 5, 6, 7, 8, 9] ?_
              | refine aw_sregK 14 [1, 2, 3, 4, 5, 6, 7, 8, 9] ?_
              | refine aw_regK 14 [1, 2, 3, 4, 5, 6, 7, 8, 9] ?_
              | refine aw_sregK 15 [1, 2, 3, 4, 5, 6, 7, 8, 9] ?_
              | refine aw_regK 15 [1, 2, 3, 4, 5, 6, 7, 8, 9] ?_
              | refine aw_sregK 16 [1, 2, 3, 4, 5, 6, 7, 8, 9] ?_
              | refine aw_regK 16 [1, 2, 3, 4, 5, 6, 7, 8, 9] ?_
              | refine aw_sregK 17 [1, 2, 3, 4, 5, 6, 7, 8] ?_
              | refine aw_regK 17 [1, 2, 3, 4, 5, 6, 7, 8] ?_
              | refine aw_sregK 18 [1, 2, 3, 4, 6] ?_
              | refine aw_regK 18 [1, 2, 3, 4, 6] ?_
              | refine aw_sregK 19 [2, 3] ?_
              | refine aw_regK 19 [2, 3] ?_
              | refine aw_sreg ?_
              | refine aw_sregD mixed ?_
              | refine aw_ifT (b := true) rfl rfl ?_
              | refine aw_ifF (b := false) rfl rfl ?_
              | refine aw_ifT rfl (by assumption) ?_
              | refine aw_ifF rfl (by assumption) ?_
              | refine aw_ifT rfl (decide_eq_true (by assumption)) ?_
              | refine aw_ifF rfl (decide_eq_false (by assumption)) ?_
              | refine aw_seq ?_
              | refine aw_block ?_
              | refine aw_skip ?_
              | refine aw_region ?_
              | refine aw_region_draw mixed ?_
              | refine aw_exit ?_
              | refine rq_exit ?_
              | refine blockQ_hit ?_
              | refine blockQ_miss (by decide) ?_
              | (refine ar_guard rfl rfl rfl rfl (fun h => ?_) (fun h => ?_) <;> (fail_if_success (cases h; done)) <;> (try simp at h) <;> (try subst h))
              | (refine aw_both rfl (fun h => ?_) (fun h => ?_) <;> (fail_if_success (cases h; done)) <;> (try simp at h) <;> (try subst h)))

        · have hTo : x.op = 14 := hk
          have hbar : barF x.op = false := by rw [hTo]; decide
          repeat' (first
            | refine ar_end rfl ?_
            | refine ar_endD rfl (by kernel_rfl) ?_
            | refine ar_fin rfl ?_
            | refine ar_finD rfl (by kernel_rfl) ?_
            | refine ar_callV Try.call104 c_fence rfl rfl rfl rfl rfl (by simp; done) (by rfl) (by simp; done) ?_
            | refine ar_callV_if Try.call104 c_fence rfl rfl rfl rfl rfl rfl (by simp; done) rfl (by rfl) (by simp; done) ?_
            | refine ar_go3 _ rfl (by simp [insL_len, thsL_len, insL_getE, thsL_getE, inL, ints_len, hd, hjl, hx, hbar]; exact ⟨rfl, rfl, rfl⟩) rfl ?_
            | refine aw_sregK 0 [0] ?_
            | refine aw_regK 0 [0] ?_
            | refine aw_sregK 1 [1, 2] ?_
            | refine aw_regK 1 [1, 2] ?_
            | refine aw_sregK 2 [1, 2, 3] ?_
            | refine aw_regK 2 [1, 2, 3] ?_
            | refine aw_sregK 3 [1, 2, 3, 4] ?_
            | refine aw_regK 3 [1, 2, 3, 4] ?_
            | refine aw_sregK 4 [1, 2, 3, 4] ?_
            | refine aw_regK 4 [1, 2, 3, 4] ?_
            | refine aw_sregK 5 [1, 2, 3, 4] ?_
            | refine aw_regK 5 [1, 2, 3, 4] ?_
            | refine aw_sregK 6 [1, 2, 3, 4, 5] ?_
            | refine aw_regK 6 [1, 2, 3, 4, 5] ?_
            | refine aw_sregK 7 [1, 2, 3, 4, 5, 6] ?_
            | refine aw_regK 7 [1, 2, 3, 4, 5, 6] ?_
            | refine aw_sregK 8 [1, 2, 3, 4, 5, 6, 7] ?_
            | refine aw_regK 8 [1, 2, 3, 4, 5, 6, 7] ?_
            | refine aw_sregK 9 [1, 2, 3, 4, 5, 6, 7] ?_
            | refine aw_regK 9 [1, 2, 3, 4, 5, 6, 7] ?_
            | refine aw_sregK 10 [1, 2, 3, 4, 5, 6, 7] ?_
            | refine aw_regK 10 [1, 2, 3, 4, 5, 6, 7] ?_
            | refine aw_sregK 11 [1, 2, 3, 4, 5, 6, 7] ?_
            | refine aw_regK 11 [1, 2, 3, 4, 5, 6, 7] ?_
            | refine aw_sregK 12 [1, 2, 3, 4, 5, 6, 7, 8] ?_
            | refine aw_regK 12 [1, 2, 3, 4, 5, 6, 7, 8] ?_
            | refine aw_sregK 13 [1, 2, 3, 4, 5, 6, 7, 8, 9] ?_
            | refine aw_regK 13 [1, 2, 3, 4, 5, 6, 7, 8, 9] ?_
            | refine aw_sregK 14 [1, 2, 3, 4, 5, 6, 7, 8, 9] ?_
            | refine aw_regK 14 [1, 2, 3, 4, 5, 6, 7, 8, 9] ?_
            | refine aw_sregK 15 [1, 2, 3, 4, 5, 6, 7, 8, 9] ?_
            | refine aw_regK 15 [1, 2, 3, 4, 5, 6, 7, 8, 9] ?_
            | refine aw_sregK 16 [1, 2, 3, 4, 5, 6, 7, 8, 9] ?_
            | refine aw_regK 16 [1, 2, 3, 4, 5, 6, 7, 8, 9] ?_
            | refine aw_sregK 17 [1, 2, 3, 4, 5, 6, 7, 8] ?_
            | refine aw_regK 17 [1, 2, 3, 4, 5, 6, 7, 8] ?_
            | refine aw_sregK 18 [1, 2, 3, 4, 6] ?_
            | refine aw_regK 18 [1, 2, 3, 4, 6] ?_
            | refine aw_sregK 19 [2, 3] ?_
            | refine aw_regK 19 [2, 3] ?_
            | refine aw_sreg ?_
            | refine aw_sregD mixed ?_
            | refine aw_ifT (b := true) rfl rfl ?_
            | refine aw_ifF (b := false) rfl rfl ?_
            | refine aw_ifT rfl (by assumption) ?_
            | refine aw_ifF rfl (by assumption) ?_
            | refine aw_ifT rfl (decide_eq_true (by assumption)) ?_
            | refine aw_ifF rfl (decide_eq_false (by assumption)) ?_
            | refine aw_seq ?_
            | refine aw_block ?_
            | refine aw_skip ?_
            | refine aw_region ?_
            | refine aw_region_draw mixed ?_
            | refine aw_exit ?_
            | refine rq_exit ?_
            | refine blockQ_hit ?_
            | refine blockQ_miss (by decide) ?_
            | (refine ar_guard rfl rfl rfl rfl (fun h => ?_) (fun h => ?_) <;> (fail_if_success (cases h; done)) <;> (try simp at h) <;> (try subst h))
            | (refine aw_both rfl (fun h => ?_) (fun h => ?_) <;> (fail_if_success (cases h; done)) <;> (try simp at h) <;> (try subst h)))
          refine aw_loopN [1, 2, 3, 4, 5, 6, 7, 8, 9] [.loc 1, .loc 2, .loc 3, .loc 1001, .loc 1000] (by simp; exact rfl) (ι := {q : Nat // q ≤ M}) (fun q => ⟨88, [(1, .ptr (.loc 1) 0), (2, .ptr (.loc 2) 0), (3, .ptr (.loc 3) 0), (4, I .i64 n), (5, .pv (.sl 6 (insL th))), (6, .own (.loc 1000)), (7, I .i64 j), (8, I .i64 (cntF bareF (ys.take q.1))), (9, I .i64 q.1)], [(.loc 1, some (.box 55 [.pv (.sl 1 (ints i)), .pv (.sl 1 (thsL t))])), (.loc 2, some (.box 55 [.pv (.v (.slice none 0 0)), .pv (.v (.slice none 0 0))])), (.loc 3, some (.box 55 [.pv (.sl 1 (ints i)), .own (.loc 1001)])), (.loc 1001, some (.own 64 1 (thsL ((t.take n).map (turnL bareF))))), (.loc 1000, some (.own 31 6 (insL acc)))]⟩) (fun q => M - q.1) ⟨0, by omega⟩ (by simp [insL_len, insL, cntF]) ?_
          rintro ⟨q, hq1⟩
          by_cases hql : q < M
          · have hqd : (q : Int) < x.m := by omega
            have hqy : q < ys.length := by omega
            have w5 : IntKind.wrap .i64 ((q : Int) + 1) = (q : Int) + 1 := wrap64s (by omega) (by omega)
            have w7 : IntKind.wrap .i64 ((j : Int) + 1 + (q : Int)) = (j : Int) + 1 + (q : Int) := wrap64s (by omega) (by omega)
            have t7 : ((j : Int) + 1 + (q : Int)).toNat = j + 1 + q := by omega
            have p7 : 0 ≤ (j : Int) + 1 + (q : Int) := by omega
            have l7 : j + 1 + q < th.length := by omega
            have e1 := cntF_succ bareF hqy
            have e2 := cntF_bnd bare_2 (ys.take q)
            have e3 : ((ys.take q).length : Int) ≤ 40 := by rw [List.length_take]; omega
            have hy : th[j + 1 + q] = ys[q] := by simp [← hys, List.getElem_take, List.getElem_drop]
            generalize hyv : ys[q] = y at e1 hy
            have w6 : IntKind.wrap .i64 (cntF bareF (ys.take q) + 1) = cntF bareF (ys.take q) + 1 := wrap64s (by omega) (by omega)
            cases hyb : barF y.op
            · have e5 : (bareF y).length = 1 := by simp [bareF, hyb]
              rw [e5] at e1
              repeat' (first
                | refine ar_end rfl ?_
                | refine ar_endD rfl (by kernel_rfl) ?_
                | refine ar_fin rfl ?_
                | refine ar_finD rfl (by kernel_rfl) ?_
                | refine ar_callV Try.call104 c_fence rfl rfl rfl rfl rfl (by simp; done) (by rfl) (by simp; done) ?_
                | refine ar_callV_if Try.call104 c_fence rfl rfl rfl rfl rfl rfl (by simp; done) rfl (by rfl) (by simp; done) ?_
                | refine lq_normN [1, 2, 3, 4, 5, 6, 7, 8, 9] [.loc 1, .loc 2, .loc 3, .loc 1001, .loc 1000] (by simp; exact rfl) ⟨q + 1, by omega⟩ (by dsimp only; omega) (by simp [e1])
                | refine ar_go3 _ rfl (by simp [insL_len, thsL_len, insL_getE, thsL_getE, inL, ints_len, hd, hjl, hx, hqd, hTo, w3, w5, w6, w7, t7, p7, l7, hy, hyb]; exact ⟨rfl, rfl, rfl⟩) rfl ?_
                | refine aw_sregK 0 [0] ?_
                | refine aw_regK 0 [0] ?_
                | refine aw_sregK 1 [1, 2] ?_
                | refine aw_regK 1 [1, 2] ?_
                | refine aw_sregK 2 [1, 2, 3] ?_
                | refine aw_regK 2 [1, 2, 3] ?_
                | refine aw_sregK 3 [1, 2, 3, 4] ?_
                | refine aw_regK 3 [1, 2, 3, 4] ?_
                | refine aw_sregK 4 [1, 2, 3, 4] ?_
                | refine aw_regK 4 [1, 2, 3, 4] ?_
                | refine aw_sregK 5 [1, 2, 3, 4] ?_
                | refine aw_regK 5 [1, 2, 3, 4] ?_
                | refine aw_sregK 6 [1, 2, 3, 4, 5] ?_
                | refine aw_regK 6 [1, 2, 3, 4, 5] ?_
                | refine aw_sregK 7 [1, 2, 3, 4, 5, 6] ?_
                | refine aw_regK 7 [1, 2, 3, 4, 5, 6] ?_
                | refine aw_sregK 8 [1, 2, 3, 4, 5, 6, 7] ?_
                | refine aw_regK 8 [1, 2, 3, 4, 5, 6, 7] ?_
                | refine aw_sregK 9 [1, 2, 3, 4, 5, 6, 7] ?_
                | refine aw_regK 9 [1, 2, 3, 4, 5, 6, 7] ?_
                | refine aw_sregK 10 [1, 2, 3, 4, 5, 6, 7] ?_
                | refine aw_regK 10 [1, 2, 3, 4, 5, 6, 7] ?_
                | refine aw_sregK 11 [1, 2, 3, 4, 5, 6, 7] ?_
                | refine aw_regK 11 [1, 2, 3, 4, 5, 6, 7] ?_
                | refine aw_sregK 12 [1, 2, 3, 4, 5, 6, 7, 8] ?_
                | refine aw_regK 12 [1, 2, 3, 4, 5, 6, 7, 8] ?_
                | refine aw_sregK 13 [1, 2, 3, 4, 5, 6, 7, 8, 9] ?_
                | refine aw_regK 13 [1, 2, 3, 4, 5, 6, 7, 8, 9] ?_
                | refine aw_sregK 14 [1, 2, 3, 4, 5, 6, 7, 8, 9] ?_
                | refine aw_regK 14 [1, 2, 3, 4, 5, 6, 7, 8, 9] ?_
                | refine aw_sregK 15 [1, 2, 3, 4, 5, 6, 7, 8, 9] ?_
                | refine aw_regK 15 [1, 2, 3, 4, 5, 6, 7, 8, 9] ?_
                | refine aw_sregK 16 [1, 2, 3, 4, 5, 6, 7, 8, 9] ?_
                | refine aw_regK 16 [1, 2, 3, 4, 5, 6, 7, 8, 9] ?_
                | refine aw_sregK 17 [1, 2, 3, 4, 5, 6, 7, 8] ?_
                | refine aw_regK 17 [1, 2, 3, 4, 5, 6, 7, 8] ?_
                | refine aw_sregK 18 [1, 2, 3, 4, 6] ?_
                | refine aw_regK 18 [1, 2, 3, 4, 6] ?_
                | refine aw_sregK 19 [2, 3] ?_
                | refine aw_regK 19 [2, 3] ?_
                | refine aw_sreg ?_
                | refine aw_sregD mixed ?_
                | refine aw_ifT (b := true) rfl rfl ?_
                | refine aw_ifF (b := false) rfl rfl ?_
                | refine aw_ifT rfl (by assumption) ?_
                | refine aw_ifF rfl (by assumption) ?_
                | refine aw_ifT rfl (decide_eq_true (by assumption)) ?_
                | refine aw_ifF rfl (decide_eq_false (by assumption)) ?_
                | refine aw_seq ?_
                | refine aw_block ?_
                | refine aw_skip ?_
                | refine aw_region ?_
                | refine aw_region_draw mixed ?_
                | refine aw_exit ?_
                | refine rq_exit ?_
                | refine blockQ_hit ?_
                | refine blockQ_miss (by decide) ?_
                | (refine ar_guard rfl rfl rfl rfl (fun h => ?_) (fun h => ?_) <;> (fail_if_success (cases h; done)) <;> (try simp at h) <;> (try subst h))
                | (refine aw_both rfl (fun h => ?_) (fun h => ?_) <;> (fail_if_success (cases h; done)) <;> (try simp at h) <;> (try subst h)))
            · have e5 : (bareF y).length = 0 := by simp [bareF, hyb]
              rw [e5] at e1
              repeat' (first
                | refine ar_end rfl ?_
                | refine ar_endD rfl (by kernel_rfl) ?_
                | refine ar_fin rfl ?_
                | refine ar_finD rfl (by kernel_rfl) ?_
                | refine ar_callV Try.call104 c_fence rfl rfl rfl rfl rfl (by simp; done) (by rfl) (by simp; done) ?_
                | refine ar_callV_if Try.call104 c_fence rfl rfl rfl rfl rfl rfl (by simp; done) rfl (by rfl) (by simp; done) ?_
                | refine lq_normN [1, 2, 3, 4, 5, 6, 7, 8, 9] [.loc 1, .loc 2, .loc 3, .loc 1001, .loc 1000] (by simp; exact rfl) ⟨q + 1, by omega⟩ (by dsimp only; omega) (by simp [e1])
                | refine ar_go3 _ rfl (by simp [insL_len, thsL_len, insL_getE, thsL_getE, inL, ints_len, hd, hjl, hx, hqd, hTo, w3, w5, w6, w7, t7, p7, l7, hy, hyb]; exact ⟨rfl, rfl, rfl⟩) rfl ?_
                | refine aw_sregK 0 [0] ?_
                | refine aw_regK 0 [0] ?_
                | refine aw_sregK 1 [1, 2] ?_
                | refine aw_regK 1 [1, 2] ?_
                | refine aw_sregK 2 [1, 2, 3] ?_
                | refine aw_regK 2 [1, 2, 3] ?_
                | refine aw_sregK 3 [1, 2, 3, 4] ?_
                | refine aw_regK 3 [1, 2, 3, 4] ?_
                | refine aw_sregK 4 [1, 2, 3, 4] ?_
                | refine aw_regK 4 [1, 2, 3, 4] ?_
                | refine aw_sregK 5 [1, 2, 3, 4] ?_
                | refine aw_regK 5 [1, 2, 3, 4] ?_
                | refine aw_sregK 6 [1, 2, 3, 4, 5] ?_
                | refine aw_regK 6 [1, 2, 3, 4, 5] ?_
                | refine aw_sregK 7 [1, 2, 3, 4, 5, 6] ?_
                | refine aw_regK 7 [1, 2, 3, 4, 5, 6] ?_
                | refine aw_sregK 8 [1, 2, 3, 4, 5, 6, 7] ?_
                | refine aw_regK 8 [1, 2, 3, 4, 5, 6, 7] ?_
                | refine aw_sregK 9 [1, 2, 3, 4, 5, 6, 7] ?_
                | refine aw_regK 9 [1, 2, 3, 4, 5, 6, 7] ?_
                | refine aw_sregK 10 [1, 2, 3, 4, 5, 6, 7] ?_
                | refine aw_regK 10 [1, 2, 3, 4, 5, 6, 7] ?_
                | refine aw_sregK 11 [1, 2, 3, 4, 5, 6, 7] ?_
                | refine aw_regK 11 [1, 2, 3, 4, 5, 6, 7] ?_
                | refine aw_sregK 12 [1, 2, 3, 4, 5, 6, 7, 8] ?_
                | refine aw_regK 12 [1, 2, 3, 4, 5, 6, 7, 8] ?_
                | refine aw_sregK 13 [1, 2, 3, 4, 5, 6, 7, 8, 9] ?_
                | refine aw_regK 13 [1, 2, 3, 4, 5, 6, 7, 8, 9] ?_
                | refine aw_sregK 14 [1, 2, 3, 4, 5, 6, 7, 8, 9] ?_
                | refine aw_regK 14 [1, 2, 3, 4, 5, 6, 7, 8, 9] ?_
                | refine aw_sregK 15 [1, 2, 3, 4, 5, 6, 7, 8, 9] ?_
                | refine aw_regK 15 [1, 2, 3, 4, 5, 6, 7, 8, 9] ?_
                | refine aw_sregK 16 [1, 2, 3, 4, 5, 6, 7, 8, 9] ?_
                | refine aw_regK 16 [1, 2, 3, 4, 5, 6, 7, 8, 9] ?_
                | refine aw_sregK 17 [1, 2, 3, 4, 5, 6, 7, 8] ?_
                | refine aw_regK 17 [1, 2, 3, 4, 5, 6, 7, 8] ?_
                | refine aw_sregK 18 [1, 2, 3, 4, 6] ?_
                | refine aw_regK 18 [1, 2, 3, 4, 6] ?_
                | refine aw_sregK 19 [2, 3] ?_
                | refine aw_regK 19 [2, 3] ?_
                | refine aw_sreg ?_
                | refine aw_sregD mixed ?_
                | refine aw_ifT (b := true) rfl rfl ?_
                | refine aw_ifF (b := false) rfl rfl ?_
                | refine aw_ifT rfl (by assumption) ?_
                | refine aw_ifF rfl (by assumption) ?_
                | refine aw_ifT rfl (decide_eq_true (by assumption)) ?_
                | refine aw_ifF rfl (decide_eq_false (by assumption)) ?_
                | refine aw_seq ?_
                | refine aw_block ?_
                | refine aw_skip ?_
                | refine aw_region ?_
                | refine aw_region_draw mixed ?_
                | refine aw_exit ?_
                | refine rq_exit ?_
                | refine blockQ_hit ?_
                | refine blockQ_miss (by decide) ?_
                | (refine ar_guard rfl rfl rfl rfl (fun h => ?_) (fun h => ?_) <;> (fail_if_success (cases h; done)) <;> (try simp at h) <;> (try subst h))
                | (refine aw_both rfl (fun h => ?_) (fun h => ?_) <;> (fail_if_success (cases h; done)) <;> (try simp at h) <;> (try subst h)))
          · have hqd : ¬(q : Int) < x.m := by omega
            have et : ys.take q = ys := List.take_of_length_le (by omega)
            have hsk : skipsF x (cntF bareF ys) = setM x (cntF bareF ys) := by simp [skipsF, hbx]
            repeat' (first
              | refine ar_end rfl ?_
              | refine ar_endD rfl (by kernel_rfl) ?_
              | refine ar_fin rfl ?_
              | refine ar_finD rfl (by kernel_rfl) ?_
              | refine ar_callV Try.call105 c_skips rfl rfl rfl rfl rfl (by simp; done) (by rfl) (by simp; done) ?_
              | refine ar_callV_if Try.call105 c_skips rfl rfl rfl rfl rfl rfl (by simp; done) rfl (by rfl) (by simp; done) ?_
              | refine ar_appO rfl rfl rfl rfl rfl (by simp; exact rfl) rfl (by simp; exact rfl) (by simp; exact rfl) (by simp; exact ⟨rfl, rfl⟩) rfl (by simp; exact rfl) (by simp; done) (by decide) (by simp [insL_len, thsL_len, maxLen]; try omega) ?_
              | refine lq_exit ?_
              | refine lq_normR (.loc 80) (.loc 1000) [1, 2, 3, 4, 5, 6, 7] [.loc 1, .loc 2, .loc 3, .loc 1001, .loc 1000] (by simp; exact rfl) ⟨(j + 1, acc ++ [setM x (cntF bareF ys)]), by dsimp only; omega, hq, by simp; omega⟩ (by dsimp only; omega) (by simp [← insL_append, hsk]; simp [insL, setM, inL])
              | refine ar_go3 _ rfl (by simp [insL_len, thsL_len, insL_getE, thsL_getE, inL, ints_len, hd, hjl, hx, hqd, et, w3, hsk]; exact ⟨rfl, rfl, rfl⟩) rfl ?_
              | refine aw_sregK 0 [0] ?_
              | refine aw_regK 0 [0] ?_
              | refine aw_sregK 1 [1, 2] ?_
              | refine aw_regK 1 [1, 2] ?_
              | refine aw_sregK 2 [1, 2, 3] ?_
              | refine aw_regK 2 [1, 2, 3] ?_
              | refine aw_sregK 3 [1, 2, 3, 4] ?_
              | refine aw_regK 3 [1, 2, 3, 4] ?_
              | refine aw_sregK 4 [1, 2, 3, 4] ?_
              | refine aw_regK 4 [1, 2, 3, 4] ?_
              | refine aw_sregK 5 [1, 2, 3, 4] ?_
              | refine aw_regK 5 [1, 2, 3, 4] ?_
              | refine aw_sregK 6 [1, 2, 3, 4, 5] ?_
              | refine aw_regK 6 [1, 2, 3, 4, 5] ?_
              | refine aw_sregK 7 [1, 2, 3, 4, 5, 6] ?_
              | refine aw_regK 7 [1, 2, 3, 4, 5, 6] ?_
              | refine aw_sregK 8 [1, 2, 3, 4, 5, 6, 7] ?_
              | refine aw_regK 8 [1, 2, 3, 4, 5, 6, 7] ?_
              | refine aw_sregK 9 [1, 2, 3, 4, 5, 6, 7] ?_
              | refine aw_regK 9 [1, 2, 3, 4, 5, 6, 7] ?_
              | refine aw_sregK 10 [1, 2, 3, 4, 5, 6, 7] ?_
              | refine aw_regK 10 [1, 2, 3, 4, 5, 6, 7] ?_
              | refine aw_sregK 11 [1, 2, 3, 4, 5, 6, 7] ?_
              | refine aw_regK 11 [1, 2, 3, 4, 5, 6, 7] ?_
              | refine aw_sregK 12 [1, 2, 3, 4, 5, 6, 7, 8] ?_
              | refine aw_regK 12 [1, 2, 3, 4, 5, 6, 7, 8] ?_
              | refine aw_sregK 13 [1, 2, 3, 4, 5, 6, 7, 8, 9] ?_
              | refine aw_regK 13 [1, 2, 3, 4, 5, 6, 7, 8, 9] ?_
              | refine aw_sregK 14 [1, 2, 3, 4, 5, 6, 7, 8, 9] ?_
              | refine aw_regK 14 [1, 2, 3, 4, 5, 6, 7, 8, 9] ?_
              | refine aw_sregK 15 [1, 2, 3, 4, 5, 6, 7, 8, 9] ?_
              | refine aw_regK 15 [1, 2, 3, 4, 5, 6, 7, 8, 9] ?_
              | refine aw_sregK 16 [1, 2, 3, 4, 5, 6, 7, 8, 9] ?_
              | refine aw_regK 16 [1, 2, 3, 4, 5, 6, 7, 8, 9] ?_
              | refine aw_sregK 17 [1, 2, 3, 4, 5, 6, 7, 8] ?_
              | refine aw_regK 17 [1, 2, 3, 4, 5, 6, 7, 8] ?_
              | refine aw_sregK 18 [1, 2, 3, 4, 6] ?_
              | refine aw_regK 18 [1, 2, 3, 4, 6] ?_
              | refine aw_sregK 19 [2, 3] ?_
              | refine aw_regK 19 [2, 3] ?_
              | refine aw_sreg ?_
              | refine aw_sregD mixed ?_
              | refine aw_ifT (b := true) rfl rfl ?_
              | refine aw_ifF (b := false) rfl rfl ?_
              | refine aw_ifT rfl (by assumption) ?_
              | refine aw_ifF rfl (by assumption) ?_
              | refine aw_ifT rfl (decide_eq_true (by assumption)) ?_
              | refine aw_ifF rfl (decide_eq_false (by assumption)) ?_
              | refine aw_seq ?_
              | refine aw_block ?_
              | refine aw_skip ?_
              | refine aw_region ?_
              | refine aw_region_draw mixed ?_
              | refine aw_exit ?_
              | refine rq_exit ?_
              | refine blockQ_hit ?_
              | refine blockQ_miss (by decide) ?_
              | (refine ar_guard rfl rfl rfl rfl (fun h => ?_) (fun h => ?_) <;> (fail_if_success (cases h; done)) <;> (try simp at h) <;> (try subst h))
              | (refine aw_both rfl (fun h => ?_) (fun h => ?_) <;> (fail_if_success (cases h; done)) <;> (try simp at h) <;> (try subst h)))

    · have hd : ¬(j : Int) < (th.length : Int) := by omega
      have hq2 : acc = turnL bareF th := by rw [← hq, List.drop_eq_nil_of_le (by omega), turnL, List.append_nil]
      subst hq2
      repeat' (first
        | refine ar_end rfl ?_
        | refine ar_endD rfl (by kernel_rfl) ?_
        | refine ar_fin rfl ?_
        | refine ar_finD rfl (by kernel_rfl) ?_
        | refine ar_frz rfl rfl (by simp; exact rfl) rfl (by simp; fail_if_success (show _)) (by simp; exact rfl) (by simp; exact rfl) rfl (by simp; fail_if_success (show _)) ?_
        | refine ar_appO rfl rfl rfl rfl rfl (by simp; exact rfl) rfl (by simp; exact rfl) (by simp; exact rfl) (by simp; exact ⟨rfl, rfl⟩) rfl (by simp; exact rfl) (by simp; done) (by decide) (by simp [insL_len, thsL_len, maxLen]; try omega) ?_
        | refine lq_exit ?_
        | refine lq_normR (.loc 85) (.loc 1001) [1, 2, 3, 4] [.loc 1, .loc 2, .loc 3, .loc 1001] (by simp; exact rfl) ⟨n + 1, by omega⟩ (by dsimp only; omega) (by rw [htk]; simp [thsL])
        | refine ar_go3 _ rfl (by simp [insL_len, thsL_len, insL_getE, thsL_getE, inL, ints_len, hd, hw]; exact ⟨rfl, rfl, rfl⟩) rfl ?_
        | refine aw_sregK 0 [0] ?_
        | refine aw_regK 0 [0] ?_
        | refine aw_sregK 1 [1, 2] ?_
        | refine aw_regK 1 [1, 2] ?_
        | refine aw_sregK 2 [1, 2, 3] ?_
        | refine aw_regK 2 [1, 2, 3] ?_
        | refine aw_sregK 3 [1, 2, 3, 4] ?_
        | refine aw_regK 3 [1, 2, 3, 4] ?_
        | refine aw_sregK 4 [1, 2, 3, 4] ?_
        | refine aw_regK 4 [1, 2, 3, 4] ?_
        | refine aw_sregK 5 [1, 2, 3, 4] ?_
        | refine aw_regK 5 [1, 2, 3, 4] ?_
        | refine aw_sregK 6 [1, 2, 3, 4, 5] ?_
        | refine aw_regK 6 [1, 2, 3, 4, 5] ?_
        | refine aw_sregK 7 [1, 2, 3, 4, 5, 6] ?_
        | refine aw_regK 7 [1, 2, 3, 4, 5, 6] ?_
        | refine aw_sregK 8 [1, 2, 3, 4, 5, 6, 7] ?_
        | refine aw_regK 8 [1, 2, 3, 4, 5, 6, 7] ?_
        | refine aw_sregK 9 [1, 2, 3, 4, 5, 6, 7] ?_
        | refine aw_regK 9 [1, 2, 3, 4, 5, 6, 7] ?_
        | refine aw_sregK 10 [1, 2, 3, 4, 5, 6, 7] ?_
        | refine aw_regK 10 [1, 2, 3, 4, 5, 6, 7] ?_
        | refine aw_sregK 11 [1, 2, 3, 4, 5, 6, 7] ?_
        | refine aw_regK 11 [1, 2, 3, 4, 5, 6, 7] ?_
        | refine aw_sregK 12 [1, 2, 3, 4, 5, 6, 7, 8] ?_
        | refine aw_regK 12 [1, 2, 3, 4, 5, 6, 7, 8] ?_
        | refine aw_sregK 13 [1, 2, 3, 4, 5, 6, 7, 8, 9] ?_
        | refine aw_regK 13 [1, 2, 3, 4, 5, 6, 7, 8, 9] ?_
        | refine aw_sregK 14 [1, 2, 3, 4, 5, 6, 7, 8, 9] ?_
        | refine aw_regK 14 [1, 2, 3, 4, 5, 6, 7, 8, 9] ?_
        | refine aw_sregK 15 [1, 2, 3, 4, 5, 6, 7, 8, 9] ?_
        | refine aw_regK 15 [1, 2, 3, 4, 5, 6, 7, 8, 9] ?_
        | refine aw_sregK 16 [1, 2, 3, 4, 5, 6, 7, 8, 9] ?_
        | refine aw_regK 16 [1, 2, 3, 4, 5, 6, 7, 8, 9] ?_
        | refine aw_sregK 17 [1, 2, 3, 4, 5, 6, 7, 8] ?_
        | refine aw_regK 17 [1, 2, 3, 4, 5, 6, 7, 8] ?_
        | refine aw_sregK 18 [1, 2, 3, 4, 6] ?_
        | refine aw_regK 18 [1, 2, 3, 4, 6] ?_
        | refine aw_sregK 19 [2, 3] ?_
        | refine aw_regK 19 [2, 3] ?_
        | refine aw_sreg ?_
        | refine aw_sregD mixed ?_
        | refine aw_ifT (b := true) rfl rfl ?_
        | refine aw_ifF (b := false) rfl rfl ?_
        | refine aw_ifT rfl (by assumption) ?_
        | refine aw_ifF rfl (by assumption) ?_
        | refine aw_ifT rfl (decide_eq_true (by assumption)) ?_
        | refine aw_ifF rfl (decide_eq_false (by assumption)) ?_
        | refine aw_seq ?_
        | refine aw_block ?_
        | refine aw_skip ?_
        | refine aw_region ?_
        | refine aw_region_draw mixed ?_
        | refine aw_exit ?_
        | refine rq_exit ?_
        | refine blockQ_hit ?_
        | refine blockQ_miss (by decide) ?_
        | (refine ar_guard rfl rfl rfl rfl (fun h => ?_) (fun h => ?_) <;> (fail_if_success (cases h; done)) <;> (try simp at h) <;> (try subst h))
        | (refine aw_both rfl (fun h => ?_) (fun h => ?_) <;> (fail_if_success (cases h; done)) <;> (try simp at h) <;> (try subst h)))
  · have hc : ¬(n : Int) < (t.length : Int) := by omega
    have et2 : List.take n (List.map (turnL bareF) t) = List.map (turnL bareF) t := List.take_of_length_le (by simp; omega)
    refine aw_frz (.loc 1001) (by simp; exact rfl) ?_
    repeat' (first
      | exact aw_ret (ret_vals (by simp; exact rfl) (by simp [et2, bareT]; fail_if_success (show _)))
      | exact aw_ret (ret_vals (by simp; exact rfl) (by simp [et2, bareT]; omega))
      | refine ar_end rfl ?_
      | refine ar_endD rfl (by kernel_rfl) ?_
      | refine ar_fin rfl ?_
      | refine ar_finD rfl (by kernel_rfl) ?_
      | refine lq_exit ?_
      | refine ar_go3 _ rfl (by simp [insL_len, thsL_len, insL_getE, thsL_getE, inL, ints_len, hc, et2]; exact ⟨rfl, rfl, rfl⟩) rfl ?_
      | refine aw_sregK 0 [0] ?_
      | refine aw_regK 0 [0] ?_
      | refine aw_sregK 1 [1, 2] ?_
      | refine aw_regK 1 [1, 2] ?_
      | refine aw_sregK 2 [1, 2, 3] ?_
      | refine aw_regK 2 [1, 2, 3] ?_
      | refine aw_sregK 3 [1, 2, 3, 4] ?_
      | refine aw_regK 3 [1, 2, 3, 4] ?_
      | refine aw_sregK 4 [1, 2, 3, 4] ?_
      | refine aw_regK 4 [1, 2, 3, 4] ?_
      | refine aw_sregK 5 [1, 2, 3, 4] ?_
      | refine aw_regK 5 [1, 2, 3, 4] ?_
      | refine aw_sregK 6 [1, 2, 3, 4, 5] ?_
      | refine aw_regK 6 [1, 2, 3, 4, 5] ?_
      | refine aw_sregK 7 [1, 2, 3, 4, 5, 6] ?_
      | refine aw_regK 7 [1, 2, 3, 4, 5, 6] ?_
      | refine aw_sregK 8 [1, 2, 3, 4, 5, 6, 7] ?_
      | refine aw_regK 8 [1, 2, 3, 4, 5, 6, 7] ?_
      | refine aw_sregK 9 [1, 2, 3, 4, 5, 6, 7] ?_
      | refine aw_regK 9 [1, 2, 3, 4, 5, 6, 7] ?_
      | refine aw_sregK 10 [1, 2, 3, 4, 5, 6, 7] ?_
      | refine aw_regK 10 [1, 2, 3, 4, 5, 6, 7] ?_
      | refine aw_sregK 11 [1, 2, 3, 4, 5, 6, 7] ?_
      | refine aw_regK 11 [1, 2, 3, 4, 5, 6, 7] ?_
      | refine aw_sregK 12 [1, 2, 3, 4, 5, 6, 7, 8] ?_
      | refine aw_regK 12 [1, 2, 3, 4, 5, 6, 7, 8] ?_
      | refine aw_sregK 13 [1, 2, 3, 4, 5, 6, 7, 8, 9] ?_
      | refine aw_regK 13 [1, 2, 3, 4, 5, 6, 7, 8, 9] ?_
      | refine aw_sregK 14 [1, 2, 3, 4, 5, 6, 7, 8, 9] ?_
      | refine aw_regK 14 [1, 2, 3, 4, 5, 6, 7, 8, 9] ?_
      | refine aw_sregK 15 [1, 2, 3, 4, 5, 6, 7, 8, 9] ?_
      | refine aw_regK 15 [1, 2, 3, 4, 5, 6, 7, 8, 9] ?_
      | refine aw_sregK 16 [1, 2, 3, 4, 5, 6, 7, 8, 9] ?_
      | refine aw_regK 16 [1, 2, 3, 4, 5, 6, 7, 8, 9] ?_
      | refine aw_sregK 17 [1, 2, 3, 4, 5, 6, 7, 8] ?_
      | refine aw_regK 17 [1, 2, 3, 4, 5, 6, 7, 8] ?_
      | refine aw_sregK 18 [1, 2, 3, 4, 6] ?_
      | refine aw_regK 18 [1, 2, 3, 4, 6] ?_
      | refine aw_sregK 19 [2, 3] ?_
      | refine aw_regK 19 [2, 3] ?_
      | refine aw_sreg ?_
      | refine aw_sregD mixed ?_
      | refine aw_ifT (b := true) rfl rfl ?_
      | refine aw_ifF (b := false) rfl rfl ?_
      | refine aw_ifT rfl (by assumption) ?_
      | refine aw_ifF rfl (by assumption) ?_
      | refine aw_ifT rfl (decide_eq_true (by assumption)) ?_
      | refine aw_ifF rfl (decide_eq_false (by assumption)) ?_
      | refine aw_seq ?_
      | refine aw_block ?_
      | refine aw_skip ?_
      | refine aw_region ?_
      | refine aw_region_draw mixed ?_
      | refine aw_exit ?_
      | refine rq_exit ?_
      | refine blockQ_hit ?_
      | refine blockQ_miss (by decide) ?_
      | (refine ar_guard rfl rfl rfl rfl (fun h => ?_) (fun h => ?_) <;> (fail_if_success (cases h; done)) <;> (try simp at h) <;> (try subst h))
      | (refine aw_both rfl (fun h => ?_) (fun h => ?_) <;> (fail_if_success (cases h; done)) <;> (try simp at h) <;> (try subst h)))
end Go.Eng
