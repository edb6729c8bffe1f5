import Derived.Test.YtclegllogeanlaaCohI
import Derived.Test.YtclegllogeanlaaCohG
set_option linter.unusedSimpArgs false
set_option linter.unusedVariables false
set_option linter.constructorNameAsVariable false
set_option autoImplicit false
namespace Go.Eng
open Go Go.RowKit Go.Proofs
set_option maxHeartbeats 16000000 in
theorem law_CoherFits {l : List Ev} (hll : l.length ≤ maxLen) : SC Try.prog 6 [.pv (.sl 7 (evsL l))] (B true) := by
  have hf := c_few (es := l) hll
  cases hF : fewB l
  · rw [hF] at hf
    refine scx_of Try.func6 rfl rfl rfl (Nat.le_of_ble_eq_true rfl) ?_
    repeat' (first
      | exact aw_ret (ret_vals (by simp; exact rfl) (by simp [*]; fail_if_success (show _)))
      | exact aw_ret (ret_vals (by simp; exact rfl) (by simp [*]; omega))
      | refine ar_end rfl ?_
      | refine ar_endD rfl (by kernel_rfl) ?_
      | refine ar_fin rfl ?_
      | refine ar_finD rfl (by kernel_rfl) ?_
      | refine ar_callV Try.call23 c_shown12 rfl rfl rfl rfl rfl (by simp; done) (by rfl) (by simp; done) ?_
      | refine ar_callV_if Try.call23 c_shown12 rfl rfl rfl rfl rfl rfl (by simp; done) rfl (by rfl) (by simp; done) ?_
      | refine ar_callV Try.call24 hf rfl rfl rfl rfl rfl (by simp; done) (by rfl) (by simp; done) ?_
      | refine ar_callV_if Try.call24 hf rfl rfl rfl rfl rfl rfl (by simp; done) rfl (by rfl) (by simp; done) ?_
      | refine ar_go3 _ rfl (by simp [evsL_len, evsL_getE, evL, prs_len, prs_getE, ints_len, ints_getE, intsL_len, intsL_getE]; exact ⟨rfl, rfl, rfl⟩) rfl ?_
      | refine aw_sregK 0 [0] ?_
      | refine aw_regK 0 [0] ?_
      | refine aw_sregK 1 [0] ?_
      | refine aw_regK 1 [0] ?_
      | refine aw_sregK 2 [0, 3] ?_
      | refine aw_regK 2 [0, 3] ?_
      | refine aw_sregK 3 [3] ?_
      | refine aw_regK 3 [3] ?_
      | refine aw_sreg ?_
      | refine aw_sregD mixed ?_
      | refine aw_ifT (b := true) rfl rfl ?_
      | refine aw_ifF (b := false) rfl rfl ?_
      | refine aw_ifT rfl (by assumption) ?_
      | refine aw_ifF rfl (by assumption) ?_
      | refine aw_ifT rfl (decide_eq_true (by assumption)) ?_
      | refine aw_ifF rfl (decide_eq_false (by assumption)) ?_
      | refine aw_seq ?_
      | refine aw_block ?_
      | refine aw_skip ?_
      | refine aw_region ?_
      | refine aw_region_draw mixed ?_
      | refine aw_exit ?_
      | refine rq_exit ?_
      | refine blockQ_hit ?_
      | refine blockQ_miss (by decide) ?_
      | (refine ar_guard rfl rfl rfl rfl (fun h => ?_) (fun h => ?_) <;> (fail_if_success (cases h; done)) <;> (try simp at h) <;> (try subst h))
      | (refine aw_both rfl (fun h => ?_) (fun h => ?_) <;> (fail_if_success (cases h; done)) <;> (try simp at h) <;> (try subst h)))
  rw [hF] at hf
  obtain ⟨h24, h7⟩ := few_n hF
  have hM := c_made12 (es := l)
  have hA := c_allFew h24 h7
  have hle := allR_le h7
  have hrk : ∀ co ∈ allR l, ∃ f, Rank l co f := fun co h => allR_rank (by omega) h
  have hmany := all_many (es := l)
  have hnone := fun a ha hk => all_none (es := l) (a := a) ha hk
  generalize allR l = A at *
  have hml : maxLen = 9223372036854775807 := rfl
  refine scx_of Try.func6 rfl rfl rfl (Nat.le_of_ble_eq_true rfl) ?_
  repeat' (first
    | refine ar_end rfl ?_
    | refine ar_endD rfl (by kernel_rfl) ?_
    | refine ar_fin rfl ?_
    | refine ar_finD rfl (by kernel_rfl) ?_
    | refine ar_callV Try.call23 c_shown12 rfl rfl rfl rfl rfl (by simp; done) (by rfl) (by simp; done) ?_
    | refine ar_callV_if Try.call23 c_shown12 rfl rfl rfl rfl rfl rfl (by simp; done) rfl (by rfl) (by simp; done) ?_
    | refine ar_callV Try.call24 hf rfl rfl rfl rfl rfl (by simp; done) (by rfl) (by simp; done) ?_
    | refine ar_callV_if Try.call24 hf rfl rfl rfl rfl rfl rfl (by simp; done) rfl (by rfl) (by simp; done) ?_
    | refine ar_callV Try.call25 hM rfl rfl rfl rfl rfl (by simp; done) (by rfl) (by simp; done) ?_
    | refine ar_callV_if Try.call25 hM rfl rfl rfl rfl rfl rfl (by simp; done) rfl (by rfl) (by simp; done) ?_
    | refine ar_callV Try.call26 hA rfl rfl rfl rfl rfl (by simp; done) (by rfl) (by simp; done) ?_
    | refine ar_callV_if Try.call26 hA rfl rfl rfl rfl rfl rfl (by simp; done) rfl (by rfl) (by simp; done) ?_
    | refine ar_go3 _ rfl (by simp [evsL_len, evsL_getE, evL, prs_len, prs_getE, ints_len, ints_getE, intsL_len, intsL_getE, rlsL_len, rlsL_getE, exL]; exact ⟨rfl, rfl, rfl⟩) rfl ?_
    | refine aw_sregK 0 [0] ?_
    | refine aw_regK 0 [0] ?_
    | refine aw_sregK 1 [0] ?_
    | refine aw_regK 1 [0] ?_
    | refine aw_sregK 2 [0, 3] ?_
    | refine aw_regK 2 [0, 3] ?_
    | refine aw_sregK 3 [3] ?_
    | refine aw_regK 3 [3] ?_
    | refine aw_sregK 4 [0, 3] ?_
    | refine aw_regK 4 [0, 3] ?_
    | refine aw_sregK 5 [0, 3, 4] ?_
    | refine aw_regK 5 [0, 3, 4] ?_
    | refine aw_sregK 6 [0, 3, 4, 5] ?_
    | refine aw_regK 6 [0, 3, 4, 5] ?_
    | refine aw_sregK 7 [0, 3, 4, 5, 6] ?_
    | refine aw_regK 7 [0, 3, 4, 5, 6] ?_
    | refine aw_sreg ?_
    | refine aw_sregD mixed ?_
    | refine aw_ifT (b := true) rfl rfl ?_
    | refine aw_ifF (b := false) rfl rfl ?_
    | refine aw_ifT rfl (by assumption) ?_
    | refine aw_ifF rfl (by assumption) ?_
    | refine aw_ifT rfl (decide_eq_true (by assumption)) ?_
    | refine aw_ifF rfl (decide_eq_false (by assumption)) ?_
    | refine aw_seq ?_
    | refine aw_block ?_
    | refine aw_skip ?_
    | refine aw_region ?_
    | refine aw_region_draw mixed ?_
    | refine aw_exit ?_
    | refine rq_exit ?_
    | refine blockQ_hit ?_
    | refine blockQ_miss (by decide) ?_
    | (refine ar_guard rfl rfl rfl rfl (fun h => ?_) (fun h => ?_) <;> (fail_if_success (cases h; done)) <;> (try simp at h) <;> (try subst h))
    | (refine aw_both rfl (fun h => ?_) (fun h => ?_) <;> (fail_if_success (cases h; done)) <;> (try simp at h) <;> (try subst h)))
  refine aw_loopN [0, 3, 4, 5, 6, 7] [.loc 4] (by simp; exact rfl) (ι := {i : Nat // i ≤ l.length ∧ ∀ a, (ha : a < l.length) → a < i → l[a].k = 2 → (writesF l l[a].l).length ≤ 6}) (fun i => ⟨100, [(0, .pv (.sl 7 (evsL l))), (3, B true), (4, .ptr (.loc 4) 0), (5, .pv (.sl 1 (rlsL A))), (6, I .i64 (manyUp l i.1)), (7, I .i64 i.1)], [(.loc 4, some (.box 28 [.pv (.sl 7 (evsL l)), .pv (.v (.slice none 0 0)), .pv (.v (.slice none 0 0)), .pv (.v (.slice none 0 0)), .pv (.v (.slice none 0 0)), .pv (.v (.slice none 0 0)), .pv (.v (.slice none 0 0))]))]⟩) (fun i => l.length - i.1) ⟨0, by omega, fun a ha h => absurd h (by omega)⟩ (by simp [manyUp]) ?_
  rintro ⟨i, hi, hinv⟩
  by_cases hlt : i < l.length
  · have hw1 : IntKind.wrap .i64 ((i : Int) + 1) = (i : Int) + 1 := wrap64s (by omega) (by omega)
    have hd : (i : Int) < (l.length : Int) := by omega
    by_cases hk : l[i].k = 2
    · have hst := manyUp_write hlt hk
      have hb := manyUp_few h7 (i := i + 1) (by omega)
      have hW := c_writes (es := l) (loc := l[i].l) (by omega)
      obtain ⟨hcl, ha1, ha2, ha3⟩ := writes_at hlt hk
      have hWl := writes_len l l[i].l
      have hn0 := hnone i hlt hk
      have hi6 : (writesF l l[i].l).length ≤ 6 → ∀ a, (ha : a < l.length) → a < i + 1 → l[a].k = 2 → (writesF l l[a].l).length ≤ 6 := fun h a ha h1 h2 => by
        by_cases e : a = i
        · subst e; exact h
        · exact hinv a ha (by omega) h2
      obtain ⟨mk, hm1, hm2⟩ : ∃ mk : Nat → Nat, (∀ k, k ≤ cntAt l l[i].l i → mk k = manyUp l i) ∧ mk (cntAt l l[i].l i + 1) = manyUp l (i + 1) := ⟨fun k => if k ≤ cntAt l l[i].l i then manyUp l i else manyUp l (i + 1), fun k h => if_pos h, if_neg (by omega)⟩
      rw [← hm2, ← hm1 _ (Nat.le_refl _)] at hst
      have hm0 := hm1 0 (by omega)
      have hms : ∀ k, k < cntAt l l[i].l i → mk (k + 1) = mk k := fun k h => by rw [hm1 _ (by omega), hm1 _ (by omega)]
      clear hm1
      generalize writesF l l[i].l = W at *
      generalize cntAt l l[i].l i = c at *
      generalize hx : l[i] = x at *
      repeat' (first
        | refine ar_end rfl ?_
        | refine ar_endD rfl (by kernel_rfl) ?_
        | refine ar_fin rfl ?_
        | refine ar_finD rfl (by kernel_rfl) ?_
        | refine ar_callV Try.call31 hW rfl rfl rfl rfl rfl (by simp; done) (by rfl) (by simp; done) ?_
        | refine ar_callV_if Try.call31 hW rfl rfl rfl rfl rfl rfl (by simp; done) rfl (by rfl) (by simp; done) ?_
        | refine ar_go3 _ rfl (by simp [evsL_len, evsL_getE, evL, prs_len, prs_getE, ints_len, ints_getE, intsL_len, intsL_getE, rlsL_len, rlsL_getE, exL, hlt, hd, hx, hk]; exact ⟨rfl, rfl, rfl⟩) rfl ?_
        | refine aw_sregK 8 [0, 3, 4, 5, 6, 7] ?_
        | refine aw_regK 8 [0, 3, 4, 5, 6, 7] ?_
        | refine aw_sregK 10 [0, 3, 4, 5, 6, 7] ?_
        | refine aw_regK 10 [0, 3, 4, 5, 6, 7] ?_
        | refine aw_sregKD mixed 11 [0, 3, 4, 5, 6, 7] (by simp; exact rfl) ?_
        | refine aw_regKD mixed 11 [0, 3, 4, 5, 6, 7] (by simp; exact rfl) ?_
        | refine aw_sregK 12 [0, 3, 4, 5, 6, 7, 8] ?_
        | refine aw_regK 12 [0, 3, 4, 5, 6, 7, 8] ?_
        | refine aw_sreg ?_
        | refine aw_sregD mixed ?_
        | refine aw_ifT (b := true) rfl rfl ?_
        | refine aw_ifF (b := false) rfl rfl ?_
        | refine aw_ifT rfl (by assumption) ?_
        | refine aw_ifF rfl (by assumption) ?_
        | refine aw_ifT rfl (decide_eq_true (by assumption)) ?_
        | refine aw_ifF rfl (decide_eq_false (by assumption)) ?_
        | refine aw_seq ?_
        | refine aw_block ?_
        | refine aw_skip ?_
        | refine aw_region ?_
        | refine aw_region_draw mixed ?_
        | refine aw_exit ?_
        | refine rq_exit ?_
        | refine blockQ_hit ?_
        | refine blockQ_miss (by decide) ?_
        | (refine ar_guard rfl rfl rfl rfl (fun h => ?_) (fun h => ?_) <;> (fail_if_success (cases h; done)) <;> (try simp at h) <;> (try subst h))
        | (refine aw_both rfl (fun h => ?_) (fun h => ?_) <;> (fail_if_success (cases h; done)) <;> (try simp at h) <;> (try subst h)))
      refine aw_loopN [0, 3, 4, 5, 6, 7, 8, 9] [.loc 4] (by simp; exact rfl) (ι := {k : Nat // k ≤ c + 1}) (fun k => ⟨100, [(0, .pv (.sl 7 (evsL l))), (3, B true), (4, .ptr (.loc 4) 0), (5, .pv (.sl 1 (rlsL A))), (6, I .i64 (mk k.1)), (7, I .i64 i), (8, .pv (.sl 1 (ints W))), (9, I .i64 k.1)], [(.loc 4, some (.box 28 [.pv (.sl 7 (evsL l)), .pv (.v (.slice none 0 0)), .pv (.v (.slice none 0 0)), .pv (.v (.slice none 0 0)), .pv (.v (.slice none 0 0)), .pv (.v (.slice none 0 0)), .pv (.v (.slice none 0 0))]))]⟩) (fun k => c + 1 - k.1) ⟨0, by omega⟩ (by simp [hm0]) ?_
      rintro ⟨k, hkc⟩
      by_cases hklt : k < W.length
      · have hd2 : (k : Int) < (W.length : Int) := by omega
        have hw2 : IntKind.wrap .i64 ((k : Int) + 1) = (k : Int) + 1 := wrap64s (by omega) (by omega)
        rcases Nat.lt_trichotomy k c with h | h | h
        · have h1 := ha1 k hklt h
          have h2 := hms k h
          generalize hy : W[k] = y at *
          have h3 : y ≤ (i : Int) := by omega
          have h4 : ¬y = (i : Int) := by omega
          repeat' (first
            | refine ar_end rfl ?_
            | refine ar_endD rfl (by kernel_rfl) ?_
            | refine ar_fin rfl ?_
            | refine ar_finD rfl (by kernel_rfl) ?_
            | refine bq_norm ?_
            | refine lq_normN [0, 3, 4, 5, 6, 7, 8, 9] [.loc 4] (by simp; exact rfl) ⟨k + 1, by omega⟩ (by dsimp only; omega) (by simp [h2])
            | refine ar_go3 _ rfl (by simp [evsL_len, evsL_getE, evL, prs_len, prs_getE, ints_len, ints_getE, intsL_len, intsL_getE, hklt, hd2, hy, h3, h4, hw2]; exact ⟨rfl, rfl, rfl⟩) rfl ?_
            | refine aw_sregK 13 [0, 3, 4, 5, 6, 7, 8, 9] ?_
            | refine aw_regK 13 [0, 3, 4, 5, 6, 7, 8, 9] ?_
            | refine aw_sregK 14 [0, 3, 4, 5, 6, 7, 8, 9] ?_
            | refine aw_regK 14 [0, 3, 4, 5, 6, 7, 8, 9] ?_
            | refine aw_sregK 15 [0, 3, 4, 5, 6, 7, 8, 9] ?_
            | refine aw_regK 15 [0, 3, 4, 5, 6, 7, 8, 9] ?_
            | refine aw_sregK 16 [0, 3, 4, 5, 6, 7, 8, 9] ?_
            | refine aw_regK 16 [0, 3, 4, 5, 6, 7, 8, 9] ?_
            | refine aw_sreg ?_
            | refine aw_sregD mixed ?_
            | refine aw_ifT (b := true) rfl rfl ?_
            | refine aw_ifF (b := false) rfl rfl ?_
            | refine aw_ifT rfl (by assumption) ?_
            | refine aw_ifF rfl (by assumption) ?_
            | refine aw_ifT rfl (decide_eq_true (by assumption)) ?_
            | refine aw_ifF rfl (decide_eq_false (by assumption)) ?_
            | refine aw_seq ?_
            | refine aw_block ?_
            | refine aw_skip ?_
            | refine aw_region ?_
            | refine aw_region_draw mixed ?_
            | refine aw_exit ?_
            | refine rq_exit ?_
            | refine blockQ_hit ?_
            | refine blockQ_miss (by decide) ?_
            | (refine ar_guard rfl rfl rfl rfl (fun h => ?_) (fun h => ?_) <;> (fail_if_success (cases h; done)) <;> (try simp at h) <;> (try subst h))
            | (refine aw_both rfl (fun h => ?_) (fun h => ?_) <;> (fail_if_success (cases h; done)) <;> (try simp at h) <;> (try subst h)))
        · have h1 := ha2 k hklt h
          subst h
          have h3 : (i : Int) ≤ (i : Int) := by omega
          have hmw : IntKind.wrap .i64 ((mk k : Int) * ((k : Int) + 1)) = ((mk (k + 1) : Nat) : Int) := by
            rw [hst]
            have e : (((mk k * (k + 1) : Nat)) : Int) = (mk k : Int) * ((k : Int) + 1) := by simp
            rw [← e]
            rw [← hm2, hst] at hb
            exact wrap64s (by omega) (by omega)
          repeat' (first
            | refine ar_end rfl ?_
            | refine ar_endD rfl (by kernel_rfl) ?_
            | refine ar_fin rfl ?_
            | refine ar_finD rfl (by kernel_rfl) ?_
            | refine bq_norm ?_
            | refine lq_normN [0, 3, 4, 5, 6, 7, 8, 9] [.loc 4] (by simp; exact rfl) ⟨k + 1, by omega⟩ (by dsimp only; omega) (by simp [h3])
            | refine ar_go3 _ rfl (by simp [evsL_len, evsL_getE, evL, prs_len, prs_getE, ints_len, ints_getE, intsL_len, intsL_getE, hklt, hd2, h1, h3, hw2, hmw]; exact ⟨rfl, rfl, rfl⟩) rfl ?_
            | refine aw_sregK 13 [0, 3, 4, 5, 6, 7, 8, 9] ?_
            | refine aw_regK 13 [0, 3, 4, 5, 6, 7, 8, 9] ?_
            | refine aw_sregK 14 [0, 3, 4, 5, 6, 7, 8, 9] ?_
            | refine aw_regK 14 [0, 3, 4, 5, 6, 7, 8, 9] ?_
            | refine aw_sregK 15 [0, 3, 4, 5, 6, 7, 8, 9] ?_
            | refine aw_regK 15 [0, 3, 4, 5, 6, 7, 8, 9] ?_
            | refine aw_sregK 16 [0, 3, 4, 5, 6, 7, 8, 9] ?_
            | refine aw_regK 16 [0, 3, 4, 5, 6, 7, 8, 9] ?_
            | refine aw_sreg ?_
            | refine aw_sregD mixed ?_
            | refine aw_ifT (b := true) rfl rfl ?_
            | refine aw_ifF (b := false) rfl rfl ?_
            | refine aw_ifT rfl (by assumption) ?_
            | refine aw_ifF rfl (by assumption) ?_
            | refine aw_ifT rfl (decide_eq_true (by assumption)) ?_
            | refine aw_ifF rfl (decide_eq_false (by assumption)) ?_
            | refine aw_seq ?_
            | refine aw_block ?_
            | refine aw_skip ?_
            | refine aw_region ?_
            | refine aw_region_draw mixed ?_
            | refine aw_exit ?_
            | refine rq_exit ?_
            | refine blockQ_hit ?_
            | refine blockQ_miss (by decide) ?_
            | (refine ar_guard rfl rfl rfl rfl (fun h => ?_) (fun h => ?_) <;> (fail_if_success (cases h; done)) <;> (try simp at h) <;> (try subst h))
            | (refine aw_both rfl (fun h => ?_) (fun h => ?_) <;> (fail_if_success (cases h; done)) <;> (try simp at h) <;> (try subst h)))
        · have hkk : k = c + 1 := by omega
          have hm2k : mk k = manyUp l (i + 1) := by rw [hkk]; exact hm2
          have h1 := ha3 _ hklt (by omega)
          generalize hy : W[k] = y at *
          have h3 : ¬y ≤ (i : Int) := by omega
          by_cases h6 : 6 < W.length
          · have h6' : (6 : Int) < (W.length : Int) := by omega
            have hA0 := hn0 h6
            have hA0' : (A.length : Int) = 0 := by omega
            repeat' (first
              | exact aw_ret (ret_vals (by simp; exact rfl) (by simp [*]; fail_if_success (show _)))
              | exact aw_ret (ret_vals (by simp; exact rfl) (by simp [*]; omega))
              | refine ar_end rfl ?_
              | refine ar_endD rfl (by kernel_rfl) ?_
              | refine ar_fin rfl ?_
              | refine ar_finD rfl (by kernel_rfl) ?_
              | refine lq_exit ?_
              | refine ar_go3 _ rfl (by simp [evsL_len, evsL_getE, evL, prs_len, prs_getE, ints_len, ints_getE, intsL_len, intsL_getE, rlsL_len, rlsL_getE, hklt, hd2, hy, h3, h6', hA0, hA0']; exact ⟨rfl, rfl, rfl⟩) rfl ?_
              | refine aw_sregK 13 [0, 3, 4, 5, 6, 7, 8, 9] ?_
              | refine aw_regK 13 [0, 3, 4, 5, 6, 7, 8, 9] ?_
              | refine aw_sregK 17 [0, 3, 4, 5, 6, 7, 8] ?_
              | refine aw_regK 17 [0, 3, 4, 5, 6, 7, 8] ?_
              | refine aw_sregK 18 [3, 5] ?_
              | refine aw_regK 18 [3, 5] ?_
              | refine aw_sreg ?_
              | refine aw_sregD mixed ?_
              | refine aw_ifT (b := true) rfl rfl ?_
              | refine aw_ifF (b := false) rfl rfl ?_
              | refine aw_ifT rfl (by assumption) ?_
              | refine aw_ifF rfl (by assumption) ?_
              | refine aw_ifT rfl (decide_eq_true (by assumption)) ?_
              | refine aw_ifF rfl (decide_eq_false (by assumption)) ?_
              | refine aw_seq ?_
              | refine aw_block ?_
              | refine aw_skip ?_
              | refine aw_region ?_
              | refine aw_region_draw mixed ?_
              | refine aw_exit ?_
              | refine rq_exit ?_
              | refine blockQ_hit ?_
              | refine blockQ_miss (by decide) ?_
              | (refine ar_guard rfl rfl rfl rfl (fun h => ?_) (fun h => ?_) <;> (fail_if_success (cases h; done)) <;> (try simp at h) <;> (try subst h))
              | (refine aw_both rfl (fun h => ?_) (fun h => ?_) <;> (fail_if_success (cases h; done)) <;> (try simp at h) <;> (try subst h)))
          · have h6' : ¬(6 : Int) < (W.length : Int) := by omega
            have hinv2 := hi6 (by omega)
            repeat' (first
              | refine ar_end rfl ?_
              | refine ar_endD rfl (by kernel_rfl) ?_
              | refine ar_fin rfl ?_
              | refine ar_finD rfl (by kernel_rfl) ?_
              | refine lq_exit ?_
              | refine bq_norm ?_
              | refine lq_normN [0, 3, 4, 5, 6, 7] [.loc 4] (by simp; exact rfl) ⟨i + 1, by omega, hinv2⟩ (by dsimp only; omega) (by simp [hm2k])
              | refine ar_go3 _ rfl (by simp [evsL_len, evsL_getE, evL, prs_len, prs_getE, ints_len, ints_getE, intsL_len, intsL_getE, rlsL_len, rlsL_getE, hklt, hd2, hy, h3, h6', hw1]; exact ⟨rfl, rfl, rfl⟩) rfl ?_
              | refine aw_sregK 9 [0, 3, 4, 5, 6, 7] ?_
              | refine aw_regK 9 [0, 3, 4, 5, 6, 7] ?_
              | refine aw_sregK 13 [0, 3, 4, 5, 6, 7, 8, 9] ?_
              | refine aw_regK 13 [0, 3, 4, 5, 6, 7, 8, 9] ?_
              | refine aw_sregK 17 [0, 3, 4, 5, 6, 7, 8] ?_
              | refine aw_regK 17 [0, 3, 4, 5, 6, 7, 8] ?_
              | refine aw_sreg ?_
              | refine aw_sregD mixed ?_
              | refine aw_ifT (b := true) rfl rfl ?_
              | refine aw_ifF (b := false) rfl rfl ?_
              | refine aw_ifT rfl (by assumption) ?_
              | refine aw_ifF rfl (by assumption) ?_
              | refine aw_ifT rfl (decide_eq_true (by assumption)) ?_
              | refine aw_ifF rfl (decide_eq_false (by assumption)) ?_
              | refine aw_seq ?_
              | refine aw_block ?_
              | refine aw_skip ?_
              | refine aw_region ?_
              | refine aw_region_draw mixed ?_
              | refine aw_exit ?_
              | refine rq_exit ?_
              | refine blockQ_hit ?_
              | refine blockQ_miss (by decide) ?_
              | (refine ar_guard rfl rfl rfl rfl (fun h => ?_) (fun h => ?_) <;> (fail_if_success (cases h; done)) <;> (try simp at h) <;> (try subst h))
              | (refine aw_both rfl (fun h => ?_) (fun h => ?_) <;> (fail_if_success (cases h; done)) <;> (try simp at h) <;> (try subst h)))
      · have hkk : k = c + 1 := by omega
        have hm2k : mk k = manyUp l (i + 1) := by rw [hkk]; exact hm2
        have hd2 : ¬((k : Int) < (W.length : Int)) := by omega
        by_cases h6 : 6 < W.length
        · have h6' : (6 : Int) < (W.length : Int) := by omega
          have hA0 := hn0 h6
          have hA0' : (A.length : Int) = 0 := by omega
          repeat' (first
            | exact aw_ret (ret_vals (by simp; exact rfl) (by simp [*]; fail_if_success (show _)))
            | exact aw_ret (ret_vals (by simp; exact rfl) (by simp [*]; omega))
            | refine ar_end rfl ?_
            | refine ar_endD rfl (by kernel_rfl) ?_
            | refine ar_fin rfl ?_
            | refine ar_finD rfl (by kernel_rfl) ?_
            | refine lq_exit ?_
            | refine ar_go3 _ rfl (by simp [evsL_len, evsL_getE, evL, prs_len, prs_getE, ints_len, ints_getE, intsL_len, intsL_getE, rlsL_len, rlsL_getE, hd2, h6', hA0, hA0']; exact ⟨rfl, rfl, rfl⟩) rfl ?_
            | refine aw_sregK 13 [0, 3, 4, 5, 6, 7, 8, 9] ?_
            | refine aw_regK 13 [0, 3, 4, 5, 6, 7, 8, 9] ?_
            | refine aw_sregK 17 [0, 3, 4, 5, 6, 7, 8] ?_
            | refine aw_regK 17 [0, 3, 4, 5, 6, 7, 8] ?_
            | refine aw_sregK 18 [3, 5] ?_
            | refine aw_regK 18 [3, 5] ?_
            | refine aw_sreg ?_
            | refine aw_sregD mixed ?_
            | refine aw_ifT (b := true) rfl rfl ?_
            | refine aw_ifF (b := false) rfl rfl ?_
            | refine aw_ifT rfl (by assumption) ?_
            | refine aw_ifF rfl (by assumption) ?_
            | refine aw_ifT rfl (decide_eq_true (by assumption)) ?_
            | refine aw_ifF rfl (decide_eq_false (by assumption)) ?_
            | refine aw_seq ?_
            | refine aw_block ?_
            | refine aw_skip ?_
            | refine aw_region ?_
            | refine aw_region_draw mixed ?_
            | refine aw_exit ?_
            | refine rq_exit ?_
            | refine blockQ_hit ?_
            | refine blockQ_miss (by decide) ?_
            | (refine ar_guard rfl rfl rfl rfl (fun h => ?_) (fun h => ?_) <;> (fail_if_success (cases h; done)) <;> (try simp at h) <;> (try subst h))
            | (refine aw_both rfl (fun h => ?_) (fun h => ?_) <;> (fail_if_success (cases h; done)) <;> (try simp at h) <;> (try subst h)))
        · have h6' : ¬(6 : Int) < (W.length : Int) := by omega
          have hinv2 := hi6 (by omega)
          repeat' (first
            | refine ar_end rfl ?_
            | refine ar_endD rfl (by kernel_rfl) ?_
            | refine ar_fin rfl ?_
            | refine ar_finD rfl (by kernel_rfl) ?_
            | refine lq_exit ?_
            | refine bq_norm ?_
            | refine lq_normN [0, 3, 4, 5, 6, 7] [.loc 4] (by simp; exact rfl) ⟨i + 1, by omega, hinv2⟩ (by dsimp only; omega) (by simp [hm2k])
            | refine ar_go3 _ rfl (by simp [evsL_len, evsL_getE, evL, prs_len, prs_getE, ints_len, ints_getE, intsL_len, intsL_getE, rlsL_len, rlsL_getE, hd2, h6', hw1]; exact ⟨rfl, rfl, rfl⟩) rfl ?_
            | refine aw_sregK 9 [0, 3, 4, 5, 6, 7] ?_
            | refine aw_regK 9 [0, 3, 4, 5, 6, 7] ?_
            | refine aw_sregK 13 [0, 3, 4, 5, 6, 7, 8, 9] ?_
            | refine aw_regK 13 [0, 3, 4, 5, 6, 7, 8, 9] ?_
            | refine aw_sregK 17 [0, 3, 4, 5, 6, 7, 8] ?_
            | refine aw_regK 17 [0, 3, 4, 5, 6, 7, 8] ?_
            | refine aw_sreg ?_
            | refine aw_sregD mixed ?_
            | refine aw_ifT (b := true) rfl rfl ?_
            | refine aw_ifF (b := false) rfl rfl ?_
            | refine aw_ifT rfl (by assumption) ?_
            | refine aw_ifF rfl (by assumption) ?_
            | refine aw_ifT rfl (decide_eq_true (by assumption)) ?_
            | refine aw_ifF rfl (decide_eq_false (by assumption)) ?_
            | refine aw_seq ?_
            | refine aw_block ?_
            | refine aw_skip ?_
            | refine aw_region ?_
            | refine aw_region_draw mixed ?_
            | refine aw_exit ?_
            | refine rq_exit ?_
            | refine blockQ_hit ?_
            | refine blockQ_miss (by decide) ?_
            | (refine ar_guard rfl rfl rfl rfl (fun h => ?_) (fun h => ?_) <;> (fail_if_success (cases h; done)) <;> (try simp at h) <;> (try subst h))
            | (refine aw_both rfl (fun h => ?_) (fun h => ?_) <;> (fail_if_success (cases h; done)) <;> (try simp at h) <;> (try subst h)))
    · have hst := manyUp_other hlt hk
      have hinv2 : ∀ a, (ha : a < l.length) → a < i + 1 → l[a].k = 2 → (writesF l l[a].l).length ≤ 6 := fun a ha h1 h2 => by
        by_cases e : a = i
        · subst e; exact absurd h2 hk
        · exact hinv a ha (by omega) h2
      generalize hx : l[i] = x at *
      repeat' (first
        | refine ar_end rfl ?_
        | refine ar_endD rfl (by kernel_rfl) ?_
        | refine ar_fin rfl ?_
        | refine ar_finD rfl (by kernel_rfl) ?_
        | refine bq_norm ?_
        | refine lq_normN [0, 3, 4, 5, 6, 7] [.loc 4] (by simp; exact rfl) ⟨i + 1, by omega, hinv2⟩ (by dsimp only; omega) (by simp [hst])
        | refine ar_go3 _ rfl (by simp [evsL_len, evsL_getE, evL, prs_len, prs_getE, ints_len, ints_getE, intsL_len, intsL_getE, rlsL_len, rlsL_getE, exL, hlt, hd, hx, hk, hw1]; exact ⟨rfl, rfl, rfl⟩) rfl ?_
        | refine aw_sregK 8 [0, 3, 4, 5, 6, 7] ?_
        | refine aw_regK 8 [0, 3, 4, 5, 6, 7] ?_
        | refine aw_sregK 9 [0, 3, 4, 5, 6, 7] ?_
        | refine aw_regK 9 [0, 3, 4, 5, 6, 7] ?_
        | refine aw_sregK 10 [0, 3, 4, 5, 6, 7] ?_
        | refine aw_regK 10 [0, 3, 4, 5, 6, 7] ?_
        | refine aw_sreg ?_
        | refine aw_sregD mixed ?_
        | refine aw_ifT (b := true) rfl rfl ?_
        | refine aw_ifF (b := false) rfl rfl ?_
        | refine aw_ifT rfl (by assumption) ?_
        | refine aw_ifF rfl (by assumption) ?_
        | refine aw_ifT rfl (decide_eq_true (by assumption)) ?_
        | refine aw_ifF rfl (decide_eq_false (by assumption)) ?_
        | refine aw_seq ?_
        | refine aw_block ?_
        | refine aw_skip ?_
        | refine aw_region ?_
        | refine aw_region_draw mixed ?_
        | refine aw_exit ?_
        | refine rq_exit ?_
        | refine blockQ_hit ?_
        | refine blockQ_miss (by decide) ?_
        | (refine ar_guard rfl rfl rfl rfl (fun h => ?_) (fun h => ?_) <;> (fail_if_success (cases h; done)) <;> (try simp at h) <;> (try subst h))
        | (refine aw_both rfl (fun h => ?_) (fun h => ?_) <;> (fail_if_success (cases h; done)) <;> (try simp at h) <;> (try subst h)))
  · have hd : ¬(i : Int) < (l.length : Int) := by omega
    have hie : i = l.length := by omega
    subst hie
    have hcnt := hmany fun a ha hk => hinv a ha ha hk
    rw [← hcnt]
    clear hcnt hmany hnone
    repeat' (first
      | refine ar_end rfl ?_
      | refine ar_endD rfl (by kernel_rfl) ?_
      | refine ar_fin rfl ?_
      | refine ar_finD rfl (by kernel_rfl) ?_
      | refine lq_exit ?_
      | refine ar_go3 _ rfl (by simp [evsL_len, evsL_getE, evL, prs_len, prs_getE, ints_len, ints_getE, intsL_len, intsL_getE, rlsL_len, rlsL_getE, hd]; exact ⟨rfl, rfl, rfl⟩) rfl ?_
      | refine aw_sregK 8 [0, 3, 4, 5, 6, 7] ?_
      | refine aw_regK 8 [0, 3, 4, 5, 6, 7] ?_
      | refine aw_sregK 19 [3, 4, 5, 6] ?_
      | refine aw_regK 19 [3, 4, 5, 6] ?_
      | refine aw_sreg ?_
      | refine aw_sregD mixed ?_
      | refine aw_ifT (b := true) rfl rfl ?_
      | refine aw_ifF (b := false) rfl rfl ?_
      | refine aw_ifT rfl (by assumption) ?_
      | refine aw_ifF rfl (by assumption) ?_
      | refine aw_ifT rfl (decide_eq_true (by assumption)) ?_
      | refine aw_ifF rfl (decide_eq_false (by assumption)) ?_
      | refine aw_seq ?_
      | refine aw_block ?_
      | refine aw_skip ?_
      | refine aw_region ?_
      | refine aw_region_draw mixed ?_
      | refine aw_exit ?_
      | refine rq_exit ?_
      | refine blockQ_hit ?_
      | refine blockQ_miss (by decide) ?_
      | (refine ar_guard rfl rfl rfl rfl (fun h => ?_) (fun h => ?_) <;> (fail_if_success (cases h; done)) <;> (try simp at h) <;> (try subst h))
      | (refine aw_both rfl (fun h => ?_) (fun h => ?_) <;> (fail_if_success (cases h; done)) <;> (try simp at h) <;> (try subst h)))
    refine aw_loopN [3, 4, 5, 6, 10] [.loc 4] (by simp; exact rfl) (ι := {j : Nat // j ≤ A.length}) (fun j => ⟨100, [(3, B true), (4, .ptr (.loc 4) 0), (5, .pv (.sl 1 (rlsL A))), (6, I .i64 A.length), (10, I .i64 j.1)], [(.loc 4, some (.box 28 [.pv (.sl 7 (evsL l)), .pv (.v (.slice none 0 0)), .pv (.v (.slice none 0 0)), .pv (.v (.slice none 0 0)), .pv (.v (.slice none 0 0)), .pv (.v (.slice none 0 0)), .pv (.v (.slice none 0 0))]))]⟩) (fun j => A.length - j.1) ⟨0, by omega⟩ (by simp) ?_
    rintro ⟨j, hj⟩
    by_cases hjl : j < A.length
    · have hw2 : IntKind.wrap .i64 ((j : Int) + 1) = (j : Int) + 1 := wrap64s (by omega) (by omega)
      have hd2 : (j : Int) < (A.length : Int) := by omega
      obtain ⟨f, hR⟩ := hrk A[j] (List.getElem_mem hjl)
      generalize hco : A[j] = co at *
      have hFi := c_fits (es := l) (co := co) (by omega) (by rw [hR.cl.len]; omega)
      rw [rank_fits hR] at hFi
      have hAc := c_acyclic (r := co) (by rw [hR.cl.len]; omega)
      rw [rank_acy hR] at hAc
      repeat' (first
        | refine ar_end rfl ?_
        | refine ar_endD rfl (by kernel_rfl) ?_
        | refine ar_fin rfl ?_
        | refine ar_finD rfl (by kernel_rfl) ?_
        | refine ar_callV Try.call28 hFi rfl rfl rfl rfl rfl (by simp; done) (by rfl) (by simp; done) ?_
        | refine ar_callV_if Try.call28 hFi rfl rfl rfl rfl rfl rfl (by simp; done) rfl (by rfl) (by simp; done) ?_
        | refine ar_callV Try.call32 hAc rfl rfl rfl rfl rfl (by simp; done) (by rfl) (by simp; done) ?_
        | refine ar_callV_if Try.call32 hAc rfl rfl rfl rfl rfl rfl (by simp; done) rfl (by rfl) (by simp; done) ?_
        | refine bq_norm ?_
        | refine lq_normN [3, 4, 5, 6, 10] [.loc 4] (by simp; exact rfl) ⟨j + 1, by omega⟩ (by dsimp only; omega) (by simp [hd2])
        | refine ar_go3 _ rfl (by simp [evsL_len, evsL_getE, evL, prs_len, prs_getE, ints_len, ints_getE, intsL_len, intsL_getE, rlsL_len, rlsL_getE, exL, hjl, hd2, hco, hw2]; exact ⟨rfl, rfl, rfl⟩) rfl ?_
        | refine aw_sregK 20 [3, 4, 5, 6, 10] ?_
        | refine aw_regK 20 [3, 4, 5, 6, 10] ?_
        | refine aw_sregK 21 [3, 4, 5, 6, 10] ?_
        | refine aw_regK 21 [3, 4, 5, 6, 10] ?_
        | refine aw_sregKD mixed 22 [3, 4, 5, 6, 10] (by simp; exact rfl) ?_
        | refine aw_regKD mixed 22 [3, 4, 5, 6, 10] (by simp; exact rfl) ?_
        | refine aw_sreg ?_
        | refine aw_sregD mixed ?_
        | refine aw_ifT (b := true) rfl rfl ?_
        | refine aw_ifF (b := false) rfl rfl ?_
        | refine aw_ifT rfl (by assumption) ?_
        | refine aw_ifF rfl (by assumption) ?_
        | refine aw_ifT rfl (decide_eq_true (by assumption)) ?_
        | refine aw_ifF rfl (decide_eq_false (by assumption)) ?_
        | refine aw_seq ?_
        | refine aw_block ?_
        | refine aw_skip ?_
        | refine aw_region ?_
        | refine aw_region_draw mixed ?_
        | refine aw_exit ?_
        | refine rq_exit ?_
        | refine blockQ_hit ?_
        | refine blockQ_miss (by decide) ?_
        | (refine ar_guard rfl rfl rfl rfl (fun h => ?_) (fun h => ?_) <;> (fail_if_success (cases h; done)) <;> (try simp at h) <;> (try subst h))
        | (refine aw_both rfl (fun h => ?_) (fun h => ?_) <;> (fail_if_success (cases h; done)) <;> (try simp at h) <;> (try subst h)))
    · have hd2 : ¬(j : Int) < (A.length : Int) := by omega
      repeat' (first
        | exact aw_ret (ret_vals (by simp; exact rfl) (by simp [*]; fail_if_success (show _)))
        | exact aw_ret (ret_vals (by simp; exact rfl) (by simp [*]; omega))
        | refine ar_end rfl ?_
        | refine ar_endD rfl (by kernel_rfl) ?_
        | refine ar_fin rfl ?_
        | refine ar_finD rfl (by kernel_rfl) ?_
        | refine lq_exit ?_
        | refine ar_go3 _ rfl (by simp [evsL_len, evsL_getE, evL, prs_len, prs_getE, ints_len, ints_getE, intsL_len, intsL_getE, rlsL_len, rlsL_getE, hd2]; exact ⟨rfl, rfl, rfl⟩) rfl ?_
        | refine aw_sregK 20 [3, 4, 5, 6, 10] ?_
        | refine aw_regK 20 [3, 4, 5, 6, 10] ?_
        | refine aw_sregK 24 [3, 5, 6] ?_
        | refine aw_regK 24 [3, 5, 6] ?_
        | refine aw_sreg ?_
        | refine aw_sregD mixed ?_
        | refine aw_ifT (b := true) rfl rfl ?_
        | refine aw_ifF (b := false) rfl rfl ?_
        | refine aw_ifT rfl (by assumption) ?_
        | refine aw_ifF rfl (by assumption) ?_
        | refine aw_ifT rfl (decide_eq_true (by assumption)) ?_
        | refine aw_ifF rfl (decide_eq_false (by assumption)) ?_
        | refine aw_seq ?_
        | refine aw_block ?_
        | refine aw_skip ?_
        | refine aw_region ?_
        | refine aw_region_draw mixed ?_
        | refine aw_exit ?_
        | refine rq_exit ?_
        | refine blockQ_hit ?_
        | refine blockQ_miss (by decide) ?_
        | (refine ar_guard rfl rfl rfl rfl (fun h => ?_) (fun h => ?_) <;> (fail_if_success (cases h; done)) <;> (try simp at h) <;> (try subst h))
        | (refine aw_both rfl (fun h => ?_) (fun h => ?_) <;> (fail_if_success (cases h; done)) <;> (try simp at h) <;> (try subst h)))
end Go.Eng
