import Derived.Test.YtclegllogeanlaaCohH
import Derived.Test.YtclegllogeanlaaCohG
set_option linter.unusedSimpArgs false
set_option linter.unusedVariables false
set_option linter.constructorNameAsVariable false
set_option autoImplicit false
namespace Go.Eng
open Go Go.RowKit Go.Proofs
set_option maxHeartbeats 16000000 in
theorem law_CoherLast {l : List Ev} {w : Nat} {init : List Int} (hll : l.length ≤ maxLen) (hil : init.length ≤ maxLen) (hw : w ≤ 65535) : SC Try.prog 8 [.pv (.sl 7 (evsL l)), I .u16 w, .pv (.sl 1 (ints init))] (B true) := by
  have hf := c_few (es := l) hll
  cases hF : fewB l
  · rw [hF] at hf
    refine scx_of Try.func8 rfl rfl rfl (Nat.le_of_ble_eq_true rfl) ?_
    repeat' (first
      | exact aw_ret (ret_vals (by simp; exact rfl) (by simp [*]; fail_if_success (show _)))
      | exact aw_ret (ret_vals (by simp; exact rfl) (by simp [*]; omega))
      | refine ar_end rfl ?_
      | refine ar_endD rfl (by kernel_rfl) ?_
      | refine ar_fin rfl ?_
      | refine ar_finD rfl (by kernel_rfl) ?_
      | refine ar_callV Try.call23 c_shown12 rfl rfl rfl rfl rfl (by simp; done) (by rfl) (by simp; done) ?_
      | refine ar_callV_if Try.call23 c_shown12 rfl rfl rfl rfl rfl rfl (by simp; done) rfl (by rfl) (by simp; done) ?_
      | refine ar_callV Try.call24 hf rfl rfl rfl rfl rfl (by simp; done) (by rfl) (by simp; done) ?_
      | refine ar_callV_if Try.call24 hf rfl rfl rfl rfl rfl rfl (by simp; done) rfl (by rfl) (by simp; done) ?_
      | refine ar_go3 _ rfl (by simp [evsL_len, evsL_getE, evL, prs_len, prs_getE, ints_len, ints_getE, intsL_len, intsL_getE]; exact ⟨rfl, rfl, rfl⟩) rfl ?_
      | refine aw_sregK 0 [0, 1, 2] ?_
      | refine aw_regK 0 [0, 1, 2] ?_
      | refine aw_sregK 1 [0, 1, 2] ?_
      | refine aw_regK 1 [0, 1, 2] ?_
      | refine aw_sregK 2 [0, 1, 2, 7] ?_
      | refine aw_regK 2 [0, 1, 2, 7] ?_
      | refine aw_sregK 3 [7] ?_
      | refine aw_regK 3 [7] ?_
      | refine aw_sreg ?_
      | refine aw_sregD mixed ?_
      | refine aw_ifT (b := true) rfl rfl ?_
      | refine aw_ifF (b := false) rfl rfl ?_
      | refine aw_ifT rfl (by assumption) ?_
      | refine aw_ifF rfl (by assumption) ?_
      | refine aw_ifT rfl (decide_eq_true (by assumption)) ?_
      | refine aw_ifF rfl (decide_eq_false (by assumption)) ?_
      | refine aw_seq ?_
      | refine aw_block ?_
      | refine aw_skip ?_
      | refine aw_region ?_
      | refine aw_region_draw mixed ?_
      | refine aw_exit ?_
      | refine rq_exit ?_
      | refine blockQ_hit ?_
      | refine blockQ_miss (by decide) ?_
      | (refine ar_guard rfl rfl rfl rfl (fun h => ?_) (fun h => ?_) <;> (fail_if_success (cases h; done)) <;> (try simp at h) <;> (try subst h))
      | (refine aw_both rfl (fun h => ?_) (fun h => ?_) <;> (fail_if_success (cases h; done)) <;> (try simp at h) <;> (try subst h)))
  rw [hF] at hf
  obtain ⟨h24, h7⟩ := few_n hF
  by_cases h20 : init.length ≤ 20
  rotate_left
  · have h20' : (20 : Int) < (init.length : Int) := by omega
    refine scx_of Try.func8 rfl rfl rfl (Nat.le_of_ble_eq_true rfl) ?_
    repeat' (first
      | exact aw_ret (ret_vals (by simp; exact rfl) (by simp [*]; fail_if_success (show _)))
      | exact aw_ret (ret_vals (by simp; exact rfl) (by simp [*]; omega))
      | refine ar_end rfl ?_
      | refine ar_endD rfl (by kernel_rfl) ?_
      | refine ar_fin rfl ?_
      | refine ar_finD rfl (by kernel_rfl) ?_
      | refine ar_callV Try.call23 c_shown12 rfl rfl rfl rfl rfl (by simp; done) (by rfl) (by simp; done) ?_
      | refine ar_callV_if Try.call23 c_shown12 rfl rfl rfl rfl rfl rfl (by simp; done) rfl (by rfl) (by simp; done) ?_
      | refine ar_callV Try.call24 hf rfl rfl rfl rfl rfl (by simp; done) (by rfl) (by simp; done) ?_
      | refine ar_callV_if Try.call24 hf rfl rfl rfl rfl rfl rfl (by simp; done) rfl (by rfl) (by simp; done) ?_
      | refine ar_go3 _ rfl (by simp [evsL_len, evsL_getE, evL, prs_len, prs_getE, ints_len, ints_getE, intsL_len, intsL_getE, h20']; exact ⟨rfl, rfl, rfl⟩) rfl ?_
      | refine aw_sregK 0 [0, 1, 2] ?_
      | refine aw_regK 0 [0, 1, 2] ?_
      | refine aw_sregK 1 [0, 1, 2] ?_
      | refine aw_regK 1 [0, 1, 2] ?_
      | refine aw_sregK 2 [0, 1, 2, 7] ?_
      | refine aw_regK 2 [0, 1, 2, 7] ?_
      | refine aw_sregK 3 [7] ?_
      | refine aw_regK 3 [7] ?_
      | refine aw_sreg ?_
      | refine aw_sregD mixed ?_
      | refine aw_ifT (b := true) rfl rfl ?_
      | refine aw_ifF (b := false) rfl rfl ?_
      | refine aw_ifT rfl (by assumption) ?_
      | refine aw_ifF rfl (by assumption) ?_
      | refine aw_ifT rfl (decide_eq_true (by assumption)) ?_
      | refine aw_ifF rfl (decide_eq_false (by assumption)) ?_
      | refine aw_seq ?_
      | refine aw_block ?_
      | refine aw_skip ?_
      | refine aw_region ?_
      | refine aw_region_draw mixed ?_
      | refine aw_exit ?_
      | refine rq_exit ?_
      | refine blockQ_hit ?_
      | refine blockQ_miss (by decide) ?_
      | (refine ar_guard rfl rfl rfl rfl (fun h => ?_) (fun h => ?_) <;> (fail_if_success (cases h; done)) <;> (try simp at h) <;> (try subst h))
      | (refine aw_both rfl (fun h => ?_) (fun h => ?_) <;> (fail_if_success (cases h; done)) <;> (try simp at h) <;> (try subst h)))
  have h20' : ¬(20 : Int) < (init.length : Int) := by omega
  have hM := c_made12 (es := l)
  have hA := c_allFew h24 h7
  have hle := allR_le h7
  have hrk : ∀ co ∈ allR l, ∃ f, Rank l co f := fun co h => allR_rank (by omega) h
  generalize allR l = A at *
  have hml : maxLen = 9223372036854775807 := rfl
  by_cases hA0 : A.length = 0
  · have hA0' : (A.length : Int) = 0 := by omega
    refine scx_of Try.func8 rfl rfl rfl (Nat.le_of_ble_eq_true rfl) ?_
    repeat' (first
      | exact aw_ret (ret_vals (by simp; exact rfl) (by simp [*]; fail_if_success (show _)))
      | exact aw_ret (ret_vals (by simp; exact rfl) (by simp [*]; omega))
      | refine ar_end rfl ?_
      | refine ar_endD rfl (by kernel_rfl) ?_
      | refine ar_fin rfl ?_
      | refine ar_finD rfl (by kernel_rfl) ?_
      | refine ar_callV Try.call23 c_shown12 rfl rfl rfl rfl rfl (by simp; done) (by rfl) (by simp; done) ?_
      | refine ar_callV_if Try.call23 c_shown12 rfl rfl rfl rfl rfl rfl (by simp; done) rfl (by rfl) (by simp; done) ?_
      | refine ar_callV Try.call24 hf rfl rfl rfl rfl rfl (by simp; done) (by rfl) (by simp; done) ?_
      | refine ar_callV_if Try.call24 hf rfl rfl rfl rfl rfl rfl (by simp; done) rfl (by rfl) (by simp; done) ?_
      | refine ar_callV Try.call25 hM rfl rfl rfl rfl rfl (by simp; done) (by rfl) (by simp; done) ?_
      | refine ar_callV_if Try.call25 hM rfl rfl rfl rfl rfl rfl (by simp; done) rfl (by rfl) (by simp; done) ?_
      | refine ar_callV Try.call26 hA rfl rfl rfl rfl rfl (by simp; done) (by rfl) (by simp; done) ?_
      | refine ar_callV_if Try.call26 hA rfl rfl rfl rfl rfl rfl (by simp; done) rfl (by rfl) (by simp; done) ?_
      | refine ar_go3 _ rfl (by simp [evsL_len, evsL_getE, evL, prs_len, prs_getE, ints_len, ints_getE, intsL_len, intsL_getE, rlsL_len, rlsL_getE, exL, h20', hA0, hA0']; exact ⟨rfl, rfl, rfl⟩) rfl ?_
      | refine aw_sregK 0 [0, 1, 2] ?_
      | refine aw_regK 0 [0, 1, 2] ?_
      | refine aw_sregK 1 [0, 1, 2] ?_
      | refine aw_regK 1 [0, 1, 2] ?_
      | refine aw_sregK 2 [0, 1, 2, 7] ?_
      | refine aw_regK 2 [0, 1, 2, 7] ?_
      | refine aw_sregK 3 [7] ?_
      | refine aw_regK 3 [7] ?_
      | refine aw_sregK 4 [0, 1, 2, 7] ?_
      | refine aw_regK 4 [0, 1, 2, 7] ?_
      | refine aw_sregK 5 [0, 1, 2, 7, 8] ?_
      | refine aw_regK 5 [0, 1, 2, 7, 8] ?_
      | refine aw_sregK 6 [0, 1, 2, 7, 8, 9] ?_
      | refine aw_regK 6 [0, 1, 2, 7, 8, 9] ?_
      | refine aw_sregK 7 [7] ?_
      | refine aw_regK 7 [7] ?_
      | refine aw_sreg ?_
      | refine aw_sregD mixed ?_
      | refine aw_ifT (b := true) rfl rfl ?_
      | refine aw_ifF (b := false) rfl rfl ?_
      | refine aw_ifT rfl (by assumption) ?_
      | refine aw_ifF rfl (by assumption) ?_
      | refine aw_ifT rfl (decide_eq_true (by assumption)) ?_
      | refine aw_ifF rfl (decide_eq_false (by assumption)) ?_
      | refine aw_seq ?_
      | refine aw_block ?_
      | refine aw_skip ?_
      | refine aw_region ?_
      | refine aw_region_draw mixed ?_
      | refine aw_exit ?_
      | refine rq_exit ?_
      | refine blockQ_hit ?_
      | refine blockQ_miss (by decide) ?_
      | (refine ar_guard rfl rfl rfl rfl (fun h => ?_) (fun h => ?_) <;> (fail_if_success (cases h; done)) <;> (try simp at h) <;> (try subst h))
      | (refine aw_both rfl (fun h => ?_) (fun h => ?_) <;> (fail_if_success (cases h; done)) <;> (try simp at h) <;> (try subst h)))
  have hA0' : ¬(A.length : Int) = 0 := by omega
  have hww : IntKind.wrap .i64 (w : Int) = (w : Int) := wrap64s (by omega) (by omega)
  have htw : (w : Int).tmod (A.length : Int) = ((w % A.length : Nat) : Int) := rfl
  have hlw : w % A.length < A.length := Nat.mod_lt _ (by omega)
  generalize w % A.length = n at *
  obtain ⟨f, hR⟩ := hrk A[n] (List.getElem_mem hlw)
  generalize hco : A[n] = co at *
  have hK := c_mem (es := l) (co := co) (init := init) (by omega) (by omega)
  have hmlen : (memF l co init).length = init.length := by simp [memF]
  have hmv : ∀ i, (h1 : i < init.length) → (h2 : i < (memF l co init).length) → (memF l co init)[i] = memV l co i init[i] := fun i h1 h2 => by simp [memF]
  generalize memF l co init = M at *
  have hmlI : (M.length : Int) = (init.length : Int) := by omega
  refine scx_of Try.func8 rfl rfl rfl (Nat.le_of_ble_eq_true rfl) ?_
  repeat' (first
    | refine ar_end rfl ?_
    | refine ar_endD rfl (by kernel_rfl) ?_
    | refine ar_fin rfl ?_
    | refine ar_finD rfl (by kernel_rfl) ?_
    | refine ar_callV Try.call23 c_shown12 rfl rfl rfl rfl rfl (by simp; done) (by rfl) (by simp; done) ?_
    | refine ar_callV_if Try.call23 c_shown12 rfl rfl rfl rfl rfl rfl (by simp; done) rfl (by rfl) (by simp; done) ?_
    | refine ar_callV Try.call24 hf rfl rfl rfl rfl rfl (by simp; done) (by rfl) (by simp; done) ?_
    | refine ar_callV_if Try.call24 hf rfl rfl rfl rfl rfl rfl (by simp; done) rfl (by rfl) (by simp; done) ?_
    | refine ar_callV Try.call25 hM rfl rfl rfl rfl rfl (by simp; done) (by rfl) (by simp; done) ?_
    | refine ar_callV_if Try.call25 hM rfl rfl rfl rfl rfl rfl (by simp; done) rfl (by rfl) (by simp; done) ?_
    | refine ar_callV Try.call26 hA rfl rfl rfl rfl rfl (by simp; done) (by rfl) (by simp; done) ?_
    | refine ar_callV_if Try.call26 hA rfl rfl rfl rfl rfl rfl (by simp; done) rfl (by rfl) (by simp; done) ?_
    | refine ar_callV Try.call41 hK rfl rfl rfl rfl rfl (by simp; done) (by rfl) (by simp; done) ?_
    | refine ar_callV_if Try.call41 hK rfl rfl rfl rfl rfl rfl (by simp; done) rfl (by rfl) (by simp; done) ?_
    | refine ar_go3 _ rfl (by simp [evsL_len, evsL_getE, evL, prs_len, prs_getE, ints_len, ints_getE, intsL_len, intsL_getE, rlsL_len, rlsL_getE, exL, h20', hA0, hA0', hww, htw, hlw, hco, hmlen, hmlI]; exact ⟨rfl, rfl, rfl⟩) rfl ?_
    | refine aw_sregK 0 [0, 1, 2] ?_
    | refine aw_regK 0 [0, 1, 2] ?_
    | refine aw_sregK 1 [0, 1, 2] ?_
    | refine aw_regK 1 [0, 1, 2] ?_
    | refine aw_sregK 2 [0, 1, 2, 7] ?_
    | refine aw_regK 2 [0, 1, 2, 7] ?_
    | refine aw_sregK 3 [7] ?_
    | refine aw_regK 3 [7] ?_
    | refine aw_sregK 4 [0, 1, 2, 7] ?_
    | refine aw_regK 4 [0, 1, 2, 7] ?_
    | refine aw_sregK 5 [0, 1, 2, 7, 8] ?_
    | refine aw_regK 5 [0, 1, 2, 7, 8] ?_
    | refine aw_sregK 6 [0, 1, 2, 7, 8, 9] ?_
    | refine aw_regK 6 [0, 1, 2, 7, 8, 9] ?_
    | refine aw_sregK 7 [7] ?_
    | refine aw_regK 7 [7] ?_
    | refine aw_sregK 8 [0, 1, 2, 7, 8, 9] ?_
    | refine aw_regK 8 [0, 1, 2, 7, 8, 9] ?_
    | refine aw_sregK 9 [0, 2, 7, 8, 10] ?_
    | refine aw_regK 9 [0, 2, 7, 8, 10] ?_
    | refine aw_sregK 10 [0, 2, 7, 8, 10, 11] ?_
    | refine aw_regK 10 [0, 2, 7, 8, 10, 11] ?_
    | refine aw_sregK 11 [] ?_
    | refine aw_regK 11 [] ?_
    | refine aw_sregK 12 [0, 2, 7, 8, 10, 11] ?_
    | refine aw_regK 12 [0, 2, 7, 8, 10, 11] ?_
    | refine aw_sreg ?_
    | refine aw_sregD mixed ?_
    | refine aw_ifT (b := true) rfl rfl ?_
    | refine aw_ifF (b := false) rfl rfl ?_
    | refine aw_ifT rfl (by assumption) ?_
    | refine aw_ifF rfl (by assumption) ?_
    | refine aw_ifT rfl (decide_eq_true (by assumption)) ?_
    | refine aw_ifF rfl (decide_eq_false (by assumption)) ?_
    | refine aw_seq ?_
    | refine aw_block ?_
    | refine aw_skip ?_
    | refine aw_region ?_
    | refine aw_region_draw mixed ?_
    | refine aw_exit ?_
    | refine rq_exit ?_
    | refine blockQ_hit ?_
    | refine blockQ_miss (by decide) ?_
    | (refine ar_guard rfl rfl rfl rfl (fun h => ?_) (fun h => ?_) <;> (fail_if_success (cases h; done)) <;> (try simp at h) <;> (try subst h))
    | (refine aw_both rfl (fun h => ?_) (fun h => ?_) <;> (fail_if_success (cases h; done)) <;> (try simp at h) <;> (try subst h)))
  refine aw_loopN [0, 2, 7, 8, 10, 11, 12] [.loc 8] (by simp; exact rfl) (ι := {i : Nat // i ≤ init.length}) (fun i => ⟨124, [(0, .pv (.sl 7 (evsL l))), (2, .pv (.sl 1 (ints init))), (7, B true), (8, .ptr (.loc 8) 0), (10, .pv (.sl 1 (rl co))), (11, .pv (.sl 1 (ints M))), (12, I .i64 i.1)], [(.loc 8, some (.box 28 [.pv (.sl 7 (evsL l)), .pv (.v (.slice none 0 0)), .pv (.v (.slice none 0 0)), .pv (.v (.slice none 0 0)), .pv (.v (.slice none 0 0)), .pv (.v (.slice none 0 0)), .pv (.v (.slice none 0 0))]))]⟩) (fun i => init.length - i.1) ⟨0, by omega⟩ (by simp) ?_
  rintro ⟨i, hi⟩
  by_cases hlt : i < init.length
  · have hw1 : IntKind.wrap .i64 ((i : Int) + 1) = (i : Int) + 1 := wrap64s (by omega) (by omega)
    have hd : (i : Int) < (init.length : Int) := by omega
    have hiM : i < M.length := by omega
    have hL := c_last (es := l) (co := co) (loc := i) (by omega)
    have hW := c_writes (es := l) (loc := i) (by omega)
    have hv := hmv i hlt hiM
    have hWl := writes_len l i
    generalize hx0 : init[i] = x0 at *
    have hstep : ∃ W : Int, lastF l co i = W ∧ (∀ x ∈ writesF l i, x ≠ W → hasR co x W = true) ∧ ((writesF l i = [] ∧ W = -1 ∧ M[i] = x0) ∨ (writesF l i ≠ [] ∧ ∃ a : Nat, ∃ ha : a < l.length, W = a ∧ M[i] = l[a].v)) := by
      rcases rank_last hR i with ⟨h1, h2⟩ | ⟨a, ha, h2, h3, h4, h5, h6⟩
      · refine ⟨-1, h2, fun x hx => (by rw [h1] at hx; cases hx), .inl ⟨h1, rfl, ?_⟩⟩
        rw [hv]; unfold memV; rw [h2, if_neg (by decide)]
      · refine ⟨a, h2, h6, .inr ⟨h5, a, ha, rfl, ?_⟩⟩
        rw [hv]; unfold memV; rw [h2, if_pos (by omega)]; simp [ha]
    clear hv hmv
    obtain ⟨W, hq, hall, hcase⟩ := hstep
    rw [hq] at hL
    clear hq
    generalize writesF l i = X at *
    have hin : ∀ j, (hj : j < X.length) → X[j] = W ∨ (¬X[j] = W ∧ hasR co X[j] W = true) := fun j hj => by
      by_cases h : X[j] = W
      · exact .inl h
      · exact .inr ⟨h, hall _ (List.getElem_mem hj) h⟩
    clear hall
    rcases hcase with ⟨hX, hW1, hM1⟩ | ⟨hX, a, ha, hWa, hM1⟩
    · have hX0 : X.length = 0 := by rw [hX]; rfl
      subst hW1
      have hX0' : (X.length : Int) = 0 := by omega
      repeat' (first
        | refine ar_end rfl ?_
        | refine ar_endD rfl (by kernel_rfl) ?_
        | refine ar_fin rfl ?_
        | refine ar_finD rfl (by kernel_rfl) ?_
        | refine ar_callV Try.call30 hL rfl rfl rfl rfl rfl (by simp; done) (by rfl) (by simp; done) ?_
        | refine ar_callV_if Try.call30 hL rfl rfl rfl rfl rfl rfl (by simp; done) rfl (by rfl) (by simp; done) ?_
        | refine ar_callV Try.call31 hW rfl rfl rfl rfl rfl (by simp; done) (by rfl) (by simp; done) ?_
        | refine ar_callV_if Try.call31 hW rfl rfl rfl rfl rfl rfl (by simp; done) rfl (by rfl) (by simp; done) ?_
        | refine ar_go3 _ rfl (by simp [evsL_len, evsL_getE, evL, prs_len, prs_getE, ints_len, ints_getE, intsL_len, intsL_getE, exL, hlt, hd, hiM, hx0, hM1, hX0, hX0']; exact ⟨rfl, rfl, rfl⟩) rfl ?_
        | refine aw_sregK 13 [0, 2, 7, 8, 10, 11, 12] ?_
        | refine aw_regK 13 [0, 2, 7, 8, 10, 11, 12] ?_
        | refine aw_sregK 15 [0, 2, 7, 8, 10, 11, 12] ?_
        | refine aw_regK 15 [0, 2, 7, 8, 10, 11, 12] ?_
        | refine aw_sregK 16 [0, 2, 7, 8, 10, 11, 12, 13] ?_
        | refine aw_regK 16 [0, 2, 7, 8, 10, 11, 12, 13] ?_
        | refine aw_sregKD mixed 17 [0, 2, 7, 8, 10, 11, 12, 13, 14] (by simp; exact rfl) ?_
        | refine aw_regKD mixed 17 [0, 2, 7, 8, 10, 11, 12, 13, 14] (by simp; exact rfl) ?_
        | refine aw_sregK 19 [0, 2, 7, 8, 10, 11, 12, 13, 14] ?_
        | refine aw_regK 19 [0, 2, 7, 8, 10, 11, 12, 13, 14] ?_
        | refine aw_sreg ?_
        | refine aw_sregD mixed ?_
        | refine aw_ifT (b := true) rfl rfl ?_
        | refine aw_ifF (b := false) rfl rfl ?_
        | refine aw_ifT rfl (by assumption) ?_
        | refine aw_ifF rfl (by assumption) ?_
        | refine aw_ifT rfl (decide_eq_true (by assumption)) ?_
        | refine aw_ifF rfl (decide_eq_false (by assumption)) ?_
        | refine aw_seq ?_
        | refine aw_block ?_
        | refine aw_skip ?_
        | refine aw_region ?_
        | refine aw_region_draw mixed ?_
        | refine aw_exit ?_
        | refine rq_exit ?_
        | refine blockQ_hit ?_
        | refine blockQ_miss (by decide) ?_
        | (refine ar_guard rfl rfl rfl rfl (fun h => ?_) (fun h => ?_) <;> (fail_if_success (cases h; done)) <;> (try simp at h) <;> (try subst h))
        | (refine aw_both rfl (fun h => ?_) (fun h => ?_) <;> (fail_if_success (cases h; done)) <;> (try simp at h) <;> (try subst h)))
      refine aw_loopN [0, 2, 7, 8, 10, 11, 12, 13, 14, 15] [.loc 8] (by simp; exact rfl) (ι := {j : Nat // j ≤ X.length}) (fun j => ⟨124, [(0, .pv (.sl 7 (evsL l))), (2, .pv (.sl 1 (ints init))), (7, B true), (8, .ptr (.loc 8) 0), (10, .pv (.sl 1 (rl co))), (11, .pv (.sl 1 (ints M))), (12, I .i64 i), (13, I .i64 (-1)), (14, .pv (.sl 1 (ints X))), (15, I .i64 j.1)], [(.loc 8, some (.box 28 [.pv (.sl 7 (evsL l)), .pv (.v (.slice none 0 0)), .pv (.v (.slice none 0 0)), .pv (.v (.slice none 0 0)), .pv (.v (.slice none 0 0)), .pv (.v (.slice none 0 0)), .pv (.v (.slice none 0 0))]))]⟩) (fun j => X.length - j.1) ⟨0, by omega⟩ (by simp) ?_
      rintro ⟨j, hj⟩
      by_cases hjl : j < X.length
      · have hw2 : IntKind.wrap .i64 ((j : Int) + 1) = (j : Int) + 1 := wrap64s (by omega) (by omega)
        have hd2 : (j : Int) < (X.length : Int) := by omega
        have hin1 := hin j hjl
        generalize hy : X[j] = y at *
        have hH := c_has (r := co) (i := y) (k := -1)
        rcases hin1 with hin1 | ⟨hin1, hin2⟩
        ·
          repeat' (first
            | refine ar_end rfl ?_
            | refine ar_endD rfl (by kernel_rfl) ?_
            | refine ar_fin rfl ?_
            | refine ar_finD rfl (by kernel_rfl) ?_
            | refine ar_callV Try.call17 hH rfl rfl rfl rfl rfl (by simp; done) (by rfl) (by simp; done) ?_
            | refine ar_callV_if Try.call17 hH rfl rfl rfl rfl rfl rfl (by simp; done) rfl (by rfl) (by simp; done) ?_
            | refine bq_norm ?_
            | refine lq_normN [0, 2, 7, 8, 10, 11, 12, 13, 14, 15] [.loc 8] (by simp; exact rfl) ⟨j + 1, by omega⟩ (by dsimp only; omega) (by simp [hd2])
            | refine ar_go3 _ rfl (by simp [evsL_len, evsL_getE, evL, prs_len, prs_getE, ints_len, ints_getE, intsL_len, intsL_getE, hjl, hd2, hy, hin1, hw2]; exact ⟨rfl, rfl, rfl⟩) rfl ?_
            | refine aw_sregK 20 [0, 2, 7, 8, 10, 11, 12, 13, 14, 15] ?_
            | refine aw_regK 20 [0, 2, 7, 8, 10, 11, 12, 13, 14, 15] ?_
            | refine aw_sregK 21 [0, 2, 7, 8, 10, 11, 12, 13, 14, 15] ?_
            | refine aw_regK 21 [0, 2, 7, 8, 10, 11, 12, 13, 14, 15] ?_
            | refine aw_sregK 22 [0, 2, 7, 8, 10, 11, 12, 13, 14, 15] ?_
            | refine aw_regK 22 [0, 2, 7, 8, 10, 11, 12, 13, 14, 15] ?_
            | refine aw_sreg ?_
            | refine aw_sregD mixed ?_
            | refine aw_ifT (b := true) rfl rfl ?_
            | refine aw_ifF (b := false) rfl rfl ?_
            | refine aw_ifT rfl (by assumption) ?_
            | refine aw_ifF rfl (by assumption) ?_
            | refine aw_ifT rfl (decide_eq_true (by assumption)) ?_
            | refine aw_ifF rfl (decide_eq_false (by assumption)) ?_
            | refine aw_seq ?_
            | refine aw_block ?_
            | refine aw_skip ?_
            | refine aw_region ?_
            | refine aw_region_draw mixed ?_
            | refine aw_exit ?_
            | refine rq_exit ?_
            | refine blockQ_hit ?_
            | refine blockQ_miss (by decide) ?_
            | (refine ar_guard rfl rfl rfl rfl (fun h => ?_) (fun h => ?_) <;> (fail_if_success (cases h; done)) <;> (try simp at h) <;> (try subst h))
            | (refine aw_both rfl (fun h => ?_) (fun h => ?_) <;> (fail_if_success (cases h; done)) <;> (try simp at h) <;> (try subst h)))
        · rw [hin2] at hH
          repeat' (first
            | refine ar_end rfl ?_
            | refine ar_endD rfl (by kernel_rfl) ?_
            | refine ar_fin rfl ?_
            | refine ar_finD rfl (by kernel_rfl) ?_
            | refine ar_callV Try.call17 hH rfl rfl rfl rfl rfl (by simp; done) (by rfl) (by simp; done) ?_
            | refine ar_callV_if Try.call17 hH rfl rfl rfl rfl rfl rfl (by simp; done) rfl (by rfl) (by simp; done) ?_
            | refine bq_norm ?_
            | refine lq_normN [0, 2, 7, 8, 10, 11, 12, 13, 14, 15] [.loc 8] (by simp; exact rfl) ⟨j + 1, by omega⟩ (by dsimp only; omega) (by simp [hd2])
            | refine ar_go3 _ rfl (by simp [evsL_len, evsL_getE, evL, prs_len, prs_getE, ints_len, ints_getE, intsL_len, intsL_getE, hjl, hd2, hy, hin1, hw2]; exact ⟨rfl, rfl, rfl⟩) rfl ?_
            | refine aw_sregK 20 [0, 2, 7, 8, 10, 11, 12, 13, 14, 15] ?_
            | refine aw_regK 20 [0, 2, 7, 8, 10, 11, 12, 13, 14, 15] ?_
            | refine aw_sregK 21 [0, 2, 7, 8, 10, 11, 12, 13, 14, 15] ?_
            | refine aw_regK 21 [0, 2, 7, 8, 10, 11, 12, 13, 14, 15] ?_
            | refine aw_sregK 22 [0, 2, 7, 8, 10, 11, 12, 13, 14, 15] ?_
            | refine aw_regK 22 [0, 2, 7, 8, 10, 11, 12, 13, 14, 15] ?_
            | refine aw_sreg ?_
            | refine aw_sregD mixed ?_
            | refine aw_ifT (b := true) rfl rfl ?_
            | refine aw_ifF (b := false) rfl rfl ?_
            | refine aw_ifT rfl (by assumption) ?_
            | refine aw_ifF rfl (by assumption) ?_
            | refine aw_ifT rfl (decide_eq_true (by assumption)) ?_
            | refine aw_ifF rfl (decide_eq_false (by assumption)) ?_
            | refine aw_seq ?_
            | refine aw_block ?_
            | refine aw_skip ?_
            | refine aw_region ?_
            | refine aw_region_draw mixed ?_
            | refine aw_exit ?_
            | refine rq_exit ?_
            | refine blockQ_hit ?_
            | refine blockQ_miss (by decide) ?_
            | (refine ar_guard rfl rfl rfl rfl (fun h => ?_) (fun h => ?_) <;> (fail_if_success (cases h; done)) <;> (try simp at h) <;> (try subst h))
            | (refine aw_both rfl (fun h => ?_) (fun h => ?_) <;> (fail_if_success (cases h; done)) <;> (try simp at h) <;> (try subst h)))
      · have hd2 : ¬(j : Int) < (X.length : Int) := by omega
        repeat' (first
          | refine ar_end rfl ?_
          | refine ar_endD rfl (by kernel_rfl) ?_
          | refine ar_fin rfl ?_
          | refine ar_finD rfl (by kernel_rfl) ?_
          | refine lq_exit ?_
          | refine bq_norm ?_
          | refine lq_normN [0, 2, 7, 8, 10, 11, 12] [.loc 8] (by simp; exact rfl) ⟨i + 1, by omega⟩ (by dsimp only; omega) (by simp [hd2])
          | refine ar_go3 _ rfl (by simp [evsL_len, evsL_getE, evL, prs_len, prs_getE, ints_len, ints_getE, intsL_len, intsL_getE, hd2, hw1]; exact ⟨rfl, rfl, rfl⟩) rfl ?_
          | refine aw_sregK 14 [0, 2, 7, 8, 10, 11, 12] ?_
          | refine aw_regK 14 [0, 2, 7, 8, 10, 11, 12] ?_
          | refine aw_sregK 20 [0, 2, 7, 8, 10, 11, 12, 13, 14, 15] ?_
          | refine aw_regK 20 [0, 2, 7, 8, 10, 11, 12, 13, 14, 15] ?_
          | refine aw_sreg ?_
          | refine aw_sregD mixed ?_
          | refine aw_ifT (b := true) rfl rfl ?_
          | refine aw_ifF (b := false) rfl rfl ?_
          | refine aw_ifT rfl (by assumption) ?_
          | refine aw_ifF rfl (by assumption) ?_
          | refine aw_ifT rfl (decide_eq_true (by assumption)) ?_
          | refine aw_ifF rfl (decide_eq_false (by assumption)) ?_
          | refine aw_seq ?_
          | refine aw_block ?_
          | refine aw_skip ?_
          | refine aw_region ?_
          | refine aw_region_draw mixed ?_
          | refine aw_exit ?_
          | refine rq_exit ?_
          | refine blockQ_hit ?_
          | refine blockQ_miss (by decide) ?_
          | (refine ar_guard rfl rfl rfl rfl (fun h => ?_) (fun h => ?_) <;> (fail_if_success (cases h; done)) <;> (try simp at h) <;> (try subst h))
          | (refine aw_both rfl (fun h => ?_) (fun h => ?_) <;> (fail_if_success (cases h; done)) <;> (try simp at h) <;> (try subst h)))
    · have hX0 : ¬X.length = 0 := fun h => hX (List.eq_nil_of_length_eq_zero h)
      have hX0' : ¬(X.length : Int) = 0 := by omega
      subst hWa
      have hneg : ¬(a : Int) = -1 := by omega
      generalize hxa : l[a] = xa at *
      repeat' (first
        | refine ar_end rfl ?_
        | refine ar_endD rfl (by kernel_rfl) ?_
        | refine ar_fin rfl ?_
        | refine ar_finD rfl (by kernel_rfl) ?_
        | refine ar_callV Try.call30 hL rfl rfl rfl rfl rfl (by simp; done) (by rfl) (by simp; done) ?_
        | refine ar_callV_if Try.call30 hL rfl rfl rfl rfl rfl rfl (by simp; done) rfl (by rfl) (by simp; done) ?_
        | refine ar_callV Try.call31 hW rfl rfl rfl rfl rfl (by simp; done) (by rfl) (by simp; done) ?_
        | refine ar_callV_if Try.call31 hW rfl rfl rfl rfl rfl rfl (by simp; done) rfl (by rfl) (by simp; done) ?_
        | refine ar_go3 _ rfl (by simp [evsL_len, evsL_getE, evL, prs_len, prs_getE, ints_len, ints_getE, intsL_len, intsL_getE, exL, hlt, hd, hiM, hx0, hM1, hneg, ha, hxa, hX0, hX0']; exact ⟨rfl, rfl, rfl⟩) rfl ?_
        | refine aw_sregK 13 [0, 2, 7, 8, 10, 11, 12] ?_
        | refine aw_regK 13 [0, 2, 7, 8, 10, 11, 12] ?_
        | refine aw_sregK 15 [0, 2, 7, 8, 10, 11, 12] ?_
        | refine aw_regK 15 [0, 2, 7, 8, 10, 11, 12] ?_
        | refine aw_sregK 16 [0, 2, 7, 8, 10, 11, 12, 13] ?_
        | refine aw_regK 16 [0, 2, 7, 8, 10, 11, 12, 13] ?_
        | refine aw_sregKD mixed 17 [0, 2, 7, 8, 10, 11, 12, 13, 14] (by simp; exact rfl) ?_
        | refine aw_regKD mixed 17 [0, 2, 7, 8, 10, 11, 12, 13, 14] (by simp; exact rfl) ?_
        | refine aw_sregK 19 [0, 2, 7, 8, 10, 11, 12, 13, 14] ?_
        | refine aw_regK 19 [0, 2, 7, 8, 10, 11, 12, 13, 14] ?_
        | refine aw_sreg ?_
        | refine aw_sregD mixed ?_
        | refine aw_ifT (b := true) rfl rfl ?_
        | refine aw_ifF (b := false) rfl rfl ?_
        | refine aw_ifT rfl (by assumption) ?_
        | refine aw_ifF rfl (by assumption) ?_
        | refine aw_ifT rfl (decide_eq_true (by assumption)) ?_
        | refine aw_ifF rfl (decide_eq_false (by assumption)) ?_
        | refine aw_seq ?_
        | refine aw_block ?_
        | refine aw_skip ?_
        | refine aw_region ?_
        | refine aw_region_draw mixed ?_
        | refine aw_exit ?_
        | refine rq_exit ?_
        | refine blockQ_hit ?_
        | refine blockQ_miss (by decide) ?_
        | (refine ar_guard rfl rfl rfl rfl (fun h => ?_) (fun h => ?_) <;> (fail_if_success (cases h; done)) <;> (try simp at h) <;> (try subst h))
        | (refine aw_both rfl (fun h => ?_) (fun h => ?_) <;> (fail_if_success (cases h; done)) <;> (try simp at h) <;> (try subst h)))
      refine aw_loopN [0, 2, 7, 8, 10, 11, 12, 13, 14, 15] [.loc 8] (by simp; exact rfl) (ι := {j : Nat // j ≤ X.length}) (fun j => ⟨124, [(0, .pv (.sl 7 (evsL l))), (2, .pv (.sl 1 (ints init))), (7, B true), (8, .ptr (.loc 8) 0), (10, .pv (.sl 1 (rl co))), (11, .pv (.sl 1 (ints M))), (12, I .i64 i), (13, I .i64 (a : Int)), (14, .pv (.sl 1 (ints X))), (15, I .i64 j.1)], [(.loc 8, some (.box 28 [.pv (.sl 7 (evsL l)), .pv (.v (.slice none 0 0)), .pv (.v (.slice none 0 0)), .pv (.v (.slice none 0 0)), .pv (.v (.slice none 0 0)), .pv (.v (.slice none 0 0)), .pv (.v (.slice none 0 0))]))]⟩) (fun j => X.length - j.1) ⟨0, by omega⟩ (by simp) ?_
      rintro ⟨j, hj⟩
      by_cases hjl : j < X.length
      · have hw2 : IntKind.wrap .i64 ((j : Int) + 1) = (j : Int) + 1 := wrap64s (by omega) (by omega)
        have hd2 : (j : Int) < (X.length : Int) := by omega
        have hin1 := hin j hjl
        generalize hy : X[j] = y at *
        have hH := c_has (r := co) (i := y) (k := (a : Int))
        rcases hin1 with hin1 | ⟨hin1, hin2⟩
        ·
          repeat' (first
            | refine ar_end rfl ?_
            | refine ar_endD rfl (by kernel_rfl) ?_
            | refine ar_fin rfl ?_
            | refine ar_finD rfl (by kernel_rfl) ?_
            | refine ar_callV Try.call17 hH rfl rfl rfl rfl rfl (by simp; done) (by rfl) (by simp; done) ?_
            | refine ar_callV_if Try.call17 hH rfl rfl rfl rfl rfl rfl (by simp; done) rfl (by rfl) (by simp; done) ?_
            | refine bq_norm ?_
            | refine lq_normN [0, 2, 7, 8, 10, 11, 12, 13, 14, 15] [.loc 8] (by simp; exact rfl) ⟨j + 1, by omega⟩ (by dsimp only; omega) (by simp [hd2])
            | refine ar_go3 _ rfl (by simp [evsL_len, evsL_getE, evL, prs_len, prs_getE, ints_len, ints_getE, intsL_len, intsL_getE, hjl, hd2, hy, hin1, hw2]; exact ⟨rfl, rfl, rfl⟩) rfl ?_
            | refine aw_sregK 20 [0, 2, 7, 8, 10, 11, 12, 13, 14, 15] ?_
            | refine aw_regK 20 [0, 2, 7, 8, 10, 11, 12, 13, 14, 15] ?_
            | refine aw_sregK 21 [0, 2, 7, 8, 10, 11, 12, 13, 14, 15] ?_
            | refine aw_regK 21 [0, 2, 7, 8, 10, 11, 12, 13, 14, 15] ?_
            | refine aw_sregK 22 [0, 2, 7, 8, 10, 11, 12, 13, 14, 15] ?_
            | refine aw_regK 22 [0, 2, 7, 8, 10, 11, 12, 13, 14, 15] ?_
            | refine aw_sreg ?_
            | refine aw_sregD mixed ?_
            | refine aw_ifT (b := true) rfl rfl ?_
            | refine aw_ifF (b := false) rfl rfl ?_
            | refine aw_ifT rfl (by assumption) ?_
            | refine aw_ifF rfl (by assumption) ?_
            | refine aw_ifT rfl (decide_eq_true (by assumption)) ?_
            | refine aw_ifF rfl (decide_eq_false (by assumption)) ?_
            | refine aw_seq ?_
            | refine aw_block ?_
            | refine aw_skip ?_
            | refine aw_region ?_
            | refine aw_region_draw mixed ?_
            | refine aw_exit ?_
            | refine rq_exit ?_
            | refine blockQ_hit ?_
            | refine blockQ_miss (by decide) ?_
            | (refine ar_guard rfl rfl rfl rfl (fun h => ?_) (fun h => ?_) <;> (fail_if_success (cases h; done)) <;> (try simp at h) <;> (try subst h))
            | (refine aw_both rfl (fun h => ?_) (fun h => ?_) <;> (fail_if_success (cases h; done)) <;> (try simp at h) <;> (try subst h)))
        · rw [hin2] at hH
          repeat' (first
            | refine ar_end rfl ?_
            | refine ar_endD rfl (by kernel_rfl) ?_
            | refine ar_fin rfl ?_
            | refine ar_finD rfl (by kernel_rfl) ?_
            | refine ar_callV Try.call17 hH rfl rfl rfl rfl rfl (by simp; done) (by rfl) (by simp; done) ?_
            | refine ar_callV_if Try.call17 hH rfl rfl rfl rfl rfl rfl (by simp; done) rfl (by rfl) (by simp; done) ?_
            | refine bq_norm ?_
            | refine lq_normN [0, 2, 7, 8, 10, 11, 12, 13, 14, 15] [.loc 8] (by simp; exact rfl) ⟨j + 1, by omega⟩ (by dsimp only; omega) (by simp [hd2])
            | refine ar_go3 _ rfl (by simp [evsL_len, evsL_getE, evL, prs_len, prs_getE, ints_len, ints_getE, intsL_len, intsL_getE, hjl, hd2, hy, hin1, hw2]; exact ⟨rfl, rfl, rfl⟩) rfl ?_
            | refine aw_sregK 20 [0, 2, 7, 8, 10, 11, 12, 13, 14, 15] ?_
            | refine aw_regK 20 [0, 2, 7, 8, 10, 11, 12, 13, 14, 15] ?_
            | refine aw_sregK 21 [0, 2, 7, 8, 10, 11, 12, 13, 14, 15] ?_
            | refine aw_regK 21 [0, 2, 7, 8, 10, 11, 12, 13, 14, 15] ?_
            | refine aw_sregK 22 [0, 2, 7, 8, 10, 11, 12, 13, 14, 15] ?_
            | refine aw_regK 22 [0, 2, 7, 8, 10, 11, 12, 13, 14, 15] ?_
            | refine aw_sreg ?_
            | refine aw_sregD mixed ?_
            | refine aw_ifT (b := true) rfl rfl ?_
            | refine aw_ifF (b := false) rfl rfl ?_
            | refine aw_ifT rfl (by assumption) ?_
            | refine aw_ifF rfl (by assumption) ?_
            | refine aw_ifT rfl (decide_eq_true (by assumption)) ?_
            | refine aw_ifF rfl (decide_eq_false (by assumption)) ?_
            | refine aw_seq ?_
            | refine aw_block ?_
            | refine aw_skip ?_
            | refine aw_region ?_
            | refine aw_region_draw mixed ?_
            | refine aw_exit ?_
            | refine rq_exit ?_
            | refine blockQ_hit ?_
            | refine blockQ_miss (by decide) ?_
            | (refine ar_guard rfl rfl rfl rfl (fun h => ?_) (fun h => ?_) <;> (fail_if_success (cases h; done)) <;> (try simp at h) <;> (try subst h))
            | (refine aw_both rfl (fun h => ?_) (fun h => ?_) <;> (fail_if_success (cases h; done)) <;> (try simp at h) <;> (try subst h)))
      · have hd2 : ¬(j : Int) < (X.length : Int) := by omega
        repeat' (first
          | refine ar_end rfl ?_
          | refine ar_endD rfl (by kernel_rfl) ?_
          | refine ar_fin rfl ?_
          | refine ar_finD rfl (by kernel_rfl) ?_
          | refine lq_exit ?_
          | refine bq_norm ?_
          | refine lq_normN [0, 2, 7, 8, 10, 11, 12] [.loc 8] (by simp; exact rfl) ⟨i + 1, by omega⟩ (by dsimp only; omega) (by simp [hd2])
          | refine ar_go3 _ rfl (by simp [evsL_len, evsL_getE, evL, prs_len, prs_getE, ints_len, ints_getE, intsL_len, intsL_getE, hd2, hw1]; exact ⟨rfl, rfl, rfl⟩) rfl ?_
          | refine aw_sregK 14 [0, 2, 7, 8, 10, 11, 12] ?_
          | refine aw_regK 14 [0, 2, 7, 8, 10, 11, 12] ?_
          | refine aw_sregK 20 [0, 2, 7, 8, 10, 11, 12, 13, 14, 15] ?_
          | refine aw_regK 20 [0, 2, 7, 8, 10, 11, 12, 13, 14, 15] ?_
          | refine aw_sreg ?_
          | refine aw_sregD mixed ?_
          | refine aw_ifT (b := true) rfl rfl ?_
          | refine aw_ifF (b := false) rfl rfl ?_
          | refine aw_ifT rfl (by assumption) ?_
          | refine aw_ifF rfl (by assumption) ?_
          | refine aw_ifT rfl (decide_eq_true (by assumption)) ?_
          | refine aw_ifF rfl (decide_eq_false (by assumption)) ?_
          | refine aw_seq ?_
          | refine aw_block ?_
          | refine aw_skip ?_
          | refine aw_region ?_
          | refine aw_region_draw mixed ?_
          | refine aw_exit ?_
          | refine rq_exit ?_
          | refine blockQ_hit ?_
          | refine blockQ_miss (by decide) ?_
          | (refine ar_guard rfl rfl rfl rfl (fun h => ?_) (fun h => ?_) <;> (fail_if_success (cases h; done)) <;> (try simp at h) <;> (try subst h))
          | (refine aw_both rfl (fun h => ?_) (fun h => ?_) <;> (fail_if_success (cases h; done)) <;> (try simp at h) <;> (try subst h)))
  · have hd : ¬(i : Int) < (init.length : Int) := by omega
    repeat' (first
      | exact aw_ret (ret_vals (by simp; exact rfl) (by simp [*]; fail_if_success (show _)))
      | exact aw_ret (ret_vals (by simp; exact rfl) (by simp [*]; omega))
      | refine ar_end rfl ?_
      | refine ar_endD rfl (by kernel_rfl) ?_
      | refine ar_fin rfl ?_
      | refine ar_finD rfl (by kernel_rfl) ?_
      | refine lq_exit ?_
      | refine ar_go3 _ rfl (by simp [evsL_len, evsL_getE, evL, prs_len, prs_getE, ints_len, ints_getE, intsL_len, intsL_getE, hd]; exact ⟨rfl, rfl, rfl⟩) rfl ?_
      | refine aw_sregK 13 [0, 2, 7, 8, 10, 11, 12] ?_
      | refine aw_regK 13 [0, 2, 7, 8, 10, 11, 12] ?_
      | refine aw_sregK 24 [7] ?_
      | refine aw_regK 24 [7] ?_
      | refine aw_sreg ?_
      | refine aw_sregD mixed ?_
      | refine aw_ifT (b := true) rfl rfl ?_
      | refine aw_ifF (b := false) rfl rfl ?_
      | refine aw_ifT rfl (by assumption) ?_
      | refine aw_ifF rfl (by assumption) ?_
      | refine aw_ifT rfl (decide_eq_true (by assumption)) ?_
      | refine aw_ifF rfl (decide_eq_false (by assumption)) ?_
      | refine aw_seq ?_
      | refine aw_block ?_
      | refine aw_skip ?_
      | refine aw_region ?_
      | refine aw_region_draw mixed ?_
      | refine aw_exit ?_
      | refine rq_exit ?_
      | refine blockQ_hit ?_
      | refine blockQ_miss (by decide) ?_
      | (refine ar_guard rfl rfl rfl rfl (fun h => ?_) (fun h => ?_) <;> (fail_if_success (cases h; done)) <;> (try simp at h) <;> (try subst h))
      | (refine aw_both rfl (fun h => ?_) (fun h => ?_) <;> (fail_if_success (cases h; done)) <;> (try simp at h) <;> (try subst h)))
end Go.Eng
