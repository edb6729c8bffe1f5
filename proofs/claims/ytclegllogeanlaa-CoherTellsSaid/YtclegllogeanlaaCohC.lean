import Derived.Test.YtclegllogeanlaaCohB
set_option linter.unusedSimpArgs false
set_option linter.unusedVariables false
set_option linter.constructorNameAsVariable false
set_option autoImplicit false
namespace Go.Eng
open Go Go.RowKit Go.Proofs
def fewN (es : List Ev) : Nat := (es.filter fun e => decide (e.k = 2)).length
def fewB (es : List Ev) : Bool := decide (es.length ≤ 24) && decide (fewN es ≤ 7)
theorem fewN_succ {es : List Ev} {i : Nat} (h : i < es.length) : fewN (es.take (i + 1)) = fewN (es.take i) + (if es[i].k = 2 then 1 else 0) := by
  unfold fewN; rw [filter_take_succ h, List.length_append]
  by_cases hk : es[i].k = 2 <;> simp [hk]
theorem fewN_le (es : List Ev) : fewN es ≤ es.length := List.length_filter_le _ _
set_option maxHeartbeats 16000000 in
theorem c_few {es : List Ev} (hl : es.length ≤ maxLen) : SC Try.prog 24 [.pv (.sl 7 (evsL es))] (B (fewB es)) := by
  have hM : maxLen = 9223372036854775807 := rfl
  refine scx_of Try.func24 rfl rfl rfl (Nat.le_of_ble_eq_true rfl) ?_
  repeat' (first
    | refine ar_end rfl ?_
    | refine ar_endD rfl (by kernel_rfl) ?_
    | refine ar_fin rfl ?_
    | refine ar_finD rfl (by kernel_rfl) ?_
    | refine ar_go3 _ rfl (by simp [evsL_len, evsL_getE, evL, prs_len, prs_getE]; exact ⟨rfl, rfl, rfl⟩) rfl ?_
    | refine aw_sregK 0 [0] ?_
    | refine aw_regK 0 [0] ?_
    | refine aw_sregK 1 [0] ?_
    | refine aw_regK 1 [0] ?_
    | refine aw_sregK 2 [0, 3] ?_
    | refine aw_regK 2 [0, 3] ?_
    | refine aw_sreg ?_
    | refine aw_sregD mixed ?_
    | refine aw_ifT (b := true) rfl rfl ?_
    | refine aw_ifF (b := false) rfl rfl ?_
    | refine aw_ifT rfl (by assumption) ?_
    | refine aw_ifF rfl (by assumption) ?_
    | refine aw_ifT rfl (decide_eq_true (by assumption)) ?_
    | refine aw_ifF rfl (decide_eq_false (by assumption)) ?_
    | refine aw_seq ?_
    | refine aw_block ?_
    | refine aw_skip ?_
    | refine aw_region ?_
    | refine aw_region_draw mixed ?_
    | refine aw_exit ?_
    | refine rq_exit ?_
    | refine blockQ_hit ?_
    | refine blockQ_miss (by decide) ?_
    | (refine ar_guard rfl rfl rfl rfl (fun h => ?_) (fun h => ?_) <;> (fail_if_success (cases h; done)) <;> (try simp at h) <;> (try subst h))
    | (refine aw_both rfl (fun h => ?_) (fun h => ?_) <;> (fail_if_success (cases h; done)) <;> (try simp at h) <;> (try subst h)))
  refine aw_loopN [0, 3, 4] [] (by simp; exact rfl) (ι := {i : Nat // i ≤ es.length}) (fun i => ⟨26, [(0, .pv (.sl 7 (evsL es))), (3, I .i64 (fewN (es.take i.1))), (4, I .i64 i.1)], []⟩) (fun i => es.length - i.1) ⟨0, by omega⟩ (by simp [fewN]) ?_
  rintro ⟨i, hi⟩
  by_cases hlt : i < es.length
  · have hw : IntKind.wrap .i64 ((i : Int) + 1) = (i : Int) + 1 := wrap64s (by omega) (by omega)
    have hd : (i : Int) < (es.length : Int) := by omega
    have hs := fewN_succ hlt
    have hle := fewN_le (es.take i)
    rw [List.length_take] at hle
    generalize hx : es[i] = x at hs
    generalize fewN (es.take i) = F at *
    by_cases hk : x.k = 2
    · rw [if_pos hk] at hs
      have hw2 : IntKind.wrap .i64 ((F : Int) + 1) = (F : Int) + 1 := wrap64s (by omega) (by omega)
      repeat' (first
        | refine ar_end rfl ?_
        | refine ar_endD rfl (by kernel_rfl) ?_
        | refine ar_fin rfl ?_
        | refine ar_finD rfl (by kernel_rfl) ?_
        | refine bq_norm ?_
        | refine lq_normN [0, 3, 4] [] (by simp; exact rfl) ⟨i + 1, by omega⟩ (by dsimp only; omega) (by simp [hs])
        | refine ar_go3 _ rfl (by simp [evsL_len, evsL_getE, evL, prs_len, prs_getE, hlt, hd, hx, hk, hw, hw2]; exact ⟨rfl, rfl, rfl⟩) rfl ?_
        | refine aw_sregK 3 [0, 3, 4] ?_
        | refine aw_regK 3 [0, 3, 4] ?_
        | refine aw_sregK 4 [0, 3, 4] ?_
        | refine aw_regK 4 [0, 3, 4] ?_
        | refine aw_sregK 5 [0, 3, 4] ?_
        | refine aw_regK 5 [0, 3, 4] ?_
        | refine aw_sregK 6 [0, 3, 4] ?_
        | refine aw_regK 6 [0, 3, 4] ?_
        | refine aw_sreg ?_
        | refine aw_sregD mixed ?_
        | refine aw_ifT (b := true) rfl rfl ?_
        | refine aw_ifF (b := false) rfl rfl ?_
        | refine aw_ifT rfl (by assumption) ?_
        | refine aw_ifF rfl (by assumption) ?_
        | refine aw_ifT rfl (decide_eq_true (by assumption)) ?_
        | refine aw_ifF rfl (decide_eq_false (by assumption)) ?_
        | refine aw_seq ?_
        | refine aw_block ?_
        | refine aw_skip ?_
        | refine aw_region ?_
        | refine aw_region_draw mixed ?_
        | refine aw_exit ?_
        | refine rq_exit ?_
        | refine blockQ_hit ?_
        | refine blockQ_miss (by decide) ?_
        | (refine ar_guard rfl rfl rfl rfl (fun h => ?_) (fun h => ?_) <;> (fail_if_success (cases h; done)) <;> (try simp at h) <;> (try subst h))
        | (refine aw_both rfl (fun h => ?_) (fun h => ?_) <;> (fail_if_success (cases h; done)) <;> (try simp at h) <;> (try subst h)))
    · rw [if_neg hk] at hs
      repeat' (first
        | refine ar_end rfl ?_
        | refine ar_endD rfl (by kernel_rfl) ?_
        | refine ar_fin rfl ?_
        | refine ar_finD rfl (by kernel_rfl) ?_
        | refine bq_norm ?_
        | refine lq_normN [0, 3, 4] [] (by simp; exact rfl) ⟨i + 1, by omega⟩ (by dsimp only; omega) (by simp [hs])
        | refine ar_go3 _ rfl (by simp [evsL_len, evsL_getE, evL, prs_len, prs_getE, hlt, hd, hx, hk, hw]; exact ⟨rfl, rfl, rfl⟩) rfl ?_
        | refine aw_sregK 3 [0, 3, 4] ?_
        | refine aw_regK 3 [0, 3, 4] ?_
        | refine aw_sregK 4 [0, 3, 4] ?_
        | refine aw_regK 4 [0, 3, 4] ?_
        | refine aw_sregK 5 [0, 3, 4] ?_
        | refine aw_regK 5 [0, 3, 4] ?_
        | refine aw_sregK 6 [0, 3, 4] ?_
        | refine aw_regK 6 [0, 3, 4] ?_
        | refine aw_sreg ?_
        | refine aw_sregD mixed ?_
        | refine aw_ifT (b := true) rfl rfl ?_
        | refine aw_ifF (b := false) rfl rfl ?_
        | refine aw_ifT rfl (by assumption) ?_
        | refine aw_ifF rfl (by assumption) ?_
        | refine aw_ifT rfl (decide_eq_true (by assumption)) ?_
        | refine aw_ifF rfl (decide_eq_false (by assumption)) ?_
        | refine aw_seq ?_
        | refine aw_block ?_
        | refine aw_skip ?_
        | refine aw_region ?_
        | refine aw_region_draw mixed ?_
        | refine aw_exit ?_
        | refine rq_exit ?_
        | refine blockQ_hit ?_
        | refine blockQ_miss (by decide) ?_
        | (refine ar_guard rfl rfl rfl rfl (fun h => ?_) (fun h => ?_) <;> (fail_if_success (cases h; done)) <;> (try simp at h) <;> (try subst h))
        | (refine aw_both rfl (fun h => ?_) (fun h => ?_) <;> (fail_if_success (cases h; done)) <;> (try simp at h) <;> (try subst h)))
  · have hd : ¬(i : Int) < (es.length : Int) := by omega
    have hie : es.take i = es := List.take_of_length_le (by omega)
    simp only [hie]
    unfold fewB
    by_cases h24 : (es.length : Int) ≤ 24
    · have h24' : es.length ≤ 24 := by omega
      by_cases h7 : (fewN es : Int) ≤ 7
      · have h7' : fewN es ≤ 7 := by omega
        repeat' (first
          | exact aw_ret (ret_vals (by simp; exact rfl) (by simp [h24', h7']; fail_if_success (show _)))
          | exact aw_ret (ret_vals (by simp; exact rfl) (by simp [h24', h7']; omega))
          | refine ar_end rfl ?_
          | refine ar_endD rfl (by kernel_rfl) ?_
          | refine ar_fin rfl ?_
          | refine ar_finD rfl (by kernel_rfl) ?_
          | refine lq_exit ?_
          | refine ar_go3 _ rfl (by simp [evsL_len, evsL_getE, evL, prs_len, prs_getE, hd, h24, h7]; exact ⟨rfl, rfl, rfl⟩) rfl ?_
          | refine aw_sregK 3 [0, 3, 4] ?_
          | refine aw_regK 3 [0, 3, 4] ?_
          | refine aw_sregK 7 [0, 3] ?_
          | refine aw_regK 7 [0, 3] ?_
          | refine aw_sreg ?_
          | refine aw_sregD mixed ?_
          | refine aw_ifT (b := true) rfl rfl ?_
          | refine aw_ifF (b := false) rfl rfl ?_
          | refine aw_ifT rfl (by assumption) ?_
          | refine aw_ifF rfl (by assumption) ?_
          | refine aw_ifT rfl (decide_eq_true (by assumption)) ?_
          | refine aw_ifF rfl (decide_eq_false (by assumption)) ?_
          | refine aw_seq ?_
          | refine aw_block ?_
          | refine aw_skip ?_
          | refine aw_region ?_
          | refine aw_region_draw mixed ?_
          | refine aw_exit ?_
          | refine rq_exit ?_
          | refine blockQ_hit ?_
          | refine blockQ_miss (by decide) ?_
          | (refine ar_guard rfl rfl rfl rfl (fun h => ?_) (fun h => ?_) <;> (fail_if_success (cases h; done)) <;> (try simp at h) <;> (try subst h))
          | (refine aw_both rfl (fun h => ?_) (fun h => ?_) <;> (fail_if_success (cases h; done)) <;> (try simp at h) <;> (try subst h)))
      · have h7' : ¬fewN es ≤ 7 := by omega
        repeat' (first
          | exact aw_ret (ret_vals (by simp; exact rfl) (by simp [h24', h7']; fail_if_success (show _)))
          | exact aw_ret (ret_vals (by simp; exact rfl) (by simp [h24', h7']; omega))
          | refine ar_end rfl ?_
          | refine ar_endD rfl (by kernel_rfl) ?_
          | refine ar_fin rfl ?_
          | refine ar_finD rfl (by kernel_rfl) ?_
          | refine lq_exit ?_
          | refine ar_go3 _ rfl (by simp [evsL_len, evsL_getE, evL, prs_len, prs_getE, hd, h24, h7]; exact ⟨rfl, rfl, rfl⟩) rfl ?_
          | refine aw_sregK 3 [0, 3, 4] ?_
          | refine aw_regK 3 [0, 3, 4] ?_
          | refine aw_sregK 7 [0, 3] ?_
          | refine aw_regK 7 [0, 3] ?_
          | refine aw_sreg ?_
          | refine aw_sregD mixed ?_
          | refine aw_ifT (b := true) rfl rfl ?_
          | refine aw_ifF (b := false) rfl rfl ?_
          | refine aw_ifT rfl (by assumption) ?_
          | refine aw_ifF rfl (by assumption) ?_
          | refine aw_ifT rfl (decide_eq_true (by assumption)) ?_
          | refine aw_ifF rfl (decide_eq_false (by assumption)) ?_
          | refine aw_seq ?_
          | refine aw_block ?_
          | refine aw_skip ?_
          | refine aw_region ?_
          | refine aw_region_draw mixed ?_
          | refine aw_exit ?_
          | refine rq_exit ?_
          | refine blockQ_hit ?_
          | refine blockQ_miss (by decide) ?_
          | (refine ar_guard rfl rfl rfl rfl (fun h => ?_) (fun h => ?_) <;> (fail_if_success (cases h; done)) <;> (try simp at h) <;> (try subst h))
          | (refine aw_both rfl (fun h => ?_) (fun h => ?_) <;> (fail_if_success (cases h; done)) <;> (try simp at h) <;> (try subst h)))
    · have h24' : ¬es.length ≤ 24 := by omega
      repeat' (first
        | exact aw_ret (ret_vals (by simp; exact rfl) (by simp [h24']; fail_if_success (show _)))
        | exact aw_ret (ret_vals (by simp; exact rfl) (by simp [h24']; omega))
        | refine ar_end rfl ?_
        | refine ar_endD rfl (by kernel_rfl) ?_
        | refine ar_fin rfl ?_
        | refine ar_finD rfl (by kernel_rfl) ?_
        | refine lq_exit ?_
        | refine ar_go3 _ rfl (by simp [evsL_len, evsL_getE, evL, prs_len, prs_getE, hd, h24]; exact ⟨rfl, rfl, rfl⟩) rfl ?_
        | refine aw_sregK 3 [0, 3, 4] ?_
        | refine aw_regK 3 [0, 3, 4] ?_
        | refine aw_sregK 7 [0, 3] ?_
        | refine aw_regK 7 [0, 3] ?_
        | refine aw_sreg ?_
        | refine aw_sregD mixed ?_
        | refine aw_ifT (b := true) rfl rfl ?_
        | refine aw_ifF (b := false) rfl rfl ?_
        | refine aw_ifT rfl (by assumption) ?_
        | refine aw_ifF rfl (by assumption) ?_
        | refine aw_ifT rfl (decide_eq_true (by assumption)) ?_
        | refine aw_ifF rfl (decide_eq_false (by assumption)) ?_
        | refine aw_seq ?_
        | refine aw_block ?_
        | refine aw_skip ?_
        | refine aw_region ?_
        | refine aw_region_draw mixed ?_
        | refine aw_exit ?_
        | refine rq_exit ?_
        | refine blockQ_hit ?_
        | refine blockQ_miss (by decide) ?_
        | (refine ar_guard rfl rfl rfl rfl (fun h => ?_) (fun h => ?_) <;> (fail_if_success (cases h; done)) <;> (try simp at h) <;> (try subst h))
        | (refine aw_both rfl (fun h => ?_) (fun h => ?_) <;> (fail_if_success (cases h; done)) <;> (try simp at h) <;> (try subst h)))
set_option maxHeartbeats 16000000 in
theorem c_made12 {es : List Ev} : SC Try.prog 25 [.pv (.sl 7 (evsL es))] (.agg (exL es)) := by
  refine scx_of Try.func25 rfl rfl rfl (Nat.le_of_ble_eq_true rfl) ?_
  repeat' (first
    | exact aw_ret (ret_vals (by simp; exact rfl) (by simp [*]; fail_if_success (show _)))
    | exact aw_ret (ret_vals (by simp; exact rfl) (by simp [*]; omega))
    | refine ar_end rfl ?_
    | refine ar_endD rfl (by kernel_rfl) ?_
    | refine ar_fin rfl ?_
    | refine ar_finD rfl (by kernel_rfl) ?_
    | refine ar_go3 _ rfl (by simp [*]; exact ⟨rfl, rfl, rfl⟩) rfl ?_
    | refine aw_sregK 0 [0] ?_
    | refine aw_regK 0 [0] ?_
    | refine aw_sregK 1 [0, 2] ?_
    | refine aw_regK 1 [0, 2] ?_
    | refine aw_sreg ?_
    | refine aw_sregD mixed ?_
    | refine aw_ifT (b := true) rfl rfl ?_
    | refine aw_ifF (b := false) rfl rfl ?_
    | refine aw_ifT rfl (by assumption) ?_
    | refine aw_ifF rfl (by assumption) ?_
    | refine aw_ifT rfl (decide_eq_true (by assumption)) ?_
    | refine aw_ifF rfl (decide_eq_false (by assumption)) ?_
    | refine aw_seq ?_
    | refine aw_block ?_
    | refine aw_skip ?_
    | refine aw_region ?_
    | refine aw_region_draw mixed ?_
    | refine aw_exit ?_
    | refine rq_exit ?_
    | refine blockQ_hit ?_
    | refine blockQ_miss (by decide) ?_
    | (refine ar_guard rfl rfl rfl rfl (fun h => ?_) (fun h => ?_) <;> (fail_if_success (cases h; done)) <;> (try simp at h) <;> (try subst h))
    | (refine aw_both rfl (fun h => ?_) (fun h => ?_) <;> (fail_if_success (cases h; done)) <;> (try simp at h) <;> (try subst h)))
theorem ordF_mem {l : List Int} : ∀ g ∈ ordF l, g.length ≤ 6 := by
  intro g hg
  unfold ordF at hg
  split at hg
  · cases hg
  · rw [ordG_mem _ l rfl g hg]; omega
set_option maxHeartbeats 16000000 in
theorem c_cohAll {es : List Ev} (h32 : es.length ≤ 32) (hA1 : ∀ i, i ≤ (placesF es).length → (allUp es i).length ≤ 1000000) (hB : ∀ i, (hi : i < (placesF es).length) → (allUp es i).length * (ordF (writesF es (placesF es)[i])).length ≤ 20000) : SC Try.prog 26 [.agg (exL es)] (.pv (.sl 1 (rlsL (allR es)))) := by
  have hN := c_newV (n := es.length) h32
  have hP := c_places h32
  have hpl : (placesF es).length ≤ 32 := by
    unfold placesF
    refine Nat.le_trans (compact_le _) ?_
    rw [sortI_len]
    exact Nat.le_trans (wlocs_len es) h32
  unfold allR
  refine scx_of Try.func26 rfl rfl rfl (Nat.le_of_ble_eq_true rfl) ?_
  repeat' (first
    | refine ar_end rfl ?_
    | refine ar_endD rfl (by kernel_rfl) ?_
    | refine ar_fin rfl ?_
    | refine ar_finD rfl (by kernel_rfl) ?_
    | refine ar_callV Try.call29 hN rfl rfl rfl rfl rfl (by simp; done) (by rfl) (by simp; done) ?_
    | refine ar_callV_if Try.call29 hN rfl rfl rfl rfl rfl rfl (by simp; done) rfl (by rfl) (by simp; done) ?_
    | refine ar_callV Try.call57 hP rfl rfl rfl rfl rfl (by simp; done) (by rfl) (by simp; done) ?_
    | refine ar_callV_if Try.call57 hP rfl rfl rfl rfl rfl rfl (by simp; done) rfl (by rfl) (by simp; done) ?_
    | refine ar_go3 _ rfl (by simp [evsL_len, evsL_getE, evL, prs_len, prs_getE, ints_len, ints_getE, intsL_len, intsL_getE]; exact ⟨rfl, rfl, rfl⟩) rfl ?_
    | refine aw_sregK 0 [0] ?_
    | refine aw_regK 0 [0] ?_
    | refine aw_sregK 1 [1] ?_
    | refine aw_regK 1 [1] ?_
    | refine aw_sregK 2 [1, 3] ?_
    | refine aw_regK 2 [1, 3] ?_
    | refine aw_sregK 3 [1, 3, 4] ?_
    | refine aw_regK 3 [1, 3, 4] ?_
    | refine aw_sreg ?_
    | refine aw_sregD mixed ?_
    | refine aw_ifT (b := true) rfl rfl ?_
    | refine aw_ifF (b := false) rfl rfl ?_
    | refine aw_ifT rfl (by assumption) ?_
    | refine aw_ifF rfl (by assumption) ?_
    | refine aw_ifT rfl (decide_eq_true (by assumption)) ?_
    | refine aw_ifF rfl (decide_eq_false (by assumption)) ?_
    | refine aw_seq ?_
    | refine aw_block ?_
    | refine aw_skip ?_
    | refine aw_region ?_
    | refine aw_region_draw mixed ?_
    | refine aw_exit ?_
    | refine rq_exit ?_
    | refine blockQ_hit ?_
    | refine blockQ_miss (by decide) ?_
    | (refine ar_guard rfl rfl rfl rfl (fun h => ?_) (fun h => ?_) <;> (fail_if_success (cases h; done)) <;> (try simp at h) <;> (try subst h))
    | (refine aw_both rfl (fun h => ?_) (fun h => ?_) <;> (fail_if_success (cases h; done)) <;> (try simp at h) <;> (try subst h)))
  refine aw_frz (.loc 18) (by simp; exact rfl) ?_
  refine aw_loopN [1, 3, 4, 20, 21, 22] [.loc 1] (by simp; exact rfl) (ι := {i : Nat // i ≤ (placesF es).length}) (fun i => ⟨61, [(1, .ptr (.loc 1) 0), (3, I .i64 es.length), (4, .pv (.sl 1 (rlsL (allUp es i.1)))), (20, .pv (.sl 1 (ints (placesF es)))), (21, I .i64 (placesF es).length), (22, I .i64 i.1)], [(.loc 1, some (.box 28 [.pv (.sl 7 (evsL es)), .pv (.v (.slice none 0 0)), .pv (.v (.slice none 0 0)), .pv (.v (.slice none 0 0)), .pv (.v (.slice none 0 0)), .pv (.v (.slice none 0 0)), .pv (.v (.slice none 0 0))]))]⟩) (fun i => (placesF es).length - i.1) ⟨0, by omega⟩ (by simp [allUp, rlsL, ints_len]) ?_
  rintro ⟨i, hi⟩
  by_cases hlt : i < (placesF es).length
  · have hw : IntKind.wrap .i64 ((i : Int) + 1) = (i : Int) + 1 := wrap64s (by omega) (by omega)
    have hd : (i : Int) < ((placesF es).length : Int) := by omega
    have hb := hB i hlt
    have hst : allUp es (i + 1) = (allUp es i).flatMap fun co => (ordF (writesF es ((placesF es).getD i 0))).map fun one => bothR (· ||| ·) co (ofF es.length one) := rfl
    have hAcl := allUp_cl h32 i
    rw [getD_in _ _ hlt] at hst
    generalize hx : (placesF es)[i] = loc at *
    have hW := c_writes (loc := loc) h32
    have hO := c_ordAll (l := writesF es loc)
    have hom := ordF_mem (l := writesF es loc)
    generalize writesF es loc = W at *
    generalize ordF W = L at *
    have hA1m := hA1 i (by omega)
    clear hA1 hB
    generalize allUp es i = A at *
    have hg20 : ¬(20000 : Int) < (A.length : Int) * (L.length : Int) := by
      have : ((A.length * L.length : Nat) : Int) ≤ 20000 := by omega
      rw [Int.natCast_mul] at this; omega
    have hmw : IntKind.wrap .i64 ((A.length : Int) * (L.length : Int)) = (A.length : Int) * (L.length : Int) := wrap64s (by
      have : (0 : Int) ≤ (A.length : Int) * (L.length : Int) := Int.mul_nonneg (Int.natCast_nonneg _) (Int.natCast_nonneg _)
      omega) (by omega)
    repeat' (first
      | refine ar_end rfl ?_
      | refine ar_endD rfl (by kernel_rfl) ?_
      | refine ar_fin rfl ?_
      | refine ar_finD rfl (by kernel_rfl) ?_
      | refine ar_callV Try.call31 hW rfl rfl rfl rfl rfl (by simp; done) (by rfl) (by simp; done) ?_
      | refine ar_callV_if Try.call31 hW rfl rfl rfl rfl rfl rfl (by simp; done) rfl (by rfl) (by simp; done) ?_
      | refine ar_callV Try.call58 hO rfl rfl rfl rfl rfl (by simp; done) (by rfl) (by simp; done) ?_
      | refine ar_callV_if Try.call58 hO rfl rfl rfl rfl rfl rfl (by simp; done) rfl (by rfl) (by simp; done) ?_
      | refine ar_go3 _ rfl (by simp [evsL_len, evsL_getE, evL, prs_len, prs_getE, ints_len, ints_getE, intsL_len, intsL_getE, rlsL_len, rlsL_getE, hlt, hd, hx, hw, hmw, hg20]; exact ⟨rfl, rfl, rfl⟩) rfl ?_
      | refine aw_sregK 4 [1, 3, 4, 20, 21, 22] ?_
      | refine aw_regK 4 [1, 3, 4, 20, 21, 22] ?_
      | refine aw_sregK 5 [1, 3, 4, 20, 21, 22] ?_
      | refine aw_regK 5 [1, 3, 4, 20, 21, 22] ?_
      | refine aw_sregK 6 [1, 3, 4, 6, 20, 21, 22] ?_
      | refine aw_regK 6 [1, 3, 4, 6, 20, 21, 22] ?_
      | refine aw_sregK 7 [1, 3, 4, 7, 20, 21, 22] ?_
      | refine aw_regK 7 [1, 3, 4, 7, 20, 21, 22] ?_
      | refine aw_sregK 8 [] ?_
      | refine aw_regK 8 [] ?_
      | refine aw_sregK 9 [1, 3, 4, 7, 20, 21, 22] ?_
      | refine aw_regK 9 [1, 3, 4, 7, 20, 21, 22] ?_
      | refine aw_sregK 10 [1, 3, 4, 7, 8, 20, 21, 22] ?_
      | refine aw_regK 10 [1, 3, 4, 7, 8, 20, 21, 22] ?_
      | refine aw_sreg ?_
      | refine aw_sregD mixed ?_
      | refine aw_ifT (b := true) rfl rfl ?_
      | refine aw_ifF (b := false) rfl rfl ?_
      | refine aw_ifT rfl (by assumption) ?_
      | refine aw_ifF rfl (by assumption) ?_
      | refine aw_ifT rfl (decide_eq_true (by assumption)) ?_
      | refine aw_ifF rfl (decide_eq_false (by assumption)) ?_
      | refine aw_seq ?_
      | refine aw_block ?_
      | refine aw_skip ?_
      | refine aw_region ?_
      | refine aw_region_draw mixed ?_
      | refine aw_exit ?_
      | refine rq_exit ?_
      | refine blockQ_hit ?_
      | refine blockQ_miss (by decide) ?_
      | (refine ar_guard rfl rfl rfl rfl (fun h => ?_) (fun h => ?_) <;> (fail_if_success (cases h; done)) <;> (try simp at h) <;> (try subst h))
      | (refine aw_both rfl (fun h => ?_) (fun h => ?_) <;> (fail_if_success (cases h; done)) <;> (try simp at h) <;> (try subst h)))
    refine aw_nil 8 (.loc 1000) 25 1 (by simp; exact rfl) ?_
    refine aw_loopN [1, 3, 7, 8, 20, 21, 22, 36, 37, 38] [.loc 1, .loc 1000] (by simp; exact rfl) (ι := {k : Nat // k ≤ A.length}) (fun k => ⟨61, [(1, .ptr (.loc 1) 0), (3, I .i64 es.length), (7, .pv (.sl 1 (intsL L))), (8, .own (.loc 1000)), (20, .pv (.sl 1 (ints (placesF es)))), (21, I .i64 (placesF es).length), (22, I .i64 i), (36, .pv (.sl 1 (rlsL A))), (37, I .i64 A.length), (38, I .i64 k.1)], [(.loc 1, some (.box 28 [.pv (.sl 7 (evsL es)), .pv (.v (.slice none 0 0)), .pv (.v (.slice none 0 0)), .pv (.v (.slice none 0 0)), .pv (.v (.slice none 0 0)), .pv (.v (.slice none 0 0)), .pv (.v (.slice none 0 0))])), (.loc 1000, some (.own 25 1 (rlsL ((A.take k.1).flatMap fun co => L.map fun one => bothR (· ||| ·) co (ofF es.length one)))))]⟩) (fun k => A.length - k.1) ⟨0, by omega⟩ (by simp [rlsL, rlsL_len]) ?_
    rintro ⟨k, hk⟩
    by_cases hkl : k < A.length
    · have hw2 : IntKind.wrap .i64 ((k : Int) + 1) = (k : Int) + 1 := wrap64s (by omega) (by
        have hA20 : A.length ≤ 1000000 := hA1m
        omega)
      have hd2 : (k : Int) < (A.length : Int) := by omega
      have hks : ((A.take (k + 1)).flatMap fun co => L.map fun one => bothR (· ||| ·) co (ofF es.length one)) = ((A.take k).flatMap fun co => L.map fun one => bothR (· ||| ·) co (ofF es.length one)) ++ (L.map fun one => bothR (· ||| ·) A[k] (ofF es.length one)) := by
        rw [List.take_add_one, List.getElem?_eq_getElem hkl, List.flatMap_append]; simp
      have hcoc := hAcl A[k] (List.getElem_mem hkl)
      have hfl : ((A.take k).flatMap fun co => L.map fun one => bothR (· ||| ·) co (ofF es.length one)).length + L.length ≤ 20000 := by
        refine Nat.le_trans ?_ hb
        rw [List.length_flatMap]
        simp only [List.length_map, List.map_const', List.sum_replicate_nat, List.length_take]
        rw [Nat.min_eq_left (by omega), ← Nat.succ_mul]
        exact Nat.mul_le_mul_right _ hkl
      generalize hco : A[k] = co at *
      generalize ((A.take k).flatMap fun co => L.map fun one => bothR (· ||| ·) co (ofF es.length one)) = U at *
      repeat' (first
        | refine ar_end rfl ?_
        | refine ar_endD rfl (by kernel_rfl) ?_
        | refine ar_fin rfl ?_
        | refine ar_finD rfl (by kernel_rfl) ?_
        | refine ar_go3 _ rfl (by simp [evsL_len, evsL_getE, evL, prs_len, prs_getE, ints_len, ints_getE, intsL_len, intsL_getE, rlsL_len, rlsL_getE, hkl, hd2, hco, hw2]; exact ⟨rfl, rfl, rfl⟩) rfl ?_
        | refine aw_sregK 11 [1, 3, 7, 8, 20, 21, 22, 36, 37, 38] ?_
        | refine aw_regK 11 [1, 3, 7, 8, 20, 21, 22, 36, 37, 38] ?_
        | refine aw_sregK 12 [1, 3, 7, 8, 20, 21, 22, 36, 37, 38] ?_
        | refine aw_regK 12 [1, 3, 7, 8, 20, 21, 22, 36, 37, 38] ?_
        | refine aw_sregK 13 [1, 3, 7, 8, 10, 20, 21, 22, 36, 37, 38] ?_
        | refine aw_regK 13 [1, 3, 7, 8, 10, 20, 21, 22, 36, 37, 38] ?_
        | refine aw_sreg ?_
        | refine aw_sregD mixed ?_
        | refine aw_ifT (b := true) rfl rfl ?_
        | refine aw_ifF (b := false) rfl rfl ?_
        | refine aw_ifT rfl (by assumption) ?_
        | refine aw_ifF rfl (by assumption) ?_
        | refine aw_ifT rfl (decide_eq_true (by assumption)) ?_
        | refine aw_ifF rfl (decide_eq_false (by assumption)) ?_
        | refine aw_seq ?_
        | refine aw_block ?_
        | refine aw_skip ?_
        | refine aw_region ?_
        | refine aw_region_draw mixed ?_
        | refine aw_exit ?_
        | refine rq_exit ?_
        | refine blockQ_hit ?_
        | refine blockQ_miss (by decide) ?_
        | (refine ar_guard rfl rfl rfl rfl (fun h => ?_) (fun h => ?_) <;> (fail_if_success (cases h; done)) <;> (try simp at h) <;> (try subst h))
        | (refine aw_both rfl (fun h => ?_) (fun h => ?_) <;> (fail_if_success (cases h; done)) <;> (try simp at h) <;> (try subst h)))
      refine aw_loopN [1, 3, 7, 8, 10, 20, 21, 22, 36, 37, 38, 42, 43, 44] [.loc 1, .loc 1000] (by simp; exact rfl) (ι := {j : Nat // j ≤ L.length}) (fun j => ⟨61, [(1, .ptr (.loc 1) 0), (3, I .i64 es.length), (7, .pv (.sl 1 (intsL L))), (8, .own (.loc 1000)), (10, .pv (.sl 1 (rl co))), (20, .pv (.sl 1 (ints (placesF es)))), (21, I .i64 (placesF es).length), (22, I .i64 i), (36, .pv (.sl 1 (rlsL A))), (37, I .i64 A.length), (38, I .i64 k), (42, .pv (.sl 1 (intsL L))), (43, I .i64 L.length), (44, I .i64 j.1)], [(.loc 1, some (.box 28 [.pv (.sl 7 (evsL es)), .pv (.v (.slice none 0 0)), .pv (.v (.slice none 0 0)), .pv (.v (.slice none 0 0)), .pv (.v (.slice none 0 0)), .pv (.v (.slice none 0 0)), .pv (.v (.slice none 0 0))])), (.loc 1000, some (.own 25 1 (rlsL (U ++ (L.take j.1).map fun one => bothR (· ||| ·) co (ofF es.length one)))))]⟩) (fun j => L.length - j.1) ⟨0, by omega⟩ (by simp [intsL_len]) ?_
      rintro ⟨j, hj⟩
      by_cases hjl : j < L.length
      · have hw3 : IntKind.wrap .i64 ((j : Int) + 1) = (j : Int) + 1 := wrap64s (by omega) (by omega)
        have hd3 : (j : Int) < (L.length : Int) := by omega
        have hts : ((L.take (j + 1)).map fun one => bothR (· ||| ·) co (ofF es.length one)) = ((L.take j).map fun one => bothR (· ||| ·) co (ofF es.length one)) ++ [bothR (· ||| ·) co (ofF es.length L[j])] := by rw [List.take_add_one, List.getElem?_eq_getElem hjl, List.map_append]; rfl
        have htl : ((L.take j).map fun one => bothR (· ||| ·) co (ofF es.length one)).length ≤ L.length := by simp; omega
        have hgl := hom L[j] (List.getElem_mem hjl)
        generalize hone : L[j] = one at *
        have hOf := c_of (n := es.length) (l := one) h32 (by omega)
        have hofl := (ofUp_cl (l := one) h32 one.length).len
        change (ofF es.length one).length = es.length at hofl
        generalize ofF es.length one = Z at *
        have hOr := c_orV (a := co) (b := Z) (by rw [hcoc.len]; simp [maxLen]; omega) (by rw [hofl]; simp [maxLen]; omega)
        generalize (L.take j).map (fun one => bothR (· ||| ·) co (ofF es.length one)) = V at *
        generalize bothR (· ||| ·) co Z = Y at *
        repeat' (first
          | refine ar_end rfl ?_
          | refine ar_endD rfl (by kernel_rfl) ?_
          | refine ar_fin rfl ?_
          | refine ar_finD rfl (by kernel_rfl) ?_
          | refine ar_callV Try.call59 hOf rfl rfl rfl rfl rfl (by simp; done) (by rfl) (by simp; done) ?_
          | refine ar_callV_if Try.call59 hOf rfl rfl rfl rfl rfl rfl (by simp; done) rfl (by rfl) (by simp; done) ?_
          | refine ar_callV Try.call16 hOr rfl rfl rfl rfl rfl (by simp; done) (by rfl) (by simp; done) ?_
          | refine ar_callV_if Try.call16 hOr rfl rfl rfl rfl rfl rfl (by simp; done) rfl (by rfl) (by simp; done) ?_
          | refine ar_appO rfl rfl rfl rfl rfl (by simp; exact rfl) rfl (by simp; exact rfl) (by simp; exact rfl) (by simp; exact ⟨rfl, rfl⟩) rfl (by simp; exact rfl) (by simp; done) (by decide) (by simp [rlsL_len, maxLen]; try omega) ?_
          | refine bq_norm ?_
          | refine lq_normR (.loc 55) (.loc 1000) [1, 3, 7, 8, 10, 20, 21, 22, 36, 37, 38, 42, 43, 44] [.loc 1, .loc 1000] (by simp; exact rfl) ⟨j + 1, by omega⟩ (by dsimp only; omega) (by rw [hts, ← List.append_assoc, rlsL_app]; simp [rlsL])
          | refine ar_go3 _ rfl (by simp [evsL_len, evsL_getE, evL, prs_len, prs_getE, ints_len, ints_getE, intsL_len, intsL_getE, rlsL_len, rlsL_getE, hjl, hd3, hone, hw3]; exact ⟨rfl, rfl, rfl⟩) rfl ?_
          | refine aw_sregK 14 [1, 3, 7, 8, 10, 20, 21, 22, 36, 37, 38, 42, 43, 44] ?_
          | refine aw_regK 14 [1, 3, 7, 8, 10, 20, 21, 22, 36, 37, 38, 42, 43, 44] ?_
          | refine aw_sregK 15 [1, 3, 7, 8, 10, 20, 21, 22, 36, 37, 38, 42, 43, 44] ?_
          | refine aw_regK 15 [1, 3, 7, 8, 10, 20, 21, 22, 36, 37, 38, 42, 43, 44] ?_
          | refine aw_sregK 16 [1, 3, 7, 8, 10, 12, 20, 21, 22, 36, 37, 38, 42, 43, 44] ?_
          | refine aw_regK 16 [1, 3, 7, 8, 10, 12, 20, 21, 22, 36, 37, 38, 42, 43, 44] ?_
          | refine aw_sregK 17 [1, 3, 7, 8, 10, 20, 21, 22, 36, 37, 38, 42, 43, 44] ?_
          | refine aw_regK 17 [1, 3, 7, 8, 10, 20, 21, 22, 36, 37, 38, 42, 43, 44] ?_
          | refine aw_sreg ?_
          | refine aw_sregD mixed ?_
          | refine aw_ifT (b := true) rfl rfl ?_
          | refine aw_ifF (b := false) rfl rfl ?_
          | refine aw_ifT rfl (by assumption) ?_
          | refine aw_ifF rfl (by assumption) ?_
          | refine aw_ifT rfl (decide_eq_true (by assumption)) ?_
          | refine aw_ifF rfl (decide_eq_false (by assumption)) ?_
          | refine aw_seq ?_
          | refine aw_block ?_
          | refine aw_skip ?_
          | refine aw_region ?_
          | refine aw_region_draw mixed ?_
          | refine aw_exit ?_
          | refine rq_exit ?_
          | refine blockQ_hit ?_
          | refine blockQ_miss (by decide) ?_
          | (refine ar_guard rfl rfl rfl rfl (fun h => ?_) (fun h => ?_) <;> (fail_if_success (cases h; done)) <;> (try simp at h) <;> (try subst h))
          | (refine aw_both rfl (fun h => ?_) (fun h => ?_) <;> (fail_if_success (cases h; done)) <;> (try simp at h) <;> (try subst h)))
      · have hd3 : ¬(j : Int) < (L.length : Int) := by omega
        have hte : L.take j = L := List.take_of_length_le (by omega)
        rw [hte, ← hks]
        repeat' (first
          | refine ar_end rfl ?_
          | refine ar_endD rfl (by kernel_rfl) ?_
          | refine ar_fin rfl ?_
          | refine ar_finD rfl (by kernel_rfl) ?_
          | refine lq_exit ?_
          | refine bq_norm ?_
          | refine lq_normN [1, 3, 7, 8, 20, 21, 22, 36, 37, 38] [.loc 1, .loc 1000] (by simp; exact rfl) ⟨k + 1, by omega⟩ (by dsimp only; omega) (by simp [hd3])
          | refine ar_go3 _ rfl (by simp [ints_len, ints_getE, intsL_len, intsL_getE, rlsL_len, rlsL_getE, hd3, hw2]; exact ⟨rfl, rfl, rfl⟩) rfl ?_
          | refine aw_sregK 14 [1, 3, 7, 8, 10, 20, 21, 22, 36, 37, 38, 42, 43, 44] ?_
          | refine aw_regK 14 [1, 3, 7, 8, 10, 20, 21, 22, 36, 37, 38, 42, 43, 44] ?_
          | refine aw_sregK 18 [1, 3, 7, 8, 20, 21, 22, 36, 37, 38] ?_
          | refine aw_regK 18 [1, 3, 7, 8, 20, 21, 22, 36, 37, 38] ?_
          | refine aw_sreg ?_
          | refine aw_sregD mixed ?_
          | refine aw_ifT (b := true) rfl rfl ?_
          | refine aw_ifF (b := false) rfl rfl ?_
          | refine aw_ifT rfl (by assumption) ?_
          | refine aw_ifF rfl (by assumption) ?_
          | refine aw_ifT rfl (decide_eq_true (by assumption)) ?_
          | refine aw_ifF rfl (decide_eq_false (by assumption)) ?_
          | refine aw_seq ?_
          | refine aw_block ?_
          | refine aw_skip ?_
          | refine aw_region ?_
          | refine aw_region_draw mixed ?_
          | refine aw_exit ?_
          | refine rq_exit ?_
          | refine blockQ_hit ?_
          | refine blockQ_miss (by decide) ?_
          | (refine ar_guard rfl rfl rfl rfl (fun h => ?_) (fun h => ?_) <;> (fail_if_success (cases h; done)) <;> (try simp at h) <;> (try subst h))
          | (refine aw_both rfl (fun h => ?_) (fun h => ?_) <;> (fail_if_success (cases h; done)) <;> (try simp at h) <;> (try subst h)))
    · have hd2 : ¬(k : Int) < (A.length : Int) := by omega
      have hte : A.take k = A := List.take_of_length_le (by omega)
      rw [hte, ← hst]
      refine aw_frz (.loc 1000) (by simp; exact rfl) ?_
      repeat' (first
        | refine ar_end rfl ?_
        | refine ar_endD rfl (by kernel_rfl) ?_
        | refine ar_fin rfl ?_
        | refine ar_finD rfl (by kernel_rfl) ?_
        | refine lq_exit ?_
        | refine bq_norm ?_
        | refine lq_normN [1, 3, 4, 20, 21, 22] [.loc 1] (by simp; exact rfl) ⟨i + 1, by omega⟩ (by dsimp only; omega) (by simp [hd2])
        | refine ar_go3 _ rfl (by simp [ints_len, ints_getE, intsL_len, intsL_getE, rlsL_len, rlsL_getE, hd2, hw]; exact ⟨rfl, rfl, rfl⟩) rfl ?_
        | refine aw_sregK 11 [1, 3, 7, 8, 20, 21, 22, 36, 37, 38] ?_
        | refine aw_regK 11 [1, 3, 7, 8, 20, 21, 22, 36, 37, 38] ?_
        | refine aw_sregK 19 [1, 3, 8, 20, 21, 22] ?_
        | refine aw_regK 19 [1, 3, 8, 20, 21, 22] ?_
        | refine aw_sregK 20 [1, 3, 4, 20, 21, 22] ?_
        | refine aw_regK 20 [1, 3, 4, 20, 21, 22] ?_
        | refine aw_sreg ?_
        | refine aw_sregD mixed ?_
        | refine aw_ifT (b := true) rfl rfl ?_
        | refine aw_ifF (b := false) rfl rfl ?_
        | refine aw_ifT rfl (by assumption) ?_
        | refine aw_ifF rfl (by assumption) ?_
        | refine aw_ifT rfl (decide_eq_true (by assumption)) ?_
        | refine aw_ifF rfl (decide_eq_false (by assumption)) ?_
        | refine aw_seq ?_
        | refine aw_block ?_
        | refine aw_skip ?_
        | refine aw_region ?_
        | refine aw_region_draw mixed ?_
        | refine aw_exit ?_
        | refine rq_exit ?_
        | refine blockQ_hit ?_
        | refine blockQ_miss (by decide) ?_
        | (refine ar_guard rfl rfl rfl rfl (fun h => ?_) (fun h => ?_) <;> (fail_if_success (cases h; done)) <;> (try simp at h) <;> (try subst h))
        | (refine aw_both rfl (fun h => ?_) (fun h => ?_) <;> (fail_if_success (cases h; done)) <;> (try simp at h) <;> (try subst h)))
  · have hd : ¬(i : Int) < ((placesF es).length : Int) := by omega
    have hie : i = (placesF es).length := by omega
    subst hie
    repeat' (first
      | exact aw_ret (ret_vals (by simp; exact rfl) (by simp [*]; fail_if_success (show _)))
      | exact aw_ret (ret_vals (by simp; exact rfl) (by simp [*]; omega))
      | refine ar_end rfl ?_
      | refine ar_endD rfl (by kernel_rfl) ?_
      | refine ar_fin rfl ?_
      | refine ar_finD rfl (by kernel_rfl) ?_
      | refine lq_exit ?_
      | refine ar_go3 _ rfl (by simp [ints_len, ints_getE, intsL_len, intsL_getE, rlsL_len, rlsL_getE, hd]; exact ⟨rfl, rfl, rfl⟩) rfl ?_
      | refine aw_sregK 4 [1, 3, 4, 20, 21, 22] ?_
      | refine aw_regK 4 [1, 3, 4, 20, 21, 22] ?_
      | refine aw_sregK 21 [4] ?_
      | refine aw_regK 21 [4] ?_
      | refine aw_sreg ?_
      | refine aw_sregD mixed ?_
      | refine aw_ifT (b := true) rfl rfl ?_
      | refine aw_ifF (b := false) rfl rfl ?_
      | refine aw_ifT rfl (by assumption) ?_
      | refine aw_ifF rfl (by assumption) ?_
      | refine aw_ifT rfl (decide_eq_true (by assumption)) ?_
      | refine aw_ifF rfl (decide_eq_false (by assumption)) ?_
      | refine aw_seq ?_
      | refine aw_block ?_
      | refine aw_skip ?_
      | refine aw_region ?_
      | refine aw_region_draw mixed ?_
      | refine aw_exit ?_
      | refine rq_exit ?_
      | refine blockQ_hit ?_
      | refine blockQ_miss (by decide) ?_
      | (refine ar_guard rfl rfl rfl rfl (fun h => ?_) (fun h => ?_) <;> (fail_if_success (cases h; done)) <;> (try simp at h) <;> (try subst h))
      | (refine aw_both rfl (fun h => ?_) (fun h => ?_) <;> (fail_if_success (cases h; done)) <;> (try simp at h) <;> (try subst h)))
end Go.Eng
