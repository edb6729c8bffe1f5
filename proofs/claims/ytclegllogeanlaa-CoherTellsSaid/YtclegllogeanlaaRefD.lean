import Derived.Test.YtclegllogeanlaaRefC
set_option linter.unusedSimpArgs false
set_option linter.unusedVariables false
set_option linter.constructorNameAsVariable false
set_option autoImplicit false
namespace Go.Eng
open Go Go.RowKit Go.Proofs
set_option maxHeartbeats 16000000 in
theorem c_rmade0 {n : Nat} (h32 : n ≤ 32) : SC Try.prog 62 [I .i64 n, .pv (.v (.slice none 0 0))] (.pv (.sl 1 (rl (newR n)))) := by
  have h := c_rmadeV (n := n) (ps := []) h32 (by simp) (fun p hp => by cases hp)
  have e : foldR n [] = newR n := rfl
  rw [e] at h
  refine SCX.pre (args' := [I .i64 n, .pv (.sl 2 (prs []))]) ?_ rfl h
  refine (Sub.nilSl _ 1 2).trans (Sub.of ?_ (fun p hp => ?_) (fun p hp => ?_))
  · simp [AState.nilSl, isNilV]
  · simp [AState.nilSl, isNilV, prs] at hp ⊢
    rcases hp with rfl | rfl <;> simp
  · simp [AState.nilSl, isNilV] at hp
theorem ord_cast {es : List Ev} {loc : Int} {o : List Int} (h : o ∈ ordF (writesF es loc)) : ∃ q : List Nat, o = castL q ∧ q.length ≤ 6 ∧ ∀ a ∈ q, a < es.length := by
  have hp := ordF_perm h
  have hl := ordF_mem o h
  refine ⟨o.map Int.toNat, ?_, by simpa using hl, fun a ha => ?_⟩
  · unfold castL
    rw [List.map_map]
    symm
    refine (List.map_congr_left fun x hx => ?_).trans (List.map_id _)
    obtain ⟨b, hb, rfl, _⟩ := writes_mem.1 (hp.mem_iff.1 hx)
    simp
  · obtain ⟨x, hx, rfl⟩ := List.mem_map.1 ha
    obtain ⟨b, hb, rfl, _⟩ := writes_mem.1 (hp.mem_iff.1 hx)
    simpa using hb
set_option maxHeartbeats 16000000 in
theorem c_rall {es : List Ev} (h32 : es.length ≤ 32) (hA1 : ∀ i, i ≤ (placesF es).length → (allUp es i).length ≤ 1000000) (hB : ∀ i, (hi : i < (placesF es).length) → (allUp es i).length * (ordF (writesF es (placesF es)[i])).length ≤ 20000) : SC Try.prog 33 [.agg (exL es)] (.pv (.sl 1 (rlsL (allR es)))) := by
  have hN := c_rmade0 (n := es.length) h32
  have hP := c_rplaces h32
  have hpl : (placesF es).length ≤ 32 := by
    unfold placesF
    refine Nat.le_trans (compact_le _) ?_
    rw [sortI_len]
    exact Nat.le_trans (wlocs_len es) h32
  unfold allR
  refine scx_of Try.func33 rfl rfl rfl (Nat.le_of_ble_eq_true rfl) ?_
  repeat' (first
    | refine ar_end rfl ?_
    | refine ar_endD rfl (by kernel_rfl) ?_
    | refine ar_fin rfl ?_
    | refine ar_finD rfl (by kernel_rfl) ?_
    | refine ar_callV Try.call62 hN rfl rfl rfl rfl rfl (by simp; done) (by rfl) (by simp; done) ?_
    | refine ar_callV_if Try.call62 hN rfl rfl rfl rfl rfl rfl (by simp; done) rfl (by rfl) (by simp; done) ?_
    | refine ar_callV Try.call63 hP rfl rfl rfl rfl rfl (by simp; done) (by rfl) (by simp; done) ?_
    | refine ar_callV_if Try.call63 hP rfl rfl rfl rfl rfl rfl (by simp; done) rfl (by rfl) (by simp; done) ?_
    | refine ar_go3 _ rfl (by simp [evsL_len, evsL_getE, evL, prs_len, prs_getE, ints_len, ints_getE, intsL_len, intsL_getE]; exact ⟨rfl, rfl, rfl⟩) rfl ?_
    | refine aw_sregK 0 [0] ?_
    | refine aw_regK 0 [0] ?_
    | refine aw_sregK 1 [1] ?_
    | refine aw_regK 1 [1] ?_
    | refine aw_sregK 2 [1, 3] ?_
    | refine aw_regK 2 [1, 3] ?_
    | refine aw_sregK 3 [1, 3, 4] ?_
    | refine aw_regK 3 [1, 3, 4] ?_
    | refine aw_sregK 4 [1, 3, 4, 5] ?_
    | refine aw_regK 4 [1, 3, 4, 5] ?_
    | refine aw_sreg ?_
    | refine aw_sregD mixed ?_
    | refine aw_ifT (b := true) rfl rfl ?_
    | refine aw_ifF (b := false) rfl rfl ?_
    | refine aw_ifT rfl (by assumption) ?_
    | refine aw_ifF rfl (by assumption) ?_
    | refine aw_ifT rfl (decide_eq_true (by assumption)) ?_
    | refine aw_ifF rfl (decide_eq_false (by assumption)) ?_
    | refine aw_seq ?_
    | refine aw_block ?_
    | refine aw_skip ?_
    | refine aw_region ?_
    | refine aw_region_draw mixed ?_
    | refine aw_exit ?_
    | refine rq_exit ?_
    | refine blockQ_hit ?_
    | refine blockQ_miss (by decide) ?_
    | (refine ar_guard rfl rfl rfl rfl (fun h => ?_) (fun h => ?_) <;> (fail_if_success (cases h; done)) <;> (try simp at h) <;> (try subst h))
    | (refine aw_both rfl (fun h => ?_) (fun h => ?_) <;> (fail_if_success (cases h; done)) <;> (try simp at h) <;> (try subst h)))
  refine aw_frz (.loc 16) (by simp; exact rfl) ?_
  refine aw_loopN [1, 3, 4, 5, 6] [.loc 1] (by simp; exact rfl) (ι := {i : Nat // i ≤ (placesF es).length}) (fun i => ⟨66, [(1, .ptr (.loc 1) 0), (3, I .i64 es.length), (4, .pv (.sl 1 (rlsL (allUp es i.1)))), (5, .pv (.sl 1 (ints (placesF es)))), (6, I .i64 i.1)], [(.loc 1, some (.box 60 [.pv (.sl 7 (evsL es)), .pv (.v (.slice none 0 0)), .pv (.v (.slice none 0 0)), .pv (.v (.slice none 0 0)), .pv (.v (.slice none 0 0)), .pv (.v (.slice none 0 0)), .pv (.v (.slice none 0 0))]))]⟩) (fun i => (placesF es).length - i.1) ⟨0, by omega⟩ (by simp [allUp, rlsL]) ?_
  rintro ⟨i, hi⟩
  by_cases hlt : i < (placesF es).length
  · have hw : IntKind.wrap .i64 ((i : Int) + 1) = (i : Int) + 1 := wrap64s (by omega) (by omega)
    have hd : (i : Int) < ((placesF es).length : Int) := by omega
    have hb := hB i hlt
    have hst : allUp es (i + 1) = (allUp es i).flatMap fun co => (ordF (writesF es ((placesF es).getD i 0))).map fun one => bothR (· ||| ·) co (ofF es.length one) := rfl
    rw [getD_in _ _ hlt] at hst
    generalize hx : (placesF es)[i] = loc at *
    have hW := c_rwrites (loc := loc) h32
    have hO := c_rordAll (l := writesF es loc)
    have hom := fun o h => ord_cast (es := es) (loc := loc) (o := o) h
    generalize writesF es loc = W at *
    generalize ordF W = L at *
    have hA1m := hA1 i (by omega)
    clear hA1 hB
    generalize allUp es i = A at *
    have hg20 : ¬(20000 : Int) < (A.length : Int) * (L.length : Int) := by
      have : ((A.length * L.length : Nat) : Int) ≤ 20000 := by omega
      rw [Int.natCast_mul] at this; omega
    have hmw : IntKind.wrap .i64 ((A.length : Int) * (L.length : Int)) = (A.length : Int) * (L.length : Int) := wrap64s (by
      have : (0 : Int) ≤ (A.length : Int) * (L.length : Int) := Int.mul_nonneg (Int.natCast_nonneg _) (Int.natCast_nonneg _)
      omega) (by omega)
    repeat' (first
      | refine ar_end rfl ?_
      | refine ar_endD rfl (by kernel_rfl) ?_
      | refine ar_fin rfl ?_
      | refine ar_finD rfl (by kernel_rfl) ?_
      | refine ar_callV Try.call37 hW rfl rfl rfl rfl rfl (by simp; done) (by rfl) (by simp; done) ?_
      | refine ar_callV_if Try.call37 hW rfl rfl rfl rfl rfl rfl (by simp; done) rfl (by rfl) (by simp; done) ?_
      | refine ar_callV Try.call64 hO rfl rfl rfl rfl rfl (by simp; done) (by rfl) (by simp; done) ?_
      | refine ar_callV_if Try.call64 hO rfl rfl rfl rfl rfl rfl (by simp; done) rfl (by rfl) (by simp; done) ?_
      | refine ar_go3 _ rfl (by simp [evsL_len, evsL_getE, evL, prs_len, prs_getE, ints_len, ints_getE, intsL_len, intsL_getE, rlsL_len, rlsL_getE, exL, hlt, hd, hx, hw, hmw, hg20]; exact ⟨rfl, rfl, rfl⟩) rfl ?_
      | refine aw_sregK 5 [1, 3, 4, 5, 6] ?_
      | refine aw_regK 5 [1, 3, 4, 5, 6] ?_
      | refine aw_sregKD mixed 7 [1, 3, 4, 5, 6] (by simp; exact rfl) ?_
      | refine aw_regKD mixed 7 [1, 3, 4, 5, 6] (by simp; exact rfl) ?_
      | refine aw_sregK 8 [1, 3, 4, 5, 6, 7] ?_
      | refine aw_regK 8 [1, 3, 4, 5, 6, 7] ?_
      | refine aw_sregK 10 [1, 3, 4, 5, 6, 7] ?_
      | refine aw_regK 10 [1, 3, 4, 5, 6, 7] ?_
      | refine aw_sregK 11 [1, 3, 4, 5, 6, 7, 8] ?_
      | refine aw_regK 11 [1, 3, 4, 5, 6, 7, 8] ?_
      | refine aw_sreg ?_
      | refine aw_sregD mixed ?_
      | refine aw_ifT (b := true) rfl rfl ?_
      | refine aw_ifF (b := false) rfl rfl ?_
      | refine aw_ifT rfl (by assumption) ?_
      | refine aw_ifF rfl (by assumption) ?_
      | refine aw_ifT rfl (decide_eq_true (by assumption)) ?_
      | refine aw_ifF rfl (decide_eq_false (by assumption)) ?_
      | refine aw_seq ?_
      | refine aw_block ?_
      | refine aw_skip ?_
      | refine aw_region ?_
      | refine aw_region_draw mixed ?_
      | refine aw_exit ?_
      | refine rq_exit ?_
      | refine blockQ_hit ?_
      | refine blockQ_miss (by decide) ?_
      | (refine ar_guard rfl rfl rfl rfl (fun h => ?_) (fun h => ?_) <;> (fail_if_success (cases h; done)) <;> (try simp at h) <;> (try subst h))
      | (refine aw_both rfl (fun h => ?_) (fun h => ?_) <;> (fail_if_success (cases h; done)) <;> (try simp at h) <;> (try subst h)))
    refine aw_nil 8 (.loc 1000) 23 1 (by simp; exact rfl) ?_
    refine aw_loopN [1, 3, 4, 5, 6, 7, 8, 9] [.loc 1, .loc 1000] (by simp; exact rfl) (ι := {k : Nat // k ≤ A.length}) (fun k => ⟨66, [(1, .ptr (.loc 1) 0), (3, I .i64 es.length), (4, .pv (.sl 1 (rlsL A))), (5, .pv (.sl 1 (ints (placesF es)))), (6, I .i64 i), (7, .pv (.sl 1 (intsL L))), (8, .own (.loc 1000)), (9, I .i64 k.1)], [(.loc 1, some (.box 60 [.pv (.sl 7 (evsL es)), .pv (.v (.slice none 0 0)), .pv (.v (.slice none 0 0)), .pv (.v (.slice none 0 0)), .pv (.v (.slice none 0 0)), .pv (.v (.slice none 0 0)), .pv (.v (.slice none 0 0))])), (.loc 1000, some (.own 23 1 (rlsL ((A.take k.1).flatMap fun co => L.map fun one => bothR (· ||| ·) co (ofF es.length one)))))]⟩) (fun k => A.length - k.1) ⟨0, by omega⟩ (by simp [rlsL]) ?_
    rintro ⟨k, hk⟩
    by_cases hkl : k < A.length
    · have hw2 : IntKind.wrap .i64 ((k : Int) + 1) = (k : Int) + 1 := wrap64s (by omega) (by
        have hA20 : A.length ≤ 1000000 := hA1m
        omega)
      have hd2 : (k : Int) < (A.length : Int) := by omega
      have hks : ((A.take (k + 1)).flatMap fun co => L.map fun one => bothR (· ||| ·) co (ofF es.length one)) = ((A.take k).flatMap fun co => L.map fun one => bothR (· ||| ·) co (ofF es.length one)) ++ (L.map fun one => bothR (· ||| ·) A[k] (ofF es.length one)) := by
        rw [List.take_add_one, List.getElem?_eq_getElem hkl, List.flatMap_append]; simp
      have hfl : ((A.take k).flatMap fun co => L.map fun one => bothR (· ||| ·) co (ofF es.length one)).length + L.length ≤ 20000 := by
        refine Nat.le_trans ?_ hb
        rw [List.length_flatMap]
        simp only [List.length_map, List.map_const', List.sum_replicate_nat, List.length_take]
        rw [Nat.min_eq_left (by omega), ← Nat.succ_mul]
        exact Nat.mul_le_mul_right _ hkl
      generalize hco : A[k] = co at *
      generalize ((A.take k).flatMap fun co => L.map fun one => bothR (· ||| ·) co (ofF es.length one)) = U at *
      repeat' (first
        | refine ar_end rfl ?_
        | refine ar_endD rfl (by kernel_rfl) ?_
        | refine ar_fin rfl ?_
        | refine ar_finD rfl (by kernel_rfl) ?_
        | refine ar_go3 _ rfl (by simp [evsL_len, evsL_getE, evL, prs_len, prs_getE, ints_len, ints_getE, intsL_len, intsL_getE, rlsL_len, rlsL_getE, hkl, hd2, hco, hw2]; exact ⟨rfl, rfl, rfl⟩) rfl ?_
        | refine aw_sregK 12 [1, 3, 4, 5, 6, 7, 8, 9] ?_
        | refine aw_regK 12 [1, 3, 4, 5, 6, 7, 8, 9] ?_
        | refine aw_sregK 14 [1, 3, 4, 5, 6, 7, 8, 9] ?_
        | refine aw_regK 14 [1, 3, 4, 5, 6, 7, 8, 9] ?_
        | refine aw_sreg ?_
        | refine aw_sregD mixed ?_
        | refine aw_ifT (b := true) rfl rfl ?_
        | refine aw_ifF (b := false) rfl rfl ?_
        | refine aw_ifT rfl (by assumption) ?_
        | refine aw_ifF rfl (by assumption) ?_
        | refine aw_ifT rfl (decide_eq_true (by assumption)) ?_
        | refine aw_ifF rfl (decide_eq_false (by assumption)) ?_
        | refine aw_seq ?_
        | refine aw_block ?_
        | refine aw_skip ?_
        | refine aw_region ?_
        | refine aw_region_draw mixed ?_
        | refine aw_exit ?_
        | refine rq_exit ?_
        | refine blockQ_hit ?_
        | refine blockQ_miss (by decide) ?_
        | (refine ar_guard rfl rfl rfl rfl (fun h => ?_) (fun h => ?_) <;> (fail_if_success (cases h; done)) <;> (try simp at h) <;> (try subst h))
        | (refine aw_both rfl (fun h => ?_) (fun h => ?_) <;> (fail_if_success (cases h; done)) <;> (try simp at h) <;> (try subst h)))
      refine aw_loopN [1, 3, 4, 5, 6, 7, 8, 9, 10] [.loc 1, .loc 1000] (by simp; exact rfl) (ι := {j : Nat // j ≤ L.length}) (fun j => ⟨66, [(1, .ptr (.loc 1) 0), (3, I .i64 es.length), (4, .pv (.sl 1 (rlsL A))), (5, .pv (.sl 1 (ints (placesF es)))), (6, I .i64 i), (7, .pv (.sl 1 (intsL L))), (8, .own (.loc 1000)), (9, I .i64 k), (10, I .i64 j.1)], [(.loc 1, some (.box 60 [.pv (.sl 7 (evsL es)), .pv (.v (.slice none 0 0)), .pv (.v (.slice none 0 0)), .pv (.v (.slice none 0 0)), .pv (.v (.slice none 0 0)), .pv (.v (.slice none 0 0)), .pv (.v (.slice none 0 0))])), (.loc 1000, some (.own 23 1 (rlsL (U ++ (L.take j.1).map fun one => bothR (· ||| ·) co (ofF es.length one)))))]⟩) (fun j => L.length - j.1) ⟨0, by omega⟩ (by simp) ?_
      rintro ⟨j, hj⟩
      by_cases hjl : j < L.length
      · have hw3 : IntKind.wrap .i64 ((j : Int) + 1) = (j : Int) + 1 := wrap64s (by omega) (by omega)
        have hd3 : (j : Int) < (L.length : Int) := by omega
        have hts : ((L.take (j + 1)).map fun one => bothR (· ||| ·) co (ofF es.length one)) = ((L.take j).map fun one => bothR (· ||| ·) co (ofF es.length one)) ++ [bothR (· ||| ·) co (ofF es.length L[j])] := by rw [List.take_add_one, List.getElem?_eq_getElem hjl, List.map_append]; rfl
        have htl : ((L.take j).map fun one => bothR (· ||| ·) co (ofF es.length one)).length ≤ L.length := by simp; omega
        obtain ⟨q, hq1, hq2, hq3⟩ := hom L[j] (List.getElem_mem hjl)
        have hOf := c_rof (n := es.length) (q := q) h32 (by omega) hq3
        rw [← hq1] at hOf
        clear hq1 hq2 hq3
        generalize hone : L[j] = one at *
        generalize ofF es.length one = Z at *
        have hOr := c_ror (a := co) (b := Z)
        generalize (L.take j).map (fun one => bothR (· ||| ·) co (ofF es.length one)) = V at *
        generalize bothR (· ||| ·) co Z = Y at *
        repeat' (first
          | refine ar_end rfl ?_
          | refine ar_endD rfl (by kernel_rfl) ?_
          | refine ar_fin rfl ?_
          | refine ar_finD rfl (by kernel_rfl) ?_
          | refine ar_callV Try.call66 hOf rfl rfl rfl rfl rfl (by simp; done) (by rfl) (by simp; done) ?_
          | refine ar_callV_if Try.call66 hOf rfl rfl rfl rfl rfl rfl (by simp; done) rfl (by rfl) (by simp; done) ?_
          | refine ar_callV Try.call65 hOr rfl rfl rfl rfl rfl (by simp; done) (by rfl) (by simp; done) ?_
          | refine ar_callV_if Try.call65 hOr rfl rfl rfl rfl rfl rfl (by simp; done) rfl (by rfl) (by simp; done) ?_
          | refine ar_appO rfl rfl rfl rfl rfl (by simp; exact rfl) rfl (by simp; exact rfl) (by simp; exact rfl) (by simp; exact ⟨rfl, rfl⟩) rfl (by simp; exact rfl) (by simp; done) (by decide) (by simp [rlsL_len, maxLen]; try omega) ?_
          | refine bq_norm ?_
          | refine lq_normR (.loc 63) (.loc 1000) [1, 3, 4, 5, 6, 7, 8, 9, 10] [.loc 1, .loc 1000] (by simp; exact rfl) ⟨j + 1, by omega⟩ (by dsimp only; omega) (by rw [hts, ← List.append_assoc, rlsL_app]; simp [rlsL])
          | refine ar_go3 _ rfl (by simp [evsL_len, evsL_getE, evL, prs_len, prs_getE, ints_len, ints_getE, intsL_len, intsL_getE, rlsL_len, rlsL_getE, hkl, hco, hjl, hd3, hone, hw3]; exact ⟨rfl, rfl, rfl⟩) rfl ?_
          | refine aw_sregK 15 [1, 3, 4, 5, 6, 7, 8, 9, 10] ?_
          | refine aw_regK 15 [1, 3, 4, 5, 6, 7, 8, 9, 10] ?_
          | refine aw_sregK 16 [1, 3, 4, 5, 6, 7, 8, 9, 10] ?_
          | refine aw_regK 16 [1, 3, 4, 5, 6, 7, 8, 9, 10] ?_
          | refine aw_sregKD mixed 17 [1, 3, 4, 5, 6, 7, 8, 9, 10] (by simp; exact rfl) ?_
          | refine aw_regKD mixed 17 [1, 3, 4, 5, 6, 7, 8, 9, 10] (by simp; exact rfl) ?_
          | refine aw_sreg ?_
          | refine aw_sregD mixed ?_
          | refine aw_ifT (b := true) rfl rfl ?_
          | refine aw_ifF (b := false) rfl rfl ?_
          | refine aw_ifT rfl (by assumption) ?_
          | refine aw_ifF rfl (by assumption) ?_
          | refine aw_ifT rfl (decide_eq_true (by assumption)) ?_
          | refine aw_ifF rfl (decide_eq_false (by assumption)) ?_
          | refine aw_seq ?_
          | refine aw_block ?_
          | refine aw_skip ?_
          | refine aw_region ?_
          | refine aw_region_draw mixed ?_
          | refine aw_exit ?_
          | refine rq_exit ?_
          | refine blockQ_hit ?_
          | refine blockQ_miss (by decide) ?_
          | (refine ar_guard rfl rfl rfl rfl (fun h => ?_) (fun h => ?_) <;> (fail_if_success (cases h; done)) <;> (try simp at h) <;> (try subst h))
          | (refine aw_both rfl (fun h => ?_) (fun h => ?_) <;> (fail_if_success (cases h; done)) <;> (try simp at h) <;> (try subst h)))
      · have hd3 : ¬(j : Int) < (L.length : Int) := by omega
        have hte : L.take j = L := List.take_of_length_le (by omega)
        rw [hte, ← hks]
        repeat' (first
          | refine ar_end rfl ?_
          | refine ar_endD rfl (by kernel_rfl) ?_
          | refine ar_fin rfl ?_
          | refine ar_finD rfl (by kernel_rfl) ?_
          | refine lq_exit ?_
          | refine bq_norm ?_
          | refine lq_normN [1, 3, 4, 5, 6, 7, 8, 9] [.loc 1, .loc 1000] (by simp; exact rfl) ⟨k + 1, by omega⟩ (by dsimp only; omega) (by simp [hd3])
          | refine ar_go3 _ rfl (by simp [ints_len, ints_getE, intsL_len, intsL_getE, rlsL_len, rlsL_getE, hd3, hw2]; exact ⟨rfl, rfl, rfl⟩) rfl ?_
          | refine aw_sregK 13 [1, 3, 4, 5, 6, 7, 8, 9] ?_
          | refine aw_regK 13 [1, 3, 4, 5, 6, 7, 8, 9] ?_
          | refine aw_sregK 15 [1, 3, 4, 5, 6, 7, 8, 9, 10] ?_
          | refine aw_regK 15 [1, 3, 4, 5, 6, 7, 8, 9, 10] ?_
          | refine aw_sreg ?_
          | refine aw_sregD mixed ?_
          | refine aw_ifT (b := true) rfl rfl ?_
          | refine aw_ifF (b := false) rfl rfl ?_
          | refine aw_ifT rfl (by assumption) ?_
          | refine aw_ifF rfl (by assumption) ?_
          | refine aw_ifT rfl (decide_eq_true (by assumption)) ?_
          | refine aw_ifF rfl (decide_eq_false (by assumption)) ?_
          | refine aw_seq ?_
          | refine aw_block ?_
          | refine aw_skip ?_
          | refine aw_region ?_
          | refine aw_region_draw mixed ?_
          | refine aw_exit ?_
          | refine rq_exit ?_
          | refine blockQ_hit ?_
          | refine blockQ_miss (by decide) ?_
          | (refine ar_guard rfl rfl rfl rfl (fun h => ?_) (fun h => ?_) <;> (fail_if_success (cases h; done)) <;> (try simp at h) <;> (try subst h))
          | (refine aw_both rfl (fun h => ?_) (fun h => ?_) <;> (fail_if_success (cases h; done)) <;> (try simp at h) <;> (try subst h)))
    · have hd2 : ¬(k : Int) < (A.length : Int) := by omega
      have hte : A.take k = A := List.take_of_length_le (by omega)
      rw [hte, ← hst]
      refine aw_frz (.loc 1000) (by simp; exact rfl) ?_
      repeat' (first
        | refine ar_end rfl ?_
        | refine ar_endD rfl (by kernel_rfl) ?_
        | refine ar_fin rfl ?_
        | refine ar_finD rfl (by kernel_rfl) ?_
        | refine lq_exit ?_
        | refine bq_norm ?_
        | refine lq_normN [1, 3, 4, 5, 6] [.loc 1] (by simp; exact rfl) ⟨i + 1, by omega⟩ (by dsimp only; omega) (by simp [hd2])
        | refine ar_go3 _ rfl (by simp [ints_len, ints_getE, intsL_len, intsL_getE, rlsL_len, rlsL_getE, hd2, hw]; exact ⟨rfl, rfl, rfl⟩) rfl ?_
        | refine aw_sregK 6 [1, 3, 4, 5, 6] ?_
        | refine aw_regK 6 [1, 3, 4, 5, 6] ?_
        | refine aw_sregK 12 [1, 3, 4, 5, 6, 7, 8, 9] ?_
        | refine aw_regK 12 [1, 3, 4, 5, 6, 7, 8, 9] ?_
        | refine aw_sregK 18 [1, 3, 5, 6, 8] ?_
        | refine aw_regK 18 [1, 3, 5, 6, 8] ?_
        | refine aw_sreg ?_
        | refine aw_sregD mixed ?_
        | refine aw_ifT (b := true) rfl rfl ?_
        | refine aw_ifF (b := false) rfl rfl ?_
        | refine aw_ifT rfl (by assumption) ?_
        | refine aw_ifF rfl (by assumption) ?_
        | refine aw_ifT rfl (decide_eq_true (by assumption)) ?_
        | refine aw_ifF rfl (decide_eq_false (by assumption)) ?_
        | refine aw_seq ?_
        | refine aw_block ?_
        | refine aw_skip ?_
        | refine aw_region ?_
        | refine aw_region_draw mixed ?_
        | refine aw_exit ?_
        | refine rq_exit ?_
        | refine blockQ_hit ?_
        | refine blockQ_miss (by decide) ?_
        | (refine ar_guard rfl rfl rfl rfl (fun h => ?_) (fun h => ?_) <;> (fail_if_success (cases h; done)) <;> (try simp at h) <;> (try subst h))
        | (refine aw_both rfl (fun h => ?_) (fun h => ?_) <;> (fail_if_success (cases h; done)) <;> (try simp at h) <;> (try subst h)))
  · have hd : ¬(i : Int) < ((placesF es).length : Int) := by omega
    have hie : i = (placesF es).length := by omega
    subst hie
    repeat' (first
      | exact aw_ret (ret_vals (by simp; exact rfl) (by simp [*]; fail_if_success (show _)))
      | exact aw_ret (ret_vals (by simp; exact rfl) (by simp [*]; omega))
      | refine ar_end rfl ?_
      | refine ar_endD rfl (by kernel_rfl) ?_
      | refine ar_fin rfl ?_
      | refine ar_finD rfl (by kernel_rfl) ?_
      | refine lq_exit ?_
      | refine ar_go3 _ rfl (by simp [ints_len, ints_getE, intsL_len, intsL_getE, rlsL_len, rlsL_getE, hd]; exact ⟨rfl, rfl, rfl⟩) rfl ?_
      | refine aw_sregK 5 [1, 3, 4, 5, 6] ?_
      | refine aw_regK 5 [1, 3, 4, 5, 6] ?_
      | refine aw_sregK 19 [4] ?_
      | refine aw_regK 19 [4] ?_
      | refine aw_sreg ?_
      | refine aw_sregD mixed ?_
      | refine aw_ifT (b := true) rfl rfl ?_
      | refine aw_ifF (b := false) rfl rfl ?_
      | refine aw_ifT rfl (by assumption) ?_
      | refine aw_ifF rfl (by assumption) ?_
      | refine aw_ifT rfl (decide_eq_true (by assumption)) ?_
      | refine aw_ifF rfl (decide_eq_false (by assumption)) ?_
      | refine aw_seq ?_
      | refine aw_block ?_
      | refine aw_skip ?_
      | refine aw_region ?_
      | refine aw_region_draw mixed ?_
      | refine aw_exit ?_
      | refine rq_exit ?_
      | refine blockQ_hit ?_
      | refine blockQ_miss (by decide) ?_
      | (refine ar_guard rfl rfl rfl rfl (fun h => ?_) (fun h => ?_) <;> (fail_if_success (cases h; done)) <;> (try simp at h) <;> (try subst h))
      | (refine aw_both rfl (fun h => ?_) (fun h => ?_) <;> (fail_if_success (cases h; done)) <;> (try simp at h) <;> (try subst h)))
end Go.Eng
