import Derived.Test.YtclegllogeanlaaRefA
import Derived.Test.YtclegllogeanlaaCohH
import Derived.Test.YtclegllogeanlaaEngG
set_option linter.unusedSimpArgs false
set_option linter.unusedVariables false
set_option linter.constructorNameAsVariable false
set_option autoImplicit false
namespace Go.Eng
open Go Go.RowKit Go.Proofs
/-! ## The document's writes, last writes, memory -/
set_option maxHeartbeats 16000000 in
theorem c_want12 {es : List Ev} : SC Try.prog 34 [.pv (.sl 7 (evsL es))] (.agg (exL es)) := by
  refine scx_of Try.func34 rfl rfl rfl (Nat.le_of_ble_eq_true rfl) ?_
  repeat' (first
    | exact aw_ret (ret_vals (by simp; exact rfl) (by simp [*]; fail_if_success (show _)))
    | exact aw_ret (ret_vals (by simp; exact rfl) (by simp [*]; omega))
    | refine ar_end rfl ?_
    | refine ar_endD rfl (by kernel_rfl) ?_
    | refine ar_fin rfl ?_
    | refine ar_finD rfl (by kernel_rfl) ?_
    | refine ar_go3 _ rfl (by simp [*]; exact ⟨rfl, rfl, rfl⟩) rfl ?_
    | refine aw_sregK 0 [0] ?_
    | refine aw_regK 0 [0] ?_
    | refine aw_sregK 1 [0, 2] ?_
    | refine aw_regK 1 [0, 2] ?_
    | refine aw_sreg ?_
    | refine aw_sregD mixed ?_
    | refine aw_ifT (b := true) rfl rfl ?_
    | refine aw_ifF (b := false) rfl rfl ?_
    | refine aw_ifT rfl (by assumption) ?_
    | refine aw_ifF rfl (by assumption) ?_
    | refine aw_ifT rfl (decide_eq_true (by assumption)) ?_
    | refine aw_ifF rfl (decide_eq_false (by assumption)) ?_
    | refine aw_seq ?_
    | refine aw_block ?_
    | refine aw_skip ?_
    | refine aw_region ?_
    | refine aw_region_draw mixed ?_
    | refine aw_exit ?_
    | refine rq_exit ?_
    | refine blockQ_hit ?_
    | refine blockQ_miss (by decide) ?_
    | (refine ar_guard rfl rfl rfl rfl (fun h => ?_) (fun h => ?_) <;> (fail_if_success (cases h; done)) <;> (try simp at h) <;> (try subst h))
    | (refine aw_both rfl (fun h => ?_) (fun h => ?_) <;> (fail_if_success (cases h; done)) <;> (try simp at h) <;> (try subst h)))
set_option maxHeartbeats 16000000 in
theorem c_rwrites {es : List Ev} {loc : Int} (h32 : es.length ≤ 32) : SC Try.prog 37 [.agg (exL es), I .i64 loc] (.pv (.sl 1 (ints (writesF es loc)))) := by
  unfold writesF
  have hqs : ∀ i, (hi : i < es.length) → someE (wrQ loc) es i = wrQ loc es[i] := fun i hi => by unfold someE; rw [List.getElem?_eq_getElem hi]
  generalize someE (wrQ loc) es = qs at *
  refine scx_of Try.func37 rfl rfl rfl (Nat.le_of_ble_eq_true rfl) ?_
  repeat' (first
    | refine ar_end rfl ?_
    | refine ar_endD rfl (by kernel_rfl) ?_
    | refine ar_fin rfl ?_
    | refine ar_finD rfl (by kernel_rfl) ?_
    | refine ar_go3 _ rfl (by simp [evsL_len, evsL_getE, evL, prs_len, prs_getE]; exact ⟨rfl, rfl, rfl⟩) rfl ?_
    | refine aw_sregK 0 [0, 1] ?_
    | refine aw_regK 0 [0, 1] ?_
    | refine aw_sregK 1 [1, 2] ?_
    | refine aw_regK 1 [1, 2] ?_
    | refine aw_sregK 2 [1, 2, 5] ?_
    | refine aw_regK 2 [1, 2, 5] ?_
    | refine aw_sreg ?_
    | refine aw_sregD mixed ?_
    | refine aw_ifT (b := true) rfl rfl ?_
    | refine aw_ifF (b := false) rfl rfl ?_
    | refine aw_ifT rfl (by assumption) ?_
    | refine aw_ifF rfl (by assumption) ?_
    | refine aw_ifT rfl (decide_eq_true (by assumption)) ?_
    | refine aw_ifF rfl (decide_eq_false (by assumption)) ?_
    | refine aw_seq ?_
    | refine aw_block ?_
    | refine aw_skip ?_
    | refine aw_region ?_
    | refine aw_region_draw mixed ?_
    | refine aw_exit ?_
    | refine rq_exit ?_
    | refine blockQ_hit ?_
    | refine blockQ_miss (by decide) ?_
    | (refine ar_guard rfl rfl rfl rfl (fun h => ?_) (fun h => ?_) <;> (fail_if_success (cases h; done)) <;> (try simp at h) <;> (try subst h))
    | (refine aw_both rfl (fun h => ?_) (fun h => ?_) <;> (fail_if_success (cases h; done)) <;> (try simp at h) <;> (try subst h)))
  refine aw_nil 5 (.loc 1000) 3 1 (by simp; exact rfl) ?_
  refine aw_loopN [1, 2, 5, 6] [.loc 2, .loc 1000] (by simp; exact rfl) (ι := {i : Nat // i ≤ es.length}) (fun i => ⟨36, [(1, I .i64 loc), (2, .ptr (.loc 2) 0), (5, .own (.loc 1000)), (6, I .i64 i.1)], [(.loc 2, some (.box 60 [.pv (.sl 7 (evsL es)), .pv (.v (.slice none 0 0)), .pv (.v (.slice none 0 0)), .pv (.v (.slice none 0 0)), .pv (.v (.slice none 0 0)), .pv (.v (.slice none 0 0)), .pv (.v (.slice none 0 0))])), (.loc 1000, some (.own 3 1 (ints (((List.range i.1).filter qs).map fun (k : Nat) => (k : Int)))))]⟩) (fun i => es.length - i.1) ⟨0, by omega⟩ (by simp [ints, evsL_len]) ?_
  rintro ⟨i, hi⟩
  by_cases hlt : i < es.length
  · have hw : IntKind.wrap .i64 ((i : Int) + 1) = (i : Int) + 1 := wrap64s (by omega) (by omega)
    have hd : (i : Int) < (es.length : Int) := by omega
    have hfs := congrArg (List.map fun (k : Nat) => (k : Int)) (filter_range_succ qs i)
    have hqi := hqs i hlt
    rw [List.map_append] at hfs
    have hfl : (((List.range i).filter qs).map fun (k : Nat) => (k : Int)).length ≤ i := by simp; exact Nat.le_trans (List.length_filter_le _ _) (by simp)
    generalize hx : es[i] = x at hqi
    unfold wrQ at hqi
    rw [hqi] at hfs
    generalize ((List.range i).filter qs).map (fun (k : Nat) => (k : Int)) = F at *
    by_cases hk : x.k = 2
    · by_cases hl : x.l = loc
      · simp only [hk, hl, decide_true, Bool.true_and, if_true, List.map_cons, List.map_nil] at hfs
        repeat' (first
          | refine ar_end rfl ?_
          | refine ar_endD rfl (by kernel_rfl) ?_
          | refine ar_fin rfl ?_
          | refine ar_finD rfl (by kernel_rfl) ?_
          | refine ar_appO rfl rfl rfl rfl rfl (by simp; exact rfl) rfl (by simp; exact rfl) (by simp; exact rfl) (by simp; exact ⟨rfl, rfl⟩) rfl (by simp; exact rfl) (by simp; done) (by decide) (by simp [ints_len, maxLen]; try omega) ?_
          | refine bq_norm ?_
          | refine lq_normR (.loc 34) (.loc 1000) [1, 2, 5, 6] [.loc 2, .loc 1000] (by simp; exact rfl) ⟨i + 1, by omega⟩ (by dsimp only; omega) (by rw [hfs, ints_app]; simp [ints])
          | refine ar_go3 _ rfl (by simp [evsL_len, evsL_getE, evL, prs_len, prs_getE, hlt, hd, hx, hk, hl, hw]; exact ⟨rfl, rfl, rfl⟩) rfl ?_
          | refine aw_sregK 3 [1, 2, 5, 6] ?_
          | refine aw_regK 3 [1, 2, 5, 6] ?_
          | refine aw_sregK 4 [1, 2, 5, 6] ?_
          | refine aw_regK 4 [1, 2, 5, 6] ?_
          | refine aw_sregK 5 [1, 2, 5, 6] ?_
          | refine aw_regK 5 [1, 2, 5, 6] ?_
          | refine aw_sregK 6 [1, 2, 5, 6] ?_
          | refine aw_regK 6 [1, 2, 5, 6] ?_
          | refine aw_sreg ?_
          | refine aw_sregD mixed ?_
          | refine aw_ifT (b := true) rfl rfl ?_
          | refine aw_ifF (b := false) rfl rfl ?_
          | refine aw_ifT rfl (by assumption) ?_
          | refine aw_ifF rfl (by assumption) ?_
          | refine aw_ifT rfl (decide_eq_true (by assumption)) ?_
          | refine aw_ifF rfl (decide_eq_false (by assumption)) ?_
          | refine aw_seq ?_
          | refine aw_block ?_
          | refine aw_skip ?_
          | refine aw_region ?_
          | refine aw_region_draw mixed ?_
          | refine aw_exit ?_
          | refine rq_exit ?_
          | refine blockQ_hit ?_
          | refine blockQ_miss (by decide) ?_
          | (refine ar_guard rfl rfl rfl rfl (fun h => ?_) (fun h => ?_) <;> (fail_if_success (cases h; done)) <;> (try simp at h) <;> (try subst h))
          | (refine aw_both rfl (fun h => ?_) (fun h => ?_) <;> (fail_if_success (cases h; done)) <;> (try simp at h) <;> (try subst h)))
      · simp only [hk, hl, decide_true, decide_false, Bool.true_and, Bool.false_eq_true, if_false, List.map_nil, List.append_nil] at hfs
        repeat' (first
          | refine ar_end rfl ?_
          | refine ar_endD rfl (by kernel_rfl) ?_
          | refine ar_fin rfl ?_
          | refine ar_finD rfl (by kernel_rfl) ?_
          | refine bq_norm ?_
          | refine lq_normN [1, 2, 5, 6] [.loc 2, .loc 1000] (by simp; exact rfl) ⟨i + 1, by omega⟩ (by dsimp only; omega) (by simp [hfs])
          | refine ar_go3 _ rfl (by simp [evsL_len, evsL_getE, evL, prs_len, prs_getE, hlt, hd, hx, hk, hl, hw]; exact ⟨rfl, rfl, rfl⟩) rfl ?_
          | refine aw_sregK 3 [1, 2, 5, 6] ?_
          | refine aw_regK 3 [1, 2, 5, 6] ?_
          | refine aw_sregK 4 [1, 2, 5, 6] ?_
          | refine aw_regK 4 [1, 2, 5, 6] ?_
          | refine aw_sregK 5 [1, 2, 5, 6] ?_
          | refine aw_regK 5 [1, 2, 5, 6] ?_
          | refine aw_sregK 6 [1, 2, 5, 6] ?_
          | refine aw_regK 6 [1, 2, 5, 6] ?_
          | refine aw_sreg ?_
          | refine aw_sregD mixed ?_
          | refine aw_ifT (b := true) rfl rfl ?_
          | refine aw_ifF (b := false) rfl rfl ?_
          | refine aw_ifT rfl (by assumption) ?_
          | refine aw_ifF rfl (by assumption) ?_
          | refine aw_ifT rfl (decide_eq_true (by assumption)) ?_
          | refine aw_ifF rfl (decide_eq_false (by assumption)) ?_
          | refine aw_seq ?_
          | refine aw_block ?_
          | refine aw_skip ?_
          | refine aw_region ?_
          | refine aw_region_draw mixed ?_
          | refine aw_exit ?_
          | refine rq_exit ?_
          | refine blockQ_hit ?_
          | refine blockQ_miss (by decide) ?_
          | (refine ar_guard rfl rfl rfl rfl (fun h => ?_) (fun h => ?_) <;> (fail_if_success (cases h; done)) <;> (try simp at h) <;> (try subst h))
          | (refine aw_both rfl (fun h => ?_) (fun h => ?_) <;> (fail_if_success (cases h; done)) <;> (try simp at h) <;> (try subst h)))
    · simp only [hk, decide_false, Bool.false_and, Bool.false_eq_true, if_false, List.map_nil, List.append_nil] at hfs
      repeat' (first
        | refine ar_end rfl ?_
        | refine ar_endD rfl (by kernel_rfl) ?_
        | refine ar_fin rfl ?_
        | refine ar_finD rfl (by kernel_rfl) ?_
        | refine bq_norm ?_
        | refine lq_normN [1, 2, 5, 6] [.loc 2, .loc 1000] (by simp; exact rfl) ⟨i + 1, by omega⟩ (by dsimp only; omega) (by simp [hfs])
        | refine ar_go3 _ rfl (by simp [evsL_len, evsL_getE, evL, prs_len, prs_getE, hlt, hd, hx, hk, hw]; exact ⟨rfl, rfl, rfl⟩) rfl ?_
        | refine aw_sregK 3 [1, 2, 5, 6] ?_
        | refine aw_regK 3 [1, 2, 5, 6] ?_
        | refine aw_sregK 4 [1, 2, 5, 6] ?_
        | refine aw_regK 4 [1, 2, 5, 6] ?_
        | refine aw_sregK 5 [1, 2, 5, 6] ?_
        | refine aw_regK 5 [1, 2, 5, 6] ?_
        | refine aw_sregK 6 [1, 2, 5, 6] ?_
        | refine aw_regK 6 [1, 2, 5, 6] ?_
        | refine aw_sreg ?_
        | refine aw_sregD mixed ?_
        | refine aw_ifT (b := true) rfl rfl ?_
        | refine aw_ifF (b := false) rfl rfl ?_
        | refine aw_ifT rfl (by assumption) ?_
        | refine aw_ifF rfl (by assumption) ?_
        | refine aw_ifT rfl (decide_eq_true (by assumption)) ?_
        | refine aw_ifF rfl (decide_eq_false (by assumption)) ?_
        | refine aw_seq ?_
        | refine aw_block ?_
        | refine aw_skip ?_
        | refine aw_region ?_
        | refine aw_region_draw mixed ?_
        | refine aw_exit ?_
        | refine rq_exit ?_
        | refine blockQ_hit ?_
        | refine blockQ_miss (by decide) ?_
        | (refine ar_guard rfl rfl rfl rfl (fun h => ?_) (fun h => ?_) <;> (fail_if_success (cases h; done)) <;> (try simp at h) <;> (try subst h))
        | (refine aw_both rfl (fun h => ?_) (fun h => ?_) <;> (fail_if_success (cases h; done)) <;> (try simp at h) <;> (try subst h)))
  · have hd : ¬(i : Int) < (es.length : Int) := by omega
    have hie : i = es.length := by omega
    subst hie
    refine aw_frz (.loc 1000) (by simp; exact rfl) ?_
    repeat' (first
      | exact aw_ret (ret_vals (by simp; exact rfl) (by simp [*]; fail_if_success (show _)))
      | exact aw_ret (ret_vals (by simp; exact rfl) (by simp [*]; omega))
      | refine ar_end rfl ?_
      | refine ar_endD rfl (by kernel_rfl) ?_
      | refine ar_fin rfl ?_
      | refine ar_finD rfl (by kernel_rfl) ?_
      | refine lq_exit ?_
      | refine ar_go3 _ rfl (by simp [evsL_len, evsL_getE, evL, prs_len, prs_getE, hd]; exact ⟨rfl, rfl, rfl⟩) rfl ?_
      | refine aw_sregK 3 [1, 2, 5, 6] ?_
      | refine aw_regK 3 [1, 2, 5, 6] ?_
      | refine aw_sregK 7 [5] ?_
      | refine aw_regK 7 [5] ?_
      | refine aw_sreg ?_
      | refine aw_sregD mixed ?_
      | refine aw_ifT (b := true) rfl rfl ?_
      | refine aw_ifF (b := false) rfl rfl ?_
      | refine aw_ifT rfl (by assumption) ?_
      | refine aw_ifF rfl (by assumption) ?_
      | refine aw_ifT rfl (decide_eq_true (by assumption)) ?_
      | refine aw_ifF rfl (decide_eq_false (by assumption)) ?_
      | refine aw_seq ?_
      | refine aw_block ?_
      | refine aw_skip ?_
      | refine aw_region ?_
      | refine aw_region_draw mixed ?_
      | refine aw_exit ?_
      | refine rq_exit ?_
      | refine blockQ_hit ?_
      | refine blockQ_miss (by decide) ?_
      | (refine ar_guard rfl rfl rfl rfl (fun h => ?_) (fun h => ?_) <;> (fail_if_success (cases h; done)) <;> (try simp at h) <;> (try subst h))
      | (refine aw_both rfl (fun h => ?_) (fun h => ?_) <;> (fail_if_success (cases h; done)) <;> (try simp at h) <;> (try subst h)))
set_option maxHeartbeats 16000000 in
theorem c_rin {l : List Int} {x : Int} (hl : l.length ≤ 1000000) : SC Try.prog 88 [.pv (.sl 1 (ints l)), I .i64 x] (B (l.contains x)) := by
  generalize hZ : l.contains x = Z
  have hyes : ∀ i, (hi : i < l.length) → l[i] = x → Z = true := fun i hi h => by
    rw [← hZ, List.contains_iff_mem]; exact h ▸ List.getElem_mem hi
  have hno : (∀ i, (hi : i < l.length) → ¬l[i] = x) → Z = false := fun h => by
    rw [← hZ]
    refine Bool.eq_false_iff.2 fun hc => ?_
    rw [List.contains_iff_mem] at hc
    obtain ⟨i, hi, e⟩ := List.mem_iff_getElem.1 hc
    exact h i hi e
  refine scx_of Try.func88 rfl rfl rfl (Nat.le_of_ble_eq_true rfl) ?_
  repeat' (first
    | refine ar_end rfl ?_
    | refine ar_endD rfl (by kernel_rfl) ?_
    | refine ar_fin rfl ?_
    | refine ar_finD rfl (by kernel_rfl) ?_
    | refine ar_go3 _ rfl (by simp [ints_len, ints_getE, intsL_len, intsL_getE]; exact ⟨rfl, rfl, rfl⟩) rfl ?_
    | refine aw_sregK 0 [0, 1] ?_
    | refine aw_regK 0 [0, 1] ?_
    | refine aw_sregK 1 [0, 1] ?_
    | refine aw_regK 1 [0, 1] ?_
    | refine aw_sreg ?_
    | refine aw_sregD mixed ?_
    | refine aw_ifT (b := true) rfl rfl ?_
    | refine aw_ifF (b := false) rfl rfl ?_
    | refine aw_ifT rfl (by assumption) ?_
    | refine aw_ifF rfl (by assumption) ?_
    | refine aw_ifT rfl (decide_eq_true (by assumption)) ?_
    | refine aw_ifF rfl (decide_eq_false (by assumption)) ?_
    | refine aw_seq ?_
    | refine aw_block ?_
    | refine aw_skip ?_
    | refine aw_region ?_
    | refine aw_region_draw mixed ?_
    | refine aw_exit ?_
    | refine rq_exit ?_
    | refine blockQ_hit ?_
    | refine blockQ_miss (by decide) ?_
    | (refine ar_guard rfl rfl rfl rfl (fun h => ?_) (fun h => ?_) <;> (fail_if_success (cases h; done)) <;> (try simp at h) <;> (try subst h))
    | (refine aw_both rfl (fun h => ?_) (fun h => ?_) <;> (fail_if_success (cases h; done)) <;> (try simp at h) <;> (try subst h)))
  refine aw_loopN [0, 1, 5] [] (by simp; exact rfl) (ι := {i : Nat // i ≤ l.length ∧ ∀ k, (hk : k < l.length) → k < i → ¬l[k] = x}) (fun i => ⟨18, [(0, .pv (.sl 1 (ints l))), (1, I .i64 x), (5, I .i64 i.1)], []⟩) (fun i => l.length - i.1) ⟨0, by omega, fun k _ h => absurd h (by omega)⟩ (by simp) ?_
  rintro ⟨i, hi, hpre⟩
  by_cases hlt : i < l.length
  · have hw : IntKind.wrap .i64 ((i : Int) + 1) = (i : Int) + 1 := wrap64s (by omega) (by omega)
    have hd : (i : Int) < (l.length : Int) := by omega
    by_cases he : l[i] = x
    · have hz := hyes i hlt he
      subst hz
      repeat' (first
        | exact aw_ret (ret_vals (by simp; exact rfl) (by simp [*]; fail_if_success (show _)))
        | exact aw_ret (ret_vals (by simp; exact rfl) (by simp [*]; omega))
        | refine ar_end rfl ?_
        | refine ar_endD rfl (by kernel_rfl) ?_
        | refine ar_fin rfl ?_
        | refine ar_finD rfl (by kernel_rfl) ?_
        | refine ar_go3 _ rfl (by simp [ints_len, ints_getE, intsL_len, intsL_getE, hlt, hd, he]; exact ⟨rfl, rfl, rfl⟩) rfl ?_
        | refine aw_sregK 2 [0, 1, 5] ?_
        | refine aw_regK 2 [0, 1, 5] ?_
        | refine aw_sregK 4 [0, 1, 5] ?_
        | refine aw_regK 4 [0, 1, 5] ?_
        | refine aw_sregK 5 [] ?_
        | refine aw_regK 5 [] ?_
        | refine aw_sreg ?_
        | refine aw_sregD mixed ?_
        | refine aw_ifT (b := true) rfl rfl ?_
        | refine aw_ifF (b := false) rfl rfl ?_
        | refine aw_ifT rfl (by assumption) ?_
        | refine aw_ifF rfl (by assumption) ?_
        | refine aw_ifT rfl (decide_eq_true (by assumption)) ?_
        | refine aw_ifF rfl (decide_eq_false (by assumption)) ?_
        | refine aw_seq ?_
        | refine aw_block ?_
        | refine aw_skip ?_
        | refine aw_region ?_
        | refine aw_region_draw mixed ?_
        | refine aw_exit ?_
        | refine rq_exit ?_
        | refine blockQ_hit ?_
        | refine blockQ_miss (by decide) ?_
        | (refine ar_guard rfl rfl rfl rfl (fun h => ?_) (fun h => ?_) <;> (fail_if_success (cases h; done)) <;> (try simp at h) <;> (try subst h))
        | (refine aw_both rfl (fun h => ?_) (fun h => ?_) <;> (fail_if_success (cases h; done)) <;> (try simp at h) <;> (try subst h)))
    · have hpre2 : ∀ k, (hk : k < l.length) → k < i + 1 → ¬l[k] = x := fun k hk h => by
        by_cases e : k = i
        · subst e; exact he
        · exact hpre k hk (by omega)
      generalize hy : l[i] = y at *
      repeat' (first
        | refine ar_end rfl ?_
        | refine ar_endD rfl (by kernel_rfl) ?_
        | refine ar_fin rfl ?_
        | refine ar_finD rfl (by kernel_rfl) ?_
        | refine bq_norm ?_
        | refine lq_normN [0, 1, 5] [] (by simp; exact rfl) ⟨i + 1, by omega, hpre2⟩ (by dsimp only; omega) (by simp [hd])
        | refine ar_go3 _ rfl (by simp [ints_len, ints_getE, intsL_len, intsL_getE, hlt, hd, hy, he, hw]; exact ⟨rfl, rfl, rfl⟩) rfl ?_
        | refine aw_sregK 2 [0, 1, 5] ?_
        | refine aw_regK 2 [0, 1, 5] ?_
        | refine aw_sregK 3 [0, 1, 5] ?_
        | refine aw_regK 3 [0, 1, 5] ?_
        | refine aw_sregK 4 [0, 1, 5] ?_
        | refine aw_regK 4 [0, 1, 5] ?_
        | refine aw_sreg ?_
        | refine aw_sregD mixed ?_
        | refine aw_ifT (b := true) rfl rfl ?_
        | refine aw_ifF (b := false) rfl rfl ?_
        | refine aw_ifT rfl (by assumption) ?_
        | refine aw_ifF rfl (by assumption) ?_
        | refine aw_ifT rfl (decide_eq_true (by assumption)) ?_
        | refine aw_ifF rfl (decide_eq_false (by assumption)) ?_
        | refine aw_seq ?_
        | refine aw_block ?_
        | refine aw_skip ?_
        | refine aw_region ?_
        | refine aw_region_draw mixed ?_
        | refine aw_exit ?_
        | refine rq_exit ?_
        | refine blockQ_hit ?_
        | refine blockQ_miss (by decide) ?_
        | (refine ar_guard rfl rfl rfl rfl (fun h => ?_) (fun h => ?_) <;> (fail_if_success (cases h; done)) <;> (try simp at h) <;> (try subst h))
        | (refine aw_both rfl (fun h => ?_) (fun h => ?_) <;> (fail_if_success (cases h; done)) <;> (try simp at h) <;> (try subst h)))
  · have hd : ¬(i : Int) < (l.length : Int) := by omega
    have hz := hno fun k hk => hpre k hk (by omega)
    subst hz
    repeat' (first
      | exact aw_ret (ret_vals (by simp; exact rfl) (by simp [*]; fail_if_success (show _)))
      | exact aw_ret (ret_vals (by simp; exact rfl) (by simp [*]; omega))
      | refine ar_end rfl ?_
      | refine ar_endD rfl (by kernel_rfl) ?_
      | refine ar_fin rfl ?_
      | refine ar_finD rfl (by kernel_rfl) ?_
      | refine lq_exit ?_
      | refine ar_go3 _ rfl (by simp [ints_len, ints_getE, intsL_len, intsL_getE, hd]; exact ⟨rfl, rfl, rfl⟩) rfl ?_
      | refine aw_sregK 2 [0, 1, 5] ?_
      | refine aw_regK 2 [0, 1, 5] ?_
      | refine aw_sregK 6 [] ?_
      | refine aw_regK 6 [] ?_
      | refine aw_sreg ?_
      | refine aw_sregD mixed ?_
      | refine aw_ifT (b := true) rfl rfl ?_
      | refine aw_ifF (b := false) rfl rfl ?_
      | refine aw_ifT rfl (by assumption) ?_
      | refine aw_ifF rfl (by assumption) ?_
      | refine aw_ifT rfl (decide_eq_true (by assumption)) ?_
      | refine aw_ifF rfl (decide_eq_false (by assumption)) ?_
      | refine aw_seq ?_
      | refine aw_block ?_
      | refine aw_skip ?_
      | refine aw_region ?_
      | refine aw_region_draw mixed ?_
      | refine aw_exit ?_
      | refine rq_exit ?_
      | refine blockQ_hit ?_
      | refine blockQ_miss (by decide) ?_
      | (refine ar_guard rfl rfl rfl rfl (fun h => ?_) (fun h => ?_) <;> (fail_if_success (cases h; done)) <;> (try simp at h) <;> (try subst h))
      | (refine aw_both rfl (fun h => ?_) (fun h => ?_) <;> (fail_if_success (cases h; done)) <;> (try simp at h) <;> (try subst h)))
set_option maxHeartbeats 16000000 in
theorem c_rints {a b : List Int} (hl : a.length ≤ 1000000) : SC Try.prog 36 [.pv (.sl 1 (ints a)), .pv (.sl 1 (ints b))] (B (decide (a = b))) := by
  refine scx_of Try.func36 rfl rfl rfl (Nat.le_of_ble_eq_true rfl) ?_
  by_cases hab : a.length = b.length
  · have habI : (a.length : Int) = (b.length : Int) := by omega
    repeat' (first
      | refine ar_end rfl ?_
      | refine ar_endD rfl (by kernel_rfl) ?_
      | refine ar_fin rfl ?_
      | refine ar_finD rfl (by kernel_rfl) ?_
      | refine ar_go3 _ rfl (by simp [ints_len, ints_getE, intsL_len, intsL_getE, habI]; exact ⟨rfl, rfl, rfl⟩) rfl ?_
      | refine aw_sregK 0 [0, 1] ?_
      | refine aw_regK 0 [0, 1] ?_
      | refine aw_sregK 1 [0, 1] ?_
      | refine aw_regK 1 [0, 1] ?_
      | refine aw_sregK 3 [0, 1] ?_
      | refine aw_regK 3 [0, 1] ?_
      | refine aw_sreg ?_
      | refine aw_sregD mixed ?_
      | refine aw_ifT (b := true) rfl rfl ?_
      | refine aw_ifF (b := false) rfl rfl ?_
      | refine aw_ifT rfl (by assumption) ?_
      | refine aw_ifF rfl (by assumption) ?_
      | refine aw_ifT rfl (decide_eq_true (by assumption)) ?_
      | refine aw_ifF rfl (decide_eq_false (by assumption)) ?_
      | refine aw_seq ?_
      | refine aw_block ?_
      | refine aw_skip ?_
      | refine aw_region ?_
      | refine aw_region_draw mixed ?_
      | refine aw_exit ?_
      | refine rq_exit ?_
      | refine blockQ_hit ?_
      | refine blockQ_miss (by decide) ?_
      | (refine ar_guard rfl rfl rfl rfl (fun h => ?_) (fun h => ?_) <;> (fail_if_success (cases h; done)) <;> (try simp at h) <;> (try subst h))
      | (refine aw_both rfl (fun h => ?_) (fun h => ?_) <;> (fail_if_success (cases h; done)) <;> (try simp at h) <;> (try subst h)))
    refine aw_loopN [0, 1, 5] [] (by simp; exact rfl) (ι := {i : Nat // i ≤ a.length ∧ a.take i = b.take i}) (fun i => ⟨26, [(0, .pv (.sl 1 (ints a))), (1, .pv (.sl 1 (ints b))), (5, I .i64 i.1)], []⟩) (fun i => a.length - i.1) ⟨0, by omega, by simp⟩ (by simp) ?_
    rintro ⟨i, hi, hpre⟩
    by_cases hlt : i < a.length
    · have hw : IntKind.wrap .i64 ((i : Int) + 1) = (i : Int) + 1 := wrap64s (by omega) (by omega)
      have hd : (i : Int) < (a.length : Int) := by omega
      have hd' : (i : Int) < (b.length : Int) := by omega
      have hly : i < b.length := by omega
      by_cases he : a[i] = b[i]
      · have hpre2 := take_eq_succ hpre hlt hly he
        generalize hu : a[i] = u at *
        generalize hv : b[i] = v at *
        subst he
        repeat' (first
          | refine ar_end rfl ?_
          | refine ar_endD rfl (by kernel_rfl) ?_
          | refine ar_fin rfl ?_
          | refine ar_finD rfl (by kernel_rfl) ?_
          | refine bq_norm ?_
          | refine lq_normN [0, 1, 5] [] (by simp; exact rfl) ⟨i + 1, by omega, hpre2⟩ (by dsimp only; omega) (by simp [hd])
          | refine ar_go3 _ rfl (by simp [ints_len, ints_getE, intsL_len, intsL_getE, hlt, hly, habI, hd, hd', hu, hv, hw]; exact ⟨rfl, rfl, rfl⟩) rfl ?_
          | refine aw_sregK 4 [0, 1, 5] ?_
          | refine aw_regK 4 [0, 1, 5] ?_
          | refine aw_sregK 5 [0, 1, 5] ?_
          | refine aw_regK 5 [0, 1, 5] ?_
          | refine aw_sregKD mixed 6 [0, 1, 5] (by simp; exact rfl) ?_
          | refine aw_regKD mixed 6 [0, 1, 5] (by simp; exact rfl) ?_
          | refine aw_sreg ?_
          | refine aw_sregD mixed ?_
          | refine aw_ifT (b := true) rfl rfl ?_
          | refine aw_ifF (b := false) rfl rfl ?_
          | refine aw_ifT rfl (by assumption) ?_
          | refine aw_ifF rfl (by assumption) ?_
          | refine aw_ifT rfl (decide_eq_true (by assumption)) ?_
          | refine aw_ifF rfl (decide_eq_false (by assumption)) ?_
          | refine aw_seq ?_
          | refine aw_block ?_
          | refine aw_skip ?_
          | refine aw_region ?_
          | refine aw_region_draw mixed ?_
          | refine aw_exit ?_
          | refine rq_exit ?_
          | refine blockQ_hit ?_
          | refine blockQ_miss (by decide) ?_
          | (refine ar_guard rfl rfl rfl rfl (fun h => ?_) (fun h => ?_) <;> (fail_if_success (cases h; done)) <;> (try simp at h) <;> (try subst h))
          | (refine aw_both rfl (fun h => ?_) (fun h => ?_) <;> (fail_if_success (cases h; done)) <;> (try simp at h) <;> (try subst h)))
      · have hne : ¬a = b := fun e => he (by subst e; rfl)
        generalize hu : a[i] = u at *
        generalize hv : b[i] = v at *
        repeat' (first
          | exact aw_ret (ret_vals (by simp; exact rfl) (by simp [hne]; fail_if_success (show _)))
          | exact aw_ret (ret_vals (by simp; exact rfl) (by simp [hne]; omega))
          | refine ar_end rfl ?_
          | refine ar_endD rfl (by kernel_rfl) ?_
          | refine ar_fin rfl ?_
          | refine ar_finD rfl (by kernel_rfl) ?_
          | refine ar_go3 _ rfl (by simp [ints_len, ints_getE, intsL_len, intsL_getE, hlt, hly, habI, hd, hd', hu, hv, he]; exact ⟨rfl, rfl, rfl⟩) rfl ?_
          | refine aw_sregK 4 [0, 1, 5] ?_
          | refine aw_regK 4 [0, 1, 5] ?_
          | refine aw_sregK 5 [0, 1, 5] ?_
          | refine aw_regK 5 [0, 1, 5] ?_
          | refine aw_sregKD mixed 6 [0, 1, 5] (by simp; exact rfl) ?_
          | refine aw_regKD mixed 6 [0, 1, 5] (by simp; exact rfl) ?_
          | refine aw_sregK 7 [] ?_
          | refine aw_regK 7 [] ?_
          | refine aw_sreg ?_
          | refine aw_sregD mixed ?_
          | refine aw_ifT (b := true) rfl rfl ?_
          | refine aw_ifF (b := false) rfl rfl ?_
          | refine aw_ifT rfl (by assumption) ?_
          | refine aw_ifF rfl (by assumption) ?_
          | refine aw_ifT rfl (decide_eq_true (by assumption)) ?_
          | refine aw_ifF rfl (decide_eq_false (by assumption)) ?_
          | refine aw_seq ?_
          | refine aw_block ?_
          | refine aw_skip ?_
          | refine aw_region ?_
          | refine aw_region_draw mixed ?_
          | refine aw_exit ?_
          | refine rq_exit ?_
          | refine blockQ_hit ?_
          | refine blockQ_miss (by decide) ?_
          | (refine ar_guard rfl rfl rfl rfl (fun h => ?_) (fun h => ?_) <;> (fail_if_success (cases h; done)) <;> (try simp at h) <;> (try subst h))
          | (refine aw_both rfl (fun h => ?_) (fun h => ?_) <;> (fail_if_success (cases h; done)) <;> (try simp at h) <;> (try subst h)))
    · have hd : ¬(i : Int) < (a.length : Int) := by omega
      have hd' : ¬(i : Int) < (b.length : Int) := by omega
      have he : a = b := by
        have h1 : a.take i = a := List.take_of_length_le (by omega)
        have h2 : b.take i = b := List.take_of_length_le (by omega)
        rw [h1, h2] at hpre; exact hpre
      repeat' (first
        | exact aw_ret (ret_vals (by simp; exact rfl) (by simp [he]; fail_if_success (show _)))
        | exact aw_ret (ret_vals (by simp; exact rfl) (by simp [he]; omega))
        | refine ar_end rfl ?_
        | refine ar_endD rfl (by kernel_rfl) ?_
        | refine ar_fin rfl ?_
        | refine ar_finD rfl (by kernel_rfl) ?_
        | refine lq_exit ?_
        | refine ar_go3 _ rfl (by simp [ints_len, ints_getE, intsL_len, intsL_getE, hd, hd']; exact ⟨rfl, rfl, rfl⟩) rfl ?_
        | refine aw_sregK 4 [0, 1, 5] ?_
        | refine aw_regK 4 [0, 1, 5] ?_
        | refine aw_sregK 8 [] ?_
        | refine aw_regK 8 [] ?_
        | refine aw_sreg ?_
        | refine aw_sregD mixed ?_
        | refine aw_ifT (b := true) rfl rfl ?_
        | refine aw_ifF (b := false) rfl rfl ?_
        | refine aw_ifT rfl (by assumption) ?_
        | refine aw_ifF rfl (by assumption) ?_
        | refine aw_ifT rfl (decide_eq_true (by assumption)) ?_
        | refine aw_ifF rfl (decide_eq_false (by assumption)) ?_
        | refine aw_seq ?_
        | refine aw_block ?_
        | refine aw_skip ?_
        | refine aw_region ?_
        | refine aw_region_draw mixed ?_
        | refine aw_exit ?_
        | refine rq_exit ?_
        | refine blockQ_hit ?_
        | refine blockQ_miss (by decide) ?_
        | (refine ar_guard rfl rfl rfl rfl (fun h => ?_) (fun h => ?_) <;> (fail_if_success (cases h; done)) <;> (try simp at h) <;> (try subst h))
        | (refine aw_both rfl (fun h => ?_) (fun h => ?_) <;> (fail_if_success (cases h; done)) <;> (try simp at h) <;> (try subst h)))
  · have habI : ¬(a.length : Int) = (b.length : Int) := by omega
    have hne : ¬a = b := fun e => hab (by rw [e])
    repeat' (first
      | exact aw_ret (ret_vals (by simp; exact rfl) (by simp [hne]; fail_if_success (show _)))
      | exact aw_ret (ret_vals (by simp; exact rfl) (by simp [hne]; omega))
      | refine ar_end rfl ?_
      | refine ar_endD rfl (by kernel_rfl) ?_
      | refine ar_fin rfl ?_
      | refine ar_finD rfl (by kernel_rfl) ?_
      | refine ar_go3 _ rfl (by simp [ints_len, ints_getE, intsL_len, intsL_getE, habI]; exact ⟨rfl, rfl, rfl⟩) rfl ?_
      | refine aw_sregK 0 [0, 1] ?_
      | refine aw_regK 0 [0, 1] ?_
      | refine aw_sregK 1 [0, 1] ?_
      | refine aw_regK 1 [0, 1] ?_
      | refine aw_sregK 2 [] ?_
      | refine aw_regK 2 [] ?_
      | refine aw_sreg ?_
      | refine aw_sregD mixed ?_
      | refine aw_ifT (b := true) rfl rfl ?_
      | refine aw_ifF (b := false) rfl rfl ?_
      | refine aw_ifT rfl (by assumption) ?_
      | refine aw_ifF rfl (by assumption) ?_
      | refine aw_ifT rfl (decide_eq_true (by assumption)) ?_
      | refine aw_ifF rfl (decide_eq_false (by assumption)) ?_
      | refine aw_seq ?_
      | refine aw_block ?_
      | refine aw_skip ?_
      | refine aw_region ?_
      | refine aw_region_draw mixed ?_
      | refine aw_exit ?_
      | refine rq_exit ?_
      | refine blockQ_hit ?_
      | refine blockQ_miss (by decide) ?_
      | (refine ar_guard rfl rfl rfl rfl (fun h => ?_) (fun h => ?_) <;> (fail_if_success (cases h; done)) <;> (try simp at h) <;> (try subst h))
      | (refine aw_both rfl (fun h => ?_) (fun h => ?_) <;> (fail_if_success (cases h; done)) <;> (try simp at h) <;> (try subst h)))
set_option maxHeartbeats 16000000 in
theorem c_rnums {a b : List Int} (hl : a.length ≤ 1000000) : SC Try.prog 40 [.pv (.sl 1 (ints a)), .pv (.sl 1 (ints b))] (B (decide (a = b))) := by
  refine scx_of Try.func40 rfl rfl rfl (Nat.le_of_ble_eq_true rfl) ?_
  by_cases hab : a.length = b.length
  · have habI : (a.length : Int) = (b.length : Int) := by omega
    repeat' (first
      | refine ar_end rfl ?_
      | refine ar_endD rfl (by kernel_rfl) ?_
      | refine ar_fin rfl ?_
      | refine ar_finD rfl (by kernel_rfl) ?_
      | refine ar_go3 _ rfl (by simp [ints_len, ints_getE, intsL_len, intsL_getE, habI]; exact ⟨rfl, rfl, rfl⟩) rfl ?_
      | refine aw_sregK 0 [0, 1] ?_
      | refine aw_regK 0 [0, 1] ?_
      | refine aw_sregK 1 [0, 1] ?_
      | refine aw_regK 1 [0, 1] ?_
      | refine aw_sregK 3 [0, 1] ?_
      | refine aw_regK 3 [0, 1] ?_
      | refine aw_sreg ?_
      | refine aw_sregD mixed ?_
      | refine aw_ifT (b := true) rfl rfl ?_
      | refine aw_ifF (b := false) rfl rfl ?_
      | refine aw_ifT rfl (by assumption) ?_
      | refine aw_ifF rfl (by assumption) ?_
      | refine aw_ifT rfl (decide_eq_true (by assumption)) ?_
      | refine aw_ifF rfl (decide_eq_false (by assumption)) ?_
      | refine aw_seq ?_
      | refine aw_block ?_
      | refine aw_skip ?_
      | refine aw_region ?_
      | refine aw_region_draw mixed ?_
      | refine aw_exit ?_
      | refine rq_exit ?_
      | refine blockQ_hit ?_
      | refine blockQ_miss (by decide) ?_
      | (refine ar_guard rfl rfl rfl rfl (fun h => ?_) (fun h => ?_) <;> (fail_if_success (cases h; done)) <;> (try simp at h) <;> (try subst h))
      | (refine aw_both rfl (fun h => ?_) (fun h => ?_) <;> (fail_if_success (cases h; done)) <;> (try simp at h) <;> (try subst h)))
    refine aw_loopN [0, 1, 5] [] (by simp; exact rfl) (ι := {i : Nat // i ≤ a.length ∧ a.take i = b.take i}) (fun i => ⟨26, [(0, .pv (.sl 1 (ints a))), (1, .pv (.sl 1 (ints b))), (5, I .i64 i.1)], []⟩) (fun i => a.length - i.1) ⟨0, by omega, by simp⟩ (by simp) ?_
    rintro ⟨i, hi, hpre⟩
    by_cases hlt : i < a.length
    · have hw : IntKind.wrap .i64 ((i : Int) + 1) = (i : Int) + 1 := wrap64s (by omega) (by omega)
      have hd : (i : Int) < (a.length : Int) := by omega
      have hd' : (i : Int) < (b.length : Int) := by omega
      have hly : i < b.length := by omega
      by_cases he : a[i] = b[i]
      · have hpre2 := take_eq_succ hpre hlt hly he
        generalize hu : a[i] = u at *
        generalize hv : b[i] = v at *
        subst he
        repeat' (first
          | refine ar_end rfl ?_
          | refine ar_endD rfl (by kernel_rfl) ?_
          | refine ar_fin rfl ?_
          | refine ar_finD rfl (by kernel_rfl) ?_
          | refine bq_norm ?_
          | refine lq_normN [0, 1, 5] [] (by simp; exact rfl) ⟨i + 1, by omega, hpre2⟩ (by dsimp only; omega) (by simp [hd])
          | refine ar_go3 _ rfl (by simp [ints_len, ints_getE, intsL_len, intsL_getE, hlt, hly, habI, hd, hd', hu, hv, hw]; exact ⟨rfl, rfl, rfl⟩) rfl ?_
          | refine aw_sregK 4 [0, 1, 5] ?_
          | refine aw_regK 4 [0, 1, 5] ?_
          | refine aw_sregK 5 [0, 1, 5] ?_
          | refine aw_regK 5 [0, 1, 5] ?_
          | refine aw_sregKD mixed 6 [0, 1, 5] (by simp; exact rfl) ?_
          | refine aw_regKD mixed 6 [0, 1, 5] (by simp; exact rfl) ?_
          | refine aw_sreg ?_
          | refine aw_sregD mixed ?_
          | refine aw_ifT (b := true) rfl rfl ?_
          | refine aw_ifF (b := false) rfl rfl ?_
          | refine aw_ifT rfl (by assumption) ?_
          | refine aw_ifF rfl (by assumption) ?_
          | refine aw_ifT rfl (decide_eq_true (by assumption)) ?_
          | refine aw_ifF rfl (decide_eq_false (by assumption)) ?_
          | refine aw_seq ?_
          | refine aw_block ?_
          | refine aw_skip ?_
          | refine aw_region ?_
          | refine aw_region_draw mixed ?_
          | refine aw_exit ?_
          | refine rq_exit ?_
          | refine blockQ_hit ?_
          | refine blockQ_miss (by decide) ?_
          | (refine ar_guard rfl rfl rfl rfl (fun h => ?_) (fun h => ?_) <;> (fail_if_success (cases h; done)) <;> (try simp at h) <;> (try subst h))
          | (refine aw_both rfl (fun h => ?_) (fun h => ?_) <;> (fail_if_success (cases h; done)) <;> (try simp at h) <;> (try subst h)))
      · have hne : ¬a = b := fun e => he (by subst e; rfl)
        generalize hu : a[i] = u at *
        generalize hv : b[i] = v at *
        repeat' (first
          | exact aw_ret (ret_vals (by simp; exact rfl) (by simp [hne]; fail_if_success (show _)))
          | exact aw_ret (ret_vals (by simp; exact rfl) (by simp [hne]; omega))
          | refine ar_end rfl ?_
          | refine ar_endD rfl (by kernel_rfl) ?_
          | refine ar_fin rfl ?_
          | refine ar_finD rfl (by kernel_rfl) ?_
          | refine ar_go3 _ rfl (by simp [ints_len, ints_getE, intsL_len, intsL_getE, hlt, hly, habI, hd, hd', hu, hv, he]; exact ⟨rfl, rfl, rfl⟩) rfl ?_
          | refine aw_sregK 4 [0, 1, 5] ?_
          | refine aw_regK 4 [0, 1, 5] ?_
          | refine aw_sregK 5 [0, 1, 5] ?_
          | refine aw_regK 5 [0, 1, 5] ?_
          | refine aw_sregKD mixed 6 [0, 1, 5] (by simp; exact rfl) ?_
          | refine aw_regKD mixed 6 [0, 1, 5] (by simp; exact rfl) ?_
          | refine aw_sregK 7 [] ?_
          | refine aw_regK 7 [] ?_
          | refine aw_sreg ?_
          | refine aw_sregD mixed ?_
          | refine aw_ifT (b := true) rfl rfl ?_
          | refine aw_ifF (b := false) rfl rfl ?_
          | refine aw_ifT rfl (by assumption) ?_
          | refine aw_ifF rfl (by assumption) ?_
          | refine aw_ifT rfl (decide_eq_true (by assumption)) ?_
          | refine aw_ifF rfl (decide_eq_false (by assumption)) ?_
          | refine aw_seq ?_
          | refine aw_block ?_
          | refine aw_skip ?_
          | refine aw_region ?_
          | refine aw_region_draw mixed ?_
          | refine aw_exit ?_
          | refine rq_exit ?_
          | refine blockQ_hit ?_
          | refine blockQ_miss (by decide) ?_
          | (refine ar_guard rfl rfl rfl rfl (fun h => ?_) (fun h => ?_) <;> (fail_if_success (cases h; done)) <;> (try simp at h) <;> (try subst h))
          | (refine aw_both rfl (fun h => ?_) (fun h => ?_) <;> (fail_if_success (cases h; done)) <;> (try simp at h) <;> (try subst h)))
    · have hd : ¬(i : Int) < (a.length : Int) := by omega
      have hd' : ¬(i : Int) < (b.length : Int) := by omega
      have he : a = b := by
        have h1 : a.take i = a := List.take_of_length_le (by omega)
        have h2 : b.take i = b := List.take_of_length_le (by omega)
        rw [h1, h2] at hpre; exact hpre
      repeat' (first
        | exact aw_ret (ret_vals (by simp; exact rfl) (by simp [he]; fail_if_success (show _)))
        | exact aw_ret (ret_vals (by simp; exact rfl) (by simp [he]; omega))
        | refine ar_end rfl ?_
        | refine ar_endD rfl (by kernel_rfl) ?_
        | refine ar_fin rfl ?_
        | refine ar_finD rfl (by kernel_rfl) ?_
        | refine lq_exit ?_
        | refine ar_go3 _ rfl (by simp [ints_len, ints_getE, intsL_len, intsL_getE, hd, hd']; exact ⟨rfl, rfl, rfl⟩) rfl ?_
        | refine aw_sregK 4 [0, 1, 5] ?_
        | refine aw_regK 4 [0, 1, 5] ?_
        | refine aw_sregK 8 [] ?_
        | refine aw_regK 8 [] ?_
        | refine aw_sreg ?_
        | refine aw_sregD mixed ?_
        | refine aw_ifT (b := true) rfl rfl ?_
        | refine aw_ifF (b := false) rfl rfl ?_
        | refine aw_ifT rfl (by assumption) ?_
        | refine aw_ifF rfl (by assumption) ?_
        | refine aw_ifT rfl (decide_eq_true (by assumption)) ?_
        | refine aw_ifF rfl (decide_eq_false (by assumption)) ?_
        | refine aw_seq ?_
        | refine aw_block ?_
        | refine aw_skip ?_
        | refine aw_region ?_
        | refine aw_region_draw mixed ?_
        | refine aw_exit ?_
        | refine rq_exit ?_
        | refine blockQ_hit ?_
        | refine blockQ_miss (by decide) ?_
        | (refine ar_guard rfl rfl rfl rfl (fun h => ?_) (fun h => ?_) <;> (fail_if_success (cases h; done)) <;> (try simp at h) <;> (try subst h))
        | (refine aw_both rfl (fun h => ?_) (fun h => ?_) <;> (fail_if_success (cases h; done)) <;> (try simp at h) <;> (try subst h)))
  · have habI : ¬(a.length : Int) = (b.length : Int) := by omega
    have hne : ¬a = b := fun e => hab (by rw [e])
    repeat' (first
      | exact aw_ret (ret_vals (by simp; exact rfl) (by simp [hne]; fail_if_success (show _)))
      | exact aw_ret (ret_vals (by simp; exact rfl) (by simp [hne]; omega))
      | refine ar_end rfl ?_
      | refine ar_endD rfl (by kernel_rfl) ?_
      | refine ar_fin rfl ?_
      | refine ar_finD rfl (by kernel_rfl) ?_
      | refine ar_go3 _ rfl (by simp [ints_len, ints_getE, intsL_len, intsL_getE, habI]; exact ⟨rfl, rfl, rfl⟩) rfl ?_
      | refine aw_sregK 0 [0, 1] ?_
      | refine aw_regK 0 [0, 1] ?_
      | refine aw_sregK 1 [0, 1] ?_
      | refine aw_regK 1 [0, 1] ?_
      | refine aw_sregK 2 [] ?_
      | refine aw_regK 2 [] ?_
      | refine aw_sreg ?_
      | refine aw_sregD mixed ?_
      | refine aw_ifT (b := true) rfl rfl ?_
      | refine aw_ifF (b := false) rfl rfl ?_
      | refine aw_ifT rfl (by assumption) ?_
      | refine aw_ifF rfl (by assumption) ?_
      | refine aw_ifT rfl (decide_eq_true (by assumption)) ?_
      | refine aw_ifF rfl (decide_eq_false (by assumption)) ?_
      | refine aw_seq ?_
      | refine aw_block ?_
      | refine aw_skip ?_
      | refine aw_region ?_
      | refine aw_region_draw mixed ?_
      | refine aw_exit ?_
      | refine rq_exit ?_
      | refine blockQ_hit ?_
      | refine blockQ_miss (by decide) ?_
      | (refine ar_guard rfl rfl rfl rfl (fun h => ?_) (fun h => ?_) <;> (fail_if_success (cases h; done)) <;> (try simp at h) <;> (try subst h))
      | (refine aw_both rfl (fun h => ?_) (fun h => ?_) <;> (fail_if_success (cases h; done)) <;> (try simp at h) <;> (try subst h)))
theorem all_up {α : Type} (q : α → Bool) (A : List α) : ∃ lb : Nat → Bool, lb 0 = true ∧ (∀ j, (hj : j < A.length) → lb (j + 1) = (lb j && q A[j])) ∧ lb A.length = A.all q := by
  refine ⟨fun j => (A.take j).all q, by simp, fun j hj => ?_, by show (A.take A.length).all q = _; rw [List.take_length]⟩
  show (A.take (j + 1)).all q = ((A.take j).all q && q A[j])
  rw [List.take_add_one, List.getElem?_eq_getElem hj, List.all_append]; simp
set_option maxHeartbeats 16000000 in
theorem c_rlast {es : List Ev} {co : RL} {loc : Int} (h32 : es.length ≤ 32) : SC Try.prog 39 [.agg (exL es), .pv (.sl 1 (rl co)), I .i64 loc] (I .i64 (lastF es co loc)) := by
  have hW := c_rwrites (loc := loc) h32
  have hWl := writes_len es loc
  unfold lastF
  generalize writesF es loc = W at *
  generalize hZ : lastG (topB co W) W = Z
  refine scx_of Try.func39 rfl rfl rfl (Nat.le_of_ble_eq_true rfl) ?_
  repeat' (first
    | refine ar_end rfl ?_
    | refine ar_endD rfl (by kernel_rfl) ?_
    | refine ar_fin rfl ?_
    | refine ar_finD rfl (by kernel_rfl) ?_
    | refine ar_callV Try.call37 hW rfl rfl rfl rfl rfl (by simp; done) (by rfl) (by simp; done) ?_
    | refine ar_callV_if Try.call37 hW rfl rfl rfl rfl rfl rfl (by simp; done) rfl (by rfl) (by simp; done) ?_
    | refine ar_go3 _ rfl (by simp [evsL_len, evsL_getE, evL, prs_len, prs_getE, ints_len, ints_getE, intsL_len, intsL_getE]; exact ⟨rfl, rfl, rfl⟩) rfl ?_
    | refine aw_sregK 0 [0, 1, 2] ?_
    | refine aw_regK 0 [0, 1, 2] ?_
    | refine aw_sregK 1 [1, 2, 3] ?_
    | refine aw_regK 1 [1, 2, 3] ?_
    | refine aw_sregK 2 [1, 7] ?_
    | refine aw_regK 2 [1, 7] ?_
    | refine aw_sreg ?_
    | refine aw_sregD mixed ?_
    | refine aw_ifT (b := true) rfl rfl ?_
    | refine aw_ifF (b := false) rfl rfl ?_
    | refine aw_ifT rfl (by assumption) ?_
    | refine aw_ifF rfl (by assumption) ?_
    | refine aw_ifT rfl (decide_eq_true (by assumption)) ?_
    | refine aw_ifF rfl (decide_eq_false (by assumption)) ?_
    | refine aw_seq ?_
    | refine aw_block ?_
    | refine aw_skip ?_
    | refine aw_region ?_
    | refine aw_region_draw mixed ?_
    | refine aw_exit ?_
    | refine rq_exit ?_
    | refine blockQ_hit ?_
    | refine blockQ_miss (by decide) ?_
    | (refine ar_guard rfl rfl rfl rfl (fun h => ?_) (fun h => ?_) <;> (fail_if_success (cases h; done)) <;> (try simp at h) <;> (try subst h))
    | (refine aw_both rfl (fun h => ?_) (fun h => ?_) <;> (fail_if_success (cases h; done)) <;> (try simp at h) <;> (try subst h)))
  refine aw_loopN [1, 7, 8] [] (by simp; exact rfl) (ι := {i : Nat // i ≤ W.length ∧ lastG (topB co W) (W.drop i) = Z}) (fun i => ⟨45, [(1, .pv (.sl 1 (rl co))), (7, .pv (.sl 1 (ints W))), (8, I .i64 i.1)], []⟩) (fun i => W.length - i.1) ⟨0, by omega, by simpa using hZ⟩ (by simp) ?_
  rintro ⟨i, hi, hq⟩
  by_cases hlt : i < W.length
  · have hw : IntKind.wrap .i64 ((i : Int) + 1) = (i : Int) + 1 := wrap64s (by omega) (by omega)
    have hd : (i : Int) < (W.length : Int) := by omega
    have hq0 := hq
    rw [List.drop_eq_getElem_cons hlt, lastG] at hq
    generalize hw0 : W[i] = w at *
    obtain ⟨lb, hb0, hbs, hbe⟩ := all_up (fun x => !hasR co w x) W
    change lb W.length = topB co W w at hbe
    repeat' (first
      | refine ar_end rfl ?_
      | refine ar_endD rfl (by kernel_rfl) ?_
      | refine ar_fin rfl ?_
      | refine ar_finD rfl (by kernel_rfl) ?_
      | refine ar_go3 _ rfl (by simp [ints_len, ints_getE, intsL_len, intsL_getE, hd]; exact ⟨rfl, rfl, rfl⟩) rfl ?_
      | refine aw_sregK 3 [1, 7, 8] ?_
      | refine aw_regK 3 [1, 7, 8] ?_
      | refine aw_sregK 5 [1, 7, 8] ?_
      | refine aw_regK 5 [1, 7, 8] ?_
      | refine aw_sregK 6 [1, 7, 8, 9] ?_
      | refine aw_regK 6 [1, 7, 8, 9] ?_
      | refine aw_sreg ?_
      | refine aw_sregD mixed ?_
      | refine aw_ifT (b := true) rfl rfl ?_
      | refine aw_ifF (b := false) rfl rfl ?_
      | refine aw_ifT rfl (by assumption) ?_
      | refine aw_ifF rfl (by assumption) ?_
      | refine aw_ifT rfl (decide_eq_true (by assumption)) ?_
      | refine aw_ifF rfl (decide_eq_false (by assumption)) ?_
      | refine aw_seq ?_
      | refine aw_block ?_
      | refine aw_skip ?_
      | refine aw_region ?_
      | refine aw_region_draw mixed ?_
      | refine aw_exit ?_
      | refine rq_exit ?_
      | refine blockQ_hit ?_
      | refine blockQ_miss (by decide) ?_
      | (refine ar_guard rfl rfl rfl rfl (fun h => ?_) (fun h => ?_) <;> (fail_if_success (cases h; done)) <;> (try simp at h) <;> (try subst h))
      | (refine aw_both rfl (fun h => ?_) (fun h => ?_) <;> (fail_if_success (cases h; done)) <;> (try simp at h) <;> (try subst h)))
    refine aw_loopN [1, 7, 8, 9, 10] [] (by simp; exact rfl) (ι := {j : Nat // j ≤ W.length}) (fun j => ⟨45, [(1, .pv (.sl 1 (rl co))), (7, .pv (.sl 1 (ints W))), (8, I .i64 i), (9, B (lb j.1)), (10, I .i64 j.1)], []⟩) (fun j => W.length - j.1) ⟨0, by omega⟩ (by simp [hb0]) ?_
    rintro ⟨j, hj⟩
    by_cases hjl : j < W.length
    · have hw2 : IntKind.wrap .i64 ((j : Int) + 1) = (j : Int) + 1 := wrap64s (by omega) (by omega)
      have hd2 : (j : Int) < (W.length : Int) := by omega
      have hs := hbs j hjl
      generalize hy : W[j] = y at *
      have hH := c_rhas (r := co) (i := w) (k := y)
      generalize hasR co w y = hh at *
      cases hb : lb j
      · rw [hb, Bool.false_and] at hs
        repeat' (first
          | refine ar_end rfl ?_
          | refine ar_endD rfl (by kernel_rfl) ?_
          | refine ar_fin rfl ?_
          | refine ar_finD rfl (by kernel_rfl) ?_
          | refine bq_norm ?_
          | refine lq_normN [1, 7, 8, 9, 10] [] (by simp; exact rfl) ⟨j + 1, by omega⟩ (by dsimp only; omega) (by simp [hs])
          | refine ar_go3 _ rfl (by simp [ints_len, ints_getE, intsL_len, intsL_getE, hjl, hd2, hlt, hw0, hy, hb, hw2]; exact ⟨rfl, rfl, rfl⟩) rfl ?_
          | refine aw_sregK 7 [1, 7, 8, 9, 10] ?_
          | refine aw_regK 7 [1, 7, 8, 9, 10] ?_
          | refine aw_sregK 8 [1, 7, 8, 9, 10] ?_
          | refine aw_regK 8 [1, 7, 8, 9, 10] ?_
          | refine aw_sregKD mixed 9 [1, 7, 8, 9, 10] (by simp; exact rfl) ?_
          | refine aw_regKD mixed 9 [1, 7, 8, 9, 10] (by simp; exact rfl) ?_
          | refine aw_sreg ?_
          | refine aw_sregD mixed ?_
          | refine aw_ifT (b := true) rfl rfl ?_
          | refine aw_ifF (b := false) rfl rfl ?_
          | refine aw_ifT rfl (by assumption) ?_
          | refine aw_ifF rfl (by assumption) ?_
          | refine aw_ifT rfl (decide_eq_true (by assumption)) ?_
          | refine aw_ifF rfl (decide_eq_false (by assumption)) ?_
          | refine aw_seq ?_
          | refine aw_block ?_
          | refine aw_skip ?_
          | refine aw_region ?_
          | refine aw_region_draw mixed ?_
          | refine aw_exit ?_
          | refine rq_exit ?_
          | refine blockQ_hit ?_
          | refine blockQ_miss (by decide) ?_
          | (refine ar_guard rfl rfl rfl rfl (fun h => ?_) (fun h => ?_) <;> (fail_if_success (cases h; done)) <;> (try simp at h) <;> (try subst h))
          | (refine aw_both rfl (fun h => ?_) (fun h => ?_) <;> (fail_if_success (cases h; done)) <;> (try simp at h) <;> (try subst h)))
      · rw [hb, Bool.true_and] at hs
        repeat' (first
          | refine ar_end rfl ?_
          | refine ar_endD rfl (by kernel_rfl) ?_
          | refine ar_fin rfl ?_
          | refine ar_finD rfl (by kernel_rfl) ?_
          | refine ar_callV Try.call68 hH rfl rfl rfl rfl rfl (by simp; done) (by rfl) (by simp; done) ?_
          | refine ar_callV_if Try.call68 hH rfl rfl rfl rfl rfl rfl (by simp; done) rfl (by rfl) (by simp; done) ?_
          | refine bq_norm ?_
          | refine lq_normN [1, 7, 8, 9, 10] [] (by simp; exact rfl) ⟨j + 1, by omega⟩ (by dsimp only; omega) (by simp [hs])
          | refine ar_go3 _ rfl (by simp [ints_len, ints_getE, intsL_len, intsL_getE, hjl, hd2, hlt, hw0, hy, hb, hw2]; exact ⟨rfl, rfl, rfl⟩) rfl ?_
          | refine aw_sregK 7 [1, 7, 8, 9, 10] ?_
          | refine aw_regK 7 [1, 7, 8, 9, 10] ?_
          | refine aw_sregK 8 [1, 7, 8, 9, 10] ?_
          | refine aw_regK 8 [1, 7, 8, 9, 10] ?_
          | refine aw_sregKD mixed 9 [1, 7, 8, 9, 10] (by simp; exact rfl) ?_
          | refine aw_regKD mixed 9 [1, 7, 8, 9, 10] (by simp; exact rfl) ?_
          | refine aw_sreg ?_
          | refine aw_sregD mixed ?_
          | refine aw_ifT (b := true) rfl rfl ?_
          | refine aw_ifF (b := false) rfl rfl ?_
          | refine aw_ifT rfl (by assumption) ?_
          | refine aw_ifF rfl (by assumption) ?_
          | refine aw_ifT rfl (decide_eq_true (by assumption)) ?_
          | refine aw_ifF rfl (decide_eq_false (by assumption)) ?_
          | refine aw_seq ?_
          | refine aw_block ?_
          | refine aw_skip ?_
          | refine aw_region ?_
          | refine aw_region_draw mixed ?_
          | refine aw_exit ?_
          | refine rq_exit ?_
          | refine blockQ_hit ?_
          | refine blockQ_miss (by decide) ?_
          | (refine ar_guard rfl rfl rfl rfl (fun h => ?_) (fun h => ?_) <;> (fail_if_success (cases h; done)) <;> (try simp at h) <;> (try subst h))
          | (refine aw_both rfl (fun h => ?_) (fun h => ?_) <;> (fail_if_success (cases h; done)) <;> (try simp at h) <;> (try subst h)))
    · have hd2 : ¬(j : Int) < (W.length : Int) := by omega
      have hje : j = W.length := by omega
      subst hje
      cases ht : topB co W w
      · rw [ht] at hbe
        rw [ht, if_neg (by decide)] at hq
        repeat' (first
          | refine ar_end rfl ?_
          | refine ar_endD rfl (by kernel_rfl) ?_
          | refine ar_fin rfl ?_
          | refine ar_finD rfl (by kernel_rfl) ?_
          | refine lq_exit ?_
          | refine bq_norm ?_
          | refine lq_normN [1, 7, 8] [] (by simp; exact rfl) ⟨i + 1, by omega, hq⟩ (by dsimp only; omega) (by simp [hd2])
          | refine ar_go3 _ rfl (by simp [ints_len, ints_getE, intsL_len, intsL_getE, hd2, hbe, hw]; exact ⟨rfl, rfl, rfl⟩) rfl ?_
          | refine aw_sregK 4 [1, 7, 8] ?_
          | refine aw_regK 4 [1, 7, 8] ?_
          | refine aw_sregK 7 [1, 7, 8, 9, 10] ?_
          | refine aw_regK 7 [1, 7, 8, 9, 10] ?_
          | refine aw_sregK 10 [1, 7, 8, 9] ?_
          | refine aw_regK 10 [1, 7, 8, 9] ?_
          | refine aw_sreg ?_
          | refine aw_sregD mixed ?_
          | refine aw_ifT (b := true) rfl rfl ?_
          | refine aw_ifF (b := false) rfl rfl ?_
          | refine aw_ifT rfl (by assumption) ?_
          | refine aw_ifF rfl (by assumption) ?_
          | refine aw_ifT rfl (decide_eq_true (by assumption)) ?_
          | refine aw_ifF rfl (decide_eq_false (by assumption)) ?_
          | refine aw_seq ?_
          | refine aw_block ?_
          | refine aw_skip ?_
          | refine aw_region ?_
          | refine aw_region_draw mixed ?_
          | refine aw_exit ?_
          | refine rq_exit ?_
          | refine blockQ_hit ?_
          | refine blockQ_miss (by decide) ?_
          | (refine ar_guard rfl rfl rfl rfl (fun h => ?_) (fun h => ?_) <;> (fail_if_success (cases h; done)) <;> (try simp at h) <;> (try subst h))
          | (refine aw_both rfl (fun h => ?_) (fun h => ?_) <;> (fail_if_success (cases h; done)) <;> (try simp at h) <;> (try subst h)))
      · rw [ht] at hbe
        rw [ht, if_pos rfl] at hq
        subst hq
        repeat' (first
          | exact aw_ret (ret_vals (by simp; exact rfl) (by simp [*]; fail_if_success (show _)))
          | exact aw_ret (ret_vals (by simp; exact rfl) (by simp [*]; omega))
          | refine ar_end rfl ?_
          | refine ar_endD rfl (by kernel_rfl) ?_
          | refine ar_fin rfl ?_
          | refine ar_finD rfl (by kernel_rfl) ?_
          | refine lq_exit ?_
          | refine ar_go3 _ rfl (by simp [ints_len, ints_getE, intsL_len, intsL_getE, hd2, hbe, hlt, hw0]; exact ⟨rfl, rfl, rfl⟩) rfl ?_
          | refine aw_sregK 7 [1, 7, 8, 9, 10] ?_
          | refine aw_regK 7 [1, 7, 8, 9, 10] ?_
          | refine aw_sregK 10 [1, 7, 8, 9] ?_
          | refine aw_regK 10 [1, 7, 8, 9] ?_
          | refine aw_sregK 11 [7, 8] ?_
          | refine aw_regK 11 [7, 8] ?_
          | refine aw_sreg ?_
          | refine aw_sregD mixed ?_
          | refine aw_ifT (b := true) rfl rfl ?_
          | refine aw_ifF (b := false) rfl rfl ?_
          | refine aw_ifT rfl (by assumption) ?_
          | refine aw_ifF rfl (by assumption) ?_
          | refine aw_ifT rfl (decide_eq_true (by assumption)) ?_
          | refine aw_ifF rfl (decide_eq_false (by assumption)) ?_
          | refine aw_seq ?_
          | refine aw_block ?_
          | refine aw_skip ?_
          | refine aw_region ?_
          | refine aw_region_draw mixed ?_
          | refine aw_exit ?_
          | refine rq_exit ?_
          | refine blockQ_hit ?_
          | refine blockQ_miss (by decide) ?_
          | (refine ar_guard rfl rfl rfl rfl (fun h => ?_) (fun h => ?_) <;> (fail_if_success (cases h; done)) <;> (try simp at h) <;> (try subst h))
          | (refine aw_both rfl (fun h => ?_) (fun h => ?_) <;> (fail_if_success (cases h; done)) <;> (try simp at h) <;> (try subst h)))
  · have hd : ¬(i : Int) < (W.length : Int) := by omega
    rw [List.drop_eq_nil_of_le (by omega), lastG] at hq
    subst hq
    repeat' (first
      | exact aw_ret (ret_vals (by simp; exact rfl) (by simp [*]; fail_if_success (show _)))
      | exact aw_ret (ret_vals (by simp; exact rfl) (by simp [*]; omega))
      | refine ar_end rfl ?_
      | refine ar_endD rfl (by kernel_rfl) ?_
      | refine ar_fin rfl ?_
      | refine ar_finD rfl (by kernel_rfl) ?_
      | refine lq_exit ?_
      | refine ar_go3 _ rfl (by simp [ints_len, ints_getE, intsL_len, intsL_getE, hd]; exact ⟨rfl, rfl, rfl⟩) rfl ?_
      | refine aw_sregK 3 [1, 7, 8] ?_
      | refine aw_regK 3 [1, 7, 8] ?_
      | refine aw_sregK 12 [] ?_
      | refine aw_regK 12 [] ?_
      | refine aw_sreg ?_
      | refine aw_sregD mixed ?_
      | refine aw_ifT (b := true) rfl rfl ?_
      | refine aw_ifF (b := false) rfl rfl ?_
      | refine aw_ifT rfl (by assumption) ?_
      | refine aw_ifF rfl (by assumption) ?_
      | refine aw_ifT rfl (decide_eq_true (by assumption)) ?_
      | refine aw_ifF rfl (decide_eq_false (by assumption)) ?_
      | refine aw_seq ?_
      | refine aw_block ?_
      | refine aw_skip ?_
      | refine aw_region ?_
      | refine aw_region_draw mixed ?_
      | refine aw_exit ?_
      | refine rq_exit ?_
      | refine blockQ_hit ?_
      | refine blockQ_miss (by decide) ?_
      | (refine ar_guard rfl rfl rfl rfl (fun h => ?_) (fun h => ?_) <;> (fail_if_success (cases h; done)) <;> (try simp at h) <;> (try subst h))
      | (refine aw_both rfl (fun h => ?_) (fun h => ?_) <;> (fail_if_success (cases h; done)) <;> (try simp at h) <;> (try subst h)))
set_option maxHeartbeats 16000000 in
theorem c_rmem {es : List Ev} {co : RL} {init : List Int} (h32 : es.length ≤ 32) (hl : init.length ≤ 1000000) : SC Try.prog 42 [.agg (exL es), .pv (.sl 1 (rl co)), .pv (.sl 1 (ints init))] (.pv (.sl 1 (ints (memF es co init)))) := by
  have hml : (memF es co init).length = init.length := by simp [memF]
  have hmv : ∀ i, (h : i < init.length) → (h2 : i < (memF es co init).length) → (memF es co init)[i] = memV es co i init[i] := fun i h h2 => by simp [memF]
  generalize memF es co init = M at *
  refine scx_of Try.func42 rfl rfl rfl (Nat.le_of_ble_eq_true rfl) ?_
  repeat' (first
    | refine ar_end rfl ?_
    | refine ar_endD rfl (by kernel_rfl) ?_
    | refine ar_fin rfl ?_
    | refine ar_finD rfl (by kernel_rfl) ?_
    | refine ar_go3 _ rfl (by simp [evsL_len, evsL_getE, evL, prs_len, prs_getE, ints_len, ints_getE, intsL_len, intsL_getE]; exact ⟨rfl, rfl, rfl⟩) rfl ?_
    | refine aw_sregK 0 [0, 1, 2] ?_
    | refine aw_regK 0 [0, 1, 2] ?_
    | refine aw_sregK 1 [1, 2, 3] ?_
    | refine aw_regK 1 [1, 2, 3] ?_
    | refine aw_sregK 2 [1, 2, 3, 7] ?_
    | refine aw_regK 2 [1, 2, 3, 7] ?_
    | refine aw_sreg ?_
    | refine aw_sregD mixed ?_
    | refine aw_ifT (b := true) rfl rfl ?_
    | refine aw_ifF (b := false) rfl rfl ?_
    | refine aw_ifT rfl (by assumption) ?_
    | refine aw_ifF rfl (by assumption) ?_
    | refine aw_ifT rfl (decide_eq_true (by assumption)) ?_
    | refine aw_ifF rfl (decide_eq_false (by assumption)) ?_
    | refine aw_seq ?_
    | refine aw_block ?_
    | refine aw_skip ?_
    | refine aw_region ?_
    | refine aw_region_draw mixed ?_
    | refine aw_exit ?_
    | refine rq_exit ?_
    | refine blockQ_hit ?_
    | refine blockQ_miss (by decide) ?_
    | (refine ar_guard rfl rfl rfl rfl (fun h => ?_) (fun h => ?_) <;> (fail_if_success (cases h; done)) <;> (try simp at h) <;> (try subst h))
    | (refine aw_both rfl (fun h => ?_) (fun h => ?_) <;> (fail_if_success (cases h; done)) <;> (try simp at h) <;> (try subst h)))
  refine aw_nil 7 (.loc 1000) 2 1 (by simp; exact rfl) ?_
  refine aw_loopN [1, 2, 3, 7, 8] [.loc 3, .loc 1000] (by simp; exact rfl) (ι := {i : Nat // i ≤ init.length}) (fun i => ⟨39, [(1, .pv (.sl 1 (rl co))), (2, .pv (.sl 1 (ints init))), (3, .ptr (.loc 3) 0), (7, .own (.loc 1000)), (8, I .i64 i.1)], [(.loc 3, some (.box 60 [.pv (.sl 7 (evsL es)), .pv (.v (.slice none 0 0)), .pv (.v (.slice none 0 0)), .pv (.v (.slice none 0 0)), .pv (.v (.slice none 0 0)), .pv (.v (.slice none 0 0)), .pv (.v (.slice none 0 0))])), (.loc 1000, some (.own 2 1 (ints (M.take i.1))))]⟩) (fun i => init.length - i.1) ⟨0, by omega⟩ (by simp [ints]) ?_
  rintro ⟨i, hi⟩
  by_cases hlt : i < init.length
  · have hw : IntKind.wrap .i64 ((i : Int) + 1) = (i : Int) + 1 := wrap64s (by omega) (by omega)
    have hd : (i : Int) < (init.length : Int) := by omega
    have hL := c_rlast (es := es) (co := co) (loc := i) h32
    have hiM : i < M.length := by omega
    have hst : M.take (i + 1) = M.take i ++ [M[i]] := by rw [List.take_add_one, List.getElem?_eq_getElem hiM]; rfl
    rw [hmv i hlt hiM] at hst
    have htl : (M.take i).length ≤ i := by simp; omega
    generalize M.take i = T at *
    generalize hx0 : init[i] = x0 at *
    rcases last_some es co i with hq | ⟨a, ha, hq, _, _⟩
    · have e : memV es co i x0 = x0 := by unfold memV; rw [hq, if_neg (by decide)]
      rw [e] at hst
      rw [hq] at hL
      repeat' (first
        | refine ar_end rfl ?_
        | refine ar_endD rfl (by kernel_rfl) ?_
        | refine ar_fin rfl ?_
        | refine ar_finD rfl (by kernel_rfl) ?_
        | refine ar_callV Try.call39 hL rfl rfl rfl rfl rfl (by simp; done) (by rfl) (by simp; done) ?_
        | refine ar_callV_if Try.call39 hL rfl rfl rfl rfl rfl rfl (by simp; done) rfl (by rfl) (by simp; done) ?_
        | refine ar_appO rfl rfl rfl rfl rfl (by simp; exact rfl) rfl (by simp; exact rfl) (by simp; exact rfl) (by simp; exact ⟨rfl, rfl⟩) rfl (by simp; exact rfl) (by simp; done) (by decide) (by simp [ints_len, maxLen]; try omega) ?_
        | refine bq_norm ?_
        | refine lq_normR (.loc 28) (.loc 1000) [1, 2, 3, 7, 8] [.loc 3, .loc 1000] (by simp; exact rfl) ⟨i + 1, by omega⟩ (by dsimp only; omega) (by rw [hst, ints_app]; simp [ints])
        | refine ar_go3 _ rfl (by simp [evsL_len, evsL_getE, evL, prs_len, prs_getE, ints_len, ints_getE, intsL_len, intsL_getE, exL, hlt, hd, hx0, hw]; exact ⟨rfl, rfl, rfl⟩) rfl ?_
        | refine aw_sregK 3 [1, 2, 3, 7, 8] ?_
        | refine aw_regK 3 [1, 2, 3, 7, 8] ?_
        | refine aw_sregK 4 [1, 2, 3, 7, 8] ?_
        | refine aw_regK 4 [1, 2, 3, 7, 8] ?_
        | refine aw_sregK 5 [1, 2, 3, 7, 8] ?_
        | refine aw_regK 5 [1, 2, 3, 7, 8] ?_
        | refine aw_sregK 6 [1, 2, 3, 7, 8, 9] ?_
        | refine aw_regK 6 [1, 2, 3, 7, 8, 9] ?_
        | refine aw_sregK 7 [1, 2, 3, 7, 8] ?_
        | refine aw_regK 7 [1, 2, 3, 7, 8] ?_
        | refine aw_sreg ?_
        | refine aw_sregD mixed ?_
        | refine aw_ifT (b := true) rfl rfl ?_
        | refine aw_ifF (b := false) rfl rfl ?_
        | refine aw_ifT rfl (by assumption) ?_
        | refine aw_ifF rfl (by assumption) ?_
        | refine aw_ifT rfl (decide_eq_true (by assumption)) ?_
        | refine aw_ifF rfl (decide_eq_false (by assumption)) ?_
        | refine aw_seq ?_
        | refine aw_block ?_
        | refine aw_skip ?_
        | refine aw_region ?_
        | refine aw_region_draw mixed ?_
        | refine aw_exit ?_
        | refine rq_exit ?_
        | refine blockQ_hit ?_
        | refine blockQ_miss (by decide) ?_
        | (refine ar_guard rfl rfl rfl rfl (fun h => ?_) (fun h => ?_) <;> (fail_if_success (cases h; done)) <;> (try simp at h) <;> (try subst h))
        | (refine aw_both rfl (fun h => ?_) (fun h => ?_) <;> (fail_if_success (cases h; done)) <;> (try simp at h) <;> (try subst h)))
    · have e : memV es co i x0 = es[a].v := by unfold memV; rw [hq, if_pos (by omega)]; simp [ha]
      rw [e] at hst
      rw [hq] at hL
      generalize hx : es[a] = x at *
      have h0a : ¬(a : Int) < 0 := by omega
      repeat' (first
        | refine ar_end rfl ?_
        | refine ar_endD rfl (by kernel_rfl) ?_
        | refine ar_fin rfl ?_
        | refine ar_finD rfl (by kernel_rfl) ?_
        | refine ar_callV Try.call39 hL rfl rfl rfl rfl rfl (by simp; done) (by rfl) (by simp; done) ?_
        | refine ar_callV_if Try.call39 hL rfl rfl rfl rfl rfl rfl (by simp; done) rfl (by rfl) (by simp; done) ?_
        | refine ar_appO rfl rfl rfl rfl rfl (by simp; exact rfl) rfl (by simp; exact rfl) (by simp; exact rfl) (by simp; exact ⟨rfl, rfl⟩) rfl (by simp; exact rfl) (by simp; done) (by decide) (by simp [ints_len, maxLen]; try omega) ?_
        | refine bq_norm ?_
        | refine lq_normR (.loc 37) (.loc 1000) [1, 2, 3, 7, 8] [.loc 3, .loc 1000] (by simp; exact rfl) ⟨i + 1, by omega⟩ (by dsimp only; omega) (by rw [hst, ints_app]; simp [ints])
        | refine ar_go3 _ rfl (by simp [evsL_len, evsL_getE, evL, prs_len, prs_getE, ints_len, ints_getE, intsL_len, intsL_getE, exL, hlt, hd, hx0, hw, ha, hx, h0a]; exact ⟨rfl, rfl, rfl⟩) rfl ?_
        | refine aw_sregK 3 [1, 2, 3, 7, 8] ?_
        | refine aw_regK 3 [1, 2, 3, 7, 8] ?_
        | refine aw_sregK 4 [1, 2, 3, 7, 8] ?_
        | refine aw_regK 4 [1, 2, 3, 7, 8] ?_
        | refine aw_sregK 5 [1, 2, 3, 7, 8] ?_
        | refine aw_regK 5 [1, 2, 3, 7, 8] ?_
        | refine aw_sregK 6 [1, 2, 3, 7, 8, 9] ?_
        | refine aw_regK 6 [1, 2, 3, 7, 8, 9] ?_
        | refine aw_sregK 8 [1, 2, 3, 7, 8, 9] ?_
        | refine aw_regK 8 [1, 2, 3, 7, 8, 9] ?_
        | refine aw_sreg ?_
        | refine aw_sregD mixed ?_
        | refine aw_ifT (b := true) rfl rfl ?_
        | refine aw_ifF (b := false) rfl rfl ?_
        | refine aw_ifT rfl (by assumption) ?_
        | refine aw_ifF rfl (by assumption) ?_
        | refine aw_ifT rfl (decide_eq_true (by assumption)) ?_
        | refine aw_ifF rfl (decide_eq_false (by assumption)) ?_
        | refine aw_seq ?_
        | refine aw_block ?_
        | refine aw_skip ?_
        | refine aw_region ?_
        | refine aw_region_draw mixed ?_
        | refine aw_exit ?_
        | refine rq_exit ?_
        | refine blockQ_hit ?_
        | refine blockQ_miss (by decide) ?_
        | (refine ar_guard rfl rfl rfl rfl (fun h => ?_) (fun h => ?_) <;> (fail_if_success (cases h; done)) <;> (try simp at h) <;> (try subst h))
        | (refine aw_both rfl (fun h => ?_) (fun h => ?_) <;> (fail_if_success (cases h; done)) <;> (try simp at h) <;> (try subst h)))
  · have hd : ¬(i : Int) < (init.length : Int) := by omega
    have hie : M.take i = M := List.take_of_length_le (by omega)
    rw [hie]
    refine aw_frz (.loc 1000) (by simp; exact rfl) ?_
    repeat' (first
      | exact aw_ret (ret_vals (by simp; exact rfl) (by simp [*]; fail_if_success (show _)))
      | exact aw_ret (ret_vals (by simp; exact rfl) (by simp [*]; omega))
      | refine ar_end rfl ?_
      | refine ar_endD rfl (by kernel_rfl) ?_
      | refine ar_fin rfl ?_
      | refine ar_finD rfl (by kernel_rfl) ?_
      | refine lq_exit ?_
      | refine ar_go3 _ rfl (by simp [ints_len, ints_getE, intsL_len, intsL_getE, hd]; exact ⟨rfl, rfl, rfl⟩) rfl ?_
      | refine aw_sregK 3 [1, 2, 3, 7, 8] ?_
      | refine aw_regK 3 [1, 2, 3, 7, 8] ?_
      | refine aw_sregK 9 [7] ?_
      | refine aw_regK 9 [7] ?_
      | refine aw_sreg ?_
      | refine aw_sregD mixed ?_
      | refine aw_ifT (b := true) rfl rfl ?_
      | refine aw_ifF (b := false) rfl rfl ?_
      | refine aw_ifT rfl (by assumption) ?_
      | refine aw_ifF rfl (by assumption) ?_
      | refine aw_ifT rfl (decide_eq_true (by assumption)) ?_
      | refine aw_ifF rfl (decide_eq_false (by assumption)) ?_
      | refine aw_seq ?_
      | refine aw_block ?_
      | refine aw_skip ?_
      | refine aw_region ?_
      | refine aw_region_draw mixed ?_
      | refine aw_exit ?_
      | refine rq_exit ?_
      | refine blockQ_hit ?_
      | refine blockQ_miss (by decide) ?_
      | (refine ar_guard rfl rfl rfl rfl (fun h => ?_) (fun h => ?_) <;> (fail_if_success (cases h; done)) <;> (try simp at h) <;> (try subst h))
      | (refine aw_both rfl (fun h => ?_) (fun h => ?_) <;> (fail_if_success (cases h; done)) <;> (try simp at h) <;> (try subst h)))
end Go.Eng
