import Derived.Test.YtclegllogeanlaaDerA
set_option linter.unusedSimpArgs false
set_option linter.unusedVariables false
set_option linter.constructorNameAsVariable false
set_option autoImplicit false
namespace Go.Eng
open Go Go.RowKit Go.Proofs
/-! ## Whence reads may read -/
def mayQ (x y : Ev) : Bool := decide (y.k = 2) && decide (y.l = x.l) && decide (y.v = x.v)
def initL (init : List Int) (x : Ev) : List Int := if 0 ≤ x.l ∧ x.l < init.length ∧ init.getD x.l.toNat 0 = x.v then [-1] else []
def mayX (es : List Ev) (init : List Int) (x : Ev) : List Int := initL init x ++ ((List.range es.length).filter (someE (mayQ x) es)).map fun (k : Nat) => (k : Int)
theorem initL_len (init : List Int) (x : Ev) : (initL init x).length ≤ 1 := by unfold initL; split <;> simp
theorem mayX_len (es : List Ev) (init : List Int) (x : Ev) : (mayX es init x).length ≤ es.length + 1 := by
  unfold mayX
  rw [List.length_append, List.length_map]
  have := initL_len init x
  have h := List.length_filter_le (someE (mayQ x) es) (List.range es.length)
  rw [List.length_range] at h
  omega
set_option maxHeartbeats 16000000 in
theorem c_may {es : List Ev} {init : List Int} {r : Nat} (hr : r < es.length) (hk1 : es[r].k = 1) (h32 : es.length ≤ 32) : SC Try.prog 92 [.agg (exL es), .pv (.sl 1 (ints init)), I .i64 r] (.pv (.sl 1 (ints (mayX es init es[r])))) := by
  have hr0 : ¬(r : Int) < 0 := by omega
  have hr1 : ¬(es.length : Int) ≤ (r : Int) := by omega
  have hqs : ∀ x, ∀ i, (hi : i < es.length) → someE (mayQ x) es i = mayQ x es[i] := fun x i hi => by unfold someE; rw [List.getElem?_eq_getElem hi]
  unfold mayX
  generalize hxr : es[r] = x at *
  have hqs := hqs x
  generalize someE (mayQ x) es = qs at *
  refine scx_of Try.func92 rfl rfl rfl (Nat.le_of_ble_eq_true rfl) ?_
  by_cases hA : 0 ≤ x.l
  · by_cases hB : x.l < (init.length : Int)
    · have hT : x.l.toNat < init.length := by omega
      by_cases hC : init[x.l.toNat] = x.v
      · have e : initL init x = [-1] := by unfold initL; rw [if_pos ⟨hA, hB, by rw [getD_in _ _ hT]; exact hC⟩]
        rw [e]
        repeat' (first
          | refine ar_end rfl ?_
          | refine ar_endD rfl (by kernel_rfl) ?_
          | refine ar_fin rfl ?_
          | refine ar_finD rfl (by kernel_rfl) ?_
          | refine ar_appN rfl rfl rfl rfl (by simp; exact rfl) (by simp; fail_if_success (show _)) (by simp; exact rfl) (by simp; exact rfl) (by simp; exact ⟨rfl, rfl⟩) (by simp; exact rfl) (by simp; done) (by decide) (by simp [maxLen]; try omega) ?_
          | refine ar_go3 _ rfl (by simp [evsL_len, evsL_getE, evL, prs_len, prs_getE, ints_len, ints_getE, intsL_len, intsL_getE, hr, hr0, hr1, hxr, hk1, hA, hB, hT, hC]; exact ⟨rfl, rfl, rfl⟩) rfl ?_
          | refine aw_sregK 0 [0, 1, 2] ?_
          | refine aw_regK 0 [0, 1, 2] ?_
          | refine aw_sregK 1 [1, 2, 3] ?_
          | refine aw_regK 1 [1, 2, 3] ?_
          | refine aw_sregK 2 [] ?_
          | refine aw_regK 2 [] ?_
          | refine aw_sregK 3 [1, 2, 3] ?_
          | refine aw_regK 3 [1, 2, 3] ?_
          | refine aw_sregK 4 [1, 3, 7] ?_
          | refine aw_regK 4 [1, 3, 7] ?_
          | refine aw_sregKD mixed 5 [1, 3, 7, 8] (by simp; exact rfl) ?_
          | refine aw_regKD mixed 5 [1, 3, 7, 8] (by simp; exact rfl) ?_
          | refine aw_sregK 6 [3, 7, 8] ?_
          | refine aw_regK 6 [3, 7, 8] ?_
          | refine aw_sregK 7 [3, 7, 8] ?_
          | refine aw_regK 7 [3, 7, 8] ?_
          | refine aw_sreg ?_
          | refine aw_sregD mixed ?_
          | refine aw_ifT (b := true) rfl rfl ?_
          | refine aw_ifF (b := false) rfl rfl ?_
          | refine aw_ifT rfl (by assumption) ?_
          | refine aw_ifF rfl (by assumption) ?_
          | refine aw_ifT rfl (decide_eq_true (by assumption)) ?_
          | refine aw_ifF rfl (decide_eq_false (by assumption)) ?_
          | refine aw_seq ?_
          | refine aw_block ?_
          | refine aw_skip ?_
          | refine aw_region ?_
          | refine aw_region_draw mixed ?_
          | refine aw_exit ?_
          | refine rq_exit ?_
          | refine blockQ_hit ?_
          | refine blockQ_miss (by decide) ?_
          | (refine ar_guard rfl rfl rfl rfl (fun h => ?_) (fun h => ?_) <;> (fail_if_success (cases h; done)) <;> (try simp at h) <;> (try subst h))
          | (refine aw_both rfl (fun h => ?_) (fun h => ?_) <;> (fail_if_success (cases h; done)) <;> (try simp at h) <;> (try subst h)))
        refine aw_ren (.loc 56) (.loc 1000) (by simp; exact rfl) ?_
        refine aw_loopN [7, 8, 58, 59, 60] [.loc 7, .loc 1000] (by simp; exact rfl) (ι := {i : Nat // i ≤ es.length}) (fun i => ⟨88, [(7, .ptr (.loc 7) 0), (8, .own (.loc 1000)), (58, .pv (.sl 7 (evsL es))), (59, I .i64 es.length), (60, I .i64 i.1)], [(.loc 7, some (.box 50 [I .i64 x.th, I .i64 x.k, I .i64 x.l, I .i64 x.v, B x.acq, B x.rel, B x.ex])), (.loc 1000, some (.own 3 1 (ints ([-1] ++ ((List.range i.1).filter qs).map fun (k : Nat) => (k : Int)))))]⟩) (fun i => es.length - i.1) ⟨0, by omega⟩ (by simp [ints, evsL_len, hk1]) ?_
        rintro ⟨i, hi⟩
        by_cases hlt : i < es.length
        · have hw : IntKind.wrap .i64 ((i : Int) + 1) = (i : Int) + 1 := wrap64s (by omega) (by omega)
          have hd : (i : Int) < (es.length : Int) := by omega
          have hfs := congrArg (List.map fun (k : Nat) => (k : Int)) (filter_range_succ qs i)
          have hqi := hqs i hlt
          rw [List.map_append] at hfs
          have hfl : (((List.range i).filter qs).map fun (k : Nat) => (k : Int)).length ≤ i := by simp; exact Nat.le_trans (List.length_filter_le _ _) (by simp)
          generalize hy : es[i] = y at hqi
          unfold mayQ at hqi
          rw [hqi] at hfs
          generalize ((List.range i).filter qs).map (fun (k : Nat) => (k : Int)) = F at *
          by_cases hk : y.k = 2
          · by_cases hl : y.l = x.l
            · by_cases hv : y.v = x.v
              · simp only [hk, hl, hv, decide_true, Bool.true_and, Bool.and_true, if_true, List.map_cons, List.map_nil] at hfs
                repeat' (first
                  | refine ar_end rfl ?_
                  | refine ar_endD rfl (by kernel_rfl) ?_
                  | refine ar_fin rfl ?_
                  | refine ar_finD rfl (by kernel_rfl) ?_
                  | refine ar_appO rfl rfl rfl rfl rfl (by simp; exact rfl) rfl (by simp; exact rfl) (by simp; exact rfl) (by simp; exact ⟨rfl, rfl⟩) rfl (by simp; exact rfl) (by simp; done) (by decide) (by simp [ints_len, maxLen]; try omega) ?_
                  | refine bq_norm ?_
                  | refine lq_normR (.loc 85) (.loc 1000) [7, 8, 58, 59, 60] [.loc 7, .loc 1000] (by simp; exact rfl) ⟨i + 1, by omega⟩ (by dsimp only; omega) (by rw [hfs, ← List.append_assoc, ints_app]; simp [ints])
                  | refine ar_go3 _ rfl (by simp [evsL_len, evsL_getE, evL, prs_len, prs_getE, hlt, hd, hy, hk, hl, hv, hw]; exact ⟨rfl, rfl, rfl⟩) rfl ?_
                  | refine aw_sregK 8 [7, 8, 58, 59, 60] ?_
                  | refine aw_regK 8 [7, 8, 58, 59, 60] ?_
                  | refine aw_sregK 9 [7, 8, 58, 59, 60] ?_
                  | refine aw_regK 9 [7, 8, 58, 59, 60] ?_
                  | refine aw_sregK 10 [7, 8, 9, 10, 58, 59, 60] ?_
                  | refine aw_regK 10 [7, 8, 9, 10, 58, 59, 60] ?_
                  | refine aw_sregK 11 [7, 8, 9, 58, 59, 60] ?_
                  | refine aw_regK 11 [7, 8, 9, 58, 59, 60] ?_
                  | refine aw_sregK 12 [7, 8, 58, 59, 60] ?_
                  | refine aw_regK 12 [7, 8, 58, 59, 60] ?_
                  | refine aw_sreg ?_
                  | refine aw_sregD mixed ?_
                  | refine aw_ifT (b := true) rfl rfl ?_
                  | refine aw_ifF (b := false) rfl rfl ?_
                  | refine aw_ifT rfl (by assumption) ?_
                  | refine aw_ifF rfl (by assumption) ?_
                  | refine aw_ifT rfl (decide_eq_true (by assumption)) ?_
                  | refine aw_ifF rfl (decide_eq_false (by assumption)) ?_
                  | refine aw_seq ?_
                  | refine aw_block ?_
                  | refine aw_skip ?_
                  | refine aw_region ?_
                  | refine aw_region_draw mixed ?_
                  | refine aw_exit ?_
                  | refine rq_exit ?_
                  | refine blockQ_hit ?_
                  | refine blockQ_miss (by decide) ?_
                  | (refine ar_guard rfl rfl rfl rfl (fun h => ?_) (fun h => ?_) <;> (fail_if_success (cases h; done)) <;> (try simp at h) <;> (try subst h))
                  | (refine aw_both rfl (fun h => ?_) (fun h => ?_) <;> (fail_if_success (cases h; done)) <;> (try simp at h) <;> (try subst h)))
              · simp only [hk, hl, hv, decide_true, decide_false, Bool.true_and, Bool.and_false, Bool.false_eq_true, if_false, List.map_nil, List.append_nil] at hfs
                repeat' (first
                  | refine ar_end rfl ?_
                  | refine ar_endD rfl (by kernel_rfl) ?_
                  | refine ar_fin rfl ?_
                  | refine ar_finD rfl (by kernel_rfl) ?_
                  | refine bq_norm ?_
                  | refine lq_normN [7, 8, 58, 59, 60] [.loc 7, .loc 1000] (by simp; exact rfl) ⟨i + 1, by omega⟩ (by dsimp only; omega) (by simp [hfs])
                  | refine ar_go3 _ rfl (by simp [evsL_len, evsL_getE, evL, prs_len, prs_getE, hlt, hd, hy, hk, hl, hv, hw]; exact ⟨rfl, rfl, rfl⟩) rfl ?_
                  | refine aw_sregK 8 [7, 8, 58, 59, 60] ?_
                  | refine aw_regK 8 [7, 8, 58, 59, 60] ?_
                  | refine aw_sregK 9 [7, 8, 58, 59, 60] ?_
                  | refine aw_regK 9 [7, 8, 58, 59, 60] ?_
                  | refine aw_sregK 10 [7, 8, 9, 10, 58, 59, 60] ?_
                  | refine aw_regK 10 [7, 8, 9, 10, 58, 59, 60] ?_
                  | refine aw_sregK 11 [7, 8, 9, 58, 59, 60] ?_
                  | refine aw_regK 11 [7, 8, 9, 58, 59, 60] ?_
                  | refine aw_sregK 12 [7, 8, 58, 59, 60] ?_
                  | refine aw_regK 12 [7, 8, 58, 59, 60] ?_
                  | refine aw_sreg ?_
                  | refine aw_sregD mixed ?_
                  | refine aw_ifT (b := true) rfl rfl ?_
                  | refine aw_ifF (b := false) rfl rfl ?_
                  | refine aw_ifT rfl (by assumption) ?_
                  | refine aw_ifF rfl (by assumption) ?_
                  | refine aw_ifT rfl (decide_eq_true (by assumption)) ?_
                  | refine aw_ifF rfl (decide_eq_false (by assumption)) ?_
                  | refine aw_seq ?_
                  | refine aw_block ?_
                  | refine aw_skip ?_
                  | refine aw_region ?_
                  | refine aw_region_draw mixed ?_
                  | refine aw_exit ?_
                  | refine rq_exit ?_
                  | refine blockQ_hit ?_
                  | refine blockQ_miss (by decide) ?_
                  | (refine ar_guard rfl rfl rfl rfl (fun h => ?_) (fun h => ?_) <;> (fail_if_success (cases h; done)) <;> (try simp at h) <;> (try subst h))
                  | (refine aw_both rfl (fun h => ?_) (fun h => ?_) <;> (fail_if_success (cases h; done)) <;> (try simp at h) <;> (try subst h)))
            · simp only [hk, hl, decide_true, decide_false, Bool.true_and, Bool.false_and, Bool.false_eq_true, if_false, List.map_nil, List.append_nil] at hfs
              repeat' (first
                | refine ar_end rfl ?_
                | refine ar_endD rfl (by kernel_rfl) ?_
                | refine ar_fin rfl ?_
                | refine ar_finD rfl (by kernel_rfl) ?_
                | refine bq_norm ?_
                | refine lq_normN [7, 8, 58, 59, 60] [.loc 7, .loc 1000] (by simp; exact rfl) ⟨i + 1, by omega⟩ (by dsimp only; omega) (by simp [hfs])
                | refine ar_go3 _ rfl (by simp [evsL_len, evsL_getE, evL, prs_len, prs_getE, hlt, hd, hy, hk, hl, hw]; exact ⟨rfl, rfl, rfl⟩) rfl ?_
                | refine aw_sregK 8 [7, 8, 58, 59, 60] ?_
                | refine aw_regK 8 [7, 8, 58, 59, 60] ?_
                | refine aw_sregK 9 [7, 8, 58, 59, 60] ?_
                | refine aw_regK 9 [7, 8, 58, 59, 60] ?_
                | refine aw_sregK 10 [7, 8, 9, 10, 58, 59, 60] ?_
                | refine aw_regK 10 [7, 8, 9, 10, 58, 59, 60] ?_
                | refine aw_sregK 11 [7, 8, 9, 58, 59, 60] ?_
                | refine aw_regK 11 [7, 8, 9, 58, 59, 60] ?_
                | refine aw_sregK 12 [7, 8, 58, 59, 60] ?_
                | refine aw_regK 12 [7, 8, 58, 59, 60] ?_
                | refine aw_sreg ?_
                | refine aw_sregD mixed ?_
                | refine aw_ifT (b := true) rfl rfl ?_
                | refine aw_ifF (b := false) rfl rfl ?_
                | refine aw_ifT rfl (by assumption) ?_
                | refine aw_ifF rfl (by assumption) ?_
                | refine aw_ifT rfl (decide_eq_true (by assumption)) ?_
                | refine aw_ifF rfl (decide_eq_false (by assumption)) ?_
                | refine aw_seq ?_
                | refine aw_block ?_
                | refine aw_skip ?_
                | refine aw_region ?_
                | refine aw_region_draw mixed ?_
                | refine aw_exit ?_
                | refine rq_exit ?_
                | refine blockQ_hit ?_
                | refine blockQ_miss (by decide) ?_
                | (refine ar_guard rfl rfl rfl rfl (fun h => ?_) (fun h => ?_) <;> (fail_if_success (cases h; done)) <;> (try simp at h) <;> (try subst h))
                | (refine aw_both rfl (fun h => ?_) (fun h => ?_) <;> (fail_if_success (cases h; done)) <;> (try simp at h) <;> (try subst h)))
          · simp only [hk, decide_false, Bool.false_and, Bool.false_eq_true, if_false, List.map_nil, List.append_nil] at hfs
            repeat' (first
              | refine ar_end rfl ?_
              | refine ar_endD rfl (by kernel_rfl) ?_
              | refine ar_fin rfl ?_
              | refine ar_finD rfl (by kernel_rfl) ?_
              | refine bq_norm ?_
              | refine lq_normN [7, 8, 58, 59, 60] [.loc 7, .loc 1000] (by simp; exact rfl) ⟨i + 1, by omega⟩ (by dsimp only; omega) (by simp [hfs])
              | refine ar_go3 _ rfl (by simp [evsL_len, evsL_getE, evL, prs_len, prs_getE, hlt, hd, hy, hk, hw]; exact ⟨rfl, rfl, rfl⟩) rfl ?_
              | refine aw_sregK 8 [7, 8, 58, 59, 60] ?_
              | refine aw_regK 8 [7, 8, 58, 59, 60] ?_
              | refine aw_sregK 9 [7, 8, 58, 59, 60] ?_
              | refine aw_regK 9 [7, 8, 58, 59, 60] ?_
              | refine aw_sregK 10 [7, 8, 9, 10, 58, 59, 60] ?_
              | refine aw_regK 10 [7, 8, 9, 10, 58, 59, 60] ?_
              | refine aw_sregK 11 [7, 8, 9, 58, 59, 60] ?_
              | refine aw_regK 11 [7, 8, 9, 58, 59, 60] ?_
              | refine aw_sregK 12 [7, 8, 58, 59, 60] ?_
              | refine aw_regK 12 [7, 8, 58, 59, 60] ?_
              | refine aw_sreg ?_
              | refine aw_sregD mixed ?_
              | refine aw_ifT (b := true) rfl rfl ?_
              | refine aw_ifF (b := false) rfl rfl ?_
              | refine aw_ifT rfl (by assumption) ?_
              | refine aw_ifF rfl (by assumption) ?_
              | refine aw_ifT rfl (decide_eq_true (by assumption)) ?_
              | refine aw_ifF rfl (decide_eq_false (by assumption)) ?_
              | refine aw_seq ?_
              | refine aw_block ?_
              | refine aw_skip ?_
              | refine aw_region ?_
              | refine aw_region_draw mixed ?_
              | refine aw_exit ?_
              | refine rq_exit ?_
              | refine blockQ_hit ?_
              | refine blockQ_miss (by decide) ?_
              | (refine ar_guard rfl rfl rfl rfl (fun h => ?_) (fun h => ?_) <;> (fail_if_success (cases h; done)) <;> (try simp at h) <;> (try subst h))
              | (refine aw_both rfl (fun h => ?_) (fun h => ?_) <;> (fail_if_success (cases h; done)) <;> (try simp at h) <;> (try subst h)))
        · have hd : ¬(i : Int) < (es.length : Int) := by omega
          have hie : i = es.length := by omega
          subst hie
          refine aw_frz (.loc 1000) (by simp; exact rfl) ?_
          repeat' (first
            | exact aw_ret (ret_vals (by simp; exact rfl) (by simp [*]; fail_if_success (show _)))
            | exact aw_ret (ret_vals (by simp; exact rfl) (by simp [*]; omega))
            | refine ar_end rfl ?_
            | refine ar_endD rfl (by kernel_rfl) ?_
            | refine ar_fin rfl ?_
            | refine ar_finD rfl (by kernel_rfl) ?_
            | refine lq_exit ?_
            | refine ar_go3 _ rfl (by simp [evsL_len, evsL_getE, evL, prs_len, prs_getE, hd]; exact ⟨rfl, rfl, rfl⟩) rfl ?_
            | refine aw_sregK 8 [7, 8, 58, 59, 60] ?_
            | refine aw_regK 8 [7, 8, 58, 59, 60] ?_
            | refine aw_sregK 13 [8] ?_
            | refine aw_regK 13 [8] ?_
            | refine aw_sreg ?_
            | refine aw_sregD mixed ?_
            | refine aw_ifT (b := true) rfl rfl ?_
            | refine aw_ifF (b := false) rfl rfl ?_
            | refine aw_ifT rfl (by assumption) ?_
            | refine aw_ifF rfl (by assumption) ?_
            | refine aw_ifT rfl (decide_eq_true (by assumption)) ?_
            | refine aw_ifF rfl (decide_eq_false (by assumption)) ?_
            | refine aw_seq ?_
            | refine aw_block ?_
            | refine aw_skip ?_
            | refine aw_region ?_
            | refine aw_region_draw mixed ?_
            | refine aw_exit ?_
            | refine rq_exit ?_
            | refine blockQ_hit ?_
            | refine blockQ_miss (by decide) ?_
            | (refine ar_guard rfl rfl rfl rfl (fun h => ?_) (fun h => ?_) <;> (fail_if_success (cases h; done)) <;> (try simp at h) <;> (try subst h))
            | (refine aw_both rfl (fun h => ?_) (fun h => ?_) <;> (fail_if_success (cases h; done)) <;> (try simp at h) <;> (try subst h)))
      · have e : initL init x = ([] : List Int) := by unfold initL; rw [if_neg (fun h => hC (by have := h.2.2; rw [getD_in _ _ hT] at this; exact this))]
        rw [e]
        repeat' (first
          | refine ar_end rfl ?_
          | refine ar_endD rfl (by kernel_rfl) ?_
          | refine ar_fin rfl ?_
          | refine ar_finD rfl (by kernel_rfl) ?_
          | refine ar_appN rfl rfl rfl rfl (by simp; exact rfl) (by simp; fail_if_success (show _)) (by simp; exact rfl) (by simp; exact rfl) (by simp; exact ⟨rfl, rfl⟩) (by simp; exact rfl) (by simp; done) (by decide) (by simp [maxLen]; try omega) ?_
          | refine ar_go3 _ rfl (by simp [evsL_len, evsL_getE, evL, prs_len, prs_getE, ints_len, ints_getE, intsL_len, intsL_getE, hr, hr0, hr1, hxr, hk1, hA, hB, hT, hC]; exact ⟨rfl, rfl, rfl⟩) rfl ?_
          | refine aw_sregK 0 [0, 1, 2] ?_
          | refine aw_regK 0 [0, 1, 2] ?_
          | refine aw_sregK 1 [1, 2, 3] ?_
          | refine aw_regK 1 [1, 2, 3] ?_
          | refine aw_sregK 2 [] ?_
          | refine aw_regK 2 [] ?_
          | refine aw_sregK 3 [1, 2, 3] ?_
          | refine aw_regK 3 [1, 2, 3] ?_
          | refine aw_sregK 4 [1, 3, 7] ?_
          | refine aw_regK 4 [1, 3, 7] ?_
          | refine aw_sregKD mixed 5 [1, 3, 7, 8] (by simp; exact rfl) ?_
          | refine aw_regKD mixed 5 [1, 3, 7, 8] (by simp; exact rfl) ?_
          | refine aw_sregK 6 [3, 7, 8] ?_
          | refine aw_regK 6 [3, 7, 8] ?_
          | refine aw_sregK 7 [3, 7, 8] ?_
          | refine aw_regK 7 [3, 7, 8] ?_
          | refine aw_sreg ?_
          | refine aw_sregD mixed ?_
          | refine aw_ifT (b := true) rfl rfl ?_
          | refine aw_ifF (b := false) rfl rfl ?_
          | refine aw_ifT rfl (by assumption) ?_
          | refine aw_ifF rfl (by assumption) ?_
          | refine aw_ifT rfl (decide_eq_true (by assumption)) ?_
          | refine aw_ifF rfl (decide_eq_false (by assumption)) ?_
          | refine aw_seq ?_
          | refine aw_block ?_
          | refine aw_skip ?_
          | refine aw_region ?_
          | refine aw_region_draw mixed ?_
          | refine aw_exit ?_
          | refine rq_exit ?_
          | refine blockQ_hit ?_
          | refine blockQ_miss (by decide) ?_
          | (refine ar_guard rfl rfl rfl rfl (fun h => ?_) (fun h => ?_) <;> (fail_if_success (cases h; done)) <;> (try simp at h) <;> (try subst h))
          | (refine aw_both rfl (fun h => ?_) (fun h => ?_) <;> (fail_if_success (cases h; done)) <;> (try simp at h) <;> (try subst h)))
        refine aw_nil 8 (.loc 1000) 3 1 (by simp; exact rfl) ?_
        refine aw_loopN [7, 8, 58, 59, 60] [.loc 7, .loc 1000] (by simp; exact rfl) (ι := {i : Nat // i ≤ es.length}) (fun i => ⟨88, [(7, .ptr (.loc 7) 0), (8, .own (.loc 1000)), (58, .pv (.sl 7 (evsL es))), (59, I .i64 es.length), (60, I .i64 i.1)], [(.loc 7, some (.box 50 [I .i64 x.th, I .i64 x.k, I .i64 x.l, I .i64 x.v, B x.acq, B x.rel, B x.ex])), (.loc 1000, some (.own 3 1 (ints (([] : List Int) ++ ((List.range i.1).filter qs).map fun (k : Nat) => (k : Int)))))]⟩) (fun i => es.length - i.1) ⟨0, by omega⟩ (by simp [ints, evsL_len, hk1]) ?_
        rintro ⟨i, hi⟩
        by_cases hlt : i < es.length
        · have hw : IntKind.wrap .i64 ((i : Int) + 1) = (i : Int) + 1 := wrap64s (by omega) (by omega)
          have hd : (i : Int) < (es.length : Int) := by omega
          have hfs := congrArg (List.map fun (k : Nat) => (k : Int)) (filter_range_succ qs i)
          have hqi := hqs i hlt
          rw [List.map_append] at hfs
          have hfl : (((List.range i).filter qs).map fun (k : Nat) => (k : Int)).length ≤ i := by simp; exact Nat.le_trans (List.length_filter_le _ _) (by simp)
          generalize hy : es[i] = y at hqi
          unfold mayQ at hqi
          rw [hqi] at hfs
          generalize ((List.range i).filter qs).map (fun (k : Nat) => (k : Int)) = F at *
          by_cases hk : y.k = 2
          · by_cases hl : y.l = x.l
            · by_cases hv : y.v = x.v
              · simp only [hk, hl, hv, decide_true, Bool.true_and, Bool.and_true, if_true, List.map_cons, List.map_nil] at hfs
                repeat' (first
                  | refine ar_end rfl ?_
                  | refine ar_endD rfl (by kernel_rfl) ?_
                  | refine ar_fin rfl ?_
                  | refine ar_finD rfl (by kernel_rfl) ?_
                  | refine ar_appO rfl rfl rfl rfl rfl (by simp; exact rfl) rfl (by simp; exact rfl) (by simp; exact rfl) (by simp; exact ⟨rfl, rfl⟩) rfl (by simp; exact rfl) (by simp; done) (by decide) (by simp [ints_len, maxLen]; try omega) ?_
                  | refine bq_norm ?_
                  | refine lq_normR (.loc 85) (.loc 1000) [7, 8, 58, 59, 60] [.loc 7, .loc 1000] (by simp; exact rfl) ⟨i + 1, by omega⟩ (by dsimp only; omega) (by rw [hfs, ← List.append_assoc, ints_app]; simp [ints])
                  | refine ar_go3 _ rfl (by simp [evsL_len, evsL_getE, evL, prs_len, prs_getE, hlt, hd, hy, hk, hl, hv, hw]; exact ⟨rfl, rfl, rfl⟩) rfl ?_
                  | refine aw_sregK 8 [7, 8, 58, 59, 60] ?_
                  | refine aw_regK 8 [7, 8, 58, 59, 60] ?_
                  | refine aw_sregK 9 [7, 8, 58, 59, 60] ?_
                  | refine aw_regK 9 [7, 8, 58, 59, 60] ?_
                  | refine aw_sregK 10 [7, 8, 9, 10, 58, 59, 60] ?_
                  | refine aw_regK 10 [7, 8, 9, 10, 58, 59, 60] ?_
                  | refine aw_sregK 11 [7, 8, 9, 58, 59, 60] ?_
                  | refine aw_regK 11 [7, 8, 9, 58, 59, 60] ?_
                  | refine aw_sregK 12 [7, 8, 58, 59, 60] ?_
                  | refine aw_regK 12 [7, 8, 58, 59, 60] ?_
                  | refine aw_sreg ?_
                  | refine aw_sregD mixed ?_
                  | refine aw_ifT (b := true) rfl rfl ?_
                  | refine aw_ifF (b := false) rfl rfl ?_
                  | refine aw_ifT rfl (by assumption) ?_
                  | refine aw_ifF rfl (by assumption) ?_
                  | refine aw_ifT rfl (decide_eq_true (by assumption)) ?_
                  | refine aw_ifF rfl (decide_eq_false (by assumption)) ?_
                  | refine aw_seq ?_
                  | refine aw_block ?_
                  | refine aw_skip ?_
                  | refine aw_region ?_
                  | refine aw_region_draw mixed ?_
                  | refine aw_exit ?_
                  | refine rq_exit ?_
                  | refine blockQ_hit ?_
                  | refine blockQ_miss (by decide) ?_
                  | (refine ar_guard rfl rfl rfl rfl (fun h => ?_) (fun h => ?_) <;> (fail_if_success (cases h; done)) <;> (try simp at h) <;> (try subst h))
                  | (refine aw_both rfl (fun h => ?_) (fun h => ?_) <;> (fail_if_success (cases h; done)) <;> (try simp at h) <;> (try subst h)))
              · simp only [hk, hl, hv, decide_true, decide_false, Bool.true_and, Bool.and_false, Bool.false_eq_true, if_false, List.map_nil, List.append_nil] at hfs
                repeat' (first
                  | refine ar_end rfl ?_
                  | refine ar_endD rfl (by kernel_rfl) ?_
                  | refine ar_fin rfl ?_
                  | refine ar_finD rfl (by kernel_rfl) ?_
                  | refine bq_norm ?_
                  | refine lq_normN [7, 8, 58, 59, 60] [.loc 7, .loc 1000] (by simp; exact rfl) ⟨i + 1, by omega⟩ (by dsimp only; omega) (by simp [hfs])
                  | refine ar_go3 _ rfl (by simp [evsL_len, evsL_getE, evL, prs_len, prs_getE, hlt, hd, hy, hk, hl, hv, hw]; exact ⟨rfl, rfl, rfl⟩) rfl ?_
                  | refine aw_sregK 8 [7, 8, 58, 59, 60] ?_
                  | refine aw_regK 8 [7, 8, 58, 59, 60] ?_
                  | refine aw_sregK 9 [7, 8, 58, 59, 60] ?_
                  | refine aw_regK 9 [7, 8, 58, 59, 60] ?_
                  | refine aw_sregK 10 [7, 8, 9, 10, 58, 59, 60] ?_
                  | refine aw_regK 10 [7, 8, 9, 10, 58, 59, 60] ?_
                  | refine aw_sregK 11 [7, 8, 9, 58, 59, 60] ?_
                  | refine aw_regK 11 [7, 8, 9, 58, 59, 60] ?_
                  | refine aw_sregK 12 [7, 8, 58, 59, 60] ?_
                  | refine aw_regK 12 [7, 8, 58, 59, 60] ?_
                  | refine aw_sreg ?_
                  | refine aw_sregD mixed ?_
                  | refine aw_ifT (b := true) rfl rfl ?_
                  | refine aw_ifF (b := false) rfl rfl ?_
                  | refine aw_ifT rfl (by assumption) ?_
                  | refine aw_ifF rfl (by assumption) ?_
                  | refine aw_ifT rfl (decide_eq_true (by assumption)) ?_
                  | refine aw_ifF rfl (decide_eq_false (by assumption)) ?_
                  | refine aw_seq ?_
                  | refine aw_block ?_
                  | refine aw_skip ?_
                  | refine aw_region ?_
                  | refine aw_region_draw mixed ?_
                  | refine aw_exit ?_
                  | refine rq_exit ?_
                  | refine blockQ_hit ?_
                  | refine blockQ_miss (by decide) ?_
                  | (refine ar_guard rfl rfl rfl rfl (fun h => ?_) (fun h => ?_) <;> (fail_if_success (cases h; done)) <;> (try simp at h) <;> (try subst h))
                  | (refine aw_both rfl (fun h => ?_) (fun h => ?_) <;> (fail_if_success (cases h; done)) <;> (try simp at h) <;> (try subst h)))
            · simp only [hk, hl, decide_true, decide_false, Bool.true_and, Bool.false_and, Bool.false_eq_true, if_false, List.map_nil, List.append_nil] at hfs
              repeat' (first
                | refine ar_end rfl ?_
                | refine ar_endD rfl (by kernel_rfl) ?_
                | refine ar_fin rfl ?_
                | refine ar_finD rfl (by kernel_rfl) ?_
                | refine bq_norm ?_
                | refine lq_normN [7, 8, 58, 59, 60] [.loc 7, .loc 1000] (by simp; exact rfl) ⟨i + 1, by omega⟩ (by dsimp only; omega) (by simp [hfs])
                | refine ar_go3 _ rfl (by simp [evsL_len, evsL_getE, evL, prs_len, prs_getE, hlt, hd, hy, hk, hl, hw]; exact ⟨rfl, rfl, rfl⟩) rfl ?_
                | refine aw_sregK 8 [7, 8, 58, 59, 60] ?_
                | refine aw_regK 8 [7, 8, 58, 59, 60] ?_
                | refine aw_sregK 9 [7, 8, 58, 59, 60] ?_
                | refine aw_regK 9 [7, 8, 58, 59, 60] ?_
                | refine aw_sregK 10 [7, 8, 9, 10, 58, 59, 60] ?_
                | refine aw_regK 10 [7, 8, 9, 10, 58, 59, 60] ?_
                | refine aw_sregK 11 [7, 8, 9, 58, 59, 60] ?_
                | refine aw_regK 11 [7, 8, 9, 58, 59, 60] ?_
                | refine aw_sregK 12 [7, 8, 58, 59, 60] ?_
                | refine aw_regK 12 [7, 8, 58, 59, 60] ?_
                | refine aw_sreg ?_
                | refine aw_sregD mixed ?_
                | refine aw_ifT (b := true) rfl rfl ?_
                | refine aw_ifF (b := false) rfl rfl ?_
                | refine aw_ifT rfl (by assumption) ?_
                | refine aw_ifF rfl (by assumption) ?_
                | refine aw_ifT rfl (decide_eq_true (by assumption)) ?_
                | refine aw_ifF rfl (decide_eq_false (by assumption)) ?_
                | refine aw_seq ?_
                | refine aw_block ?_
                | refine aw_skip ?_
                | refine aw_region ?_
                | refine aw_region_draw mixed ?_
                | refine aw_exit ?_
                | refine rq_exit ?_
                | refine blockQ_hit ?_
                | refine blockQ_miss (by decide) ?_
                | (refine ar_guard rfl rfl rfl rfl (fun h => ?_) (fun h => ?_) <;> (fail_if_success (cases h; done)) <;> (try simp at h) <;> (try subst h))
                | (refine aw_both rfl (fun h => ?_) (fun h => ?_) <;> (fail_if_success (cases h; done)) <;> (try simp at h) <;> (try subst h)))
          · simp only [hk, decide_false, Bool.false_and, Bool.false_eq_true, if_false, List.map_nil, List.append_nil] at hfs
            repeat' (first
              | refine ar_end rfl ?_
              | refine ar_endD rfl (by kernel_rfl) ?_
              | refine ar_fin rfl ?_
              | refine ar_finD rfl (by kernel_rfl) ?_
              | refine bq_norm ?_
              | refine lq_normN [7, 8, 58, 59, 60] [.loc 7, .loc 1000] (by simp; exact rfl) ⟨i + 1, by omega⟩ (by dsimp only; omega) (by simp [hfs])
              | refine ar_go3 _ rfl (by simp [evsL_len, evsL_getE, evL, prs_len, prs_getE, hlt, hd, hy, hk, hw]; exact ⟨rfl, rfl, rfl⟩) rfl ?_
              | refine aw_sregK 8 [7, 8, 58, 59, 60] ?_
              | refine aw_regK 8 [7, 8, 58, 59, 60] ?_
              | refine aw_sregK 9 [7, 8, 58, 59, 60] ?_
              | refine aw_regK 9 [7, 8, 58, 59, 60] ?_
              | refine aw_sregK 10 [7, 8, 9, 10, 58, 59, 60] ?_
              | refine aw_regK 10 [7, 8, 9, 10, 58, 59, 60] ?_
              | refine aw_sregK 11 [7, 8, 9, 58, 59, 60] ?_
              | refine aw_regK 11 [7, 8, 9, 58, 59, 60] ?_
              | refine aw_sregK 12 [7, 8, 58, 59, 60] ?_
              | refine aw_regK 12 [7, 8, 58, 59, 60] ?_
              | refine aw_sreg ?_
              | refine aw_sregD mixed ?_
              | refine aw_ifT (b := true) rfl rfl ?_
              | refine aw_ifF (b := false) rfl rfl ?_
              | refine aw_ifT rfl (by assumption) ?_
              | refine aw_ifF rfl (by assumption) ?_
              | refine aw_ifT rfl (decide_eq_true (by assumption)) ?_
              | refine aw_ifF rfl (decide_eq_false (by assumption)) ?_
              | refine aw_seq ?_
              | refine aw_block ?_
              | refine aw_skip ?_
              | refine aw_region ?_
              | refine aw_region_draw mixed ?_
              | refine aw_exit ?_
              | refine rq_exit ?_
              | refine blockQ_hit ?_
              | refine blockQ_miss (by decide) ?_
              | (refine ar_guard rfl rfl rfl rfl (fun h => ?_) (fun h => ?_) <;> (fail_if_success (cases h; done)) <;> (try simp at h) <;> (try subst h))
              | (refine aw_both rfl (fun h => ?_) (fun h => ?_) <;> (fail_if_success (cases h; done)) <;> (try simp at h) <;> (try subst h)))
        · have hd : ¬(i : Int) < (es.length : Int) := by omega
          have hie : i = es.length := by omega
          subst hie
          refine aw_frz (.loc 1000) (by simp; exact rfl) ?_
          repeat' (first
            | exact aw_ret (ret_vals (by simp; exact rfl) (by simp [*]; fail_if_success (show _)))
            | exact aw_ret (ret_vals (by simp; exact rfl) (by simp [*]; omega))
            | refine ar_end rfl ?_
            | refine ar_endD rfl (by kernel_rfl) ?_
            | refine ar_fin rfl ?_
            | refine ar_finD rfl (by kernel_rfl) ?_
            | refine lq_exit ?_
            | refine ar_go3 _ rfl (by simp [evsL_len, evsL_getE, evL, prs_len, prs_getE, hd]; exact ⟨rfl, rfl, rfl⟩) rfl ?_
            | refine aw_sregK 8 [7, 8, 58, 59, 60] ?_
            | refine aw_regK 8 [7, 8, 58, 59, 60] ?_
            | refine aw_sregK 13 [8] ?_
            | refine aw_regK 13 [8] ?_
            | refine aw_sreg ?_
            | refine aw_sregD mixed ?_
            | refine aw_ifT (b := true) rfl rfl ?_
            | refine aw_ifF (b := false) rfl rfl ?_
            | refine aw_ifT rfl (by assumption) ?_
            | refine aw_ifF rfl (by assumption) ?_
            | refine aw_ifT rfl (decide_eq_true (by assumption)) ?_
            | refine aw_ifF rfl (decide_eq_false (by assumption)) ?_
            | refine aw_seq ?_
            | refine aw_block ?_
            | refine aw_skip ?_
            | refine aw_region ?_
            | refine aw_region_draw mixed ?_
            | refine aw_exit ?_
            | refine rq_exit ?_
            | refine blockQ_hit ?_
            | refine blockQ_miss (by decide) ?_
            | (refine ar_guard rfl rfl rfl rfl (fun h => ?_) (fun h => ?_) <;> (fail_if_success (cases h; done)) <;> (try simp at h) <;> (try subst h))
            | (refine aw_both rfl (fun h => ?_) (fun h => ?_) <;> (fail_if_success (cases h; done)) <;> (try simp at h) <;> (try subst h)))
    · have e : initL init x = ([] : List Int) := by unfold initL; rw [if_neg (fun h => hB h.2.1)]
      rw [e]
      repeat' (first
        | refine ar_end rfl ?_
        | refine ar_endD rfl (by kernel_rfl) ?_
        | refine ar_fin rfl ?_
        | refine ar_finD rfl (by kernel_rfl) ?_
        | refine ar_appN rfl rfl rfl rfl (by simp; exact rfl) (by simp; fail_if_success (show _)) (by simp; exact rfl) (by simp; exact rfl) (by simp; exact ⟨rfl, rfl⟩) (by simp; exact rfl) (by simp; done) (by decide) (by simp [maxLen]; try omega) ?_
        | refine ar_go3 _ rfl (by simp [evsL_len, evsL_getE, evL, prs_len, prs_getE, ints_len, ints_getE, intsL_len, intsL_getE, hr, hr0, hr1, hxr, hk1, hA, hB]; exact ⟨rfl, rfl, rfl⟩) rfl ?_
        | refine aw_sregK 0 [0, 1, 2] ?_
        | refine aw_regK 0 [0, 1, 2] ?_
        | refine aw_sregK 1 [1, 2, 3] ?_
        | refine aw_regK 1 [1, 2, 3] ?_
        | refine aw_sregK 2 [] ?_
        | refine aw_regK 2 [] ?_
        | refine aw_sregK 3 [1, 2, 3] ?_
        | refine aw_regK 3 [1, 2, 3] ?_
        | refine aw_sregK 4 [1, 3, 7] ?_
        | refine aw_regK 4 [1, 3, 7] ?_
        | refine aw_sregKD mixed 5 [1, 3, 7, 8] (by simp; exact rfl) ?_
        | refine aw_regKD mixed 5 [1, 3, 7, 8] (by simp; exact rfl) ?_
        | refine aw_sregK 6 [3, 7, 8] ?_
        | refine aw_regK 6 [3, 7, 8] ?_
        | refine aw_sregK 7 [3, 7, 8] ?_
        | refine aw_regK 7 [3, 7, 8] ?_
        | refine aw_sreg ?_
        | refine aw_sregD mixed ?_
        | refine aw_ifT (b := true) rfl rfl ?_
        | refine aw_ifF (b := false) rfl rfl ?_
        | refine aw_ifT rfl (by assumption) ?_
        | refine aw_ifF rfl (by assumption) ?_
        | refine aw_ifT rfl (decide_eq_true (by assumption)) ?_
        | refine aw_ifF rfl (decide_eq_false (by assumption)) ?_
        | refine aw_seq ?_
        | refine aw_block ?_
        | refine aw_skip ?_
        | refine aw_region ?_
        | refine aw_region_draw mixed ?_
        | refine aw_exit ?_
        | refine rq_exit ?_
        | refine blockQ_hit ?_
        | refine blockQ_miss (by decide) ?_
        | (refine ar_guard rfl rfl rfl rfl (fun h => ?_) (fun h => ?_) <;> (fail_if_success (cases h; done)) <;> (try simp at h) <;> (try subst h))
        | (refine aw_both rfl (fun h => ?_) (fun h => ?_) <;> (fail_if_success (cases h; done)) <;> (try simp at h) <;> (try subst h)))
      refine aw_nil 8 (.loc 1000) 3 1 (by simp; exact rfl) ?_
      refine aw_loopN [7, 8, 58, 59, 60] [.loc 7, .loc 1000] (by simp; exact rfl) (ι := {i : Nat // i ≤ es.length}) (fun i => ⟨88, [(7, .ptr (.loc 7) 0), (8, .own (.loc 1000)), (58, .pv (.sl 7 (evsL es))), (59, I .i64 es.length), (60, I .i64 i.1)], [(.loc 7, some (.box 50 [I .i64 x.th, I .i64 x.k, I .i64 x.l, I .i64 x.v, B x.acq, B x.rel, B x.ex])), (.loc 1000, some (.own 3 1 (ints (([] : List Int) ++ ((List.range i.1).filter qs).map fun (k : Nat) => (k : Int)))))]⟩) (fun i => es.length - i.1) ⟨0, by omega⟩ (by simp [ints, evsL_len, hk1]) ?_
      rintro ⟨i, hi⟩
      by_cases hlt : i < es.length
      · have hw : IntKind.wrap .i64 ((i : Int) + 1) = (i : Int) + 1 := wrap64s (by omega) (by omega)
        have hd : (i : Int) < (es.length : Int) := by omega
        have hfs := congrArg (List.map fun (k : Nat) => (k : Int)) (filter_range_succ qs i)
        have hqi := hqs i hlt
        rw [List.map_append] at hfs
        have hfl : (((List.range i).filter qs).map fun (k : Nat) => (k : Int)).length ≤ i := by simp; exact Nat.le_trans (List.length_filter_le _ _) (by simp)
        generalize hy : es[i] = y at hqi
        unfold mayQ at hqi
        rw [hqi] at hfs
        generalize ((List.range i).filter qs).map (fun (k : Nat) => (k : Int)) = F at *
        by_cases hk : y.k = 2
        · by_cases hl : y.l = x.l
          · by_cases hv : y.v = x.v
            · simp only [hk, hl, hv, decide_true, Bool.true_and, Bool.and_true, if_true, List.map_cons, List.map_nil] at hfs
              repeat' (first
                | refine ar_end rfl ?_
                | refine ar_endD rfl (by kernel_rfl) ?_
                | refine ar_fin rfl ?_
                | refine ar_finD rfl (by kernel_rfl) ?_
                | refine ar_appO rfl rfl rfl rfl rfl (by simp; exact rfl) rfl (by simp; exact rfl) (by simp; exact rfl) (by simp; exact ⟨rfl, rfl⟩) rfl (by simp; exact rfl) (by simp; done) (by decide) (by simp [ints_len, maxLen]; try omega) ?_
                | refine bq_norm ?_
                | refine lq_normR (.loc 85) (.loc 1000) [7, 8, 58, 59, 60] [.loc 7, .loc 1000] (by simp; exact rfl) ⟨i + 1, by omega⟩ (by dsimp only; omega) (by rw [hfs, ← List.append_assoc, ints_app]; simp [ints])
                | refine ar_go3 _ rfl (by simp [evsL_len, evsL_getE, evL, prs_len, prs_getE, hlt, hd, hy, hk, hl, hv, hw]; exact ⟨rfl, rfl, rfl⟩) rfl ?_
                | refine aw_sregK 8 [7, 8, 58, 59, 60] ?_
                | refine aw_regK 8 [7, 8, 58, 59, 60] ?_
                | refine aw_sregK 9 [7, 8, 58, 59, 60] ?_
                | refine aw_regK 9 [7, 8, 58, 59, 60] ?_
                | refine aw_sregK 10 [7, 8, 9, 10, 58, 59, 60] ?_
                | refine aw_regK 10 [7, 8, 9, 10, 58, 59, 60] ?_
                | refine aw_sregK 11 [7, 8, 9, 58, 59, 60] ?_
                | refine aw_regK 11 [7, 8, 9, 58, 59, 60] ?_
                | refine aw_sregK 12 [7, 8, 58, 59, 60] ?_
                | refine aw_regK 12 [7, 8, 58, 59, 60] ?_
                | refine aw_sreg ?_
                | refine aw_sregD mixed ?_
                | refine aw_ifT (b := true) rfl rfl ?_
                | refine aw_ifF (b := false) rfl rfl ?_
                | refine aw_ifT rfl (by assumption) ?_
                | refine aw_ifF rfl (by assumption) ?_
                | refine aw_ifT rfl (decide_eq_true (by assumption)) ?_
                | refine aw_ifF rfl (decide_eq_false (by assumption)) ?_
                | refine aw_seq ?_
                | refine aw_block ?_
                | refine aw_skip ?_
                | refine aw_region ?_
                | refine aw_region_draw mixed ?_
                | refine aw_exit ?_
                | refine rq_exit ?_
                | refine blockQ_hit ?_
                | refine blockQ_miss (by decide) ?_
                | (refine ar_guard rfl rfl rfl rfl (fun h => ?_) (fun h => ?_) <;> (fail_if_success (cases h; done)) <;> (try simp at h) <;> (try subst h))
                | (refine aw_both rfl (fun h => ?_) (fun h => ?_) <;> (fail_if_success (cases h; done)) <;> (try simp at h) <;> (try subst h)))
            · simp only [hk, hl, hv, decide_true, decide_false, Bool.true_and, Bool.and_false, Bool.false_eq_true, if_false, List.map_nil, List.append_nil] at hfs
              repeat' (first
                | refine ar_end rfl ?_
                | refine ar_endD rfl (by kernel_rfl) ?_
                | refine ar_fin rfl ?_
                | refine ar_finD rfl (by kernel_rfl) ?_
                | refine bq_norm ?_
                | refine lq_normN [7, 8, 58, 59, 60] [.loc 7, .loc 1000] (by simp; exact rfl) ⟨i + 1, by omega⟩ (by dsimp only; omega) (by simp [hfs])
                | refine ar_go3 _ rfl (by simp [evsL_len, evsL_getE, evL, prs_len, prs_getE, hlt, hd, hy, hk, hl, hv, hw]; exact ⟨rfl, rfl, rfl⟩) rfl ?_
                | refine aw_sregK 8 [7, 8, 58, 59, 60] ?_
                | refine aw_regK 8 [7, 8, 58, 59, 60] ?_
                | refine aw_sregK 9 [7, 8, 58, 59, 60] ?_
                | refine aw_regK 9 [7, 8, 58, 59, 60] ?_
                | refine aw_sregK 10 [7, 8, 9, 10, 58, 59, 60] ?_
                | refine aw_regK 10 [7, 8, 9, 10, 58, 59, 60] ?_
                | refine aw_sregK 11 [7, 8, 9, 58, 59, 60] ?_
                | refine aw_regK 11 [7, 8, 9, 58, 59, 60] ?_
                | refine aw_sregK 12 [7, 8, 58, 59, 60] ?_
                | refine aw_regK 12 [7, 8, 58, 59, 60] ?_
                | refine aw_sreg ?_
                | refine aw_sregD mixed ?_
                | refine aw_ifT (b := true) rfl rfl ?_
                | refine aw_ifF (b := false) rfl rfl ?_
                | refine aw_ifT rfl (by assumption) ?_
                | refine aw_ifF rfl (by assumption) ?_
                | refine aw_ifT rfl (decide_eq_true (by assumption)) ?_
                | refine aw_ifF rfl (decide_eq_false (by assumption)) ?_
                | refine aw_seq ?_
                | refine aw_block ?_
                | refine aw_skip ?_
                | refine aw_region ?_
                | refine aw_region_draw mixed ?_
                | refine aw_exit ?_
                | refine rq_exit ?_
                | refine blockQ_hit ?_
                | refine blockQ_miss (by decide) ?_
                | (refine ar_guard rfl rfl rfl rfl (fun h => ?_) (fun h => ?_) <;> (fail_if_success (cases h; done)) <;> (try simp at h) <;> (try subst h))
                | (refine aw_both rfl (fun h => ?_) (fun h => ?_) <;> (fail_if_success (cases h; done)) <;> (try simp at h) <;> (try subst h)))
          · simp only [hk, hl, decide_true, decide_false, Bool.true_and, Bool.false_and, Bool.false_eq_true, if_false, List.map_nil, List.append_nil] at hfs
            repeat' (first
              | refine ar_end rfl ?_
              | refine ar_endD rfl (by kernel_rfl) ?_
              | refine ar_fin rfl ?_
              | refine ar_finD rfl (by kernel_rfl) ?_
              | refine bq_norm ?_
              | refine lq_normN [7, 8, 58, 59, 60] [.loc 7, .loc 1000] (by simp; exact rfl) ⟨i + 1, by omega⟩ (by dsimp only; omega) (by simp [hfs])
              | refine ar_go3 _ rfl (by simp [evsL_len, evsL_getE, evL, prs_len, prs_getE, hlt, hd, hy, hk, hl, hw]; exact ⟨rfl, rfl, rfl⟩) rfl ?_
              | refine aw_sregK 8 [7, 8, 58, 59, 60] ?_
              | refine aw_regK 8 [7, 8, 58, 59, 60] ?_
              | refine aw_sregK 9 [7, 8, 58, 59, 60] ?_
              | refine aw_regK 9 [7, 8, 58, 59, 60] ?_
              | refine aw_sregK 10 [7, 8, 9, 10, 58, 59, 60] ?_
              | refine aw_regK 10 [7, 8, 9, 10, 58, 59, 60] ?_
              | refine aw_sregK 11 [7, 8, 9, 58, 59, 60] ?_
              | refine aw_regK 11 [7, 8, 9, 58, 59, 60] ?_
              | refine aw_sregK 12 [7, 8, 58, 59, 60] ?_
              | refine aw_regK 12 [7, 8, 58, 59, 60] ?_
              | refine aw_sreg ?_
              | refine aw_sregD mixed ?_
              | refine aw_ifT (b := true) rfl rfl ?_
              | refine aw_ifF (b := false) rfl rfl ?_
              | refine aw_ifT rfl (by assumption) ?_
              | refine aw_ifF rfl (by assumption) ?_
              | refine aw_ifT rfl (decide_eq_true (by assumption)) ?_
              | refine aw_ifF rfl (decide_eq_false (by assumption)) ?_
              | refine aw_seq ?_
              | refine aw_block ?_
              | refine aw_skip ?_
              | refine aw_region ?_
              | refine aw_region_draw mixed ?_
              | refine aw_exit ?_
              | refine rq_exit ?_
              | refine blockQ_hit ?_
              | refine blockQ_miss (by decide) ?_
              | (refine ar_guard rfl rfl rfl rfl (fun h => ?_) (fun h => ?_) <;> (fail_if_success (cases h; done)) <;> (try simp at h) <;> (try subst h))
              | (refine aw_both rfl (fun h => ?_) (fun h => ?_) <;> (fail_if_success (cases h; done)) <;> (try simp at h) <;> (try subst h)))
        · simp only [hk, decide_false, Bool.false_and, Bool.false_eq_true, if_false, List.map_nil, List.append_nil] at hfs
          repeat' (first
            | refine ar_end rfl ?_
            | refine ar_endD rfl (by kernel_rfl) ?_
            | refine ar_fin rfl ?_
            | refine ar_finD rfl (by kernel_rfl) ?_
            | refine bq_norm ?_
            | refine lq_normN [7, 8, 58, 59, 60] [.loc 7, .loc 1000] (by simp; exact rfl) ⟨i + 1, by omega⟩ (by dsimp only; omega) (by simp [hfs])
            | refine ar_go3 _ rfl (by simp [evsL_len, evsL_getE, evL, prs_len, prs_getE, hlt, hd, hy, hk, hw]; exact ⟨rfl, rfl, rfl⟩) rfl ?_
            | refine aw_sregK 8 [7, 8, 58, 59, 60] ?_
            | refine aw_regK 8 [7, 8, 58, 59, 60] ?_
            | refine aw_sregK 9 [7, 8, 58, 59, 60] ?_
            | refine aw_regK 9 [7, 8, 58, 59, 60] ?_
            | refine aw_sregK 10 [7, 8, 9, 10, 58, 59, 60] ?_
            | refine aw_regK 10 [7, 8, 9, 10, 58, 59, 60] ?_
            | refine aw_sregK 11 [7, 8, 9, 58, 59, 60] ?_
            | refine aw_regK 11 [7, 8, 9, 58, 59, 60] ?_
            | refine aw_sregK 12 [7, 8, 58, 59, 60] ?_
            | refine aw_regK 12 [7, 8, 58, 59, 60] ?_
            | refine aw_sreg ?_
            | refine aw_sregD mixed ?_
            | refine aw_ifT (b := true) rfl rfl ?_
            | refine aw_ifF (b := false) rfl rfl ?_
            | refine aw_ifT rfl (by assumption) ?_
            | refine aw_ifF rfl (by assumption) ?_
            | refine aw_ifT rfl (decide_eq_true (by assumption)) ?_
            | refine aw_ifF rfl (decide_eq_false (by assumption)) ?_
            | refine aw_seq ?_
            | refine aw_block ?_
            | refine aw_skip ?_
            | refine aw_region ?_
            | refine aw_region_draw mixed ?_
            | refine aw_exit ?_
            | refine rq_exit ?_
            | refine blockQ_hit ?_
            | refine blockQ_miss (by decide) ?_
            | (refine ar_guard rfl rfl rfl rfl (fun h => ?_) (fun h => ?_) <;> (fail_if_success (cases h; done)) <;> (try simp at h) <;> (try subst h))
            | (refine aw_both rfl (fun h => ?_) (fun h => ?_) <;> (fail_if_success (cases h; done)) <;> (try simp at h) <;> (try subst h)))
      · have hd : ¬(i : Int) < (es.length : Int) := by omega
        have hie : i = es.length := by omega
        subst hie
        refine aw_frz (.loc 1000) (by simp; exact rfl) ?_
        repeat' (first
          | exact aw_ret (ret_vals (by simp; exact rfl) (by simp [*]; fail_if_success (show _)))
          | exact aw_ret (ret_vals (by simp; exact rfl) (by simp [*]; omega))
          | refine ar_end rfl ?_
          | refine ar_endD rfl (by kernel_rfl) ?_
          | refine ar_fin rfl ?_
          | refine ar_finD rfl (by kernel_rfl) ?_
          | refine lq_exit ?_
          | refine ar_go3 _ rfl (by simp [evsL_len, evsL_getE, evL, prs_len, prs_getE, hd]; exact ⟨rfl, rfl, rfl⟩) rfl ?_
          | refine aw_sregK 8 [7, 8, 58, 59, 60] ?_
          | refine aw_regK 8 [7, 8, 58, 59, 60] ?_
          | refine aw_sregK 13 [8] ?_
          | refine aw_regK 13 [8] ?_
          | refine aw_sreg ?_
          | refine aw_sregD mixed ?_
          | refine aw_ifT (b := true) rfl rfl ?_
          | refine aw_ifF (b := false) rfl rfl ?_
          | refine aw_ifT rfl (by assumption) ?_
          | refine aw_ifF rfl (by assumption) ?_
          | refine aw_ifT rfl (decide_eq_true (by assumption)) ?_
          | refine aw_ifF rfl (decide_eq_false (by assumption)) ?_
          | refine aw_seq ?_
          | refine aw_block ?_
          | refine aw_skip ?_
          | refine aw_region ?_
          | refine aw_region_draw mixed ?_
          | refine aw_exit ?_
          | refine rq_exit ?_
          | refine blockQ_hit ?_
          | refine blockQ_miss (by decide) ?_
          | (refine ar_guard rfl rfl rfl rfl (fun h => ?_) (fun h => ?_) <;> (fail_if_success (cases h; done)) <;> (try simp at h) <;> (try subst h))
          | (refine aw_both rfl (fun h => ?_) (fun h => ?_) <;> (fail_if_success (cases h; done)) <;> (try simp at h) <;> (try subst h)))
  · have e : initL init x = ([] : List Int) := by unfold initL; rw [if_neg (fun h => hA h.1)]
    rw [e]
    repeat' (first
      | refine ar_end rfl ?_
      | refine ar_endD rfl (by kernel_rfl) ?_
      | refine ar_fin rfl ?_
      | refine ar_finD rfl (by kernel_rfl) ?_
      | refine ar_appN rfl rfl rfl rfl (by simp; exact rfl) (by simp; fail_if_success (show _)) (by simp; exact rfl) (by simp; exact rfl) (by simp; exact ⟨rfl, rfl⟩) (by simp; exact rfl) (by simp; done) (by decide) (by simp [maxLen]; try omega) ?_
      | refine ar_go3 _ rfl (by simp [evsL_len, evsL_getE, evL, prs_len, prs_getE, ints_len, ints_getE, intsL_len, intsL_getE, hr, hr0, hr1, hxr, hk1, hA]; exact ⟨rfl, rfl, rfl⟩) rfl ?_
      | refine aw_sregK 0 [0, 1, 2] ?_
      | refine aw_regK 0 [0, 1, 2] ?_
      | refine aw_sregK 1 [1, 2, 3] ?_
      | refine aw_regK 1 [1, 2, 3] ?_
      | refine aw_sregK 2 [] ?_
      | refine aw_regK 2 [] ?_
      | refine aw_sregK 3 [1, 2, 3] ?_
      | refine aw_regK 3 [1, 2, 3] ?_
      | refine aw_sregK 4 [1, 3, 7] ?_
      | refine aw_regK 4 [1, 3, 7] ?_
      | refine aw_sregKD mixed 5 [1, 3, 7, 8] (by simp; exact rfl) ?_
      | refine aw_regKD mixed 5 [1, 3, 7, 8] (by simp; exact rfl) ?_
      | refine aw_sregK 6 [3, 7, 8] ?_
      | refine aw_regK 6 [3, 7, 8] ?_
      | refine aw_sregK 7 [3, 7, 8] ?_
      | refine aw_regK 7 [3, 7, 8] ?_
      | refine aw_sreg ?_
      | refine aw_sregD mixed ?_
      | refine aw_ifT (b := true) rfl rfl ?_
      | refine aw_ifF (b := false) rfl rfl ?_
      | refine aw_ifT rfl (by assumption) ?_
      | refine aw_ifF rfl (by assumption) ?_
      | refine aw_ifT rfl (decide_eq_true (by assumption)) ?_
      | refine aw_ifF rfl (decide_eq_false (by assumption)) ?_
      | refine aw_seq ?_
      | refine aw_block ?_
      | refine aw_skip ?_
      | refine aw_region ?_
      | refine aw_region_draw mixed ?_
      | refine aw_exit ?_
      | refine rq_exit ?_
      | refine blockQ_hit ?_
      | refine blockQ_miss (by decide) ?_
      | (refine ar_guard rfl rfl rfl rfl (fun h => ?_) (fun h => ?_) <;> (fail_if_success (cases h; done)) <;> (try simp at h) <;> (try subst h))
      | (refine aw_both rfl (fun h => ?_) (fun h => ?_) <;> (fail_if_success (cases h; done)) <;> (try simp at h) <;> (try subst h)))
    refine aw_nil 8 (.loc 1000) 3 1 (by simp; exact rfl) ?_
    refine aw_loopN [7, 8, 58, 59, 60] [.loc 7, .loc 1000] (by simp; exact rfl) (ι := {i : Nat // i ≤ es.length}) (fun i => ⟨88, [(7, .ptr (.loc 7) 0), (8, .own (.loc 1000)), (58, .pv (.sl 7 (evsL es))), (59, I .i64 es.length), (60, I .i64 i.1)], [(.loc 7, some (.box 50 [I .i64 x.th, I .i64 x.k, I .i64 x.l, I .i64 x.v, B x.acq, B x.rel, B x.ex])), (.loc 1000, some (.own 3 1 (ints (([] : List Int) ++ ((List.range i.1).filter qs).map fun (k : Nat) => (k : Int)))))]⟩) (fun i => es.length - i.1) ⟨0, by omega⟩ (by simp [ints, evsL_len, hk1]) ?_
    rintro ⟨i, hi⟩
    by_cases hlt : i < es.length
    · have hw : IntKind.wrap .i64 ((i : Int) + 1) = (i : Int) + 1 := wrap64s (by omega) (by omega)
      have hd : (i : Int) < (es.length : Int) := by omega
      have hfs := congrArg (List.map fun (k : Nat) => (k : Int)) (filter_range_succ qs i)
      have hqi := hqs i hlt
      rw [List.map_append] at hfs
      have hfl : (((List.range i).filter qs).map fun (k : Nat) => (k : Int)).length ≤ i := by simp; exact Nat.le_trans (List.length_filter_le _ _) (by simp)
      generalize hy : es[i] = y at hqi
      unfold mayQ at hqi
      rw [hqi] at hfs
      generalize ((List.range i).filter qs).map (fun (k : Nat) => (k : Int)) = F at *
      by_cases hk : y.k = 2
      · by_cases hl : y.l = x.l
        · by_cases hv : y.v = x.v
          · simp only [hk, hl, hv, decide_true, Bool.true_and, Bool.and_true, if_true, List.map_cons, List.map_nil] at hfs
            repeat' (first
              | refine ar_end rfl ?_
              | refine ar_endD rfl (by kernel_rfl) ?_
              | refine ar_fin rfl ?_
              | refine ar_finD rfl (by kernel_rfl) ?_
              | refine ar_appO rfl rfl rfl rfl rfl (by simp; exact rfl) rfl (by simp; exact rfl) (by simp; exact rfl) (by simp; exact ⟨rfl, rfl⟩) rfl (by simp; exact rfl) (by simp; done) (by decide) (by simp [ints_len, maxLen]; try omega) ?_
              | refine bq_norm ?_
              | refine lq_normR (.loc 85) (.loc 1000) [7, 8, 58, 59, 60] [.loc 7, .loc 1000] (by simp; exact rfl) ⟨i + 1, by omega⟩ (by dsimp only; omega) (by rw [hfs, ← List.append_assoc, ints_app]; simp [ints])
              | refine ar_go3 _ rfl (by simp [evsL_len, evsL_getE, evL, prs_len, prs_getE, hlt, hd, hy, hk, hl, hv, hw]; exact ⟨rfl, rfl, rfl⟩) rfl ?_
              | refine aw_sregK 8 [7, 8, 58, 59, 60] ?_
              | refine aw_regK 8 [7, 8, 58, 59, 60] ?_
              | refine aw_sregK 9 [7, 8, 58, 59, 60] ?_
              | refine aw_regK 9 [7, 8, 58, 59, 60] ?_
              | refine aw_sregK 10 [7, 8, 9, 10, 58, 59, 60] ?_
              | refine aw_regK 10 [7, 8, 9, 10, 58, 59, 60] ?_
              | refine aw_sregK 11 [7, 8, 9, 58, 59, 60] ?_
              | refine aw_regK 11 [7, 8, 9, 58, 59, 60] ?_
              | refine aw_sregK 12 [7, 8, 58, 59, 60] ?_
              | refine aw_regK 12 [7, 8, 58, 59, 60] ?_
              | refine aw_sreg ?_
              | refine aw_sregD mixed ?_
              | refine aw_ifT (b := true) rfl rfl ?_
              | refine aw_ifF (b := false) rfl rfl ?_
              | refine aw_ifT rfl (by assumption) ?_
              | refine aw_ifF rfl (by assumption) ?_
              | refine aw_ifT rfl (decide_eq_true (by assumption)) ?_
              | refine aw_ifF rfl (decide_eq_false (by assumption)) ?_
              | refine aw_seq ?_
              | refine aw_block ?_
              | refine aw_skip ?_
              | refine aw_region ?_
              | refine aw_region_draw mixed ?_
              | refine aw_exit ?_
              | refine rq_exit ?_
              | refine blockQ_hit ?_
              | refine blockQ_miss (by decide) ?_
              | (refine ar_guard rfl rfl rfl rfl (fun h => ?_) (fun h => ?_) <;> (fail_if_success (cases h; done)) <;> (try simp at h) <;> (try subst h))
              | (refine aw_both rfl (fun h => ?_) (fun h => ?_) <;> (fail_if_success (cases h; done)) <;> (try simp at h) <;> (try subst h)))
          · simp only [hk, hl, hv, decide_true, decide_false, Bool.true_and, Bool.and_false, Bool.false_eq_true, if_false, List.map_nil, List.append_nil] at hfs
            repeat' (first
              | refine ar_end rfl ?_
              | refine ar_endD rfl (by kernel_rfl) ?_
              | refine ar_fin rfl ?_
              | refine ar_finD rfl (by kernel_rfl) ?_
              | refine bq_norm ?_
              | refine lq_normN [7, 8, 58, 59, 60] [.loc 7, .loc 1000] (by simp; exact rfl) ⟨i + 1, by omega⟩ (by dsimp only; omega) (by simp [hfs])
              | refine ar_go3 _ rfl (by simp [evsL_len, evsL_getE, evL, prs_len, prs_getE, hlt, hd, hy, hk, hl, hv, hw]; exact ⟨rfl, rfl, rfl⟩) rfl ?_
              | refine aw_sregK 8 [7, 8, 58, 59, 60] ?_
              | refine aw_regK 8 [7, 8, 58, 59, 60] ?_
              | refine aw_sregK 9 [7, 8, 58, 59, 60] ?_
              | refine aw_regK 9 [7, 8, 58, 59, 60] ?_
              | refine aw_sregK 10 [7, 8, 9, 10, 58, 59, 60] ?_
              | refine aw_regK 10 [7, 8, 9, 10, 58, 59, 60] ?_
              | refine aw_sregK 11 [7, 8, 9, 58, 59, 60] ?_
              | refine aw_regK 11 [7, 8, 9, 58, 59, 60] ?_
              | refine aw_sregK 12 [7, 8, 58, 59, 60] ?_
              | refine aw_regK 12 [7, 8, 58, 59, 60] ?_
              | refine aw_sreg ?_
              | refine aw_sregD mixed ?_
              | refine aw_ifT (b := true) rfl rfl ?_
              | refine aw_ifF (b := false) rfl rfl ?_
              | refine aw_ifT rfl (by assumption) ?_
              | refine aw_ifF rfl (by assumption) ?_
              | refine aw_ifT rfl (decide_eq_true (by assumption)) ?_
              | refine aw_ifF rfl (decide_eq_false (by assumption)) ?_
              | refine aw_seq ?_
              | refine aw_block ?_
              | refine aw_skip ?_
              | refine aw_region ?_
              | refine aw_region_draw mixed ?_
              | refine aw_exit ?_
              | refine rq_exit ?_
              | refine blockQ_hit ?_
              | refine blockQ_miss (by decide) ?_
              | (refine ar_guard rfl rfl rfl rfl (fun h => ?_) (fun h => ?_) <;> (fail_if_success (cases h; done)) <;> (try simp at h) <;> (try subst h))
              | (refine aw_both rfl (fun h => ?_) (fun h => ?_) <;> (fail_if_success (cases h; done)) <;> (try simp at h) <;> (try subst h)))
        · simp only [hk, hl, decide_true, decide_false, Bool.true_and, Bool.false_and, Bool.false_eq_true, if_false, List.map_nil, List.append_nil] at hfs
          repeat' (first
            | refine ar_end rfl ?_
            | refine ar_endD rfl (by kernel_rfl) ?_
            | refine ar_fin rfl ?_
            | refine ar_finD rfl (by kernel_rfl) ?_
            | refine bq_norm ?_
            | refine lq_normN [7, 8, 58, 59, 60] [.loc 7, .loc 1000] (by simp; exact rfl) ⟨i + 1, by omega⟩ (by dsimp only; omega) (by simp [hfs])
            | refine ar_go3 _ rfl (by simp [evsL_len, evsL_getE, evL, prs_len, prs_getE, hlt, hd, hy, hk, hl, hw]; exact ⟨rfl, rfl, rfl⟩) rfl ?_
            | refine aw_sregK 8 [7, 8, 58, 59, 60] ?_
            | refine aw_regK 8 [7, 8, 58, 59, 60] ?_
            | refine aw_sregK 9 [7, 8, 58, 59, 60] ?_
            | refine aw_regK 9 [7, 8, 58, 59, 60] ?_
            | refine aw_sregK 10 [7, 8, 9, 10, 58, 59, 60] ?_
            | refine aw_regK 10 [7, 8, 9, 10, 58, 59, 60] ?_
            | refine aw_sregK 11 [7, 8, 9, 58, 59, 60] ?_
            | refine aw_regK 11 [7, 8, 9, 58, 59, 60] ?_
            | refine aw_sregK 12 [7, 8, 58, 59, 60] ?_
            | refine aw_regK 12 [7, 8, 58, 59, 60] ?_
            | refine aw_sreg ?_
            | refine aw_sregD mixed ?_
            | refine aw_ifT (b := true) rfl rfl ?_
            | refine aw_ifF (b := false) rfl rfl ?_
            | refine aw_ifT rfl (by assumption) ?_
            | refine aw_ifF rfl (by assumption) ?_
            | refine aw_ifT rfl (decide_eq_true (by assumption)) ?_
            | refine aw_ifF rfl (decide_eq_false (by assumption)) ?_
            | refine aw_seq ?_
            | refine aw_block ?_
            | refine aw_skip ?_
            | refine aw_region ?_
            | refine aw_region_draw mixed ?_
            | refine aw_exit ?_
            | refine rq_exit ?_
            | refine blockQ_hit ?_
            | refine blockQ_miss (by decide) ?_
            | (refine ar_guard rfl rfl rfl rfl (fun h => ?_) (fun h => ?_) <;> (fail_if_success (cases h; done)) <;> (try simp at h) <;> (try subst h))
            | (refine aw_both rfl (fun h => ?_) (fun h => ?_) <;> (fail_if_success (cases h; done)) <;> (try simp at h) <;> (try subst h)))
      · simp only [hk, decide_false, Bool.false_and, Bool.false_eq_true, if_false, List.map_nil, List.append_nil] at hfs
        repeat' (first
          | refine ar_end rfl ?_
          | refine ar_endD rfl (by kernel_rfl) ?_
          | refine ar_fin rfl ?_
          | refine ar_finD rfl (by kernel_rfl) ?_
          | refine bq_norm ?_
          | refine lq_normN [7, 8, 58, 59, 60] [.loc 7, .loc 1000] (by simp; exact rfl) ⟨i + 1, by omega⟩ (by dsimp only; omega) (by simp [hfs])
          | refine ar_go3 _ rfl (by simp [evsL_len, evsL_getE, evL, prs_len, prs_getE, hlt, hd, hy, hk, hw]; exact ⟨rfl, rfl, rfl⟩) rfl ?_
          | refine aw_sregK 8 [7, 8, 58, 59, 60] ?_
          | refine aw_regK 8 [7, 8, 58, 59, 60] ?_
          | refine aw_sregK 9 [7, 8, 58, 59, 60] ?_
          | refine aw_regK 9 [7, 8, 58, 59, 60] ?_
          | refine aw_sregK 10 [7, 8, 9, 10, 58, 59, 60] ?_
          | refine aw_regK 10 [7, 8, 9, 10, 58, 59, 60] ?_
          | refine aw_sregK 11 [7, 8, 9, 58, 59, 60] ?_
          | refine aw_regK 11 [7, 8, 9, 58, 59, 60] ?_
          | refine aw_sregK 12 [7, 8, 58, 59, 60] ?_
          | refine aw_regK 12 [7, 8, 58, 59, 60] ?_
          | refine aw_sreg ?_
          | refine aw_sregD mixed ?_
          | refine aw_ifT (b := true) rfl rfl ?_
          | refine aw_ifF (b := false) rfl rfl ?_
          | refine aw_ifT rfl (by assumption) ?_
          | refine aw_ifF rfl (by assumption) ?_
          | refine aw_ifT rfl (decide_eq_true (by assumption)) ?_
          | refine aw_ifF rfl (decide_eq_false (by assumption)) ?_
          | refine aw_seq ?_
          | refine aw_block ?_
          | refine aw_skip ?_
          | refine aw_region ?_
          | refine aw_region_draw mixed ?_
          | refine aw_exit ?_
          | refine rq_exit ?_
          | refine blockQ_hit ?_
          | refine blockQ_miss (by decide) ?_
          | (refine ar_guard rfl rfl rfl rfl (fun h => ?_) (fun h => ?_) <;> (fail_if_success (cases h; done)) <;> (try simp at h) <;> (try subst h))
          | (refine aw_both rfl (fun h => ?_) (fun h => ?_) <;> (fail_if_success (cases h; done)) <;> (try simp at h) <;> (try subst h)))
    · have hd : ¬(i : Int) < (es.length : Int) := by omega
      have hie : i = es.length := by omega
      subst hie
      refine aw_frz (.loc 1000) (by simp; exact rfl) ?_
      repeat' (first
        | exact aw_ret (ret_vals (by simp; exact rfl) (by simp [*]; fail_if_success (show _)))
        | exact aw_ret (ret_vals (by simp; exact rfl) (by simp [*]; omega))
        | refine ar_end rfl ?_
        | refine ar_endD rfl (by kernel_rfl) ?_
        | refine ar_fin rfl ?_
        | refine ar_finD rfl (by kernel_rfl) ?_
        | refine lq_exit ?_
        | refine ar_go3 _ rfl (by simp [evsL_len, evsL_getE, evL, prs_len, prs_getE, hd]; exact ⟨rfl, rfl, rfl⟩) rfl ?_
        | refine aw_sregK 8 [7, 8, 58, 59, 60] ?_
        | refine aw_regK 8 [7, 8, 58, 59, 60] ?_
        | refine aw_sregK 13 [8] ?_
        | refine aw_regK 13 [8] ?_
        | refine aw_sreg ?_
        | refine aw_sregD mixed ?_
        | refine aw_ifT (b := true) rfl rfl ?_
        | refine aw_ifF (b := false) rfl rfl ?_
        | refine aw_ifT rfl (by assumption) ?_
        | refine aw_ifF rfl (by assumption) ?_
        | refine aw_ifT rfl (decide_eq_true (by assumption)) ?_
        | refine aw_ifF rfl (decide_eq_false (by assumption)) ?_
        | refine aw_seq ?_
        | refine aw_block ?_
        | refine aw_skip ?_
        | refine aw_region ?_
        | refine aw_region_draw mixed ?_
        | refine aw_exit ?_
        | refine rq_exit ?_
        | refine blockQ_hit ?_
        | refine blockQ_miss (by decide) ?_
        | (refine ar_guard rfl rfl rfl rfl (fun h => ?_) (fun h => ?_) <;> (fail_if_success (cases h; done)) <;> (try simp at h) <;> (try subst h))
        | (refine aw_both rfl (fun h => ?_) (fun h => ?_) <;> (fail_if_success (cases h; done)) <;> (try simp at h) <;> (try subst h)))
def choiceX (es : List Ev) (init : List Int) (x : Ev) : List Int := if x.k = 1 then mayX es init x else [-2]
def choicesF (es : List Ev) (init : List Int) : List (List Int) := es.map (choiceX es init)
theorem choiceX_len (es : List Ev) (init : List Int) (x : Ev) : (choiceX es init x).length ≤ es.length + 1 := by
  unfold choiceX; split
  · exact mayX_len es init x
  · simp
set_option maxHeartbeats 16000000 in
theorem c_choices {es : List Ev} {init : List Int} (h32 : es.length ≤ 32) : SC Try.prog 69 [.agg (exL es), .pv (.sl 1 (ints init))] (.pv (.sl 1 (intsL (choicesF es init)))) := by
  unfold choicesF
  refine scx_of Try.func69 rfl rfl rfl (Nat.le_of_ble_eq_true rfl) ?_
  repeat' (first
    | refine ar_end rfl ?_
    | refine ar_endD rfl (by kernel_rfl) ?_
    | refine ar_fin rfl ?_
    | refine ar_finD rfl (by kernel_rfl) ?_
    | refine ar_go3 _ rfl (by simp [evsL_len, evsL_getE, evL, prs_len, prs_getE, ints_len, ints_getE, intsL_len, intsL_getE]; exact ⟨rfl, rfl, rfl⟩) rfl ?_
    | refine aw_sregK 0 [0, 1] ?_
    | refine aw_regK 0 [0, 1] ?_
    | refine aw_sregK 1 [1, 2] ?_
    | refine aw_regK 1 [1, 2] ?_
    | refine aw_sregK 2 [1, 2, 5] ?_
    | refine aw_regK 2 [1, 2, 5] ?_
    | refine aw_sreg ?_
    | refine aw_sregD mixed ?_
    | refine aw_ifT (b := true) rfl rfl ?_
    | refine aw_ifF (b := false) rfl rfl ?_
    | refine aw_ifT rfl (by assumption) ?_
    | refine aw_ifF rfl (by assumption) ?_
    | refine aw_ifT rfl (decide_eq_true (by assumption)) ?_
    | refine aw_ifF rfl (decide_eq_false (by assumption)) ?_
    | refine aw_seq ?_
    | refine aw_block ?_
    | refine aw_skip ?_
    | refine aw_region ?_
    | refine aw_region_draw mixed ?_
    | refine aw_exit ?_
    | refine rq_exit ?_
    | refine blockQ_hit ?_
    | refine blockQ_miss (by decide) ?_
    | (refine ar_guard rfl rfl rfl rfl (fun h => ?_) (fun h => ?_) <;> (fail_if_success (cases h; done)) <;> (try simp at h) <;> (try subst h))
    | (refine aw_both rfl (fun h => ?_) (fun h => ?_) <;> (fail_if_success (cases h; done)) <;> (try simp at h) <;> (try subst h)))
  refine aw_nil 5 (.loc 1000) 53 1 (by simp; exact rfl) ?_
  refine aw_loopN [1, 2, 5, 10, 11, 12] [.loc 2, .loc 1000] (by simp; exact rfl) (ι := {i : Nat // i ≤ es.length}) (fun i => ⟨31, [(1, .pv (.sl 1 (ints init))), (2, .ptr (.loc 2) 0), (5, .own (.loc 1000)), (10, .pv (.sl 7 (evsL es))), (11, I .i64 es.length), (12, I .i64 i.1)], [(.loc 2, some (.box 28 [.pv (.sl 7 (evsL es)), .pv (.v (.slice none 0 0)), .pv (.v (.slice none 0 0)), .pv (.v (.slice none 0 0)), .pv (.v (.slice none 0 0)), .pv (.v (.slice none 0 0)), .pv (.v (.slice none 0 0))])), (.loc 1000, some (.own 53 1 (intsL ((es.take i.1).map (choiceX es init)))))]⟩) (fun i => es.length - i.1) ⟨0, by omega⟩ (by simp [intsL, evsL_len]) ?_
  rintro ⟨i, hi⟩
  by_cases hlt : i < es.length
  · have hw : IntKind.wrap .i64 ((i : Int) + 1) = (i : Int) + 1 := wrap64s (by omega) (by omega)
    have hd : (i : Int) < (es.length : Int) := by omega
    have hst : (es.take (i + 1)).map (choiceX es init) = (es.take i).map (choiceX es init) ++ [choiceX es init es[i]] := by
      rw [List.take_add_one, List.getElem?_eq_getElem hlt, List.map_append]; rfl
    have hfl : ((es.take i).map (choiceX es init)).length ≤ i := by simp; omega
    generalize (es.take i).map (choiceX es init) = F at *
    by_cases hk : es[i].k = 1
    · have hM := c_may (init := init) hlt hk h32
      have e : choiceX es init es[i] = mayX es init es[i] := by unfold choiceX; rw [if_pos hk]
      rw [e] at hst
      generalize mayX es init es[i] = M at *
      generalize hx : es[i] = x at *
      repeat' (first
        | refine ar_end rfl ?_
        | refine ar_endD rfl (by kernel_rfl) ?_
        | refine ar_fin rfl ?_
        | refine ar_finD rfl (by kernel_rfl) ?_
        | refine ar_callV Try.call92 hM rfl rfl rfl rfl rfl (by simp; done) (by rfl) (by simp; done) ?_
        | refine ar_callV_if Try.call92 hM rfl rfl rfl rfl rfl rfl (by simp; done) rfl (by rfl) (by simp; done) ?_
        | refine ar_appO rfl rfl rfl rfl rfl (by simp; exact rfl) rfl (by simp; exact rfl) (by simp; exact rfl) (by simp; exact ⟨rfl, rfl⟩) rfl (by simp; exact rfl) (by simp; done) (by decide) (by simp [intsL_len, maxLen]; try omega) ?_
        | refine bq_norm ?_
        | refine lq_normR (.loc 28) (.loc 1000) [1, 2, 5, 10, 11, 12] [.loc 2, .loc 1000] (by simp; exact rfl) ⟨i + 1, by omega⟩ (by dsimp only; omega) (by rw [hst, intsL_app]; simp [intsL])
        | refine ar_go3 _ rfl (by simp [evsL_len, evsL_getE, evL, prs_len, prs_getE, ints_len, ints_getE, intsL_len, intsL_getE, exL, hlt, hd, hx, hk, hw]; exact ⟨rfl, rfl, rfl⟩) rfl ?_
        | refine aw_sregK 3 [1, 2, 5, 10, 11, 12] ?_
        | refine aw_regK 3 [1, 2, 5, 10, 11, 12] ?_
        | refine aw_sregK 4 [1, 2, 5, 10, 11, 12] ?_
        | refine aw_regK 4 [1, 2, 5, 10, 11, 12] ?_
        | refine aw_sregK 5 [1, 2, 5, 6, 7, 10, 11, 12] ?_
        | refine aw_regK 5 [1, 2, 5, 6, 7, 10, 11, 12] ?_
        | refine aw_sregK 6 [1, 2, 5, 6, 7, 8, 10, 11, 12] ?_
        | refine aw_regK 6 [1, 2, 5, 6, 7, 8, 10, 11, 12] ?_
        | refine aw_sregK 7 [1, 2, 5, 6, 10, 11, 12] ?_
        | refine aw_regK 7 [1, 2, 5, 6, 10, 11, 12] ?_
        | refine aw_sregK 8 [1, 2, 5, 8, 10, 11, 12] ?_
        | refine aw_regK 8 [1, 2, 5, 8, 10, 11, 12] ?_
        | refine aw_sregK 9 [1, 2, 5, 10, 11, 12] ?_
        | refine aw_regK 9 [1, 2, 5, 10, 11, 12] ?_
        | refine aw_sreg ?_
        | refine aw_sregD mixed ?_
        | refine aw_ifT (b := true) rfl rfl ?_
        | refine aw_ifF (b := false) rfl rfl ?_
        | refine aw_ifT rfl (by assumption) ?_
        | refine aw_ifF rfl (by assumption) ?_
        | refine aw_ifT rfl (decide_eq_true (by assumption)) ?_
        | refine aw_ifF rfl (decide_eq_false (by assumption)) ?_
        | refine aw_seq ?_
        | refine aw_block ?_
        | refine aw_skip ?_
        | refine aw_region ?_
        | refine aw_region_draw mixed ?_
        | refine aw_exit ?_
        | refine rq_exit ?_
        | refine blockQ_hit ?_
        | refine blockQ_miss (by decide) ?_
        | (refine ar_guard rfl rfl rfl rfl (fun h => ?_) (fun h => ?_) <;> (fail_if_success (cases h; done)) <;> (try simp at h) <;> (try subst h))
        | (refine aw_both rfl (fun h => ?_) (fun h => ?_) <;> (fail_if_success (cases h; done)) <;> (try simp at h) <;> (try subst h)))
    · have e : choiceX es init es[i] = [-2] := by unfold choiceX; rw [if_neg hk]
      rw [e] at hst
      generalize hx : es[i] = x at *
      repeat' (first
        | refine ar_end rfl ?_
        | refine ar_endD rfl (by kernel_rfl) ?_
        | refine ar_fin rfl ?_
        | refine ar_finD rfl (by kernel_rfl) ?_
        | refine ar_frz rfl rfl (by simp; exact rfl) rfl (by simp; fail_if_success (show _)) (by simp; exact rfl) (by simp; exact rfl) rfl (by simp; fail_if_success (show _)) ?_
        | refine ar_appO rfl rfl rfl rfl rfl (by simp; exact rfl) rfl (by simp; exact rfl) (by simp; exact rfl) (by simp; exact ⟨rfl, rfl⟩) rfl (by simp; exact rfl) (by simp; done) (by decide) (by simp [intsL_len, maxLen]; try omega) ?_
        | refine bq_norm ?_
        | refine lq_normR (.loc 28) (.loc 1000) [1, 2, 5, 10, 11, 12] [.loc 2, .loc 1000] (by simp; exact rfl) ⟨i + 1, by omega⟩ (by dsimp only; omega) (by rw [hst, intsL_app]; simp [intsL, ints])
        | refine ar_go3 _ rfl (by simp [evsL_len, evsL_getE, evL, prs_len, prs_getE, ints_len, ints_getE, intsL_len, intsL_getE, exL, hlt, hd, hx, hk, hw]; exact ⟨rfl, rfl, rfl⟩) rfl ?_
        | refine aw_sregK 3 [1, 2, 5, 10, 11, 12] ?_
        | refine aw_regK 3 [1, 2, 5, 10, 11, 12] ?_
        | refine aw_sregK 4 [1, 2, 5, 10, 11, 12] ?_
        | refine aw_regK 4 [1, 2, 5, 10, 11, 12] ?_
        | refine aw_sregK 5 [1, 2, 5, 6, 7, 10, 11, 12] ?_
        | refine aw_regK 5 [1, 2, 5, 6, 7, 10, 11, 12] ?_
        | refine aw_sregK 6 [1, 2, 5, 6, 7, 8, 10, 11, 12] ?_
        | refine aw_regK 6 [1, 2, 5, 6, 7, 8, 10, 11, 12] ?_
        | refine aw_sregK 7 [1, 2, 5, 6, 10, 11, 12] ?_
        | refine aw_regK 7 [1, 2, 5, 6, 10, 11, 12] ?_
        | refine aw_sregK 8 [1, 2, 5, 8, 10, 11, 12] ?_
        | refine aw_regK 8 [1, 2, 5, 8, 10, 11, 12] ?_
        | refine aw_sregK 9 [1, 2, 5, 10, 11, 12] ?_
        | refine aw_regK 9 [1, 2, 5, 10, 11, 12] ?_
        | refine aw_sreg ?_
        | refine aw_sregD mixed ?_
        | refine aw_ifT (b := true) rfl rfl ?_
        | refine aw_ifF (b := false) rfl rfl ?_
        | refine aw_ifT rfl (by assumption) ?_
        | refine aw_ifF rfl (by assumption) ?_
        | refine aw_ifT rfl (decide_eq_true (by assumption)) ?_
        | refine aw_ifF rfl (decide_eq_false (by assumption)) ?_
        | refine aw_seq ?_
        | refine aw_block ?_
        | refine aw_skip ?_
        | refine aw_region ?_
        | refine aw_region_draw mixed ?_
        | refine aw_exit ?_
        | refine rq_exit ?_
        | refine blockQ_hit ?_
        | refine blockQ_miss (by decide) ?_
        | (refine ar_guard rfl rfl rfl rfl (fun h => ?_) (fun h => ?_) <;> (fail_if_success (cases h; done)) <;> (try simp at h) <;> (try subst h))
        | (refine aw_both rfl (fun h => ?_) (fun h => ?_) <;> (fail_if_success (cases h; done)) <;> (try simp at h) <;> (try subst h)))
  · have hd : ¬(i : Int) < (es.length : Int) := by omega
    have hie : es.take i = es := List.take_of_length_le (by omega)
    simp only [hie]
    refine aw_frz (.loc 1000) (by simp; exact rfl) ?_
    repeat' (first
      | exact aw_ret (ret_vals (by simp; exact rfl) (by simp [*]; fail_if_success (show _)))
      | exact aw_ret (ret_vals (by simp; exact rfl) (by simp [*]; omega))
      | refine ar_end rfl ?_
      | refine ar_endD rfl (by kernel_rfl) ?_
      | refine ar_fin rfl ?_
      | refine ar_finD rfl (by kernel_rfl) ?_
      | refine lq_exit ?_
      | refine ar_go3 _ rfl (by simp [evsL_len, evsL_getE, evL, prs_len, prs_getE, ints_len, ints_getE, intsL_len, intsL_getE, hd]; exact ⟨rfl, rfl, rfl⟩) rfl ?_
      | refine aw_sregK 3 [1, 2, 5, 10, 11, 12] ?_
      | refine aw_regK 3 [1, 2, 5, 10, 11, 12] ?_
      | refine aw_sregK 10 [5] ?_
      | refine aw_regK 10 [5] ?_
      | refine aw_sreg ?_
      | refine aw_sregD mixed ?_
      | refine aw_ifT (b := true) rfl rfl ?_
      | refine aw_ifF (b := false) rfl rfl ?_
      | refine aw_ifT rfl (by assumption) ?_
      | refine aw_ifF rfl (by assumption) ?_
      | refine aw_ifT rfl (decide_eq_true (by assumption)) ?_
      | refine aw_ifF rfl (decide_eq_false (by assumption)) ?_
      | refine aw_seq ?_
      | refine aw_block ?_
      | refine aw_skip ?_
      | refine aw_region ?_
      | refine aw_region_draw mixed ?_
      | refine aw_exit ?_
      | refine rq_exit ?_
      | refine blockQ_hit ?_
      | refine blockQ_miss (by decide) ?_
      | (refine ar_guard rfl rfl rfl rfl (fun h => ?_) (fun h => ?_) <;> (fail_if_success (cases h; done)) <;> (try simp at h) <;> (try subst h))
      | (refine aw_both rfl (fun h => ?_) (fun h => ?_) <;> (fail_if_success (cases h; done)) <;> (try simp at h) <;> (try subst h)))
end Go.Eng
