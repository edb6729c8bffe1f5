import Derived.Test.YtclegllogeanlaaRelB
set_option linter.unusedSimpArgs false
set_option linter.unusedVariables false
set_option linter.constructorNameAsVariable false
set_option autoImplicit false
namespace Go.Eng
open Go Go.RowKit Go.Proofs
def thq (es : List Ev) (p : Nat × Nat) : Bool := decide (¬(es.map (·.th)).getD p.1 0 = (es.map (·.th)).getD p.2 0)
def outerR (es : List Ev) (r : RL) : RL := if r.length = es.length then foldR es.length ((pairsR r).filter (thq es)) else []
theorem thq_at {es : List Ev} {i k : Nat} (hi : i < es.length) (hk : k < es.length) : thq es (i, k) = decide (¬es[i].th = es[k].th) := by
  unfold thq
  rw [getD_in _ _ (by simpa using hi), getD_in _ _ (by simpa using hk)]
  simp
/-- What is true of two events of a list. -/
def evq (q : Ev → Ev → Bool) (es : List Ev) (p : Nat × Nat) : Bool := decide (¬p.1 = p.2) && (match es[p.1]?, es[p.2]? with | some x, some y => q x y | _, _ => false)
def eventsR (q : Ev → Ev → Bool) (es : List Ev) : RL := foldR es.length ((allP es.length).filter (evq q es))
theorem evq_at {q : Ev → Ev → Bool} {es : List Ev} {i k : Nat} (hi : i < es.length) (hk : k < es.length) : evq q es (i, k) = (decide (¬i = k) && q es[i] es[k]) := by
  unfold evq
  rw [List.getElem?_eq_getElem hi, List.getElem?_eq_getElem hk]
theorem events_bit {q : Ev → Ev → Bool} {es : List Ev} {i k : Nat} (h32 : es.length ≤ 32) (hi : i < es.length) (hk : k < es.length) : bitR (eventsR q es) i k = (decide (¬i = k) && q es[i] es[k]) := by
  unfold eventsR
  rw [fold_bit hi (by omega), ← evq_at hi hk]
  cases h : evq q es (i, k)
  · exact decide_eq_false fun hm => by rw [(List.mem_filter.1 hm).2] at h; cases h
  · exact decide_eq_true (List.mem_filter.2 ⟨mem_allP.2 ⟨hi, hk⟩, h⟩)
theorem events_cl {q : Ev → Ev → Bool} {es : List Ev} (h32 : es.length ≤ 32) : Cl es.length (eventsR q es) :=
  fold_cl h32 fun p hp => (mem_allP.1 (List.mem_filter.1 hp).1).2
theorem outer_cl {es : List Ev} {r : RL} (hl : r.length = es.length) (h32 : es.length ≤ 32) : Cl es.length (outerR es r) ∧ ∀ i k, (hi : i < es.length) → (hk : k < es.length) → bitR (outerR es r) i k = (bitR r i k && decide (¬es[i].th = es[k].th)) := by
  unfold outerR
  rw [if_pos hl]
  have hc := clean_len (r := r) (by omega)
  refine ⟨fold_cl h32 fun p hp => ?_, fun i k hi hk => ?_⟩
  · have := mem_pairs.1 (List.mem_filter.1 hp).1
    omega
  · rw [fold_bit hi (by omega), ← thq_at hi hk]
    have hcb := clean_bit (r := r) (by omega) i k
    rw [hl] at hcb
    simp only [hk, decide_true, Bool.and_true] at hcb
    cases h : (bitR r i k && thq es (i, k))
    · refine decide_eq_false fun hm => ?_
      obtain ⟨h1, h2⟩ := List.mem_filter.1 hm
      have h3 := (mem_pairs.1 h1).2.2
      dsimp only at h3
      rw [hcb] at h3
      rw [h2, h3] at h; cases h
    · rw [Bool.and_eq_true] at h
      exact decide_eq_true (List.mem_filter.2 ⟨mem_pairs.2 ⟨by dsimp only; omega, by dsimp only; omega, by dsimp only; rw [hcb]; exact h.1⟩, h.2⟩)
set_option maxHeartbeats 16000000 in
theorem c_outer {es : List Ev} {r : RL} (hl : r.length ≤ maxLen) (h32 : es.length ≤ 32) : SC Try.prog 15 [.agg (exL es), .pv (.sl 1 (rl r))] (.pv (.sl 1 (rl (outerR es r)))) := by
  have hN := c_newV (n := es.length) h32
  by_cases hle : r.length = es.length
  · have hP := c_pairsV hl
    have hc := clean_len (r := r) (by omega)
    have hple : (pairsR r).length ≤ 1024 := by
      rw [pairs_eq, hc]
      exact Nat.le_trans (upto_len _ _ _) (Nat.le_trans (Nat.mul_le_mul (show r.length ≤ 32 by omega) (show r.length ≤ 32 by omega)) (by decide))
    have hin : ∀ p ∈ pairsR r, p.1 < es.length ∧ p.2 < es.length := fun p hp => by
      have := mem_pairs.1 hp; omega
    unfold outerR
    rw [if_pos hle]
    generalize pairsR r = ps at *
    have hnew : newR es.length = foldR es.length [] := rfl
    rw [hnew] at hN
    refine scx_of Try.func15 rfl rfl rfl (Nat.le_of_ble_eq_true rfl) ?_
    repeat' (first
      | refine ar_end rfl ?_
      | refine ar_endD rfl (by kernel_rfl) ?_
      | refine ar_fin rfl ?_
      | refine ar_finD rfl (by kernel_rfl) ?_
      | refine ar_callV Try.call29 hN rfl rfl rfl rfl rfl (by simp; done) (by rfl) (by simp; done) ?_
      | refine ar_callV_if Try.call29 hN rfl rfl rfl rfl rfl rfl (by simp; done) rfl (by rfl) (by simp; done) ?_
      | refine ar_callV Try.call19 hP rfl rfl rfl rfl rfl (by simp; done) (by rfl) (by simp; done) ?_
      | refine ar_callV_if Try.call19 hP rfl rfl rfl rfl rfl rfl (by simp; done) rfl (by rfl) (by simp; done) ?_
      | refine ar_go3 _ rfl (by simp [rl_len, rl_getE, rl_set, rl_nil, List.length_set, List.getElem_set, IntKind.bits, ub_shl1', ub_shr, ub_or, ub_and, ub_andNot, ub_bit, Int.toNat_natCast, ub_zero, evsL_len, evsL_getE, evL, prs_len, prs_getE, hle]; exact ⟨rfl, rfl, rfl⟩) rfl ?_
      | refine aw_sregK 0 [0, 1] ?_
      | refine aw_regK 0 [0, 1] ?_
      | refine aw_sregK 1 [1, 2] ?_
      | refine aw_regK 1 [1, 2] ?_
      | refine aw_sregK 2 [1, 2, 5] ?_
      | refine aw_regK 2 [1, 2, 5] ?_
      | refine aw_sregK 3 [1, 2, 5, 6] ?_
      | refine aw_regK 3 [1, 2, 5, 6] ?_
      | refine aw_sregK 4 [] ?_
      | refine aw_regK 4 [] ?_
      | refine aw_sregK 5 [1, 2, 6] ?_
      | refine aw_regK 5 [1, 2, 6] ?_
      | refine aw_sreg ?_
      | refine aw_sregD mixed ?_
      | refine aw_ifT (b := true) rfl rfl ?_
      | refine aw_ifF (b := false) rfl rfl ?_
      | refine aw_ifT rfl (by assumption) ?_
      | refine aw_ifF rfl (by assumption) ?_
      | refine aw_ifT rfl (decide_eq_true (by assumption)) ?_
      | refine aw_ifF rfl (decide_eq_false (by assumption)) ?_
      | refine aw_seq ?_
      | refine aw_block ?_
      | refine aw_skip ?_
      | refine aw_region ?_
      | refine aw_region_draw mixed ?_
      | refine aw_exit ?_
      | refine rq_exit ?_
      | refine blockQ_hit ?_
      | refine blockQ_miss (by decide) ?_
      | (refine ar_guard rfl rfl rfl rfl (fun h => ?_) (fun h => ?_) <;> (fail_if_success (cases h; done)) <;> (try simp at h) <;> (try subst h))
      | (refine aw_both rfl (fun h => ?_) (fun h => ?_) <;> (fail_if_success (cases h; done)) <;> (try simp at h) <;> (try subst h)))
    refine aw_loopN [2, 6, 20, 21, 22] [.loc 2] (by simp; exact rfl) (ι := {i : Nat // i ≤ ps.length}) (fun i => ⟨49, [(2, .ptr (.loc 2) 0), (6, .pv (.sl 1 (rl (foldR es.length ((ps.take i.1).filter (thq es)))))), (20, .pv (.sl 2 (prs ps))), (21, I .i64 ps.length), (22, I .i64 i.1)], [(.loc 2, some (.box 28 [.pv (.sl 7 (evsL es)), .pv (.v (.slice none 0 0)), .pv (.v (.slice none 0 0)), .pv (.v (.slice none 0 0)), .pv (.v (.slice none 0 0)), .pv (.v (.slice none 0 0)), .pv (.v (.slice none 0 0))]))]⟩) (fun i => ps.length - i.1) ⟨0, by omega⟩ (by simp [prs_len]) ?_
    rintro ⟨i, hi⟩
    by_cases hlt : i < ps.length
    · have hw : IntKind.wrap .i64 ((i : Int) + 1) = (i : Int) + 1 := wrap64s (by omega) (by omega)
      have hd : (i : Int) < (ps.length : Int) := by omega
      obtain ⟨h1, h2⟩ := hin _ (List.getElem_mem hlt)
      have hst := filter_take_succ (p := thq es) hlt
      have hcl : Cl es.length (foldR es.length ((ps.take i).filter (thq es))) := fold_cl h32 fun p hp => (hin p (List.mem_of_mem_take (List.mem_filter.1 hp).1)).2
      generalize hp : ps[i] = p at *
      obtain ⟨u, v⟩ := p
      dsimp only at h1 h2
      rw [thq_at h1 h2] at hst
      have hput := put_cl hcl h1 h2
      rw [← fold_snoc] at hput
      have hlf := hcl.len
      have hQ := c_putV (r := foldR es.length ((ps.take i).filter (thq es))) (i := u) (k := v) (by simp [maxLen]; omega)
      rw [hput] at hQ
      generalize (ps.take i).filter (thq es) = F at *
      generalize hx : es[u] = x at *
      generalize hy : es[v] = y at *
      by_cases hth : x.th = y.th
      · simp only [hth, not_true_eq_false, decide_false, Bool.false_eq_true, if_false, List.append_nil] at hst
        repeat' (first
          | refine ar_end rfl ?_
          | refine ar_endD rfl (by kernel_rfl) ?_
          | refine ar_fin rfl ?_
          | refine ar_finD rfl (by kernel_rfl) ?_
          | refine bq_norm ?_
          | refine lq_normN [2, 6, 20, 21, 22] [.loc 2] (by simp; exact rfl) ⟨i + 1, by omega⟩ (by dsimp only; omega) (by simp [hst])
          | refine ar_go3 _ rfl (by simp [rl_len, rl_getE, rl_set, rl_nil, List.length_set, List.getElem_set, IntKind.bits, ub_shl1', ub_shr, ub_or, ub_and, ub_andNot, ub_bit, Int.toNat_natCast, ub_zero, evsL_len, evsL_getE, evL, prs_len, prs_getE, hlt, hd, hp, h1, h2, hx, hy, hth, hw]; exact ⟨rfl, rfl, rfl⟩) rfl ?_
          | refine aw_sregK 6 [2, 6, 20, 21, 22] ?_
          | refine aw_regK 6 [2, 6, 20, 21, 22] ?_
          | refine aw_sregK 7 [2, 6, 20, 21, 22] ?_
          | refine aw_regK 7 [2, 6, 20, 21, 22] ?_
          | refine aw_sregKD mixed 8 [2, 6, 8, 20, 21, 22] (by simp; exact rfl) ?_
          | refine aw_regKD mixed 8 [2, 6, 8, 20, 21, 22] (by simp; exact rfl) ?_
          | refine aw_sregK 9 [2, 6, 8, 20, 21, 22] ?_
          | refine aw_regK 9 [2, 6, 8, 20, 21, 22] ?_
          | refine aw_sregK 10 [2, 6, 20, 21, 22] ?_
          | refine aw_regK 10 [2, 6, 20, 21, 22] ?_
          | refine aw_sreg ?_
          | refine aw_sregD mixed ?_
          | refine aw_ifT (b := true) rfl rfl ?_
          | refine aw_ifF (b := false) rfl rfl ?_
          | refine aw_ifT rfl (by assumption) ?_
          | refine aw_ifF rfl (by assumption) ?_
          | refine aw_ifT rfl (decide_eq_true (by assumption)) ?_
          | refine aw_ifF rfl (decide_eq_false (by assumption)) ?_
          | refine aw_seq ?_
          | refine aw_block ?_
          | refine aw_skip ?_
          | refine aw_region ?_
          | refine aw_region_draw mixed ?_
          | refine aw_exit ?_
          | refine rq_exit ?_
          | refine blockQ_hit ?_
          | refine blockQ_miss (by decide) ?_
          | (refine ar_guard rfl rfl rfl rfl (fun h => ?_) (fun h => ?_) <;> (fail_if_success (cases h; done)) <;> (try simp at h) <;> (try subst h))
          | (refine aw_both rfl (fun h => ?_) (fun h => ?_) <;> (fail_if_success (cases h; done)) <;> (try simp at h) <;> (try subst h)))
      · simp only [hth, not_false_eq_true, decide_true, if_true] at hst
        repeat' (first
          | refine ar_end rfl ?_
          | refine ar_endD rfl (by kernel_rfl) ?_
          | refine ar_fin rfl ?_
          | refine ar_finD rfl (by kernel_rfl) ?_
          | refine ar_callV Try.call27 hQ rfl rfl rfl rfl rfl (by simp; done) (by rfl) (by simp; done) ?_
          | refine ar_callV_if Try.call27 hQ rfl rfl rfl rfl rfl rfl (by simp; done) rfl (by rfl) (by simp; done) ?_
          | refine bq_norm ?_
          | refine lq_normN [2, 6, 20, 21, 22] [.loc 2] (by simp; exact rfl) ⟨i + 1, by omega⟩ (by dsimp only; omega) (by simp [hst])
          | refine ar_go3 _ rfl (by simp [rl_len, rl_getE, rl_set, rl_nil, List.length_set, List.getElem_set, IntKind.bits, ub_shl1', ub_shr, ub_or, ub_and, ub_andNot, ub_bit, Int.toNat_natCast, ub_zero, evsL_len, evsL_getE, evL, prs_len, prs_getE, hlt, hd, hp, h1, h2, hx, hy, hth, hw]; exact ⟨rfl, rfl, rfl⟩) rfl ?_
          | refine aw_sregK 6 [2, 6, 20, 21, 22] ?_
          | refine aw_regK 6 [2, 6, 20, 21, 22] ?_
          | refine aw_sregK 7 [2, 6, 20, 21, 22] ?_
          | refine aw_regK 7 [2, 6, 20, 21, 22] ?_
          | refine aw_sregKD mixed 8 [2, 6, 8, 20, 21, 22] (by simp; exact rfl) ?_
          | refine aw_regKD mixed 8 [2, 6, 8, 20, 21, 22] (by simp; exact rfl) ?_
          | refine aw_sregK 9 [2, 6, 8, 20, 21, 22] ?_
          | refine aw_regK 9 [2, 6, 8, 20, 21, 22] ?_
          | refine aw_sregK 10 [2, 6, 20, 21, 22] ?_
          | refine aw_regK 10 [2, 6, 20, 21, 22] ?_
          | refine aw_sreg ?_
          | refine aw_sregD mixed ?_
          | refine aw_ifT (b := true) rfl rfl ?_
          | refine aw_ifF (b := false) rfl rfl ?_
          | refine aw_ifT rfl (by assumption) ?_
          | refine aw_ifF rfl (by assumption) ?_
          | refine aw_ifT rfl (decide_eq_true (by assumption)) ?_
          | refine aw_ifF rfl (decide_eq_false (by assumption)) ?_
          | refine aw_seq ?_
          | refine aw_block ?_
          | refine aw_skip ?_
          | refine aw_region ?_
          | refine aw_region_draw mixed ?_
          | refine aw_exit ?_
          | refine rq_exit ?_
          | refine blockQ_hit ?_
          | refine blockQ_miss (by decide) ?_
          | (refine ar_guard rfl rfl rfl rfl (fun h => ?_) (fun h => ?_) <;> (fail_if_success (cases h; done)) <;> (try simp at h) <;> (try subst h))
          | (refine aw_both rfl (fun h => ?_) (fun h => ?_) <;> (fail_if_success (cases h; done)) <;> (try simp at h) <;> (try subst h)))
    · have hd : ¬(i : Int) < (ps.length : Int) := by omega
      have et : ps.take i = ps := List.take_of_length_le (by omega)
      repeat' (first
        | exact aw_ret (ret_vals (by simp; exact rfl) (by simp [et]; fail_if_success (show _)))
        | exact aw_ret (ret_vals (by simp; exact rfl) (by simp [et]; omega))
        | refine ar_end rfl ?_
        | refine ar_endD rfl (by kernel_rfl) ?_
        | refine ar_fin rfl ?_
        | refine ar_finD rfl (by kernel_rfl) ?_
        | refine lq_exit ?_
        | refine ar_go3 _ rfl (by simp [rl_len, rl_getE, rl_set, rl_nil, List.length_set, List.getElem_set, IntKind.bits, ub_shl1', ub_shr, ub_or, ub_and, ub_andNot, ub_bit, Int.toNat_natCast, ub_zero, hd]; exact ⟨rfl, rfl, rfl⟩) rfl ?_
        | refine aw_sregK 6 [2, 6, 20, 21, 22] ?_
        | refine aw_regK 6 [2, 6, 20, 21, 22] ?_
        | refine aw_sregK 11 [6] ?_
        | refine aw_regK 11 [6] ?_
        | refine aw_sreg ?_
        | refine aw_sregD mixed ?_
        | refine aw_ifT (b := true) rfl rfl ?_
        | refine aw_ifF (b := false) rfl rfl ?_
        | refine aw_ifT rfl (by assumption) ?_
        | refine aw_ifF rfl (by assumption) ?_
        | refine aw_ifT rfl (decide_eq_true (by assumption)) ?_
        | refine aw_ifF rfl (decide_eq_false (by assumption)) ?_
        | refine aw_seq ?_
        | refine aw_block ?_
        | refine aw_skip ?_
        | refine aw_region ?_
        | refine aw_region_draw mixed ?_
        | refine aw_exit ?_
        | refine rq_exit ?_
        | refine blockQ_hit ?_
        | refine blockQ_miss (by decide) ?_
        | (refine ar_guard rfl rfl rfl rfl (fun h => ?_) (fun h => ?_) <;> (fail_if_success (cases h; done)) <;> (try simp at h) <;> (try subst h))
        | (refine aw_both rfl (fun h => ?_) (fun h => ?_) <;> (fail_if_success (cases h; done)) <;> (try simp at h) <;> (try subst h)))
  · have hc : ¬(r.length : Int) = (es.length : Int) := by omega
    unfold outerR
    rw [if_neg hle]
    refine scx_of Try.func15 rfl rfl rfl (Nat.le_of_ble_eq_true rfl) ?_
    repeat' (first
      | refine ar_end rfl ?_
      | refine ar_endD rfl (by kernel_rfl) ?_
      | refine ar_fin rfl ?_
      | refine ar_finD rfl (by kernel_rfl) ?_
      | refine ar_callV Try.call29 hN rfl rfl rfl rfl rfl (by simp; done) (by rfl) (by simp; done) ?_
      | refine ar_callV_if Try.call29 hN rfl rfl rfl rfl rfl rfl (by simp; done) rfl (by rfl) (by simp; done) ?_
      | exact aw_ret (ret_frz (.loc 18) (by simp; exact rfl) (by simp [rl_nil]; fail_if_success (show _)))
      | refine ar_go3 _ rfl (by simp [rl_len, rl_getE, rl_set, rl_nil, List.length_set, List.getElem_set, IntKind.bits, ub_shl1', ub_shr, ub_or, ub_and, ub_andNot, ub_bit, Int.toNat_natCast, ub_zero, evsL_len, evsL_getE, evL, prs_len, prs_getE, hle, hc]; exact ⟨rfl, rfl, rfl⟩) rfl ?_
      | refine aw_sregK 0 [0, 1] ?_
      | refine aw_regK 0 [0, 1] ?_
      | refine aw_sregK 1 [1, 2] ?_
      | refine aw_regK 1 [1, 2] ?_
      | refine aw_sregK 2 [1, 2, 5] ?_
      | refine aw_regK 2 [1, 2, 5] ?_
      | refine aw_sregK 3 [1, 2, 5, 6] ?_
      | refine aw_regK 3 [1, 2, 5, 6] ?_
      | refine aw_sregK 4 [] ?_
      | refine aw_regK 4 [] ?_
      | refine aw_sregK 5 [1, 2, 6] ?_
      | refine aw_regK 5 [1, 2, 6] ?_
      | refine aw_sreg ?_
      | refine aw_sregD mixed ?_
      | refine aw_ifT (b := true) rfl rfl ?_
      | refine aw_ifF (b := false) rfl rfl ?_
      | refine aw_ifT rfl (by assumption) ?_
      | refine aw_ifF rfl (by assumption) ?_
      | refine aw_ifT rfl (decide_eq_true (by assumption)) ?_
      | refine aw_ifF rfl (decide_eq_false (by assumption)) ?_
      | refine aw_seq ?_
      | refine aw_block ?_
      | refine aw_skip ?_
      | refine aw_region ?_
      | refine aw_region_draw mixed ?_
      | refine aw_exit ?_
      | refine rq_exit ?_
      | refine blockQ_hit ?_
      | refine blockQ_miss (by decide) ?_
      | (refine ar_guard rfl rfl rfl rfl (fun h => ?_) (fun h => ?_) <;> (fail_if_success (cases h; done)) <;> (try simp at h) <;> (try subst h))
      | (refine aw_both rfl (fun h => ?_) (fun h => ?_) <;> (fail_if_success (cases h; done)) <;> (try simp at h) <;> (try subst h)))
set_option maxHeartbeats 16000000 in
theorem c_evpairs {g : FuncId} {q : Ev → Ev → Bool} (hent : Enters Try.prog g) (hg : ∀ x y : Ev, SC Try.prog g [.agg (evL x), .agg (evL y)] (B (q x y))) {es : List Ev} (h32 : es.length ≤ 32) : SC Try.prog 75 [.agg (exL es), .fn g [] []] (.pv (.sl 1 (rl (eventsR q es)))) := by
  have hN := c_newV (n := es.length) h32
  have hnew : newR es.length = foldR es.length [] := rfl
  rw [hnew] at hN
  unfold eventsR
  rw [← upto_all]
  have hqk : ∀ i k, (hi : i < es.length) → (hk : k < es.length) → evq q es (i, k) = (decide (¬i = k) && q es[i] es[k]) := fun i k hi hk => evq_at hi hk
  generalize evq q es = qq at *
  refine scx_of Try.func75 rfl rfl rfl (Nat.le_of_ble_eq_true rfl) ?_
  repeat' (first
    | refine ar_end rfl ?_
    | refine ar_endD rfl (by kernel_rfl) ?_
    | refine ar_fin rfl ?_
    | refine ar_finD rfl (by kernel_rfl) ?_
    | refine ar_callV Try.call29 hN rfl rfl rfl rfl rfl (by simp; done) (by rfl) (by simp; done) ?_
    | refine ar_callV_if Try.call29 hN rfl rfl rfl rfl rfl rfl (by simp; done) rfl (by rfl) (by simp; done) ?_
    | refine ar_go3 _ rfl (by simp [rl_len, rl_getE, rl_set, rl_nil, List.length_set, List.getElem_set, IntKind.bits, ub_shl1', ub_shr, ub_or, ub_and, ub_andNot, ub_bit, Int.toNat_natCast, ub_zero, evsL_len, evsL_getE, evL, prs_len, prs_getE]; exact ⟨rfl, rfl, rfl⟩) rfl ?_
    | refine aw_sregK 0 [0, 1] ?_
    | refine aw_regK 0 [0, 1] ?_
    | refine aw_sregK 1 [1, 2] ?_
    | refine aw_regK 1 [1, 2] ?_
    | refine aw_sregK 2 [1, 2, 5] ?_
    | refine aw_regK 2 [1, 2, 5] ?_
    | refine aw_sreg ?_
    | refine aw_sregD mixed ?_
    | refine aw_ifT (b := true) rfl rfl ?_
    | refine aw_ifF (b := false) rfl rfl ?_
    | refine aw_ifT rfl (by assumption) ?_
    | refine aw_ifF rfl (by assumption) ?_
    | refine aw_ifT rfl (decide_eq_true (by assumption)) ?_
    | refine aw_ifF rfl (decide_eq_false (by assumption)) ?_
    | refine aw_seq ?_
    | refine aw_block ?_
    | refine aw_skip ?_
    | refine aw_region ?_
    | refine aw_region_draw mixed ?_
    | refine aw_exit ?_
    | refine rq_exit ?_
    | refine blockQ_hit ?_
    | refine blockQ_miss (by decide) ?_
    | (refine ar_guard rfl rfl rfl rfl (fun h => ?_) (fun h => ?_) <;> (fail_if_success (cases h; done)) <;> (try simp at h) <;> (try subst h))
    | (refine aw_both rfl (fun h => ?_) (fun h => ?_) <;> (fail_if_success (cases h; done)) <;> (try simp at h) <;> (try subst h)))
  refine aw_loopN [1, 2, 5, 15, 16, 17] [.loc 2] (by simp; exact rfl) (ι := {i : Nat // i ≤ es.length}) (fun i => ⟨46, [(1, .fn g [] []), (2, .ptr (.loc 2) 0), (5, .pv (.sl 1 (rl (foldR es.length (uptoF qq es.length i.1))))), (15, .pv (.sl 7 (evsL es))), (16, I .i64 es.length), (17, I .i64 i.1)], [(.loc 2, some (.box 28 [.pv (.sl 7 (evsL es)), .pv (.v (.slice none 0 0)), .pv (.v (.slice none 0 0)), .pv (.v (.slice none 0 0)), .pv (.v (.slice none 0 0)), .pv (.v (.slice none 0 0)), .pv (.v (.slice none 0 0))]))]⟩) (fun i => es.length - i.1) ⟨0, by omega⟩ (by simp [upto_zero, evsL_len]) ?_
  rintro ⟨i, hi⟩
  by_cases hlt : i < es.length
  · have hw : IntKind.wrap .i64 ((i : Int) + 1) = (i : Int) + 1 := wrap64s (by omega) (by omega)
    have hd : (i : Int) < (es.length : Int) := by omega
    have hus := upto_succ qq es.length i
    have hmU : ∀ p ∈ uptoF qq es.length i, p.2 < es.length := fun p hp => by
      unfold uptoF rowF at hp
      simp only [List.mem_flatMap, List.mem_filter, List.mem_map, List.mem_range] at hp
      obtain ⟨a, _, ⟨b, hb, rfl⟩, _⟩ := hp
      exact hb
    have hqi := fun k => hqk i k hlt
    generalize hx : es[i] = x at hqi
    generalize uptoF qq es.length i = U at *
    repeat' (first
      | refine ar_end rfl ?_
      | refine ar_endD rfl (by kernel_rfl) ?_
      | refine ar_fin rfl ?_
      | refine ar_finD rfl (by kernel_rfl) ?_
      | refine ar_go3 _ rfl (by simp [rl_len, rl_getE, rl_set, rl_nil, List.length_set, List.getElem_set, IntKind.bits, ub_shl1', ub_shr, ub_or, ub_and, ub_andNot, ub_bit, Int.toNat_natCast, ub_zero, evsL_len, evsL_getE, evL, prs_len, prs_getE, hlt, hd, hx]; exact ⟨rfl, rfl, rfl⟩) rfl ?_
      | refine aw_sregK 3 [1, 2, 5, 15, 16, 17] ?_
      | refine aw_regK 3 [1, 2, 5, 15, 16, 17] ?_
      | refine aw_sregK 4 [1, 2, 5, 15, 16, 17] ?_
      | refine aw_regK 4 [1, 2, 5, 15, 16, 17] ?_
      | refine aw_sregK 5 [1, 2, 5, 6, 7, 15, 16, 17] ?_
      | refine aw_regK 5 [1, 2, 5, 6, 7, 15, 16, 17] ?_
      | refine aw_sreg ?_
      | refine aw_sregD mixed ?_
      | refine aw_ifT (b := true) rfl rfl ?_
      | refine aw_ifF (b := false) rfl rfl ?_
      | refine aw_ifT rfl (by assumption) ?_
      | refine aw_ifF rfl (by assumption) ?_
      | refine aw_ifT rfl (decide_eq_true (by assumption)) ?_
      | refine aw_ifF rfl (decide_eq_false (by assumption)) ?_
      | refine aw_seq ?_
      | refine aw_block ?_
      | refine aw_skip ?_
      | refine aw_region ?_
      | refine aw_region_draw mixed ?_
      | refine aw_exit ?_
      | refine rq_exit ?_
      | refine blockQ_hit ?_
      | refine blockQ_miss (by decide) ?_
      | (refine ar_guard rfl rfl rfl rfl (fun h => ?_) (fun h => ?_) <;> (fail_if_success (cases h; done)) <;> (try simp at h) <;> (try subst h))
      | (refine aw_both rfl (fun h => ?_) (fun h => ?_) <;> (fail_if_success (cases h; done)) <;> (try simp at h) <;> (try subst h)))
    refine aw_loopN [1, 2, 5, 6, 7, 15, 16, 17, 23, 24, 25] [.loc 2, .loc 7] (by simp; exact rfl) (ι := {k : Nat // k ≤ es.length}) (fun k => ⟨46, [(1, .fn g [] []), (2, .ptr (.loc 2) 0), (5, .pv (.sl 1 (rl (foldR es.length (U ++ rowF qq i k.1))))), (6, I .i64 i), (7, .ptr (.loc 7) 0), (15, .pv (.sl 7 (evsL es))), (16, I .i64 es.length), (17, I .i64 i), (23, .pv (.sl 7 (evsL es))), (24, I .i64 es.length), (25, I .i64 k.1)], [(.loc 2, some (.box 28 [.pv (.sl 7 (evsL es)), .pv (.v (.slice none 0 0)), .pv (.v (.slice none 0 0)), .pv (.v (.slice none 0 0)), .pv (.v (.slice none 0 0)), .pv (.v (.slice none 0 0)), .pv (.v (.slice none 0 0))])), (.loc 7, some (.box 50 [I .i64 x.th, I .i64 x.k, I .i64 x.l, I .i64 x.v, B x.acq, B x.rel, B x.ex]))]⟩) (fun k => es.length - k.1) ⟨0, by omega⟩ (by simp [row_zero, evsL_len]) ?_
    rintro ⟨k, hk⟩
    by_cases hkl : k < es.length
    · have hw2 : IntKind.wrap .i64 ((k : Int) + 1) = (k : Int) + 1 := wrap64s (by omega) (by omega)
      have hd2 : (k : Int) < (es.length : Int) := by omega
      have hrs := row_succ qq i k
      have hmV : ∀ p ∈ rowF qq i k, p.2 < es.length := fun p hp => by
        unfold rowF at hp
        simp only [List.mem_filter, List.mem_map, List.mem_range] at hp
        obtain ⟨⟨b, hb, rfl⟩, _⟩ := hp
        show b < es.length
        omega
      have hcl : Cl es.length (foldR es.length (U ++ rowF qq i k)) := fold_cl h32 fun p hp => by
        rcases List.mem_append.1 hp with hp | hp
        · exact hmU p hp
        · exact hmV p hp
      have hput := put_cl hcl hlt hkl
      rw [← fold_snoc, List.append_assoc] at hput
      have hlf := hcl.len
      have hQ := c_putV (r := foldR es.length (U ++ rowF qq i k)) (i := i) (k := k) (by simp [maxLen]; omega)
      rw [hput] at hQ
      have hqk2 := hqi k hkl
      generalize hy : es[k] = y at hqk2
      have hG := hg x y
      generalize rowF qq i k = V at *
      by_cases hik : i = k
      · subst hik
        simp only [not_true_eq_false, decide_false, Bool.false_and] at hqk2
        rw [hqk2, if_neg (by decide), List.append_nil] at hrs
        repeat' (first
          | refine ar_end rfl ?_
          | refine ar_endD rfl (by kernel_rfl) ?_
          | refine ar_fin rfl ?_
          | refine ar_finD rfl (by kernel_rfl) ?_
          | refine bq_norm ?_
          | refine lq_normN [1, 2, 5, 6, 7, 15, 16, 17, 23, 24, 25] [.loc 2, .loc 7] (by simp; exact rfl) ⟨i + 1, by omega⟩ (by dsimp only; omega) (by simp [hrs])
          | refine ar_go3 _ rfl (by simp [rl_len, rl_getE, rl_set, rl_nil, List.length_set, List.getElem_set, IntKind.bits, ub_shl1', ub_shr, ub_or, ub_and, ub_andNot, ub_bit, Int.toNat_natCast, ub_zero, evsL_len, evsL_getE, evL, prs_len, prs_getE, hkl, hd2, hy, hw2]; exact ⟨rfl, rfl, rfl⟩) rfl ?_
          | refine aw_sregK 6 [1, 2, 5, 6, 7, 15, 16, 17, 23, 24, 25] ?_
          | refine aw_regK 6 [1, 2, 5, 6, 7, 15, 16, 17, 23, 24, 25] ?_
          | refine aw_sregK 7 [1, 2, 5, 6, 7, 15, 16, 17, 23, 24, 25] ?_
          | refine aw_regK 7 [1, 2, 5, 6, 7, 15, 16, 17, 23, 24, 25] ?_
          | refine aw_sregK 8 [1, 2, 5, 6, 7, 8, 9, 15, 16, 17, 23, 24, 25] ?_
          | refine aw_regK 8 [1, 2, 5, 6, 7, 8, 9, 15, 16, 17, 23, 24, 25] ?_
          | refine aw_sregK 9 [1, 2, 5, 6, 7, 8, 15, 16, 17, 23, 24, 25] ?_
          | refine aw_regK 9 [1, 2, 5, 6, 7, 8, 15, 16, 17, 23, 24, 25] ?_
          | refine aw_sregK 10 [1, 2, 5, 6, 7, 15, 16, 17, 23, 24, 25] ?_
          | refine aw_regK 10 [1, 2, 5, 6, 7, 15, 16, 17, 23, 24, 25] ?_
          | refine aw_sreg ?_
          | refine aw_sregD mixed ?_
          | refine aw_ifT (b := true) rfl rfl ?_
          | refine aw_ifF (b := false) rfl rfl ?_
          | refine aw_ifT rfl (by assumption) ?_
          | refine aw_ifF rfl (by assumption) ?_
          | refine aw_ifT rfl (decide_eq_true (by assumption)) ?_
          | refine aw_ifF rfl (decide_eq_false (by assumption)) ?_
          | refine aw_seq ?_
          | refine aw_block ?_
          | refine aw_skip ?_
          | refine aw_region ?_
          | refine aw_region_draw mixed ?_
          | refine aw_exit ?_
          | refine rq_exit ?_
          | refine blockQ_hit ?_
          | refine blockQ_miss (by decide) ?_
          | (refine ar_guard rfl rfl rfl rfl (fun h => ?_) (fun h => ?_) <;> (fail_if_success (cases h; done)) <;> (try simp at h) <;> (try subst h))
          | (refine aw_both rfl (fun h => ?_) (fun h => ?_) <;> (fail_if_success (cases h; done)) <;> (try simp at h) <;> (try subst h)))
      · have hik' : ¬(i : Int) = (k : Int) := by omega
        simp only [hik, not_false_eq_true, decide_true, Bool.true_and] at hqk2
        rw [hqk2] at hrs
        cases hb : q x y
        · rw [hb] at hrs hG
          rw [if_neg (by decide), List.append_nil] at hrs
          repeat' (first
            | refine ar_end rfl ?_
            | refine ar_endD rfl (by kernel_rfl) ?_
            | refine ar_fin rfl ?_
            | refine ar_finD rfl (by kernel_rfl) ?_
            | refine ar_callV_if hent hG rfl rfl rfl rfl rfl rfl (by simp; done) rfl (by rfl) (by simp; done) ?_
            | refine bq_norm ?_
            | refine lq_normN [1, 2, 5, 6, 7, 15, 16, 17, 23, 24, 25] [.loc 2, .loc 7] (by simp; exact rfl) ⟨k + 1, by omega⟩ (by dsimp only; omega) (by simp [hrs])
            | refine ar_go3 _ rfl (by simp [rl_len, rl_getE, rl_set, rl_nil, List.length_set, List.getElem_set, IntKind.bits, ub_shl1', ub_shr, ub_or, ub_and, ub_andNot, ub_bit, Int.toNat_natCast, ub_zero, evsL_len, evsL_getE, evL, prs_len, prs_getE, hkl, hd2, hy, hik', hw2]; exact ⟨rfl, rfl, rfl⟩) rfl ?_
            | refine aw_sregK 6 [1, 2, 5, 6, 7, 15, 16, 17, 23, 24, 25] ?_
            | refine aw_regK 6 [1, 2, 5, 6, 7, 15, 16, 17, 23, 24, 25] ?_
            | refine aw_sregK 7 [1, 2, 5, 6, 7, 15, 16, 17, 23, 24, 25] ?_
            | refine aw_regK 7 [1, 2, 5, 6, 7, 15, 16, 17, 23, 24, 25] ?_
            | refine aw_sregK 8 [1, 2, 5, 6, 7, 8, 9, 15, 16, 17, 23, 24, 25] ?_
            | refine aw_regK 8 [1, 2, 5, 6, 7, 8, 9, 15, 16, 17, 23, 24, 25] ?_
            | refine aw_sregK 9 [1, 2, 5, 6, 7, 8, 15, 16, 17, 23, 24, 25] ?_
            | refine aw_regK 9 [1, 2, 5, 6, 7, 8, 15, 16, 17, 23, 24, 25] ?_
            | refine aw_sregK 10 [1, 2, 5, 6, 7, 15, 16, 17, 23, 24, 25] ?_
            | refine aw_regK 10 [1, 2, 5, 6, 7, 15, 16, 17, 23, 24, 25] ?_
            | refine aw_sreg ?_
            | refine aw_sregD mixed ?_
            | refine aw_ifT (b := true) rfl rfl ?_
            | refine aw_ifF (b := false) rfl rfl ?_
            | refine aw_ifT rfl (by assumption) ?_
            | refine aw_ifF rfl (by assumption) ?_
            | refine aw_ifT rfl (decide_eq_true (by assumption)) ?_
            | refine aw_ifF rfl (decide_eq_false (by assumption)) ?_
            | refine aw_seq ?_
            | refine aw_block ?_
            | refine aw_skip ?_
            | refine aw_region ?_
            | refine aw_region_draw mixed ?_
            | refine aw_exit ?_
            | refine rq_exit ?_
            | refine blockQ_hit ?_
            | refine blockQ_miss (by decide) ?_
            | (refine ar_guard rfl rfl rfl rfl (fun h => ?_) (fun h => ?_) <;> (fail_if_success (cases h; done)) <;> (try simp at h) <;> (try subst h))
            | (refine aw_both rfl (fun h => ?_) (fun h => ?_) <;> (fail_if_success (cases h; done)) <;> (try simp at h) <;> (try subst h)))
        · rw [hb] at hrs hG
          rw [if_pos rfl] at hrs
          repeat' (first
            | refine ar_end rfl ?_
            | refine ar_endD rfl (by kernel_rfl) ?_
            | refine ar_fin rfl ?_
            | refine ar_finD rfl (by kernel_rfl) ?_
            | refine ar_callV Try.call27 hQ rfl rfl rfl rfl rfl (by simp; done) (by rfl) (by simp; done) ?_
            | refine ar_callV_if Try.call27 hQ rfl rfl rfl rfl rfl rfl (by simp; done) rfl (by rfl) (by simp; done) ?_
            | refine ar_callV_if hent hG rfl rfl rfl rfl rfl rfl (by simp; done) rfl (by rfl) (by simp; done) ?_
            | refine bq_norm ?_
            | refine lq_normN [1, 2, 5, 6, 7, 15, 16, 17, 23, 24, 25] [.loc 2, .loc 7] (by simp; exact rfl) ⟨k + 1, by omega⟩ (by dsimp only; omega) (by simp [hrs])
            | refine ar_go3 _ rfl (by simp [rl_len, rl_getE, rl_set, rl_nil, List.length_set, List.getElem_set, IntKind.bits, ub_shl1', ub_shr, ub_or, ub_and, ub_andNot, ub_bit, Int.toNat_natCast, ub_zero, evsL_len, evsL_getE, evL, prs_len, prs_getE, hkl, hd2, hy, hik', hw2]; exact ⟨rfl, rfl, rfl⟩) rfl ?_
            | refine aw_sregK 6 [1, 2, 5, 6, 7, 15, 16, 17, 23, 24, 25] ?_
            | refine aw_regK 6 [1, 2, 5, 6, 7, 15, 16, 17, 23, 24, 25] ?_
            | refine aw_sregK 7 [1, 2, 5, 6, 7, 15, 16, 17, 23, 24, 25] ?_
            | refine aw_regK 7 [1, 2, 5, 6, 7, 15, 16, 17, 23, 24, 25] ?_
            | refine aw_sregK 8 [1, 2, 5, 6, 7, 8, 9, 15, 16, 17, 23, 24, 25] ?_
            | refine aw_regK 8 [1, 2, 5, 6, 7, 8, 9, 15, 16, 17, 23, 24, 25] ?_
            | refine aw_sregK 9 [1, 2, 5, 6, 7, 8, 15, 16, 17, 23, 24, 25] ?_
            | refine aw_regK 9 [1, 2, 5, 6, 7, 8, 15, 16, 17, 23, 24, 25] ?_
            | refine aw_sregK 10 [1, 2, 5, 6, 7, 15, 16, 17, 23, 24, 25] ?_
            | refine aw_regK 10 [1, 2, 5, 6, 7, 15, 16, 17, 23, 24, 25] ?_
            | refine aw_sreg ?_
            | refine aw_sregD mixed ?_
            | refine aw_ifT (b := true) rfl rfl ?_
            | refine aw_ifF (b := false) rfl rfl ?_
            | refine aw_ifT rfl (by assumption) ?_
            | refine aw_ifF rfl (by assumption) ?_
            | refine aw_ifT rfl (decide_eq_true (by assumption)) ?_
            | refine aw_ifF rfl (decide_eq_false (by assumption)) ?_
            | refine aw_seq ?_
            | refine aw_block ?_
            | refine aw_skip ?_
            | refine aw_region ?_
            | refine aw_region_draw mixed ?_
            | refine aw_exit ?_
            | refine rq_exit ?_
            | refine blockQ_hit ?_
            | refine blockQ_miss (by decide) ?_
            | (refine ar_guard rfl rfl rfl rfl (fun h => ?_) (fun h => ?_) <;> (fail_if_success (cases h; done)) <;> (try simp at h) <;> (try subst h))
            | (refine aw_both rfl (fun h => ?_) (fun h => ?_) <;> (fail_if_success (cases h; done)) <;> (try simp at h) <;> (try subst h)))
    · have hd2 : ¬(k : Int) < (es.length : Int) := by omega
      have hke : k = es.length := by omega
      subst hke
      rw [← hus]
      repeat' (first
        | refine ar_end rfl ?_
        | refine ar_endD rfl (by kernel_rfl) ?_
        | refine ar_fin rfl ?_
        | refine ar_finD rfl (by kernel_rfl) ?_
        | refine lq_exit ?_
        | refine bq_norm ?_
        | refine lq_normN [1, 2, 5, 15, 16, 17] [.loc 2] (by simp; exact rfl) ⟨i + 1, by omega⟩ (by dsimp only; omega) (by simp [hd])
        | refine ar_go3 _ rfl (by simp [rl_len, rl_getE, rl_set, rl_nil, List.length_set, List.getElem_set, IntKind.bits, ub_shl1', ub_shr, ub_or, ub_and, ub_andNot, ub_bit, Int.toNat_natCast, ub_zero, evsL_len, evsL_getE, evL, prs_len, prs_getE, hd2, hw]; exact ⟨rfl, rfl, rfl⟩) rfl ?_
        | refine aw_sregK 6 [1, 2, 5, 6, 7, 15, 16, 17, 23, 24, 25] ?_
        | refine aw_regK 6 [1, 2, 5, 6, 7, 15, 16, 17, 23, 24, 25] ?_
        | refine aw_sregK 11 [1, 2, 5, 15, 16, 17] ?_
        | refine aw_regK 11 [1, 2, 5, 15, 16, 17] ?_
        | refine aw_sreg ?_
        | refine aw_sregD mixed ?_
        | refine aw_ifT (b := true) rfl rfl ?_
        | refine aw_ifF (b := false) rfl rfl ?_
        | refine aw_ifT rfl (by assumption) ?_
        | refine aw_ifF rfl (by assumption) ?_
        | refine aw_ifT rfl (decide_eq_true (by assumption)) ?_
        | refine aw_ifF rfl (decide_eq_false (by assumption)) ?_
        | refine aw_seq ?_
        | refine aw_block ?_
        | refine aw_skip ?_
        | refine aw_region ?_
        | refine aw_region_draw mixed ?_
        | refine aw_exit ?_
        | refine rq_exit ?_
        | refine blockQ_hit ?_
        | refine blockQ_miss (by decide) ?_
        | (refine ar_guard rfl rfl rfl rfl (fun h => ?_) (fun h => ?_) <;> (fail_if_success (cases h; done)) <;> (try simp at h) <;> (try subst h))
        | (refine aw_both rfl (fun h => ?_) (fun h => ?_) <;> (fail_if_success (cases h; done)) <;> (try simp at h) <;> (try subst h)))
  · have hd : ¬(i : Int) < (es.length : Int) := by omega
    have hie : i = es.length := by omega
    subst hie
    repeat' (first
      | exact aw_ret (ret_vals (by simp; exact rfl) (by simp [*]; fail_if_success (show _)))
      | exact aw_ret (ret_vals (by simp; exact rfl) (by simp [*]; omega))
      | refine ar_end rfl ?_
      | refine ar_endD rfl (by kernel_rfl) ?_
      | refine ar_fin rfl ?_
      | refine ar_finD rfl (by kernel_rfl) ?_
      | refine lq_exit ?_
      | refine ar_go3 _ rfl (by simp [rl_len, rl_getE, rl_set, rl_nil, List.length_set, List.getElem_set, IntKind.bits, ub_shl1', ub_shr, ub_or, ub_and, ub_andNot, ub_bit, Int.toNat_natCast, ub_zero, hd]; exact ⟨rfl, rfl, rfl⟩) rfl ?_
      | refine aw_sregK 3 [1, 2, 5, 15, 16, 17] ?_
      | refine aw_regK 3 [1, 2, 5, 15, 16, 17] ?_
      | refine aw_sregK 12 [5] ?_
      | refine aw_regK 12 [5] ?_
      | refine aw_sreg ?_
      | refine aw_sregD mixed ?_
      | refine aw_ifT (b := true) rfl rfl ?_
      | refine aw_ifF (b := false) rfl rfl ?_
      | refine aw_ifT rfl (by assumption) ?_
      | refine aw_ifF rfl (by assumption) ?_
      | refine aw_ifT rfl (decide_eq_true (by assumption)) ?_
      | refine aw_ifF rfl (decide_eq_false (by assumption)) ?_
      | refine aw_seq ?_
      | refine aw_block ?_
      | refine aw_skip ?_
      | refine aw_region ?_
      | refine aw_region_draw mixed ?_
      | refine aw_exit ?_
      | refine rq_exit ?_
      | refine blockQ_hit ?_
      | refine blockQ_miss (by decide) ?_
      | (refine ar_guard rfl rfl rfl rfl (fun h => ?_) (fun h => ?_) <;> (fail_if_success (cases h; done)) <;> (try simp at h) <;> (try subst h))
      | (refine aw_both rfl (fun h => ?_) (fun h => ?_) <;> (fail_if_success (cases h; done)) <;> (try simp at h) <;> (try subst h)))
def innerQ (x y : Ev) : Bool := decide (x.th = y.th)
set_option maxHeartbeats 16000000 in
theorem c_inner1 {x y : Ev} : SC Try.prog 78 [.agg (evL x), .agg (evL y)] (B (innerQ x y)) := by
  refine scx_of Try.func78 rfl rfl rfl (Nat.le_of_ble_eq_true rfl) ?_
  repeat' (first
    | exact aw_ret (ret_vals (by simp; exact rfl) (by simp [innerQ]; fail_if_success (show _)))
    | exact aw_ret (ret_vals (by simp; exact rfl) (by simp [innerQ]; omega))
    | refine ar_end rfl ?_
    | refine ar_endD rfl (by kernel_rfl) ?_
    | refine ar_fin rfl ?_
    | refine ar_finD rfl (by kernel_rfl) ?_
    | refine ar_go3 _ rfl (by simp [evL]; exact ⟨rfl, rfl, rfl⟩) rfl ?_
    | refine aw_sregK 0 [0, 1] ?_
    | refine aw_regK 0 [0, 1] ?_
    | refine aw_sregK 1 [2, 3] ?_
    | refine aw_regK 1 [2, 3] ?_
    | refine aw_sreg ?_
    | refine aw_sregD mixed ?_
    | refine aw_ifT (b := true) rfl rfl ?_
    | refine aw_ifF (b := false) rfl rfl ?_
    | refine aw_ifT rfl (by assumption) ?_
    | refine aw_ifF rfl (by assumption) ?_
    | refine aw_ifT rfl (decide_eq_true (by assumption)) ?_
    | refine aw_ifF rfl (decide_eq_false (by assumption)) ?_
    | refine aw_seq ?_
    | refine aw_block ?_
    | refine aw_skip ?_
    | refine aw_region ?_
    | refine aw_region_draw mixed ?_
    | refine aw_exit ?_
    | refine rq_exit ?_
    | refine blockQ_hit ?_
    | refine blockQ_miss (by decide) ?_
    | (refine ar_guard rfl rfl rfl rfl (fun h => ?_) (fun h => ?_) <;> (fail_if_success (cases h; done)) <;> (try simp at h) <;> (try subst h))
    | (refine aw_both rfl (fun h => ?_) (fun h => ?_) <;> (fail_if_success (cases h; done)) <;> (try simp at h) <;> (try subst h)))
set_option maxHeartbeats 16000000 in
theorem c_inner {es : List Ev} (h32 : es.length ≤ 32) : SC Try.prog 50 [.agg (exL es)] (.pv (.sl 1 (rl (eventsR innerQ es)))) := by
  have h := c_evpairs Try.call78 (fun x y => c_inner1) h32
  refine scx_of Try.func50 rfl rfl rfl (Nat.le_of_ble_eq_true rfl) ?_
  repeat' (first
    | exact aw_ret (ret_vals (by simp; exact rfl) (by simp [*]; fail_if_success (show _)))
    | exact aw_ret (ret_vals (by simp; exact rfl) (by simp [*]; omega))
    | refine ar_end rfl ?_
    | refine ar_endD rfl (by kernel_rfl) ?_
    | refine ar_fin rfl ?_
    | refine ar_finD rfl (by kernel_rfl) ?_
    | refine ar_callV Try.call75 h rfl rfl rfl rfl rfl (by simp; done) (by rfl) (by simp; done) ?_
    | refine ar_callV_if Try.call75 h rfl rfl rfl rfl rfl rfl (by simp; done) rfl (by rfl) (by simp; done) ?_
    | refine ar_go3 _ rfl (by simp [*]; exact ⟨rfl, rfl, rfl⟩) rfl ?_
    | refine aw_sregK 0 [0] ?_
    | refine aw_regK 0 [0] ?_
    | refine aw_sregK 1 [1] ?_
    | refine aw_regK 1 [1] ?_
    | refine aw_sreg ?_
    | refine aw_sregD mixed ?_
    | refine aw_ifT (b := true) rfl rfl ?_
    | refine aw_ifF (b := false) rfl rfl ?_
    | refine aw_ifT rfl (by assumption) ?_
    | refine aw_ifF rfl (by assumption) ?_
    | refine aw_ifT rfl (decide_eq_true (by assumption)) ?_
    | refine aw_ifF rfl (decide_eq_false (by assumption)) ?_
    | refine aw_seq ?_
    | refine aw_block ?_
    | refine aw_skip ?_
    | refine aw_region ?_
    | refine aw_region_draw mixed ?_
    | refine aw_exit ?_
    | refine rq_exit ?_
    | refine blockQ_hit ?_
    | refine blockQ_miss (by decide) ?_
    | (refine ar_guard rfl rfl rfl rfl (fun h => ?_) (fun h => ?_) <;> (fail_if_success (cases h; done)) <;> (try simp at h) <;> (try subst h))
    | (refine aw_both rfl (fun h => ?_) (fun h => ?_) <;> (fail_if_success (cases h; done)) <;> (try simp at h) <;> (try subst h)))
set_option maxHeartbeats 16000000 in
theorem c_within {es : List Ev} {r : RL} (h32 : es.length ≤ 32) (hl : r.length ≤ maxLen) : SC Try.prog 14 [.agg (exL es), .pv (.sl 1 (rl r))] (.pv (.sl 1 (rl (bothR (· &&& ·) r (eventsR innerQ es))))) := by
  have h := c_inner h32
  have hA := c_andV (a := r) (b := eventsR innerQ es) hl (by rw [(events_cl h32).len]; simp [maxLen]; omega)
  refine scx_of Try.func14 rfl rfl rfl (Nat.le_of_ble_eq_true rfl) ?_
  repeat' (first
    | exact aw_ret (ret_vals (by simp; exact rfl) (by simp [*]; fail_if_success (show _)))
    | exact aw_ret (ret_vals (by simp; exact rfl) (by simp [*]; omega))
    | refine ar_end rfl ?_
    | refine ar_endD rfl (by kernel_rfl) ?_
    | refine ar_fin rfl ?_
    | refine ar_finD rfl (by kernel_rfl) ?_
    | refine ar_callV Try.call50 h rfl rfl rfl rfl rfl (by simp; done) (by rfl) (by simp; done) ?_
    | refine ar_callV_if Try.call50 h rfl rfl rfl rfl rfl rfl (by simp; done) rfl (by rfl) (by simp; done) ?_
    | refine ar_callV Try.call20 hA rfl rfl rfl rfl rfl (by simp; done) (by rfl) (by simp; done) ?_
    | refine ar_callV_if Try.call20 hA rfl rfl rfl rfl rfl rfl (by simp; done) rfl (by rfl) (by simp; done) ?_
    | refine ar_go3 _ rfl (by simp [*]; exact ⟨rfl, rfl, rfl⟩) rfl ?_
    | refine aw_sregK 0 [0, 1] ?_
    | refine aw_regK 0 [0, 1] ?_
    | refine aw_sregK 1 [1, 2] ?_
    | refine aw_regK 1 [1, 2] ?_
    | refine aw_sreg ?_
    | refine aw_sregD mixed ?_
    | refine aw_ifT (b := true) rfl rfl ?_
    | refine aw_ifF (b := false) rfl rfl ?_
    | refine aw_ifT rfl (by assumption) ?_
    | refine aw_ifF rfl (by assumption) ?_
    | refine aw_ifT rfl (decide_eq_true (by assumption)) ?_
    | refine aw_ifF rfl (decide_eq_false (by assumption)) ?_
    | refine aw_seq ?_
    | refine aw_block ?_
    | refine aw_skip ?_
    | refine aw_region ?_
    | refine aw_region_draw mixed ?_
    | refine aw_exit ?_
    | refine rq_exit ?_
    | refine blockQ_hit ?_
    | refine blockQ_miss (by decide) ?_
    | (refine ar_guard rfl rfl rfl rfl (fun h => ?_) (fun h => ?_) <;> (fail_if_success (cases h; done)) <;> (try simp at h) <;> (try subst h))
    | (refine aw_both rfl (fun h => ?_) (fun h => ?_) <;> (fail_if_success (cases h; done)) <;> (try simp at h) <;> (try subst h)))
end Go.Eng
