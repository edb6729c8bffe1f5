import Derived.Test.YtclegllogeanlaaRelD
set_option linter.unusedSimpArgs false
set_option linter.unusedVariables false
set_option linter.constructorNameAsVariable false
set_option autoImplicit false
namespace Go.Eng
open Go Go.RowKit Go.Proofs
set_option maxHeartbeats 16000000 in
theorem c_shown13 : SC Try.prog 13 [] (B true) := by
  have hF := c_fr (es := [⟨0, 2, 0, 0, false, false, false⟩, ⟨0, 2, 0, 1, false, false, false⟩, ⟨0, 1, 0, 0, false, false, false⟩]) (fm := [-2, -2, 0]) (co := [2#32, 0#32, 0#32]) (by decide)
  have hS := c_same (a := frR [⟨0, 2, 0, 0, false, false, false⟩, ⟨0, 2, 0, 1, false, false, false⟩, ⟨0, 1, 0, 0, false, false, false⟩] [-2, -2, 0] [2#32, 0#32, 0#32]) (b := [0#32, 0#32, 2#32]) (by show (frUp _ _ _ _).length ≤ _; rw [(fr_len (by decide) _).len]; decide) (by decide)
  have e : sameR (frR [⟨0, 2, 0, 0, false, false, false⟩, ⟨0, 2, 0, 1, false, false, false⟩, ⟨0, 1, 0, 0, false, false, false⟩] [-2, -2, 0] [2#32, 0#32, 0#32]) [0#32, 0#32, 2#32] = true := by decide +kernel
  rw [e] at hS
  generalize frR [⟨0, 2, 0, 0, false, false, false⟩, ⟨0, 2, 0, 1, false, false, false⟩, ⟨0, 1, 0, 0, false, false, false⟩] [-2, -2, 0] [2#32, 0#32, 0#32] = R at *
  have z0 : rl [2#32, 0#32, 0#32] = [[C .u32 2], [C .u32 0], [C .u32 0]] := rfl
  have z1 : rl [0#32, 0#32, 2#32] = [[C .u32 0], [C .u32 0], [C .u32 2]] := rfl
  simp only [evsL, evL, ints, List.map_cons, List.map_nil, z0] at hF
  rw [z1] at hS
  refine scx_of Try.func13 rfl rfl rfl (Nat.le_of_ble_eq_true rfl) ?_
  repeat' (first
    | exact aw_ret (ret_vals (by simp; exact rfl) (by simp [*]; fail_if_success (show _)))
    | exact aw_ret (ret_vals (by simp; exact rfl) (by simp [*]; omega))
    | refine ar_end rfl ?_
    | refine ar_endD rfl (by kernel_rfl) ?_
    | refine ar_fin rfl ?_
    | refine ar_finD rfl (by kernel_rfl) ?_
    | refine ar_frzV Try.call44 hF rfl rfl rfl rfl (by simp; exact rfl) (by simp; fail_if_success (show _)) (by simp; exact rfl) rfl (by simp; done) (by first | (simp; done) | (simp; exact rfl)) ⟨by rfl, by rfl, by rfl⟩ ?_
    | refine ar_frzV Try.call21 hS rfl rfl rfl rfl (by simp; exact rfl) (by simp; fail_if_success (show _)) (by simp; exact rfl) rfl (by simp; done) (by first | (simp; done) | (simp; exact rfl)) ⟨by rfl, by rfl, by rfl⟩ ?_
    | refine ar_frz rfl rfl (by simp; exact rfl) rfl (by simp; fail_if_success (show _)) (by simp; exact rfl) (by simp; exact rfl) rfl (by simp; fail_if_success (show _)) ?_
    | refine ar_go3 _ rfl (by simp [*]; exact ⟨rfl, rfl, rfl⟩) rfl ?_
    | refine aw_sregK 0 [] ?_
    | refine aw_regK 0 [] ?_
    | refine aw_sregK 1 [] ?_
    | refine aw_regK 1 [] ?_
    | refine aw_sregK 2 [1] ?_
    | refine aw_regK 2 [1] ?_
    | refine aw_sreg ?_
    | refine aw_sregD mixed ?_
    | refine aw_ifT (b := true) rfl rfl ?_
    | refine aw_ifF (b := false) rfl rfl ?_
    | refine aw_ifT rfl (by assumption) ?_
    | refine aw_ifF rfl (by assumption) ?_
    | refine aw_ifT rfl (decide_eq_true (by assumption)) ?_
    | refine aw_ifF rfl (decide_eq_false (by assumption)) ?_
    | refine aw_seq ?_
    | refine aw_block ?_
    | refine aw_skip ?_
    | refine aw_region ?_
    | refine aw_region_draw mixed ?_
    | refine aw_exit ?_
    | refine rq_exit ?_
    | refine blockQ_hit ?_
    | refine blockQ_miss (by decide) ?_
    | (refine ar_guard rfl rfl rfl rfl (fun h => ?_) (fun h => ?_) <;> (fail_if_success (cases h; done)) <;> (try simp at h) <;> (try subst h))
    | (refine aw_both rfl (fun h => ?_) (fun h => ?_) <;> (fail_if_success (cases h; done)) <;> (try simp at h) <;> (try subst h)))
theorem inv_clean (r : RL) : invR (cleanR r) = invR r := by unfold invR; rw [clean_clean]
/-- What is within threads, what is between, and what leads from things to themselves, up to one. -/
structure PartQ (l : List Ev) (r : RL) (i : Nat) (U : RL) : Prop where
  cl : Cl l.length U
  bit : ∀ a b, a < l.length → b < l.length → bitR U a b = (bitR r a b && decide (¬a = b ∨ a < i))
theorem part_zero {l : List Ev} {r : RL} (h32 : l.length ≤ 32) (hl : r.length = l.length) : PartQ l r 0 (bothR (· ||| ·) (bothR (· &&& ·) r (eventsR innerQ l)) (outerR l r)) := by
  have hc := clean_cl (r := r) (by omega)
  rw [hl] at hc
  have hA := andR hc (events_cl (q := innerQ) h32)
  rw [both_cleanL] at hA
  have hO := outer_cl hl h32
  have hU := orR hA.1 hO.1
  refine ⟨hU.1, fun a b ha hb => ?_⟩
  rw [hU.2, hA.2, hO.2 a b ha hb, clean_bit (by omega), events_bit h32 ha hb, hl]
  unfold innerQ
  by_cases hab : a = b
  · subst hab; simp
  · cases bitR r a b
    · simp
    · by_cases ht : l[a].th = l[b].th
      · simp [hab, hb, ht]
      · simp [hab, hb, ht]
theorem part_succ {l : List Ev} {r : RL} (h32 : l.length ≤ 32) (hl : r.length = l.length) {i : Nat} {U : RL} (h : PartQ l r i U) (hi : i < l.length) : PartQ l r (i + 1) (bothR (· ||| ·) U (onlyR r (1#32 <<< i) (1#32 <<< i))) := by
  have hc := only_cl (a := r) (by omega) (1#32 <<< i) (1#32 <<< i)
  rw [hl] at hc
  have hU := orR h.cl hc
  refine ⟨hU.1, fun a b ha hb => ?_⟩
  rw [hU.2, h.bit a b ha hb, only_bit, clean_bit (by omega), shl1_bit, shl1_bit, hl]
  cases bitR r a b
  · simp
  · by_cases hab : a = b
    · subst hab
      by_cases h1 : a < i
      · simp [hb, h1, show a < i + 1 by omega]
      · by_cases h2 : a = i
        · subst h2; simp [hb]; omega
        · simp [hb, h1, h2, show ¬a < i + 1 by omega]
    · simp [hab, hb]
theorem part_has {l : List Ev} {r : RL} {i : Nat} {U : RL} (h : PartQ l r i U) (hi : i < l.length) : hasR U i i = false := by
  rw [has_nat h.cl, h.bit i i hi hi]; simp
theorem part_end {l : List Ev} {r : RL} (hl : r.length = l.length) {U : RL} (h : PartQ l r l.length U) : sameR U r = true := by
  unfold sameR
  have h32 := h.cl.n32
  have hc := clean_cl (r := r) (by omega)
  rw [hl] at hc
  refine decide_eq_true ?_
  rw [h.cl.clean]
  refine h.cl.ext hc fun a b ha hb => ?_
  rw [h.bit a b ha hb, clean_bit (by omega), hl]
  simp [ha, hb]
theorem part_apart {l : List Ev} {r : RL} (h32 : l.length ≤ 32) (hl : r.length = l.length) : pairsR (bothR (· &&& ·) (bothR (· &&& ·) r (eventsR innerQ l)) (outerR l r)) = [] := by
  have hc := clean_cl (r := r) (by omega)
  rw [hl] at hc
  have hA := andR hc (events_cl (q := innerQ) h32)
  rw [both_cleanL] at hA
  have hO := outer_cl hl h32
  have hU := andR hA.1 hO.1
  rw [List.eq_nil_iff_forall_not_mem]
  intro p hp
  obtain ⟨h1, h2, h3⟩ := mem_pairs.1 hp
  rw [hU.1.clean] at h1 h2 h3
  rw [hU.1.len] at h1 h2
  rw [hU.2, hA.2, hO.2 _ _ h1 h2, events_bit h32 h1 h2] at h3
  unfold innerQ at h3
  simp at h3
  exact h3.2.2 h3.1.2.2
theorem part_inv {l : List Ev} {r : RL} (h32 : l.length ≤ 32) (hl : r.length = l.length) : sameR (invR (outerR l r)) (outerR l (invR r)) = true := by
  have hc := clean_cl (r := r) (by omega)
  rw [hl] at hc
  have hO := outer_cl hl h32
  have hI := inv_cl hc
  rw [inv_clean] at hI
  have hIO := inv_cl hO.1
  have hOI := outer_cl (es := l) (r := invR r) hI.1.len h32
  unfold sameR
  refine decide_eq_true ?_
  rw [hIO.1.clean, hOI.1.clean]
  refine hIO.1.ext hOI.1 fun a b ha hb => ?_
  rw [hIO.2 a b ha hb, hO.2 b a hb ha, hOI.2 a b ha hb, hI.2 a b ha hb, clean_bit (by omega), hl]
  simp [ha, eq_comm]
set_option maxHeartbeats 16000000 in
theorem law_DeriveParts {l : List Ev} {r : RL} (hrl : r.length ≤ maxLen) : SC Try.prog 3 [.pv (.sl 7 (evsL l)), .pv (.sl 1 (rl r))] (B true) := by
  by_cases h24 : 24 < (l.length : Int)
  · refine scx_of Try.func3 rfl rfl rfl (Nat.le_of_ble_eq_true rfl) ?_
    repeat' (first
      | exact aw_ret (ret_vals (by simp; exact rfl) (by simp [*]; fail_if_success (show _)))
      | exact aw_ret (ret_vals (by simp; exact rfl) (by simp [*]; omega))
      | refine ar_end rfl ?_
      | refine ar_endD rfl (by kernel_rfl) ?_
      | refine ar_fin rfl ?_
      | refine ar_finD rfl (by kernel_rfl) ?_
      | refine ar_callV Try.call13 c_shown13 rfl rfl rfl rfl rfl (by simp; done) (by rfl) (by simp; done) ?_
      | refine ar_callV_if Try.call13 c_shown13 rfl rfl rfl rfl rfl rfl (by simp; done) rfl (by rfl) (by simp; done) ?_
      | refine ar_go3 _ rfl (by simp [rl_len, rl_getE, rl_set, rl_nil, List.length_set, List.getElem_set, IntKind.bits, ub_shl1', ub_shr, ub_or, ub_and, ub_andNot, ub_bit, Int.toNat_natCast, ub_zero, evsL_len, evsL_getE, evL, prs_len, prs_getE, h24]; exact ⟨rfl, rfl, rfl⟩) rfl ?_
      | refine aw_sregK 0 [0, 1] ?_
      | refine aw_regK 0 [0, 1] ?_
      | refine aw_sregK 1 [0, 1] ?_
      | refine aw_regK 1 [0, 1] ?_
      | refine aw_sregK 2 [0, 1, 5] ?_
      | refine aw_regK 2 [0, 1, 5] ?_
      | refine aw_sregK 3 [5] ?_
      | refine aw_regK 3 [5] ?_
      | refine aw_sreg ?_
      | refine aw_sregD mixed ?_
      | refine aw_ifT (b := true) rfl rfl ?_
      | refine aw_ifF (b := false) rfl rfl ?_
      | refine aw_ifT rfl (by assumption) ?_
      | refine aw_ifF rfl (by assumption) ?_
      | refine aw_ifT rfl (decide_eq_true (by assumption)) ?_
      | refine aw_ifF rfl (decide_eq_false (by assumption)) ?_
      | refine aw_seq ?_
      | refine aw_block ?_
      | refine aw_skip ?_
      | refine aw_region ?_
      | refine aw_region_draw mixed ?_
      | refine aw_exit ?_
      | refine rq_exit ?_
      | refine blockQ_hit ?_
      | refine blockQ_miss (by decide) ?_
      | (refine ar_guard rfl rfl rfl rfl (fun h => ?_) (fun h => ?_) <;> (fail_if_success (cases h; done)) <;> (try simp at h) <;> (try subst h))
      | (refine aw_both rfl (fun h => ?_) (fun h => ?_) <;> (fail_if_success (cases h; done)) <;> (try simp at h) <;> (try subst h)))
  by_cases hl : r.length = l.length
  · have h32 : l.length ≤ 32 := by omega
    have hML : ∀ x : RL, Cl l.length x → x.length ≤ maxLen := fun x hx => by rw [hx.len]; simp [maxLen]; omega
    have hc := clean_cl (r := r) (by omega)
    rw [hl] at hc
    have hA := andR hc (events_cl (q := innerQ) h32)
    rw [both_cleanL] at hA
    have hO := outer_cl hl h32
    have hI := inv_cl hc
    rw [inv_clean] at hI
    have hIO := inv_cl hO.1
    have hOI := outer_cl (es := l) (r := invR r) hI.1.len h32
    have h0 := part_zero h32 hl
    have hap := part_apart h32 hl
    have hpi := part_inv h32 hl
    have kW := c_within (es := l) (r := r) h32 hrl
    have kO := c_outer (es := l) (r := r) hrl h32
    have kU := c_orV (a := bothR (· &&& ·) r (eventsR innerQ l)) (b := outerR l r) (hML _ hA.1) (hML _ hO.1)
    have kN := c_andV (a := bothR (· &&& ·) r (eventsR innerQ l)) (b := outerR l r) (hML _ hA.1) (hML _ hO.1)
    have kP := c_pairsV (r := bothR (· &&& ·) (bothR (· &&& ·) r (eventsR innerQ l)) (outerR l r)) (hML _ (andR hA.1 hO.1).1)
    rw [hap] at kP
    have kI := c_invV (a := outerR l r) (hML _ hO.1)
    have kJ := c_invV (a := r) hrl
    have kOI := c_outer (es := l) (r := invR r) (hML _ hI.1) h32
    have kS := c_same (a := invR (outerR l r)) (b := outerR l (invR r)) (hML _ hIO.1) (hML _ hOI.1)
    rw [hpi] at kS
    generalize bothR (· &&& ·) r (eventsR innerQ l) = A at *
    generalize outerR l r = O at *
    generalize bothR (· &&& ·) A O = AO at *
    generalize outerR l (invR r) = OI at *
    generalize invR r = IR at *
    generalize invR O = IO at *
    generalize hU0 : bothR (· ||| ·) A O = U0 at *
    refine scx_of Try.func3 rfl rfl rfl (Nat.le_of_ble_eq_true rfl) ?_
    repeat' (first
      | exact aw_ret (ret_vals (by simp; exact rfl) (by simp [*]; fail_if_success (show _)))
      | exact aw_ret (ret_vals (by simp; exact rfl) (by simp [*]; omega))
      | refine ar_end rfl ?_
      | refine ar_endD rfl (by kernel_rfl) ?_
      | refine ar_fin rfl ?_
      | refine ar_finD rfl (by kernel_rfl) ?_
      | refine ar_callV Try.call13 c_shown13 rfl rfl rfl rfl rfl (by simp; done) (by rfl) (by simp; done) ?_
      | refine ar_callV_if Try.call13 c_shown13 rfl rfl rfl rfl rfl rfl (by simp; done) rfl (by rfl) (by simp; done) ?_
      | refine ar_callV Try.call14 kW rfl rfl rfl rfl rfl (by simp; done) (by rfl) (by simp; done) ?_
      | refine ar_callV_if Try.call14 kW rfl rfl rfl rfl rfl rfl (by simp; done) rfl (by rfl) (by simp; done) ?_
      | refine ar_callV Try.call15 kO rfl rfl rfl rfl rfl (by simp; done) (by rfl) (by simp; done) ?_
      | refine ar_callV_if Try.call15 kO rfl rfl rfl rfl rfl rfl (by simp; done) rfl (by rfl) (by simp; done) ?_
      | refine ar_callV Try.call16 kU rfl rfl rfl rfl rfl (by simp; done) (by rfl) (by simp; done) ?_
      | refine ar_callV_if Try.call16 kU rfl rfl rfl rfl rfl rfl (by simp; done) rfl (by rfl) (by simp; done) ?_
      | refine ar_go3 _ rfl (by simp [rl_len, rl_getE, rl_set, rl_nil, List.length_set, List.getElem_set, IntKind.bits, ub_shl1', ub_shr, ub_or, ub_and, ub_andNot, ub_bit, Int.toNat_natCast, ub_zero, evsL_len, evsL_getE, evL, prs_len, prs_getE, h24, hl]; exact ⟨rfl, rfl, rfl⟩) rfl ?_
      | refine aw_sregK 0 [0, 1] ?_
      | refine aw_regK 0 [0, 1] ?_
      | refine aw_sregK 1 [0, 1] ?_
      | refine aw_regK 1 [0, 1] ?_
      | refine aw_sregK 2 [0, 1, 5] ?_
      | refine aw_regK 2 [0, 1, 5] ?_
      | refine aw_sregK 3 [5] ?_
      | refine aw_regK 3 [5] ?_
      | refine aw_sregK 4 [0, 1, 5] ?_
      | refine aw_regK 4 [0, 1, 5] ?_
      | refine aw_sregK 5 [0, 1, 5, 6] ?_
      | refine aw_regK 5 [0, 1, 5, 6] ?_
      | refine aw_sregK 6 [0, 1, 5, 6, 7] ?_
      | refine aw_regK 6 [0, 1, 5, 6, 7] ?_
      | refine aw_sregK 7 [0, 1, 5, 6, 7, 8] ?_
      | refine aw_regK 7 [0, 1, 5, 6, 7, 8] ?_
      | refine aw_sregK 8 [0, 1, 5, 6, 7, 8, 9] ?_
      | refine aw_regK 8 [0, 1, 5, 6, 7, 8, 9] ?_
      | refine aw_sreg ?_
      | refine aw_sregD mixed ?_
      | refine aw_ifT (b := true) rfl rfl ?_
      | refine aw_ifF (b := false) rfl rfl ?_
      | refine aw_ifT rfl (by assumption) ?_
      | refine aw_ifF rfl (by assumption) ?_
      | refine aw_ifT rfl (decide_eq_true (by assumption)) ?_
      | refine aw_ifF rfl (decide_eq_false (by assumption)) ?_
      | refine aw_seq ?_
      | refine aw_block ?_
      | refine aw_skip ?_
      | refine aw_region ?_
      | refine aw_region_draw mixed ?_
      | refine aw_exit ?_
      | refine rq_exit ?_
      | refine blockQ_hit ?_
      | refine blockQ_miss (by decide) ?_
      | (refine ar_guard rfl rfl rfl rfl (fun h => ?_) (fun h => ?_) <;> (fail_if_success (cases h; done)) <;> (try simp at h) <;> (try subst h))
      | (refine aw_both rfl (fun h => ?_) (fun h => ?_) <;> (fail_if_success (cases h; done)) <;> (try simp at h) <;> (try subst h)))
    refine aw_loopN [0, 1, 5, 6, 7, 8, 9, 10] [.loc 6] (by simp; exact rfl) (ι := {p : Nat × RL // p.1 ≤ l.length ∧ PartQ l r p.1 p.2}) (fun p => ⟨79, [(0, .pv (.sl 7 (evsL l))), (1, .pv (.sl 1 (rl r))), (5, B true), (6, .ptr (.loc 6) 0), (7, .pv (.sl 1 (rl A))), (8, .pv (.sl 1 (rl O))), (9, .pv (.sl 1 (rl p.1.2))), (10, I .i64 p.1.1)], [(.loc 6, some (.box 28 [.pv (.sl 7 (evsL l)), .pv (.v (.slice none 0 0)), .pv (.v (.slice none 0 0)), .pv (.v (.slice none 0 0)), .pv (.v (.slice none 0 0)), .pv (.v (.slice none 0 0)), .pv (.v (.slice none 0 0))]))]⟩) (fun p => l.length - p.1.1) ⟨(0, U0), by simp, h0⟩ (by simp) ?_
    rintro ⟨⟨i, U⟩, hi, hQ⟩
    dsimp only at hi hQ
    by_cases hlt : i < l.length
    · have hw : IntKind.wrap .i64 ((i : Int) + 1) = (i : Int) + 1 := wrap64s (by omega) (by omega)
      have hwu := wrap64u (n := i) (by omega)
      have hd : (i : Int) < (l.length : Int) := by omega
      have hQ2 := part_succ h32 hl hQ hlt
      have kH := c_has (r := U) (i := i) (k := i)
      rw [part_has hQ hlt] at kH
      have kY := c_onlyV (a := r) (fr := 1#32 <<< i) (to := 1#32 <<< i) hrl
      have hyl := (only_cl (a := r) (by omega) (1#32 <<< i) (1#32 <<< i)).len
      generalize onlyR r (1#32 <<< i) (1#32 <<< i) = Y at *
      have kV := c_orV (a := U) (b := Y) (hML _ hQ.cl) (by rw [hyl]; exact hrl)
      generalize bothR (· ||| ·) U Y = V at *
      repeat' (first
        | refine ar_end rfl ?_
        | refine ar_endD rfl (by kernel_rfl) ?_
        | refine ar_fin rfl ?_
        | refine ar_finD rfl (by kernel_rfl) ?_
        | refine ar_callV Try.call17 kH rfl rfl rfl rfl rfl (by simp; done) (by rfl) (by simp; done) ?_
        | refine ar_callV_if Try.call17 kH rfl rfl rfl rfl rfl rfl (by simp; done) rfl (by rfl) (by simp; done) ?_
        | refine ar_callV Try.call18 kY rfl rfl rfl rfl rfl (by simp; done) (by rfl) (by simp; done) ?_
        | refine ar_callV_if Try.call18 kY rfl rfl rfl rfl rfl rfl (by simp; done) rfl (by rfl) (by simp; done) ?_
        | refine ar_callV Try.call16 kV rfl rfl rfl rfl rfl (by simp; done) (by rfl) (by simp; done) ?_
        | refine ar_callV_if Try.call16 kV rfl rfl rfl rfl rfl rfl (by simp; done) rfl (by rfl) (by simp; done) ?_
        | refine bq_norm ?_
        | refine lq_normN [0, 1, 5, 6, 7, 8, 9, 10] [.loc 6] (by simp; exact rfl) ⟨(i + 1, V), by dsimp only; omega, hQ2⟩ (by dsimp only; omega) (by simp [hd])
        | refine ar_go3 _ rfl (by simp [rl_len, rl_getE, rl_set, rl_nil, List.length_set, List.getElem_set, IntKind.bits, ub_shl1', ub_shr, ub_or, ub_and, ub_andNot, ub_bit, Int.toNat_natCast, ub_zero, evsL_len, evsL_getE, evL, prs_len, prs_getE, hd, hw, hwu]; exact ⟨rfl, rfl, rfl⟩) rfl ?_
        | refine aw_sregK 9 [0, 1, 5, 6, 7, 8, 9, 10] ?_
        | refine aw_regK 9 [0, 1, 5, 6, 7, 8, 9, 10] ?_
        | refine aw_sregK 10 [0, 1, 5, 6, 7, 8, 9, 10] ?_
        | refine aw_regK 10 [0, 1, 5, 6, 7, 8, 9, 10] ?_
        | refine aw_sregK 11 [0, 1, 5, 6, 7, 8, 9, 10] ?_
        | refine aw_regK 11 [0, 1, 5, 6, 7, 8, 9, 10] ?_
        | refine aw_sregK 12 [] ?_
        | refine aw_regK 12 [] ?_
        | refine aw_sregK 13 [0, 1, 5, 6, 7, 8, 9, 10] ?_
        | refine aw_regK 13 [0, 1, 5, 6, 7, 8, 9, 10] ?_
        | refine aw_sreg ?_
        | refine aw_sregD mixed ?_
        | refine aw_ifT (b := true) rfl rfl ?_
        | refine aw_ifF (b := false) rfl rfl ?_
        | refine aw_ifT rfl (by assumption) ?_
        | refine aw_ifF rfl (by assumption) ?_
        | refine aw_ifT rfl (decide_eq_true (by assumption)) ?_
        | refine aw_ifF rfl (decide_eq_false (by assumption)) ?_
        | refine aw_seq ?_
        | refine aw_block ?_
        | refine aw_skip ?_
        | refine aw_region ?_
        | refine aw_region_draw mixed ?_
        | refine aw_exit ?_
        | refine rq_exit ?_
        | refine blockQ_hit ?_
        | refine blockQ_miss (by decide) ?_
        | (refine ar_guard rfl rfl rfl rfl (fun h => ?_) (fun h => ?_) <;> (fail_if_success (cases h; done)) <;> (try simp at h) <;> (try subst h))
        | (refine aw_both rfl (fun h => ?_) (fun h => ?_) <;> (fail_if_success (cases h; done)) <;> (try simp at h) <;> (try subst h)))
    · have hd : ¬(i : Int) < (l.length : Int) := by omega
      have hie : i = l.length := by omega
      subst hie
      have kT := c_same (a := U) (b := r) (hML _ hQ.cl) hrl
      rw [part_end hl hQ] at kT
      repeat' (first
        | exact aw_ret (ret_vals (by simp; exact rfl) (by simp [*]; fail_if_success (show _)))
        | exact aw_ret (ret_vals (by simp; exact rfl) (by simp [*]; omega))
        | refine ar_end rfl ?_
        | refine ar_endD rfl (by kernel_rfl) ?_
        | refine ar_fin rfl ?_
        | refine ar_finD rfl (by kernel_rfl) ?_
        | refine ar_callV Try.call20 kN rfl rfl rfl rfl rfl (by simp; done) (by rfl) (by simp; done) ?_
        | refine ar_callV_if Try.call20 kN rfl rfl rfl rfl rfl rfl (by simp; done) rfl (by rfl) (by simp; done) ?_
        | refine ar_callV Try.call19 kP rfl rfl rfl rfl rfl (by simp; done) (by rfl) (by simp; done) ?_
        | refine ar_callV_if Try.call19 kP rfl rfl rfl rfl rfl rfl (by simp; done) rfl (by rfl) (by simp; done) ?_
        | refine ar_callV Try.call21 kT rfl rfl rfl rfl rfl (by simp; done) (by rfl) (by simp; done) ?_
        | refine ar_callV_if Try.call21 kT rfl rfl rfl rfl rfl rfl (by simp; done) rfl (by rfl) (by simp; done) ?_
        | refine ar_callV Try.call15 kO rfl rfl rfl rfl rfl (by simp; done) (by rfl) (by simp; done) ?_
        | refine ar_callV_if Try.call15 kO rfl rfl rfl rfl rfl rfl (by simp; done) rfl (by rfl) (by simp; done) ?_
        | refine ar_callV Try.call22 kI rfl rfl rfl rfl rfl (by simp; done) (by rfl) (by simp; done) ?_
        | refine ar_callV_if Try.call22 kI rfl rfl rfl rfl rfl rfl (by simp; done) rfl (by rfl) (by simp; done) ?_
        | refine ar_callV Try.call22 kJ rfl rfl rfl rfl rfl (by simp; done) (by rfl) (by simp; done) ?_
        | refine ar_callV_if Try.call22 kJ rfl rfl rfl rfl rfl rfl (by simp; done) rfl (by rfl) (by simp; done) ?_
        | refine ar_callV Try.call15 kOI rfl rfl rfl rfl rfl (by simp; done) (by rfl) (by simp; done) ?_
        | refine ar_callV_if Try.call15 kOI rfl rfl rfl rfl rfl rfl (by simp; done) rfl (by rfl) (by simp; done) ?_
        | refine ar_callV Try.call21 kS rfl rfl rfl rfl rfl (by simp; done) (by rfl) (by simp; done) ?_
        | refine ar_callV_if Try.call21 kS rfl rfl rfl rfl rfl rfl (by simp; done) rfl (by rfl) (by simp; done) ?_
        | refine lq_exit ?_
        | refine ar_go3 _ rfl (by simp [rl_len, rl_getE, rl_set, rl_nil, List.length_set, List.getElem_set, IntKind.bits, ub_shl1', ub_shr, ub_or, ub_and, ub_andNot, ub_bit, Int.toNat_natCast, ub_zero, evsL_len, evsL_getE, evL, prs_len, prs_getE, hd]; exact ⟨rfl, rfl, rfl⟩) rfl ?_
        | refine aw_sregK 9 [0, 1, 5, 6, 7, 8, 9, 10] ?_
        | refine aw_regK 9 [0, 1, 5, 6, 7, 8, 9, 10] ?_
        | refine aw_sregKD mixed 14 [1, 5, 6, 7, 8, 9] (by simp; exact rfl) ?_
        | refine aw_regKD mixed 14 [1, 5, 6, 7, 8, 9] (by simp; exact rfl) ?_
        | refine aw_sreg ?_
        | refine aw_sregD mixed ?_
        | refine aw_ifT (b := true) rfl rfl ?_
        | refine aw_ifF (b := false) rfl rfl ?_
        | refine aw_ifT rfl (by assumption) ?_
        | refine aw_ifF rfl (by assumption) ?_
        | refine aw_ifT rfl (decide_eq_true (by assumption)) ?_
        | refine aw_ifF rfl (decide_eq_false (by assumption)) ?_
        | refine aw_seq ?_
        | refine aw_block ?_
        | refine aw_skip ?_
        | refine aw_region ?_
        | refine aw_region_draw mixed ?_
        | refine aw_exit ?_
        | refine rq_exit ?_
        | refine blockQ_hit ?_
        | refine blockQ_miss (by decide) ?_
        | (refine ar_guard rfl rfl rfl rfl (fun h => ?_) (fun h => ?_) <;> (fail_if_success (cases h; done)) <;> (try simp at h) <;> (try subst h))
        | (refine aw_both rfl (fun h => ?_) (fun h => ?_) <;> (fail_if_success (cases h; done)) <;> (try simp at h) <;> (try subst h)))
  · have hc : ¬(r.length : Int) = (l.length : Int) := by omega
    refine scx_of Try.func3 rfl rfl rfl (Nat.le_of_ble_eq_true rfl) ?_
    repeat' (first
      | exact aw_ret (ret_vals (by simp; exact rfl) (by simp [*]; fail_if_success (show _)))
      | exact aw_ret (ret_vals (by simp; exact rfl) (by simp [*]; omega))
      | refine ar_end rfl ?_
      | refine ar_endD rfl (by kernel_rfl) ?_
      | refine ar_fin rfl ?_
      | refine ar_finD rfl (by kernel_rfl) ?_
      | refine ar_callV Try.call13 c_shown13 rfl rfl rfl rfl rfl (by simp; done) (by rfl) (by simp; done) ?_
      | refine ar_callV_if Try.call13 c_shown13 rfl rfl rfl rfl rfl rfl (by simp; done) rfl (by rfl) (by simp; done) ?_
      | refine ar_go3 _ rfl (by simp [rl_len, rl_getE, rl_set, rl_nil, List.length_set, List.getElem_set, IntKind.bits, ub_shl1', ub_shr, ub_or, ub_and, ub_andNot, ub_bit, Int.toNat_natCast, ub_zero, evsL_len, evsL_getE, evL, prs_len, prs_getE, h24, hl, hc]; exact ⟨rfl, rfl, rfl⟩) rfl ?_
      | refine aw_sregK 0 [0, 1] ?_
      | refine aw_regK 0 [0, 1] ?_
      | refine aw_sregK 1 [0, 1] ?_
      | refine aw_regK 1 [0, 1] ?_
      | refine aw_sregK 2 [0, 1, 5] ?_
      | refine aw_regK 2 [0, 1, 5] ?_
      | refine aw_sregK 3 [5] ?_
      | refine aw_regK 3 [5] ?_
      | refine aw_sreg ?_
      | refine aw_sregD mixed ?_
      | refine aw_ifT (b := true) rfl rfl ?_
      | refine aw_ifF (b := false) rfl rfl ?_
      | refine aw_ifT rfl (by assumption) ?_
      | refine aw_ifF rfl (by assumption) ?_
      | refine aw_ifT rfl (decide_eq_true (by assumption)) ?_
      | refine aw_ifF rfl (decide_eq_false (by assumption)) ?_
      | refine aw_seq ?_
      | refine aw_block ?_
      | refine aw_skip ?_
      | refine aw_region ?_
      | refine aw_region_draw mixed ?_
      | refine aw_exit ?_
      | refine rq_exit ?_
      | refine blockQ_hit ?_
      | refine blockQ_miss (by decide) ?_
      | (refine ar_guard rfl rfl rfl rfl (fun h => ?_) (fun h => ?_) <;> (fail_if_success (cases h; done)) <;> (try simp at h) <;> (try subst h))
      | (refine aw_both rfl (fun h => ?_) (fun h => ?_) <;> (fail_if_success (cases h; done)) <;> (try simp at h) <;> (try subst h)))
end Go.Eng
