import Derived.Test.YtclegllogeanlaaDerD
import Derived.Test.YtclegllogeanlaaDerivePartsWalk
import Derived.Test.YtclegllogeanlaaXorB
set_option linter.unusedSimpArgs false
set_option linter.unusedVariables false
set_option linter.constructorNameAsVariable false
set_option autoImplicit false
namespace Go.Eng
open Go Go.RowKit Go.Proofs
set_option maxHeartbeats 16000000 in
theorem law_DeriveObs {l : List Ev} {init : List Int} {w v : Nat} (hll : l.length ≤ maxLen) (hw : w ≤ 65535) (hv : v ≤ 65535) : SC Try.prog 11 [.pv (.sl 7 (evsL l)), .pv (.sl 1 (ints init)), I .u16 w, I .u16 v] (B true) := by
  have hml : maxLen = 9223372036854775807 := rfl
  by_cases h8 : l.length ≤ 8
  rotate_left
  · have h8' : (8 : Int) < (l.length : Int) := by omega
    refine scx_of Try.func11 rfl rfl rfl (Nat.le_of_ble_eq_true rfl) ?_
    repeat' (first
      | exact aw_ret (ret_vals (by simp; exact rfl) (by simp [*]; fail_if_success (show _)))
      | exact aw_ret (ret_vals (by simp; exact rfl) (by simp [*]; omega))
      | refine ar_end rfl ?_
      | refine ar_endD rfl (by kernel_rfl) ?_
      | refine ar_fin rfl ?_
      | refine ar_finD rfl (by kernel_rfl) ?_
      | refine ar_callV Try.call13 c_shown13 rfl rfl rfl rfl rfl (by simp; done) (by rfl) (by simp; done) ?_
      | refine ar_callV_if Try.call13 c_shown13 rfl rfl rfl rfl rfl rfl (by simp; done) rfl (by rfl) (by simp; done) ?_
      | refine ar_go3 _ rfl (by simp [evsL_len, evsL_getE, evL, prs_len, prs_getE, ints_len, ints_getE, intsL_len, intsL_getE, h8']; exact ⟨rfl, rfl, rfl⟩) rfl ?_
      | refine aw_sregK 0 [0, 1, 2, 3] ?_
      | refine aw_regK 0 [0, 1, 2, 3] ?_
      | refine aw_sregK 1 [0, 1, 2, 3] ?_
      | refine aw_regK 1 [0, 1, 2, 3] ?_
      | refine aw_sregK 2 [0, 1, 2, 3, 9] ?_
      | refine aw_regK 2 [0, 1, 2, 3, 9] ?_
      | refine aw_sregK 3 [9] ?_
      | refine aw_regK 3 [9] ?_
      | refine aw_sreg ?_
      | refine aw_sregD mixed ?_
      | refine aw_ifT (b := true) rfl rfl ?_
      | refine aw_ifF (b := false) rfl rfl ?_
      | refine aw_ifT rfl (by assumption) ?_
      | refine aw_ifF rfl (by assumption) ?_
      | refine aw_ifT rfl (decide_eq_true (by assumption)) ?_
      | refine aw_ifF rfl (decide_eq_false (by assumption)) ?_
      | refine aw_seq ?_
      | refine aw_block ?_
      | refine aw_skip ?_
      | refine aw_region ?_
      | refine aw_region_draw mixed ?_
      | refine aw_exit ?_
      | refine rq_exit ?_
      | refine blockQ_hit ?_
      | refine blockQ_miss (by decide) ?_
      | (refine ar_guard rfl rfl rfl rfl (fun h => ?_) (fun h => ?_) <;> (fail_if_success (cases h; done)) <;> (try simp at h) <;> (try subst h))
      | (refine aw_both rfl (fun h => ?_) (fun h => ?_) <;> (fail_if_success (cases h; done)) <;> (try simp at h) <;> (try subst h)))
  have h8' : ¬(8 : Int) < (l.length : Int) := by omega
  obtain ⟨W, hW, hWl, hWs⟩ := c_srcAll (es := l) (init := init) (by omega)
  obtain ⟨hA, hAl⟩ := c_all8 h8
  have hrk : ∀ co ∈ allR l, ∃ f, Rank l co f := fun co h => allR_rank (by omega) h
  have hsr : ∀ fm ∈ W, Src l fm := fun fm h => src_of (hWs fm h).1 (hWs fm h).2
  clear hWs
  generalize allR l = A at *
  by_cases hW0 : W.length = 0
  · have hW0' : (W.length : Int) = 0 := by omega
    refine scx_of Try.func11 rfl rfl rfl (Nat.le_of_ble_eq_true rfl) ?_
    repeat' (first
      | exact aw_ret (ret_vals (by simp; exact rfl) (by simp [*]; fail_if_success (show _)))
      | exact aw_ret (ret_vals (by simp; exact rfl) (by simp [*]; omega))
      | refine ar_end rfl ?_
      | refine ar_endD rfl (by kernel_rfl) ?_
      | refine ar_fin rfl ?_
      | refine ar_finD rfl (by kernel_rfl) ?_
      | refine ar_callV Try.call13 c_shown13 rfl rfl rfl rfl rfl (by simp; done) (by rfl) (by simp; done) ?_
      | refine ar_callV_if Try.call13 c_shown13 rfl rfl rfl rfl rfl rfl (by simp; done) rfl (by rfl) (by simp; done) ?_
      | refine ar_callV Try.call43 hW rfl rfl rfl rfl rfl (by simp; done) (by rfl) (by simp; done) ?_
      | refine ar_callV_if Try.call43 hW rfl rfl rfl rfl rfl rfl (by simp; done) rfl (by rfl) (by simp; done) ?_
      | refine ar_callV Try.call26 hA rfl rfl rfl rfl rfl (by simp; done) (by rfl) (by simp; done) ?_
      | refine ar_callV_if Try.call26 hA rfl rfl rfl rfl rfl rfl (by simp; done) rfl (by rfl) (by simp; done) ?_
      | refine ar_go3 _ rfl (by simp [evsL_len, evsL_getE, evL, prs_len, prs_getE, ints_len, ints_getE, intsL_len, intsL_getE, rlsL_len, rlsL_getE, exL, h8', hW0, hW0']; exact ⟨rfl, rfl, rfl⟩) rfl ?_
      | refine aw_sregK 0 [0, 1, 2, 3] ?_
      | refine aw_regK 0 [0, 1, 2, 3] ?_
      | refine aw_sregK 1 [0, 1, 2, 3] ?_
      | refine aw_regK 1 [0, 1, 2, 3] ?_
      | refine aw_sregK 2 [0, 1, 2, 3, 9] ?_
      | refine aw_regK 2 [0, 1, 2, 3, 9] ?_
      | refine aw_sregK 3 [9] ?_
      | refine aw_regK 3 [9] ?_
      | refine aw_sregK 4 [0, 1, 2, 3, 9] ?_
      | refine aw_regK 4 [0, 1, 2, 3, 9] ?_
      | refine aw_sregK 5 [0, 1, 2, 3, 9, 10] ?_
      | refine aw_regK 5 [0, 1, 2, 3, 9, 10] ?_
      | refine aw_sregK 6 [0, 2, 3, 9, 10, 11] ?_
      | refine aw_regK 6 [0, 2, 3, 9, 10, 11] ?_
      | refine aw_sregK 7 [0, 2, 3, 9, 10, 11, 12] ?_
      | refine aw_regK 7 [0, 2, 3, 9, 10, 11, 12] ?_
      | refine aw_sregK 8 [9] ?_
      | refine aw_regK 8 [9] ?_
      | refine aw_sreg ?_
      | refine aw_sregD mixed ?_
      | refine aw_ifT (b := true) rfl rfl ?_
      | refine aw_ifF (b := false) rfl rfl ?_
      | refine aw_ifT rfl (by assumption) ?_
      | refine aw_ifF rfl (by assumption) ?_
      | refine aw_ifT rfl (decide_eq_true (by assumption)) ?_
      | refine aw_ifF rfl (decide_eq_false (by assumption)) ?_
      | refine aw_seq ?_
      | refine aw_block ?_
      | refine aw_skip ?_
      | refine aw_region ?_
      | refine aw_region_draw mixed ?_
      | refine aw_exit ?_
      | refine rq_exit ?_
      | refine blockQ_hit ?_
      | refine blockQ_miss (by decide) ?_
      | (refine ar_guard rfl rfl rfl rfl (fun h => ?_) (fun h => ?_) <;> (fail_if_success (cases h; done)) <;> (try simp at h) <;> (try subst h))
      | (refine aw_both rfl (fun h => ?_) (fun h => ?_) <;> (fail_if_success (cases h; done)) <;> (try simp at h) <;> (try subst h)))
  have hW0' : ¬(W.length : Int) = 0 := by omega
  by_cases hA0 : A.length = 0
  · have hA0' : (A.length : Int) = 0 := by omega
    refine scx_of Try.func11 rfl rfl rfl (Nat.le_of_ble_eq_true rfl) ?_
    repeat' (first
      | exact aw_ret (ret_vals (by simp; exact rfl) (by simp [*]; fail_if_success (show _)))
      | exact aw_ret (ret_vals (by simp; exact rfl) (by simp [*]; omega))
      | refine ar_end rfl ?_
      | refine ar_endD rfl (by kernel_rfl) ?_
      | refine ar_fin rfl ?_
      | refine ar_finD rfl (by kernel_rfl) ?_
      | refine ar_callV Try.call13 c_shown13 rfl rfl rfl rfl rfl (by simp; done) (by rfl) (by simp; done) ?_
      | refine ar_callV_if Try.call13 c_shown13 rfl rfl rfl rfl rfl rfl (by simp; done) rfl (by rfl) (by simp; done) ?_
      | refine ar_callV Try.call43 hW rfl rfl rfl rfl rfl (by simp; done) (by rfl) (by simp; done) ?_
      | refine ar_callV_if Try.call43 hW rfl rfl rfl rfl rfl rfl (by simp; done) rfl (by rfl) (by simp; done) ?_
      | refine ar_callV Try.call26 hA rfl rfl rfl rfl rfl (by simp; done) (by rfl) (by simp; done) ?_
      | refine ar_callV_if Try.call26 hA rfl rfl rfl rfl rfl rfl (by simp; done) rfl (by rfl) (by simp; done) ?_
      | refine ar_go3 _ rfl (by simp [evsL_len, evsL_getE, evL, prs_len, prs_getE, ints_len, ints_getE, intsL_len, intsL_getE, rlsL_len, rlsL_getE, exL, h8', hW0, hW0', hA0, hA0']; exact ⟨rfl, rfl, rfl⟩) rfl ?_
      | refine aw_sregK 0 [0, 1, 2, 3] ?_
      | refine aw_regK 0 [0, 1, 2, 3] ?_
      | refine aw_sregK 1 [0, 1, 2, 3] ?_
      | refine aw_regK 1 [0, 1, 2, 3] ?_
      | refine aw_sregK 2 [0, 1, 2, 3, 9] ?_
      | refine aw_regK 2 [0, 1, 2, 3, 9] ?_
      | refine aw_sregK 3 [9] ?_
      | refine aw_regK 3 [9] ?_
      | refine aw_sregK 4 [0, 1, 2, 3, 9] ?_
      | refine aw_regK 4 [0, 1, 2, 3, 9] ?_
      | refine aw_sregK 5 [0, 1, 2, 3, 9, 10] ?_
      | refine aw_regK 5 [0, 1, 2, 3, 9, 10] ?_
      | refine aw_sregK 6 [0, 2, 3, 9, 10, 11] ?_
      | refine aw_regK 6 [0, 2, 3, 9, 10, 11] ?_
      | refine aw_sregK 7 [0, 2, 3, 9, 10, 11, 12] ?_
      | refine aw_regK 7 [0, 2, 3, 9, 10, 11, 12] ?_
      | refine aw_sregK 8 [9] ?_
      | refine aw_regK 8 [9] ?_
      | refine aw_sreg ?_
      | refine aw_sregD mixed ?_
      | refine aw_ifT (b := true) rfl rfl ?_
      | refine aw_ifF (b := false) rfl rfl ?_
      | refine aw_ifT rfl (by assumption) ?_
      | refine aw_ifF rfl (by assumption) ?_
      | refine aw_ifT rfl (decide_eq_true (by assumption)) ?_
      | refine aw_ifF rfl (decide_eq_false (by assumption)) ?_
      | refine aw_seq ?_
      | refine aw_block ?_
      | refine aw_skip ?_
      | refine aw_region ?_
      | refine aw_region_draw mixed ?_
      | refine aw_exit ?_
      | refine rq_exit ?_
      | refine blockQ_hit ?_
      | refine blockQ_miss (by decide) ?_
      | (refine ar_guard rfl rfl rfl rfl (fun h => ?_) (fun h => ?_) <;> (fail_if_success (cases h; done)) <;> (try simp at h) <;> (try subst h))
      | (refine aw_both rfl (fun h => ?_) (fun h => ?_) <;> (fail_if_success (cases h; done)) <;> (try simp at h) <;> (try subst h)))
  have hA0' : ¬(A.length : Int) = 0 := by omega
  have hww : IntKind.wrap .i64 (w : Int) = (w : Int) := wrap64s (by omega) (by omega)
  have hwv : IntKind.wrap .i64 (v : Int) = (v : Int) := wrap64s (by omega) (by omega)
  have htw : (w : Int).tmod (W.length : Int) = ((w % W.length : Nat) : Int) := rfl
  have htv : (v : Int).tmod (A.length : Int) = ((v % A.length : Nat) : Int) := rfl
  have hlw : w % W.length < W.length := Nat.mod_lt _ (by omega)
  have hlv : v % A.length < A.length := Nat.mod_lt _ (by omega)
  generalize w % W.length = n1 at *
  generalize v % A.length = n2 at *
  have hS := hsr W[n1] (List.getElem_mem hlw)
  obtain ⟨f, hR⟩ := hrk A[n2] (List.getElem_mem hlv)
  generalize hfm : W[n1] = fm at *
  generalize hco : A[n2] = co at *
  have h32 : l.length ≤ 32 := by omega
  have hcol : co.length ≤ maxLen := by rw [hR.cl.len]; omega
  have hfml : fm.length ≤ 1000000 := by rw [hS.len]; omega
  have hFc := fr_cl h32 fm co
  have hFl : (frR l fm co).length ≤ maxLen := by rw [hFc.len]; omega
  have k46 := c_obs (es := l) (fm := fm) (co := co) h32 hfml hcol
  have hCc := com_bit (fm := fm) h32 hR.cl
  have hOc := outer_cl (es := l) (r := comR l fm co) hCc.1.len h32
  have k19 := c_pairsV (r := obsR l fm co) (by unfold obsR; rw [hOc.1.len]; omega)
  have hps : ∀ p ∈ pairsR (obsR l fm co), ∃ h1 : p.1 < l.length, ∃ h2 : p.2 < l.length, ¬l[p.1].th = l[p.2].th ∧ l[p.1].l = l[p.2].l ∧ ((l[p.1].k = 2 ∧ l[p.2].k = 1) ∨ (l[p.1].k = 2 ∧ l[p.2].k = 2) ∨ (l[p.1].k = 1 ∧ l[p.2].k = 2)) := fun p hp => by
    obtain ⟨h1, h2, h3⟩ := mem_pairs.1 hp
    unfold obsR at h1 h2 h3
    rw [hOc.1.clean] at h1 h2 h3
    rw [hOc.1.len] at h1 h2
    rw [hOc.2 _ _ h1 h2, Bool.and_eq_true, decide_eq_true_eq] at h3
    obtain ⟨g1, g2 | g2 | g2⟩ := com_cases hS hR h1 h2 h3.1
    · exact ⟨h1, h2, h3.2, g1, .inl ⟨g2.2.1, g2.1⟩⟩
    · exact ⟨h1, h2, h3.2, g1, .inr (.inl ⟨g2.1, g2.2.1⟩)⟩
    · exact ⟨h1, h2, h3.2, g1, .inr (.inr ⟨g2.1, g2.2.1⟩)⟩
  have hpl : (pairsR (obsR l fm co)).length ≤ 64 := by
    rw [pairs_eq]
    refine Nat.le_trans (upto_len _ _ _) ?_
    have : (cleanR (obsR l fm co)).length = l.length := by unfold obsR; rw [hOc.1.clean, hOc.1.len]
    rw [this]
    exact Nat.le_trans (Nat.mul_le_mul h8 h8) (by decide)
  clear hFc hFl hCc hOc hS hR
  generalize obsR l fm co = R5 at *
  generalize pairsR R5 = PS at *
  refine scx_of Try.func11 rfl rfl rfl (Nat.le_of_ble_eq_true rfl) ?_
  repeat' (first
    | refine ar_end rfl ?_
    | refine ar_endD rfl (by kernel_rfl) ?_
    | refine ar_fin rfl ?_
    | refine ar_finD rfl (by kernel_rfl) ?_
    | refine ar_callV Try.call13 c_shown13 rfl rfl rfl rfl rfl (by simp; done) (by rfl) (by simp; done) ?_
    | refine ar_callV_if Try.call13 c_shown13 rfl rfl rfl rfl rfl rfl (by simp; done) rfl (by rfl) (by simp; done) ?_
    | refine ar_callV Try.call43 hW rfl rfl rfl rfl rfl (by simp; done) (by rfl) (by simp; done) ?_
    | refine ar_callV_if Try.call43 hW rfl rfl rfl rfl rfl rfl (by simp; done) rfl (by rfl) (by simp; done) ?_
    | refine ar_callV Try.call26 hA rfl rfl rfl rfl rfl (by simp; done) (by rfl) (by simp; done) ?_
    | refine ar_callV_if Try.call26 hA rfl rfl rfl rfl rfl rfl (by simp; done) rfl (by rfl) (by simp; done) ?_
    | refine ar_callV Try.call46 k46 rfl rfl rfl rfl rfl (by simp; done) (by rfl) (by simp; done) ?_
    | refine ar_callV_if Try.call46 k46 rfl rfl rfl rfl rfl rfl (by simp; done) rfl (by rfl) (by simp; done) ?_
    | refine ar_callV Try.call19 k19 rfl rfl rfl rfl rfl (by simp; done) (by rfl) (by simp; done) ?_
    | refine ar_callV_if Try.call19 k19 rfl rfl rfl rfl rfl rfl (by simp; done) rfl (by rfl) (by simp; done) ?_
    | refine ar_go3 _ rfl (by simp [evsL_len, evsL_getE, evL, prs_len, prs_getE, ints_len, ints_getE, intsL_len, intsL_getE, rlsL_len, rlsL_getE, exL, h8', hW0, hW0', hA0, hA0', hww, hwv, htw, htv, hlw, hlv, hfm, hco]; exact ⟨rfl, rfl, rfl⟩) rfl ?_
    | refine aw_sregK 0 [0, 1, 2, 3] ?_
    | refine aw_regK 0 [0, 1, 2, 3] ?_
    | refine aw_sregK 1 [0, 1, 2, 3] ?_
    | refine aw_regK 1 [0, 1, 2, 3] ?_
    | refine aw_sregK 2 [0, 1, 2, 3, 9] ?_
    | refine aw_regK 2 [0, 1, 2, 3, 9] ?_
    | refine aw_sregK 4 [0, 1, 2, 3, 9] ?_
    | refine aw_regK 4 [0, 1, 2, 3, 9] ?_
    | refine aw_sregK 5 [0, 1, 2, 3, 9, 10] ?_
    | refine aw_regK 5 [0, 1, 2, 3, 9, 10] ?_
    | refine aw_sregK 6 [0, 2, 3, 9, 10, 11] ?_
    | refine aw_regK 6 [0, 2, 3, 9, 10, 11] ?_
    | refine aw_sregK 7 [0, 2, 3, 9, 10, 11, 12] ?_
    | refine aw_regK 7 [0, 2, 3, 9, 10, 11, 12] ?_
    | refine aw_sregKD mixed 9 [0, 2, 3, 9, 10, 11, 12] (by simp; exact rfl) ?_
    | refine aw_regKD mixed 9 [0, 2, 3, 9, 10, 11, 12] (by simp; exact rfl) ?_
    | refine aw_sregK 10 [0, 9, 13] ?_
    | refine aw_regK 10 [0, 9, 13] ?_
    | refine aw_sreg ?_
    | refine aw_sregD mixed ?_
    | refine aw_ifT (b := true) rfl rfl ?_
    | refine aw_ifF (b := false) rfl rfl ?_
    | refine aw_ifT rfl (by assumption) ?_
    | refine aw_ifF rfl (by assumption) ?_
    | refine aw_ifT rfl (decide_eq_true (by assumption)) ?_
    | refine aw_ifF rfl (decide_eq_false (by assumption)) ?_
    | refine aw_seq ?_
    | refine aw_block ?_
    | refine aw_skip ?_
    | refine aw_region ?_
    | refine aw_region_draw mixed ?_
    | refine aw_exit ?_
    | refine rq_exit ?_
    | refine blockQ_hit ?_
    | refine blockQ_miss (by decide) ?_
    | (refine ar_guard rfl rfl rfl rfl (fun h => ?_) (fun h => ?_) <;> (fail_if_success (cases h; done)) <;> (try simp at h) <;> (try subst h))
    | (refine aw_both rfl (fun h => ?_) (fun h => ?_) <;> (fail_if_success (cases h; done)) <;> (try simp at h) <;> (try subst h)))
  refine aw_loopN [0, 9, 13, 14] [] (by simp; exact rfl) (ι := {i : Nat // i ≤ PS.length}) (fun i => ⟨112, [(0, .pv (.sl 7 (evsL l))), (9, B true), (13, .pv (.sl 2 (prs PS))), (14, I .i64 i.1)], []⟩) (fun i => PS.length - i.1) ⟨0, by omega⟩ (by simp) ?_
  rintro ⟨i, hi⟩
  by_cases hlt : i < PS.length
  · have hw1 : IntKind.wrap .i64 ((i : Int) + 1) = (i : Int) + 1 := wrap64s (by omega) (by omega)
    have hd : (i : Int) < (PS.length : Int) := by omega
    obtain ⟨h1, h2, h3, h4, h5⟩ := hps PS[i] (List.getElem_mem hlt)
    generalize hp : PS[i] = p at *
    obtain ⟨a, b⟩ := p
    dsimp only at h1 h2 h3 h4 h5
    generalize hx : l[a] = x at *
    generalize hy : l[b] = y at *
    rcases h5 with ⟨h5, h6⟩ | ⟨h5, h6⟩ | ⟨h5, h6⟩
    ·
      repeat' (first
        | refine ar_end rfl ?_
        | refine ar_endD rfl (by kernel_rfl) ?_
        | refine ar_fin rfl ?_
        | refine ar_finD rfl (by kernel_rfl) ?_
        | refine bq_norm ?_
        | refine lq_normN [0, 9, 13, 14] [] (by simp; exact rfl) ⟨i + 1, by omega⟩ (by dsimp only; omega) (by simp [hd])
        | refine ar_go3 _ rfl (by simp [evsL_len, evsL_getE, evL, prs_len, prs_getE, hlt, hd, hp, h1, h2, hx, hy, h3, h4, h5, h6, hw1]; exact ⟨rfl, rfl, rfl⟩) rfl ?_
        | refine aw_sregK 11 [0, 9, 13, 14] ?_
        | refine aw_regK 11 [0, 9, 13, 14] ?_
        | refine aw_sregK 12 [0, 9, 13, 14] ?_
        | refine aw_regK 12 [0, 9, 13, 14] ?_
        | refine aw_sregK 13 [0, 9, 13, 14] ?_
        | refine aw_regK 13 [0, 9, 13, 14] ?_
        | refine aw_sregK 14 [0, 9, 13, 14, 15] ?_
        | refine aw_regK 14 [0, 9, 13, 14, 15] ?_
        | refine aw_sregK 15 [0, 9, 13, 14, 15, 16] ?_
        | refine aw_regK 15 [0, 9, 13, 14, 15, 16] ?_
        | refine aw_sreg ?_
        | refine aw_sregD mixed ?_
        | refine aw_ifT (b := true) rfl rfl ?_
        | refine aw_ifF (b := false) rfl rfl ?_
        | refine aw_ifT rfl (by assumption) ?_
        | refine aw_ifF rfl (by assumption) ?_
        | refine aw_ifT rfl (decide_eq_true (by assumption)) ?_
        | refine aw_ifF rfl (decide_eq_false (by assumption)) ?_
        | refine aw_seq ?_
        | refine aw_block ?_
        | refine aw_skip ?_
        | refine aw_region ?_
        | refine aw_region_draw mixed ?_
        | refine aw_exit ?_
        | refine rq_exit ?_
        | refine blockQ_hit ?_
        | refine blockQ_miss (by decide) ?_
        | (refine ar_guard rfl rfl rfl rfl (fun h => ?_) (fun h => ?_) <;> (fail_if_success (cases h; done)) <;> (try simp at h) <;> (try subst h))
        | (refine aw_both rfl (fun h => ?_) (fun h => ?_) <;> (fail_if_success (cases h; done)) <;> (try simp at h) <;> (try subst h)))
    ·
      repeat' (first
        | refine ar_end rfl ?_
        | refine ar_endD rfl (by kernel_rfl) ?_
        | refine ar_fin rfl ?_
        | refine ar_finD rfl (by kernel_rfl) ?_
        | refine bq_norm ?_
        | refine lq_normN [0, 9, 13, 14] [] (by simp; exact rfl) ⟨i + 1, by omega⟩ (by dsimp only; omega) (by simp [hd])
        | refine ar_go3 _ rfl (by simp [evsL_len, evsL_getE, evL, prs_len, prs_getE, hlt, hd, hp, h1, h2, hx, hy, h3, h4, h5, h6, hw1]; exact ⟨rfl, rfl, rfl⟩) rfl ?_
        | refine aw_sregK 11 [0, 9, 13, 14] ?_
        | refine aw_regK 11 [0, 9, 13, 14] ?_
        | refine aw_sregK 12 [0, 9, 13, 14] ?_
        | refine aw_regK 12 [0, 9, 13, 14] ?_
        | refine aw_sregK 13 [0, 9, 13, 14] ?_
        | refine aw_regK 13 [0, 9, 13, 14] ?_
        | refine aw_sregK 14 [0, 9, 13, 14, 15] ?_
        | refine aw_regK 14 [0, 9, 13, 14, 15] ?_
        | refine aw_sregK 15 [0, 9, 13, 14, 15, 16] ?_
        | refine aw_regK 15 [0, 9, 13, 14, 15, 16] ?_
        | refine aw_sreg ?_
        | refine aw_sregD mixed ?_
        | refine aw_ifT (b := true) rfl rfl ?_
        | refine aw_ifF (b := false) rfl rfl ?_
        | refine aw_ifT rfl (by assumption) ?_
        | refine aw_ifF rfl (by assumption) ?_
        | refine aw_ifT rfl (decide_eq_true (by assumption)) ?_
        | refine aw_ifF rfl (decide_eq_false (by assumption)) ?_
        | refine aw_seq ?_
        | refine aw_block ?_
        | refine aw_skip ?_
        | refine aw_region ?_
        | refine aw_region_draw mixed ?_
        | refine aw_exit ?_
        | refine rq_exit ?_
        | refine blockQ_hit ?_
        | refine blockQ_miss (by decide) ?_
        | (refine ar_guard rfl rfl rfl rfl (fun h => ?_) (fun h => ?_) <;> (fail_if_success (cases h; done)) <;> (try simp at h) <;> (try subst h))
        | (refine aw_both rfl (fun h => ?_) (fun h => ?_) <;> (fail_if_success (cases h; done)) <;> (try simp at h) <;> (try subst h)))
    ·
      repeat' (first
        | refine ar_end rfl ?_
        | refine ar_endD rfl (by kernel_rfl) ?_
        | refine ar_fin rfl ?_
        | refine ar_finD rfl (by kernel_rfl) ?_
        | refine bq_norm ?_
        | refine lq_normN [0, 9, 13, 14] [] (by simp; exact rfl) ⟨i + 1, by omega⟩ (by dsimp only; omega) (by simp [hd])
        | refine ar_go3 _ rfl (by simp [evsL_len, evsL_getE, evL, prs_len, prs_getE, hlt, hd, hp, h1, h2, hx, hy, h3, h4, h5, h6, hw1]; exact ⟨rfl, rfl, rfl⟩) rfl ?_
        | refine aw_sregK 11 [0, 9, 13, 14] ?_
        | refine aw_regK 11 [0, 9, 13, 14] ?_
        | refine aw_sregK 12 [0, 9, 13, 14] ?_
        | refine aw_regK 12 [0, 9, 13, 14] ?_
        | refine aw_sregK 13 [0, 9, 13, 14] ?_
        | refine aw_regK 13 [0, 9, 13, 14] ?_
        | refine aw_sregK 14 [0, 9, 13, 14, 15] ?_
        | refine aw_regK 14 [0, 9, 13, 14, 15] ?_
        | refine aw_sregK 15 [0, 9, 13, 14, 15, 16] ?_
        | refine aw_regK 15 [0, 9, 13, 14, 15, 16] ?_
        | refine aw_sreg ?_
        | refine aw_sregD mixed ?_
        | refine aw_ifT (b := true) rfl rfl ?_
        | refine aw_ifF (b := false) rfl rfl ?_
        | refine aw_ifT rfl (by assumption) ?_
        | refine aw_ifF rfl (by assumption) ?_
        | refine aw_ifT rfl (decide_eq_true (by assumption)) ?_
        | refine aw_ifF rfl (decide_eq_false (by assumption)) ?_
        | refine aw_seq ?_
        | refine aw_block ?_
        | refine aw_skip ?_
        | refine aw_region ?_
        | refine aw_region_draw mixed ?_
        | refine aw_exit ?_
        | refine rq_exit ?_
        | refine blockQ_hit ?_
        | refine blockQ_miss (by decide) ?_
        | (refine ar_guard rfl rfl rfl rfl (fun h => ?_) (fun h => ?_) <;> (fail_if_success (cases h; done)) <;> (try simp at h) <;> (try subst h))
        | (refine aw_both rfl (fun h => ?_) (fun h => ?_) <;> (fail_if_success (cases h; done)) <;> (try simp at h) <;> (try subst h)))
  · have hd : ¬(i : Int) < (PS.length : Int) := by omega
    repeat' (first
      | exact aw_ret (ret_vals (by simp; exact rfl) (by simp [*]; fail_if_success (show _)))
      | exact aw_ret (ret_vals (by simp; exact rfl) (by simp [*]; omega))
      | refine ar_end rfl ?_
      | refine ar_endD rfl (by kernel_rfl) ?_
      | refine ar_fin rfl ?_
      | refine ar_finD rfl (by kernel_rfl) ?_
      | refine lq_exit ?_
      | refine ar_go3 _ rfl (by simp [evsL_len, evsL_getE, evL, prs_len, prs_getE, hd]; exact ⟨rfl, rfl, rfl⟩) rfl ?_
      | refine aw_sregK 11 [0, 9, 13, 14] ?_
      | refine aw_regK 11 [0, 9, 13, 14] ?_
      | refine aw_sregK 17 [9] ?_
      | refine aw_regK 17 [9] ?_
      | refine aw_sreg ?_
      | refine aw_sregD mixed ?_
      | refine aw_ifT (b := true) rfl rfl ?_
      | refine aw_ifF (b := false) rfl rfl ?_
      | refine aw_ifT rfl (by assumption) ?_
      | refine aw_ifF rfl (by assumption) ?_
      | refine aw_ifT rfl (decide_eq_true (by assumption)) ?_
      | refine aw_ifF rfl (decide_eq_false (by assumption)) ?_
      | refine aw_seq ?_
      | refine aw_block ?_
      | refine aw_skip ?_
      | refine aw_region ?_
      | refine aw_region_draw mixed ?_
      | refine aw_exit ?_
      | refine rq_exit ?_
      | refine blockQ_hit ?_
      | refine blockQ_miss (by decide) ?_
      | (refine ar_guard rfl rfl rfl rfl (fun h => ?_) (fun h => ?_) <;> (fail_if_success (cases h; done)) <;> (try simp at h) <;> (try subst h))
      | (refine aw_both rfl (fun h => ?_) (fun h => ?_) <;> (fail_if_success (cases h; done)) <;> (try simp at h) <;> (try subst h)))
end Go.Eng
