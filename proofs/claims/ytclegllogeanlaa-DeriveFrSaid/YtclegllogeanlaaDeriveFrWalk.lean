import Derived.Test.YtclegllogeanlaaDerD
import Derived.Test.YtclegllogeanlaaDerivePartsWalk
import Derived.Test.YtclegllogeanlaaXorB
set_option linter.unusedSimpArgs false
set_option linter.unusedVariables false
set_option linter.constructorNameAsVariable false
set_option autoImplicit false
namespace Go.Eng
open Go Go.RowKit Go.Proofs
set_option maxHeartbeats 16000000 in
theorem law_DeriveFr {l : List Ev} {init : List Int} {w v : Nat} (hll : l.length ≤ maxLen) (hw : w ≤ 65535) (hv : v ≤ 65535) : SC Try.prog 9 [.pv (.sl 7 (evsL l)), .pv (.sl 1 (ints init)), I .u16 w, I .u16 v] (B true) := by
  have hml : maxLen = 9223372036854775807 := rfl
  by_cases h8 : l.length ≤ 8
  rotate_left
  · have h8' : (8 : Int) < (l.length : Int) := by omega
    refine scx_of Try.func9 rfl rfl rfl (Nat.le_of_ble_eq_true rfl) ?_
    repeat' (first
      | exact aw_ret (ret_vals (by simp; exact rfl) (by simp [*]; fail_if_success (show _)))
      | exact aw_ret (ret_vals (by simp; exact rfl) (by simp [*]; omega))
      | refine ar_end rfl ?_
      | refine ar_endD rfl (by kernel_rfl) ?_
      | refine ar_fin rfl ?_
      | refine ar_finD rfl (by kernel_rfl) ?_
      | refine ar_callV Try.call13 c_shown13 rfl rfl rfl rfl rfl (by simp; done) (by rfl) (by simp; done) ?_
      | refine ar_callV_if Try.call13 c_shown13 rfl rfl rfl rfl rfl rfl (by simp; done) rfl (by rfl) (by simp; done) ?_
      | refine ar_go3 _ rfl (by simp [evsL_len, evsL_getE, evL, prs_len, prs_getE, ints_len, ints_getE, intsL_len, intsL_getE, h8']; exact ⟨rfl, rfl, rfl⟩) rfl ?_
      | refine aw_sregK 0 [0, 1, 2, 3] ?_
      | refine aw_regK 0 [0, 1, 2, 3] ?_
      | refine aw_sregK 1 [0, 1, 2, 3] ?_
      | refine aw_regK 1 [0, 1, 2, 3] ?_
      | refine aw_sregK 2 [0, 1, 2, 3, 9] ?_
      | refine aw_regK 2 [0, 1, 2, 3, 9] ?_
      | refine aw_sregK 3 [9] ?_
      | refine aw_regK 3 [9] ?_
      | refine aw_sreg ?_
      | refine aw_sregD mixed ?_
      | refine aw_ifT (b := true) rfl rfl ?_
      | refine aw_ifF (b := false) rfl rfl ?_
      | refine aw_ifT rfl (by assumption) ?_
      | refine aw_ifF rfl (by assumption) ?_
      | refine aw_ifT rfl (decide_eq_true (by assumption)) ?_
      | refine aw_ifF rfl (decide_eq_false (by assumption)) ?_
      | refine aw_seq ?_
      | refine aw_block ?_
      | refine aw_skip ?_
      | refine aw_region ?_
      | refine aw_region_draw mixed ?_
      | refine aw_exit ?_
      | refine rq_exit ?_
      | refine blockQ_hit ?_
      | refine blockQ_miss (by decide) ?_
      | (refine ar_guard rfl rfl rfl rfl (fun h => ?_) (fun h => ?_) <;> (fail_if_success (cases h; done)) <;> (try simp at h) <;> (try subst h))
      | (refine aw_both rfl (fun h => ?_) (fun h => ?_) <;> (fail_if_success (cases h; done)) <;> (try simp at h) <;> (try subst h)))
  have h8' : ¬(8 : Int) < (l.length : Int) := by omega
  obtain ⟨W, hW, hWl, hWs⟩ := c_srcAll (es := l) (init := init) (by omega)
  obtain ⟨hA, hAl⟩ := c_all8 h8
  have hrk : ∀ co ∈ allR l, ∃ f, Rank l co f := fun co h => allR_rank (by omega) h
  have hsr : ∀ fm ∈ W, Src l fm := fun fm h => src_of (hWs fm h).1 (hWs fm h).2
  clear hWs
  generalize allR l = A at *
  by_cases hW0 : W.length = 0
  · have hW0' : (W.length : Int) = 0 := by omega
    refine scx_of Try.func9 rfl rfl rfl (Nat.le_of_ble_eq_true rfl) ?_
    repeat' (first
      | exact aw_ret (ret_vals (by simp; exact rfl) (by simp [*]; fail_if_success (show _)))
      | exact aw_ret (ret_vals (by simp; exact rfl) (by simp [*]; omega))
      | refine ar_end rfl ?_
      | refine ar_endD rfl (by kernel_rfl) ?_
      | refine ar_fin rfl ?_
      | refine ar_finD rfl (by kernel_rfl) ?_
      | refine ar_callV Try.call13 c_shown13 rfl rfl rfl rfl rfl (by simp; done) (by rfl) (by simp; done) ?_
      | refine ar_callV_if Try.call13 c_shown13 rfl rfl rfl rfl rfl rfl (by simp; done) rfl (by rfl) (by simp; done) ?_
      | refine ar_callV Try.call43 hW rfl rfl rfl rfl rfl (by simp; done) (by rfl) (by simp; done) ?_
      | refine ar_callV_if Try.call43 hW rfl rfl rfl rfl rfl rfl (by simp; done) rfl (by rfl) (by simp; done) ?_
      | refine ar_callV Try.call26 hA rfl rfl rfl rfl rfl (by simp; done) (by rfl) (by simp; done) ?_
      | refine ar_callV_if Try.call26 hA rfl rfl rfl rfl rfl rfl (by simp; done) rfl (by rfl) (by simp; done) ?_
      | refine ar_go3 _ rfl (by simp [evsL_len, evsL_getE, evL, prs_len, prs_getE, ints_len, ints_getE, intsL_len, intsL_getE, rlsL_len, rlsL_getE, exL, h8', hW0, hW0']; exact ⟨rfl, rfl, rfl⟩) rfl ?_
      | refine aw_sregK 0 [0, 1, 2, 3] ?_
      | refine aw_regK 0 [0, 1, 2, 3] ?_
      | refine aw_sregK 1 [0, 1, 2, 3] ?_
      | refine aw_regK 1 [0, 1, 2, 3] ?_
      | refine aw_sregK 2 [0, 1, 2, 3, 9] ?_
      | refine aw_regK 2 [0, 1, 2, 3, 9] ?_
      | refine aw_sregK 3 [9] ?_
      | refine aw_regK 3 [9] ?_
      | refine aw_sregK 4 [0, 1, 2, 3, 9] ?_
      | refine aw_regK 4 [0, 1, 2, 3, 9] ?_
      | refine aw_sregK 5 [0, 1, 2, 3, 9, 10] ?_
      | refine aw_regK 5 [0, 1, 2, 3, 9, 10] ?_
      | refine aw_sregK 6 [0, 2, 3, 9, 10, 11] ?_
      | refine aw_regK 6 [0, 2, 3, 9, 10, 11] ?_
      | refine aw_sregK 7 [0, 2, 3, 9, 10, 11, 12] ?_
      | refine aw_regK 7 [0, 2, 3, 9, 10, 11, 12] ?_
      | refine aw_sregK 8 [9] ?_
      | refine aw_regK 8 [9] ?_
      | refine aw_sreg ?_
      | refine aw_sregD mixed ?_
      | refine aw_ifT (b := true) rfl rfl ?_
      | refine aw_ifF (b := false) rfl rfl ?_
      | refine aw_ifT rfl (by assumption) ?_
      | refine aw_ifF rfl (by assumption) ?_
      | refine aw_ifT rfl (decide_eq_true (by assumption)) ?_
      | refine aw_ifF rfl (decide_eq_false (by assumption)) ?_
      | refine aw_seq ?_
      | refine aw_block ?_
      | refine aw_skip ?_
      | refine aw_region ?_
      | refine aw_region_draw mixed ?_
      | refine aw_exit ?_
      | refine rq_exit ?_
      | refine blockQ_hit ?_
      | refine blockQ_miss (by decide) ?_
      | (refine ar_guard rfl rfl rfl rfl (fun h => ?_) (fun h => ?_) <;> (fail_if_success (cases h; done)) <;> (try simp at h) <;> (try subst h))
      | (refine aw_both rfl (fun h => ?_) (fun h => ?_) <;> (fail_if_success (cases h; done)) <;> (try simp at h) <;> (try subst h)))
  have hW0' : ¬(W.length : Int) = 0 := by omega
  by_cases hA0 : A.length = 0
  · have hA0' : (A.length : Int) = 0 := by omega
    refine scx_of Try.func9 rfl rfl rfl (Nat.le_of_ble_eq_true rfl) ?_
    repeat' (first
      | exact aw_ret (ret_vals (by simp; exact rfl) (by simp [*]; fail_if_success (show _)))
      | exact aw_ret (ret_vals (by simp; exact rfl) (by simp [*]; omega))
      | refine ar_end rfl ?_
      | refine ar_endD rfl (by kernel_rfl) ?_
      | refine ar_fin rfl ?_
      | refine ar_finD rfl (by kernel_rfl) ?_
      | refine ar_callV Try.call13 c_shown13 rfl rfl rfl rfl rfl (by simp; done) (by rfl) (by simp; done) ?_
      | refine ar_callV_if Try.call13 c_shown13 rfl rfl rfl rfl rfl rfl (by simp; done) rfl (by rfl) (by simp; done) ?_
      | refine ar_callV Try.call43 hW rfl rfl rfl rfl rfl (by simp; done) (by rfl) (by simp; done) ?_
      | refine ar_callV_if Try.call43 hW rfl rfl rfl rfl rfl rfl (by simp; done) rfl (by rfl) (by simp; done) ?_
      | refine ar_callV Try.call26 hA rfl rfl rfl rfl rfl (by simp; done) (by rfl) (by simp; done) ?_
      | refine ar_callV_if Try.call26 hA rfl rfl rfl rfl rfl rfl (by simp; done) rfl (by rfl) (by simp; done) ?_
      | refine ar_go3 _ rfl (by simp [evsL_len, evsL_getE, evL, prs_len, prs_getE, ints_len, ints_getE, intsL_len, intsL_getE, rlsL_len, rlsL_getE, exL, h8', hW0, hW0', hA0, hA0']; exact ⟨rfl, rfl, rfl⟩) rfl ?_
      | refine aw_sregK 0 [0, 1, 2, 3] ?_
      | refine aw_regK 0 [0, 1, 2, 3] ?_
      | refine aw_sregK 1 [0, 1, 2, 3] ?_
      | refine aw_regK 1 [0, 1, 2, 3] ?_
      | refine aw_sregK 2 [0, 1, 2, 3, 9] ?_
      | refine aw_regK 2 [0, 1, 2, 3, 9] ?_
      | refine aw_sregK 3 [9] ?_
      | refine aw_regK 3 [9] ?_
      | refine aw_sregK 4 [0, 1, 2, 3, 9] ?_
      | refine aw_regK 4 [0, 1, 2, 3, 9] ?_
      | refine aw_sregK 5 [0, 1, 2, 3, 9, 10] ?_
      | refine aw_regK 5 [0, 1, 2, 3, 9, 10] ?_
      | refine aw_sregK 6 [0, 2, 3, 9, 10, 11] ?_
      | refine aw_regK 6 [0, 2, 3, 9, 10, 11] ?_
      | refine aw_sregK 7 [0, 2, 3, 9, 10, 11, 12] ?_
      | refine aw_regK 7 [0, 2, 3, 9, 10, 11, 12] ?_
      | refine aw_sregK 8 [9] ?_
      | refine aw_regK 8 [9] ?_
      | refine aw_sreg ?_
      | refine aw_sregD mixed ?_
      | refine aw_ifT (b := true) rfl rfl ?_
      | refine aw_ifF (b := false) rfl rfl ?_
      | refine aw_ifT rfl (by assumption) ?_
      | refine aw_ifF rfl (by assumption) ?_
      | refine aw_ifT rfl (decide_eq_true (by assumption)) ?_
      | refine aw_ifF rfl (decide_eq_false (by assumption)) ?_
      | refine aw_seq ?_
      | refine aw_block ?_
      | refine aw_skip ?_
      | refine aw_region ?_
      | refine aw_region_draw mixed ?_
      | refine aw_exit ?_
      | refine rq_exit ?_
      | refine blockQ_hit ?_
      | refine blockQ_miss (by decide) ?_
      | (refine ar_guard rfl rfl rfl rfl (fun h => ?_) (fun h => ?_) <;> (fail_if_success (cases h; done)) <;> (try simp at h) <;> (try subst h))
      | (refine aw_both rfl (fun h => ?_) (fun h => ?_) <;> (fail_if_success (cases h; done)) <;> (try simp at h) <;> (try subst h)))
  have hA0' : ¬(A.length : Int) = 0 := by omega
  have hww : IntKind.wrap .i64 (w : Int) = (w : Int) := wrap64s (by omega) (by omega)
  have hwv : IntKind.wrap .i64 (v : Int) = (v : Int) := wrap64s (by omega) (by omega)
  have htw : (w : Int).tmod (W.length : Int) = ((w % W.length : Nat) : Int) := rfl
  have htv : (v : Int).tmod (A.length : Int) = ((v % A.length : Nat) : Int) := rfl
  have hlw : w % W.length < W.length := Nat.mod_lt _ (by omega)
  have hlv : v % A.length < A.length := Nat.mod_lt _ (by omega)
  generalize w % W.length = n1 at *
  generalize v % A.length = n2 at *
  have hS := hsr W[n1] (List.getElem_mem hlw)
  obtain ⟨f, hR⟩ := hrk A[n2] (List.getElem_mem hlv)
  generalize hfm : W[n1] = fm at *
  generalize hco : A[n2] = co at *
  have h32 : l.length ≤ 32 := by omega
  have hcol : co.length ≤ maxLen := by rw [hR.cl.len]; omega
  have hfml : fm.length ≤ 1000000 := by rw [hS.len]; omega
  have hFc := fr_cl h32 fm co
  have hFl : (frR l fm co).length ≤ maxLen := by rw [hFc.len]; omega
  have k44 := c_fr (es := l) (fm := fm) (co := co) h32
  have k19 := c_pairsV (r := frR l fm co) hFl
  have hlen := hS.len
  have hps : ∀ p ∈ pairsR (frR l fm co), ∃ h1 : p.1 < l.length, ∃ h2 : p.2 < l.length, l[p.1].k = 1 ∧ l[p.2].k = 2 ∧ l[p.1].l = l[p.2].l ∧ (fm[p.1]'(by omega) = -1 ∨ ∃ a : Nat, fm[p.1]'(by omega) = a ∧ ¬(a : Int) = (p.2 : Int) ∧ hasR co (a : Int) (p.2 : Int) = true) := fun p hp => by
    obtain ⟨h1, h2, h3⟩ := mem_pairs.1 hp
    rw [hFc.clean] at h1 h2 h3
    rw [hFc.len] at h1 h2
    obtain ⟨g1, g2, g3, g4⟩ := (fr_iff hS hR h1 h2).1 h3
    refine ⟨h1, h2, g1, g2, g3, g4.imp id ?_⟩
    rintro ⟨a, ha, e1, e2, e3, e4⟩
    refine ⟨a, e1, fun e => ?_, ?_⟩
    · have : a = p.2 := by omega
      subst this; omega
    · rw [has_nat hR.cl]; exact (hR.bit a p.2 ha h2).2 ⟨e2, g2, by rw [e3, g3], trivial, e4⟩
  have hpl : (pairsR (frR l fm co)).length ≤ 64 := by
    rw [pairs_eq]
    refine Nat.le_trans (upto_len _ _ _) ?_
    rw [hFc.clean, hFc.len]
    exact Nat.le_trans (Nat.mul_le_mul h8 h8) (by decide)
  have hall : ∀ r w, (hr : r < l.length) → (hw : w < l.length) → l[r].k = 1 → l[w].k = 2 → l[r].l = l[w].l → hasR (frR l fm co) (r : Int) (w : Int) = false → fm[r]'(by omega) = (w : Int) ∨ ∃ a : Nat, fm[r]'(by omega) = (a : Int) ∧ ¬(a : Int) = (w : Int) ∧ hasR co (w : Int) (a : Int) = true := fun r w hr hw kr kw hl hq => by
    rw [has_nat hFc] at hq
    have hn : ¬(fm[r]'(by omega) = -1 ∨ ∃ a : Nat, ∃ ha : a < l.length, fm[r]'(by omega) = a ∧ l[a].k = 2 ∧ l[a].l = l[r].l ∧ f a < f w) := fun h => by
      have := (fr_iff hS hR hr hw).2 ⟨kr, kw, hl, h⟩
      rw [hq] at this; cases this
    rcases hS.rd r hr (by omega) with ⟨_, h1 | ⟨a, ha, h1, ka, la⟩⟩ | ⟨h, _⟩
    · exact absurd (.inl h1) hn
    · by_cases e : a = w
      · subst e; exact .inl h1
      · refine .inr ⟨a, h1, by omega, ?_⟩
        rw [has_nat hR.cl]
        refine (hR.bit w a hw ha).2 ⟨kw, ka, by rw [la, hl], trivial, ?_⟩
        have n1 : ¬f a < f w := fun h => hn (.inr ⟨a, ha, h1, ka, la, h⟩)
        have n2 : f a ≠ f w := fun h => e (hR.inj a w ha hw ka kw (by rw [la, hl]) trivial h)
        omega
    · exact absurd kr h
  clear hFc hFl hS hR
  generalize frR l fm co = F at *
  generalize pairsR F = PS at *
  refine scx_of Try.func9 rfl rfl rfl (Nat.le_of_ble_eq_true rfl) ?_
  repeat' (first
    | refine ar_end rfl ?_
    | refine ar_endD rfl (by kernel_rfl) ?_
    | refine ar_fin rfl ?_
    | refine ar_finD rfl (by kernel_rfl) ?_
    | refine ar_callV Try.call13 c_shown13 rfl rfl rfl rfl rfl (by simp; done) (by rfl) (by simp; done) ?_
    | refine ar_callV_if Try.call13 c_shown13 rfl rfl rfl rfl rfl rfl (by simp; done) rfl (by rfl) (by simp; done) ?_
    | refine ar_callV Try.call43 hW rfl rfl rfl rfl rfl (by simp; done) (by rfl) (by simp; done) ?_
    | refine ar_callV_if Try.call43 hW rfl rfl rfl rfl rfl rfl (by simp; done) rfl (by rfl) (by simp; done) ?_
    | refine ar_callV Try.call26 hA rfl rfl rfl rfl rfl (by simp; done) (by rfl) (by simp; done) ?_
    | refine ar_callV_if Try.call26 hA rfl rfl rfl rfl rfl rfl (by simp; done) rfl (by rfl) (by simp; done) ?_
    | refine ar_callV Try.call44 k44 rfl rfl rfl rfl rfl (by simp; done) (by rfl) (by simp; done) ?_
    | refine ar_callV_if Try.call44 k44 rfl rfl rfl rfl rfl rfl (by simp; done) rfl (by rfl) (by simp; done) ?_
    | refine ar_callV Try.call19 k19 rfl rfl rfl rfl rfl (by simp; done) (by rfl) (by simp; done) ?_
    | refine ar_callV_if Try.call19 k19 rfl rfl rfl rfl rfl rfl (by simp; done) rfl (by rfl) (by simp; done) ?_
    | refine ar_go3 _ rfl (by simp [evsL_len, evsL_getE, evL, prs_len, prs_getE, ints_len, ints_getE, intsL_len, intsL_getE, rlsL_len, rlsL_getE, exL, h8', hW0, hW0', hA0, hA0', hww, hwv, htw, htv, hlw, hlv, hfm, hco]; exact ⟨rfl, rfl, rfl⟩) rfl ?_
    | refine aw_sregK 0 [0, 1, 2, 3] ?_
    | refine aw_regK 0 [0, 1, 2, 3] ?_
    | refine aw_sregK 1 [0, 1, 2, 3] ?_
    | refine aw_regK 1 [0, 1, 2, 3] ?_
    | refine aw_sregK 2 [0, 1, 2, 3, 9] ?_
    | refine aw_regK 2 [0, 1, 2, 3, 9] ?_
    | refine aw_sregK 4 [0, 1, 2, 3, 9] ?_
    | refine aw_regK 4 [0, 1, 2, 3, 9] ?_
    | refine aw_sregK 5 [0, 1, 2, 3, 9, 10] ?_
    | refine aw_regK 5 [0, 1, 2, 3, 9, 10] ?_
    | refine aw_sregK 6 [0, 2, 3, 9, 10, 11] ?_
    | refine aw_regK 6 [0, 2, 3, 9, 10, 11] ?_
    | refine aw_sregK 7 [0, 2, 3, 9, 10, 11, 12] ?_
    | refine aw_regK 7 [0, 2, 3, 9, 10, 11, 12] ?_
    | refine aw_sregK 9 [0, 2, 3, 9, 10, 11, 12] ?_
    | refine aw_regK 9 [0, 2, 3, 9, 10, 11, 12] ?_
    | refine aw_sregK 10 [0, 3, 9, 10, 12, 13] ?_
    | refine aw_regK 10 [0, 3, 9, 10, 12, 13] ?_
    | refine aw_sregK 11 [0, 9, 10, 13, 14] ?_
    | refine aw_regK 11 [0, 9, 10, 13, 14] ?_
    | refine aw_sregK 12 [0, 9, 13, 14, 15] ?_
    | refine aw_regK 12 [0, 9, 13, 14, 15] ?_
    | refine aw_sregK 13 [0, 9, 13, 14, 15, 16] ?_
    | refine aw_regK 13 [0, 9, 13, 14, 15, 16] ?_
    | refine aw_sreg ?_
    | refine aw_sregD mixed ?_
    | refine aw_ifT (b := true) rfl rfl ?_
    | refine aw_ifF (b := false) rfl rfl ?_
    | refine aw_ifT rfl (by assumption) ?_
    | refine aw_ifF rfl (by assumption) ?_
    | refine aw_ifT rfl (decide_eq_true (by assumption)) ?_
    | refine aw_ifF rfl (decide_eq_false (by assumption)) ?_
    | refine aw_seq ?_
    | refine aw_block ?_
    | refine aw_skip ?_
    | refine aw_region ?_
    | refine aw_region_draw mixed ?_
    | refine aw_exit ?_
    | refine rq_exit ?_
    | refine blockQ_hit ?_
    | refine blockQ_miss (by decide) ?_
    | (refine ar_guard rfl rfl rfl rfl (fun h => ?_) (fun h => ?_) <;> (fail_if_success (cases h; done)) <;> (try simp at h) <;> (try subst h))
    | (refine aw_both rfl (fun h => ?_) (fun h => ?_) <;> (fail_if_success (cases h; done)) <;> (try simp at h) <;> (try subst h)))
  refine aw_loopN [0, 9, 13, 14, 15, 16, 17] [] (by simp; exact rfl) (ι := {i : Nat // i ≤ PS.length}) (fun i => ⟨205, [(0, .pv (.sl 7 (evsL l))), (9, B true), (13, .pv (.sl 1 (ints fm))), (14, .pv (.sl 1 (rl co))), (15, .pv (.sl 1 (rl F))), (16, .pv (.sl 2 (prs PS))), (17, I .i64 i.1)], []⟩) (fun i => PS.length - i.1) ⟨0, by omega⟩ (by simp) ?_
  rintro ⟨i, hi⟩
  by_cases hlt : i < PS.length
  · have hw1 : IntKind.wrap .i64 ((i : Int) + 1) = (i : Int) + 1 := wrap64s (by omega) (by omega)
    have hd : (i : Int) < (PS.length : Int) := by omega
    obtain ⟨h1, h2, h3, h4, h5, h6⟩ := hps PS[i] (List.getElem_mem hlt)
    generalize hp : PS[i] = p at *
    obtain ⟨a, b⟩ := p
    dsimp only at h1 h2 h3 h4 h5 h6
    have haf : a < fm.length := by omega
    generalize hx : l[a] = x at *
    generalize hy : l[b] = y at *
    generalize hfa : fm[a] = fa at *
    rcases h6 with h6 | ⟨q, h6, h7, h8⟩
    · subst h6
      have hne : ¬(-1 : Int) = (b : Int) := by omega
      repeat' (first
        | refine ar_end rfl ?_
        | refine ar_endD rfl (by kernel_rfl) ?_
        | refine ar_fin rfl ?_
        | refine ar_finD rfl (by kernel_rfl) ?_
        | refine bq_norm ?_
        | refine lq_normN [0, 9, 13, 14, 15, 16, 17] [] (by simp; exact rfl) ⟨i + 1, by omega⟩ (by dsimp only; omega) (by simp [hd])
        | refine ar_go3 _ rfl (by simp [evsL_len, evsL_getE, evL, prs_len, prs_getE, ints_len, ints_getE, intsL_len, intsL_getE, hlt, hd, hp, h1, h2, haf, hx, hy, hfa, h3, h4, h5, hne, hw1]; exact ⟨rfl, rfl, rfl⟩) rfl ?_
        | refine aw_sregK 14 [0, 9, 13, 14, 15, 16, 17] ?_
        | refine aw_regK 14 [0, 9, 13, 14, 15, 16, 17] ?_
        | refine aw_sregK 15 [0, 9, 13, 14, 15, 16, 17] ?_
        | refine aw_regK 15 [0, 9, 13, 14, 15, 16, 17] ?_
        | refine aw_sregK 16 [0, 9, 13, 14, 15, 16, 17] ?_
        | refine aw_regK 16 [0, 9, 13, 14, 15, 16, 17] ?_
        | refine aw_sregK 17 [0, 9, 13, 14, 15, 16, 17, 18] ?_
        | refine aw_regK 17 [0, 9, 13, 14, 15, 16, 17, 18] ?_
        | refine aw_sregKD mixed 18 [0, 9, 13, 14, 15, 16, 17, 18, 19] (by simp; exact rfl) ?_
        | refine aw_regKD mixed 18 [0, 9, 13, 14, 15, 16, 17, 18, 19] (by simp; exact rfl) ?_
        | refine aw_sreg ?_
        | refine aw_sregD mixed ?_
        | refine aw_ifT (b := true) rfl rfl ?_
        | refine aw_ifF (b := false) rfl rfl ?_
        | refine aw_ifT rfl (by assumption) ?_
        | refine aw_ifF rfl (by assumption) ?_
        | refine aw_ifT rfl (decide_eq_true (by assumption)) ?_
        | refine aw_ifF rfl (decide_eq_false (by assumption)) ?_
        | refine aw_seq ?_
        | refine aw_block ?_
        | refine aw_skip ?_
        | refine aw_region ?_
        | refine aw_region_draw mixed ?_
        | refine aw_exit ?_
        | refine rq_exit ?_
        | refine blockQ_hit ?_
        | refine blockQ_miss (by decide) ?_
        | (refine ar_guard rfl rfl rfl rfl (fun h => ?_) (fun h => ?_) <;> (fail_if_success (cases h; done)) <;> (try simp at h) <;> (try subst h))
        | (refine aw_both rfl (fun h => ?_) (fun h => ?_) <;> (fail_if_success (cases h; done)) <;> (try simp at h) <;> (try subst h)))
    · subst h6
      have hge : (0 : Int) ≤ (q : Int) := by omega
      have k17 := c_has (r := co) (i := (q : Int)) (k := (b : Int))
      rw [h8] at k17
      repeat' (first
        | refine ar_end rfl ?_
        | refine ar_endD rfl (by kernel_rfl) ?_
        | refine ar_fin rfl ?_
        | refine ar_finD rfl (by kernel_rfl) ?_
        | refine ar_callV Try.call17 k17 rfl rfl rfl rfl rfl (by simp; done) (by rfl) (by simp; done) ?_
        | refine ar_callV_if Try.call17 k17 rfl rfl rfl rfl rfl rfl (by simp; done) rfl (by rfl) (by simp; done) ?_
        | refine bq_norm ?_
        | refine lq_normN [0, 9, 13, 14, 15, 16, 17] [] (by simp; exact rfl) ⟨i + 1, by omega⟩ (by dsimp only; omega) (by simp [hd])
        | refine ar_go3 _ rfl (by simp [evsL_len, evsL_getE, evL, prs_len, prs_getE, ints_len, ints_getE, intsL_len, intsL_getE, hlt, hd, hp, h1, h2, haf, hx, hy, hfa, h3, h4, h5, h7, hge, hw1]; exact ⟨rfl, rfl, rfl⟩) rfl ?_
        | refine aw_sregK 14 [0, 9, 13, 14, 15, 16, 17] ?_
        | refine aw_regK 14 [0, 9, 13, 14, 15, 16, 17] ?_
        | refine aw_sregK 15 [0, 9, 13, 14, 15, 16, 17] ?_
        | refine aw_regK 15 [0, 9, 13, 14, 15, 16, 17] ?_
        | refine aw_sregK 16 [0, 9, 13, 14, 15, 16, 17] ?_
        | refine aw_regK 16 [0, 9, 13, 14, 15, 16, 17] ?_
        | refine aw_sregK 17 [0, 9, 13, 14, 15, 16, 17, 18] ?_
        | refine aw_regK 17 [0, 9, 13, 14, 15, 16, 17, 18] ?_
        | refine aw_sregKD mixed 18 [0, 9, 13, 14, 15, 16, 17, 18, 19] (by simp; exact rfl) ?_
        | refine aw_regKD mixed 18 [0, 9, 13, 14, 15, 16, 17, 18, 19] (by simp; exact rfl) ?_
        | refine aw_sreg ?_
        | refine aw_sregD mixed ?_
        | refine aw_ifT (b := true) rfl rfl ?_
        | refine aw_ifF (b := false) rfl rfl ?_
        | refine aw_ifT rfl (by assumption) ?_
        | refine aw_ifF rfl (by assumption) ?_
        | refine aw_ifT rfl (decide_eq_true (by assumption)) ?_
        | refine aw_ifF rfl (decide_eq_false (by assumption)) ?_
        | refine aw_seq ?_
        | refine aw_block ?_
        | refine aw_skip ?_
        | refine aw_region ?_
        | refine aw_region_draw mixed ?_
        | refine aw_exit ?_
        | refine rq_exit ?_
        | refine blockQ_hit ?_
        | refine blockQ_miss (by decide) ?_
        | (refine ar_guard rfl rfl rfl rfl (fun h => ?_) (fun h => ?_) <;> (fail_if_success (cases h; done)) <;> (try simp at h) <;> (try subst h))
        | (refine aw_both rfl (fun h => ?_) (fun h => ?_) <;> (fail_if_success (cases h; done)) <;> (try simp at h) <;> (try subst h)))
  have hd : ¬(i : Int) < (PS.length : Int) := by omega
  repeat' (first
    | refine ar_end rfl ?_
    | refine ar_endD rfl (by kernel_rfl) ?_
    | refine ar_fin rfl ?_
    | refine ar_finD rfl (by kernel_rfl) ?_
    | refine lq_exit ?_
    | refine ar_go3 _ rfl (by simp [evsL_len, evsL_getE, evL, prs_len, prs_getE, hd]; exact ⟨rfl, rfl, rfl⟩) rfl ?_
    | refine aw_sregK 14 [0, 9, 13, 14, 15, 16, 17] ?_
    | refine aw_regK 14 [0, 9, 13, 14, 15, 16, 17] ?_
    | refine aw_sregK 20 [0, 9, 13, 14, 15] ?_
    | refine aw_regK 20 [0, 9, 13, 14, 15] ?_
    | refine aw_sreg ?_
    | refine aw_sregD mixed ?_
    | refine aw_ifT (b := true) rfl rfl ?_
    | refine aw_ifF (b := false) rfl rfl ?_
    | refine aw_ifT rfl (by assumption) ?_
    | refine aw_ifF rfl (by assumption) ?_
    | refine aw_ifT rfl (decide_eq_true (by assumption)) ?_
    | refine aw_ifF rfl (decide_eq_false (by assumption)) ?_
    | refine aw_seq ?_
    | refine aw_block ?_
    | refine aw_skip ?_
    | refine aw_region ?_
    | refine aw_region_draw mixed ?_
    | refine aw_exit ?_
    | refine rq_exit ?_
    | refine blockQ_hit ?_
    | refine blockQ_miss (by decide) ?_
    | (refine ar_guard rfl rfl rfl rfl (fun h => ?_) (fun h => ?_) <;> (fail_if_success (cases h; done)) <;> (try simp at h) <;> (try subst h))
    | (refine aw_both rfl (fun h => ?_) (fun h => ?_) <;> (fail_if_success (cases h; done)) <;> (try simp at h) <;> (try subst h)))
  refine aw_loopN [0, 9, 13, 14, 15, 20] [] (by simp; exact rfl) (ι := {i : Nat // i ≤ l.length}) (fun i => ⟨205, [(0, .pv (.sl 7 (evsL l))), (9, B true), (13, .pv (.sl 1 (ints fm))), (14, .pv (.sl 1 (rl co))), (15, .pv (.sl 1 (rl F))), (20, I .i64 i.1)], []⟩) (fun i => l.length - i.1) ⟨0, by omega⟩ (by simp) ?_
  rintro ⟨a, hia⟩
  by_cases hal : a < l.length
  · have hw1 : IntKind.wrap .i64 ((a : Int) + 1) = (a : Int) + 1 := wrap64s (by omega) (by omega)
    have hd1 : (a : Int) < (l.length : Int) := by omega
    have haf : a < fm.length := by omega
    have hall1 := fun w hw => hall a w hal hw
    generalize hx : l[a] = x at *
    generalize hfa : fm[a] = fa at *
    repeat' (first
      | refine ar_end rfl ?_
      | refine ar_endD rfl (by kernel_rfl) ?_
      | refine ar_fin rfl ?_
      | refine ar_finD rfl (by kernel_rfl) ?_
      | refine ar_go3 _ rfl (by simp [evsL_len, evsL_getE, evL, prs_len, prs_getE, ints_len, ints_getE, intsL_len, intsL_getE, hal, hd1]; exact ⟨rfl, rfl, rfl⟩) rfl ?_
      | refine aw_sregK 21 [0, 9, 13, 14, 15, 20] ?_
      | refine aw_regK 21 [0, 9, 13, 14, 15, 20] ?_
      | refine aw_sregK 23 [0, 9, 13, 14, 15, 20] ?_
      | refine aw_regK 23 [0, 9, 13, 14, 15, 20] ?_
      | refine aw_sreg ?_
      | refine aw_sregD mixed ?_
      | refine aw_ifT (b := true) rfl rfl ?_
      | refine aw_ifF (b := false) rfl rfl ?_
      | refine aw_ifT rfl (by assumption) ?_
      | refine aw_ifF rfl (by assumption) ?_
      | refine aw_ifT rfl (decide_eq_true (by assumption)) ?_
      | refine aw_ifF rfl (decide_eq_false (by assumption)) ?_
      | refine aw_seq ?_
      | refine aw_block ?_
      | refine aw_skip ?_
      | refine aw_region ?_
      | refine aw_region_draw mixed ?_
      | refine aw_exit ?_
      | refine rq_exit ?_
      | refine blockQ_hit ?_
      | refine blockQ_miss (by decide) ?_
      | (refine ar_guard rfl rfl rfl rfl (fun h => ?_) (fun h => ?_) <;> (fail_if_success (cases h; done)) <;> (try simp at h) <;> (try subst h))
      | (refine aw_both rfl (fun h => ?_) (fun h => ?_) <;> (fail_if_success (cases h; done)) <;> (try simp at h) <;> (try subst h)))
    refine aw_loopN [0, 9, 13, 14, 15, 20, 21] [] (by simp; exact rfl) (ι := {i : Nat // i ≤ l.length}) (fun i => ⟨205, [(0, .pv (.sl 7 (evsL l))), (9, B true), (13, .pv (.sl 1 (ints fm))), (14, .pv (.sl 1 (rl co))), (15, .pv (.sl 1 (rl F))), (20, I .i64 a), (21, I .i64 i.1)], []⟩) (fun i => l.length - i.1) ⟨0, by omega⟩ (by simp) ?_
    rintro ⟨b, hib⟩
    by_cases hbl : b < l.length
    · have hw2 : IntKind.wrap .i64 ((b : Int) + 1) = (b : Int) + 1 := wrap64s (by omega) (by omega)
      have hd2 : (b : Int) < (l.length : Int) := by omega
      have hall2 := hall1 b hbl
      generalize hy : l[b] = y at *
      by_cases ka : x.k = 1
      rotate_left
      ·
        repeat' (first
          | refine ar_end rfl ?_
          | refine ar_endD rfl (by kernel_rfl) ?_
          | refine ar_fin rfl ?_
          | refine ar_finD rfl (by kernel_rfl) ?_
          | refine bq_norm ?_
          | refine lq_normN [0, 9, 13, 14, 15, 20, 21] [] (by simp; exact rfl) ⟨b + 1, by omega⟩ (by dsimp only; omega) (by simp [hd2])
          | refine ar_go3 _ rfl (by simp [evsL_len, evsL_getE, evL, prs_len, prs_getE, ints_len, ints_getE, intsL_len, intsL_getE, hbl, hd2, hal, haf, hx, hy, hfa, ka, hw2]; exact ⟨rfl, rfl, rfl⟩) rfl ?_
          | refine aw_sregK 24 [0, 9, 13, 14, 15, 20, 21] ?_
          | refine aw_regK 24 [0, 9, 13, 14, 15, 20, 21] ?_
          | refine aw_sregK 25 [0, 9, 13, 14, 15, 20, 21] ?_
          | refine aw_regK 25 [0, 9, 13, 14, 15, 20, 21] ?_
          | refine aw_sregKD mixed 26 [0, 9, 13, 14, 15, 20, 21] (by simp; exact rfl) ?_
          | refine aw_regKD mixed 26 [0, 9, 13, 14, 15, 20, 21] (by simp; exact rfl) ?_
          | refine aw_sreg ?_
          | refine aw_sregD mixed ?_
          | refine aw_ifT (b := true) rfl rfl ?_
          | refine aw_ifF (b := false) rfl rfl ?_
          | refine aw_ifT rfl (by assumption) ?_
          | refine aw_ifF rfl (by assumption) ?_
          | refine aw_ifT rfl (decide_eq_true (by assumption)) ?_
          | refine aw_ifF rfl (decide_eq_false (by assumption)) ?_
          | refine aw_seq ?_
          | refine aw_block ?_
          | refine aw_skip ?_
          | refine aw_region ?_
          | refine aw_region_draw mixed ?_
          | refine aw_exit ?_
          | refine rq_exit ?_
          | refine blockQ_hit ?_
          | refine blockQ_miss (by decide) ?_
          | (refine ar_guard rfl rfl rfl rfl (fun h => ?_) (fun h => ?_) <;> (fail_if_success (cases h; done)) <;> (try simp at h) <;> (try subst h))
          | (refine aw_both rfl (fun h => ?_) (fun h => ?_) <;> (fail_if_success (cases h; done)) <;> (try simp at h) <;> (try subst h)))
      by_cases kb : y.k = 2
      rotate_left
      ·
        repeat' (first
          | refine ar_end rfl ?_
          | refine ar_endD rfl (by kernel_rfl) ?_
          | refine ar_fin rfl ?_
          | refine ar_finD rfl (by kernel_rfl) ?_
          | refine bq_norm ?_
          | refine lq_normN [0, 9, 13, 14, 15, 20, 21] [] (by simp; exact rfl) ⟨b + 1, by omega⟩ (by dsimp only; omega) (by simp [hd2])
          | refine ar_go3 _ rfl (by simp [evsL_len, evsL_getE, evL, prs_len, prs_getE, ints_len, ints_getE, intsL_len, intsL_getE, hbl, hd2, hal, haf, hx, hy, hfa, ka, kb, hw2]; exact ⟨rfl, rfl, rfl⟩) rfl ?_
          | refine aw_sregK 24 [0, 9, 13, 14, 15, 20, 21] ?_
          | refine aw_regK 24 [0, 9, 13, 14, 15, 20, 21] ?_
          | refine aw_sregK 25 [0, 9, 13, 14, 15, 20, 21] ?_
          | refine aw_regK 25 [0, 9, 13, 14, 15, 20, 21] ?_
          | refine aw_sregKD mixed 26 [0, 9, 13, 14, 15, 20, 21] (by simp; exact rfl) ?_
          | refine aw_regKD mixed 26 [0, 9, 13, 14, 15, 20, 21] (by simp; exact rfl) ?_
          | refine aw_sreg ?_
          | refine aw_sregD mixed ?_
          | refine aw_ifT (b := true) rfl rfl ?_
          | refine aw_ifF (b := false) rfl rfl ?_
          | refine aw_ifT rfl (by assumption) ?_
          | refine aw_ifF rfl (by assumption) ?_
          | refine aw_ifT rfl (decide_eq_true (by assumption)) ?_
          | refine aw_ifF rfl (decide_eq_false (by assumption)) ?_
          | refine aw_seq ?_
          | refine aw_block ?_
          | refine aw_skip ?_
          | refine aw_region ?_
          | refine aw_region_draw mixed ?_
          | refine aw_exit ?_
          | refine rq_exit ?_
          | refine blockQ_hit ?_
          | refine blockQ_miss (by decide) ?_
          | (refine ar_guard rfl rfl rfl rfl (fun h => ?_) (fun h => ?_) <;> (fail_if_success (cases h; done)) <;> (try simp at h) <;> (try subst h))
          | (refine aw_both rfl (fun h => ?_) (fun h => ?_) <;> (fail_if_success (cases h; done)) <;> (try simp at h) <;> (try subst h)))
      by_cases kl : x.l = y.l
      rotate_left
      ·
        repeat' (first
          | refine ar_end rfl ?_
          | refine ar_endD rfl (by kernel_rfl) ?_
          | refine ar_fin rfl ?_
          | refine ar_finD rfl (by kernel_rfl) ?_
          | refine bq_norm ?_
          | refine lq_normN [0, 9, 13, 14, 15, 20, 21] [] (by simp; exact rfl) ⟨b + 1, by omega⟩ (by dsimp only; omega) (by simp [hd2])
          | refine ar_go3 _ rfl (by simp [evsL_len, evsL_getE, evL, prs_len, prs_getE, ints_len, ints_getE, intsL_len, intsL_getE, hbl, hd2, hal, haf, hx, hy, hfa, ka, kb, kl, hw2]; exact ⟨rfl, rfl, rfl⟩) rfl ?_
          | refine aw_sregK 24 [0, 9, 13, 14, 15, 20, 21] ?_
          | refine aw_regK 24 [0, 9, 13, 14, 15, 20, 21] ?_
          | refine aw_sregK 25 [0, 9, 13, 14, 15, 20, 21] ?_
          | refine aw_regK 25 [0, 9, 13, 14, 15, 20, 21] ?_
          | refine aw_sregKD mixed 26 [0, 9, 13, 14, 15, 20, 21] (by simp; exact rfl) ?_
          | refine aw_regKD mixed 26 [0, 9, 13, 14, 15, 20, 21] (by simp; exact rfl) ?_
          | refine aw_sreg ?_
          | refine aw_sregD mixed ?_
          | refine aw_ifT (b := true) rfl rfl ?_
          | refine aw_ifF (b := false) rfl rfl ?_
          | refine aw_ifT rfl (by assumption) ?_
          | refine aw_ifF rfl (by assumption) ?_
          | refine aw_ifT rfl (decide_eq_true (by assumption)) ?_
          | refine aw_ifF rfl (decide_eq_false (by assumption)) ?_
          | refine aw_seq ?_
          | refine aw_block ?_
          | refine aw_skip ?_
          | refine aw_region ?_
          | refine aw_region_draw mixed ?_
          | refine aw_exit ?_
          | refine rq_exit ?_
          | refine blockQ_hit ?_
          | refine blockQ_miss (by decide) ?_
          | (refine ar_guard rfl rfl rfl rfl (fun h => ?_) (fun h => ?_) <;> (fail_if_success (cases h; done)) <;> (try simp at h) <;> (try subst h))
          | (refine aw_both rfl (fun h => ?_) (fun h => ?_) <;> (fail_if_success (cases h; done)) <;> (try simp at h) <;> (try subst h)))
      have k17 := c_has (r := F) (i := (a : Int)) (k := (b : Int))
      cases hq : hasR F (a : Int) (b : Int)
      · rw [hq] at k17
        rcases hall2 ka kb kl hq with h1 | ⟨q, h1, h2, h3⟩
        · have h1 : fa = (b : Int) := by rw [← hfa]; exact h1
          repeat' (first
            | refine ar_end rfl ?_
            | refine ar_endD rfl (by kernel_rfl) ?_
            | refine ar_fin rfl ?_
            | refine ar_finD rfl (by kernel_rfl) ?_
            | refine ar_callV Try.call17 k17 rfl rfl rfl rfl rfl (by simp; done) (by rfl) (by simp; done) ?_
            | refine ar_callV_if Try.call17 k17 rfl rfl rfl rfl rfl rfl (by simp; done) rfl (by rfl) (by simp; done) ?_
            | refine bq_norm ?_
            | refine lq_normN [0, 9, 13, 14, 15, 20, 21] [] (by simp; exact rfl) ⟨b + 1, by omega⟩ (by dsimp only; omega) (by simp [hd2])
            | refine ar_go3 _ rfl (by simp [evsL_len, evsL_getE, evL, prs_len, prs_getE, ints_len, ints_getE, intsL_len, intsL_getE, hbl, hd2, hal, haf, hx, hy, hfa, ka, kb, kl, h1, hw2]; exact ⟨rfl, rfl, rfl⟩) rfl ?_
            | refine aw_sregK 24 [0, 9, 13, 14, 15, 20, 21] ?_
            | refine aw_regK 24 [0, 9, 13, 14, 15, 20, 21] ?_
            | refine aw_sregK 25 [0, 9, 13, 14, 15, 20, 21] ?_
            | refine aw_regK 25 [0, 9, 13, 14, 15, 20, 21] ?_
            | refine aw_sregKD mixed 26 [0, 9, 13, 14, 15, 20, 21] (by simp; exact rfl) ?_
            | refine aw_regKD mixed 26 [0, 9, 13, 14, 15, 20, 21] (by simp; exact rfl) ?_
            | refine aw_sreg ?_
            | refine aw_sregD mixed ?_
            | refine aw_ifT (b := true) rfl rfl ?_
            | refine aw_ifF (b := false) rfl rfl ?_
            | refine aw_ifT rfl (by assumption) ?_
            | refine aw_ifF rfl (by assumption) ?_
            | refine aw_ifT rfl (decide_eq_true (by assumption)) ?_
            | refine aw_ifF rfl (decide_eq_false (by assumption)) ?_
            | refine aw_seq ?_
            | refine aw_block ?_
            | refine aw_skip ?_
            | refine aw_region ?_
            | refine aw_region_draw mixed ?_
            | refine aw_exit ?_
            | refine rq_exit ?_
            | refine blockQ_hit ?_
            | refine blockQ_miss (by decide) ?_
            | (refine ar_guard rfl rfl rfl rfl (fun h => ?_) (fun h => ?_) <;> (fail_if_success (cases h; done)) <;> (try simp at h) <;> (try subst h))
            | (refine aw_both rfl (fun h => ?_) (fun h => ?_) <;> (fail_if_success (cases h; done)) <;> (try simp at h) <;> (try subst h)))
        · have hge : ¬(q : Int) < 0 := by omega
          have k17b := c_has (r := co) (i := (b : Int)) (k := (q : Int))
          rw [h3] at k17b
          have h1 : fa = (q : Int) := by rw [← hfa]; exact h1
          subst h1
          repeat' (first
            | refine ar_end rfl ?_
            | refine ar_endD rfl (by kernel_rfl) ?_
            | refine ar_fin rfl ?_
            | refine ar_finD rfl (by kernel_rfl) ?_
            | refine ar_callV Try.call17 k17 rfl rfl rfl rfl rfl (by simp; done) (by rfl) (by simp; done) ?_
            | refine ar_callV_if Try.call17 k17 rfl rfl rfl rfl rfl rfl (by simp; done) rfl (by rfl) (by simp; done) ?_
            | refine ar_callV Try.call17 k17b rfl rfl rfl rfl rfl (by simp; done) (by rfl) (by simp; done) ?_
            | refine ar_callV_if Try.call17 k17b rfl rfl rfl rfl rfl rfl (by simp; done) rfl (by rfl) (by simp; done) ?_
            | refine bq_norm ?_
            | refine lq_normN [0, 9, 13, 14, 15, 20, 21] [] (by simp; exact rfl) ⟨b + 1, by omega⟩ (by dsimp only; omega) (by simp [hd2])
            | refine ar_go3 _ rfl (by simp [evsL_len, evsL_getE, evL, prs_len, prs_getE, ints_len, ints_getE, intsL_len, intsL_getE, hbl, hd2, hal, haf, hx, hy, hfa, ka, kb, kl, h2, hge, hw2]; exact ⟨rfl, rfl, rfl⟩) rfl ?_
            | refine aw_sregK 24 [0, 9, 13, 14, 15, 20, 21] ?_
            | refine aw_regK 24 [0, 9, 13, 14, 15, 20, 21] ?_
            | refine aw_sregK 25 [0, 9, 13, 14, 15, 20, 21] ?_
            | refine aw_regK 25 [0, 9, 13, 14, 15, 20, 21] ?_
            | refine aw_sregKD mixed 26 [0, 9, 13, 14, 15, 20, 21] (by simp; exact rfl) ?_
            | refine aw_regKD mixed 26 [0, 9, 13, 14, 15, 20, 21] (by simp; exact rfl) ?_
            | refine aw_sreg ?_
            | refine aw_sregD mixed ?_
            | refine aw_ifT (b := true) rfl rfl ?_
            | refine aw_ifF (b := false) rfl rfl ?_
            | refine aw_ifT rfl (by assumption) ?_
            | refine aw_ifF rfl (by assumption) ?_
            | refine aw_ifT rfl (decide_eq_true (by assumption)) ?_
            | refine aw_ifF rfl (decide_eq_false (by assumption)) ?_
            | refine aw_seq ?_
            | refine aw_block ?_
            | refine aw_skip ?_
            | refine aw_region ?_
            | refine aw_region_draw mixed ?_
            | refine aw_exit ?_
            | refine rq_exit ?_
            | refine blockQ_hit ?_
            | refine blockQ_miss (by decide) ?_
            | (refine ar_guard rfl rfl rfl rfl (fun h => ?_) (fun h => ?_) <;> (fail_if_success (cases h; done)) <;> (try simp at h) <;> (try subst h))
            | (refine aw_both rfl (fun h => ?_) (fun h => ?_) <;> (fail_if_success (cases h; done)) <;> (try simp at h) <;> (try subst h)))
      · rw [hq] at k17
        repeat' (first
          | refine ar_end rfl ?_
          | refine ar_endD rfl (by kernel_rfl) ?_
          | refine ar_fin rfl ?_
          | refine ar_finD rfl (by kernel_rfl) ?_
          | refine ar_callV Try.call17 k17 rfl rfl rfl rfl rfl (by simp; done) (by rfl) (by simp; done) ?_
          | refine ar_callV_if Try.call17 k17 rfl rfl rfl rfl rfl rfl (by simp; done) rfl (by rfl) (by simp; done) ?_
          | refine bq_norm ?_
          | refine lq_normN [0, 9, 13, 14, 15, 20, 21] [] (by simp; exact rfl) ⟨b + 1, by omega⟩ (by dsimp only; omega) (by simp [hd2])
          | refine ar_go3 _ rfl (by simp [evsL_len, evsL_getE, evL, prs_len, prs_getE, ints_len, ints_getE, intsL_len, intsL_getE, hbl, hd2, hal, haf, hx, hy, hfa, ka, kb, kl, hw2]; exact ⟨rfl, rfl, rfl⟩) rfl ?_
          | refine aw_sregK 24 [0, 9, 13, 14, 15, 20, 21] ?_
          | refine aw_regK 24 [0, 9, 13, 14, 15, 20, 21] ?_
          | refine aw_sregK 25 [0, 9, 13, 14, 15, 20, 21] ?_
          | refine aw_regK 25 [0, 9, 13, 14, 15, 20, 21] ?_
          | refine aw_sregKD mixed 26 [0, 9, 13, 14, 15, 20, 21] (by simp; exact rfl) ?_
          | refine aw_regKD mixed 26 [0, 9, 13, 14, 15, 20, 21] (by simp; exact rfl) ?_
          | refine aw_sreg ?_
          | refine aw_sregD mixed ?_
          | refine aw_ifT (b := true) rfl rfl ?_
          | refine aw_ifF (b := false) rfl rfl ?_
          | refine aw_ifT rfl (by assumption) ?_
          | refine aw_ifF rfl (by assumption) ?_
          | refine aw_ifT rfl (decide_eq_true (by assumption)) ?_
          | refine aw_ifF rfl (decide_eq_false (by assumption)) ?_
          | refine aw_seq ?_
          | refine aw_block ?_
          | refine aw_skip ?_
          | refine aw_region ?_
          | refine aw_region_draw mixed ?_
          | refine aw_exit ?_
          | refine rq_exit ?_
          | refine blockQ_hit ?_
          | refine blockQ_miss (by decide) ?_
          | (refine ar_guard rfl rfl rfl rfl (fun h => ?_) (fun h => ?_) <;> (fail_if_success (cases h; done)) <;> (try simp at h) <;> (try subst h))
          | (refine aw_both rfl (fun h => ?_) (fun h => ?_) <;> (fail_if_success (cases h; done)) <;> (try simp at h) <;> (try subst h)))
    · have hd2 : ¬(b : Int) < (l.length : Int) := by omega
      repeat' (first
        | refine ar_end rfl ?_
        | refine ar_endD rfl (by kernel_rfl) ?_
        | refine ar_fin rfl ?_
        | refine ar_finD rfl (by kernel_rfl) ?_
        | refine lq_exit ?_
        | refine bq_norm ?_
        | refine lq_normN [0, 9, 13, 14, 15, 20] [] (by simp; exact rfl) ⟨a + 1, by omega⟩ (by dsimp only; omega) (by simp [hd2])
        | refine ar_go3 _ rfl (by simp [evsL_len, evsL_getE, evL, prs_len, prs_getE, ints_len, ints_getE, intsL_len, intsL_getE, hd2, hw1]; exact ⟨rfl, rfl, rfl⟩) rfl ?_
        | refine aw_sregK 22 [0, 9, 13, 14, 15, 20] ?_
        | refine aw_regK 22 [0, 9, 13, 14, 15, 20] ?_
        | refine aw_sregK 24 [0, 9, 13, 14, 15, 20, 21] ?_
        | refine aw_regK 24 [0, 9, 13, 14, 15, 20, 21] ?_
        | refine aw_sreg ?_
        | refine aw_sregD mixed ?_
        | refine aw_ifT (b := true) rfl rfl ?_
        | refine aw_ifF (b := false) rfl rfl ?_
        | refine aw_ifT rfl (by assumption) ?_
        | refine aw_ifF rfl (by assumption) ?_
        | refine aw_ifT rfl (decide_eq_true (by assumption)) ?_
        | refine aw_ifF rfl (decide_eq_false (by assumption)) ?_
        | refine aw_seq ?_
        | refine aw_block ?_
        | refine aw_skip ?_
        | refine aw_region ?_
        | refine aw_region_draw mixed ?_
        | refine aw_exit ?_
        | refine rq_exit ?_
        | refine blockQ_hit ?_
        | refine blockQ_miss (by decide) ?_
        | (refine ar_guard rfl rfl rfl rfl (fun h => ?_) (fun h => ?_) <;> (fail_if_success (cases h; done)) <;> (try simp at h) <;> (try subst h))
        | (refine aw_both rfl (fun h => ?_) (fun h => ?_) <;> (fail_if_success (cases h; done)) <;> (try simp at h) <;> (try subst h)))
  · have hd1 : ¬(a : Int) < (l.length : Int) := by omega
    repeat' (first
      | exact aw_ret (ret_vals (by simp; exact rfl) (by simp [*]; fail_if_success (show _)))
      | exact aw_ret (ret_vals (by simp; exact rfl) (by simp [*]; omega))
      | refine ar_end rfl ?_
      | refine ar_endD rfl (by kernel_rfl) ?_
      | refine ar_fin rfl ?_
      | refine ar_finD rfl (by kernel_rfl) ?_
      | refine lq_exit ?_
      | refine ar_go3 _ rfl (by simp [evsL_len, evsL_getE, evL, prs_len, prs_getE, ints_len, ints_getE, intsL_len, intsL_getE, hd1]; exact ⟨rfl, rfl, rfl⟩) rfl ?_
      | refine aw_sregK 21 [0, 9, 13, 14, 15, 20] ?_
      | refine aw_regK 21 [0, 9, 13, 14, 15, 20] ?_
      | refine aw_sregK 28 [9] ?_
      | refine aw_regK 28 [9] ?_
      | refine aw_sreg ?_
      | refine aw_sregD mixed ?_
      | refine aw_ifT (b := true) rfl rfl ?_
      | refine aw_ifF (b := false) rfl rfl ?_
      | refine aw_ifT rfl (by assumption) ?_
      | refine aw_ifF rfl (by assumption) ?_
      | refine aw_ifT rfl (decide_eq_true (by assumption)) ?_
      | refine aw_ifF rfl (decide_eq_false (by assumption)) ?_
      | refine aw_seq ?_
      | refine aw_block ?_
      | refine aw_skip ?_
      | refine aw_region ?_
      | refine aw_region_draw mixed ?_
      | refine aw_exit ?_
      | refine rq_exit ?_
      | refine blockQ_hit ?_
      | refine blockQ_miss (by decide) ?_
      | (refine ar_guard rfl rfl rfl rfl (fun h => ?_) (fun h => ?_) <;> (fail_if_success (cases h; done)) <;> (try simp at h) <;> (try subst h))
      | (refine aw_both rfl (fun h => ?_) (fun h => ?_) <;> (fail_if_success (cases h; done)) <;> (try simp at h) <;> (try subst h)))
end Go.Eng
