import Derived.Test.YtclegllogeanlaaDerD
import Derived.Test.YtclegllogeanlaaDerivePartsWalk
import Derived.Test.YtclegllogeanlaaXorB
set_option linter.unusedSimpArgs false
set_option linter.unusedVariables false
set_option linter.constructorNameAsVariable false
set_option autoImplicit false
namespace Go.Eng
open Go Go.RowKit Go.Proofs
set_option maxHeartbeats 16000000 in
theorem law_DeriveCom {l : List Ev} {init : List Int} {w v : Nat} (hll : l.length ≤ maxLen) (hw : w ≤ 65535) (hv : v ≤ 65535) : SC Try.prog 12 [.pv (.sl 7 (evsL l)), .pv (.sl 1 (ints init)), I .u16 w, I .u16 v] (B true) := by
  have hml : maxLen = 9223372036854775807 := rfl
  by_cases h8 : l.length ≤ 8
  rotate_left
  · have h8' : (8 : Int) < (l.length : Int) := by omega
    refine scx_of Try.func12 rfl rfl rfl (Nat.le_of_ble_eq_true rfl) ?_
    repeat' (first
      | exact aw_ret (ret_vals (by simp; exact rfl) (by simp [*]; fail_if_success (show _)))
      | exact aw_ret (ret_vals (by simp; exact rfl) (by simp [*]; omega))
      | refine ar_end rfl ?_
      | refine ar_endD rfl (by kernel_rfl) ?_
      | refine ar_fin rfl ?_
      | refine ar_finD rfl (by kernel_rfl) ?_
      | refine ar_callV Try.call13 c_shown13 rfl rfl rfl rfl rfl (by simp; done) (by rfl) (by simp; done) ?_
      | refine ar_callV_if Try.call13 c_shown13 rfl rfl rfl rfl rfl rfl (by simp; done) rfl (by rfl) (by simp; done) ?_
      | refine ar_go3 _ rfl (by simp [evsL_len, evsL_getE, evL, prs_len, prs_getE, ints_len, ints_getE, intsL_len, intsL_getE, h8']; exact ⟨rfl, rfl, rfl⟩) rfl ?_
      | refine aw_sregK 0 [0, 1, 2, 3] ?_
      | refine aw_regK 0 [0, 1, 2, 3] ?_
      | refine aw_sregK 1 [0, 1, 2, 3] ?_
      | refine aw_regK 1 [0, 1, 2, 3] ?_
      | refine aw_sregK 2 [0, 1, 2, 3, 9] ?_
      | refine aw_regK 2 [0, 1, 2, 3, 9] ?_
      | refine aw_sregK 3 [9] ?_
      | refine aw_regK 3 [9] ?_
      | refine aw_sreg ?_
      | refine aw_sregD mixed ?_
      | refine aw_ifT (b := true) rfl rfl ?_
      | refine aw_ifF (b := false) rfl rfl ?_
      | refine aw_ifT rfl (by assumption) ?_
      | refine aw_ifF rfl (by assumption) ?_
      | refine aw_ifT rfl (decide_eq_true (by assumption)) ?_
      | refine aw_ifF rfl (decide_eq_false (by assumption)) ?_
      | refine aw_seq ?_
      | refine aw_block ?_
      | refine aw_skip ?_
      | refine aw_region ?_
      | refine aw_region_draw mixed ?_
      | refine aw_exit ?_
      | refine rq_exit ?_
      | refine blockQ_hit ?_
      | refine blockQ_miss (by decide) ?_
      | (refine ar_guard rfl rfl rfl rfl (fun h => ?_) (fun h => ?_) <;> (fail_if_success (cases h; done)) <;> (try simp at h) <;> (try subst h))
      | (refine aw_both rfl (fun h => ?_) (fun h => ?_) <;> (fail_if_success (cases h; done)) <;> (try simp at h) <;> (try subst h)))
  have h8' : ¬(8 : Int) < (l.length : Int) := by omega
  obtain ⟨W, hW, hWl, hWs⟩ := c_srcAll (es := l) (init := init) (by omega)
  obtain ⟨hA, hAl⟩ := c_all8 h8
  have hrk : ∀ co ∈ allR l, ∃ f, Rank l co f := fun co h => allR_rank (by omega) h
  have hsr : ∀ fm ∈ W, Src l fm := fun fm h => src_of (hWs fm h).1 (hWs fm h).2
  clear hWs
  generalize allR l = A at *
  by_cases hW0 : W.length = 0
  · have hW0' : (W.length : Int) = 0 := by omega
    refine scx_of Try.func12 rfl rfl rfl (Nat.le_of_ble_eq_true rfl) ?_
    repeat' (first
      | exact aw_ret (ret_vals (by simp; exact rfl) (by simp [*]; fail_if_success (show _)))
      | exact aw_ret (ret_vals (by simp; exact rfl) (by simp [*]; omega))
      | refine ar_end rfl ?_
      | refine ar_endD rfl (by kernel_rfl) ?_
      | refine ar_fin rfl ?_
      | refine ar_finD rfl (by kernel_rfl) ?_
      | refine ar_callV Try.call13 c_shown13 rfl rfl rfl rfl rfl (by simp; done) (by rfl) (by simp; done) ?_
      | refine ar_callV_if Try.call13 c_shown13 rfl rfl rfl rfl rfl rfl (by simp; done) rfl (by rfl) (by simp; done) ?_
      | refine ar_callV Try.call43 hW rfl rfl rfl rfl rfl (by simp; done) (by rfl) (by simp; done) ?_
      | refine ar_callV_if Try.call43 hW rfl rfl rfl rfl rfl rfl (by simp; done) rfl (by rfl) (by simp; done) ?_
      | refine ar_callV Try.call26 hA rfl rfl rfl rfl rfl (by simp; done) (by rfl) (by simp; done) ?_
      | refine ar_callV_if Try.call26 hA rfl rfl rfl rfl rfl rfl (by simp; done) rfl (by rfl) (by simp; done) ?_
      | refine ar_go3 _ rfl (by simp [evsL_len, evsL_getE, evL, prs_len, prs_getE, ints_len, ints_getE, intsL_len, intsL_getE, rlsL_len, rlsL_getE, exL, h8', hW0, hW0']; exact ⟨rfl, rfl, rfl⟩) rfl ?_
      | refine aw_sregK 0 [0, 1, 2, 3] ?_
      | refine aw_regK 0 [0, 1, 2, 3] ?_
      | refine aw_sregK 1 [0, 1, 2, 3] ?_
      | refine aw_regK 1 [0, 1, 2, 3] ?_
      | refine aw_sregK 2 [0, 1, 2, 3, 9] ?_
      | refine aw_regK 2 [0, 1, 2, 3, 9] ?_
      | refine aw_sregK 3 [9] ?_
      | refine aw_regK 3 [9] ?_
      | refine aw_sregK 4 [0, 1, 2, 3, 9] ?_
      | refine aw_regK 4 [0, 1, 2, 3, 9] ?_
      | refine aw_sregK 5 [1, 2, 3, 9, 10] ?_
      | refine aw_regK 5 [1, 2, 3, 9, 10] ?_
      | refine aw_sregK 6 [2, 3, 9, 10, 11] ?_
      | refine aw_regK 6 [2, 3, 9, 10, 11] ?_
      | refine aw_sregK 7 [2, 3, 9, 10, 11, 12] ?_
      | refine aw_regK 7 [2, 3, 9, 10, 11, 12] ?_
      | refine aw_sregK 8 [9] ?_
      | refine aw_regK 8 [9] ?_
      | refine aw_sreg ?_
      | refine aw_sregD mixed ?_
      | refine aw_ifT (b := true) rfl rfl ?_
      | refine aw_ifF (b := false) rfl rfl ?_
      | refine aw_ifT rfl (by assumption) ?_
      | refine aw_ifF rfl (by assumption) ?_
      | refine aw_ifT rfl (decide_eq_true (by assumption)) ?_
      | refine aw_ifF rfl (decide_eq_false (by assumption)) ?_
      | refine aw_seq ?_
      | refine aw_block ?_
      | refine aw_skip ?_
      | refine aw_region ?_
      | refine aw_region_draw mixed ?_
      | refine aw_exit ?_
      | refine rq_exit ?_
      | refine blockQ_hit ?_
      | refine blockQ_miss (by decide) ?_
      | (refine ar_guard rfl rfl rfl rfl (fun h => ?_) (fun h => ?_) <;> (fail_if_success (cases h; done)) <;> (try simp at h) <;> (try subst h))
      | (refine aw_both rfl (fun h => ?_) (fun h => ?_) <;> (fail_if_success (cases h; done)) <;> (try simp at h) <;> (try subst h)))
  have hW0' : ¬(W.length : Int) = 0 := by omega
  by_cases hA0 : A.length = 0
  · have hA0' : (A.length : Int) = 0 := by omega
    refine scx_of Try.func12 rfl rfl rfl (Nat.le_of_ble_eq_true rfl) ?_
    repeat' (first
      | exact aw_ret (ret_vals (by simp; exact rfl) (by simp [*]; fail_if_success (show _)))
      | exact aw_ret (ret_vals (by simp; exact rfl) (by simp [*]; omega))
      | refine ar_end rfl ?_
      | refine ar_endD rfl (by kernel_rfl) ?_
      | refine ar_fin rfl ?_
      | refine ar_finD rfl (by kernel_rfl) ?_
      | refine ar_callV Try.call13 c_shown13 rfl rfl rfl rfl rfl (by simp; done) (by rfl) (by simp; done) ?_
      | refine ar_callV_if Try.call13 c_shown13 rfl rfl rfl rfl rfl rfl (by simp; done) rfl (by rfl) (by simp; done) ?_
      | refine ar_callV Try.call43 hW rfl rfl rfl rfl rfl (by simp; done) (by rfl) (by simp; done) ?_
      | refine ar_callV_if Try.call43 hW rfl rfl rfl rfl rfl rfl (by simp; done) rfl (by rfl) (by simp; done) ?_
      | refine ar_callV Try.call26 hA rfl rfl rfl rfl rfl (by simp; done) (by rfl) (by simp; done) ?_
      | refine ar_callV_if Try.call26 hA rfl rfl rfl rfl rfl rfl (by simp; done) rfl (by rfl) (by simp; done) ?_
      | refine ar_go3 _ rfl (by simp [evsL_len, evsL_getE, evL, prs_len, prs_getE, ints_len, ints_getE, intsL_len, intsL_getE, rlsL_len, rlsL_getE, exL, h8', hW0, hW0', hA0, hA0']; exact ⟨rfl, rfl, rfl⟩) rfl ?_
      | refine aw_sregK 0 [0, 1, 2, 3] ?_
      | refine aw_regK 0 [0, 1, 2, 3] ?_
      | refine aw_sregK 1 [0, 1, 2, 3] ?_
      | refine aw_regK 1 [0, 1, 2, 3] ?_
      | refine aw_sregK 2 [0, 1, 2, 3, 9] ?_
      | refine aw_regK 2 [0, 1, 2, 3, 9] ?_
      | refine aw_sregK 3 [9] ?_
      | refine aw_regK 3 [9] ?_
      | refine aw_sregK 4 [0, 1, 2, 3, 9] ?_
      | refine aw_regK 4 [0, 1, 2, 3, 9] ?_
      | refine aw_sregK 5 [1, 2, 3, 9, 10] ?_
      | refine aw_regK 5 [1, 2, 3, 9, 10] ?_
      | refine aw_sregK 6 [2, 3, 9, 10, 11] ?_
      | refine aw_regK 6 [2, 3, 9, 10, 11] ?_
      | refine aw_sregK 7 [2, 3, 9, 10, 11, 12] ?_
      | refine aw_regK 7 [2, 3, 9, 10, 11, 12] ?_
      | refine aw_sregK 8 [9] ?_
      | refine aw_regK 8 [9] ?_
      | refine aw_sreg ?_
      | refine aw_sregD mixed ?_
      | refine aw_ifT (b := true) rfl rfl ?_
      | refine aw_ifF (b := false) rfl rfl ?_
      | refine aw_ifT rfl (by assumption) ?_
      | refine aw_ifF rfl (by assumption) ?_
      | refine aw_ifT rfl (decide_eq_true (by assumption)) ?_
      | refine aw_ifF rfl (decide_eq_false (by assumption)) ?_
      | refine aw_seq ?_
      | refine aw_block ?_
      | refine aw_skip ?_
      | refine aw_region ?_
      | refine aw_region_draw mixed ?_
      | refine aw_exit ?_
      | refine rq_exit ?_
      | refine blockQ_hit ?_
      | refine blockQ_miss (by decide) ?_
      | (refine ar_guard rfl rfl rfl rfl (fun h => ?_) (fun h => ?_) <;> (fail_if_success (cases h; done)) <;> (try simp at h) <;> (try subst h))
      | (refine aw_both rfl (fun h => ?_) (fun h => ?_) <;> (fail_if_success (cases h; done)) <;> (try simp at h) <;> (try subst h)))
  have hA0' : ¬(A.length : Int) = 0 := by omega
  have hww : IntKind.wrap .i64 (w : Int) = (w : Int) := wrap64s (by omega) (by omega)
  have hwv : IntKind.wrap .i64 (v : Int) = (v : Int) := wrap64s (by omega) (by omega)
  have htw : (w : Int).tmod (W.length : Int) = ((w % W.length : Nat) : Int) := rfl
  have htv : (v : Int).tmod (A.length : Int) = ((v % A.length : Nat) : Int) := rfl
  have hlw : w % W.length < W.length := Nat.mod_lt _ (by omega)
  have hlv : v % A.length < A.length := Nat.mod_lt _ (by omega)
  generalize w % W.length = n1 at *
  generalize v % A.length = n2 at *
  have hS := hsr W[n1] (List.getElem_mem hlw)
  obtain ⟨f, hR⟩ := hrk A[n2] (List.getElem_mem hlv)
  generalize hfm : W[n1] = fm at *
  generalize hco : A[n2] = co at *
  have h32 : l.length ≤ 32 := by omega
  have hcol : co.length ≤ maxLen := by rw [hR.cl.len]; omega
  have hfml : fm.length ≤ 1000000 := by rw [hS.len]; omega
  have hFc := fr_cl h32 fm co
  have hFl : (frR l fm co).length ≤ maxLen := by rw [hFc.len]; omega
  have k44 := c_fr (es := l) (fm := fm) (co := co) h32
  have k47 := c_com (es := l) (fm := fm) (co := co) h32 hfml hcol
  have k48 := c_rf (es := l) (fm := fm) h32 hfml
  have hRc : Cl l.length (rfR l fm) := rfUp_cl h32 fm fm.length
  have hIc := inv_cl hRc
  have hQc := (seq_bit hIc.1 hR.cl).1
  have hCc := (com_bit (fm := fm) h32 hR.cl).1
  have k22 := c_invV (a := rfR l fm) (by rw [hRc.len]; omega)
  have k45 := c_seq (a := invR (rfR l fm)) (b := co) (by rw [hIc.1.len]; omega) hcol
  have k20a := c_andV (a := seqR (invR (rfR l fm)) co) (b := frR l fm co) (by rw [hQc.len]; omega) hFl
  have k21a := c_same (a := bothR (· &&& ·) (seqR (invR (rfR l fm)) co) (frR l fm co)) (b := seqR (invR (rfR l fm)) co) (both_le _ _ _) (by rw [hQc.len]; omega)
  rw [com_by hS hR] at k21a
  have k49 := c_alike (es := l) h32
  have hEl : (eventsR alikeQ l).length ≤ maxLen := by rw [(events_cl (q := alikeQ) h32).len]; omega
  have hCl : (comR l fm co).length ≤ maxLen := by rw [hCc.len]; omega
  have k20b := c_andV (a := comR l fm co) (b := eventsR alikeQ l) hCl hEl
  have k21b := c_same (a := bothR (· &&& ·) (comR l fm co) (eventsR alikeQ l)) (b := comR l fm co) (both_le _ _ _) hCl
  rw [com_alike hS hR] at k21b
  have k14 := c_within (es := l) (r := comR l fm co) h32 hCl
  have k46 := c_obs (es := l) (fm := fm) (co := co) h32 hfml hcol
  have hOl : (obsR l fm co).length ≤ maxLen := by
    have := (outer_cl (es := l) (r := comR l fm co) hCc.len h32).1.len
    unfold obsR; rw [this]; omega
  have k16 := c_orV (a := bothR (· &&& ·) (comR l fm co) (eventsR innerQ l)) (b := obsR l fm co) (both_le _ _ _) hOl
  have k21c := c_same (a := bothR (· ||| ·) (bothR (· &&& ·) (comR l fm co) (eventsR innerQ l)) (obsR l fm co)) (b := comR l fm co) (both_le _ _ _) hCl
  rw [com_parts hS hR] at k21c
  have k32 := c_acyclic (r := comR l fm co) hCl
  rw [com_up hS hR] at k32
  clear hRc hIc hQc hCc hFc hFl hEl hCl hOl hS hR
  generalize bothR (· ||| ·) (bothR (· &&& ·) (comR l fm co) (eventsR innerQ l)) (obsR l fm co) = R1 at *
  generalize bothR (· &&& ·) (comR l fm co) (eventsR innerQ l) = R2 at *
  generalize bothR (· &&& ·) (comR l fm co) (eventsR alikeQ l) = R3 at *
  generalize eventsR alikeQ l = R4 at *
  generalize obsR l fm co = R5 at *
  generalize comR l fm co = R6 at *
  generalize bothR (· &&& ·) (seqR (invR (rfR l fm)) co) (frR l fm co) = R7 at *
  generalize seqR (invR (rfR l fm)) co = R8 at *
  generalize frR l fm co = R9 at *
  generalize invR (rfR l fm) = R10 at *
  generalize rfR l fm = R11 at *
  refine scx_of Try.func12 rfl rfl rfl (Nat.le_of_ble_eq_true rfl) ?_
  repeat' (first
    | exact aw_ret (ret_vals (by simp; exact rfl) (by simp [*]; fail_if_success (show _)))
    | exact aw_ret (ret_vals (by simp; exact rfl) (by simp [*]; omega))
    | refine ar_end rfl ?_
    | refine ar_endD rfl (by kernel_rfl) ?_
    | refine ar_fin rfl ?_
    | refine ar_finD rfl (by kernel_rfl) ?_
    | refine ar_callV Try.call13 c_shown13 rfl rfl rfl rfl rfl (by simp; done) (by rfl) (by simp; done) ?_
    | refine ar_callV_if Try.call13 c_shown13 rfl rfl rfl rfl rfl rfl (by simp; done) rfl (by rfl) (by simp; done) ?_
    | refine ar_callV Try.call43 hW rfl rfl rfl rfl rfl (by simp; done) (by rfl) (by simp; done) ?_
    | refine ar_callV_if Try.call43 hW rfl rfl rfl rfl rfl rfl (by simp; done) rfl (by rfl) (by simp; done) ?_
    | refine ar_callV Try.call26 hA rfl rfl rfl rfl rfl (by simp; done) (by rfl) (by simp; done) ?_
    | refine ar_callV_if Try.call26 hA rfl rfl rfl rfl rfl rfl (by simp; done) rfl (by rfl) (by simp; done) ?_
    | refine ar_callV Try.call44 k44 rfl rfl rfl rfl rfl (by simp; done) (by rfl) (by simp; done) ?_
    | refine ar_callV_if Try.call44 k44 rfl rfl rfl rfl rfl rfl (by simp; done) rfl (by rfl) (by simp; done) ?_
    | refine ar_callV Try.call47 k47 rfl rfl rfl rfl rfl (by simp; done) (by rfl) (by simp; done) ?_
    | refine ar_callV_if Try.call47 k47 rfl rfl rfl rfl rfl rfl (by simp; done) rfl (by rfl) (by simp; done) ?_
    | refine ar_callV Try.call48 k48 rfl rfl rfl rfl rfl (by simp; done) (by rfl) (by simp; done) ?_
    | refine ar_callV_if Try.call48 k48 rfl rfl rfl rfl rfl rfl (by simp; done) rfl (by rfl) (by simp; done) ?_
    | refine ar_callV Try.call22 k22 rfl rfl rfl rfl rfl (by simp; done) (by rfl) (by simp; done) ?_
    | refine ar_callV_if Try.call22 k22 rfl rfl rfl rfl rfl rfl (by simp; done) rfl (by rfl) (by simp; done) ?_
    | refine ar_callV Try.call45 k45 rfl rfl rfl rfl rfl (by simp; done) (by rfl) (by simp; done) ?_
    | refine ar_callV_if Try.call45 k45 rfl rfl rfl rfl rfl rfl (by simp; done) rfl (by rfl) (by simp; done) ?_
    | refine ar_callV Try.call20 k20a rfl rfl rfl rfl rfl (by simp; done) (by rfl) (by simp; done) ?_
    | refine ar_callV_if Try.call20 k20a rfl rfl rfl rfl rfl rfl (by simp; done) rfl (by rfl) (by simp; done) ?_
    | refine ar_callV Try.call20 k20b rfl rfl rfl rfl rfl (by simp; done) (by rfl) (by simp; done) ?_
    | refine ar_callV_if Try.call20 k20b rfl rfl rfl rfl rfl rfl (by simp; done) rfl (by rfl) (by simp; done) ?_
    | refine ar_callV Try.call21 k21a rfl rfl rfl rfl rfl (by simp; done) (by rfl) (by simp; done) ?_
    | refine ar_callV_if Try.call21 k21a rfl rfl rfl rfl rfl rfl (by simp; done) rfl (by rfl) (by simp; done) ?_
    | refine ar_callV Try.call21 k21b rfl rfl rfl rfl rfl (by simp; done) (by rfl) (by simp; done) ?_
    | refine ar_callV_if Try.call21 k21b rfl rfl rfl rfl rfl rfl (by simp; done) rfl (by rfl) (by simp; done) ?_
    | refine ar_callV Try.call21 k21c rfl rfl rfl rfl rfl (by simp; done) (by rfl) (by simp; done) ?_
    | refine ar_callV_if Try.call21 k21c rfl rfl rfl rfl rfl rfl (by simp; done) rfl (by rfl) (by simp; done) ?_
    | refine ar_callV Try.call49 k49 rfl rfl rfl rfl rfl (by simp; done) (by rfl) (by simp; done) ?_
    | refine ar_callV_if Try.call49 k49 rfl rfl rfl rfl rfl rfl (by simp; done) rfl (by rfl) (by simp; done) ?_
    | refine ar_callV Try.call14 k14 rfl rfl rfl rfl rfl (by simp; done) (by rfl) (by simp; done) ?_
    | refine ar_callV_if Try.call14 k14 rfl rfl rfl rfl rfl rfl (by simp; done) rfl (by rfl) (by simp; done) ?_
    | refine ar_callV Try.call46 k46 rfl rfl rfl rfl rfl (by simp; done) (by rfl) (by simp; done) ?_
    | refine ar_callV_if Try.call46 k46 rfl rfl rfl rfl rfl rfl (by simp; done) rfl (by rfl) (by simp; done) ?_
    | refine ar_callV Try.call16 k16 rfl rfl rfl rfl rfl (by simp; done) (by rfl) (by simp; done) ?_
    | refine ar_callV_if Try.call16 k16 rfl rfl rfl rfl rfl rfl (by simp; done) rfl (by rfl) (by simp; done) ?_
    | refine ar_callV Try.call32 k32 rfl rfl rfl rfl rfl (by simp; done) (by rfl) (by simp; done) ?_
    | refine ar_callV_if Try.call32 k32 rfl rfl rfl rfl rfl rfl (by simp; done) rfl (by rfl) (by simp; done) ?_
    | refine ar_go3 _ rfl (by simp [evsL_len, evsL_getE, evL, prs_len, prs_getE, ints_len, ints_getE, intsL_len, intsL_getE, rlsL_len, rlsL_getE, exL, h8', hW0, hW0', hA0, hA0', hww, hwv, htw, htv, hlw, hlv, hfm, hco]; exact ⟨rfl, rfl, rfl⟩) rfl ?_
    | refine aw_sregK 0 [0, 1, 2, 3] ?_
    | refine aw_regK 0 [0, 1, 2, 3] ?_
    | refine aw_sregK 1 [0, 1, 2, 3] ?_
    | refine aw_regK 1 [0, 1, 2, 3] ?_
    | refine aw_sregK 2 [0, 1, 2, 3, 9] ?_
    | refine aw_regK 2 [0, 1, 2, 3, 9] ?_
    | refine aw_sregK 3 [9] ?_
    | refine aw_regK 3 [9] ?_
    | refine aw_sregK 4 [0, 1, 2, 3, 9] ?_
    | refine aw_regK 4 [0, 1, 2, 3, 9] ?_
    | refine aw_sregK 5 [1, 2, 3, 9, 10] ?_
    | refine aw_regK 5 [1, 2, 3, 9, 10] ?_
    | refine aw_sregK 6 [2, 3, 9, 10, 11] ?_
    | refine aw_regK 6 [2, 3, 9, 10, 11] ?_
    | refine aw_sregK 7 [2, 3, 9, 10, 11, 12] ?_
    | refine aw_regK 7 [2, 3, 9, 10, 11, 12] ?_
    | refine aw_sregK 8 [9] ?_
    | refine aw_regK 8 [9] ?_
    | refine aw_sregK 9 [2, 3, 9, 10, 11, 12] ?_
    | refine aw_regK 9 [2, 3, 9, 10, 11, 12] ?_
    | refine aw_sregK 10 [3, 9, 10, 12, 13] ?_
    | refine aw_regK 10 [3, 9, 10, 12, 13] ?_
    | refine aw_sregK 11 [9, 10, 13, 14] ?_
    | refine aw_regK 11 [9, 10, 13, 14] ?_
    | refine aw_sregK 12 [9, 10, 13, 14, 15] ?_
    | refine aw_regK 12 [9, 10, 13, 14, 15] ?_
    | refine aw_sregK 13 [9, 10, 13, 14, 15, 16] ?_
    | refine aw_regK 13 [9, 10, 13, 14, 15, 16] ?_
    | refine aw_sregKD mixed 14 [9, 10, 13, 14, 15, 16, 17] (by simp; exact rfl) ?_
    | refine aw_regKD mixed 14 [9, 10, 13, 14, 15, 16, 17] (by simp; exact rfl) ?_
    | refine aw_sreg ?_
    | refine aw_sregD mixed ?_
    | refine aw_ifT (b := true) rfl rfl ?_
    | refine aw_ifF (b := false) rfl rfl ?_
    | refine aw_ifT rfl (by assumption) ?_
    | refine aw_ifF rfl (by assumption) ?_
    | refine aw_ifT rfl (decide_eq_true (by assumption)) ?_
    | refine aw_ifF rfl (decide_eq_false (by assumption)) ?_
    | refine aw_seq ?_
    | refine aw_block ?_
    | refine aw_skip ?_
    | refine aw_region ?_
    | refine aw_region_draw mixed ?_
    | refine aw_exit ?_
    | refine rq_exit ?_
    | refine blockQ_hit ?_
    | refine blockQ_miss (by decide) ?_
    | (refine ar_guard rfl rfl rfl rfl (fun h => ?_) (fun h => ?_) <;> (fail_if_success (cases h; done)) <;> (try simp at h) <;> (try subst h))
    | (refine aw_both rfl (fun h => ?_) (fun h => ?_) <;> (fail_if_success (cases h; done)) <;> (try simp at h) <;> (try subst h)))
end Go.Eng
