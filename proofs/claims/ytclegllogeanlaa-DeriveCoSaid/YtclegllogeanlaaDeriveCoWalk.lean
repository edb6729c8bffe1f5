import Derived.Test.YtclegllogeanlaaDerD
import Derived.Test.YtclegllogeanlaaDerivePartsWalk
import Derived.Test.YtclegllogeanlaaXorB
set_option linter.unusedSimpArgs false
set_option linter.unusedVariables false
set_option linter.constructorNameAsVariable false
set_option autoImplicit false
namespace Go.Eng
open Go Go.RowKit Go.Proofs
set_option maxHeartbeats 16000000 in
theorem law_DeriveCo {l : List Ev} {init : List Int} {w v : Nat} (hll : l.length ≤ maxLen) (hw : w ≤ 65535) (hv : v ≤ 65535) : SC Try.prog 10 [.pv (.sl 7 (evsL l)), .pv (.sl 1 (ints init)), I .u16 w, I .u16 v] (B true) := by
  have hml : maxLen = 9223372036854775807 := rfl
  by_cases h8 : l.length ≤ 8
  rotate_left
  · have h8' : (8 : Int) < (l.length : Int) := by omega
    refine scx_of Try.func10 rfl rfl rfl (Nat.le_of_ble_eq_true rfl) ?_
    repeat' (first
      | exact aw_ret (ret_vals (by simp; exact rfl) (by simp [*]; fail_if_success (show _)))
      | exact aw_ret (ret_vals (by simp; exact rfl) (by simp [*]; omega))
      | refine ar_end rfl ?_
      | refine ar_endD rfl (by kernel_rfl) ?_
      | refine ar_fin rfl ?_
      | refine ar_finD rfl (by kernel_rfl) ?_
      | refine ar_callV Try.call13 c_shown13 rfl rfl rfl rfl rfl (by simp; done) (by rfl) (by simp; done) ?_
      | refine ar_callV_if Try.call13 c_shown13 rfl rfl rfl rfl rfl rfl (by simp; done) rfl (by rfl) (by simp; done) ?_
      | refine ar_go3 _ rfl (by simp [evsL_len, evsL_getE, evL, prs_len, prs_getE, ints_len, ints_getE, intsL_len, intsL_getE, h8']; exact ⟨rfl, rfl, rfl⟩) rfl ?_
      | refine aw_sregK 0 [0, 1, 2, 3] ?_
      | refine aw_regK 0 [0, 1, 2, 3] ?_
      | refine aw_sregK 1 [0, 1, 2, 3] ?_
      | refine aw_regK 1 [0, 1, 2, 3] ?_
      | refine aw_sregK 2 [0, 1, 2, 3, 9] ?_
      | refine aw_regK 2 [0, 1, 2, 3, 9] ?_
      | refine aw_sregK 3 [9] ?_
      | refine aw_regK 3 [9] ?_
      | refine aw_sreg ?_
      | refine aw_sregD mixed ?_
      | refine aw_ifT (b := true) rfl rfl ?_
      | refine aw_ifF (b := false) rfl rfl ?_
      | refine aw_ifT rfl (by assumption) ?_
      | refine aw_ifF rfl (by assumption) ?_
      | refine aw_ifT rfl (decide_eq_true (by assumption)) ?_
      | refine aw_ifF rfl (decide_eq_false (by assumption)) ?_
      | refine aw_seq ?_
      | refine aw_block ?_
      | refine aw_skip ?_
      | refine aw_region ?_
      | refine aw_region_draw mixed ?_
      | refine aw_exit ?_
      | refine rq_exit ?_
      | refine blockQ_hit ?_
      | refine blockQ_miss (by decide) ?_
      | (refine ar_guard rfl rfl rfl rfl (fun h => ?_) (fun h => ?_) <;> (fail_if_success (cases h; done)) <;> (try simp at h) <;> (try subst h))
      | (refine aw_both rfl (fun h => ?_) (fun h => ?_) <;> (fail_if_success (cases h; done)) <;> (try simp at h) <;> (try subst h)))
  have h8' : ¬(8 : Int) < (l.length : Int) := by omega
  obtain ⟨W, hW, hWl, hWs⟩ := c_srcAll (es := l) (init := init) (by omega)
  obtain ⟨hA, hAl⟩ := c_all8 h8
  have hrk : ∀ co ∈ allR l, ∃ f, Rank l co f := fun co h => allR_rank (by omega) h
  have hsr : ∀ fm ∈ W, Src l fm := fun fm h => src_of (hWs fm h).1 (hWs fm h).2
  clear hWs
  generalize allR l = A at *
  by_cases hW0 : W.length = 0
  · have hW0' : (W.length : Int) = 0 := by omega
    refine scx_of Try.func10 rfl rfl rfl (Nat.le_of_ble_eq_true rfl) ?_
    repeat' (first
      | exact aw_ret (ret_vals (by simp; exact rfl) (by simp [*]; fail_if_success (show _)))
      | exact aw_ret (ret_vals (by simp; exact rfl) (by simp [*]; omega))
      | refine ar_end rfl ?_
      | refine ar_endD rfl (by kernel_rfl) ?_
      | refine ar_fin rfl ?_
      | refine ar_finD rfl (by kernel_rfl) ?_
      | refine ar_callV Try.call13 c_shown13 rfl rfl rfl rfl rfl (by simp; done) (by rfl) (by simp; done) ?_
      | refine ar_callV_if Try.call13 c_shown13 rfl rfl rfl rfl rfl rfl (by simp; done) rfl (by rfl) (by simp; done) ?_
      | refine ar_callV Try.call43 hW rfl rfl rfl rfl rfl (by simp; done) (by rfl) (by simp; done) ?_
      | refine ar_callV_if Try.call43 hW rfl rfl rfl rfl rfl rfl (by simp; done) rfl (by rfl) (by simp; done) ?_
      | refine ar_callV Try.call26 hA rfl rfl rfl rfl rfl (by simp; done) (by rfl) (by simp; done) ?_
      | refine ar_callV_if Try.call26 hA rfl rfl rfl rfl rfl rfl (by simp; done) rfl (by rfl) (by simp; done) ?_
      | refine ar_go3 _ rfl (by simp [evsL_len, evsL_getE, evL, prs_len, prs_getE, ints_len, ints_getE, intsL_len, intsL_getE, rlsL_len, rlsL_getE, exL, h8', hW0, hW0']; exact ⟨rfl, rfl, rfl⟩) rfl ?_
      | refine aw_sregK 0 [0, 1, 2, 3] ?_
      | refine aw_regK 0 [0, 1, 2, 3] ?_
      | refine aw_sregK 1 [0, 1, 2, 3] ?_
      | refine aw_regK 1 [0, 1, 2, 3] ?_
      | refine aw_sregK 2 [0, 1, 2, 3, 9] ?_
      | refine aw_regK 2 [0, 1, 2, 3, 9] ?_
      | refine aw_sregK 3 [9] ?_
      | refine aw_regK 3 [9] ?_
      | refine aw_sregK 4 [0, 1, 2, 3, 9] ?_
      | refine aw_regK 4 [0, 1, 2, 3, 9] ?_
      | refine aw_sregK 5 [0, 1, 2, 3, 9, 10] ?_
      | refine aw_regK 5 [0, 1, 2, 3, 9, 10] ?_
      | refine aw_sregK 6 [0, 2, 3, 9, 10, 11] ?_
      | refine aw_regK 6 [0, 2, 3, 9, 10, 11] ?_
      | refine aw_sregK 7 [0, 2, 3, 9, 10, 11, 12] ?_
      | refine aw_regK 7 [0, 2, 3, 9, 10, 11, 12] ?_
      | refine aw_sregK 8 [9] ?_
      | refine aw_regK 8 [9] ?_
      | refine aw_sreg ?_
      | refine aw_sregD mixed ?_
      | refine aw_ifT (b := true) rfl rfl ?_
      | refine aw_ifF (b := false) rfl rfl ?_
      | refine aw_ifT rfl (by assumption) ?_
      | refine aw_ifF rfl (by assumption) ?_
      | refine aw_ifT rfl (decide_eq_true (by assumption)) ?_
      | refine aw_ifF rfl (decide_eq_false (by assumption)) ?_
      | refine aw_seq ?_
      | refine aw_block ?_
      | refine aw_skip ?_
      | refine aw_region ?_
      | refine aw_region_draw mixed ?_
      | refine aw_exit ?_
      | refine rq_exit ?_
      | refine blockQ_hit ?_
      | refine blockQ_miss (by decide) ?_
      | (refine ar_guard rfl rfl rfl rfl (fun h => ?_) (fun h => ?_) <;> (fail_if_success (cases h; done)) <;> (try simp at h) <;> (try subst h))
      | (refine aw_both rfl (fun h => ?_) (fun h => ?_) <;> (fail_if_success (cases h; done)) <;> (try simp at h) <;> (try subst h)))
  have hW0' : ¬(W.length : Int) = 0 := by omega
  by_cases hA0 : A.length = 0
  · have hA0' : (A.length : Int) = 0 := by omega
    refine scx_of Try.func10 rfl rfl rfl (Nat.le_of_ble_eq_true rfl) ?_
    repeat' (first
      | exact aw_ret (ret_vals (by simp; exact rfl) (by simp [*]; fail_if_success (show _)))
      | exact aw_ret (ret_vals (by simp; exact rfl) (by simp [*]; omega))
      | refine ar_end rfl ?_
      | refine ar_endD rfl (by kernel_rfl) ?_
      | refine ar_fin rfl ?_
      | refine ar_finD rfl (by kernel_rfl) ?_
      | refine ar_callV Try.call13 c_shown13 rfl rfl rfl rfl rfl (by simp; done) (by rfl) (by simp; done) ?_
      | refine ar_callV_if Try.call13 c_shown13 rfl rfl rfl rfl rfl rfl (by simp; done) rfl (by rfl) (by simp; done) ?_
      | refine ar_callV Try.call43 hW rfl rfl rfl rfl rfl (by simp; done) (by rfl) (by simp; done) ?_
      | refine ar_callV_if Try.call43 hW rfl rfl rfl rfl rfl rfl (by simp; done) rfl (by rfl) (by simp; done) ?_
      | refine ar_callV Try.call26 hA rfl rfl rfl rfl rfl (by simp; done) (by rfl) (by simp; done) ?_
      | refine ar_callV_if Try.call26 hA rfl rfl rfl rfl rfl rfl (by simp; done) rfl (by rfl) (by simp; done) ?_
      | refine ar_go3 _ rfl (by simp [evsL_len, evsL_getE, evL, prs_len, prs_getE, ints_len, ints_getE, intsL_len, intsL_getE, rlsL_len, rlsL_getE, exL, h8', hW0, hW0', hA0, hA0']; exact ⟨rfl, rfl, rfl⟩) rfl ?_
      | refine aw_sregK 0 [0, 1, 2, 3] ?_
      | refine aw_regK 0 [0, 1, 2, 3] ?_
      | refine aw_sregK 1 [0, 1, 2, 3] ?_
      | refine aw_regK 1 [0, 1, 2, 3] ?_
      | refine aw_sregK 2 [0, 1, 2, 3, 9] ?_
      | refine aw_regK 2 [0, 1, 2, 3, 9] ?_
      | refine aw_sregK 3 [9] ?_
      | refine aw_regK 3 [9] ?_
      | refine aw_sregK 4 [0, 1, 2, 3, 9] ?_
      | refine aw_regK 4 [0, 1, 2, 3, 9] ?_
      | refine aw_sregK 5 [0, 1, 2, 3, 9, 10] ?_
      | refine aw_regK 5 [0, 1, 2, 3, 9, 10] ?_
      | refine aw_sregK 6 [0, 2, 3, 9, 10, 11] ?_
      | refine aw_regK 6 [0, 2, 3, 9, 10, 11] ?_
      | refine aw_sregK 7 [0, 2, 3, 9, 10, 11, 12] ?_
      | refine aw_regK 7 [0, 2, 3, 9, 10, 11, 12] ?_
      | refine aw_sregK 8 [9] ?_
      | refine aw_regK 8 [9] ?_
      | refine aw_sreg ?_
      | refine aw_sregD mixed ?_
      | refine aw_ifT (b := true) rfl rfl ?_
      | refine aw_ifF (b := false) rfl rfl ?_
      | refine aw_ifT rfl (by assumption) ?_
      | refine aw_ifF rfl (by assumption) ?_
      | refine aw_ifT rfl (decide_eq_true (by assumption)) ?_
      | refine aw_ifF rfl (decide_eq_false (by assumption)) ?_
      | refine aw_seq ?_
      | refine aw_block ?_
      | refine aw_skip ?_
      | refine aw_region ?_
      | refine aw_region_draw mixed ?_
      | refine aw_exit ?_
      | refine rq_exit ?_
      | refine blockQ_hit ?_
      | refine blockQ_miss (by decide) ?_
      | (refine ar_guard rfl rfl rfl rfl (fun h => ?_) (fun h => ?_) <;> (fail_if_success (cases h; done)) <;> (try simp at h) <;> (try subst h))
      | (refine aw_both rfl (fun h => ?_) (fun h => ?_) <;> (fail_if_success (cases h; done)) <;> (try simp at h) <;> (try subst h)))
  have hA0' : ¬(A.length : Int) = 0 := by omega
  have hww : IntKind.wrap .i64 (w : Int) = (w : Int) := wrap64s (by omega) (by omega)
  have hwv : IntKind.wrap .i64 (v : Int) = (v : Int) := wrap64s (by omega) (by omega)
  have htw : (w : Int).tmod (W.length : Int) = ((w % W.length : Nat) : Int) := rfl
  have htv : (v : Int).tmod (A.length : Int) = ((v % A.length : Nat) : Int) := rfl
  have hlw : w % W.length < W.length := Nat.mod_lt _ (by omega)
  have hlv : v % A.length < A.length := Nat.mod_lt _ (by omega)
  generalize w % W.length = n1 at *
  generalize v % A.length = n2 at *
  have hS := hsr W[n1] (List.getElem_mem hlw)
  obtain ⟨f, hR⟩ := hrk A[n2] (List.getElem_mem hlv)
  generalize hfm : W[n1] = fm at *
  generalize hco : A[n2] = co at *
  have h32 : l.length ≤ 32 := by omega
  have hcol : co.length ≤ maxLen := by rw [hR.cl.len]; omega
  have hfml : fm.length ≤ 1000000 := by rw [hS.len]; omega
  have hFc := fr_cl h32 fm co
  have hFl : (frR l fm co).length ≤ maxLen := by rw [hFc.len]; omega
  have k44 := c_fr (es := l) (fm := fm) (co := co) h32
  have hQc := (seq_bit hFc hR.cl).1
  have k45 := c_seq (a := frR l fm co) (b := co) hFl hcol
  have k20 := c_andV (a := seqR (frR l fm co) co) (b := frR l fm co) (by rw [hQc.len]; omega) hFl
  have k21 := c_same (a := bothR (· &&& ·) (seqR (frR l fm co) co) (frR l fm co)) (b := seqR (frR l fm co) co) (both_le _ _ _) (by rw [hQc.len]; omega)
  rw [seq_fr hS hR] at k21
  have hlen := hS.len
  have hfr : ∀ a b w, (ha : a < l.length) → (hb : b < l.length) → (hw : w < l.length) → l[a].k = 1 → l[b].k = 1 → l[a].l = l[b].l → fm[a]'(by omega) = fm[b]'(by omega) → hasR (frR l fm co) a w = hasR (frR l fm co) b w := fun a b w ha hb hw ka kb hl hf => fr_alike hS hR ha hb hw ka kb hl hf
  clear hFc hFl hQc hS hR
  generalize bothR (· &&& ·) (seqR (frR l fm co) co) (frR l fm co) = R1 at *
  generalize seqR (frR l fm co) co = R2 at *
  generalize frR l fm co = F at *
  refine scx_of Try.func10 rfl rfl rfl (Nat.le_of_ble_eq_true rfl) ?_
  repeat' (first
    | refine ar_end rfl ?_
    | refine ar_endD rfl (by kernel_rfl) ?_
    | refine ar_fin rfl ?_
    | refine ar_finD rfl (by kernel_rfl) ?_
    | refine ar_callV Try.call13 c_shown13 rfl rfl rfl rfl rfl (by simp; done) (by rfl) (by simp; done) ?_
    | refine ar_callV_if Try.call13 c_shown13 rfl rfl rfl rfl rfl rfl (by simp; done) rfl (by rfl) (by simp; done) ?_
    | refine ar_callV Try.call43 hW rfl rfl rfl rfl rfl (by simp; done) (by rfl) (by simp; done) ?_
    | refine ar_callV_if Try.call43 hW rfl rfl rfl rfl rfl rfl (by simp; done) rfl (by rfl) (by simp; done) ?_
    | refine ar_callV Try.call26 hA rfl rfl rfl rfl rfl (by simp; done) (by rfl) (by simp; done) ?_
    | refine ar_callV_if Try.call26 hA rfl rfl rfl rfl rfl rfl (by simp; done) rfl (by rfl) (by simp; done) ?_
    | refine ar_callV Try.call44 k44 rfl rfl rfl rfl rfl (by simp; done) (by rfl) (by simp; done) ?_
    | refine ar_callV_if Try.call44 k44 rfl rfl rfl rfl rfl rfl (by simp; done) rfl (by rfl) (by simp; done) ?_
    | refine ar_go3 _ rfl (by simp [evsL_len, evsL_getE, evL, prs_len, prs_getE, ints_len, ints_getE, intsL_len, intsL_getE, rlsL_len, rlsL_getE, exL, h8', hW0, hW0', hA0, hA0', hww, hwv, htw, htv, hlw, hlv, hfm, hco]; exact ⟨rfl, rfl, rfl⟩) rfl ?_
    | refine aw_sregK 0 [0, 1, 2, 3] ?_
    | refine aw_regK 0 [0, 1, 2, 3] ?_
    | refine aw_sregK 1 [0, 1, 2, 3] ?_
    | refine aw_regK 1 [0, 1, 2, 3] ?_
    | refine aw_sregK 2 [0, 1, 2, 3, 9] ?_
    | refine aw_regK 2 [0, 1, 2, 3, 9] ?_
    | refine aw_sregK 4 [0, 1, 2, 3, 9] ?_
    | refine aw_regK 4 [0, 1, 2, 3, 9] ?_
    | refine aw_sregK 5 [0, 1, 2, 3, 9, 10] ?_
    | refine aw_regK 5 [0, 1, 2, 3, 9, 10] ?_
    | refine aw_sregK 6 [0, 2, 3, 9, 10, 11] ?_
    | refine aw_regK 6 [0, 2, 3, 9, 10, 11] ?_
    | refine aw_sregK 7 [0, 2, 3, 9, 10, 11, 12] ?_
    | refine aw_regK 7 [0, 2, 3, 9, 10, 11, 12] ?_
    | refine aw_sregK 9 [0, 2, 3, 9, 10, 11, 12] ?_
    | refine aw_regK 9 [0, 2, 3, 9, 10, 11, 12] ?_
    | refine aw_sregK 10 [0, 3, 9, 10, 12, 13] ?_
    | refine aw_regK 10 [0, 3, 9, 10, 12, 13] ?_
    | refine aw_sregK 11 [0, 9, 10, 13, 14] ?_
    | refine aw_regK 11 [0, 9, 10, 13, 14] ?_
    | refine aw_sregK 12 [0, 9, 13, 14, 15] ?_
    | refine aw_regK 12 [0, 9, 13, 14, 15] ?_
    | refine aw_sreg ?_
    | refine aw_sregD mixed ?_
    | refine aw_ifT (b := true) rfl rfl ?_
    | refine aw_ifF (b := false) rfl rfl ?_
    | refine aw_ifT rfl (by assumption) ?_
    | refine aw_ifF rfl (by assumption) ?_
    | refine aw_ifT rfl (decide_eq_true (by assumption)) ?_
    | refine aw_ifF rfl (decide_eq_false (by assumption)) ?_
    | refine aw_seq ?_
    | refine aw_block ?_
    | refine aw_skip ?_
    | refine aw_region ?_
    | refine aw_region_draw mixed ?_
    | refine aw_exit ?_
    | refine rq_exit ?_
    | refine blockQ_hit ?_
    | refine blockQ_miss (by decide) ?_
    | (refine ar_guard rfl rfl rfl rfl (fun h => ?_) (fun h => ?_) <;> (fail_if_success (cases h; done)) <;> (try simp at h) <;> (try subst h))
    | (refine aw_both rfl (fun h => ?_) (fun h => ?_) <;> (fail_if_success (cases h; done)) <;> (try simp at h) <;> (try subst h)))
  refine aw_loopN [0, 9, 13, 14, 15, 16] [] (by simp; exact rfl) (ι := {i : Nat // i ≤ l.length}) (fun i => ⟨137, [(0, .pv (.sl 7 (evsL l))), (9, B true), (13, .pv (.sl 1 (ints fm))), (14, .pv (.sl 1 (rl co))), (15, .pv (.sl 1 (rl F))), (16, I .i64 i.1)], []⟩) (fun i => l.length - i.1) ⟨0, by omega⟩ (by simp) ?_
  rintro ⟨a, hia⟩
  by_cases hal : a < l.length
  · have hw1 : IntKind.wrap .i64 ((a : Int) + 1) = (a : Int) + 1 := wrap64s (by omega) (by omega)
    have hd1 : (a : Int) < (l.length : Int) := by omega
    have haf : a < fm.length := by omega
    have hfr1 := fun b w hb hw => hfr a b w hal hb hw
    generalize hx : l[a] = x at *
    generalize hfa : fm[a] = fa at *
    repeat' (first
      | refine ar_end rfl ?_
      | refine ar_endD rfl (by kernel_rfl) ?_
      | refine ar_fin rfl ?_
      | refine ar_finD rfl (by kernel_rfl) ?_
      | refine ar_go3 _ rfl (by simp [evsL_len, evsL_getE, evL, prs_len, prs_getE, ints_len, ints_getE, intsL_len, intsL_getE, hal, hd1]; exact ⟨rfl, rfl, rfl⟩) rfl ?_
      | refine aw_sregK 13 [0, 9, 13, 14, 15, 16] ?_
      | refine aw_regK 13 [0, 9, 13, 14, 15, 16] ?_
      | refine aw_sregK 15 [0, 9, 13, 14, 15, 16] ?_
      | refine aw_regK 15 [0, 9, 13, 14, 15, 16] ?_
      | refine aw_sreg ?_
      | refine aw_sregD mixed ?_
      | refine aw_ifT (b := true) rfl rfl ?_
      | refine aw_ifF (b := false) rfl rfl ?_
      | refine aw_ifT rfl (by assumption) ?_
      | refine aw_ifF rfl (by assumption) ?_
      | refine aw_ifT rfl (decide_eq_true (by assumption)) ?_
      | refine aw_ifF rfl (decide_eq_false (by assumption)) ?_
      | refine aw_seq ?_
      | refine aw_block ?_
      | refine aw_skip ?_
      | refine aw_region ?_
      | refine aw_region_draw mixed ?_
      | refine aw_exit ?_
      | refine rq_exit ?_
      | refine blockQ_hit ?_
      | refine blockQ_miss (by decide) ?_
      | (refine ar_guard rfl rfl rfl rfl (fun h => ?_) (fun h => ?_) <;> (fail_if_success (cases h; done)) <;> (try simp at h) <;> (try subst h))
      | (refine aw_both rfl (fun h => ?_) (fun h => ?_) <;> (fail_if_success (cases h; done)) <;> (try simp at h) <;> (try subst h)))
    refine aw_loopN [0, 9, 13, 14, 15, 16, 17] [] (by simp; exact rfl) (ι := {i : Nat // i ≤ l.length}) (fun i => ⟨137, [(0, .pv (.sl 7 (evsL l))), (9, B true), (13, .pv (.sl 1 (ints fm))), (14, .pv (.sl 1 (rl co))), (15, .pv (.sl 1 (rl F))), (16, I .i64 a), (17, I .i64 i.1)], []⟩) (fun i => l.length - i.1) ⟨0, by omega⟩ (by simp) ?_
    rintro ⟨b, hib⟩
    by_cases hbl : b < l.length
    · have hw2 : IntKind.wrap .i64 ((b : Int) + 1) = (b : Int) + 1 := wrap64s (by omega) (by omega)
      have hd2 : (b : Int) < (l.length : Int) := by omega
      have hbf : b < fm.length := by omega
      have hfr2 := fun w hw => hfr1 b w hbl hw
      generalize hy : l[b] = y at *
      generalize hfb : fm[b] = fb at *
      by_cases ka : x.k = 1
      rotate_left
      ·
        repeat' (first
          | refine ar_end rfl ?_
          | refine ar_endD rfl (by kernel_rfl) ?_
          | refine ar_fin rfl ?_
          | refine ar_finD rfl (by kernel_rfl) ?_
          | refine bq_norm ?_
          | refine lq_normN [0, 9, 13, 14, 15, 16, 17] [] (by simp; exact rfl) ⟨b + 1, by omega⟩ (by dsimp only; omega) (by simp [hd2])
          | refine ar_go3 _ rfl (by simp [evsL_len, evsL_getE, evL, prs_len, prs_getE, ints_len, ints_getE, intsL_len, intsL_getE, hbl, hd2, hal, haf, hbf, hx, hy, hfa, hfb, ka, hw2]; exact ⟨rfl, rfl, rfl⟩) rfl ?_
          | refine aw_sregK 16 [0, 9, 13, 14, 15, 16, 17] ?_
          | refine aw_regK 16 [0, 9, 13, 14, 15, 16, 17] ?_
          | refine aw_sregK 17 [0, 9, 13, 14, 15, 16, 17] ?_
          | refine aw_regK 17 [0, 9, 13, 14, 15, 16, 17] ?_
          | refine aw_sregKD mixed 18 [0, 9, 13, 14, 15, 16, 17] (by simp; exact rfl) ?_
          | refine aw_regKD mixed 18 [0, 9, 13, 14, 15, 16, 17] (by simp; exact rfl) ?_
          | refine aw_sreg ?_
          | refine aw_sregD mixed ?_
          | refine aw_ifT (b := true) rfl rfl ?_
          | refine aw_ifF (b := false) rfl rfl ?_
          | refine aw_ifT rfl (by assumption) ?_
          | refine aw_ifF rfl (by assumption) ?_
          | refine aw_ifT rfl (decide_eq_true (by assumption)) ?_
          | refine aw_ifF rfl (decide_eq_false (by assumption)) ?_
          | refine aw_seq ?_
          | refine aw_block ?_
          | refine aw_skip ?_
          | refine aw_region ?_
          | refine aw_region_draw mixed ?_
          | refine aw_exit ?_
          | refine rq_exit ?_
          | refine blockQ_hit ?_
          | refine blockQ_miss (by decide) ?_
          | (refine ar_guard rfl rfl rfl rfl (fun h => ?_) (fun h => ?_) <;> (fail_if_success (cases h; done)) <;> (try simp at h) <;> (try subst h))
          | (refine aw_both rfl (fun h => ?_) (fun h => ?_) <;> (fail_if_success (cases h; done)) <;> (try simp at h) <;> (try subst h)))
      by_cases kb : y.k = 1
      rotate_left
      ·
        repeat' (first
          | refine ar_end rfl ?_
          | refine ar_endD rfl (by kernel_rfl) ?_
          | refine ar_fin rfl ?_
          | refine ar_finD rfl (by kernel_rfl) ?_
          | refine bq_norm ?_
          | refine lq_normN [0, 9, 13, 14, 15, 16, 17] [] (by simp; exact rfl) ⟨b + 1, by omega⟩ (by dsimp only; omega) (by simp [hd2])
          | refine ar_go3 _ rfl (by simp [evsL_len, evsL_getE, evL, prs_len, prs_getE, ints_len, ints_getE, intsL_len, intsL_getE, hbl, hd2, hal, haf, hbf, hx, hy, hfa, hfb, ka, kb, hw2]; exact ⟨rfl, rfl, rfl⟩) rfl ?_
          | refine aw_sregK 16 [0, 9, 13, 14, 15, 16, 17] ?_
          | refine aw_regK 16 [0, 9, 13, 14, 15, 16, 17] ?_
          | refine aw_sregK 17 [0, 9, 13, 14, 15, 16, 17] ?_
          | refine aw_regK 17 [0, 9, 13, 14, 15, 16, 17] ?_
          | refine aw_sregKD mixed 18 [0, 9, 13, 14, 15, 16, 17] (by simp; exact rfl) ?_
          | refine aw_regKD mixed 18 [0, 9, 13, 14, 15, 16, 17] (by simp; exact rfl) ?_
          | refine aw_sreg ?_
          | refine aw_sregD mixed ?_
          | refine aw_ifT (b := true) rfl rfl ?_
          | refine aw_ifF (b := false) rfl rfl ?_
          | refine aw_ifT rfl (by assumption) ?_
          | refine aw_ifF rfl (by assumption) ?_
          | refine aw_ifT rfl (decide_eq_true (by assumption)) ?_
          | refine aw_ifF rfl (decide_eq_false (by assumption)) ?_
          | refine aw_seq ?_
          | refine aw_block ?_
          | refine aw_skip ?_
          | refine aw_region ?_
          | refine aw_region_draw mixed ?_
          | refine aw_exit ?_
          | refine rq_exit ?_
          | refine blockQ_hit ?_
          | refine blockQ_miss (by decide) ?_
          | (refine ar_guard rfl rfl rfl rfl (fun h => ?_) (fun h => ?_) <;> (fail_if_success (cases h; done)) <;> (try simp at h) <;> (try subst h))
          | (refine aw_both rfl (fun h => ?_) (fun h => ?_) <;> (fail_if_success (cases h; done)) <;> (try simp at h) <;> (try subst h)))
      by_cases kf : fa = fb
      rotate_left
      ·
        repeat' (first
          | refine ar_end rfl ?_
          | refine ar_endD rfl (by kernel_rfl) ?_
          | refine ar_fin rfl ?_
          | refine ar_finD rfl (by kernel_rfl) ?_
          | refine bq_norm ?_
          | refine lq_normN [0, 9, 13, 14, 15, 16, 17] [] (by simp; exact rfl) ⟨b + 1, by omega⟩ (by dsimp only; omega) (by simp [hd2])
          | refine ar_go3 _ rfl (by simp [evsL_len, evsL_getE, evL, prs_len, prs_getE, ints_len, ints_getE, intsL_len, intsL_getE, hbl, hd2, hal, haf, hbf, hx, hy, hfa, hfb, ka, kb, kf, hw2]; exact ⟨rfl, rfl, rfl⟩) rfl ?_
          | refine aw_sregK 16 [0, 9, 13, 14, 15, 16, 17] ?_
          | refine aw_regK 16 [0, 9, 13, 14, 15, 16, 17] ?_
          | refine aw_sregK 17 [0, 9, 13, 14, 15, 16, 17] ?_
          | refine aw_regK 17 [0, 9, 13, 14, 15, 16, 17] ?_
          | refine aw_sregKD mixed 18 [0, 9, 13, 14, 15, 16, 17] (by simp; exact rfl) ?_
          | refine aw_regKD mixed 18 [0, 9, 13, 14, 15, 16, 17] (by simp; exact rfl) ?_
          | refine aw_sreg ?_
          | refine aw_sregD mixed ?_
          | refine aw_ifT (b := true) rfl rfl ?_
          | refine aw_ifF (b := false) rfl rfl ?_
          | refine aw_ifT rfl (by assumption) ?_
          | refine aw_ifF rfl (by assumption) ?_
          | refine aw_ifT rfl (decide_eq_true (by assumption)) ?_
          | refine aw_ifF rfl (decide_eq_false (by assumption)) ?_
          | refine aw_seq ?_
          | refine aw_block ?_
          | refine aw_skip ?_
          | refine aw_region ?_
          | refine aw_region_draw mixed ?_
          | refine aw_exit ?_
          | refine rq_exit ?_
          | refine blockQ_hit ?_
          | refine blockQ_miss (by decide) ?_
          | (refine ar_guard rfl rfl rfl rfl (fun h => ?_) (fun h => ?_) <;> (fail_if_success (cases h; done)) <;> (try simp at h) <;> (try subst h))
          | (refine aw_both rfl (fun h => ?_) (fun h => ?_) <;> (fail_if_success (cases h; done)) <;> (try simp at h) <;> (try subst h)))
      by_cases kl : x.l = y.l
      rotate_left
      ·
        repeat' (first
          | refine ar_end rfl ?_
          | refine ar_endD rfl (by kernel_rfl) ?_
          | refine ar_fin rfl ?_
          | refine ar_finD rfl (by kernel_rfl) ?_
          | refine bq_norm ?_
          | refine lq_normN [0, 9, 13, 14, 15, 16, 17] [] (by simp; exact rfl) ⟨b + 1, by omega⟩ (by dsimp only; omega) (by simp [hd2])
          | refine ar_go3 _ rfl (by simp [evsL_len, evsL_getE, evL, prs_len, prs_getE, ints_len, ints_getE, intsL_len, intsL_getE, hbl, hd2, hal, haf, hbf, hx, hy, hfa, hfb, ka, kb, kf, kl, hw2]; exact ⟨rfl, rfl, rfl⟩) rfl ?_
          | refine aw_sregK 16 [0, 9, 13, 14, 15, 16, 17] ?_
          | refine aw_regK 16 [0, 9, 13, 14, 15, 16, 17] ?_
          | refine aw_sregK 17 [0, 9, 13, 14, 15, 16, 17] ?_
          | refine aw_regK 17 [0, 9, 13, 14, 15, 16, 17] ?_
          | refine aw_sregKD mixed 18 [0, 9, 13, 14, 15, 16, 17] (by simp; exact rfl) ?_
          | refine aw_regKD mixed 18 [0, 9, 13, 14, 15, 16, 17] (by simp; exact rfl) ?_
          | refine aw_sreg ?_
          | refine aw_sregD mixed ?_
          | refine aw_ifT (b := true) rfl rfl ?_
          | refine aw_ifF (b := false) rfl rfl ?_
          | refine aw_ifT rfl (by assumption) ?_
          | refine aw_ifF rfl (by assumption) ?_
          | refine aw_ifT rfl (decide_eq_true (by assumption)) ?_
          | refine aw_ifF rfl (decide_eq_false (by assumption)) ?_
          | refine aw_seq ?_
          | refine aw_block ?_
          | refine aw_skip ?_
          | refine aw_region ?_
          | refine aw_region_draw mixed ?_
          | refine aw_exit ?_
          | refine rq_exit ?_
          | refine blockQ_hit ?_
          | refine blockQ_miss (by decide) ?_
          | (refine ar_guard rfl rfl rfl rfl (fun h => ?_) (fun h => ?_) <;> (fail_if_success (cases h; done)) <;> (try simp at h) <;> (try subst h))
          | (refine aw_both rfl (fun h => ?_) (fun h => ?_) <;> (fail_if_success (cases h; done)) <;> (try simp at h) <;> (try subst h)))
      have hfr3 := fun w hw => hfr2 w hw ka kb kl (by rw [hfa, hfb]; exact kf)
      repeat' (first
        | refine ar_end rfl ?_
        | refine ar_endD rfl (by kernel_rfl) ?_
        | refine ar_fin rfl ?_
        | refine ar_finD rfl (by kernel_rfl) ?_
        | refine ar_go3 _ rfl (by simp [evsL_len, evsL_getE, evL, prs_len, prs_getE, ints_len, ints_getE, intsL_len, intsL_getE, hbl, hd2, hal, haf, hbf, hx, hy, hfa, hfb, ka, kb, kf, kl]; exact ⟨rfl, rfl, rfl⟩) rfl ?_
        | refine aw_sregK 16 [0, 9, 13, 14, 15, 16, 17] ?_
        | refine aw_regK 16 [0, 9, 13, 14, 15, 16, 17] ?_
        | refine aw_sregKD mixed 18 [0, 9, 13, 14, 15, 16, 17] (by simp; exact rfl) ?_
        | refine aw_regKD mixed 18 [0, 9, 13, 14, 15, 16, 17] (by simp; exact rfl) ?_
        | refine aw_sregK 19 [0, 9, 13, 14, 15, 16, 17] ?_
        | refine aw_regK 19 [0, 9, 13, 14, 15, 16, 17] ?_
        | refine aw_sreg ?_
        | refine aw_sregD mixed ?_
        | refine aw_ifT (b := true) rfl rfl ?_
        | refine aw_ifF (b := false) rfl rfl ?_
        | refine aw_ifT rfl (by assumption) ?_
        | refine aw_ifF rfl (by assumption) ?_
        | refine aw_ifT rfl (decide_eq_true (by assumption)) ?_
        | refine aw_ifF rfl (decide_eq_false (by assumption)) ?_
        | refine aw_seq ?_
        | refine aw_block ?_
        | refine aw_skip ?_
        | refine aw_region ?_
        | refine aw_region_draw mixed ?_
        | refine aw_exit ?_
        | refine rq_exit ?_
        | refine blockQ_hit ?_
        | refine blockQ_miss (by decide) ?_
        | (refine ar_guard rfl rfl rfl rfl (fun h => ?_) (fun h => ?_) <;> (fail_if_success (cases h; done)) <;> (try simp at h) <;> (try subst h))
        | (refine aw_both rfl (fun h => ?_) (fun h => ?_) <;> (fail_if_success (cases h; done)) <;> (try simp at h) <;> (try subst h)))
      refine aw_loopN [0, 9, 13, 14, 15, 16, 17, 18] [] (by simp; exact rfl) (ι := {i : Nat // i ≤ l.length}) (fun i => ⟨137, [(0, .pv (.sl 7 (evsL l))), (9, B true), (13, .pv (.sl 1 (ints fm))), (14, .pv (.sl 1 (rl co))), (15, .pv (.sl 1 (rl F))), (16, I .i64 a), (17, I .i64 b), (18, I .i64 i.1)], []⟩) (fun i => l.length - i.1) ⟨0, by omega⟩ (by simp) ?_
      rintro ⟨c, hic⟩
      by_cases hcl : c < l.length
      · have hw3 : IntKind.wrap .i64 ((c : Int) + 1) = (c : Int) + 1 := wrap64s (by omega) (by omega)
        have hd3 : (c : Int) < (l.length : Int) := by omega
        have hq := hfr3 c hcl
        have k17a := c_has (r := F) (i := (a : Int)) (k := (c : Int))
        have k17b := c_has (r := F) (i := (b : Int)) (k := (c : Int))
        rw [hq] at k17a
        generalize hasR F (b : Int) (c : Int) = q at *
        repeat' (first
          | refine ar_end rfl ?_
          | refine ar_endD rfl (by kernel_rfl) ?_
          | refine ar_fin rfl ?_
          | refine ar_finD rfl (by kernel_rfl) ?_
          | refine ar_callV Try.call17 k17a rfl rfl rfl rfl rfl (by simp; done) (by rfl) (by simp; done) ?_
          | refine ar_callV_if Try.call17 k17a rfl rfl rfl rfl rfl rfl (by simp; done) rfl (by rfl) (by simp; done) ?_
          | refine ar_callV Try.call17 k17b rfl rfl rfl rfl rfl (by simp; done) (by rfl) (by simp; done) ?_
          | refine ar_callV_if Try.call17 k17b rfl rfl rfl rfl rfl rfl (by simp; done) rfl (by rfl) (by simp; done) ?_
          | refine bq_norm ?_
          | refine lq_normN [0, 9, 13, 14, 15, 16, 17, 18] [] (by simp; exact rfl) ⟨c + 1, by omega⟩ (by dsimp only; omega) (by simp [hd3])
          | refine ar_go3 _ rfl (by simp [evsL_len, evsL_getE, evL, prs_len, prs_getE, ints_len, ints_getE, intsL_len, intsL_getE, hd3, hw3]; exact ⟨rfl, rfl, rfl⟩) rfl ?_
          | refine aw_sregK 20 [0, 9, 13, 14, 15, 16, 17, 18] ?_
          | refine aw_regK 20 [0, 9, 13, 14, 15, 16, 17, 18] ?_
          | refine aw_sregK 21 [0, 9, 13, 14, 15, 16, 17, 18] ?_
          | refine aw_regK 21 [0, 9, 13, 14, 15, 16, 17, 18] ?_
          | refine aw_sregK 22 [0, 9, 13, 14, 15, 16, 17, 18] ?_
          | refine aw_regK 22 [0, 9, 13, 14, 15, 16, 17, 18] ?_
          | refine aw_sreg ?_
          | refine aw_sregD mixed ?_
          | refine aw_ifT (b := true) rfl rfl ?_
          | refine aw_ifF (b := false) rfl rfl ?_
          | refine aw_ifT rfl (by assumption) ?_
          | refine aw_ifF rfl (by assumption) ?_
          | refine aw_ifT rfl (decide_eq_true (by assumption)) ?_
          | refine aw_ifF rfl (decide_eq_false (by assumption)) ?_
          | refine aw_seq ?_
          | refine aw_block ?_
          | refine aw_skip ?_
          | refine aw_region ?_
          | refine aw_region_draw mixed ?_
          | refine aw_exit ?_
          | refine rq_exit ?_
          | refine blockQ_hit ?_
          | refine blockQ_miss (by decide) ?_
          | (refine ar_guard rfl rfl rfl rfl (fun h => ?_) (fun h => ?_) <;> (fail_if_success (cases h; done)) <;> (try simp at h) <;> (try subst h))
          | (refine aw_both rfl (fun h => ?_) (fun h => ?_) <;> (fail_if_success (cases h; done)) <;> (try simp at h) <;> (try subst h)))
      · have hd3 : ¬(c : Int) < (l.length : Int) := by omega
        repeat' (first
          | refine ar_end rfl ?_
          | refine ar_endD rfl (by kernel_rfl) ?_
          | refine ar_fin rfl ?_
          | refine ar_finD rfl (by kernel_rfl) ?_
          | refine lq_exit ?_
          | refine bq_norm ?_
          | refine lq_normN [0, 9, 13, 14, 15, 16, 17] [] (by simp; exact rfl) ⟨b + 1, by omega⟩ (by dsimp only; omega) (by simp [hd3])
          | refine ar_go3 _ rfl (by simp [evsL_len, evsL_getE, evL, prs_len, prs_getE, ints_len, ints_getE, intsL_len, intsL_getE, hd3, hw2]; exact ⟨rfl, rfl, rfl⟩) rfl ?_
          | refine aw_sregK 17 [0, 9, 13, 14, 15, 16, 17] ?_
          | refine aw_regK 17 [0, 9, 13, 14, 15, 16, 17] ?_
          | refine aw_sregK 20 [0, 9, 13, 14, 15, 16, 17, 18] ?_
          | refine aw_regK 20 [0, 9, 13, 14, 15, 16, 17, 18] ?_
          | refine aw_sreg ?_
          | refine aw_sregD mixed ?_
          | refine aw_ifT (b := true) rfl rfl ?_
          | refine aw_ifF (b := false) rfl rfl ?_
          | refine aw_ifT rfl (by assumption) ?_
          | refine aw_ifF rfl (by assumption) ?_
          | refine aw_ifT rfl (decide_eq_true (by assumption)) ?_
          | refine aw_ifF rfl (decide_eq_false (by assumption)) ?_
          | refine aw_seq ?_
          | refine aw_block ?_
          | refine aw_skip ?_
          | refine aw_region ?_
          | refine aw_region_draw mixed ?_
          | refine aw_exit ?_
          | refine rq_exit ?_
          | refine blockQ_hit ?_
          | refine blockQ_miss (by decide) ?_
          | (refine ar_guard rfl rfl rfl rfl (fun h => ?_) (fun h => ?_) <;> (fail_if_success (cases h; done)) <;> (try simp at h) <;> (try subst h))
          | (refine aw_both rfl (fun h => ?_) (fun h => ?_) <;> (fail_if_success (cases h; done)) <;> (try simp at h) <;> (try subst h)))
    · have hd2 : ¬(b : Int) < (l.length : Int) := by omega
      repeat' (first
        | refine ar_end rfl ?_
        | refine ar_endD rfl (by kernel_rfl) ?_
        | refine ar_fin rfl ?_
        | refine ar_finD rfl (by kernel_rfl) ?_
        | refine lq_exit ?_
        | refine bq_norm ?_
        | refine lq_normN [0, 9, 13, 14, 15, 16] [] (by simp; exact rfl) ⟨a + 1, by omega⟩ (by dsimp only; omega) (by simp [hd2])
        | refine ar_go3 _ rfl (by simp [evsL_len, evsL_getE, evL, prs_len, prs_getE, ints_len, ints_getE, intsL_len, intsL_getE, hd2, hw1]; exact ⟨rfl, rfl, rfl⟩) rfl ?_
        | refine aw_sregK 14 [0, 9, 13, 14, 15, 16] ?_
        | refine aw_regK 14 [0, 9, 13, 14, 15, 16] ?_
        | refine aw_sregK 16 [0, 9, 13, 14, 15, 16, 17] ?_
        | refine aw_regK 16 [0, 9, 13, 14, 15, 16, 17] ?_
        | refine aw_sreg ?_
        | refine aw_sregD mixed ?_
        | refine aw_ifT (b := true) rfl rfl ?_
        | refine aw_ifF (b := false) rfl rfl ?_
        | refine aw_ifT rfl (by assumption) ?_
        | refine aw_ifF rfl (by assumption) ?_
        | refine aw_ifT rfl (decide_eq_true (by assumption)) ?_
        | refine aw_ifF rfl (decide_eq_false (by assumption)) ?_
        | refine aw_seq ?_
        | refine aw_block ?_
        | refine aw_skip ?_
        | refine aw_region ?_
        | refine aw_region_draw mixed ?_
        | refine aw_exit ?_
        | refine rq_exit ?_
        | refine blockQ_hit ?_
        | refine blockQ_miss (by decide) ?_
        | (refine ar_guard rfl rfl rfl rfl (fun h => ?_) (fun h => ?_) <;> (fail_if_success (cases h; done)) <;> (try simp at h) <;> (try subst h))
        | (refine aw_both rfl (fun h => ?_) (fun h => ?_) <;> (fail_if_success (cases h; done)) <;> (try simp at h) <;> (try subst h)))
  · have hd1 : ¬(a : Int) < (l.length : Int) := by omega
    repeat' (first
      | exact aw_ret (ret_vals (by simp; exact rfl) (by simp [*]; fail_if_success (show _)))
      | exact aw_ret (ret_vals (by simp; exact rfl) (by simp [*]; omega))
      | refine ar_end rfl ?_
      | refine ar_endD rfl (by kernel_rfl) ?_
      | refine ar_fin rfl ?_
      | refine ar_finD rfl (by kernel_rfl) ?_
      | refine ar_callV Try.call45 k45 rfl rfl rfl rfl rfl (by simp; done) (by rfl) (by simp; done) ?_
      | refine ar_callV_if Try.call45 k45 rfl rfl rfl rfl rfl rfl (by simp; done) rfl (by rfl) (by simp; done) ?_
      | refine ar_callV Try.call20 k20 rfl rfl rfl rfl rfl (by simp; done) (by rfl) (by simp; done) ?_
      | refine ar_callV_if Try.call20 k20 rfl rfl rfl rfl rfl rfl (by simp; done) rfl (by rfl) (by simp; done) ?_
      | refine ar_callV Try.call21 k21 rfl rfl rfl rfl rfl (by simp; done) (by rfl) (by simp; done) ?_
      | refine ar_callV_if Try.call21 k21 rfl rfl rfl rfl rfl rfl (by simp; done) rfl (by rfl) (by simp; done) ?_
      | refine lq_exit ?_
      | refine ar_go3 _ rfl (by simp [evsL_len, evsL_getE, evL, prs_len, prs_getE, ints_len, ints_getE, intsL_len, intsL_getE, hd1]; exact ⟨rfl, rfl, rfl⟩) rfl ?_
      | refine aw_sregK 13 [0, 9, 13, 14, 15, 16] ?_
      | refine aw_regK 13 [0, 9, 13, 14, 15, 16] ?_
      | refine aw_sregK 24 [9, 14, 15] ?_
      | refine aw_regK 24 [9, 14, 15] ?_
      | refine aw_sreg ?_
      | refine aw_sregD mixed ?_
      | refine aw_ifT (b := true) rfl rfl ?_
      | refine aw_ifF (b := false) rfl rfl ?_
      | refine aw_ifT rfl (by assumption) ?_
      | refine aw_ifF rfl (by assumption) ?_
      | refine aw_ifT rfl (decide_eq_true (by assumption)) ?_
      | refine aw_ifF rfl (decide_eq_false (by assumption)) ?_
      | refine aw_seq ?_
      | refine aw_block ?_
      | refine aw_skip ?_
      | refine aw_region ?_
      | refine aw_region_draw mixed ?_
      | refine aw_exit ?_
      | refine rq_exit ?_
      | refine blockQ_hit ?_
      | refine blockQ_miss (by decide) ?_
      | (refine ar_guard rfl rfl rfl rfl (fun h => ?_) (fun h => ?_) <;> (fail_if_success (cases h; done)) <;> (try simp at h) <;> (try subst h))
      | (refine aw_both rfl (fun h => ?_) (fun h => ?_) <;> (fail_if_success (cases h; done)) <;> (try simp at h) <;> (try subst h)))
end Go.Eng
