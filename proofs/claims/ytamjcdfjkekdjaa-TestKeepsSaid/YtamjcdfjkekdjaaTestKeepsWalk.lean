import Derived.Test.YtamjcdfjkekdjaaTestF
import Derived.Test.YtamjcdfjkekdjaaTestH
set_option linter.unusedSimpArgs false
set_option linter.unusedVariables false
set_option linter.constructorNameAsVariable false
set_option autoImplicit false
namespace Go.Eng
open Go Go.RowKit Go.Proofs
theorem noInit2 {t : List (List In)} {res : AV} (h : SC Try.prog 61 [.agg (testL [] t), .agg (testL [] t)] res) : SC Try.prog 61 [.agg [.v (.slice none 0 0), .sl 1 (thsL t)], .agg [.v (.slice none 0 0), .sl 1 (thsL t)]] res := by
  refine h.weaken fun ρ w vs hv => ?_
  obtain ⟨v, vs', e, ⟨a, e2, v1, vs1, e3, h1, h2⟩, v', vs'', e', ⟨a', e2', v1', vs1', e3', h1', h2'⟩, h3⟩ := hv
  exact ⟨v, vs', e, ⟨a, e2, v1, vs1, e3, nil_rel h1, h2⟩, v', vs'', e', ⟨a', e2', v1', vs1', e3', nil_rel h1', h2'⟩, h3⟩
theorem keeps {i : List Int} {t : List (List In)} (h : okTest i t = true) {n : Nat} (hlt : n < t.length) (hb : n < (bareT t).length) (hg : n < (fencedT t).length) :
    accF (bareT t)[n] = accF t[n] ∧ accF (fencedT t)[n] = accF t[n] ∧ NoBar (bareT t)[n] ∧ Fenced1 (fencedT t)[n] ∧ (t[n]).length ≤ 8 ∧ ((bareT t)[n]).length ≤ 8 ∧ ((fencedT t)[n]).length ≤ 16 := by
  have e1 : (bareT t)[n] = turnL bareF t[n] := by simp [bareT]
  have e2 : (fencedT t)[n] = turnL fencedF (turnL bareF t[n]) := by simp [fencedT, bareT]
  have h8 := ((ok_facts h).2.2.2.2 _ (List.getElem_mem hlt)).1
  have l1 := bare_len t[n]
  have l2 := fenced_len (l := turnL bareF t[n])
  rw [e1, e2, acc_fenced, acc_bare]
  exact ⟨rfl, rfl, nobar_bare _, fenced_one _, by omega, by omega, by omega⟩
theorem wf_acc {l : List In} (h : ∀ x ∈ l, wfIn x) : ∀ x ∈ accF l, wfIn x := fun x hx => h x (List.mem_filter.1 hx).1
set_option maxHeartbeats 16000000 in
theorem law_TestKeeps {i : List Int} {t : List (List In)} (hw : WfT t) : SC Try.prog 17 [.agg (testL i t)] (B true) := by
  cases hfb : fewB i t
  · refine scx_of Try.func17 rfl rfl rfl (Nat.le_of_ble_eq_true rfl) ?_
    repeat' (first
      | exact aw_ret (ret_vals (by simp; exact rfl) (by simp [*]; fail_if_success (show _)))
      | exact aw_ret (ret_vals (by simp; exact rfl) (by simp [*]; omega))
      | refine ar_end rfl ?_
      | refine ar_endD rfl (by kernel_rfl) ?_
      | refine ar_fin rfl ?_
      | refine ar_finD rfl (by kernel_rfl) ?_
      | refine ar_callV Try.call53 c_shown2 rfl rfl rfl rfl rfl (by simp; done) (by rfl) (by simp; done) ?_
      | refine ar_callV_if Try.call53 c_shown2 rfl rfl rfl rfl rfl rfl (by simp; done) rfl (by rfl) (by simp; done) ?_
      | refine ar_callV Try.call54 c_Few rfl rfl rfl rfl rfl (by simp; done) (by rfl) (by simp; done) ?_
      | refine ar_callV_if Try.call54 c_Few rfl rfl rfl rfl rfl rfl (by simp; done) rfl (by rfl) (by simp; done) ?_
      | refine ar_go3 _ rfl (by simp [hfb]; exact ⟨rfl, rfl, rfl⟩) rfl ?_
      | refine aw_sregK 0 [0] ?_
      | refine aw_regK 0 [0] ?_
      | refine aw_sregK 1 [1] ?_
      | refine aw_regK 1 [1] ?_
      | refine aw_sregK 2 [1, 3] ?_
      | refine aw_regK 2 [1, 3] ?_
      | refine aw_sregK 3 [3] ?_
      | refine aw_regK 3 [3] ?_
      | refine aw_sregK 4 [1, 3] ?_
      | refine aw_regK 4 [1, 3] ?_
      | refine aw_sregK 5 [1, 3, 6] ?_
      | refine aw_regK 5 [1, 3, 6] ?_
      | refine aw_sregK 6 [3] ?_
      | refine aw_regK 6 [3] ?_
      | refine aw_sregK 7 [1, 3] ?_
      | refine aw_regK 7 [1, 3] ?_
      | refine aw_sregK 8 [1, 3, 7] ?_
      | refine aw_regK 8 [1, 3, 7] ?_
      | refine aw_sregK 9 [1, 3, 7, 8] ?_
      | refine aw_regK 9 [1, 3, 7, 8] ?_
      | refine aw_sregK 10 [] ?_
      | refine aw_regK 10 [] ?_
      | refine aw_sregK 11 [1, 3, 7, 8] ?_
      | refine aw_regK 11 [1, 3, 7, 8] ?_
      | refine aw_sregK 12 [1, 3, 7, 8, 9] ?_
      | refine aw_regK 12 [1, 3, 7, 8, 9] ?_
      | refine aw_sregK 13 [1, 3, 7, 8, 9] ?_
      | refine aw_regK 13 [1, 3, 7, 8, 9] ?_
      | refine aw_sregK 14 [1, 3, 7, 8, 9] ?_
      | refine aw_regK 14 [1, 3, 7, 8, 9] ?_
      | refine aw_sregK 15 [1, 3, 7, 8, 9, 10] ?_
      | refine aw_regK 15 [1, 3, 7, 8, 9, 10] ?_
      | refine aw_sregK 16 [] ?_
      | refine aw_regK 16 [] ?_
      | refine aw_sregK 17 [1, 3, 7, 8, 9] ?_
      | refine aw_regK 17 [1, 3, 7, 8, 9] ?_
      | refine aw_sregK 18 [1, 3, 7, 8, 9, 11] ?_
      | refine aw_regK 18 [1, 3, 7, 8, 9, 11] ?_
      | refine aw_sregK 19 [1, 3, 7, 8, 9, 11] ?_
      | refine aw_regK 19 [1, 3, 7, 8, 9, 11] ?_
      | refine aw_sregK 20 [1, 3, 7, 8, 9, 11] ?_
      | refine aw_regK 20 [1, 3, 7, 8, 9, 11] ?_
      | refine aw_sregK 21 [] ?_
      | refine aw_regK 21 [] ?_
      | refine aw_sregK 22 [1, 3, 7, 8, 9] ?_
      | refine aw_regK 22 [1, 3, 7, 8, 9] ?_
      | refine aw_sregK 23 [1, 3, 7, 8, 9, 12] ?_
      | refine aw_regK 23 [1, 3, 7, 8, 9, 12] ?_
      | refine aw_sregK 24 [1, 3, 7, 8, 9, 12] ?_
      | refine aw_regK 24 [1, 3, 7, 8, 9, 12] ?_
      | refine aw_sregK 25 [1, 3, 7, 8, 9, 12] ?_
      | refine aw_regK 25 [1, 3, 7, 8, 9, 12] ?_
      | refine aw_sregK 26 [] ?_
      | refine aw_regK 26 [] ?_
      | refine aw_sregK 27 [3] ?_
      | refine aw_regK 27 [3] ?_
      | refine aw_sreg ?_
      | refine aw_sregD mixed ?_
      | refine aw_ifT (b := true) rfl rfl ?_
      | refine aw_ifF (b := false) rfl rfl ?_
      | refine aw_ifT rfl (by assumption) ?_
      | refine aw_ifF rfl (by assumption) ?_
      | refine aw_ifT rfl (decide_eq_true (by assumption)) ?_
      | refine aw_ifF rfl (decide_eq_false (by assumption)) ?_
      | refine aw_seq ?_
      | refine aw_block ?_
      | refine aw_skip ?_
      | refine aw_region ?_
      | refine aw_region_draw mixed ?_
      | refine aw_exit ?_
      | refine rq_exit ?_
      | refine blockQ_hit ?_
      | refine blockQ_miss (by decide) ?_
      | (refine ar_guard rfl rfl rfl rfl (fun h => ?_) (fun h => ?_) <;> (fail_if_success (cases h; done)) <;> (try simp at h) <;> (try subst h))
      | (refine aw_both rfl (fun h => ?_) (fun h => ?_) <;> (fail_if_success (cases h; done)) <;> (try simp at h) <;> (try subst h)))
  have hf := fewB_iff.1 hfb
  have hl : i.length ≤ maxLen := Nat.le_trans hf.1 (by simp [maxLen])
  have hC := c_Check (i := i) (t := t) hl
  cases h : okTest i t
  · have hz : ¬(checkF i t).2.2 = 0 := by simpa [okTest] using h
    refine scx_of Try.func17 rfl rfl rfl (Nat.le_of_ble_eq_true rfl) ?_
    repeat' (first
      | exact aw_ret (ret_vals (by simp; exact rfl) (by simp [*]; fail_if_success (show _)))
      | exact aw_ret (ret_vals (by simp; exact rfl) (by simp [*]; omega))
      | refine ar_end rfl ?_
      | refine ar_endD rfl (by kernel_rfl) ?_
      | refine ar_fin rfl ?_
      | refine ar_finD rfl (by kernel_rfl) ?_
      | refine ar_callV Try.call53 c_shown2 rfl rfl rfl rfl rfl (by simp; done) (by rfl) (by simp; done) ?_
      | refine ar_callV_if Try.call53 c_shown2 rfl rfl rfl rfl rfl rfl (by simp; done) rfl (by rfl) (by simp; done) ?_
      | refine ar_callV Try.call54 c_Few rfl rfl rfl rfl rfl (by simp; done) (by rfl) (by simp; done) ?_
      | refine ar_callV_if Try.call54 c_Few rfl rfl rfl rfl rfl rfl (by simp; done) rfl (by rfl) (by simp; done) ?_
      | refine ar_callV Try.call55 hC rfl rfl rfl rfl rfl (by simp; done) (by rfl) (by simp; done) ?_
      | refine ar_callV_if Try.call55 hC rfl rfl rfl rfl rfl rfl (by simp; done) rfl (by rfl) (by simp; done) ?_
      | refine ar_go3 _ rfl (by simp [hfb, hz]; exact ⟨rfl, rfl, rfl⟩) rfl ?_
      | refine aw_sregK 0 [0] ?_
      | refine aw_regK 0 [0] ?_
      | refine aw_sregK 1 [1] ?_
      | refine aw_regK 1 [1] ?_
      | refine aw_sregK 2 [1, 3] ?_
      | refine aw_regK 2 [1, 3] ?_
      | refine aw_sregK 3 [3] ?_
      | refine aw_regK 3 [3] ?_
      | refine aw_sregK 4 [1, 3] ?_
      | refine aw_regK 4 [1, 3] ?_
      | refine aw_sregK 5 [1, 3, 6] ?_
      | refine aw_regK 5 [1, 3, 6] ?_
      | refine aw_sregK 6 [3] ?_
      | refine aw_regK 6 [3] ?_
      | refine aw_sregK 7 [1, 3] ?_
      | refine aw_regK 7 [1, 3] ?_
      | refine aw_sregK 8 [1, 3, 7] ?_
      | refine aw_regK 8 [1, 3, 7] ?_
      | refine aw_sregK 9 [1, 3, 7, 8] ?_
      | refine aw_regK 9 [1, 3, 7, 8] ?_
      | refine aw_sregK 10 [] ?_
      | refine aw_regK 10 [] ?_
      | refine aw_sregK 11 [1, 3, 7, 8] ?_
      | refine aw_regK 11 [1, 3, 7, 8] ?_
      | refine aw_sregK 12 [1, 3, 7, 8, 9] ?_
      | refine aw_regK 12 [1, 3, 7, 8, 9] ?_
      | refine aw_sregK 13 [1, 3, 7, 8, 9] ?_
      | refine aw_regK 13 [1, 3, 7, 8, 9] ?_
      | refine aw_sregK 14 [1, 3, 7, 8, 9] ?_
      | refine aw_regK 14 [1, 3, 7, 8, 9] ?_
      | refine aw_sregK 15 [1, 3, 7, 8, 9, 10] ?_
      | refine aw_regK 15 [1, 3, 7, 8, 9, 10] ?_
      | refine aw_sregK 16 [] ?_
      | refine aw_regK 16 [] ?_
      | refine aw_sregK 17 [1, 3, 7, 8, 9] ?_
      | refine aw_regK 17 [1, 3, 7, 8, 9] ?_
      | refine aw_sregK 18 [1, 3, 7, 8, 9, 11] ?_
      | refine aw_regK 18 [1, 3, 7, 8, 9, 11] ?_
      | refine aw_sregK 19 [1, 3, 7, 8, 9, 11] ?_
      | refine aw_regK 19 [1, 3, 7, 8, 9, 11] ?_
      | refine aw_sregK 20 [1, 3, 7, 8, 9, 11] ?_
      | refine aw_regK 20 [1, 3, 7, 8, 9, 11] ?_
      | refine aw_sregK 21 [] ?_
      | refine aw_regK 21 [] ?_
      | refine aw_sregK 22 [1, 3, 7, 8, 9] ?_
      | refine aw_regK 22 [1, 3, 7, 8, 9] ?_
      | refine aw_sregK 23 [1, 3, 7, 8, 9, 12] ?_
      | refine aw_regK 23 [1, 3, 7, 8, 9, 12] ?_
      | refine aw_sregK 24 [1, 3, 7, 8, 9, 12] ?_
      | refine aw_regK 24 [1, 3, 7, 8, 9, 12] ?_
      | refine aw_sregK 25 [1, 3, 7, 8, 9, 12] ?_
      | refine aw_regK 25 [1, 3, 7, 8, 9, 12] ?_
      | refine aw_sregK 26 [] ?_
      | refine aw_regK 26 [] ?_
      | refine aw_sregK 27 [3] ?_
      | refine aw_regK 27 [3] ?_
      | refine aw_sreg ?_
      | refine aw_sregD mixed ?_
      | refine aw_ifT (b := true) rfl rfl ?_
      | refine aw_ifF (b := false) rfl rfl ?_
      | refine aw_ifT rfl (by assumption) ?_
      | refine aw_ifF rfl (by assumption) ?_
      | refine aw_ifT rfl (decide_eq_true (by assumption)) ?_
      | refine aw_ifF rfl (decide_eq_false (by assumption)) ?_
      | refine aw_seq ?_
      | refine aw_block ?_
      | refine aw_skip ?_
      | refine aw_region ?_
      | refine aw_region_draw mixed ?_
      | refine aw_exit ?_
      | refine rq_exit ?_
      | refine blockQ_hit ?_
      | refine blockQ_miss (by decide) ?_
      | (refine ar_guard rfl rfl rfl rfl (fun h => ?_) (fun h => ?_) <;> (fail_if_success (cases h; done)) <;> (try simp at h) <;> (try subst h))
      | (refine aw_both rfl (fun h => ?_) (fun h => ?_) <;> (fail_if_success (cases h; done)) <;> (try simp at h) <;> (try subst h)))
  have hz : (checkF i t).2.2 = 0 := by simpa [okTest] using h
  have hB := c_Bare (i := i) (t := t) hl
  have hF := c_Fenced (i := i) (t := t) hl
  rw [h, if_pos rfl] at hB hF
  have hbl : (bareT t).length = t.length := by simp [bareT]
  have hgl : (fencedT t).length = t.length := by simp [fencedT, bareT]
  refine scx_of Try.func17 rfl rfl rfl (Nat.le_of_ble_eq_true rfl) ?_
  repeat' (first
    | exact aw_ret (ret_vals (by simp; exact rfl) (by simp [*]; fail_if_success (show _)))
    | exact aw_ret (ret_vals (by simp; exact rfl) (by simp [*]; omega))
    | refine ar_end rfl ?_
    | refine ar_endD rfl (by kernel_rfl) ?_
    | refine ar_fin rfl ?_
    | refine ar_finD rfl (by kernel_rfl) ?_
    | refine ar_callV Try.call53 c_shown2 rfl rfl rfl rfl rfl (by simp; done) (by rfl) (by simp; done) ?_
    | refine ar_callV_if Try.call53 c_shown2 rfl rfl rfl rfl rfl rfl (by simp; done) rfl (by rfl) (by simp; done) ?_
    | refine ar_callV Try.call54 c_Few rfl rfl rfl rfl rfl (by simp; done) (by rfl) (by simp; done) ?_
    | refine ar_callV_if Try.call54 c_Few rfl rfl rfl rfl rfl rfl (by simp; done) rfl (by rfl) (by simp; done) ?_
    | refine ar_callV Try.call55 hC rfl rfl rfl rfl rfl (by simp; done) (by rfl) (by simp; done) ?_
    | refine ar_callV_if Try.call55 hC rfl rfl rfl rfl rfl rfl (by simp; done) rfl (by rfl) (by simp; done) ?_
    | refine ar_callV Try.call59 hB rfl rfl rfl rfl rfl (by simp; done) (by rfl) (by simp; done) ?_
    | refine ar_callV_if Try.call59 hB rfl rfl rfl rfl rfl rfl (by simp; done) rfl (by rfl) (by simp; done) ?_
    | refine ar_callV Try.call60 hF rfl rfl rfl rfl rfl (by simp; done) (by rfl) (by simp; done) ?_
    | refine ar_callV_if Try.call60 hF rfl rfl rfl rfl rfl rfl (by simp; done) rfl (by rfl) (by simp; done) ?_
    | refine ar_go3 _ rfl (by simp [hfb, hz, insL_len, thsL_len, insL_getE, thsL_getE, inL, ints_len, hbl, hgl]; exact ⟨rfl, rfl, rfl⟩) rfl ?_
    | refine aw_sregK 0 [0] ?_
    | refine aw_regK 0 [0] ?_
    | refine aw_sregK 1 [1] ?_
    | refine aw_regK 1 [1] ?_
    | refine aw_sregK 2 [1, 3] ?_
    | refine aw_regK 2 [1, 3] ?_
    | refine aw_sregK 3 [3] ?_
    | refine aw_regK 3 [3] ?_
    | refine aw_sregK 4 [1, 3] ?_
    | refine aw_regK 4 [1, 3] ?_
    | refine aw_sregK 5 [1, 3, 6] ?_
    | refine aw_regK 5 [1, 3, 6] ?_
    | refine aw_sregK 6 [3] ?_
    | refine aw_regK 6 [3] ?_
    | refine aw_sregK 7 [1, 3] ?_
    | refine aw_regK 7 [1, 3] ?_
    | refine aw_sregK 8 [1, 3, 7] ?_
    | refine aw_regK 8 [1, 3, 7] ?_
    | refine aw_sregK 9 [1, 3, 7, 8] ?_
    | refine aw_regK 9 [1, 3, 7, 8] ?_
    | refine aw_sregK 10 [] ?_
    | refine aw_regK 10 [] ?_
    | refine aw_sregK 11 [1, 3, 7, 8] ?_
    | refine aw_regK 11 [1, 3, 7, 8] ?_
    | refine aw_sregK 12 [1, 3, 7, 8, 9] ?_
    | refine aw_regK 12 [1, 3, 7, 8, 9] ?_
    | refine aw_sregK 13 [1, 3, 7, 8, 9] ?_
    | refine aw_regK 13 [1, 3, 7, 8, 9] ?_
    | refine aw_sregK 14 [1, 3, 7, 8, 9] ?_
    | refine aw_regK 14 [1, 3, 7, 8, 9] ?_
    | refine aw_sregK 15 [1, 3, 7, 8, 9, 10] ?_
    | refine aw_regK 15 [1, 3, 7, 8, 9, 10] ?_
    | refine aw_sregK 16 [] ?_
    | refine aw_regK 16 [] ?_
    | refine aw_sregK 17 [1, 3, 7, 8, 9] ?_
    | refine aw_regK 17 [1, 3, 7, 8, 9] ?_
    | refine aw_sregK 18 [1, 3, 7, 8, 9, 11] ?_
    | refine aw_regK 18 [1, 3, 7, 8, 9, 11] ?_
    | refine aw_sregK 19 [1, 3, 7, 8, 9, 11] ?_
    | refine aw_regK 19 [1, 3, 7, 8, 9, 11] ?_
    | refine aw_sregK 20 [1, 3, 7, 8, 9, 11] ?_
    | refine aw_regK 20 [1, 3, 7, 8, 9, 11] ?_
    | refine aw_sregK 21 [] ?_
    | refine aw_regK 21 [] ?_
    | refine aw_sregK 22 [1, 3, 7, 8, 9] ?_
    | refine aw_regK 22 [1, 3, 7, 8, 9] ?_
    | refine aw_sregK 23 [1, 3, 7, 8, 9, 12] ?_
    | refine aw_regK 23 [1, 3, 7, 8, 9, 12] ?_
    | refine aw_sregK 24 [1, 3, 7, 8, 9, 12] ?_
    | refine aw_regK 24 [1, 3, 7, 8, 9, 12] ?_
    | refine aw_sregK 25 [1, 3, 7, 8, 9, 12] ?_
    | refine aw_regK 25 [1, 3, 7, 8, 9, 12] ?_
    | refine aw_sregK 26 [] ?_
    | refine aw_regK 26 [] ?_
    | refine aw_sregK 27 [3] ?_
    | refine aw_regK 27 [3] ?_
    | refine aw_sreg ?_
    | refine aw_sregD mixed ?_
    | refine aw_ifT (b := true) rfl rfl ?_
    | refine aw_ifF (b := false) rfl rfl ?_
    | refine aw_ifT rfl (by assumption) ?_
    | refine aw_ifF rfl (by assumption) ?_
    | refine aw_ifT rfl (decide_eq_true (by assumption)) ?_
    | refine aw_ifF rfl (decide_eq_false (by assumption)) ?_
    | refine aw_seq ?_
    | refine aw_block ?_
    | refine aw_skip ?_
    | refine aw_region ?_
    | refine aw_region_draw mixed ?_
    | refine aw_exit ?_
    | refine rq_exit ?_
    | refine blockQ_hit ?_
    | refine blockQ_miss (by decide) ?_
    | (refine ar_guard rfl rfl rfl rfl (fun h => ?_) (fun h => ?_) <;> (fail_if_success (cases h; done)) <;> (try simp at h) <;> (try subst h))
    | (refine aw_both rfl (fun h => ?_) (fun h => ?_) <;> (fail_if_success (cases h; done)) <;> (try simp at h) <;> (try subst h)))
  refine aw_loopN [1, 3, 7, 8, 9] [.loc 1, .loc 7, .loc 8] (by simp; exact rfl) (ι := {n : Nat // n ≤ t.length}) (fun n => ⟨157, [(1, .ptr (.loc 1) 0), (3, B true), (7, .ptr (.loc 7) 0), (8, .ptr (.loc 8) 0), (9, I .i64 n.1)], [(.loc 1, some (.box 55 [.pv (.sl 1 (ints i)), .pv (.sl 1 (thsL t))])), (.loc 7, some (.box 55 [.pv (.sl 1 (ints i)), .pv (.sl 1 (thsL (bareT t)))])), (.loc 8, some (.box 55 [.pv (.sl 1 (ints i)), .pv (.sl 1 (thsL (fencedT t)))]))]⟩) (fun n => t.length - n.1) ⟨0, by omega⟩ (by simp) ?_
  rintro ⟨n, hn⟩
  by_cases hlt : n < t.length
  · have hc : (n : Int) < (t.length : Int) := by omega
    have htl := hf.2.1
    have hw3 : IntKind.wrap .i64 ((n : Int) + 1) = (n : Int) + 1 := wrap64s (by omega) (by omega)
    have hb1 : n < (bareT t).length := by omega
    have hg1 : n < (fencedT t).length := by omega
    obtain ⟨a1, a2, nb, f1, l1, l2, l3⟩ := keeps h hlt hb1 hg1
    have hwt := (hw.2 _ (List.getElem_mem hlt)).2
    generalize hth : t[n] = th at a1 a2 l1 hwt
    generalize hbh : (bareT t)[n] = bh at a1 nb l2
    generalize hgh : (fencedT t)[n] = gh at a2 f1 l3
    have hA1 := c_accesses (l := th) (by omega)
    have hA2 := c_accesses (l := bh) (by omega)
    have hA3 := c_accesses (l := gh) (by omega)
    rw [a1] at hA2
    rw [a2] at hA3
    have hacl : (accF th).length ≤ maxLen := by have := accF_len th th.length; rw [List.take_length] at this; simp [maxLen]; omega
    have hS : SC Try.prog 61 [.agg [.v (.slice none 0 0), .sl 1 [[.sl 6 (insL (accF th))]]], .agg [.v (.slice none 0 0), .sl 1 [[.sl 6 (insL (accF th))]]]] (B true) :=
      noInit2 (t := [accF th]) (c_Same (i := []) (t := [accF th]) (by simp) ⟨by simp [maxLen], by simpa using ⟨hacl, wf_acc hwt⟩⟩)
    repeat' (first
      | exact aw_ret (ret_vals (by simp; exact rfl) (by simp [*]; fail_if_success (show _)))
      | exact aw_ret (ret_vals (by simp; exact rfl) (by simp [*]; omega))
      | refine ar_end rfl ?_
      | refine ar_endD rfl (by kernel_rfl) ?_
      | refine ar_fin rfl ?_
      | refine ar_finD rfl (by kernel_rfl) ?_
      | refine ar_callV Try.call64 hA1 rfl rfl rfl rfl rfl (by simp; done) (by rfl) (by simp; done) ?_
      | refine ar_callV_if Try.call64 hA1 rfl rfl rfl rfl rfl rfl (by simp; done) rfl (by rfl) (by simp; done) ?_
      | refine ar_callV Try.call64 hA2 rfl rfl rfl rfl rfl (by simp; done) (by rfl) (by simp; done) ?_
      | refine ar_callV_if Try.call64 hA2 rfl rfl rfl rfl rfl rfl (by simp; done) rfl (by rfl) (by simp; done) ?_
      | refine ar_callV Try.call64 hA3 rfl rfl rfl rfl rfl (by simp; done) (by rfl) (by simp; done) ?_
      | refine ar_callV_if Try.call64 hA3 rfl rfl rfl rfl rfl rfl (by simp; done) rfl (by rfl) (by simp; done) ?_
      | refine ar_callV Try.call61 hS rfl rfl rfl rfl rfl (by simp; done) (by rfl) (by simp; done) ?_
      | refine ar_callV_if Try.call61 hS rfl rfl rfl rfl rfl rfl (by simp; done) rfl (by rfl) (by simp; done) ?_
      | refine aw_frz (.loc 60) (by simp; exact rfl) (aw_sregK 15 [1, 3, 7, 8, 9, 10] ?_)
      | refine ar_frz rfl rfl (by simp; exact rfl) rfl (by simp; fail_if_success (show _)) (by simp; exact rfl) (by simp; exact rfl) rfl (by simp; fail_if_success (show _)) ?_
      | refine ar_frz_if rfl rfl rfl rfl (by simp; exact rfl) rfl (by simp; fail_if_success (show _)) (by simp; exact rfl) (by simp; exact rfl) rfl (by simp; fail_if_success (show _)) ?_
      | refine ar_go3 _ rfl (by simp [insL_len, thsL_len, insL_getE, thsL_getE, inL, ints_len, hlt, hc, hb1, hg1, hth, hbh, hgh]; exact ⟨rfl, rfl, rfl⟩) rfl ?_
      | refine aw_sregK 0 [0] ?_
      | refine aw_regK 0 [0] ?_
      | refine aw_sregK 1 [1] ?_
      | refine aw_regK 1 [1] ?_
      | refine aw_sregK 2 [1, 3] ?_
      | refine aw_regK 2 [1, 3] ?_
      | refine aw_sregK 3 [3] ?_
      | refine aw_regK 3 [3] ?_
      | refine aw_sregK 4 [1, 3] ?_
      | refine aw_regK 4 [1, 3] ?_
      | refine aw_sregK 5 [1, 3, 6] ?_
      | refine aw_regK 5 [1, 3, 6] ?_
      | refine aw_sregK 6 [3] ?_
      | refine aw_regK 6 [3] ?_
      | refine aw_sregK 7 [1, 3] ?_
      | refine aw_regK 7 [1, 3] ?_
      | refine aw_sregK 8 [1, 3, 7] ?_
      | refine aw_regK 8 [1, 3, 7] ?_
      | refine aw_sregK 9 [1, 3, 7, 8] ?_
      | refine aw_regK 9 [1, 3, 7, 8] ?_
      | refine aw_sregK 10 [] ?_
      | refine aw_regK 10 [] ?_
      | refine aw_sregK 11 [1, 3, 7, 8] ?_
      | refine aw_regK 11 [1, 3, 7, 8] ?_
      | refine aw_sregK 12 [1, 3, 7, 8, 9] ?_
      | refine aw_regK 12 [1, 3, 7, 8, 9] ?_
      | refine aw_sregK 13 [1, 3, 7, 8, 9] ?_
      | refine aw_regK 13 [1, 3, 7, 8, 9] ?_
      | refine aw_sregK 14 [1, 3, 7, 8, 9] ?_
      | refine aw_regK 14 [1, 3, 7, 8, 9] ?_
      | refine aw_sregK 15 [1, 3, 7, 8, 9, 10] ?_
      | refine aw_regK 15 [1, 3, 7, 8, 9, 10] ?_
      | refine aw_sregK 16 [] ?_
      | refine aw_regK 16 [] ?_
      | refine aw_sregK 17 [1, 3, 7, 8, 9] ?_
      | refine aw_regK 17 [1, 3, 7, 8, 9] ?_
      | refine aw_sregK 18 [1, 3, 7, 8, 9, 11] ?_
      | refine aw_regK 18 [1, 3, 7, 8, 9, 11] ?_
      | refine aw_sregK 19 [1, 3, 7, 8, 9, 11] ?_
      | refine aw_regK 19 [1, 3, 7, 8, 9, 11] ?_
      | refine aw_sregK 20 [1, 3, 7, 8, 9, 11] ?_
      | refine aw_regK 20 [1, 3, 7, 8, 9, 11] ?_
      | refine aw_sregK 21 [] ?_
      | refine aw_regK 21 [] ?_
      | refine aw_sregK 22 [1, 3, 7, 8, 9] ?_
      | refine aw_regK 22 [1, 3, 7, 8, 9] ?_
      | refine aw_sregK 23 [1, 3, 7, 8, 9, 12] ?_
      | refine aw_regK 23 [1, 3, 7, 8, 9, 12] ?_
      | refine aw_sregK 24 [1, 3, 7, 8, 9, 12] ?_
      | refine aw_regK 24 [1, 3, 7, 8, 9, 12] ?_
      | refine aw_sregK 25 [1, 3, 7, 8, 9, 12] ?_
      | refine aw_regK 25 [1, 3, 7, 8, 9, 12] ?_
      | refine aw_sregK 26 [] ?_
      | refine aw_regK 26 [] ?_
      | refine aw_sregK 27 [3] ?_
      | refine aw_regK 27 [3] ?_
      | refine aw_sreg ?_
      | refine aw_sregD mixed ?_
      | refine aw_ifT (b := true) rfl rfl ?_
      | refine aw_ifF (b := false) rfl rfl ?_
      | refine aw_ifT rfl (by assumption) ?_
      | refine aw_ifF rfl (by assumption) ?_
      | refine aw_ifT rfl (decide_eq_true (by assumption)) ?_
      | refine aw_ifF rfl (decide_eq_false (by assumption)) ?_
      | refine aw_seq ?_
      | refine aw_block ?_
      | refine aw_skip ?_
      | refine aw_region ?_
      | refine aw_region_draw mixed ?_
      | refine aw_exit ?_
      | refine rq_exit ?_
      | refine blockQ_hit ?_
      | refine blockQ_miss (by decide) ?_
      | (refine ar_guard rfl rfl rfl rfl (fun h => ?_) (fun h => ?_) <;> (fail_if_success (cases h; done)) <;> (try simp at h) <;> (try subst h))
      | (refine aw_both rfl (fun h => ?_) (fun h => ?_) <;> (fail_if_success (cases h; done)) <;> (try simp at h) <;> (try subst h)))
    refine aw_loopN [1, 3, 7, 8, 9, 11] [.loc 1, .loc 7, .loc 8] (by simp; exact rfl) (ι := {k : Nat // k ≤ bh.length}) (fun k => ⟨157, [(1, .ptr (.loc 1) 0), (3, B true), (7, .ptr (.loc 7) 0), (8, .ptr (.loc 8) 0), (9, I .i64 n), (11, I .i64 k.1)], [(.loc 1, some (.box 55 [.pv (.sl 1 (ints i)), .pv (.sl 1 (thsL t))])), (.loc 7, some (.box 55 [.pv (.sl 1 (ints i)), .pv (.sl 1 (thsL (bareT t)))])), (.loc 8, some (.box 55 [.pv (.sl 1 (ints i)), .pv (.sl 1 (thsL (fencedT t)))]))]⟩) (fun k => bh.length - k.1) ⟨0, by omega⟩ (by simp) ?_
    rintro ⟨k, hk⟩
    by_cases hkl : k < bh.length
    · have hkd : (k : Int) < (bh.length : Int) := by omega
      have w4 : IntKind.wrap .i64 ((k : Int) + 1) = (k : Int) + 1 := wrap64s (by omega) (by omega)
      have hy := nb _ (List.getElem_mem hkl)
      generalize hye : bh[k] = y at hy
      have y11 : ¬y.op = 11 := by intro e; rw [e] at hy; simp [barF] at hy
      have y12 : ¬y.op = 12 := by intro e; rw [e] at hy; simp [barF] at hy
      repeat' (first
        | refine ar_end rfl ?_
        | refine ar_endD rfl (by kernel_rfl) ?_
        | refine ar_fin rfl ?_
        | refine ar_finD rfl (by kernel_rfl) ?_
        | refine lq_normN [1, 3, 7, 8, 9, 11] [.loc 1, .loc 7, .loc 8] (by simp; exact rfl) ⟨k + 1, by omega⟩ (by dsimp only; omega) (by simp)
        | refine ar_go3 _ rfl (by simp [insL_len, thsL_len, insL_getE, thsL_getE, inL, ints_len, hlt, hb1, hbh, hkl, hkd, hye, y11, y12, w4]; exact ⟨rfl, rfl, rfl⟩) rfl ?_
        | refine aw_sregK 0 [0] ?_
        | refine aw_regK 0 [0] ?_
        | refine aw_sregK 1 [1] ?_
        | refine aw_regK 1 [1] ?_
        | refine aw_sregK 2 [1, 3] ?_
        | refine aw_regK 2 [1, 3] ?_
        | refine aw_sregK 3 [3] ?_
        | refine aw_regK 3 [3] ?_
        | refine aw_sregK 4 [1, 3] ?_
        | refine aw_regK 4 [1, 3] ?_
        | refine aw_sregK 5 [1, 3, 6] ?_
        | refine aw_regK 5 [1, 3, 6] ?_
        | refine aw_sregK 6 [3] ?_
        | refine aw_regK 6 [3] ?_
        | refine aw_sregK 7 [1, 3] ?_
        | refine aw_regK 7 [1, 3] ?_
        | refine aw_sregK 8 [1, 3, 7] ?_
        | refine aw_regK 8 [1, 3, 7] ?_
        | refine aw_sregK 9 [1, 3, 7, 8] ?_
        | refine aw_regK 9 [1, 3, 7, 8] ?_
        | refine aw_sregK 10 [] ?_
        | refine aw_regK 10 [] ?_
        | refine aw_sregK 11 [1, 3, 7, 8] ?_
        | refine aw_regK 11 [1, 3, 7, 8] ?_
        | refine aw_sregK 12 [1, 3, 7, 8, 9] ?_
        | refine aw_regK 12 [1, 3, 7, 8, 9] ?_
        | refine aw_sregK 13 [1, 3, 7, 8, 9] ?_
        | refine aw_regK 13 [1, 3, 7, 8, 9] ?_
        | refine aw_sregK 14 [1, 3, 7, 8, 9] ?_
        | refine aw_regK 14 [1, 3, 7, 8, 9] ?_
        | refine aw_sregK 15 [1, 3, 7, 8, 9, 10] ?_
        | refine aw_regK 15 [1, 3, 7, 8, 9, 10] ?_
        | refine aw_sregK 16 [] ?_
        | refine aw_regK 16 [] ?_
        | refine aw_sregK 17 [1, 3, 7, 8, 9] ?_
        | refine aw_regK 17 [1, 3, 7, 8, 9] ?_
        | refine aw_sregK 18 [1, 3, 7, 8, 9, 11] ?_
        | refine aw_regK 18 [1, 3, 7, 8, 9, 11] ?_
        | refine aw_sregK 19 [1, 3, 7, 8, 9, 11] ?_
        | refine aw_regK 19 [1, 3, 7, 8, 9, 11] ?_
        | refine aw_sregK 20 [1, 3, 7, 8, 9, 11] ?_
        | refine aw_regK 20 [1, 3, 7, 8, 9, 11] ?_
        | refine aw_sregK 21 [] ?_
        | refine aw_regK 21 [] ?_
        | refine aw_sregK 22 [1, 3, 7, 8, 9] ?_
        | refine aw_regK 22 [1, 3, 7, 8, 9] ?_
        | refine aw_sregK 23 [1, 3, 7, 8, 9, 12] ?_
        | refine aw_regK 23 [1, 3, 7, 8, 9, 12] ?_
        | refine aw_sregK 24 [1, 3, 7, 8, 9, 12] ?_
        | refine aw_regK 24 [1, 3, 7, 8, 9, 12] ?_
        | refine aw_sregK 25 [1, 3, 7, 8, 9, 12] ?_
        | refine aw_regK 25 [1, 3, 7, 8, 9, 12] ?_
        | refine aw_sregK 26 [] ?_
        | refine aw_regK 26 [] ?_
        | refine aw_sregK 27 [3] ?_
        | refine aw_regK 27 [3] ?_
        | refine aw_sreg ?_
        | refine aw_sregD mixed ?_
        | refine aw_ifT (b := true) rfl rfl ?_
        | refine aw_ifF (b := false) rfl rfl ?_
        | refine aw_ifT rfl (by assumption) ?_
        | refine aw_ifF rfl (by assumption) ?_
        | refine aw_ifT rfl (decide_eq_true (by assumption)) ?_
        | refine aw_ifF rfl (decide_eq_false (by assumption)) ?_
        | refine aw_seq ?_
        | refine aw_block ?_
        | refine aw_skip ?_
        | refine aw_region ?_
        | refine aw_region_draw mixed ?_
        | refine aw_exit ?_
        | refine rq_exit ?_
        | refine blockQ_hit ?_
        | refine blockQ_miss (by decide) ?_
        | (refine ar_guard rfl rfl rfl rfl (fun h => ?_) (fun h => ?_) <;> (fail_if_success (cases h; done)) <;> (try simp at h) <;> (try subst h))
        | (refine aw_both rfl (fun h => ?_) (fun h => ?_) <;> (fail_if_success (cases h; done)) <;> (try simp at h) <;> (try subst h)))
    have hkd : ¬(k : Int) < (bh.length : Int) := by omega
    repeat' (first
      | refine ar_end rfl ?_
      | refine ar_endD rfl (by kernel_rfl) ?_
      | refine ar_fin rfl ?_
      | refine ar_finD rfl (by kernel_rfl) ?_
      | refine lq_exit ?_
      | refine ar_go3 _ rfl (by simp [insL_len, thsL_len, insL_getE, thsL_getE, inL, ints_len, hb1, hbh, hkd]; exact ⟨rfl, rfl, rfl⟩) rfl ?_
      | refine aw_sregK 0 [0] ?_
      | refine aw_regK 0 [0] ?_
      | refine aw_sregK 1 [1] ?_
      | refine aw_regK 1 [1] ?_
      | refine aw_sregK 2 [1, 3] ?_
      | refine aw_regK 2 [1, 3] ?_
      | refine aw_sregK 3 [3] ?_
      | refine aw_regK 3 [3] ?_
      | refine aw_sregK 4 [1, 3] ?_
      | refine aw_regK 4 [1, 3] ?_
      | refine aw_sregK 5 [1, 3, 6] ?_
      | refine aw_regK 5 [1, 3, 6] ?_
      | refine aw_sregK 6 [3] ?_
      | refine aw_regK 6 [3] ?_
      | refine aw_sregK 7 [1, 3] ?_
      | refine aw_regK 7 [1, 3] ?_
      | refine aw_sregK 8 [1, 3, 7] ?_
      | refine aw_regK 8 [1, 3, 7] ?_
      | refine aw_sregK 9 [1, 3, 7, 8] ?_
      | refine aw_regK 9 [1, 3, 7, 8] ?_
      | refine aw_sregK 10 [] ?_
      | refine aw_regK 10 [] ?_
      | refine aw_sregK 11 [1, 3, 7, 8] ?_
      | refine aw_regK 11 [1, 3, 7, 8] ?_
      | refine aw_sregK 12 [1, 3, 7, 8, 9] ?_
      | refine aw_regK 12 [1, 3, 7, 8, 9] ?_
      | refine aw_sregK 13 [1, 3, 7, 8, 9] ?_
      | refine aw_regK 13 [1, 3, 7, 8, 9] ?_
      | refine aw_sregK 14 [1, 3, 7, 8, 9] ?_
      | refine aw_regK 14 [1, 3, 7, 8, 9] ?_
      | refine aw_sregK 15 [1, 3, 7, 8, 9, 10] ?_
      | refine aw_regK 15 [1, 3, 7, 8, 9, 10] ?_
      | refine aw_sregK 16 [] ?_
      | refine aw_regK 16 [] ?_
      | refine aw_sregK 17 [1, 3, 7, 8, 9] ?_
      | refine aw_regK 17 [1, 3, 7, 8, 9] ?_
      | refine aw_sregK 18 [1, 3, 7, 8, 9, 11] ?_
      | refine aw_regK 18 [1, 3, 7, 8, 9, 11] ?_
      | refine aw_sregK 19 [1, 3, 7, 8, 9, 11] ?_
      | refine aw_regK 19 [1, 3, 7, 8, 9, 11] ?_
      | refine aw_sregK 20 [1, 3, 7, 8, 9, 11] ?_
      | refine aw_regK 20 [1, 3, 7, 8, 9, 11] ?_
      | refine aw_sregK 21 [] ?_
      | refine aw_regK 21 [] ?_
      | refine aw_sregK 22 [1, 3, 7, 8, 9] ?_
      | refine aw_regK 22 [1, 3, 7, 8, 9] ?_
      | refine aw_sregK 23 [1, 3, 7, 8, 9, 12] ?_
      | refine aw_regK 23 [1, 3, 7, 8, 9, 12] ?_
      | refine aw_sregK 24 [1, 3, 7, 8, 9, 12] ?_
      | refine aw_regK 24 [1, 3, 7, 8, 9, 12] ?_
      | refine aw_sregK 25 [1, 3, 7, 8, 9, 12] ?_
      | refine aw_regK 25 [1, 3, 7, 8, 9, 12] ?_
      | refine aw_sregK 26 [] ?_
      | refine aw_regK 26 [] ?_
      | refine aw_sregK 27 [3] ?_
      | refine aw_regK 27 [3] ?_
      | refine aw_sreg ?_
      | refine aw_sregD mixed ?_
      | refine aw_ifT (b := true) rfl rfl ?_
      | refine aw_ifF (b := false) rfl rfl ?_
      | refine aw_ifT rfl (by assumption) ?_
      | refine aw_ifF rfl (by assumption) ?_
      | refine aw_ifT rfl (decide_eq_true (by assumption)) ?_
      | refine aw_ifF rfl (decide_eq_false (by assumption)) ?_
      | refine aw_seq ?_
      | refine aw_block ?_
      | refine aw_skip ?_
      | refine aw_region ?_
      | refine aw_region_draw mixed ?_
      | refine aw_exit ?_
      | refine rq_exit ?_
      | refine blockQ_hit ?_
      | refine blockQ_miss (by decide) ?_
      | (refine ar_guard rfl rfl rfl rfl (fun h => ?_) (fun h => ?_) <;> (fail_if_success (cases h; done)) <;> (try simp at h) <;> (try subst h))
      | (refine aw_both rfl (fun h => ?_) (fun h => ?_) <;> (fail_if_success (cases h; done)) <;> (try simp at h) <;> (try subst h)))
    refine aw_loopN [1, 3, 7, 8, 9, 12] [.loc 1, .loc 7, .loc 8] (by simp; exact rfl) (ι := {k : Nat // k ≤ gh.length}) (fun k => ⟨157, [(1, .ptr (.loc 1) 0), (3, B true), (7, .ptr (.loc 7) 0), (8, .ptr (.loc 8) 0), (9, I .i64 n), (12, I .i64 k.1)], [(.loc 1, some (.box 55 [.pv (.sl 1 (ints i)), .pv (.sl 1 (thsL t))])), (.loc 7, some (.box 55 [.pv (.sl 1 (ints i)), .pv (.sl 1 (thsL (bareT t)))])), (.loc 8, some (.box 55 [.pv (.sl 1 (ints i)), .pv (.sl 1 (thsL (fencedT t)))]))]⟩) (fun k => gh.length - k.1) ⟨0, by omega⟩ (by simp) ?_
    rintro ⟨k, hk⟩
    by_cases hkl : k < gh.length
    · have hkd : (k : Int) < (gh.length : Int) := by omega
      have w4 : IntKind.wrap .i64 ((k : Int) + 1) = (k : Int) + 1 := wrap64s (by omega) (by omega)
      cases hyl : hasL (gh[k]).op
      · generalize hye : gh[k] = y at hyl
        repeat' (first
          | refine ar_end rfl ?_
          | refine ar_endD rfl (by kernel_rfl) ?_
          | refine ar_fin rfl ?_
          | refine ar_finD rfl (by kernel_rfl) ?_
          | refine ar_callV Try.call45 c_refKind rfl rfl rfl rfl rfl (by simp; done) (by rfl) (by simp; done) ?_
          | refine ar_callV_if Try.call45 c_refKind rfl rfl rfl rfl rfl rfl (by simp; done) rfl (by rfl) (by simp; done) ?_
          | refine lq_normN [1, 3, 7, 8, 9, 12] [.loc 1, .loc 7, .loc 8] (by simp; exact rfl) ⟨k + 1, by omega⟩ (by dsimp only; omega) (by simp)
          | refine ar_go3 _ rfl (by simp [insL_len, thsL_len, insL_getE, thsL_getE, inL, ints_len, hlt, hg1, hgh, hkl, hkd, hye, kindP, hyl, w4]; exact ⟨rfl, rfl, rfl⟩) rfl ?_
          | refine aw_sregK 0 [0] ?_
          | refine aw_regK 0 [0] ?_
          | refine aw_sregK 1 [1] ?_
          | refine aw_regK 1 [1] ?_
          | refine aw_sregK 2 [1, 3] ?_
          | refine aw_regK 2 [1, 3] ?_
          | refine aw_sregK 3 [3] ?_
          | refine aw_regK 3 [3] ?_
          | refine aw_sregK 4 [1, 3] ?_
          | refine aw_regK 4 [1, 3] ?_
          | refine aw_sregK 5 [1, 3, 6] ?_
          | refine aw_regK 5 [1, 3, 6] ?_
          | refine aw_sregK 6 [3] ?_
          | refine aw_regK 6 [3] ?_
          | refine aw_sregK 7 [1, 3] ?_
          | refine aw_regK 7 [1, 3] ?_
          | refine aw_sregK 8 [1, 3, 7] ?_
          | refine aw_regK 8 [1, 3, 7] ?_
          | refine aw_sregK 9 [1, 3, 7, 8] ?_
          | refine aw_regK 9 [1, 3, 7, 8] ?_
          | refine aw_sregK 10 [] ?_
          | refine aw_regK 10 [] ?_
          | refine aw_sregK 11 [1, 3, 7, 8] ?_
          | refine aw_regK 11 [1, 3, 7, 8] ?_
          | refine aw_sregK 12 [1, 3, 7, 8, 9] ?_
          | refine aw_regK 12 [1, 3, 7, 8, 9] ?_
          | refine aw_sregK 13 [1, 3, 7, 8, 9] ?_
          | refine aw_regK 13 [1, 3, 7, 8, 9] ?_
          | refine aw_sregK 14 [1, 3, 7, 8, 9] ?_
          | refine aw_regK 14 [1, 3, 7, 8, 9] ?_
          | refine aw_sregK 15 [1, 3, 7, 8, 9, 10] ?_
          | refine aw_regK 15 [1, 3, 7, 8, 9, 10] ?_
          | refine aw_sregK 16 [] ?_
          | refine aw_regK 16 [] ?_
          | refine aw_sregK 17 [1, 3, 7, 8, 9] ?_
          | refine aw_regK 17 [1, 3, 7, 8, 9] ?_
          | refine aw_sregK 18 [1, 3, 7, 8, 9, 11] ?_
          | refine aw_regK 18 [1, 3, 7, 8, 9, 11] ?_
          | refine aw_sregK 19 [1, 3, 7, 8, 9, 11] ?_
          | refine aw_regK 19 [1, 3, 7, 8, 9, 11] ?_
          | refine aw_sregK 20 [1, 3, 7, 8, 9, 11] ?_
          | refine aw_regK 20 [1, 3, 7, 8, 9, 11] ?_
          | refine aw_sregK 21 [] ?_
          | refine aw_regK 21 [] ?_
          | refine aw_sregK 22 [1, 3, 7, 8, 9] ?_
          | refine aw_regK 22 [1, 3, 7, 8, 9] ?_
          | refine aw_sregK 23 [1, 3, 7, 8, 9, 12] ?_
          | refine aw_regK 23 [1, 3, 7, 8, 9, 12] ?_
          | refine aw_sregK 24 [1, 3, 7, 8, 9, 12] ?_
          | refine aw_regK 24 [1, 3, 7, 8, 9, 12] ?_
          | refine aw_sregK 25 [1, 3, 7, 8, 9, 12] ?_
          | refine aw_regK 25 [1, 3, 7, 8, 9, 12] ?_
          | refine aw_sregK 26 [] ?_
          | refine aw_regK 26 [] ?_
          | refine aw_sregK 27 [3] ?_
          | refine aw_regK 27 [3] ?_
          | refine aw_sreg ?_
          | refine aw_sregD mixed ?_
          | refine aw_ifT (b := true) rfl rfl ?_
          | refine aw_ifF (b := false) rfl rfl ?_
          | refine aw_ifT rfl (by assumption) ?_
          | refine aw_ifF rfl (by assumption) ?_
          | refine aw_ifT rfl (decide_eq_true (by assumption)) ?_
          | refine aw_ifF rfl (decide_eq_false (by assumption)) ?_
          | refine aw_seq ?_
          | refine aw_block ?_
          | refine aw_skip ?_
          | refine aw_region ?_
          | refine aw_region_draw mixed ?_
          | refine aw_exit ?_
          | refine rq_exit ?_
          | refine blockQ_hit ?_
          | refine blockQ_miss (by decide) ?_
          | (refine ar_guard rfl rfl rfl rfl (fun h => ?_) (fun h => ?_) <;> (fail_if_success (cases h; done)) <;> (try simp at h) <;> (try subst h))
          | (refine aw_both rfl (fun h => ?_) (fun h => ?_) <;> (fail_if_success (cases h; done)) <;> (try simp at h) <;> (try subst h)))
      · obtain ⟨k0, k1⟩ := f1 k hkl hyl
        generalize hye : gh[k] = y at hyl
        obtain ⟨p, rfl⟩ : ∃ p, k = p + 1 := ⟨k - 1, by omega⟩
        have hpl : p < gh.length := by omega
        have k1' : (gh[p]).op = 11 := k1
        have hk0 : ¬(p : Int) + 1 = 0 := by omega
        have w5 : IntKind.wrap .i64 (p : Int) = (p : Int) := wrap64s (by omega) (by omega)
        have t5 : ((p : Int) + 1).toNat = p + 1 := by omega
        have p5 : 0 ≤ (p : Int) + 1 := by omega
        have hkd' : (p : Int) + 1 < (gh.length : Int) := by omega
        have w4' : IntKind.wrap .i64 ((p : Int) + 1 + 1) = (p : Int) + 1 + 1 := wrap64s (by omega) (by omega)
        repeat' (first
          | refine ar_end rfl ?_
          | refine ar_endD rfl (by kernel_rfl) ?_
          | refine ar_fin rfl ?_
          | refine ar_finD rfl (by kernel_rfl) ?_
          | refine ar_callV Try.call45 c_refKind rfl rfl rfl rfl rfl (by simp; done) (by rfl) (by simp; done) ?_
          | refine ar_callV_if Try.call45 c_refKind rfl rfl rfl rfl rfl rfl (by simp; done) rfl (by rfl) (by simp; done) ?_
          | refine lq_normN [1, 3, 7, 8, 9, 12] [.loc 1, .loc 7, .loc 8] (by simp; exact rfl) ⟨p + 1 + 1, by omega⟩ (by dsimp only; omega) (by simp)
          | refine ar_go3 _ rfl (by simp [insL_len, thsL_len, insL_getE, thsL_getE, inL, ints_len, hlt, hg1, hgh, hkl, hpl, hkd', hye, kindP, hyl, w4', w5, t5, p5, hk0, k1']; exact ⟨rfl, rfl, rfl⟩) rfl ?_
          | refine aw_sregK 0 [0] ?_
          | refine aw_regK 0 [0] ?_
          | refine aw_sregK 1 [1] ?_
          | refine aw_regK 1 [1] ?_
          | refine aw_sregK 2 [1, 3] ?_
          | refine aw_regK 2 [1, 3] ?_
          | refine aw_sregK 3 [3] ?_
          | refine aw_regK 3 [3] ?_
          | refine aw_sregK 4 [1, 3] ?_
          | refine aw_regK 4 [1, 3] ?_
          | refine aw_sregK 5 [1, 3, 6] ?_
          | refine aw_regK 5 [1, 3, 6] ?_
          | refine aw_sregK 6 [3] ?_
          | refine aw_regK 6 [3] ?_
          | refine aw_sregK 7 [1, 3] ?_
          | refine aw_regK 7 [1, 3] ?_
          | refine aw_sregK 8 [1, 3, 7] ?_
          | refine aw_regK 8 [1, 3, 7] ?_
          | refine aw_sregK 9 [1, 3, 7, 8] ?_
          | refine aw_regK 9 [1, 3, 7, 8] ?_
          | refine aw_sregK 10 [] ?_
          | refine aw_regK 10 [] ?_
          | refine aw_sregK 11 [1, 3, 7, 8] ?_
          | refine aw_regK 11 [1, 3, 7, 8] ?_
          | refine aw_sregK 12 [1, 3, 7, 8, 9] ?_
          | refine aw_regK 12 [1, 3, 7, 8, 9] ?_
          | refine aw_sregK 13 [1, 3, 7, 8, 9] ?_
          | refine aw_regK 13 [1, 3, 7, 8, 9] ?_
          | refine aw_sregK 14 [1, 3, 7, 8, 9] ?_
          | refine aw_regK 14 [1, 3, 7, 8, 9] ?_
          | refine aw_sregK 15 [1, 3, 7, 8, 9, 10] ?_
          | refine aw_regK 15 [1, 3, 7, 8, 9, 10] ?_
          | refine aw_sregK 16 [] ?_
          | refine aw_regK 16 [] ?_
          | refine aw_sregK 17 [1, 3, 7, 8, 9] ?_
          | refine aw_regK 17 [1, 3, 7, 8, 9] ?_
          | refine aw_sregK 18 [1, 3, 7, 8, 9, 11] ?_
          | refine aw_regK 18 [1, 3, 7, 8, 9, 11] ?_
          | refine aw_sregK 19 [1, 3, 7, 8, 9, 11] ?_
          | refine aw_regK 19 [1, 3, 7, 8, 9, 11] ?_
          | refine aw_sregK 20 [1, 3, 7, 8, 9, 11] ?_
          | refine aw_regK 20 [1, 3, 7, 8, 9, 11] ?_
          | refine aw_sregK 21 [] ?_
          | refine aw_regK 21 [] ?_
          | refine aw_sregK 22 [1, 3, 7, 8, 9] ?_
          | refine aw_regK 22 [1, 3, 7, 8, 9] ?_
          | refine aw_sregK 23 [1, 3, 7, 8, 9, 12] ?_
          | refine aw_regK 23 [1, 3, 7, 8, 9, 12] ?_
          | refine aw_sregK 24 [1, 3, 7, 8, 9, 12] ?_
          | refine aw_regK 24 [1, 3, 7, 8, 9, 12] ?_
          | refine aw_sregK 25 [1, 3, 7, 8, 9, 12] ?_
          | refine aw_regK 25 [1, 3, 7, 8, 9, 12] ?_
          | refine aw_sregK 26 [] ?_
          | refine aw_regK 26 [] ?_
          | refine aw_sregK 27 [3] ?_
          | refine aw_regK 27 [3] ?_
          | refine aw_sreg ?_
          | refine aw_sregD mixed ?_
          | refine aw_ifT (b := true) rfl rfl ?_
          | refine aw_ifF (b := false) rfl rfl ?_
          | refine aw_ifT rfl (by assumption) ?_
          | refine aw_ifF rfl (by assumption) ?_
          | refine aw_ifT rfl (decide_eq_true (by assumption)) ?_
          | refine aw_ifF rfl (decide_eq_false (by assumption)) ?_
          | refine aw_seq ?_
          | refine aw_block ?_
          | refine aw_skip ?_
          | refine aw_region ?_
          | refine aw_region_draw mixed ?_
          | refine aw_exit ?_
          | refine rq_exit ?_
          | refine blockQ_hit ?_
          | refine blockQ_miss (by decide) ?_
          | (refine ar_guard rfl rfl rfl rfl (fun h => ?_) (fun h => ?_) <;> (fail_if_success (cases h; done)) <;> (try simp at h) <;> (try subst h))
          | (refine aw_both rfl (fun h => ?_) (fun h => ?_) <;> (fail_if_success (cases h; done)) <;> (try simp at h) <;> (try subst h)))
    have hkd : ¬(k : Int) < (gh.length : Int) := by omega
    repeat' (first
      | refine ar_end rfl ?_
      | refine ar_endD rfl (by kernel_rfl) ?_
      | refine ar_fin rfl ?_
      | refine ar_finD rfl (by kernel_rfl) ?_
      | refine lq_exit ?_
      | refine lq_normN [1, 3, 7, 8, 9] [.loc 1, .loc 7, .loc 8] (by simp; exact rfl) ⟨n + 1, by omega⟩ (by dsimp only; omega) (by simp)
      | refine ar_go3 _ rfl (by simp [insL_len, thsL_len, insL_getE, thsL_getE, inL, ints_len, hg1, hgh, hkd, hw3]; exact ⟨rfl, rfl, rfl⟩) rfl ?_
      | refine aw_sregK 0 [0] ?_
      | refine aw_regK 0 [0] ?_
      | refine aw_sregK 1 [1] ?_
      | refine aw_regK 1 [1] ?_
      | refine aw_sregK 2 [1, 3] ?_
      | refine aw_regK 2 [1, 3] ?_
      | refine aw_sregK 3 [3] ?_
      | refine aw_regK 3 [3] ?_
      | refine aw_sregK 4 [1, 3] ?_
      | refine aw_regK 4 [1, 3] ?_
      | refine aw_sregK 5 [1, 3, 6] ?_
      | refine aw_regK 5 [1, 3, 6] ?_
      | refine aw_sregK 6 [3] ?_
      | refine aw_regK 6 [3] ?_
      | refine aw_sregK 7 [1, 3] ?_
      | refine aw_regK 7 [1, 3] ?_
      | refine aw_sregK 8 [1, 3, 7] ?_
      | refine aw_regK 8 [1, 3, 7] ?_
      | refine aw_sregK 9 [1, 3, 7, 8] ?_
      | refine aw_regK 9 [1, 3, 7, 8] ?_
      | refine aw_sregK 10 [] ?_
      | refine aw_regK 10 [] ?_
      | refine aw_sregK 11 [1, 3, 7, 8] ?_
      | refine aw_regK 11 [1, 3, 7, 8] ?_
      | refine aw_sregK 12 [1, 3, 7, 8, 9] ?_
      | refine aw_regK 12 [1, 3, 7, 8, 9] ?_
      | refine aw_sregK 13 [1, 3, 7, 8, 9] ?_
      | refine aw_regK 13 [1, 3, 7, 8, 9] ?_
      | refine aw_sregK 14 [1, 3, 7, 8, 9] ?_
      | refine aw_regK 14 [1, 3, 7, 8, 9] ?_
      | refine aw_sregK 15 [1, 3, 7, 8, 9, 10] ?_
      | refine aw_regK 15 [1, 3, 7, 8, 9, 10] ?_
      | refine aw_sregK 16 [] ?_
      | refine aw_regK 16 [] ?_
      | refine aw_sregK 17 [1, 3, 7, 8, 9] ?_
      | refine aw_regK 17 [1, 3, 7, 8, 9] ?_
      | refine aw_sregK 18 [1, 3, 7, 8, 9, 11] ?_
      | refine aw_regK 18 [1, 3, 7, 8, 9, 11] ?_
      | refine aw_sregK 19 [1, 3, 7, 8, 9, 11] ?_
      | refine aw_regK 19 [1, 3, 7, 8, 9, 11] ?_
      | refine aw_sregK 20 [1, 3, 7, 8, 9, 11] ?_
      | refine aw_regK 20 [1, 3, 7, 8, 9, 11] ?_
      | refine aw_sregK 21 [] ?_
      | refine aw_regK 21 [] ?_
      | refine aw_sregK 22 [1, 3, 7, 8, 9] ?_
      | refine aw_regK 22 [1, 3, 7, 8, 9] ?_
      | refine aw_sregK 23 [1, 3, 7, 8, 9, 12] ?_
      | refine aw_regK 23 [1, 3, 7, 8, 9, 12] ?_
      | refine aw_sregK 24 [1, 3, 7, 8, 9, 12] ?_
      | refine aw_regK 24 [1, 3, 7, 8, 9, 12] ?_
      | refine aw_sregK 25 [1, 3, 7, 8, 9, 12] ?_
      | refine aw_regK 25 [1, 3, 7, 8, 9, 12] ?_
      | refine aw_sregK 26 [] ?_
      | refine aw_regK 26 [] ?_
      | refine aw_sregK 27 [3] ?_
      | refine aw_regK 27 [3] ?_
      | refine aw_sreg ?_
      | refine aw_sregD mixed ?_
      | refine aw_ifT (b := true) rfl rfl ?_
      | refine aw_ifF (b := false) rfl rfl ?_
      | refine aw_ifT rfl (by assumption) ?_
      | refine aw_ifF rfl (by assumption) ?_
      | refine aw_ifT rfl (decide_eq_true (by assumption)) ?_
      | refine aw_ifF rfl (decide_eq_false (by assumption)) ?_
      | refine aw_seq ?_
      | refine aw_block ?_
      | refine aw_skip ?_
      | refine aw_region ?_
      | refine aw_region_draw mixed ?_
      | refine aw_exit ?_
      | refine rq_exit ?_
      | refine blockQ_hit ?_
      | refine blockQ_miss (by decide) ?_
      | (refine ar_guard rfl rfl rfl rfl (fun h => ?_) (fun h => ?_) <;> (fail_if_success (cases h; done)) <;> (try simp at h) <;> (try subst h))
      | (refine aw_both rfl (fun h => ?_) (fun h => ?_) <;> (fail_if_success (cases h; done)) <;> (try simp at h) <;> (try subst h)))
  · have hc : ¬(n : Int) < (t.length : Int) := by omega
    repeat' (first
      | exact aw_ret (ret_vals (by simp; exact rfl) (by simp [*]; fail_if_success (show _)))
      | exact aw_ret (ret_vals (by simp; exact rfl) (by simp [*]; omega))
      | refine ar_end rfl ?_
      | refine ar_endD rfl (by kernel_rfl) ?_
      | refine ar_fin rfl ?_
      | refine ar_finD rfl (by kernel_rfl) ?_
      | refine lq_exit ?_
      | refine ar_go3 _ rfl (by simp [insL_len, thsL_len, insL_getE, thsL_getE, inL, ints_len, hc]; exact ⟨rfl, rfl, rfl⟩) rfl ?_
      | refine aw_sregK 0 [0] ?_
      | refine aw_regK 0 [0] ?_
      | refine aw_sregK 1 [1] ?_
      | refine aw_regK 1 [1] ?_
      | refine aw_sregK 2 [1, 3] ?_
      | refine aw_regK 2 [1, 3] ?_
      | refine aw_sregK 3 [3] ?_
      | refine aw_regK 3 [3] ?_
      | refine aw_sregK 4 [1, 3] ?_
      | refine aw_regK 4 [1, 3] ?_
      | refine aw_sregK 5 [1, 3, 6] ?_
      | refine aw_regK 5 [1, 3, 6] ?_
      | refine aw_sregK 6 [3] ?_
      | refine aw_regK 6 [3] ?_
      | refine aw_sregK 7 [1, 3] ?_
      | refine aw_regK 7 [1, 3] ?_
      | refine aw_sregK 8 [1, 3, 7] ?_
      | refine aw_regK 8 [1, 3, 7] ?_
      | refine aw_sregK 9 [1, 3, 7, 8] ?_
      | refine aw_regK 9 [1, 3, 7, 8] ?_
      | refine aw_sregK 10 [] ?_
      | refine aw_regK 10 [] ?_
      | refine aw_sregK 11 [1, 3, 7, 8] ?_
      | refine aw_regK 11 [1, 3, 7, 8] ?_
      | refine aw_sregK 12 [1, 3, 7, 8, 9] ?_
      | refine aw_regK 12 [1, 3, 7, 8, 9] ?_
      | refine aw_sregK 13 [1, 3, 7, 8, 9] ?_
      | refine aw_regK 13 [1, 3, 7, 8, 9] ?_
      | refine aw_sregK 14 [1, 3, 7, 8, 9] ?_
      | refine aw_regK 14 [1, 3, 7, 8, 9] ?_
      | refine aw_sregK 15 [1, 3, 7, 8, 9, 10] ?_
      | refine aw_regK 15 [1, 3, 7, 8, 9, 10] ?_
      | refine aw_sregK 16 [] ?_
      | refine aw_regK 16 [] ?_
      | refine aw_sregK 17 [1, 3, 7, 8, 9] ?_
      | refine aw_regK 17 [1, 3, 7, 8, 9] ?_
      | refine aw_sregK 18 [1, 3, 7, 8, 9, 11] ?_
      | refine aw_regK 18 [1, 3, 7, 8, 9, 11] ?_
      | refine aw_sregK 19 [1, 3, 7, 8, 9, 11] ?_
      | refine aw_regK 19 [1, 3, 7, 8, 9, 11] ?_
      | refine aw_sregK 20 [1, 3, 7, 8, 9, 11] ?_
      | refine aw_regK 20 [1, 3, 7, 8, 9, 11] ?_
      | refine aw_sregK 21 [] ?_
      | refine aw_regK 21 [] ?_
      | refine aw_sregK 22 [1, 3, 7, 8, 9] ?_
      | refine aw_regK 22 [1, 3, 7, 8, 9] ?_
      | refine aw_sregK 23 [1, 3, 7, 8, 9, 12] ?_
      | refine aw_regK 23 [1, 3, 7, 8, 9, 12] ?_
      | refine aw_sregK 24 [1, 3, 7, 8, 9, 12] ?_
      | refine aw_regK 24 [1, 3, 7, 8, 9, 12] ?_
      | refine aw_sregK 25 [1, 3, 7, 8, 9, 12] ?_
      | refine aw_regK 25 [1, 3, 7, 8, 9, 12] ?_
      | refine aw_sregK 26 [] ?_
      | refine aw_regK 26 [] ?_
      | refine aw_sregK 27 [3] ?_
      | refine aw_regK 27 [3] ?_
      | refine aw_sreg ?_
      | refine aw_sregD mixed ?_
      | refine aw_ifT (b := true) rfl rfl ?_
      | refine aw_ifF (b := false) rfl rfl ?_
      | refine aw_ifT rfl (by assumption) ?_
      | refine aw_ifF rfl (by assumption) ?_
      | refine aw_ifT rfl (decide_eq_true (by assumption)) ?_
      | refine aw_ifF rfl (decide_eq_false (by assumption)) ?_
      | refine aw_seq ?_
      | refine aw_block ?_
      | refine aw_skip ?_
      | refine aw_region ?_
      | refine aw_region_draw mixed ?_
      | refine aw_exit ?_
      | refine rq_exit ?_
      | refine blockQ_hit ?_
      | refine blockQ_miss (by decide) ?_
      | (refine ar_guard rfl rfl rfl rfl (fun h => ?_) (fun h => ?_) <;> (fail_if_success (cases h; done)) <;> (try simp at h) <;> (try subst h))
      | (refine aw_both rfl (fun h => ?_) (fun h => ?_) <;> (fail_if_success (cases h; done)) <;> (try simp at h) <;> (try subst h)))
end Go.Eng
