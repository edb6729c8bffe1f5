import Derived.Test.YtamjcdfjkekdjaaRefFenced
set_option linter.unusedSimpArgs false
set_option linter.unusedVariables false
set_option linter.constructorNameAsVariable false
set_option autoImplicit false
namespace Go.Eng
open Go Go.RowKit Go.Proofs
theorem wf_setM {x : In} (h : wfIn x) {n : Int} (hn : 0 ≤ n ∧ n ≤ 1000) : wfIn (setM x n) := ⟨h.1, h.2.1, h.2.2.1, h.2.2.2.1, h.2.2.2.2.1, wf_small hn⟩
theorem wf_dmb : wfIn dmb := by unfold wfIn dmb; decide
theorem turnL_wf {T : In → List In} (hT : ∀ x, wfIn x → ∀ y ∈ T x, wfIn y) (h2 : ∀ x, (T x).length ≤ 2) : ∀ l : List In, l.length ≤ 80 → (∀ x ∈ l, wfIn x) → ∀ y ∈ turnL T l, wfIn y
  | [], _, _, y, hy => by cases hy
  | x :: l, hl, hx, y, hy => by
    simp only [List.length_cons] at hl
    simp only [turnL, List.mem_append] at hy
    rcases hy with hy | hy
    · unfold oneF at hy
      split at hy
      · rw [List.mem_singleton.1 hy]
        refine wf_setM (hx x (by simp)) ?_
        have h1 := cntF_bnd h2 (l.take x.m.toNat)
        have h3 : ((l.take x.m.toNat).length : Int) ≤ 80 := by rw [List.length_take]; omega
        omega
      · exact hT x (hx x (by simp)) y hy
    · exact turnL_wf hT h2 l (by omega) (fun z hz => hx z (by simp [hz])) y hy
theorem bare_wf (x : In) (h : wfIn x) : ∀ y ∈ bareF x, wfIn y := by
  intro y hy
  unfold bareF at hy
  cases hb : barF x.op <;> rw [hb] at hy <;> simp at hy
  rw [hy]; exact h
theorem fenced_wf (x : In) (h : wfIn x) : ∀ y ∈ fencedF x, wfIn y := by
  intro y hy
  unfold fencedF at hy
  cases hb : hasL x.op <;> rw [hb] at hy <;> simp at hy
  · rw [hy]; exact h
  · rcases hy with rfl | rfl
    · exact wf_dmb
    · exact h
theorem fenced_len {l : List In} : (turnL fencedF l).length ≤ 2 * l.length := by
  have h1 := turnL_len fenced_br l
  have h2 := cntF_bnd fenced_2 l
  omega
theorem wfT_bare {i : List Int} {t : List (List In)} (h : okTest i t = true) (hw : WfT t) : WfT (bareT t) := by
  have hf := ok_facts h
  refine ⟨by simp [bareT, hw.1], fun th hth => ?_⟩
  obtain ⟨s, hs, rfl⟩ := List.mem_map.1 hth
  have h8 := (hf.2.2.2.2 s hs).1
  have hb := bare_len s
  refine ⟨by simp [maxLen]; omega, turnL_wf bare_wf bare_2 s (by omega) (hw.2 s hs).2⟩
theorem wfT_fenced {i : List Int} {t : List (List In)} (h : okTest i t = true) (hw : WfT t) : WfT (fencedT t) := by
  have hf := ok_facts h
  have hb := wfT_bare h hw
  refine ⟨by simp [fencedT, bareT, hw.1], fun th hth => ?_⟩
  obtain ⟨s, hs, rfl⟩ := List.mem_map.1 hth
  obtain ⟨s0, hs0, rfl⟩ := List.mem_map.1 hs
  have h8 := (hf.2.2.2.2 s0 hs0).1
  have hb2 := bare_len s0
  have hb3 := fenced_len (l := turnL bareF s0)
  refine ⟨by simp [maxLen]; omega, turnL_wf fenced_wf fenced_2 _ (by omega) (hb.2 _ hs).2⟩
set_option maxHeartbeats 16000000 in
theorem c_refBareOk {i : List Int} {t : List (List In)} (h : okTest i t = true) : SC Try.prog 62 [.agg (testL i t)] (.agg (testL i (bareT t))) := by
  have hf := ok_facts h
  exact c_refBare (by omega) (fun th hth => by have := (hf.2.2.2.2 th hth).1; omega) (fun th hth => (hf.2.2.2.2 th hth).2.ok)
set_option maxHeartbeats 16000000 in
theorem c_refFencedOk {i : List Int} {t : List (List In)} (h : okTest i t = true) : SC Try.prog 63 [.agg (testL i t)] (.agg (testL i (fencedT t))) := by
  have hf := ok_facts h
  refine c_refFenced (c_refBareOk h) (by simp [bareT]; omega) (fun th hth => ?_) (fun th hth => ?_)
  · obtain ⟨s, hs, rfl⟩ := List.mem_map.1 hth
    have := (hf.2.2.2.2 s hs).1
    have := bare_len s
    omega
  · obtain ⟨s, hs, rfl⟩ := List.mem_map.1 hth
    exact (BraR.turn bare_br bare_nb s).ok
set_option maxHeartbeats 16000000 in
theorem law_TestTurns {i : List Int} {t : List (List In)} (hw : WfT t) : SC Try.prog 16 [.agg (testL i t)] (B true) := by
  cases hfb : fewB i t
  · refine scx_of Try.func16 rfl rfl rfl (Nat.le_of_ble_eq_true rfl) ?_
    repeat' (first
      | exact aw_ret (ret_vals (by simp; exact rfl) (by simp [*]; fail_if_success (show _)))
      | exact aw_ret (ret_vals (by simp; exact rfl) (by simp [*]; omega))
      | refine ar_end rfl ?_
      | refine ar_endD rfl (by kernel_rfl) ?_
      | refine ar_fin rfl ?_
      | refine ar_finD rfl (by kernel_rfl) ?_
      | refine ar_callV Try.call53 c_shown2 rfl rfl rfl rfl rfl (by simp; done) (by rfl) (by simp; done) ?_
      | refine ar_callV_if Try.call53 c_shown2 rfl rfl rfl rfl rfl rfl (by simp; done) rfl (by rfl) (by simp; done) ?_
      | refine ar_callV Try.call54 c_Few rfl rfl rfl rfl rfl (by simp; done) (by rfl) (by simp; done) ?_
      | refine ar_callV_if Try.call54 c_Few rfl rfl rfl rfl rfl rfl (by simp; done) rfl (by rfl) (by simp; done) ?_
      | refine ar_go3 _ rfl (by simp [hfb]; exact ⟨rfl, rfl, rfl⟩) rfl ?_
      | refine aw_sregK 0 [0] ?_
      | refine aw_regK 0 [0] ?_
      | refine aw_sregK 1 [1] ?_
      | refine aw_regK 1 [1] ?_
      | refine aw_sregK 2 [1, 3] ?_
      | refine aw_regK 2 [1, 3] ?_
      | refine aw_sregK 3 [3] ?_
      | refine aw_regK 3 [3] ?_
      | refine aw_sregK 4 [1, 3] ?_
      | refine aw_regK 4 [1, 3] ?_
      | refine aw_sregK 5 [1, 3, 4] ?_
      | refine aw_regK 5 [1, 3, 4] ?_
      | refine aw_sregK 6 [1, 3, 4, 5] ?_
      | refine aw_regK 6 [1, 3, 4, 5] ?_
      | refine aw_sregK 7 [1, 3, 4, 5, 8] ?_
      | refine aw_regK 7 [1, 3, 4, 5, 8] ?_
      | refine aw_sregK 8 [1, 3, 4, 5] ?_
      | refine aw_regK 8 [1, 3, 4, 5] ?_
      | refine aw_sregKD mixed 9 [1, 3, 4, 5] (by simp; exact rfl) ?_
      | refine aw_regKD mixed 9 [1, 3, 4, 5] (by simp; exact rfl) ?_
      | refine aw_sreg ?_
      | refine aw_sregD mixed ?_
      | refine aw_ifT (b := true) rfl rfl ?_
      | refine aw_ifF (b := false) rfl rfl ?_
      | refine aw_ifT rfl (by assumption) ?_
      | refine aw_ifF rfl (by assumption) ?_
      | refine aw_ifT rfl (decide_eq_true (by assumption)) ?_
      | refine aw_ifF rfl (decide_eq_false (by assumption)) ?_
      | refine aw_seq ?_
      | refine aw_block ?_
      | refine aw_skip ?_
      | refine aw_region ?_
      | refine aw_region_draw mixed ?_
      | refine aw_exit ?_
      | refine rq_exit ?_
      | refine blockQ_hit ?_
      | refine blockQ_miss (by decide) ?_
      | (refine ar_guard rfl rfl rfl rfl (fun h => ?_) (fun h => ?_) <;> (fail_if_success (cases h; done)) <;> (try simp at h) <;> (try subst h))
      | (refine aw_both rfl (fun h => ?_) (fun h => ?_) <;> (fail_if_success (cases h; done)) <;> (try simp at h) <;> (try subst h)))
  · have hf := fewB_iff.1 hfb
    have hl : i.length ≤ maxLen := Nat.le_trans hf.1 (by simp [maxLen])
    have hB := c_Bare (i := i) (t := t) hl
    have hF := c_Fenced (i := i) (t := t) hl
    cases h : okTest i t
    · rw [h] at hB hF
      simp only [Bool.false_eq_true, if_false] at hB hF
      have hz : ¬(checkF i t).2.2 = 0 := by simpa [okTest] using h
      have hS := c_Same hl hw
      refine scx_of Try.func16 rfl rfl rfl (Nat.le_of_ble_eq_true rfl) ?_
      repeat' (first
        | exact aw_ret (ret_vals (by simp; exact rfl) (by simp [*]; fail_if_success (show _)))
        | exact aw_ret (ret_vals (by simp; exact rfl) (by simp [*]; omega))
        | refine ar_end rfl ?_
        | refine ar_endD rfl (by kernel_rfl) ?_
        | refine ar_fin rfl ?_
        | refine ar_finD rfl (by kernel_rfl) ?_
        | refine ar_callV Try.call53 c_shown2 rfl rfl rfl rfl rfl (by simp; done) (by rfl) (by simp; done) ?_
        | refine ar_callV_if Try.call53 c_shown2 rfl rfl rfl rfl rfl rfl (by simp; done) rfl (by rfl) (by simp; done) ?_
        | refine ar_callV Try.call54 c_Few rfl rfl rfl rfl rfl (by simp; done) (by rfl) (by simp; done) ?_
        | refine ar_callV_if Try.call54 c_Few rfl rfl rfl rfl rfl rfl (by simp; done) rfl (by rfl) (by simp; done) ?_
        | refine ar_callV Try.call59 hB rfl rfl rfl rfl rfl (by simp; done) (by rfl) (by simp; done) ?_
        | refine ar_callV_if Try.call59 hB rfl rfl rfl rfl rfl rfl (by simp; done) rfl (by rfl) (by simp; done) ?_
        | refine ar_callV Try.call60 hF rfl rfl rfl rfl rfl (by simp; done) (by rfl) (by simp; done) ?_
        | refine ar_callV_if Try.call60 hF rfl rfl rfl rfl rfl rfl (by simp; done) rfl (by rfl) (by simp; done) ?_
        | refine ar_callV Try.call56 c_refCheck rfl rfl rfl rfl rfl (by simp; done) (by rfl) (by simp; done) ?_
        | refine ar_callV_if Try.call56 c_refCheck rfl rfl rfl rfl rfl rfl (by simp; done) rfl (by rfl) (by simp; done) ?_
        | refine ar_callV Try.call61 hS rfl rfl rfl rfl rfl (by simp; done) (by rfl) (by simp; done) ?_
        | refine ar_callV_if Try.call61 hS rfl rfl rfl rfl rfl rfl (by simp; done) rfl (by rfl) (by simp; done) ?_
        | refine ar_go3 _ rfl (by simp [hfb, hz]; exact ⟨rfl, rfl, rfl⟩) rfl ?_
        | refine aw_sregK 0 [0] ?_
        | refine aw_regK 0 [0] ?_
        | refine aw_sregK 1 [1] ?_
        | refine aw_regK 1 [1] ?_
        | refine aw_sregK 2 [1, 3] ?_
        | refine aw_regK 2 [1, 3] ?_
        | refine aw_sregK 3 [3] ?_
        | refine aw_regK 3 [3] ?_
        | refine aw_sregK 4 [1, 3] ?_
        | refine aw_regK 4 [1, 3] ?_
        | refine aw_sregK 5 [1, 3, 4] ?_
        | refine aw_regK 5 [1, 3, 4] ?_
        | refine aw_sregK 6 [1, 3, 4, 5] ?_
        | refine aw_regK 6 [1, 3, 4, 5] ?_
        | refine aw_sregK 7 [1, 3, 4, 5, 8] ?_
        | refine aw_regK 7 [1, 3, 4, 5, 8] ?_
        | refine aw_sregK 8 [1, 3, 4, 5] ?_
        | refine aw_regK 8 [1, 3, 4, 5] ?_
        | refine aw_sregKD mixed 9 [1, 3, 4, 5] (by simp; exact rfl) ?_
        | refine aw_regKD mixed 9 [1, 3, 4, 5] (by simp; exact rfl) ?_
        | refine aw_sreg ?_
        | refine aw_sregD mixed ?_
        | refine aw_ifT (b := true) rfl rfl ?_
        | refine aw_ifF (b := false) rfl rfl ?_
        | refine aw_ifT rfl (by assumption) ?_
        | refine aw_ifF rfl (by assumption) ?_
        | refine aw_ifT rfl (decide_eq_true (by assumption)) ?_
        | refine aw_ifF rfl (decide_eq_false (by assumption)) ?_
        | refine aw_seq ?_
        | refine aw_block ?_
        | refine aw_skip ?_
        | refine aw_region ?_
        | refine aw_region_draw mixed ?_
        | refine aw_exit ?_
        | refine rq_exit ?_
        | refine blockQ_hit ?_
        | refine blockQ_miss (by decide) ?_
        | (refine ar_guard rfl rfl rfl rfl (fun h => ?_) (fun h => ?_) <;> (fail_if_success (cases h; done)) <;> (try simp at h) <;> (try subst h))
        | (refine aw_both rfl (fun h => ?_) (fun h => ?_) <;> (fail_if_success (cases h; done)) <;> (try simp at h) <;> (try subst h)))
    · rw [h, if_pos rfl] at hB hF
      have hz : (checkF i t).2.2 = 0 := by simpa [okTest] using h
      have hS1 := c_Same hl (wfT_bare h hw)
      have hS2 := c_Same hl (wfT_fenced h hw)
      have hrB := c_refBareOk h
      have hrF := c_refFencedOk h
      refine scx_of Try.func16 rfl rfl rfl (Nat.le_of_ble_eq_true rfl) ?_
      repeat' (first
        | exact aw_ret (ret_vals (by simp; exact rfl) (by simp [*]; fail_if_success (show _)))
        | exact aw_ret (ret_vals (by simp; exact rfl) (by simp [*]; omega))
        | refine ar_end rfl ?_
        | refine ar_endD rfl (by kernel_rfl) ?_
        | refine ar_fin rfl ?_
        | refine ar_finD rfl (by kernel_rfl) ?_
        | refine ar_callV Try.call53 c_shown2 rfl rfl rfl rfl rfl (by simp; done) (by rfl) (by simp; done) ?_
        | refine ar_callV_if Try.call53 c_shown2 rfl rfl rfl rfl rfl rfl (by simp; done) rfl (by rfl) (by simp; done) ?_
        | refine ar_callV Try.call54 c_Few rfl rfl rfl rfl rfl (by simp; done) (by rfl) (by simp; done) ?_
        | refine ar_callV_if Try.call54 c_Few rfl rfl rfl rfl rfl rfl (by simp; done) rfl (by rfl) (by simp; done) ?_
        | refine ar_callV Try.call59 hB rfl rfl rfl rfl rfl (by simp; done) (by rfl) (by simp; done) ?_
        | refine ar_callV_if Try.call59 hB rfl rfl rfl rfl rfl rfl (by simp; done) rfl (by rfl) (by simp; done) ?_
        | refine ar_callV Try.call60 hF rfl rfl rfl rfl rfl (by simp; done) (by rfl) (by simp; done) ?_
        | refine ar_callV_if Try.call60 hF rfl rfl rfl rfl rfl rfl (by simp; done) rfl (by rfl) (by simp; done) ?_
        | refine ar_callV Try.call56 c_refCheck rfl rfl rfl rfl rfl (by simp; done) (by rfl) (by simp; done) ?_
        | refine ar_callV_if Try.call56 c_refCheck rfl rfl rfl rfl rfl rfl (by simp; done) rfl (by rfl) (by simp; done) ?_
        | refine ar_callV Try.call62 hrB rfl rfl rfl rfl rfl (by simp; done) (by rfl) (by simp; done) ?_
        | refine ar_callV_if Try.call62 hrB rfl rfl rfl rfl rfl rfl (by simp; done) rfl (by rfl) (by simp; done) ?_
        | refine ar_callV Try.call63 hrF rfl rfl rfl rfl rfl (by simp; done) (by rfl) (by simp; done) ?_
        | refine ar_callV_if Try.call63 hrF rfl rfl rfl rfl rfl rfl (by simp; done) rfl (by rfl) (by simp; done) ?_
        | refine ar_callV Try.call61 hS1 rfl rfl rfl rfl rfl (by simp; done) (by rfl) (by simp; done) ?_
        | refine ar_callV_if Try.call61 hS1 rfl rfl rfl rfl rfl rfl (by simp; done) rfl (by rfl) (by simp; done) ?_
        | refine ar_callV Try.call61 hS2 rfl rfl rfl rfl rfl (by simp; done) (by rfl) (by simp; done) ?_
        | refine ar_callV_if Try.call61 hS2 rfl rfl rfl rfl rfl rfl (by simp; done) rfl (by rfl) (by simp; done) ?_
        | refine ar_go3 _ rfl (by simp [hfb, hz]; exact ⟨rfl, rfl, rfl⟩) rfl ?_
        | refine aw_sregK 0 [0] ?_
        | refine aw_regK 0 [0] ?_
        | refine aw_sregK 1 [1] ?_
        | refine aw_regK 1 [1] ?_
        | refine aw_sregK 2 [1, 3] ?_
        | refine aw_regK 2 [1, 3] ?_
        | refine aw_sregK 3 [3] ?_
        | refine aw_regK 3 [3] ?_
        | refine aw_sregK 4 [1, 3] ?_
        | refine aw_regK 4 [1, 3] ?_
        | refine aw_sregK 5 [1, 3, 4] ?_
        | refine aw_regK 5 [1, 3, 4] ?_
        | refine aw_sregK 6 [1, 3, 4, 5] ?_
        | refine aw_regK 6 [1, 3, 4, 5] ?_
        | refine aw_sregK 7 [1, 3, 4, 5, 8] ?_
        | refine aw_regK 7 [1, 3, 4, 5, 8] ?_
        | refine aw_sregK 8 [1, 3, 4, 5] ?_
        | refine aw_regK 8 [1, 3, 4, 5] ?_
        | refine aw_sregKD mixed 9 [1, 3, 4, 5] (by simp; exact rfl) ?_
        | refine aw_regKD mixed 9 [1, 3, 4, 5] (by simp; exact rfl) ?_
        | refine aw_sreg ?_
        | refine aw_sregD mixed ?_
        | refine aw_ifT (b := true) rfl rfl ?_
        | refine aw_ifF (b := false) rfl rfl ?_
        | refine aw_ifT rfl (by assumption) ?_
        | refine aw_ifF rfl (by assumption) ?_
        | refine aw_ifT rfl (decide_eq_true (by assumption)) ?_
        | refine aw_ifF rfl (decide_eq_false (by assumption)) ?_
        | refine aw_seq ?_
        | refine aw_block ?_
        | refine aw_skip ?_
        | refine aw_region ?_
        | refine aw_region_draw mixed ?_
        | refine aw_exit ?_
        | refine rq_exit ?_
        | refine blockQ_hit ?_
        | refine blockQ_miss (by decide) ?_
        | (refine ar_guard rfl rfl rfl rfl (fun h => ?_) (fun h => ?_) <;> (fail_if_success (cases h; done)) <;> (try simp at h) <;> (try subst h))
        | (refine aw_both rfl (fun h => ?_) (fun h => ?_) <;> (fail_if_success (cases h; done)) <;> (try simp at h) <;> (try subst h)))
end Go.Eng
