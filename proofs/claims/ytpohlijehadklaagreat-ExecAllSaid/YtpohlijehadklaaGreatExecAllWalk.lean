import Derived.Test.YtpohlijehadklaaGreatZedE
import Derived.Test.YtpohlijehadklaaGreatExecF
import Derived.Test.YtpohlijehadklaaGreatTestB
import Derived.Test.YtpohlijehadklaaGreatFlowD
import Derived.Test.YtpohlijehadklaaGreatEngF
set_option linter.unusedSimpArgs false
set_option linter.unusedVariables false
set_option linter.constructorNameAsVariable false
set_option autoImplicit false
namespace Go.Eng
open Go Go.RowKit Go.Proofs
structure ExSm (e : Ex) : Prop where
  ok : ExOk e
  len : e.es.length ≤ 1000
  ev : ∀ x ∈ e.es, wfE x
  rg : e.rg.length ≤ 1000
  rg1 : ∀ x ∈ e.rg, x.length ≤ 1000
set_option maxHeartbeats 16000000 in
theorem c_Same10 {e : Ex} (h : ExSm e) : SC Tryz.prog 8 [.agg (exA e), .agg (exA e)] (B true) := by
  have hM : maxLen = 9223372036854775807 := rfl
  have he := c_Events (l := e.es) (by have := h.len; omega) h.ev
  have hp := c_same05 h.ok.po
  have ha := c_same05 h.ok.ad
  have hdd := c_same05 h.ok.da
  have hc := c_same05 h.ok.ct
  have hm := c_same05 h.ok.rm
  have hn := c_nums10 h.rg h.rg1
  refine scx_of Tryz.func8 rfl rfl rfl (Nat.le_of_ble_eq_true rfl) ?_
  repeat' (first
    | exact aw_ret (ret_vals (by simp; exact rfl) (by simp [*]; fail_if_success (show _)))
    | exact aw_ret (ret_vals (by simp; exact rfl) (by simp [*]; omega))
    | refine ar_end rfl ?_
    | refine ar_endD rfl (by kernel_rfl) ?_
    | refine ar_fin rfl ?_
    | refine ar_finD rfl (by kernel_rfl) ?_
    | refine ar_callV Tryz.call17 he rfl rfl rfl rfl rfl (by simp; done) (by rfl) (by simp; done) ?_
    | refine ar_callV_if Tryz.call17 he rfl rfl rfl rfl rfl rfl (by simp; done) rfl (by rfl) (by simp; done) ?_
    | refine ar_callV Tryz.call18 hp rfl rfl rfl rfl rfl (by simp; done) (by rfl) (by simp; done) ?_
    | refine ar_callV_if Tryz.call18 hp rfl rfl rfl rfl rfl rfl (by simp; done) rfl (by rfl) (by simp; done) ?_
    | refine ar_callV Tryz.call18 ha rfl rfl rfl rfl rfl (by simp; done) (by rfl) (by simp; done) ?_
    | refine ar_callV_if Tryz.call18 ha rfl rfl rfl rfl rfl rfl (by simp; done) rfl (by rfl) (by simp; done) ?_
    | refine ar_callV Tryz.call18 hdd rfl rfl rfl rfl rfl (by simp; done) (by rfl) (by simp; done) ?_
    | refine ar_callV_if Tryz.call18 hdd rfl rfl rfl rfl rfl rfl (by simp; done) rfl (by rfl) (by simp; done) ?_
    | refine ar_callV Tryz.call18 hc rfl rfl rfl rfl rfl (by simp; done) (by rfl) (by simp; done) ?_
    | refine ar_callV_if Tryz.call18 hc rfl rfl rfl rfl rfl rfl (by simp; done) rfl (by rfl) (by simp; done) ?_
    | refine ar_callV Tryz.call18 hm rfl rfl rfl rfl rfl (by simp; done) (by rfl) (by simp; done) ?_
    | refine ar_callV_if Tryz.call18 hm rfl rfl rfl rfl rfl rfl (by simp; done) rfl (by rfl) (by simp; done) ?_
    | refine ar_callV Tryz.call19 hn rfl rfl rfl rfl rfl (by simp; done) (by rfl) (by simp; done) ?_
    | refine ar_callV_if Tryz.call19 hn rfl rfl rfl rfl rfl rfl (by simp; done) rfl (by rfl) (by simp; done) ?_
    | refine ar_go3 _ rfl (by simp [exA]; exact ⟨rfl, rfl, rfl⟩) rfl ?_
    | refine aw_sregK 0 [0, 1] ?_
    | refine aw_regK 0 [0, 1] ?_
    | refine aw_sregK 1 [2, 3] ?_
    | refine aw_regK 1 [2, 3] ?_
    | refine aw_sregK 2 [2, 3, 5] ?_
    | refine aw_regK 2 [2, 3, 5] ?_
    | refine aw_sreg ?_
    | refine aw_sregD mixed ?_
    | refine aw_ifT (b := true) rfl rfl ?_
    | refine aw_ifF (b := false) rfl rfl ?_
    | refine aw_ifT rfl (by assumption) ?_
    | refine aw_ifF rfl (by assumption) ?_
    | refine aw_ifT rfl (decide_eq_true (by assumption)) ?_
    | refine aw_ifF rfl (decide_eq_false (by assumption)) ?_
    | refine aw_seq ?_
    | refine aw_block ?_
    | refine aw_skip ?_
    | refine aw_region ?_
    | refine aw_region_draw mixed ?_
    | refine aw_exit ?_
    | refine rq_exit ?_
    | refine blockQ_hit ?_
    | refine blockQ_miss (by decide) ?_
    | (refine ar_guard rfl rfl rfl rfl (fun h => ?_) (fun h => ?_) <;> (fail_if_success (cases h; done)) <;> (try simp at h) <;> (try subst h))
    | (refine aw_both rfl (fun h => ?_) (fun h => ?_) <;> (fail_if_success (cases h; done)) <;> (try simp at h) <;> (try subst h)))
end Go.Eng
set_option linter.unusedSimpArgs false
set_option linter.unusedVariables false
set_option linter.constructorNameAsVariable false
set_option autoImplicit false
namespace Go.Eng
open Go Go.RowKit Go.Proofs
theorem join_rg4 (n : Nat) (ts : List Rn) : ∀ i, ∀ x ∈ (joinUp n ts i).rg, x.length ≤ 1000
  | 0, x, h => by cases h
  | i + 1, x, h => by
    rw [joinUp, Ex.add] at h
    rcases List.mem_append.1 h with h | h
    · exact join_rg4 n ts i x h
    · rw [List.mem_singleton] at h; rw [h]; simp
theorem all_sm {i : List Int} {t : List (List In)} (hth : ∀ th ∈ t, ∀ x ∈ th, wfIn x) : ∀ e ∈ (allF i t).1, ExSm e := by
  intro e he
  unfold allF at he
  split at he
  · rename_i ho
    split at he
    · rename_i ws hw
      obtain ⟨hlw, hl8⟩ := of_ok64 hth ho
      obtain ⟨hi3, ht3, hi1, _, hts⟩ := ok_facts (of_ok ho)
      obtain ⟨w, hwm, rfl⟩ := List.mem_map.1 he
      have hf := ways_mem (fun th h => traces_fine (locs := i.length) (hth th h) hlw) (by simp) hw w hwm
      have hn : w.length = 0 + t.length := ways_size (n := 0) (by simp) hw w hwm
      have hev := evN_le hf
      have q := join_q (P := fun x => W64 x.k ∧ W64 x.l ∧ W64 x.v) (m := evN w) (fun x th h => h) (fun R hR x hx => ((hf R hR).ok.w.es x hx).2) w.length (Nat.le_refl _)
      refine ⟨join_ok (by omega) w w.length, ?_, fun y hy => ?_, ?_, join_rg4 (evN w) w w.length⟩
      · rw [joinF, join_len _ _ _ (Nat.le_refl _), List.take_length]; omega
      · have h1 := q.th y hy
        exact ⟨W64.small (by omega), q.ev y hy⟩
      · rw [joinF, join_rg]; omega
    · cases he
  · cases he
set_option maxHeartbeats 16000000 in
theorem law_ExecAll {i : List Int} {t : List (List In)} (hth : ∀ th ∈ t, ∀ x ∈ th, wfIn x) : SC Tryz.prog 3 [.agg (testL i t)] (B true) := by
  cases hfb : fewB i t
  · refine scx_of Tryz.func3 rfl rfl rfl (Nat.le_of_ble_eq_true rfl) ?_
    repeat' (first
      | exact aw_ret (ret_vals (by simp; exact rfl) (by simp [*]; fail_if_success (show _)))
      | exact aw_ret (ret_vals (by simp; exact rfl) (by simp [*]; omega))
      | refine ar_end rfl ?_
      | refine ar_endD rfl (by kernel_rfl) ?_
      | refine ar_fin rfl ?_
      | refine ar_finD rfl (by kernel_rfl) ?_
      | refine ar_callV Tryz.call4 c_shown10 rfl rfl rfl rfl rfl (by simp; done) (by rfl) (by simp; done) ?_
      | refine ar_callV_if Tryz.call4 c_shown10 rfl rfl rfl rfl rfl rfl (by simp; done) rfl (by rfl) (by simp; done) ?_
      | refine ar_callV Tryz.call5 c_Few rfl rfl rfl rfl rfl (by simp; done) (by rfl) (by simp; done) ?_
      | refine ar_callV_if Tryz.call5 c_Few rfl rfl rfl rfl rfl rfl (by simp; done) rfl (by rfl) (by simp; done) ?_
      | refine ar_go3 _ rfl (by simp [hfb]; exact ⟨rfl, rfl, rfl⟩) rfl ?_
      | refine aw_sregK 0 [0] ?_
      | refine aw_regK 0 [0] ?_
      | refine aw_sregK 1 [1] ?_
      | refine aw_regK 1 [1] ?_
      | refine aw_sregK 2 [1, 3] ?_
      | refine aw_regK 2 [1, 3] ?_
      | refine aw_sregK 3 [3] ?_
      | refine aw_regK 3 [3] ?_
      | refine aw_sreg ?_
      | refine aw_sregD mixed ?_
      | refine aw_ifT (b := true) rfl rfl ?_
      | refine aw_ifF (b := false) rfl rfl ?_
      | refine aw_ifT rfl (by assumption) ?_
      | refine aw_ifF rfl (by assumption) ?_
      | refine aw_ifT rfl (decide_eq_true (by assumption)) ?_
      | refine aw_ifF rfl (decide_eq_false (by assumption)) ?_
      | refine aw_seq ?_
      | refine aw_block ?_
      | refine aw_skip ?_
      | refine aw_region ?_
      | refine aw_region_draw mixed ?_
      | refine aw_exit ?_
      | refine rq_exit ?_
      | refine blockQ_hit ?_
      | refine blockQ_miss (by decide) ?_
      | (refine ar_guard rfl rfl rfl rfl (fun h => ?_) (fun h => ?_) <;> (fail_if_success (cases h; done)) <;> (try simp at h) <;> (try subst h))
      | (refine aw_both rfl (fun h => ?_) (fun h => ?_) <;> (fail_if_success (cases h; done)) <;> (try simp at h) <;> (try subst h)))
  have hM : maxLen = 9223372036854775807 := rfl
  have hf := fewB_iff.1 hfb
  have hA := c_All hf hth
  have hB := c_All10 hf hth
  have hq := all_sm (i := i) hth
  have hlenQ : (allF i t).1.length ≤ 20000 := by
    by_cases ho : (ofF i t).2 = 0
    · rcases all_many ho with ⟨_, h1⟩ | ⟨h0, _, h2, h3⟩
      · rw [h1]; simp
      · omega
    · rw [all_bad ho]; simp
  generalize allF i t = q at *
  obtain ⟨xs, f⟩ := q
  dsimp only at hA hB hq hlenQ
  refine scx_of Tryz.func3 rfl rfl rfl (Nat.le_of_ble_eq_true rfl) ?_
  repeat' (first
    | refine ar_end rfl ?_
    | refine ar_endD rfl (by kernel_rfl) ?_
    | refine ar_fin rfl ?_
    | refine ar_finD rfl (by kernel_rfl) ?_
    | refine ar_callV Tryz.call4 c_shown10 rfl rfl rfl rfl rfl (by simp; done) (by rfl) (by simp; done) ?_
    | refine ar_callV_if Tryz.call4 c_shown10 rfl rfl rfl rfl rfl rfl (by simp; done) rfl (by rfl) (by simp; done) ?_
    | refine ar_callV Tryz.call5 c_Few rfl rfl rfl rfl rfl (by simp; done) (by rfl) (by simp; done) ?_
    | refine ar_callV_if Tryz.call5 c_Few rfl rfl rfl rfl rfl rfl (by simp; done) rfl (by rfl) (by simp; done) ?_
    | refine ar_callV Tryz.call6 hA rfl rfl rfl rfl rfl (by simp; done) (by rfl) (by simp; done) ?_
    | refine ar_callV_if Tryz.call6 hA rfl rfl rfl rfl rfl rfl (by simp; done) rfl (by rfl) (by simp; done) ?_
    | refine ar_callV Tryz.call7 hB rfl rfl rfl rfl rfl (by simp; done) (by rfl) (by simp; done) ?_
    | refine ar_callV_if Tryz.call7 hB rfl rfl rfl rfl rfl rfl (by simp; done) rfl (by rfl) (by simp; done) ?_
    | refine ar_go3 _ rfl (by simp [hfb, exsL_len]; exact ⟨rfl, rfl, rfl⟩) rfl ?_
    | refine aw_sregK 0 [0] ?_
    | refine aw_regK 0 [0] ?_
    | refine aw_sregK 1 [1] ?_
    | refine aw_regK 1 [1] ?_
    | refine aw_sregK 2 [1, 3] ?_
    | refine aw_regK 2 [1, 3] ?_
    | refine aw_sregK 4 [1, 3] ?_
    | refine aw_regK 4 [1, 3] ?_
    | refine aw_sregK 5 [1, 3, 4, 5] ?_
    | refine aw_regK 5 [1, 3, 4, 5] ?_
    | refine aw_sregK 6 [3, 4, 5, 6, 7] ?_
    | refine aw_regK 6 [3, 4, 5, 6, 7] ?_
    | refine aw_sregK 8 [3, 4, 6] ?_
    | refine aw_regK 8 [3, 4, 6] ?_
    | refine aw_sreg ?_
    | refine aw_sregD mixed ?_
    | refine aw_ifT (b := true) rfl rfl ?_
    | refine aw_ifF (b := false) rfl rfl ?_
    | refine aw_ifT rfl (by assumption) ?_
    | refine aw_ifF rfl (by assumption) ?_
    | refine aw_ifT rfl (decide_eq_true (by assumption)) ?_
    | refine aw_ifF rfl (decide_eq_false (by assumption)) ?_
    | refine aw_seq ?_
    | refine aw_block ?_
    | refine aw_skip ?_
    | refine aw_region ?_
    | refine aw_region_draw mixed ?_
    | refine aw_exit ?_
    | refine rq_exit ?_
    | refine blockQ_hit ?_
    | refine blockQ_miss (by decide) ?_
    | (refine ar_guard rfl rfl rfl rfl (fun h => ?_) (fun h => ?_) <;> (fail_if_success (cases h; done)) <;> (try simp at h) <;> (try subst h))
    | (refine aw_both rfl (fun h => ?_) (fun h => ?_) <;> (fail_if_success (cases h; done)) <;> (try simp at h) <;> (try subst h)))
  refine aw_loopN [3, 4, 6, 8] [] (by simp; exact rfl) (ι := {k : Nat // k ≤ xs.length}) (fun k => ⟨52, [(3, B true), (4, .pv (.sl 7 (exsL xs))), (6, .pv (.sl 7 (exsL xs))), (8, I .i64 k.1)], []⟩) (fun k => xs.length - k.1) ⟨0, by omega⟩ (by simp) ?_
  rintro ⟨k, hk⟩
  by_cases hlt : k < xs.length
  · have hd : (k : Int) < (xs.length : Int) := by omega
    have hw : IntKind.wrap .i64 ((k : Int) + 1) = (k : Int) + 1 := wrap64s (by omega) (by omega)
    have hS := c_Same10 (hq _ (List.getElem_mem hlt))
    generalize hx : xs[k] = e0 at *
    have hR := c_real10 (e := e0)
    repeat' (first
      | refine ar_end rfl ?_
      | refine ar_endD rfl (by kernel_rfl) ?_
      | refine ar_fin rfl ?_
      | refine ar_finD rfl (by kernel_rfl) ?_
      | refine ar_callV Tryz.call9 hR rfl rfl rfl rfl rfl (by simp; done) (by rfl) (by simp; done) ?_
      | refine ar_callV_if Tryz.call9 hR rfl rfl rfl rfl rfl rfl (by simp; done) rfl (by rfl) (by simp; done) ?_
      | refine ar_callV Tryz.call8 hS rfl rfl rfl rfl rfl (by simp; done) (by rfl) (by simp; done) ?_
      | refine ar_callV_if Tryz.call8 hS rfl rfl rfl rfl rfl rfl (by simp; done) rfl (by rfl) (by simp; done) ?_
      | refine bq_norm ?_
      | refine lq_normN [3, 4, 6, 8] [] (by simp; exact rfl) ⟨k + 1, by omega⟩ (by dsimp only; omega) (by simp [])
      | refine ar_go3 _ rfl (by simp [exsL_len, exsL_getE, hd, hlt, hx, hw]; exact ⟨rfl, rfl, rfl⟩) rfl ?_
      | refine aw_sregK 9 [3, 4, 6, 8] ?_
      | refine aw_regK 9 [3, 4, 6, 8] ?_
      | refine aw_sregK 10 [3, 4, 6, 8] ?_
      | refine aw_regK 10 [3, 4, 6, 8] ?_
      | refine aw_sregKD mixed 11 [3, 4, 6, 8] (by simp; exact rfl) ?_
      | refine aw_regKD mixed 11 [3, 4, 6, 8] (by simp; exact rfl) ?_
      | refine aw_sreg ?_
      | refine aw_sregD mixed ?_
      | refine aw_ifT (b := true) rfl rfl ?_
      | refine aw_ifF (b := false) rfl rfl ?_
      | refine aw_ifT rfl (by assumption) ?_
      | refine aw_ifF rfl (by assumption) ?_
      | refine aw_ifT rfl (decide_eq_true (by assumption)) ?_
      | refine aw_ifF rfl (decide_eq_false (by assumption)) ?_
      | refine aw_seq ?_
      | refine aw_block ?_
      | refine aw_skip ?_
      | refine aw_region ?_
      | refine aw_region_draw mixed ?_
      | refine aw_exit ?_
      | refine rq_exit ?_
      | refine blockQ_hit ?_
      | refine blockQ_miss (by decide) ?_
      | (refine ar_guard rfl rfl rfl rfl (fun h => ?_) (fun h => ?_) <;> (fail_if_success (cases h; done)) <;> (try simp at h) <;> (try subst h))
      | (refine aw_both rfl (fun h => ?_) (fun h => ?_) <;> (fail_if_success (cases h; done)) <;> (try simp at h) <;> (try subst h)))
  have hd : ¬(k : Int) < (xs.length : Int) := by omega
  repeat' (first
    | exact aw_ret (ret_vals (by simp; exact rfl) (by simp [*]; fail_if_success (show _)))
    | exact aw_ret (ret_vals (by simp; exact rfl) (by simp [*]; omega))
    | refine ar_end rfl ?_
    | refine ar_endD rfl (by kernel_rfl) ?_
    | refine ar_fin rfl ?_
    | refine ar_finD rfl (by kernel_rfl) ?_
    | refine lq_exit ?_
    | refine ar_go3 _ rfl (by simp [exsL_len, hd]; exact ⟨rfl, rfl, rfl⟩) rfl ?_
    | refine aw_sregK 9 [3, 4, 6, 8] ?_
    | refine aw_regK 9 [3, 4, 6, 8] ?_
    | refine aw_sregK 13 [3] ?_
    | refine aw_regK 13 [3] ?_
    | refine aw_sreg ?_
    | refine aw_sregD mixed ?_
    | refine aw_ifT (b := true) rfl rfl ?_
    | refine aw_ifF (b := false) rfl rfl ?_
    | refine aw_ifT rfl (by assumption) ?_
    | refine aw_ifF rfl (by assumption) ?_
    | refine aw_ifT rfl (decide_eq_true (by assumption)) ?_
    | refine aw_ifF rfl (decide_eq_false (by assumption)) ?_
    | refine aw_seq ?_
    | refine aw_block ?_
    | refine aw_skip ?_
    | refine aw_region ?_
    | refine aw_region_draw mixed ?_
    | refine aw_exit ?_
    | refine rq_exit ?_
    | refine blockQ_hit ?_
    | refine blockQ_miss (by decide) ?_
    | (refine ar_guard rfl rfl rfl rfl (fun h => ?_) (fun h => ?_) <;> (fail_if_success (cases h; done)) <;> (try simp at h) <;> (try subst h))
    | (refine aw_both rfl (fun h => ?_) (fun h => ?_) <;> (fail_if_success (cases h; done)) <;> (try simp at h) <;> (try subst h)))
end Go.Eng
