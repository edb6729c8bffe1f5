import Derived.Test.YtjijfghchcnbnaaDoorCondSetsWalk
set_option linter.unusedSimpArgs false
set_option linter.unusedVariables false
set_option linter.constructorNameAsVariable false
set_option autoImplicit false
namespace Go.Eng
open Go Go.RowKit Go.Proofs
theorem asc_at [Trk] {l : List Ou} (h : AscO l) {i : Nat} (hi : i + 1 < l.length) : cmpF (l[i]'(by omega)) l[i + 1] < 0 := List.pairwise_iff_getElem.1 h i (i + 1) (by omega) hi (by omega)
set_option maxHeartbeats 16000000 in
theorem law_CondOrder [Trk] {a b : Ou} {l : List Ou} (hT : ¬Trk.on) (hSet : SetSaid) (ha : OuOk a) (hb : OuOk b) (hl : l.length ≤ maxLen) (ho : ∀ o ∈ l, OuOk o) : SC Tryd.prog 6 [.agg (ouC a), .agg (ouC b), .pv (.sl 2 (ousL l))] (B true) := by
  have hM : maxLen = 9223372036854775807 := rfl
  have hS := c_shown4 hT
  by_cases h50 : (50 : Int) < (l.length : Int)
  · refine scx_of Tryd.func6 rfl rfl rfl (Nat.le_of_ble_eq_true rfl) ?_
    repeat' (first
      | exact aw_ret (ret_vals (by simp; exact rfl) (by simp [*]; fail_if_success (show _)))
      | exact aw_ret (ret_vals (by simp; exact rfl) (by simp [*]; omega))
      | refine ar_end rfl ?_
      | refine ar_endD rfl (by kernel_rfl) ?_
      | refine ar_fin rfl ?_
      | refine ar_finD rfl (by kernel_rfl) ?_
      | refine ar_callV Tryd.call9 hS rfl rfl rfl rfl rfl (by simp; done) (by rfl) (by simp; done) ?_
      | refine ar_callV_if Tryd.call9 hS rfl rfl rfl rfl rfl rfl (by simp; done) rfl (by rfl) (by simp; done) ?_
      | refine ar_go3 _ rfl (by simp [ints_len, ints_getE, rgL_len, rgL_getE, atsL_len, atsL_getE, cosL_len, cosL_getE, ousL_len, ousL_getE, atC, ouC, coC, h50]; exact ⟨rfl, rfl, rfl⟩) rfl ?_
      | refine aw_sregK 0 [0, 1, 2] ?_
      | refine aw_regK 0 [0, 1, 2] ?_
      | refine aw_sregK 1 [2, 3, 4] ?_
      | refine aw_regK 1 [2, 3, 4] ?_
      | refine aw_sregK 2 [2, 3, 4, 7] ?_
      | refine aw_regK 2 [2, 3, 4, 7] ?_
      | refine aw_sregK 3 [7] ?_
      | refine aw_regK 3 [7] ?_
      | refine aw_sreg ?_
      | refine aw_sregD mixed ?_
      | refine aw_ifT (b := true) rfl rfl ?_
      | refine aw_ifF (b := false) rfl rfl ?_
      | refine aw_ifT rfl (by assumption) ?_
      | refine aw_ifF rfl (by assumption) ?_
      | refine aw_ifT rfl (decide_eq_true (by assumption)) ?_
      | refine aw_ifF rfl (decide_eq_false (by assumption)) ?_
      | refine aw_seq ?_
      | refine aw_block ?_
      | refine aw_skip ?_
      | refine aw_region ?_
      | refine aw_region_draw mixed ?_
      | refine aw_exit ?_
      | refine rq_exit ?_
      | refine blockQ_hit ?_
      | refine blockQ_miss (by decide) ?_)
  have hk := ou50 h50 ho
  have hks := setO_ok hk
  have h1 := hSet l hk
  have h2 := hSet _ hks
  rw [setO_self (setO_asc l)] at h2
  have h3 := c_SameT hks
  have h4 := c_SubT hks hk (fun x h => (setO_mem l x).1 h)
  have h5 := c_SubT hk hks (fun x h => (setO_mem l x).2 h)
  have hasc := setO_asc l
  generalize setO l = s at *
  have hsl := hks.1
  have hC := c_Compare ha hb
  have hD := c_Compare hb ha
  have hE := c_Compare ha ha
  rw [cmp_ord.refl] at hE
  have hr := cmp_ord.rng a b
  have hg := cmp_ord.neg a b
  have hn : IntKind.wrap .i64 (-cmpF b a) = cmpF a b := by rw [wrap64s (by omega) (by omega)]; omega
  refine scx_of Tryd.func6 rfl rfl rfl (Nat.le_of_ble_eq_true rfl) ?_
  repeat' (first
    | refine ar_end rfl ?_
    | refine ar_endD rfl (by kernel_rfl) ?_
    | refine ar_fin rfl ?_
    | refine ar_finD rfl (by kernel_rfl) ?_
    | refine ar_callV Tryd.call9 hS rfl rfl rfl rfl rfl (by simp; done) (by rfl) (by simp; done) ?_
    | refine ar_callV_if Tryd.call9 hS rfl rfl rfl rfl rfl rfl (by simp; done) rfl (by rfl) (by simp; done) ?_
    | refine ar_callV Tryd.call22 h1 rfl rfl rfl rfl rfl (by simp; done) (by rfl) (by simp; done) ?_
    | refine ar_callV_if Tryd.call22 h1 rfl rfl rfl rfl rfl rfl (by simp; done) rfl (by rfl) (by simp; done) ?_
    | refine ar_go3 _ rfl (by simp [ints_len, ints_getE, rgL_len, rgL_getE, atsL_len, atsL_getE, cosL_len, cosL_getE, ousL_len, ousL_getE, atC, ouC, coC, h50]; exact ⟨rfl, rfl, rfl⟩) rfl ?_
    | refine aw_sregK 0 [0, 1, 2] ?_
    | refine aw_regK 0 [0, 1, 2] ?_
    | refine aw_sregK 1 [2, 3, 4] ?_
    | refine aw_regK 1 [2, 3, 4] ?_
    | refine aw_sregK 2 [2, 3, 4, 7] ?_
    | refine aw_regK 2 [2, 3, 4, 7] ?_
    | refine aw_sregK 4 [2, 3, 4, 7] ?_
    | refine aw_regK 4 [2, 3, 4, 7] ?_
    | refine aw_sregK 5 [2, 3, 4, 7, 8] ?_
    | refine aw_regK 5 [2, 3, 4, 7, 8] ?_
    | refine aw_sreg ?_
    | refine aw_sregD mixed ?_
    | refine aw_ifT (b := true) rfl rfl ?_
    | refine aw_ifF (b := false) rfl rfl ?_
    | refine aw_ifT rfl (by assumption) ?_
    | refine aw_ifF rfl (by assumption) ?_
    | refine aw_ifT rfl (decide_eq_true (by assumption)) ?_
    | refine aw_ifF rfl (decide_eq_false (by assumption)) ?_
    | refine aw_seq ?_
    | refine aw_block ?_
    | refine aw_skip ?_
    | refine aw_region ?_
    | refine aw_region_draw mixed ?_
    | refine aw_exit ?_
    | refine rq_exit ?_
    | refine blockQ_hit ?_
    | refine blockQ_miss (by decide) ?_)
  refine aw_loopN [2, 3, 4, 7, 8, 9] [.loc 3, .loc 4] (by simp; exact rfl) (ι := {i : Nat // i ≤ s.length}) (fun i => ⟨70, [(2, .pv (.sl 2 (ousL l))), (3, .ptr (.loc 3) 0), (4, .ptr (.loc 4) 0), (7, B true), (8, .pv (.sl 2 (ousL s))), (9, I .i64 i.1)], [(.loc 3, some (.box 30 [.pv (.sl 1 (rgL a.rg)), .pv (.sl 1 (ints a.mem))])), (.loc 4, some (.box 30 [.pv (.sl 1 (rgL b.rg)), .pv (.sl 1 (ints b.mem))]))]⟩) (fun i => s.length - i.1) ⟨0, by omega⟩ (by simp) ?_
  rintro ⟨i, hi⟩
  have hw : IntKind.wrap .i64 ((i : Int) + 1) = (i : Int) + 1 := wrap64s (by omega) (by omega)
  by_cases hlt : i + 1 < s.length
  · have hd : (i : Int) + 1 < (s.length : Int) := by omega
    have hlt0 : i < s.length := by omega
    have hX := c_Compare (hks.2 _ (List.getElem_mem hlt0)) (hks.2 _ (List.getElem_mem hlt))
    have hneg := asc_at hasc hlt
    have hi1 : ((i : Int) + 1).toNat = i + 1 := by omega
    have hi2 : ¬(i : Int) + 1 < 0 := by omega
    have hi3 : 0 ≤ (i : Int) + 1 := by omega
    generalize hx : s[i] = x at *
    generalize hy : s[i + 1] = y at *
    generalize cmpF x y = n at *
    have hneg2 : ¬0 ≤ n := by omega
    repeat' (first
      | refine ar_end rfl ?_
      | refine ar_endD rfl (by kernel_rfl) ?_
      | refine ar_fin rfl ?_
      | refine ar_finD rfl (by kernel_rfl) ?_
      | refine ar_callV Tryd.call19 hX rfl rfl rfl rfl rfl (by simp; done) (by rfl) (by simp; done) ?_
      | refine ar_callV_if Tryd.call19 hX rfl rfl rfl rfl rfl rfl (by simp; done) rfl (by rfl) (by simp; done) ?_
      | refine bq_norm ?_
      | refine lq_normN [2, 3, 4, 7, 8, 9] [.loc 3, .loc 4] (by simp; exact rfl) ⟨i + 1, by omega⟩ (by dsimp only; omega) (by simp [])
      | refine ar_go3 _ rfl (by simp [ints_len, ints_getE, rgL_len, rgL_getE, atsL_len, atsL_getE, cosL_len, cosL_getE, ousL_len, ousL_getE, atC, ouC, coC, hd, hlt, hlt0, hx, hy, hw, hi1, hi2, hi3, hneg, hneg2]; exact ⟨rfl, rfl, rfl⟩) rfl ?_
      | refine aw_sregK 6 [2, 3, 4, 7, 8, 9] ?_
      | refine aw_regK 6 [2, 3, 4, 7, 8, 9] ?_
      | refine aw_sregK 7 [2, 3, 4, 7, 8, 9] ?_
      | refine aw_regK 7 [2, 3, 4, 7, 8, 9] ?_
      | refine aw_sregKD mixed 8 [2, 3, 4, 7, 8, 9] (by simp; exact rfl) ?_
      | refine aw_regKD mixed 8 [2, 3, 4, 7, 8, 9] (by simp; exact rfl) ?_
      | refine aw_sreg ?_
      | refine aw_sregD mixed ?_
      | refine aw_ifT (b := true) rfl rfl ?_
      | refine aw_ifF (b := false) rfl rfl ?_
      | refine aw_ifT rfl (by assumption) ?_
      | refine aw_ifF rfl (by assumption) ?_
      | refine aw_ifT rfl (decide_eq_true (by assumption)) ?_
      | refine aw_ifF rfl (decide_eq_false (by assumption)) ?_
      | refine aw_seq ?_
      | refine aw_block ?_
      | refine aw_skip ?_
      | refine aw_region ?_
      | refine aw_region_draw mixed ?_
      | refine aw_exit ?_
      | refine rq_exit ?_
      | refine blockQ_hit ?_
      | refine blockQ_miss (by decide) ?_)
  have hd : ¬(i : Int) + 1 < (s.length : Int) := by omega
  generalize cmpF a b = n at *
  generalize cmpF b a = m at *
  repeat' (first
    | exact aw_ret (ret_vals (by simp; exact rfl) (by simp [*]; fail_if_success (show _)))
    | exact aw_ret (ret_vals (by simp; exact rfl) (by simp [*]; omega))
    | refine ar_end rfl ?_
    | refine ar_endD rfl (by kernel_rfl) ?_
    | refine ar_fin rfl ?_
    | refine ar_finD rfl (by kernel_rfl) ?_
    | refine ar_callV Tryd.call19 hC rfl rfl rfl rfl rfl (by simp; done) (by rfl) (by simp; done) ?_
    | refine ar_callV_if Tryd.call19 hC rfl rfl rfl rfl rfl rfl (by simp; done) rfl (by rfl) (by simp; done) ?_
    | refine ar_callV Tryd.call19 hD rfl rfl rfl rfl rfl (by simp; done) (by rfl) (by simp; done) ?_
    | refine ar_callV_if Tryd.call19 hD rfl rfl rfl rfl rfl rfl (by simp; done) rfl (by rfl) (by simp; done) ?_
    | refine ar_callV Tryd.call19 hE rfl rfl rfl rfl rfl (by simp; done) (by rfl) (by simp; done) ?_
    | refine ar_callV_if Tryd.call19 hE rfl rfl rfl rfl rfl rfl (by simp; done) rfl (by rfl) (by simp; done) ?_
    | refine ar_callV Tryd.call22 h2 rfl rfl rfl rfl rfl (by simp; done) (by rfl) (by simp; done) ?_
    | refine ar_callV_if Tryd.call22 h2 rfl rfl rfl rfl rfl rfl (by simp; done) rfl (by rfl) (by simp; done) ?_
    | refine ar_callV Tryd.call21 h3 rfl rfl rfl rfl rfl (by simp; done) (by rfl) (by simp; done) ?_
    | refine ar_callV_if Tryd.call21 h3 rfl rfl rfl rfl rfl rfl (by simp; done) rfl (by rfl) (by simp; done) ?_
    | refine ar_callV Tryd.call24 h4 rfl rfl rfl rfl rfl (by simp; done) (by rfl) (by simp; done) ?_
    | refine ar_callV_if Tryd.call24 h4 rfl rfl rfl rfl rfl rfl (by simp; done) rfl (by rfl) (by simp; done) ?_
    | refine ar_callV Tryd.call24 h5 rfl rfl rfl rfl rfl (by simp; done) (by rfl) (by simp; done) ?_
    | refine ar_callV_if Tryd.call24 h5 rfl rfl rfl rfl rfl rfl (by simp; done) rfl (by rfl) (by simp; done) ?_
    | refine lq_exit ?_
    | refine ar_neg_if rfl rfl rfl rfl rfl rfl (by simp; done) (by rfl) hn ?_
    | refine ar_go3 _ rfl (by simp [ints_len, ints_getE, rgL_len, rgL_getE, atsL_len, atsL_getE, cosL_len, cosL_getE, ousL_len, ousL_getE, atC, ouC, coC, hd, hw]; exact ⟨rfl, rfl, rfl⟩) rfl ?_
    | refine aw_sregK 6 [2, 3, 4, 7, 8, 9] ?_
    | refine aw_regK 6 [2, 3, 4, 7, 8, 9] ?_
    | refine aw_sregK 10 [2, 3, 4, 7, 8] ?_
    | refine aw_regK 10 [2, 3, 4, 7, 8] ?_
    | refine aw_sregK 11 [2, 3, 4, 7, 8, 10] ?_
    | refine aw_regK 11 [2, 3, 4, 7, 8, 10] ?_
    | refine aw_sreg ?_
    | refine aw_sregD mixed ?_
    | refine aw_ifT (b := true) rfl rfl ?_
    | refine aw_ifF (b := false) rfl rfl ?_
    | refine aw_ifT rfl (by assumption) ?_
    | refine aw_ifF rfl (by assumption) ?_
    | refine aw_ifT rfl (decide_eq_true (by assumption)) ?_
    | refine aw_ifF rfl (decide_eq_false (by assumption)) ?_
    | refine aw_seq ?_
    | refine aw_block ?_
    | refine aw_skip ?_
    | refine aw_region ?_
    | refine aw_region_draw mixed ?_
    | refine aw_exit ?_
    | refine rq_exit ?_
    | refine blockQ_hit ?_
    | refine blockQ_miss (by decide) ?_)
end Go.Eng
