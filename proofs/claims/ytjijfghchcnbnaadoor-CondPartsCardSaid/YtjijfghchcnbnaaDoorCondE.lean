import Derived.Test.YtjijfghchcnbnaaDoorCondD
import Derived.Test.YtjijfghchcnbnaaDoorEngE
import Derived.Test.YtjijfghchcnbnaaDoorEngC
set_option linter.unusedSimpArgs false
set_option linter.unusedVariables false
set_option linter.constructorNameAsVariable false
set_option autoImplicit false
namespace Go.Eng
open Go Go.RowKit Go.Proofs
set_option maxHeartbeats 16000000 in
theorem c_rnums [Trk] {a b : List Int} (ha : a.length ≤ maxLen) (hb : b.length ≤ maxLen) : SC Tryd.prog 41 [.pv (.sl 1 (ints a)), .pv (.sl 1 (ints b))] (I .i64 (numsF a b)) := by
  have hM : maxLen = 9223372036854775807 := rfl
  unfold numsF
  generalize hres : byF cmpI a b = res
  refine scx_of Tryd.func41 rfl rfl rfl (Nat.le_of_ble_eq_true rfl) ?_
  repeat' (first
    | refine ar_end rfl ?_
    | refine ar_endD rfl (by kernel_rfl) ?_
    | refine ar_fin rfl ?_
    | refine ar_finD rfl (by kernel_rfl) ?_
    | refine ar_go3 _ rfl (by simp [ints_len, ints_getE, rgL_len, rgL_getE, atsL_len, atsL_getE, cosL_len, cosL_getE, ousL_len, ousL_getE, atC, ouC, coC]; exact ⟨rfl, rfl, rfl⟩) rfl ?_
    | refine aw_sregK 0 [0, 1] ?_
    | refine aw_regK 0 [0, 1] ?_
    | refine aw_sregK 1 [0, 1] ?_
    | refine aw_regK 1 [0, 1] ?_
    | refine aw_sreg ?_
    | refine aw_sregD mixed ?_
    | refine aw_ifT (b := true) rfl rfl ?_
    | refine aw_ifF (b := false) rfl rfl ?_
    | refine aw_ifT rfl (by assumption) ?_
    | refine aw_ifF rfl (by assumption) ?_
    | refine aw_ifT rfl (decide_eq_true (by assumption)) ?_
    | refine aw_ifF rfl (decide_eq_false (by assumption)) ?_
    | refine aw_seq ?_
    | refine aw_block ?_
    | refine aw_skip ?_
    | refine aw_region ?_
    | refine aw_region_draw mixed ?_
    | refine aw_exit ?_
    | refine rq_exit ?_
    | refine blockQ_hit ?_
    | refine blockQ_miss (by decide) ?_)
  refine aw_loopN [0, 1, 5] [] (by simp; exact rfl) (ι := {i : Nat // i ≤ a.length ∧ i ≤ b.length ∧ byF cmpI (a.drop i) (b.drop i) = res}) (fun i => ⟨46, [(0, .pv (.sl 1 (ints a))), (1, .pv (.sl 1 (ints b))), (5, I .i64 i.1)], []⟩) (fun i => a.length - i.1) ⟨0, by omega, by omega, by simpa using hres⟩ (by simp) ?_
  rintro ⟨i, hi, hj, he⟩
  by_cases hia : i < a.length
  · have hd : (i : Int) < (a.length : Int) := by omega
    by_cases hib : i < b.length
    · have hd2 : (i : Int) < (b.length : Int) := by omega
      have hw : IntKind.wrap .i64 ((i : Int) + 1) = (i : Int) + 1 := wrap64s (by omega) (by omega)
      rw [by_at hia hib] at he
      generalize hx : a[i] = x at *
      generalize hy : b[i] = y at *
      by_cases hl : x < y
      · have hc : cmpI x y = -1 := by unfold cmpI; rw [if_pos hl]
        rw [hc, if_neg (by decide)] at he
        subst he
        repeat' (first
          | exact aw_ret (ret_vals (by simp; exact rfl) (by simp [*]; fail_if_success (show _)))
          | exact aw_ret (ret_vals (by simp; exact rfl) (by simp [*]; omega))
          | refine ar_end rfl ?_
          | refine ar_endD rfl (by kernel_rfl) ?_
          | refine ar_fin rfl ?_
          | refine ar_finD rfl (by kernel_rfl) ?_
          | refine lq_ret ?_
          | refine bq_ret ?_
          | refine tq_ret ?_
          | refine ar_go3 _ rfl (by simp [ints_len, ints_getE, rgL_len, rgL_getE, atsL_len, atsL_getE, cosL_len, cosL_getE, ousL_len, ousL_getE, atC, ouC, coC, hd, hd2, hia, hib, hx, hy, hl]; exact ⟨rfl, rfl, rfl⟩) rfl ?_
          | refine aw_sregK 2 [0, 1, 5] ?_
          | refine aw_regK 2 [0, 1, 5] ?_
          | refine aw_sregKD mixed 4 [0, 1, 5] (by simp; exact rfl) ?_
          | refine aw_regKD mixed 4 [0, 1, 5] (by simp; exact rfl) ?_
          | refine aw_sregK 5 [] ?_
          | refine aw_regK 5 [] ?_
          | refine aw_sreg ?_
          | refine aw_sregD mixed ?_
          | refine aw_ifT (b := true) rfl rfl ?_
          | refine aw_ifF (b := false) rfl rfl ?_
          | refine aw_ifT rfl (by assumption) ?_
          | refine aw_ifF rfl (by assumption) ?_
          | refine aw_ifT rfl (decide_eq_true (by assumption)) ?_
          | refine aw_ifF rfl (decide_eq_false (by assumption)) ?_
          | refine aw_seq ?_
          | refine aw_block ?_
          | refine aw_skip ?_
          | refine aw_region ?_
          | refine aw_region_draw mixed ?_
          | refine aw_exit ?_
          | refine rq_exit ?_
          | refine blockQ_hit ?_
          | refine blockQ_miss (by decide) ?_)
      by_cases hg : y < x
      · have hc : cmpI x y = 1 := by unfold cmpI; rw [if_neg hl, if_pos hg]
        rw [hc, if_neg (by decide)] at he
        subst he
        repeat' (first
          | exact aw_ret (ret_vals (by simp; exact rfl) (by simp [*]; fail_if_success (show _)))
          | exact aw_ret (ret_vals (by simp; exact rfl) (by simp [*]; omega))
          | refine ar_end rfl ?_
          | refine ar_endD rfl (by kernel_rfl) ?_
          | refine ar_fin rfl ?_
          | refine ar_finD rfl (by kernel_rfl) ?_
          | refine lq_ret ?_
          | refine bq_ret ?_
          | refine tq_ret ?_
          | refine ar_go3 _ rfl (by simp [ints_len, ints_getE, rgL_len, rgL_getE, atsL_len, atsL_getE, cosL_len, cosL_getE, ousL_len, ousL_getE, atC, ouC, coC, hd, hd2, hia, hib, hx, hy, hl, hg]; exact ⟨rfl, rfl, rfl⟩) rfl ?_
          | refine aw_sregK 2 [0, 1, 5] ?_
          | refine aw_regK 2 [0, 1, 5] ?_
          | refine aw_sregKD mixed 4 [0, 1, 5] (by simp; exact rfl) ?_
          | refine aw_regKD mixed 4 [0, 1, 5] (by simp; exact rfl) ?_
          | refine aw_sregKD mixed 6 [0, 1, 5] (by simp; exact rfl) ?_
          | refine aw_regKD mixed 6 [0, 1, 5] (by simp; exact rfl) ?_
          | refine aw_sregK 7 [] ?_
          | refine aw_regK 7 [] ?_
          | refine aw_sreg ?_
          | refine aw_sregD mixed ?_
          | refine aw_ifT (b := true) rfl rfl ?_
          | refine aw_ifF (b := false) rfl rfl ?_
          | refine aw_ifT rfl (by assumption) ?_
          | refine aw_ifF rfl (by assumption) ?_
          | refine aw_ifT rfl (decide_eq_true (by assumption)) ?_
          | refine aw_ifF rfl (decide_eq_false (by assumption)) ?_
          | refine aw_seq ?_
          | refine aw_block ?_
          | refine aw_skip ?_
          | refine aw_region ?_
          | refine aw_region_draw mixed ?_
          | refine aw_exit ?_
          | refine rq_exit ?_
          | refine blockQ_hit ?_
          | refine blockQ_miss (by decide) ?_)
      · have hc : cmpI x y = 0 := by unfold cmpI; rw [if_neg hl, if_neg hg]
        rw [hc, if_pos rfl] at he
        repeat' (first
          | refine ar_end rfl ?_
          | refine ar_endD rfl (by kernel_rfl) ?_
          | refine ar_fin rfl ?_
          | refine ar_finD rfl (by kernel_rfl) ?_
          | refine bq_norm ?_
          | refine lq_normN [0, 1, 5] [] (by simp; exact rfl) ⟨i + 1, by omega, by omega, he⟩ (by dsimp only; omega) (by simp [])
          | refine ar_go3 _ rfl (by simp [ints_len, ints_getE, rgL_len, rgL_getE, atsL_len, atsL_getE, cosL_len, cosL_getE, ousL_len, ousL_getE, atC, ouC, coC, hd, hd2, hia, hib, hx, hy, hl, hg, hw]; exact ⟨rfl, rfl, rfl⟩) rfl ?_
          | refine aw_sregK 2 [0, 1, 5] ?_
          | refine aw_regK 2 [0, 1, 5] ?_
          | refine aw_sregK 3 [0, 1, 5] ?_
          | refine aw_regK 3 [0, 1, 5] ?_
          | refine aw_sregKD mixed 4 [0, 1, 5] (by simp; exact rfl) ?_
          | refine aw_regKD mixed 4 [0, 1, 5] (by simp; exact rfl) ?_
          | refine aw_sregKD mixed 6 [0, 1, 5] (by simp; exact rfl) ?_
          | refine aw_regKD mixed 6 [0, 1, 5] (by simp; exact rfl) ?_
          | refine aw_sreg ?_
          | refine aw_sregD mixed ?_
          | refine aw_ifT (b := true) rfl rfl ?_
          | refine aw_ifF (b := false) rfl rfl ?_
          | refine aw_ifT rfl (by assumption) ?_
          | refine aw_ifF rfl (by assumption) ?_
          | refine aw_ifT rfl (decide_eq_true (by assumption)) ?_
          | refine aw_ifF rfl (decide_eq_false (by assumption)) ?_
          | refine aw_seq ?_
          | refine aw_block ?_
          | refine aw_skip ?_
          | refine aw_region ?_
          | refine aw_region_draw mixed ?_
          | refine aw_exit ?_
          | refine rq_exit ?_
          | refine blockQ_hit ?_
          | refine blockQ_miss (by decide) ?_)
    · have hd2 : ¬(i : Int) < (b.length : Int) := by omega
      rw [by_end hi hj (.inr (by omega))] at he
      have hc : cmpI (a.length : Int) (b.length : Int) = 1 := by unfold cmpI; rw [if_neg (by omega), if_pos (by omega)]
      rw [hc] at he
      subst he
      have h1 : ¬(a.length : Int) < (b.length : Int) := by omega
      have h2 : (b.length : Int) < (a.length : Int) := by omega
      repeat' (first
        | exact aw_ret (ret_vals (by simp; exact rfl) (by simp [*]; fail_if_success (show _)))
        | exact aw_ret (ret_vals (by simp; exact rfl) (by simp [*]; omega))
        | refine ar_end rfl ?_
        | refine ar_endD rfl (by kernel_rfl) ?_
        | refine ar_fin rfl ?_
        | refine ar_finD rfl (by kernel_rfl) ?_
        | refine lq_exit ?_
        | refine ar_go3 _ rfl (by simp [ints_len, ints_getE, rgL_len, rgL_getE, atsL_len, atsL_getE, cosL_len, cosL_getE, ousL_len, ousL_getE, atC, ouC, coC, hd, hd2, h1, h2]; exact ⟨rfl, rfl, rfl⟩) rfl ?_
        | refine aw_sregK 2 [0, 1, 5] ?_
        | refine aw_regK 2 [0, 1, 5] ?_
        | refine aw_sregK 8 [0, 1] ?_
        | refine aw_regK 8 [0, 1] ?_
        | refine aw_sregK 10 [0, 1] ?_
        | refine aw_regK 10 [0, 1] ?_
        | refine aw_sregK 11 [] ?_
        | refine aw_regK 11 [] ?_
        | refine aw_sreg ?_
        | refine aw_sregD mixed ?_
        | refine aw_ifT (b := true) rfl rfl ?_
        | refine aw_ifF (b := false) rfl rfl ?_
        | refine aw_ifT rfl (by assumption) ?_
        | refine aw_ifF rfl (by assumption) ?_
        | refine aw_ifT rfl (decide_eq_true (by assumption)) ?_
        | refine aw_ifF rfl (decide_eq_false (by assumption)) ?_
        | refine aw_seq ?_
        | refine aw_block ?_
        | refine aw_skip ?_
        | refine aw_region ?_
        | refine aw_region_draw mixed ?_
        | refine aw_exit ?_
        | refine rq_exit ?_
        | refine blockQ_hit ?_
        | refine blockQ_miss (by decide) ?_)
  · have hd : ¬(i : Int) < (a.length : Int) := by omega
    rw [by_end hi hj (.inl (by omega))] at he
    by_cases h1 : (a.length : Int) < (b.length : Int)
    · have hc : cmpI (a.length : Int) (b.length : Int) = -1 := by unfold cmpI; rw [if_pos h1]
      rw [hc] at he
      subst he
      repeat' (first
        | exact aw_ret (ret_vals (by simp; exact rfl) (by simp [*]; fail_if_success (show _)))
        | exact aw_ret (ret_vals (by simp; exact rfl) (by simp [*]; omega))
        | refine ar_end rfl ?_
        | refine ar_endD rfl (by kernel_rfl) ?_
        | refine ar_fin rfl ?_
        | refine ar_finD rfl (by kernel_rfl) ?_
        | refine lq_exit ?_
        | refine ar_go3 _ rfl (by simp [ints_len, ints_getE, rgL_len, rgL_getE, atsL_len, atsL_getE, cosL_len, cosL_getE, ousL_len, ousL_getE, atC, ouC, coC, hd, h1]; exact ⟨rfl, rfl, rfl⟩) rfl ?_
        | refine aw_sregK 2 [0, 1, 5] ?_
        | refine aw_regK 2 [0, 1, 5] ?_
        | refine aw_sregK 8 [0, 1] ?_
        | refine aw_regK 8 [0, 1] ?_
        | refine aw_sregK 9 [] ?_
        | refine aw_regK 9 [] ?_
        | refine aw_sreg ?_
        | refine aw_sregD mixed ?_
        | refine aw_ifT (b := true) rfl rfl ?_
        | refine aw_ifF (b := false) rfl rfl ?_
        | refine aw_ifT rfl (by assumption) ?_
        | refine aw_ifF rfl (by assumption) ?_
        | refine aw_ifT rfl (decide_eq_true (by assumption)) ?_
        | refine aw_ifF rfl (decide_eq_false (by assumption)) ?_
        | refine aw_seq ?_
        | refine aw_block ?_
        | refine aw_skip ?_
        | refine aw_region ?_
        | refine aw_region_draw mixed ?_
        | refine aw_exit ?_
        | refine rq_exit ?_
        | refine blockQ_hit ?_
        | refine blockQ_miss (by decide) ?_)
    · have hc : cmpI (a.length : Int) (b.length : Int) = 0 := by unfold cmpI; rw [if_neg h1, if_neg (by omega)]
      rw [hc] at he
      subst he
      have h2 : ¬(b.length : Int) < (a.length : Int) := by omega
      repeat' (first
        | exact aw_ret (ret_vals (by simp; exact rfl) (by simp [*]; fail_if_success (show _)))
        | exact aw_ret (ret_vals (by simp; exact rfl) (by simp [*]; omega))
        | refine ar_end rfl ?_
        | refine ar_endD rfl (by kernel_rfl) ?_
        | refine ar_fin rfl ?_
        | refine ar_finD rfl (by kernel_rfl) ?_
        | refine lq_exit ?_
        | refine ar_go3 _ rfl (by simp [ints_len, ints_getE, rgL_len, rgL_getE, atsL_len, atsL_getE, cosL_len, cosL_getE, ousL_len, ousL_getE, atC, ouC, coC, hd, h1, h2]; exact ⟨rfl, rfl, rfl⟩) rfl ?_
        | refine aw_sregK 2 [0, 1, 5] ?_
        | refine aw_regK 2 [0, 1, 5] ?_
        | refine aw_sregK 8 [0, 1] ?_
        | refine aw_regK 8 [0, 1] ?_
        | refine aw_sregK 10 [0, 1] ?_
        | refine aw_regK 10 [0, 1] ?_
        | refine aw_sregK 12 [] ?_
        | refine aw_regK 12 [] ?_
        | refine aw_sreg ?_
        | refine aw_sregD mixed ?_
        | refine aw_ifT (b := true) rfl rfl ?_
        | refine aw_ifF (b := false) rfl rfl ?_
        | refine aw_ifT rfl (by assumption) ?_
        | refine aw_ifF rfl (by assumption) ?_
        | refine aw_ifT rfl (decide_eq_true (by assumption)) ?_
        | refine aw_ifF rfl (decide_eq_false (by assumption)) ?_
        | refine aw_seq ?_
        | refine aw_block ?_
        | refine aw_skip ?_
        | refine aw_region ?_
        | refine aw_region_draw mixed ?_
        | refine aw_exit ?_
        | refine rq_exit ?_
        | refine blockQ_hit ?_
        | refine blockQ_miss (by decide) ?_)
set_option maxHeartbeats 16000000 in
theorem c_rCompare [Trk] {a b : Ou} (ha : OuOk a) (hb : OuOk b) : SC Tryd.prog 20 [.agg (ouC a), .agg (ouC b)] (I .i64 (cmpF a b)) := by
  have hM : maxLen = 9223372036854775807 := rfl
  obtain ⟨a1, a2, a3⟩ := ha
  obtain ⟨b1, b2, b3⟩ := hb
  have hmem := c_rnums a3 b3
  unfold cmpF
  obtain ⟨a, am⟩ := a
  obtain ⟨b, bm⟩ := b
  dsimp only at a1 a2 a3 b1 b2 b3 hmem ⊢
  generalize numsF am bm = mv at *
  generalize hres : byF numsF a b = res
  refine scx_of Tryd.func20 rfl rfl rfl (Nat.le_of_ble_eq_true rfl) ?_
  repeat' (first
    | refine ar_end rfl ?_
    | refine ar_endD rfl (by kernel_rfl) ?_
    | refine ar_fin rfl ?_
    | refine ar_finD rfl (by kernel_rfl) ?_
    | refine ar_go3 _ rfl (by simp [ints_len, ints_getE, rgL_len, rgL_getE, atsL_len, atsL_getE, cosL_len, cosL_getE, ousL_len, ousL_getE, atC, ouC, coC]; exact ⟨rfl, rfl, rfl⟩) rfl ?_
    | refine aw_sregK 0 [0, 1] ?_
    | refine aw_regK 0 [0, 1] ?_
    | refine aw_sregK 1 [2, 3] ?_
    | refine aw_regK 1 [2, 3] ?_
    | refine aw_sreg ?_
    | refine aw_sregD mixed ?_
    | refine aw_ifT (b := true) rfl rfl ?_
    | refine aw_ifF (b := false) rfl rfl ?_
    | refine aw_ifT rfl (by assumption) ?_
    | refine aw_ifF rfl (by assumption) ?_
    | refine aw_ifT rfl (decide_eq_true (by assumption)) ?_
    | refine aw_ifF rfl (decide_eq_false (by assumption)) ?_
    | refine aw_seq ?_
    | refine aw_block ?_
    | refine aw_skip ?_
    | refine aw_region ?_
    | refine aw_region_draw mixed ?_
    | refine aw_exit ?_
    | refine rq_exit ?_
    | refine blockQ_hit ?_
    | refine blockQ_miss (by decide) ?_)
  refine aw_loopN [2, 3, 5] [.loc 2, .loc 3] (by simp; exact rfl) (ι := {i : Nat // i ≤ a.length ∧ i ≤ b.length ∧ byF numsF (a.drop i) (b.drop i) = res}) (fun i => ⟨54, [(2, .ptr (.loc 2) 0), (3, .ptr (.loc 3) 0), (5, I .i64 i.1)], [(.loc 2, some (.box 30 [.pv (.sl 1 (rgL a)), .pv (.sl 1 (ints am))])), (.loc 3, some (.box 30 [.pv (.sl 1 (rgL b)), .pv (.sl 1 (ints bm))]))]⟩) (fun i => a.length - i.1) ⟨0, by omega, by omega, by simpa using hres⟩ (by simp) ?_
  rintro ⟨i, hi, hj, he⟩
  by_cases hia : i < a.length
  · have hd : (i : Int) < (a.length : Int) := by omega
    by_cases hib : i < b.length
    · have hd2 : (i : Int) < (b.length : Int) := by omega
      have hw : IntKind.wrap .i64 ((i : Int) + 1) = (i : Int) + 1 := wrap64s (by omega) (by omega)
      have hN := c_rnums (a2 _ (List.getElem_mem hia)) (b2 _ (List.getElem_mem hib))
      rw [by_at hia hib] at he
      generalize hx : a[i] = x at *
      generalize hy : b[i] = y at *
      generalize numsF x y = v at *
      by_cases hz : v = 0
      · subst hz
        rw [if_pos rfl] at he
        repeat' (first
          | refine ar_end rfl ?_
          | refine ar_endD rfl (by kernel_rfl) ?_
          | refine ar_fin rfl ?_
          | refine ar_finD rfl (by kernel_rfl) ?_
          | refine ar_callV Tryd.call41 hN rfl rfl rfl rfl rfl (by simp; done) (by rfl) (by simp; done) ?_
          | refine ar_callV_if Tryd.call41 hN rfl rfl rfl rfl rfl rfl (by simp; done) rfl (by rfl) (by simp; done) ?_
          | refine bq_norm ?_
          | refine lq_normN [2, 3, 5] [.loc 2, .loc 3] (by simp; exact rfl) ⟨i + 1, by omega, by omega, he⟩ (by dsimp only; omega) (by simp [])
          | refine ar_go3 _ rfl (by simp [ints_len, ints_getE, rgL_len, rgL_getE, atsL_len, atsL_getE, cosL_len, cosL_getE, ousL_len, ousL_getE, atC, ouC, coC, hd, hd2, hia, hib, hx, hy, hw]; exact ⟨rfl, rfl, rfl⟩) rfl ?_
          | refine aw_sregK 2 [2, 3, 5] ?_
          | refine aw_regK 2 [2, 3, 5] ?_
          | refine aw_sregK 3 [2, 3, 5] ?_
          | refine aw_regK 3 [2, 3, 5] ?_
          | refine aw_sregKD mixed 4 [2, 3, 5] (by simp; exact rfl) ?_
          | refine aw_regKD mixed 4 [2, 3, 5] (by simp; exact rfl) ?_
          | refine aw_sregK 5 [2, 3, 5, 6] ?_
          | refine aw_regK 5 [2, 3, 5, 6] ?_
          | refine aw_sreg ?_
          | refine aw_sregD mixed ?_
          | refine aw_ifT (b := true) rfl rfl ?_
          | refine aw_ifF (b := false) rfl rfl ?_
          | refine aw_ifT rfl (by assumption) ?_
          | refine aw_ifF rfl (by assumption) ?_
          | refine aw_ifT rfl (decide_eq_true (by assumption)) ?_
          | refine aw_ifF rfl (decide_eq_false (by assumption)) ?_
          | refine aw_seq ?_
          | refine aw_block ?_
          | refine aw_skip ?_
          | refine aw_region ?_
          | refine aw_region_draw mixed ?_
          | refine aw_exit ?_
          | refine rq_exit ?_
          | refine blockQ_hit ?_
          | refine blockQ_miss (by decide) ?_)
      · rw [if_neg hz] at he
        subst he
        repeat' (first
          | exact aw_ret (ret_vals (by simp; exact rfl) (by simp [*]; fail_if_success (show _)))
          | exact aw_ret (ret_vals (by simp; exact rfl) (by simp [*]; omega))
          | refine ar_end rfl ?_
          | refine ar_endD rfl (by kernel_rfl) ?_
          | refine ar_fin rfl ?_
          | refine ar_finD rfl (by kernel_rfl) ?_
          | refine ar_callV Tryd.call41 hN rfl rfl rfl rfl rfl (by simp; done) (by rfl) (by simp; done) ?_
          | refine ar_callV_if Tryd.call41 hN rfl rfl rfl rfl rfl rfl (by simp; done) rfl (by rfl) (by simp; done) ?_
          | refine lq_ret ?_
          | refine bq_ret ?_
          | refine tq_ret ?_
          | refine ar_go3 _ rfl (by simp [ints_len, ints_getE, rgL_len, rgL_getE, atsL_len, atsL_getE, cosL_len, cosL_getE, ousL_len, ousL_getE, atC, ouC, coC, hd, hd2, hia, hib, hx, hy, hz]; exact ⟨rfl, rfl, rfl⟩) rfl ?_
          | refine aw_sregK 2 [2, 3, 5] ?_
          | refine aw_regK 2 [2, 3, 5] ?_
          | refine aw_sregKD mixed 4 [2, 3, 5] (by simp; exact rfl) ?_
          | refine aw_regKD mixed 4 [2, 3, 5] (by simp; exact rfl) ?_
          | refine aw_sregK 5 [2, 3, 5, 6] ?_
          | refine aw_regK 5 [2, 3, 5, 6] ?_
          | refine aw_sregK 6 [6] ?_
          | refine aw_regK 6 [6] ?_
          | refine aw_sreg ?_
          | refine aw_sregD mixed ?_
          | refine aw_ifT (b := true) rfl rfl ?_
          | refine aw_ifF (b := false) rfl rfl ?_
          | refine aw_ifT rfl (by assumption) ?_
          | refine aw_ifF rfl (by assumption) ?_
          | refine aw_ifT rfl (decide_eq_true (by assumption)) ?_
          | refine aw_ifF rfl (decide_eq_false (by assumption)) ?_
          | refine aw_seq ?_
          | refine aw_block ?_
          | refine aw_skip ?_
          | refine aw_region ?_
          | refine aw_region_draw mixed ?_
          | refine aw_exit ?_
          | refine rq_exit ?_
          | refine blockQ_hit ?_
          | refine blockQ_miss (by decide) ?_)
    · have hd2 : ¬(i : Int) < (b.length : Int) := by omega
      rw [by_end hi hj (.inr (by omega))] at he
      have hc : cmpI (a.length : Int) (b.length : Int) = 1 := by unfold cmpI; rw [if_neg (by omega), if_pos (by omega)]
      rw [hc] at he
      subst he
      have h1 : ¬(a.length : Int) < (b.length : Int) := by omega
      have h2 : (b.length : Int) < (a.length : Int) := by omega
      repeat' (first
        | exact aw_ret (ret_vals (by simp; exact rfl) (by simp [*]; fail_if_success (show _)))
        | exact aw_ret (ret_vals (by simp; exact rfl) (by simp [*]; omega))
        | refine ar_end rfl ?_
        | refine ar_endD rfl (by kernel_rfl) ?_
        | refine ar_fin rfl ?_
        | refine ar_finD rfl (by kernel_rfl) ?_
        | refine lq_exit ?_
        | refine ar_go3 _ rfl (by simp [ints_len, ints_getE, rgL_len, rgL_getE, atsL_len, atsL_getE, cosL_len, cosL_getE, ousL_len, ousL_getE, atC, ouC, coC, hd, hd2, h1, h2]; exact ⟨rfl, rfl, rfl⟩) rfl ?_
        | refine aw_sregK 2 [2, 3, 5] ?_
        | refine aw_regK 2 [2, 3, 5] ?_
        | refine aw_sregK 7 [2, 3] ?_
        | refine aw_regK 7 [2, 3] ?_
        | refine aw_sregK 9 [2, 3] ?_
        | refine aw_regK 9 [2, 3] ?_
        | refine aw_sregK 10 [] ?_
        | refine aw_regK 10 [] ?_
        | refine aw_sreg ?_
        | refine aw_sregD mixed ?_
        | refine aw_ifT (b := true) rfl rfl ?_
        | refine aw_ifF (b := false) rfl rfl ?_
        | refine aw_ifT rfl (by assumption) ?_
        | refine aw_ifF rfl (by assumption) ?_
        | refine aw_ifT rfl (decide_eq_true (by assumption)) ?_
        | refine aw_ifF rfl (decide_eq_false (by assumption)) ?_
        | refine aw_seq ?_
        | refine aw_block ?_
        | refine aw_skip ?_
        | refine aw_region ?_
        | refine aw_region_draw mixed ?_
        | refine aw_exit ?_
        | refine rq_exit ?_
        | refine blockQ_hit ?_
        | refine blockQ_miss (by decide) ?_)
  · have hd : ¬(i : Int) < (a.length : Int) := by omega
    rw [by_end hi hj (.inl (by omega))] at he
    by_cases h1 : (a.length : Int) < (b.length : Int)
    · have hc : cmpI (a.length : Int) (b.length : Int) = -1 := by unfold cmpI; rw [if_pos h1]
      rw [hc] at he
      subst he
      repeat' (first
        | exact aw_ret (ret_vals (by simp; exact rfl) (by simp [*]; fail_if_success (show _)))
        | exact aw_ret (ret_vals (by simp; exact rfl) (by simp [*]; omega))
        | refine ar_end rfl ?_
        | refine ar_endD rfl (by kernel_rfl) ?_
        | refine ar_fin rfl ?_
        | refine ar_finD rfl (by kernel_rfl) ?_
        | refine lq_exit ?_
        | refine ar_go3 _ rfl (by simp [ints_len, ints_getE, rgL_len, rgL_getE, atsL_len, atsL_getE, cosL_len, cosL_getE, ousL_len, ousL_getE, atC, ouC, coC, hd, h1]; exact ⟨rfl, rfl, rfl⟩) rfl ?_
        | refine aw_sregK 2 [2, 3, 5] ?_
        | refine aw_regK 2 [2, 3, 5] ?_
        | refine aw_sregK 7 [2, 3] ?_
        | refine aw_regK 7 [2, 3] ?_
        | refine aw_sregK 8 [] ?_
        | refine aw_regK 8 [] ?_
        | refine aw_sreg ?_
        | refine aw_sregD mixed ?_
        | refine aw_ifT (b := true) rfl rfl ?_
        | refine aw_ifF (b := false) rfl rfl ?_
        | refine aw_ifT rfl (by assumption) ?_
        | refine aw_ifF rfl (by assumption) ?_
        | refine aw_ifT rfl (decide_eq_true (by assumption)) ?_
        | refine aw_ifF rfl (decide_eq_false (by assumption)) ?_
        | refine aw_seq ?_
        | refine aw_block ?_
        | refine aw_skip ?_
        | refine aw_region ?_
        | refine aw_region_draw mixed ?_
        | refine aw_exit ?_
        | refine rq_exit ?_
        | refine blockQ_hit ?_
        | refine blockQ_miss (by decide) ?_)
    · have hc : cmpI (a.length : Int) (b.length : Int) = 0 := by unfold cmpI; rw [if_neg h1, if_neg (by omega)]
      rw [hc] at he
      subst he
      have h2 : ¬(b.length : Int) < (a.length : Int) := by omega
      repeat' (first
        | exact aw_ret (ret_vals (by simp; exact rfl) (by simp [*]; fail_if_success (show _)))
        | exact aw_ret (ret_vals (by simp; exact rfl) (by simp [*]; omega))
        | refine ar_end rfl ?_
        | refine ar_endD rfl (by kernel_rfl) ?_
        | refine ar_fin rfl ?_
        | refine ar_finD rfl (by kernel_rfl) ?_
        | refine ar_callV Tryd.call41 hmem rfl rfl rfl rfl rfl (by simp; done) (by rfl) (by simp; done) ?_
        | refine ar_callV_if Tryd.call41 hmem rfl rfl rfl rfl rfl rfl (by simp; done) rfl (by rfl) (by simp; done) ?_
        | refine lq_exit ?_
        | refine ar_go3 _ rfl (by simp [ints_len, ints_getE, rgL_len, rgL_getE, atsL_len, atsL_getE, cosL_len, cosL_getE, ousL_len, ousL_getE, atC, ouC, coC, hd, h1, h2]; exact ⟨rfl, rfl, rfl⟩) rfl ?_
        | refine aw_sregK 2 [2, 3, 5] ?_
        | refine aw_regK 2 [2, 3, 5] ?_
        | refine aw_sregK 7 [2, 3] ?_
        | refine aw_regK 7 [2, 3] ?_
        | refine aw_sregK 9 [2, 3] ?_
        | refine aw_regK 9 [2, 3] ?_
        | refine aw_sregK 11 [2, 3] ?_
        | refine aw_regK 11 [2, 3] ?_
        | refine aw_sreg ?_
        | refine aw_sregD mixed ?_
        | refine aw_ifT (b := true) rfl rfl ?_
        | refine aw_ifF (b := false) rfl rfl ?_
        | refine aw_ifT rfl (by assumption) ?_
        | refine aw_ifF rfl (by assumption) ?_
        | refine aw_ifT rfl (decide_eq_true (by assumption)) ?_
        | refine aw_ifF rfl (decide_eq_false (by assumption)) ?_
        | refine aw_seq ?_
        | refine aw_block ?_
        | refine aw_skip ?_
        | refine aw_region ?_
        | refine aw_region_draw mixed ?_
        | refine aw_exit ?_
        | refine rq_exit ?_
        | refine blockQ_hit ?_
        | refine blockQ_miss (by decide) ?_)
def OusOk (l : List Ou) : Prop := l.length ≤ 1000 ∧ ∀ o ∈ l, OuOk o
set_option maxHeartbeats 16000000 in
theorem c_SameT [Trk] {l : List Ou} (h : OusOk l) : SC Tryd.prog 21 [.pv (.sl 2 (ousL l)), .pv (.sl 2 (ousL l))] (B true) := by
  have hM : maxLen = 9223372036854775807 := rfl
  obtain ⟨h1, h2⟩ := h
  refine scx_of Tryd.func21 rfl rfl rfl (Nat.le_of_ble_eq_true rfl) ?_
  repeat' (first
    | refine ar_end rfl ?_
    | refine ar_endD rfl (by kernel_rfl) ?_
    | refine ar_fin rfl ?_
    | refine ar_finD rfl (by kernel_rfl) ?_
    | refine ar_go3 _ rfl (by simp [ints_len, ints_getE, rgL_len, rgL_getE, atsL_len, atsL_getE, cosL_len, cosL_getE, ousL_len, ousL_getE, atC, ouC, coC]; exact ⟨rfl, rfl, rfl⟩) rfl ?_
    | refine aw_sregK 0 [0, 1] ?_
    | refine aw_regK 0 [0, 1] ?_
    | refine aw_sregK 1 [0, 1] ?_
    | refine aw_regK 1 [0, 1] ?_
    | refine aw_sregK 3 [0, 1] ?_
    | refine aw_regK 3 [0, 1] ?_
    | refine aw_sreg ?_
    | refine aw_sregD mixed ?_
    | refine aw_ifT (b := true) rfl rfl ?_
    | refine aw_ifF (b := false) rfl rfl ?_
    | refine aw_ifT rfl (by assumption) ?_
    | refine aw_ifF rfl (by assumption) ?_
    | refine aw_ifT rfl (decide_eq_true (by assumption)) ?_
    | refine aw_ifF rfl (decide_eq_false (by assumption)) ?_
    | refine aw_seq ?_
    | refine aw_block ?_
    | refine aw_skip ?_
    | refine aw_region ?_
    | refine aw_region_draw mixed ?_
    | refine aw_exit ?_
    | refine rq_exit ?_
    | refine blockQ_hit ?_
    | refine blockQ_miss (by decide) ?_)
  refine aw_loopN [0, 1, 5] [] (by simp; exact rfl) (ι := {i : Nat // i ≤ l.length}) (fun i => ⟨27, [(0, .pv (.sl 2 (ousL l))), (1, .pv (.sl 2 (ousL l))), (5, I .i64 i.1)], []⟩) (fun i => l.length - i.1) ⟨0, by omega⟩ (by simp) ?_
  rintro ⟨i, hi⟩
  by_cases hlt : i < l.length
  · have hd : (i : Int) < (l.length : Int) := by omega
    have hw : IntKind.wrap .i64 ((i : Int) + 1) = (i : Int) + 1 := wrap64s (by omega) (by omega)
    have hx2 := h2 _ (List.getElem_mem hlt)
    have hC := c_rCompare hx2 hx2
    rw [cmp_ord.refl] at hC
    generalize hx : l[i] = x at *
    repeat' (first
      | refine ar_end rfl ?_
      | refine ar_endD rfl (by kernel_rfl) ?_
      | refine ar_fin rfl ?_
      | refine ar_finD rfl (by kernel_rfl) ?_
      | refine ar_callV Tryd.call20 hC rfl rfl rfl rfl rfl (by simp; done) (by rfl) (by simp; done) ?_
      | refine ar_callV_if Tryd.call20 hC rfl rfl rfl rfl rfl rfl (by simp; done) rfl (by rfl) (by simp; done) ?_
      | refine bq_norm ?_
      | refine lq_normN [0, 1, 5] [] (by simp; exact rfl) ⟨i + 1, by omega⟩ (by dsimp only; omega) (by simp [])
      | refine ar_go3 _ rfl (by simp [ints_len, ints_getE, rgL_len, rgL_getE, atsL_len, atsL_getE, cosL_len, cosL_getE, ousL_len, ousL_getE, atC, ouC, coC, hd, hlt, hx, hw]; exact ⟨rfl, rfl, rfl⟩) rfl ?_
      | refine aw_sregK 4 [0, 1, 5] ?_
      | refine aw_regK 4 [0, 1, 5] ?_
      | refine aw_sregK 5 [0, 1, 5] ?_
      | refine aw_regK 5 [0, 1, 5] ?_
      | refine aw_sregKD mixed 6 [0, 1, 5] (by simp; exact rfl) ?_
      | refine aw_regKD mixed 6 [0, 1, 5] (by simp; exact rfl) ?_
      | refine aw_sreg ?_
      | refine aw_sregD mixed ?_
      | refine aw_ifT (b := true) rfl rfl ?_
      | refine aw_ifF (b := false) rfl rfl ?_
      | refine aw_ifT rfl (by assumption) ?_
      | refine aw_ifF rfl (by assumption) ?_
      | refine aw_ifT rfl (decide_eq_true (by assumption)) ?_
      | refine aw_ifF rfl (decide_eq_false (by assumption)) ?_
      | refine aw_seq ?_
      | refine aw_block ?_
      | refine aw_skip ?_
      | refine aw_region ?_
      | refine aw_region_draw mixed ?_
      | refine aw_exit ?_
      | refine rq_exit ?_
      | refine blockQ_hit ?_
      | refine blockQ_miss (by decide) ?_)
  have hd : ¬(i : Int) < (l.length : Int) := by omega
  repeat' (first
    | exact aw_ret (ret_vals (by simp; exact rfl) (by simp [*]; fail_if_success (show _)))
    | exact aw_ret (ret_vals (by simp; exact rfl) (by simp [*]; omega))
    | refine ar_end rfl ?_
    | refine ar_endD rfl (by kernel_rfl) ?_
    | refine ar_fin rfl ?_
    | refine ar_finD rfl (by kernel_rfl) ?_
    | refine lq_exit ?_
    | refine ar_go3 _ rfl (by simp [ints_len, ints_getE, rgL_len, rgL_getE, atsL_len, atsL_getE, cosL_len, cosL_getE, ousL_len, ousL_getE, atC, ouC, coC, hd]; exact ⟨rfl, rfl, rfl⟩) rfl ?_
    | refine aw_sregK 4 [0, 1, 5] ?_
    | refine aw_regK 4 [0, 1, 5] ?_
    | refine aw_sregK 8 [] ?_
    | refine aw_regK 8 [] ?_
    | refine aw_sreg ?_
    | refine aw_sregD mixed ?_
    | refine aw_ifT (b := true) rfl rfl ?_
    | refine aw_ifF (b := false) rfl rfl ?_
    | refine aw_ifT rfl (by assumption) ?_
    | refine aw_ifF rfl (by assumption) ?_
    | refine aw_ifT rfl (decide_eq_true (by assumption)) ?_
    | refine aw_ifF rfl (decide_eq_false (by assumption)) ?_
    | refine aw_seq ?_
    | refine aw_block ?_
    | refine aw_skip ?_
    | refine aw_region ?_
    | refine aw_region_draw mixed ?_
    | refine aw_exit ?_
    | refine rq_exit ?_
    | refine blockQ_hit ?_
    | refine blockQ_miss (by decide) ?_)
set_option maxHeartbeats 16000000 in
theorem c_SubT [Trk] {a b : List Ou} (ha : OusOk a) (hb : OusOk b) (hs : ∀ x ∈ a, x ∈ b) : SC Tryd.prog 24 [.pv (.sl 2 (ousL a)), .pv (.sl 2 (ousL b))] (B true) := by
  have hM : maxLen = 9223372036854775807 := rfl
  obtain ⟨a1, a2⟩ := ha
  obtain ⟨b1, b2⟩ := hb
  refine scx_of Tryd.func24 rfl rfl rfl (Nat.le_of_ble_eq_true rfl) ?_
  repeat' (first
    | refine ar_end rfl ?_
    | refine ar_endD rfl (by kernel_rfl) ?_
    | refine ar_fin rfl ?_
    | refine ar_finD rfl (by kernel_rfl) ?_
    | refine ar_go3 _ rfl (by simp [ints_len, ints_getE, rgL_len, rgL_getE, atsL_len, atsL_getE, cosL_len, cosL_getE, ousL_len, ousL_getE, atC, ouC, coC]; exact ⟨rfl, rfl, rfl⟩) rfl ?_
    | refine aw_sregK 0 [0, 1] ?_
    | refine aw_regK 0 [0, 1] ?_
    | refine aw_sregK 1 [0, 1] ?_
    | refine aw_regK 1 [0, 1] ?_
    | refine aw_sreg ?_
    | refine aw_sregD mixed ?_
    | refine aw_ifT (b := true) rfl rfl ?_
    | refine aw_ifF (b := false) rfl rfl ?_
    | refine aw_ifT rfl (by assumption) ?_
    | refine aw_ifF rfl (by assumption) ?_
    | refine aw_ifT rfl (decide_eq_true (by assumption)) ?_
    | refine aw_ifF rfl (decide_eq_false (by assumption)) ?_
    | refine aw_seq ?_
    | refine aw_block ?_
    | refine aw_skip ?_
    | refine aw_region ?_
    | refine aw_region_draw mixed ?_
    | refine aw_exit ?_
    | refine rq_exit ?_
    | refine blockQ_hit ?_
    | refine blockQ_miss (by decide) ?_)
  refine aw_loopN [0, 1, 5] [] (by simp; exact rfl) (ι := {i : Nat // i ≤ a.length}) (fun i => ⟨36, [(0, .pv (.sl 2 (ousL a))), (1, .pv (.sl 2 (ousL b))), (5, I .i64 i.1)], []⟩) (fun i => a.length - i.1) ⟨0, by omega⟩ (by simp) ?_
  rintro ⟨i, hi⟩
  by_cases hlt : i < a.length
  · have hd : (i : Int) < (a.length : Int) := by omega
    have hw : IntKind.wrap .i64 ((i : Int) + 1) = (i : Int) + 1 := wrap64s (by omega) (by omega)
    have hxo := a2 _ (List.getElem_mem hlt)
    have hxb := hs _ (List.getElem_mem hlt)
    generalize hx : a[i] = x at *
    repeat' (first
      | refine ar_end rfl ?_
      | refine ar_endD rfl (by kernel_rfl) ?_
      | refine ar_fin rfl ?_
      | refine ar_finD rfl (by kernel_rfl) ?_
      | refine ar_go3 _ rfl (by simp [ints_len, ints_getE, rgL_len, rgL_getE, atsL_len, atsL_getE, cosL_len, cosL_getE, ousL_len, ousL_getE, atC, ouC, coC, hd]; exact ⟨rfl, rfl, rfl⟩) rfl ?_
      | refine aw_sregK 2 [0, 1, 5] ?_
      | refine aw_regK 2 [0, 1, 5] ?_
      | refine aw_sregK 4 [0, 1, 5] ?_
      | refine aw_regK 4 [0, 1, 5] ?_
      | refine aw_sregK 5 [0, 1, 5, 6] ?_
      | refine aw_regK 5 [0, 1, 5, 6] ?_
      | refine aw_sreg ?_
      | refine aw_sregD mixed ?_
      | refine aw_ifT (b := true) rfl rfl ?_
      | refine aw_ifF (b := false) rfl rfl ?_
      | refine aw_ifT rfl (by assumption) ?_
      | refine aw_ifF rfl (by assumption) ?_
      | refine aw_ifT rfl (decide_eq_true (by assumption)) ?_
      | refine aw_ifF rfl (decide_eq_false (by assumption)) ?_
      | refine aw_seq ?_
      | refine aw_block ?_
      | refine aw_skip ?_
      | refine aw_region ?_
      | refine aw_region_draw mixed ?_
      | refine aw_exit ?_
      | refine rq_exit ?_
      | refine blockQ_hit ?_
      | refine blockQ_miss (by decide) ?_)
    refine aw_loopN [0, 1, 5, 6, 7] [] (by simp; exact rfl) (ι := {p : Nat × Bool // p.1 ≤ b.length ∧ (p.2 = false → ∀ j, (h : j < p.1) → (h2 : j < b.length) → b[j] ≠ x)}) (fun p => ⟨36, [(0, .pv (.sl 2 (ousL a))), (1, .pv (.sl 2 (ousL b))), (5, I .i64 i), (6, B p.1.2), (7, I .i64 p.1.1)], []⟩) (fun p => b.length - p.1.1) ⟨(0, false), by omega, by intro _ j h; omega⟩ (by simp) ?_
    rintro ⟨⟨k, is⟩, hk, hno⟩
    dsimp only at hk hno ⊢
    cases is
    · by_cases hkl : k < b.length
      · have hd2 : (k : Int) < (b.length : Int) := by omega
        have hw2 : IntKind.wrap .i64 ((k : Int) + 1) = (k : Int) + 1 := wrap64s (by omega) (by omega)
        have hC := c_rCompare hxo (b2 _ (List.getElem_mem hkl))
        have hno2 : decide (cmpF x b[k] = 0) = false → ∀ j, (h : j < k + 1) → (h2 : j < b.length) → b[j] ≠ x := fun hv j h h2 e => by
          by_cases ej : j = k
          · subst ej
            rw [e] at hv
            exact absurd (cmp_ord.refl x) (of_decide_eq_false hv)
          · exact hno rfl j (by omega) h2 e
        generalize hy : b[k] = y at *
        generalize cmpF x y = v at *
        repeat' (first
          | refine ar_end rfl ?_
          | refine ar_endD rfl (by kernel_rfl) ?_
          | refine ar_fin rfl ?_
          | refine ar_finD rfl (by kernel_rfl) ?_
          | refine ar_callV Tryd.call20 hC rfl rfl rfl rfl rfl (by simp; done) (by rfl) (by simp; done) ?_
          | refine ar_callV_if Tryd.call20 hC rfl rfl rfl rfl rfl rfl (by simp; done) rfl (by rfl) (by simp; done) ?_
          | refine bq_norm ?_
          | refine lq_normN [0, 1, 5, 6, 7] [] (by simp; exact rfl) ⟨(k + 1, decide (v = 0)), by dsimp only; omega, hno2⟩ (by dsimp only; omega) (by simp [])
          | refine ar_go3 _ rfl (by simp [ints_len, ints_getE, rgL_len, rgL_getE, atsL_len, atsL_getE, cosL_len, cosL_getE, ousL_len, ousL_getE, atC, ouC, coC, hd, hlt, hx, hd2, hkl, hy, hw2]; exact ⟨rfl, rfl, rfl⟩) rfl ?_
          | refine aw_sregK 6 [0, 1, 5, 6, 7] ?_
          | refine aw_regK 6 [0, 1, 5, 6, 7] ?_
          | refine aw_sregK 7 [0, 1, 5, 6, 7] ?_
          | refine aw_regK 7 [0, 1, 5, 6, 7] ?_
          | refine aw_sregKD mixed 8 [0, 1, 5, 7] (by simp; exact rfl) ?_
          | refine aw_regKD mixed 8 [0, 1, 5, 7] (by simp; exact rfl) ?_
          | refine aw_sreg ?_
          | refine aw_sregD mixed ?_
          | refine aw_ifT (b := true) rfl rfl ?_
          | refine aw_ifF (b := false) rfl rfl ?_
          | refine aw_ifT rfl (by assumption) ?_
          | refine aw_ifF rfl (by assumption) ?_
          | refine aw_ifT rfl (decide_eq_true (by assumption)) ?_
          | refine aw_ifF rfl (decide_eq_false (by assumption)) ?_
          | refine aw_seq ?_
          | refine aw_block ?_
          | refine aw_skip ?_
          | refine aw_region ?_
          | refine aw_region_draw mixed ?_
          | refine aw_exit ?_
          | refine rq_exit ?_
          | refine blockQ_hit ?_
          | refine blockQ_miss (by decide) ?_)
      · obtain ⟨j, hj, e⟩ := List.mem_iff_getElem.1 hxb
        exact absurd e (hno rfl j (by omega) hj)
    ·
      repeat' (first
        | refine ar_end rfl ?_
        | refine ar_endD rfl (by kernel_rfl) ?_
        | refine ar_fin rfl ?_
        | refine ar_finD rfl (by kernel_rfl) ?_
        | refine lq_exit ?_
        | refine bq_norm ?_
        | refine lq_normN [0, 1, 5] [] (by simp; exact rfl) ⟨i + 1, by omega⟩ (by dsimp only; omega) (by simp [])
        | refine ar_go3 _ rfl (by simp [ints_len, ints_getE, rgL_len, rgL_getE, atsL_len, atsL_getE, cosL_len, cosL_getE, ousL_len, ousL_getE, atC, ouC, coC, hw]; exact ⟨rfl, rfl, rfl⟩) rfl ?_
        | refine aw_sregK 3 [0, 1, 5] ?_
        | refine aw_regK 3 [0, 1, 5] ?_
        | refine aw_sregK 6 [0, 1, 5, 6, 7] ?_
        | refine aw_regK 6 [0, 1, 5, 6, 7] ?_
        | refine aw_sregK 9 [0, 1, 5, 6] ?_
        | refine aw_regK 9 [0, 1, 5, 6] ?_
        | refine aw_sreg ?_
        | refine aw_sregD mixed ?_
        | refine aw_ifT (b := true) rfl rfl ?_
        | refine aw_ifF (b := false) rfl rfl ?_
        | refine aw_ifT rfl (by assumption) ?_
        | refine aw_ifF rfl (by assumption) ?_
        | refine aw_ifT rfl (decide_eq_true (by assumption)) ?_
        | refine aw_ifF rfl (decide_eq_false (by assumption)) ?_
        | refine aw_seq ?_
        | refine aw_block ?_
        | refine aw_skip ?_
        | refine aw_region ?_
        | refine aw_region_draw mixed ?_
        | refine aw_exit ?_
        | refine rq_exit ?_
        | refine blockQ_hit ?_
        | refine blockQ_miss (by decide) ?_
        | (refine ar_guard rfl rfl rfl rfl (fun h => ?_) (fun h => ?_) <;> (fail_if_success (cases h; done)) <;> (try simp at h) <;> (try subst h))
        | (refine aw_both rfl (fun h => ?_) (fun h => ?_) <;> (fail_if_success (cases h; done)) <;> (try simp at h) <;> (try subst h)))
  have hd : ¬(i : Int) < (a.length : Int) := by omega
  repeat' (first
    | exact aw_ret (ret_vals (by simp; exact rfl) (by simp [*]; fail_if_success (show _)))
    | exact aw_ret (ret_vals (by simp; exact rfl) (by simp [*]; omega))
    | refine ar_end rfl ?_
    | refine ar_endD rfl (by kernel_rfl) ?_
    | refine ar_fin rfl ?_
    | refine ar_finD rfl (by kernel_rfl) ?_
    | refine lq_exit ?_
    | refine ar_go3 _ rfl (by simp [ints_len, ints_getE, rgL_len, rgL_getE, atsL_len, atsL_getE, cosL_len, cosL_getE, ousL_len, ousL_getE, atC, ouC, coC, hd]; exact ⟨rfl, rfl, rfl⟩) rfl ?_
    | refine aw_sregK 2 [0, 1, 5] ?_
    | refine aw_regK 2 [0, 1, 5] ?_
    | refine aw_sregK 11 [] ?_
    | refine aw_regK 11 [] ?_
    | refine aw_sreg ?_
    | refine aw_sregD mixed ?_
    | refine aw_ifT (b := true) rfl rfl ?_
    | refine aw_ifF (b := false) rfl rfl ?_
    | refine aw_ifT rfl (by assumption) ?_
    | refine aw_ifF rfl (by assumption) ?_
    | refine aw_ifT rfl (decide_eq_true (by assumption)) ?_
    | refine aw_ifF rfl (decide_eq_false (by assumption)) ?_
    | refine aw_seq ?_
    | refine aw_block ?_
    | refine aw_skip ?_
    | refine aw_region ?_
    | refine aw_region_draw mixed ?_
    | refine aw_exit ?_
    | refine rq_exit ?_
    | refine blockQ_hit ?_
    | refine blockQ_miss (by decide) ?_)
theorem ousL_take [Trk] (l : List Ou) (k : Nat) : (ousL l).take k = ousL (l.take k) := by unfold ousL; rw [List.map_take]
theorem ousL_drop [Trk] (l : List Ou) (k : Nat) : (ousL l).drop k = ousL (l.drop k) := by unfold ousL; rw [List.map_drop]
theorem ousL_app [Trk] (a b : List Ou) : ousL (a ++ b) = ousL a ++ ousL b := by unfold ousL; rw [List.map_append]
theorem ousL_cons [Trk] (x : Ou) (b : List Ou) : ousL (x :: b) = ouC x :: ousL b := rfl
theorem ousL_nil [Trk] : ousL [] = [] := rfl
set_option maxHeartbeats 16000000 in
theorem c_Put [Trk] {l : List Ou} {o : Ou} (hl : OusOk l) (ho : OuOk o) : SC Tryd.prog 46 [.pv (.sl 2 (ousL l)), .agg (ouC o)] (.pv (.sl 2 (ousL (putO l o)))) := by
  have hM : maxLen = 9223372036854775807 := rfl
  obtain ⟨l1, l2⟩ := hl
  refine scx_of Tryd.func46 rfl rfl rfl (Nat.le_of_ble_eq_true rfl) ?_
  repeat' (first
    | refine ar_end rfl ?_
    | refine ar_endD rfl (by kernel_rfl) ?_
    | refine ar_fin rfl ?_
    | refine ar_finD rfl (by kernel_rfl) ?_
    | refine ar_go3 _ rfl (by simp [ints_len, ints_getE, rgL_len, rgL_getE, atsL_len, atsL_getE, cosL_len, cosL_getE, ousL_len, ousL_getE, atC, ouC, coC]; exact ⟨rfl, rfl, rfl⟩) rfl ?_
    | refine aw_sregK 0 [0, 1] ?_
    | refine aw_regK 0 [0, 1] ?_
    | refine aw_sregK 1 [0, 3] ?_
    | refine aw_regK 1 [0, 3] ?_
    | refine aw_sreg ?_
    | refine aw_sregD mixed ?_
    | refine aw_ifT (b := true) rfl rfl ?_
    | refine aw_ifF (b := false) rfl rfl ?_
    | refine aw_ifT rfl (by assumption) ?_
    | refine aw_ifF rfl (by assumption) ?_
    | refine aw_ifT rfl (decide_eq_true (by assumption)) ?_
    | refine aw_ifF rfl (decide_eq_false (by assumption)) ?_
    | refine aw_seq ?_
    | refine aw_block ?_
    | refine aw_skip ?_
    | refine aw_region ?_
    | refine aw_region_draw mixed ?_
    | refine aw_exit ?_
    | refine rq_exit ?_
    | refine blockQ_hit ?_
    | refine blockQ_miss (by decide) ?_)
  refine aw_loopN [0, 3, 5] [.loc 3] (by simp; exact rfl) (ι := {k : Nat // k ≤ l.length ∧ ∀ j, (h : j < k) → (h2 : j < l.length) → cmpF l[j] o < 0}) (fun k => ⟨51, [(0, .pv (.sl 2 (ousL l))), (3, .ptr (.loc 3) 0), (5, I .i64 k.1)], [(.loc 3, some (.box 30 [.pv (.sl 1 (rgL o.rg)), .pv (.sl 1 (ints o.mem))]))]⟩) (fun k => l.length - k.1) ⟨0, by omega, by omega⟩ (by simp) ?_
  rintro ⟨k, hk, hlo⟩
  by_cases hlt : k < l.length
  · have hd : (k : Int) < (l.length : Int) := by omega
    have hw : IntKind.wrap .i64 ((k : Int) + 1) = (k : Int) + 1 := wrap64s (by omega) (by omega)
    have hC := c_rCompare (l2 _ (List.getElem_mem hlt)) ho
    by_cases hv : cmpF l[k] o < 0
    · have hlo2 : ∀ j, (h : j < k + 1) → (h2 : j < l.length) → cmpF l[j] o < 0 := fun j h h2 => by
        by_cases ej : j = k
        · subst ej; exact hv
        · exact hlo j (by omega) h2
      generalize hx : l[k] = x at *
      generalize cmpF x o = v at *
      repeat' (first
        | refine ar_end rfl ?_
        | refine ar_endD rfl (by kernel_rfl) ?_
        | refine ar_fin rfl ?_
        | refine ar_finD rfl (by kernel_rfl) ?_
        | refine ar_callV Tryd.call20 hC rfl rfl rfl rfl rfl (by simp; done) (by rfl) (by simp; done) ?_
        | refine ar_callV_if Tryd.call20 hC rfl rfl rfl rfl rfl rfl (by simp; done) rfl (by rfl) (by simp; done) ?_
        | refine bq_norm ?_
        | refine lq_normN [0, 3, 5] [.loc 3] (by simp; exact rfl) ⟨k + 1, by omega, hlo2⟩ (by dsimp only; omega) (by simp [])
        | refine ar_go3 _ rfl (by simp [ints_len, ints_getE, rgL_len, rgL_getE, atsL_len, atsL_getE, cosL_len, cosL_getE, ousL_len, ousL_getE, atC, ouC, coC, hd, hlt, hx, hv, hw]; exact ⟨rfl, rfl, rfl⟩) rfl ?_
        | refine aw_sregKD mixed 2 [0, 3, 5] (by simp; exact rfl) ?_
        | refine aw_regKD mixed 2 [0, 3, 5] (by simp; exact rfl) ?_
        | refine aw_sregK 3 [0, 3, 5] ?_
        | refine aw_regK 3 [0, 3, 5] ?_
        | refine aw_sreg ?_
        | refine aw_sregD mixed ?_
        | refine aw_ifT (b := true) rfl rfl ?_
        | refine aw_ifF (b := false) rfl rfl ?_
        | refine aw_ifT rfl (by assumption) ?_
        | refine aw_ifF rfl (by assumption) ?_
        | refine aw_ifT rfl (decide_eq_true (by assumption)) ?_
        | refine aw_ifF rfl (decide_eq_false (by assumption)) ?_
        | refine aw_seq ?_
        | refine aw_block ?_
        | refine aw_skip ?_
        | refine aw_region ?_
        | refine aw_region_draw mixed ?_
        | refine aw_exit ?_
        | refine rq_exit ?_
        | refine blockQ_hit ?_
        | refine blockQ_miss (by decide) ?_)
    · have hp := put_at (o := o) hk (fun j h => hlo j h (by omega)) (fun _ => hv)
      rw [dif_pos hlt] at hp
      have htl : (l.take k).length = k := by rw [List.length_take]; omega
      have hdl : (l.drop k).length = l.length - k := List.length_drop
      generalize hx : l[k] = x at *
      generalize cmpF x o = v at *
      by_cases hz : v = 0
      · rw [if_pos hz] at hp
        rw [hp]
        subst hz
        repeat' (first
          | exact aw_ret (ret_vals (by simp; exact rfl) (by simp [*]; fail_if_success (show _)))
          | exact aw_ret (ret_vals (by simp; exact rfl) (by simp [*]; omega))
          | refine ar_end rfl ?_
          | refine ar_endD rfl (by kernel_rfl) ?_
          | refine ar_fin rfl ?_
          | refine ar_finD rfl (by kernel_rfl) ?_
          | refine ar_callV Tryd.call20 hC rfl rfl rfl rfl rfl (by simp; done) (by rfl) (by simp; done) ?_
          | refine ar_callV_if Tryd.call20 hC rfl rfl rfl rfl rfl rfl (by simp; done) rfl (by rfl) (by simp; done) ?_
          | refine lq_exit ?_
          | refine ar_go3 _ rfl (by simp [ints_len, ints_getE, rgL_len, rgL_getE, atsL_len, atsL_getE, cosL_len, cosL_getE, ousL_len, ousL_getE, atC, ouC, coC, hd, hlt, hx]; exact ⟨rfl, rfl, rfl⟩) rfl ?_
          | refine aw_sregKD mixed 2 [0, 3, 5] (by simp; exact rfl) ?_
          | refine aw_regKD mixed 2 [0, 3, 5] (by simp; exact rfl) ?_
          | refine aw_sregKD mixed 4 [0, 3, 5] (by simp; exact rfl) ?_
          | refine aw_regKD mixed 4 [0, 3, 5] (by simp; exact rfl) ?_
          | refine aw_sregK 5 [0] ?_
          | refine aw_regK 5 [0] ?_
          | refine aw_sreg ?_
          | refine aw_sregD mixed ?_
          | refine aw_ifT (b := true) rfl rfl ?_
          | refine aw_ifF (b := false) rfl rfl ?_
          | refine aw_ifT rfl (by assumption) ?_
          | refine aw_ifF rfl (by assumption) ?_
          | refine aw_ifT rfl (decide_eq_true (by assumption)) ?_
          | refine aw_ifF rfl (decide_eq_false (by assumption)) ?_
          | refine aw_seq ?_
          | refine aw_block ?_
          | refine aw_skip ?_
          | refine aw_region ?_
          | refine aw_region_draw mixed ?_
          | refine aw_exit ?_
          | refine rq_exit ?_
          | refine blockQ_hit ?_
          | refine blockQ_miss (by decide) ?_)
      · rw [if_neg hz] at hp
        rw [hp]
        have hkn : ¬l.length < k := by omega
        have hle : (k : Int) ≤ (l.length : Int) := by omega
        repeat' (first
          | refine ar_end rfl ?_
          | refine ar_endD rfl (by kernel_rfl) ?_
          | refine ar_fin rfl ?_
          | refine ar_finD rfl (by kernel_rfl) ?_
          | refine ar_callV Tryd.call20 hC rfl rfl rfl rfl rfl (by simp; done) (by rfl) (by simp; done) ?_
          | refine ar_callV_if Tryd.call20 hC rfl rfl rfl rfl rfl rfl (by simp; done) rfl (by rfl) (by simp; done) ?_
          | refine lq_exit ?_
          | refine ar_appO rfl rfl rfl rfl rfl (by simp; exact rfl) rfl (by simp; exact rfl) (by simp; exact rfl) (by simp; exact ⟨rfl, rfl⟩) rfl (by simp; exact rfl) (by simp; done) (by decide) (by simp [ousL_len, ousL_take, ousL_drop, htl, hdl, maxLen]; try omega) ?_
          | exact aw_ret (ret_frz (.loc 49) (by simp; exact rfl) (by simp [ousL_take, ousL_drop, ousL_app, ousL_cons, ousL_nil, ouC]; fail_if_success (show _)))
          | refine ar_go3 _ rfl (by simp [ints_len, ints_getE, rgL_len, rgL_getE, atsL_len, atsL_getE, cosL_len, cosL_getE, ousL_len, ousL_getE, atC, ouC, coC, ousL_take, ousL_drop, hd, hlt, hx, hv, hz, hle, hk]; exact ⟨rfl, rfl, rfl⟩) rfl ?_
          | refine aw_sregKD mixed 2 [0, 3, 5] (by simp; exact rfl) ?_
          | refine aw_regKD mixed 2 [0, 3, 5] (by simp; exact rfl) ?_
          | refine aw_sregKD mixed 4 [0, 3, 5] (by simp; exact rfl) ?_
          | refine aw_regKD mixed 4 [0, 3, 5] (by simp; exact rfl) ?_
          | refine aw_sregK 6 [0, 3, 5] ?_
          | refine aw_regK 6 [0, 3, 5] ?_
          | refine aw_sregK 7 [0, 3, 5, 6] ?_
          | refine aw_regK 7 [0, 3, 5, 6] ?_
          | refine aw_sregK 8 [0, 5, 6] ?_
          | refine aw_regK 8 [0, 5, 6] ?_
          | refine aw_sregK 9 [6] ?_
          | refine aw_regK 9 [6] ?_
          | refine aw_sreg ?_
          | refine aw_sregD mixed ?_
          | refine aw_ifT (b := true) rfl rfl ?_
          | refine aw_ifF (b := false) rfl rfl ?_
          | refine aw_ifT rfl (by assumption) ?_
          | refine aw_ifF rfl (by assumption) ?_
          | refine aw_ifT rfl (decide_eq_true (by assumption)) ?_
          | refine aw_ifF rfl (decide_eq_false (by assumption)) ?_
          | refine aw_seq ?_
          | refine aw_block ?_
          | refine aw_skip ?_
          | refine aw_region ?_
          | refine aw_region_draw mixed ?_
          | refine aw_exit ?_
          | refine rq_exit ?_
          | refine blockQ_hit ?_
          | refine blockQ_miss (by decide) ?_)
  · have hp := put_at (o := o) hk (fun j h => hlo j h (by omega)) (fun h => absurd h hlt)
    rw [dif_neg hlt] at hp
    have hd : ¬(k : Int) < (l.length : Int) := by omega
    have hke : k = l.length := by omega
    subst hke
    have htk : l.take l.length = l := List.take_length
    have hdk : l.drop l.length = [] := List.drop_length
    rw [hp]
    repeat' (first
      | refine ar_end rfl ?_
      | refine ar_endD rfl (by kernel_rfl) ?_
      | refine ar_fin rfl ?_
      | refine ar_finD rfl (by kernel_rfl) ?_
      | refine lq_exit ?_
      | refine ar_appO rfl rfl rfl rfl rfl (by simp; exact rfl) rfl (by simp; exact rfl) (by simp; exact rfl) (by simp; exact ⟨rfl, rfl⟩) rfl (by simp; exact rfl) (by simp; done) (by decide) (by simp [ousL_len, ousL_take, ousL_drop, htk, hdk, maxLen]; try omega) ?_
      | exact aw_ret (ret_frz (.loc 49) (by simp; exact rfl) (by simp [ousL_take, ousL_drop, htk, hdk, ousL_app, ousL_cons, ousL_nil, ouC]; fail_if_success (show _)))
      | refine ar_go3 _ rfl (by simp [ints_len, ints_getE, rgL_len, rgL_getE, atsL_len, atsL_getE, cosL_len, cosL_getE, ousL_len, ousL_getE, atC, ouC, coC, ousL_take, ousL_drop, htk, hdk, hd]; exact ⟨rfl, rfl, rfl⟩) rfl ?_
      | refine aw_sregKD mixed 2 [0, 3, 5] (by simp; exact rfl) ?_
      | refine aw_regKD mixed 2 [0, 3, 5] (by simp; exact rfl) ?_
      | refine aw_sregKD mixed 4 [0, 3, 5] (by simp; exact rfl) ?_
      | refine aw_regKD mixed 4 [0, 3, 5] (by simp; exact rfl) ?_
      | refine aw_sregK 6 [0, 3, 5] ?_
      | refine aw_regK 6 [0, 3, 5] ?_
      | refine aw_sregK 7 [0, 3, 5, 6] ?_
      | refine aw_regK 7 [0, 3, 5, 6] ?_
      | refine aw_sregK 8 [0, 5, 6] ?_
      | refine aw_regK 8 [0, 5, 6] ?_
      | refine aw_sregK 9 [6] ?_
      | refine aw_regK 9 [6] ?_
      | refine aw_sreg ?_
      | refine aw_sregD mixed ?_
      | refine aw_ifT (b := true) rfl rfl ?_
      | refine aw_ifF (b := false) rfl rfl ?_
      | refine aw_ifT rfl (by assumption) ?_
      | refine aw_ifF rfl (by assumption) ?_
      | refine aw_ifT rfl (decide_eq_true (by assumption)) ?_
      | refine aw_ifF rfl (decide_eq_false (by assumption)) ?_
      | refine aw_seq ?_
      | refine aw_block ?_
      | refine aw_skip ?_
      | refine aw_region ?_
      | refine aw_region_draw mixed ?_
      | refine aw_exit ?_
      | refine rq_exit ?_
      | refine blockQ_hit ?_
      | refine blockQ_miss (by decide) ?_)
theorem foldl_len [Trk] (l : List Ou) : ∀ s : List Ou, (l.foldl putO s).length ≤ s.length + l.length := by
  induction l with
  | nil => intro s; simp
  | cons x l ih =>
    intro s
    have h1 := ih (putO s x)
    have h2 := putO_len s x
    rw [List.foldl_cons, List.length_cons]
    omega
theorem setO_ok [Trk] {l : List Ou} (h : OusOk l) : OusOk (setO l) := by
  have h1 := foldl_len l []
  have h0 := h.1
  rw [List.length_nil] at h1
  exact ⟨by unfold setO; omega, fun o ho => h.2 o ((setO_mem l o).1 ho)⟩
theorem OusOk.take [Trk] {l : List Ou} (h : OusOk l) (k : Nat) : OusOk (l.take k) := ⟨by have := h.1; rw [List.length_take]; omega, fun o ho => h.2 o (List.mem_of_mem_take ho)⟩
set_option maxHeartbeats 16000000 in
theorem c_rSet [Trk] {l : List Ou} (hl : OusOk l) : SC Tryd.prog 23 [.pv (.sl 2 (ousL l))] (.pv (.sl 2 (ousL (setO l)))) := by
  have hM : maxLen = 9223372036854775807 := rfl
  have hl1 := hl.1
  refine scx_of Tryd.func23 rfl rfl rfl (Nat.le_of_ble_eq_true rfl) ?_
  repeat' (first
    | refine ar_end rfl ?_
    | refine ar_endD rfl (by kernel_rfl) ?_
    | refine ar_fin rfl ?_
    | refine ar_finD rfl (by kernel_rfl) ?_
    | refine ar_go3 _ rfl (by simp [ints_len, ints_getE, rgL_len, rgL_getE, atsL_len, atsL_getE, cosL_len, cosL_getE, ousL_len, ousL_getE, atC, ouC, coC]; exact ⟨rfl, rfl, rfl⟩) rfl ?_
    | refine aw_sregK 0 [0] ?_
    | refine aw_regK 0 [0] ?_
    | refine aw_sregK 1 [0] ?_
    | refine aw_regK 1 [0] ?_
    | refine aw_sregK 2 [0, 3] ?_
    | refine aw_regK 2 [0, 3] ?_
    | refine aw_sreg ?_
    | refine aw_sregD mixed ?_
    | refine aw_ifT (b := true) rfl rfl ?_
    | refine aw_ifF (b := false) rfl rfl ?_
    | refine aw_ifT rfl (by assumption) ?_
    | refine aw_ifF rfl (by assumption) ?_
    | refine aw_ifT rfl (decide_eq_true (by assumption)) ?_
    | refine aw_ifF rfl (decide_eq_false (by assumption)) ?_
    | refine aw_seq ?_
    | refine aw_block ?_
    | refine aw_skip ?_
    | refine aw_region ?_
    | refine aw_region_draw mixed ?_
    | refine aw_exit ?_
    | refine rq_exit ?_
    | refine blockQ_hit ?_
    | refine blockQ_miss (by decide) ?_)
  refine aw_nilS 3 2 (by simp; exact rfl) ?_
  refine aw_loopN [0, 3, 4] [] (by simp; exact rfl) (ι := {i : Nat // i ≤ l.length}) (fun i => ⟨18, [(0, .pv (.sl 2 (ousL l))), (3, .pv (.sl 2 (ousL (setO (l.take i.1))))), (4, I .i64 i.1)], []⟩) (fun i => l.length - i.1) ⟨0, by omega⟩ (by simp [setO, ousL]) ?_
  rintro ⟨i, hi⟩
  by_cases hlt : i < l.length
  · have hd : (i : Int) < (l.length : Int) := by omega
    have hw : IntKind.wrap .i64 ((i : Int) + 1) = (i : Int) + 1 := wrap64s (by omega) (by omega)
    have hP := c_Put (setO_ok (hl.take i)) (hl.2 _ (List.getElem_mem hlt))
    have hs : setO (l.take (i + 1)) = putO (setO (l.take i)) l[i] := by
      unfold setO
      rw [List.take_add_one, List.getElem?_eq_getElem hlt, List.foldl_append]; rfl
    rw [← hs] at hP
    generalize setO (l.take i) = S at *
    generalize hx : l[i] = x at *
    repeat' (first
      | refine ar_end rfl ?_
      | refine ar_endD rfl (by kernel_rfl) ?_
      | refine ar_fin rfl ?_
      | refine ar_finD rfl (by kernel_rfl) ?_
      | refine ar_callV Tryd.call46 hP rfl rfl rfl rfl rfl (by simp; done) (by rfl) (by simp; done) ?_
      | refine ar_callV_if Tryd.call46 hP rfl rfl rfl rfl rfl rfl (by simp; done) rfl (by rfl) (by simp; done) ?_
      | refine bq_norm ?_
      | refine lq_normN [0, 3, 4] [] (by simp; exact rfl) ⟨i + 1, by omega⟩ (by dsimp only; omega) (by simp [])
      | refine ar_go3 _ rfl (by simp [ints_len, ints_getE, rgL_len, rgL_getE, atsL_len, atsL_getE, cosL_len, cosL_getE, ousL_len, ousL_getE, atC, ouC, coC, hd, hlt, hx, hw]; exact ⟨rfl, rfl, rfl⟩) rfl ?_
      | refine aw_sregK 3 [0, 3, 4] ?_
      | refine aw_regK 3 [0, 3, 4] ?_
      | refine aw_sregK 4 [0, 3, 4] ?_
      | refine aw_regK 4 [0, 3, 4] ?_
      | refine aw_sregK 5 [0, 3, 4] ?_
      | refine aw_regK 5 [0, 3, 4] ?_
      | refine aw_sreg ?_
      | refine aw_sregD mixed ?_
      | refine aw_ifT (b := true) rfl rfl ?_
      | refine aw_ifF (b := false) rfl rfl ?_
      | refine aw_ifT rfl (by assumption) ?_
      | refine aw_ifF rfl (by assumption) ?_
      | refine aw_ifT rfl (decide_eq_true (by assumption)) ?_
      | refine aw_ifF rfl (decide_eq_false (by assumption)) ?_
      | refine aw_seq ?_
      | refine aw_block ?_
      | refine aw_skip ?_
      | refine aw_region ?_
      | refine aw_region_draw mixed ?_
      | refine aw_exit ?_
      | refine rq_exit ?_
      | refine blockQ_hit ?_
      | refine blockQ_miss (by decide) ?_)
  have hd : ¬(i : Int) < (l.length : Int) := by omega
  have hie : l.take i = l := List.take_of_length_le (by omega)
  rw [hie]
  generalize setO l = S at *
  repeat' (first
    | exact aw_ret (ret_vals (by simp; exact rfl) (by simp [*]; fail_if_success (show _)))
    | exact aw_ret (ret_vals (by simp; exact rfl) (by simp [*]; omega))
    | refine ar_end rfl ?_
    | refine ar_endD rfl (by kernel_rfl) ?_
    | refine ar_fin rfl ?_
    | refine ar_finD rfl (by kernel_rfl) ?_
    | refine lq_exit ?_
    | refine ar_go3 _ rfl (by simp [ints_len, ints_getE, rgL_len, rgL_getE, atsL_len, atsL_getE, cosL_len, cosL_getE, ousL_len, ousL_getE, atC, ouC, coC, hd]; exact ⟨rfl, rfl, rfl⟩) rfl ?_
    | refine aw_sregK 3 [0, 3, 4] ?_
    | refine aw_regK 3 [0, 3, 4] ?_
    | refine aw_sregK 6 [3] ?_
    | refine aw_regK 6 [3] ?_
    | refine aw_sreg ?_
    | refine aw_sregD mixed ?_
    | refine aw_ifT (b := true) rfl rfl ?_
    | refine aw_ifF (b := false) rfl rfl ?_
    | refine aw_ifT rfl (by assumption) ?_
    | refine aw_ifF rfl (by assumption) ?_
    | refine aw_ifT rfl (decide_eq_true (by assumption)) ?_
    | refine aw_ifF rfl (decide_eq_false (by assumption)) ?_
    | refine aw_seq ?_
    | refine aw_block ?_
    | refine aw_skip ?_
    | refine aw_region ?_
    | refine aw_region_draw mixed ?_
    | refine aw_exit ?_
    | refine rq_exit ?_
    | refine blockQ_hit ?_
    | refine blockQ_miss (by decide) ?_)
end Go.Eng
