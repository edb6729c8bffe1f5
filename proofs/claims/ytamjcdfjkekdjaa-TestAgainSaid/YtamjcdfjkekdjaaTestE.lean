import Derived.Test.YtamjcdfjkekdjaaTestD
set_option linter.unusedSimpArgs false
set_option linter.unusedVariables false
set_option linter.constructorNameAsVariable false
set_option autoImplicit false
namespace Go.Eng
open Go Go.RowKit Go.Proofs
theorem eqIn {x : In} (h : wfIn x) : EqAgg Try.prog 31 [.int .i64 x.op, .int .i64 x.d, .int .i64 x.a, .int .i64 x.b, .int .i64 x.l, .int .i64 x.m] [.int .i64 x.op, .int .i64 x.d, .int .i64 x.a, .int .i64 x.b, .int .i64 x.l, .int .i64 x.m] true := by
  have c2 : Try.prog.cellsOf 2 = 1 := by kernel_rfl
  have c3 : Try.prog.cellsOf 3 = 1 := by kernel_rfl
  have c31 : Try.prog.cellsOf 31 = 6 := by kernel_rfl
  obtain ⟨h0, h1, h2, h3, h4, h5⟩ := h
  refine ⟨⟨3, 3, 3, [.int .i64 x.op, .int .i64 x.d, .int .i64 x.a, .int .i64 x.b, .int .i64 x.l, .int .i64 x.m], [.int .i64 x.op, .int .i64 x.d, .int .i64 x.a, .int .i64 x.b, .int .i64 x.l, .int .i64 x.m], by decide, by kernel_rfl, ?_, ?_, Iff.intro (fun _ => rfl) (fun _ => rfl)⟩, by simp, ⟨c31.symm, c31.symm⟩, by kernel_rfl⟩
  all_goals
    unfold Program.keyLits
    simp only [Try.underlying31]
    simp [Program.keyLits, Try.underlying3, Try.underlying2, c31, c2, c3, h0, h1, h2, h3, h4, h5]
set_option maxHeartbeats 16000000 in
theorem c_Nums {l : List Int} (hl : l.length ≤ maxLen) : SC Try.prog 76 [.pv (.sl 1 (ints l)), .pv (.sl 1 (ints l))] (B true) := by
  refine scx_of Try.func76 rfl rfl rfl (Nat.le_of_ble_eq_true rfl) ?_
  repeat' (first
    | exact aw_ret (ret_vals (by simp; exact rfl) (by simp [*]; fail_if_success (show _)))
    | exact aw_ret (ret_vals (by simp; exact rfl) (by simp [*]; omega))
    | refine ar_end rfl ?_
    | refine ar_endD rfl (by kernel_rfl) ?_
    | refine ar_fin rfl ?_
    | refine ar_finD rfl (by kernel_rfl) ?_
    | refine ar_go3 _ rfl (by simp [ints_len]; exact ⟨rfl, rfl, rfl⟩) rfl ?_
    | refine aw_sregK 0 [0, 1] ?_
    | refine aw_regK 0 [0, 1] ?_
    | refine aw_sregK 1 [0, 1] ?_
    | refine aw_regK 1 [0, 1] ?_
    | refine aw_sregK 2 [] ?_
    | refine aw_regK 2 [] ?_
    | refine aw_sregK 3 [0, 1] ?_
    | refine aw_regK 3 [0, 1] ?_
    | refine aw_sregK 4 [0, 1, 5] ?_
    | refine aw_regK 4 [0, 1, 5] ?_
    | refine aw_sregK 5 [0, 1, 5] ?_
    | refine aw_regK 5 [0, 1, 5] ?_
    | refine aw_sregKD mixed 6 [0, 1, 5] (by simp; exact rfl) ?_
    | refine aw_regKD mixed 6 [0, 1, 5] (by simp; exact rfl) ?_
    | refine aw_sregK 7 [] ?_
    | refine aw_regK 7 [] ?_
    | refine aw_sregK 8 [] ?_
    | refine aw_regK 8 [] ?_
    | refine aw_sreg ?_
    | refine aw_sregD mixed ?_
    | refine aw_ifT (b := true) rfl rfl ?_
    | refine aw_ifF (b := false) rfl rfl ?_
    | refine aw_ifT rfl (by assumption) ?_
    | refine aw_ifF rfl (by assumption) ?_
    | refine aw_ifT rfl (decide_eq_true (by assumption)) ?_
    | refine aw_ifF rfl (decide_eq_false (by assumption)) ?_
    | refine aw_seq ?_
    | refine aw_block ?_
    | refine aw_skip ?_
    | refine aw_region ?_
    | refine aw_region_draw mixed ?_
    | refine aw_exit ?_
    | refine rq_exit ?_
    | refine blockQ_hit ?_
    | refine blockQ_miss (by decide) ?_
    | (refine ar_guard rfl rfl rfl rfl (fun h => ?_) (fun h => ?_) <;> (fail_if_success (cases h; done)) <;> (try simp at h) <;> (try subst h))
    | (refine aw_both rfl (fun h => ?_) (fun h => ?_) <;> (fail_if_success (cases h; done)) <;> (try simp at h) <;> (try subst h)))
  refine aw_loopN [0, 1, 5] [] (by simp; exact rfl) (ι := {i : Nat // i ≤ l.length}) (fun i => ⟨26, [(0, .pv (.sl 1 (ints l))), (1, .pv (.sl 1 (ints l))), (5, I .i64 i.1)], []⟩) (fun i => l.length - i.1) ⟨0, by omega⟩ (by simp) ?_
  rintro ⟨i, hi⟩
  by_cases hlt : i < l.length
  · have hw := wrap_succ hlt hl
    have hc : (i : Int) < (l.length : Int) := by omega
    repeat' (first
      | refine ar_end rfl ?_
      | refine ar_endD rfl (by kernel_rfl) ?_
      | refine ar_fin rfl ?_
      | refine ar_finD rfl (by kernel_rfl) ?_
      | refine lq_normN [0, 1, 5] [] (by simp; exact rfl) ⟨i + 1, by omega⟩ (by dsimp only; omega) (by simp)
      | refine ar_go3 _ rfl (by simp [ints_len, ints_getE, hlt, hw, hc]; exact ⟨rfl, rfl, rfl⟩) rfl ?_
      | refine aw_sregK 0 [0, 1] ?_
      | refine aw_regK 0 [0, 1] ?_
      | refine aw_sregK 1 [0, 1] ?_
      | refine aw_regK 1 [0, 1] ?_
      | refine aw_sregK 2 [] ?_
      | refine aw_regK 2 [] ?_
      | refine aw_sregK 3 [0, 1] ?_
      | refine aw_regK 3 [0, 1] ?_
      | refine aw_sregK 4 [0, 1, 5] ?_
      | refine aw_regK 4 [0, 1, 5] ?_
      | refine aw_sregK 5 [0, 1, 5] ?_
      | refine aw_regK 5 [0, 1, 5] ?_
      | refine aw_sregKD mixed 6 [0, 1, 5] (by simp; exact rfl) ?_
      | refine aw_regKD mixed 6 [0, 1, 5] (by simp; exact rfl) ?_
      | refine aw_sregK 7 [] ?_
      | refine aw_regK 7 [] ?_
      | refine aw_sregK 8 [] ?_
      | refine aw_regK 8 [] ?_
      | refine aw_sreg ?_
      | refine aw_sregD mixed ?_
      | refine aw_ifT (b := true) rfl rfl ?_
      | refine aw_ifF (b := false) rfl rfl ?_
      | refine aw_ifT rfl (by assumption) ?_
      | refine aw_ifF rfl (by assumption) ?_
      | refine aw_ifT rfl (decide_eq_true (by assumption)) ?_
      | refine aw_ifF rfl (decide_eq_false (by assumption)) ?_
      | refine aw_seq ?_
      | refine aw_block ?_
      | refine aw_skip ?_
      | refine aw_region ?_
      | refine aw_region_draw mixed ?_
      | refine aw_exit ?_
      | refine rq_exit ?_
      | refine blockQ_hit ?_
      | refine blockQ_miss (by decide) ?_
      | (refine ar_guard rfl rfl rfl rfl (fun h => ?_) (fun h => ?_) <;> (fail_if_success (cases h; done)) <;> (try simp at h) <;> (try subst h))
      | (refine aw_both rfl (fun h => ?_) (fun h => ?_) <;> (fail_if_success (cases h; done)) <;> (try simp at h) <;> (try subst h)))
  · have hc : ¬(i : Int) < (l.length : Int) := by omega
    repeat' (first
      | exact aw_ret (ret_vals (by simp; exact rfl) (by simp [*]; fail_if_success (show _)))
      | exact aw_ret (ret_vals (by simp; exact rfl) (by simp [*]; omega))
      | refine ar_end rfl ?_
      | refine ar_endD rfl (by kernel_rfl) ?_
      | refine ar_fin rfl ?_
      | refine ar_finD rfl (by kernel_rfl) ?_
      | refine lq_exit ?_
      | refine ar_go3 _ rfl (by simp [ints_len, hc]; exact ⟨rfl, rfl, rfl⟩) rfl ?_
      | refine aw_sregK 0 [0, 1] ?_
      | refine aw_regK 0 [0, 1] ?_
      | refine aw_sregK 1 [0, 1] ?_
      | refine aw_regK 1 [0, 1] ?_
      | refine aw_sregK 2 [] ?_
      | refine aw_regK 2 [] ?_
      | refine aw_sregK 3 [0, 1] ?_
      | refine aw_regK 3 [0, 1] ?_
      | refine aw_sregK 4 [0, 1, 5] ?_
      | refine aw_regK 4 [0, 1, 5] ?_
      | refine aw_sregK 5 [0, 1, 5] ?_
      | refine aw_regK 5 [0, 1, 5] ?_
      | refine aw_sregKD mixed 6 [0, 1, 5] (by simp; exact rfl) ?_
      | refine aw_regKD mixed 6 [0, 1, 5] (by simp; exact rfl) ?_
      | refine aw_sregK 7 [] ?_
      | refine aw_regK 7 [] ?_
      | refine aw_sregK 8 [] ?_
      | refine aw_regK 8 [] ?_
      | refine aw_sreg ?_
      | refine aw_sregD mixed ?_
      | refine aw_ifT (b := true) rfl rfl ?_
      | refine aw_ifF (b := false) rfl rfl ?_
      | refine aw_ifT rfl (by assumption) ?_
      | refine aw_ifF rfl (by assumption) ?_
      | refine aw_ifT rfl (decide_eq_true (by assumption)) ?_
      | refine aw_ifF rfl (decide_eq_false (by assumption)) ?_
      | refine aw_seq ?_
      | refine aw_block ?_
      | refine aw_skip ?_
      | refine aw_region ?_
      | refine aw_region_draw mixed ?_
      | refine aw_exit ?_
      | refine rq_exit ?_
      | refine blockQ_hit ?_
      | refine blockQ_miss (by decide) ?_
      | (refine ar_guard rfl rfl rfl rfl (fun h => ?_) (fun h => ?_) <;> (fail_if_success (cases h; done)) <;> (try simp at h) <;> (try subst h))
      | (refine aw_both rfl (fun h => ?_) (fun h => ?_) <;> (fail_if_success (cases h; done)) <;> (try simp at h) <;> (try subst h)))
def WfT (t : List (List In)) : Prop := t.length ≤ maxLen ∧ ∀ th ∈ t, th.length ≤ maxLen ∧ ∀ x ∈ th, wfIn x
set_option maxHeartbeats 16000000 in
theorem c_Same {i : List Int} {t : List (List In)} (hi : i.length ≤ maxLen) (ht : WfT t) : SC Try.prog 61 [.agg (testL i t), .agg (testL i t)] (B true) := by
  refine scx_of Try.func61 rfl rfl rfl (Nat.le_of_ble_eq_true rfl) ?_
  repeat' (first
    | exact aw_ret (ret_vals (by simp; exact rfl) (by simp [*]; fail_if_success (show _)))
    | exact aw_ret (ret_vals (by simp; exact rfl) (by simp [*]; omega))
    | refine ar_end rfl ?_
    | refine ar_endD rfl (by kernel_rfl) ?_
    | refine ar_fin rfl ?_
    | refine ar_finD rfl (by kernel_rfl) ?_
    | refine ar_callV Try.call76 (c_Nums hi) rfl rfl rfl rfl rfl (by simp; done) (by rfl) (by simp; done) ?_
    | refine ar_callV_if Try.call76 (c_Nums hi) rfl rfl rfl rfl rfl rfl (by simp; done) rfl (by rfl) (by simp; done) ?_
    | refine ar_go3 _ rfl (by simp [insL_len, thsL_len, insL_getE, thsL_getE, inL, ints_len]; exact ⟨rfl, rfl, rfl⟩) rfl ?_
    | refine aw_sregK 0 [0, 1] ?_
    | refine aw_regK 0 [0, 1] ?_
    | refine aw_sregK 1 [2, 3] ?_
    | refine aw_regK 1 [2, 3] ?_
    | refine aw_sregK 2 [] ?_
    | refine aw_regK 2 [] ?_
    | refine aw_sregK 3 [2, 3] ?_
    | refine aw_regK 3 [2, 3] ?_
    | refine aw_sregK 4 [2, 3, 5] ?_
    | refine aw_regK 4 [2, 3, 5] ?_
    | refine aw_sregK 5 [2, 3, 5] ?_
    | refine aw_regK 5 [2, 3, 5] ?_
    | refine aw_sregKD mixed 6 [2, 3, 5] (by simp; exact rfl) ?_
    | refine aw_regKD mixed 6 [2, 3, 5] (by simp; exact rfl) ?_
    | refine aw_sregK 7 [] ?_
    | refine aw_regK 7 [] ?_
    | refine aw_sregK 8 [2, 3, 5] ?_
    | refine aw_regK 8 [2, 3, 5] ?_
    | refine aw_sregK 9 [2, 3, 5, 6] ?_
    | refine aw_regK 9 [2, 3, 5, 6] ?_
    | refine aw_sregK 10 [2, 3, 5, 6] ?_
    | refine aw_regK 10 [2, 3, 5, 6] ?_
    | refine aw_sregKD mixed 11 [2, 3, 5, 6] (by simp; exact rfl) ?_
    | refine aw_regKD mixed 11 [2, 3, 5, 6] (by simp; exact rfl) ?_
    | refine aw_sregK 12 [] ?_
    | refine aw_regK 12 [] ?_
    | refine aw_sregK 13 [] ?_
    | refine aw_regK 13 [] ?_
    | refine aw_sreg ?_
    | refine aw_sregD mixed ?_
    | refine aw_ifT (b := true) rfl rfl ?_
    | refine aw_ifF (b := false) rfl rfl ?_
    | refine aw_ifT rfl (by assumption) ?_
    | refine aw_ifF rfl (by assumption) ?_
    | refine aw_ifT rfl (decide_eq_true (by assumption)) ?_
    | refine aw_ifF rfl (decide_eq_false (by assumption)) ?_
    | refine aw_seq ?_
    | refine aw_block ?_
    | refine aw_skip ?_
    | refine aw_region ?_
    | refine aw_region_draw mixed ?_
    | refine aw_exit ?_
    | refine rq_exit ?_
    | refine blockQ_hit ?_
    | refine blockQ_miss (by decide) ?_
    | (refine ar_guard rfl rfl rfl rfl (fun h => ?_) (fun h => ?_) <;> (fail_if_success (cases h; done)) <;> (try simp at h) <;> (try subst h))
    | (refine aw_both rfl (fun h => ?_) (fun h => ?_) <;> (fail_if_success (cases h; done)) <;> (try simp at h) <;> (try subst h)))
  refine aw_loopN [2, 3, 5] [.loc 2, .loc 3] (by simp; exact rfl) (ι := {n : Nat // n ≤ t.length}) (fun n => ⟨69, [(2, .ptr (.loc 2) 0), (3, .ptr (.loc 3) 0), (5, I .i64 n.1)], [(.loc 2, some (.box 55 [.pv (.sl 1 (ints i)), .pv (.sl 1 (thsL t))])), (.loc 3, some (.box 55 [.pv (.sl 1 (ints i)), .pv (.sl 1 (thsL t))]))]⟩) (fun n => t.length - n.1) ⟨0, by omega⟩ (by simp) ?_
  rintro ⟨n, hn⟩
  by_cases hlt : n < t.length
  · have hw := wrap_succ hlt ht.1
    have hc : (n : Int) < (t.length : Int) := by omega
    obtain ⟨hm, hwf⟩ := ht.2 _ (List.getElem_mem hlt)
    generalize hth : t[n] = th at hm hwf
    repeat' (first
      | exact aw_ret (ret_vals (by simp; exact rfl) (by simp [*]; fail_if_success (show _)))
      | exact aw_ret (ret_vals (by simp; exact rfl) (by simp [*]; omega))
      | refine ar_end rfl ?_
      | refine ar_endD rfl (by kernel_rfl) ?_
      | refine ar_fin rfl ?_
      | refine ar_finD rfl (by kernel_rfl) ?_
      | refine ar_go3 _ rfl (by simp [insL_len, thsL_len, insL_getE, thsL_getE, inL, ints_len, hlt, hc, hth]; exact ⟨rfl, rfl, rfl⟩) rfl ?_
      | refine aw_sregK 0 [0, 1] ?_
      | refine aw_regK 0 [0, 1] ?_
      | refine aw_sregK 1 [2, 3] ?_
      | refine aw_regK 1 [2, 3] ?_
      | refine aw_sregK 2 [] ?_
      | refine aw_regK 2 [] ?_
      | refine aw_sregK 3 [2, 3] ?_
      | refine aw_regK 3 [2, 3] ?_
      | refine aw_sregK 4 [2, 3, 5] ?_
      | refine aw_regK 4 [2, 3, 5] ?_
      | refine aw_sregK 5 [2, 3, 5] ?_
      | refine aw_regK 5 [2, 3, 5] ?_
      | refine aw_sregKD mixed 6 [2, 3, 5] (by simp; exact rfl) ?_
      | refine aw_regKD mixed 6 [2, 3, 5] (by simp; exact rfl) ?_
      | refine aw_sregK 7 [] ?_
      | refine aw_regK 7 [] ?_
      | refine aw_sregK 8 [2, 3, 5] ?_
      | refine aw_regK 8 [2, 3, 5] ?_
      | refine aw_sregK 9 [2, 3, 5, 6] ?_
      | refine aw_regK 9 [2, 3, 5, 6] ?_
      | refine aw_sregK 10 [2, 3, 5, 6] ?_
      | refine aw_regK 10 [2, 3, 5, 6] ?_
      | refine aw_sregKD mixed 11 [2, 3, 5, 6] (by simp; exact rfl) ?_
      | refine aw_regKD mixed 11 [2, 3, 5, 6] (by simp; exact rfl) ?_
      | refine aw_sregK 12 [] ?_
      | refine aw_regK 12 [] ?_
      | refine aw_sregK 13 [] ?_
      | refine aw_regK 13 [] ?_
      | refine aw_sreg ?_
      | refine aw_sregD mixed ?_
      | refine aw_ifT (b := true) rfl rfl ?_
      | refine aw_ifF (b := false) rfl rfl ?_
      | refine aw_ifT rfl (by assumption) ?_
      | refine aw_ifF rfl (by assumption) ?_
      | refine aw_ifT rfl (decide_eq_true (by assumption)) ?_
      | refine aw_ifF rfl (decide_eq_false (by assumption)) ?_
      | refine aw_seq ?_
      | refine aw_block ?_
      | refine aw_skip ?_
      | refine aw_region ?_
      | refine aw_region_draw mixed ?_
      | refine aw_exit ?_
      | refine rq_exit ?_
      | refine blockQ_hit ?_
      | refine blockQ_miss (by decide) ?_
      | (refine ar_guard rfl rfl rfl rfl (fun h => ?_) (fun h => ?_) <;> (fail_if_success (cases h; done)) <;> (try simp at h) <;> (try subst h))
      | (refine aw_both rfl (fun h => ?_) (fun h => ?_) <;> (fail_if_success (cases h; done)) <;> (try simp at h) <;> (try subst h)))
    refine aw_loopN [2, 3, 5, 6] [.loc 2, .loc 3] (by simp; exact rfl) (ι := {j : Nat // j ≤ th.length}) (fun j => ⟨69, [(2, .ptr (.loc 2) 0), (3, .ptr (.loc 3) 0), (5, I .i64 n), (6, I .i64 j.1)], [(.loc 2, some (.box 55 [.pv (.sl 1 (ints i)), .pv (.sl 1 (thsL t))])), (.loc 3, some (.box 55 [.pv (.sl 1 (ints i)), .pv (.sl 1 (thsL t))]))]⟩) (fun j => th.length - j.1) ⟨0, by omega⟩ (by simp) ?_
    rintro ⟨j, hj⟩
    by_cases hjl : j < th.length
    · have hw2 := wrap_succ hjl hm
      have hd : (j : Int) < (th.length : Int) := by omega
      have hx := hwf _ (List.getElem_mem hjl)
      generalize hxe : th[j] = x at hx
      repeat' (first
        | refine ar_end rfl ?_
        | refine ar_endD rfl (by kernel_rfl) ?_
        | refine ar_fin rfl ?_
        | refine ar_finD rfl (by kernel_rfl) ?_
        | refine ar_neAgg (eqIn hx) rfl rfl rfl rfl (by simp) rfl rfl ?_
        | refine lq_normN [2, 3, 5, 6] [.loc 2, .loc 3] (by simp; exact rfl) ⟨j + 1, by omega⟩ (by dsimp only; omega) (by simp)
        | refine ar_go3 _ rfl (by simp [insL_len, thsL_len, insL_getE, thsL_getE, inL, ints_len, hlt, hc, hth, hjl, hd, hxe, hw2]; exact ⟨rfl, rfl, rfl⟩) rfl ?_
        | refine aw_sregK 0 [0, 1] ?_
        | refine aw_regK 0 [0, 1] ?_
        | refine aw_sregK 1 [2, 3] ?_
        | refine aw_regK 1 [2, 3] ?_
        | refine aw_sregK 2 [] ?_
        | refine aw_regK 2 [] ?_
        | refine aw_sregK 3 [2, 3] ?_
        | refine aw_regK 3 [2, 3] ?_
        | refine aw_sregK 4 [2, 3, 5] ?_
        | refine aw_regK 4 [2, 3, 5] ?_
        | refine aw_sregK 5 [2, 3, 5] ?_
        | refine aw_regK 5 [2, 3, 5] ?_
        | refine aw_sregKD mixed 6 [2, 3, 5] (by simp; exact rfl) ?_
        | refine aw_regKD mixed 6 [2, 3, 5] (by simp; exact rfl) ?_
        | refine aw_sregK 7 [] ?_
        | refine aw_regK 7 [] ?_
        | refine aw_sregK 8 [2, 3, 5] ?_
        | refine aw_regK 8 [2, 3, 5] ?_
        | refine aw_sregK 9 [2, 3, 5, 6] ?_
        | refine aw_regK 9 [2, 3, 5, 6] ?_
        | refine aw_sregK 10 [2, 3, 5, 6] ?_
        | refine aw_regK 10 [2, 3, 5, 6] ?_
        | refine aw_sregKD mixed 11 [2, 3, 5, 6] (by simp; exact rfl) ?_
        | refine aw_regKD mixed 11 [2, 3, 5, 6] (by simp; exact rfl) ?_
        | refine aw_sregK 12 [] ?_
        | refine aw_regK 12 [] ?_
        | refine aw_sregK 13 [] ?_
        | refine aw_regK 13 [] ?_
        | refine aw_sreg ?_
        | refine aw_sregD mixed ?_
        | refine aw_ifT (b := true) rfl rfl ?_
        | refine aw_ifF (b := false) rfl rfl ?_
        | refine aw_ifT rfl (by assumption) ?_
        | refine aw_ifF rfl (by assumption) ?_
        | refine aw_ifT rfl (decide_eq_true (by assumption)) ?_
        | refine aw_ifF rfl (decide_eq_false (by assumption)) ?_
        | refine aw_seq ?_
        | refine aw_block ?_
        | refine aw_skip ?_
        | refine aw_region ?_
        | refine aw_region_draw mixed ?_
        | refine aw_exit ?_
        | refine rq_exit ?_
        | refine blockQ_hit ?_
        | refine blockQ_miss (by decide) ?_
        | (refine ar_guard rfl rfl rfl rfl (fun h => ?_) (fun h => ?_) <;> (fail_if_success (cases h; done)) <;> (try simp at h) <;> (try subst h))
        | (refine aw_both rfl (fun h => ?_) (fun h => ?_) <;> (fail_if_success (cases h; done)) <;> (try simp at h) <;> (try subst h)))
    · have hd : ¬(j : Int) < (th.length : Int) := by omega
      repeat' (first
        | refine ar_end rfl ?_
        | refine ar_endD rfl (by kernel_rfl) ?_
        | refine ar_fin rfl ?_
        | refine ar_finD rfl (by kernel_rfl) ?_
        | refine lq_exit ?_
        | refine lq_normN [2, 3, 5] [.loc 2, .loc 3] (by simp; exact rfl) ⟨n + 1, by omega⟩ (by dsimp only; omega) (by simp)
        | refine ar_go3 _ rfl (by simp [insL_len, thsL_len, insL_getE, thsL_getE, inL, ints_len, hlt, hth, hd, hw]; exact ⟨rfl, rfl, rfl⟩) rfl ?_
        | refine aw_sregK 0 [0, 1] ?_
        | refine aw_regK 0 [0, 1] ?_
        | refine aw_sregK 1 [2, 3] ?_
        | refine aw_regK 1 [2, 3] ?_
        | refine aw_sregK 2 [] ?_
        | refine aw_regK 2 [] ?_
        | refine aw_sregK 3 [2, 3] ?_
        | refine aw_regK 3 [2, 3] ?_
        | refine aw_sregK 4 [2, 3, 5] ?_
        | refine aw_regK 4 [2, 3, 5] ?_
        | refine aw_sregK 5 [2, 3, 5] ?_
        | refine aw_regK 5 [2, 3, 5] ?_
        | refine aw_sregKD mixed 6 [2, 3, 5] (by simp; exact rfl) ?_
        | refine aw_regKD mixed 6 [2, 3, 5] (by simp; exact rfl) ?_
        | refine aw_sregK 7 [] ?_
        | refine aw_regK 7 [] ?_
        | refine aw_sregK 8 [2, 3, 5] ?_
        | refine aw_regK 8 [2, 3, 5] ?_
        | refine aw_sregK 9 [2, 3, 5, 6] ?_
        | refine aw_regK 9 [2, 3, 5, 6] ?_
        | refine aw_sregK 10 [2, 3, 5, 6] ?_
        | refine aw_regK 10 [2, 3, 5, 6] ?_
        | refine aw_sregKD mixed 11 [2, 3, 5, 6] (by simp; exact rfl) ?_
        | refine aw_regKD mixed 11 [2, 3, 5, 6] (by simp; exact rfl) ?_
        | refine aw_sregK 12 [] ?_
        | refine aw_regK 12 [] ?_
        | refine aw_sregK 13 [] ?_
        | refine aw_regK 13 [] ?_
        | refine aw_sreg ?_
        | refine aw_sregD mixed ?_
        | refine aw_ifT (b := true) rfl rfl ?_
        | refine aw_ifF (b := false) rfl rfl ?_
        | refine aw_ifT rfl (by assumption) ?_
        | refine aw_ifF rfl (by assumption) ?_
        | refine aw_ifT rfl (decide_eq_true (by assumption)) ?_
        | refine aw_ifF rfl (decide_eq_false (by assumption)) ?_
        | refine aw_seq ?_
        | refine aw_block ?_
        | refine aw_skip ?_
        | refine aw_region ?_
        | refine aw_region_draw mixed ?_
        | refine aw_exit ?_
        | refine rq_exit ?_
        | refine blockQ_hit ?_
        | refine blockQ_miss (by decide) ?_
        | (refine ar_guard rfl rfl rfl rfl (fun h => ?_) (fun h => ?_) <;> (fail_if_success (cases h; done)) <;> (try simp at h) <;> (try subst h))
        | (refine aw_both rfl (fun h => ?_) (fun h => ?_) <;> (fail_if_success (cases h; done)) <;> (try simp at h) <;> (try subst h)))
  · have hc : ¬(n : Int) < (t.length : Int) := by omega
    repeat' (first
      | exact aw_ret (ret_vals (by simp; exact rfl) (by simp [*]; fail_if_success (show _)))
      | exact aw_ret (ret_vals (by simp; exact rfl) (by simp [*]; omega))
      | refine ar_end rfl ?_
      | refine ar_endD rfl (by kernel_rfl) ?_
      | refine ar_fin rfl ?_
      | refine ar_finD rfl (by kernel_rfl) ?_
      | refine lq_exit ?_
      | refine ar_go3 _ rfl (by simp [insL_len, thsL_len, insL_getE, thsL_getE, inL, ints_len, hc]; exact ⟨rfl, rfl, rfl⟩) rfl ?_
      | refine aw_sregK 0 [0, 1] ?_
      | refine aw_regK 0 [0, 1] ?_
      | refine aw_sregK 1 [2, 3] ?_
      | refine aw_regK 1 [2, 3] ?_
      | refine aw_sregK 2 [] ?_
      | refine aw_regK 2 [] ?_
      | refine aw_sregK 3 [2, 3] ?_
      | refine aw_regK 3 [2, 3] ?_
      | refine aw_sregK 4 [2, 3, 5] ?_
      | refine aw_regK 4 [2, 3, 5] ?_
      | refine aw_sregK 5 [2, 3, 5] ?_
      | refine aw_regK 5 [2, 3, 5] ?_
      | refine aw_sregKD mixed 6 [2, 3, 5] (by simp; exact rfl) ?_
      | refine aw_regKD mixed 6 [2, 3, 5] (by simp; exact rfl) ?_
      | refine aw_sregK 7 [] ?_
      | refine aw_regK 7 [] ?_
      | refine aw_sregK 8 [2, 3, 5] ?_
      | refine aw_regK 8 [2, 3, 5] ?_
      | refine aw_sregK 9 [2, 3, 5, 6] ?_
      | refine aw_regK 9 [2, 3, 5, 6] ?_
      | refine aw_sregK 10 [2, 3, 5, 6] ?_
      | refine aw_regK 10 [2, 3, 5, 6] ?_
      | refine aw_sregKD mixed 11 [2, 3, 5, 6] (by simp; exact rfl) ?_
      | refine aw_regKD mixed 11 [2, 3, 5, 6] (by simp; exact rfl) ?_
      | refine aw_sregK 12 [] ?_
      | refine aw_regK 12 [] ?_
      | refine aw_sregK 13 [] ?_
      | refine aw_regK 13 [] ?_
      | refine aw_sreg ?_
      | refine aw_sregD mixed ?_
      | refine aw_ifT (b := true) rfl rfl ?_
      | refine aw_ifF (b := false) rfl rfl ?_
      | refine aw_ifT rfl (by assumption) ?_
      | refine aw_ifF rfl (by assumption) ?_
      | refine aw_ifT rfl (decide_eq_true (by assumption)) ?_
      | refine aw_ifF rfl (decide_eq_false (by assumption)) ?_
      | refine aw_seq ?_
      | refine aw_block ?_
      | refine aw_skip ?_
      | refine aw_region ?_
      | refine aw_region_draw mixed ?_
      | refine aw_exit ?_
      | refine rq_exit ?_
      | refine blockQ_hit ?_
      | refine blockQ_miss (by decide) ?_
      | (refine ar_guard rfl rfl rfl rfl (fun h => ?_) (fun h => ?_) <;> (fail_if_success (cases h; done)) <;> (try simp at h) <;> (try subst h))
      | (refine aw_both rfl (fun h => ?_) (fun h => ?_) <;> (fail_if_success (cases h; done)) <;> (try simp at h) <;> (try subst h)))
end Go.Eng
