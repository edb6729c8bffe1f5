import Derived.Test.YtamjcdfjkekdjaaFlowValsWalk
import Derived.Test.YtamjcdfjkekdjaaFlowG
set_option linter.unusedSimpArgs false
set_option linter.unusedVariables false
set_option linter.constructorNameAsVariable false
set_option autoImplicit false
namespace Go.Eng
open Go Go.RowKit Go.Proofs
theorem insL_take (l : List In) (k : Nat) : List.take k (insL l) = insL (l.take k) := by simp [insL, List.map_take]
theorem ints_take (l : List Int) (k : Nat) : List.take k (ints l) = ints (l.take k) := by simp [ints, List.map_take]
theorem bls_take (l : List Bool) (k : Nat) : List.take k (bls l) = bls (l.take k) := by simp [bls, List.map_take]
theorem evsL_take (l : List Ev) (k : Nat) : List.take k (evsL l) = evsL (l.take k) := by simp [evsL, List.map_take]
theorem cut_mod {cut : Int} {n : Nat} (h : (Lit.int .u8 cut).wf = true) : IntKind.wrap .i64 cut = cut ∧ ∃ k : Nat, cut.tmod ((n : Int) + 1) = (k : Int) ∧ k ≤ n := by
  have := wf8 h
  refine ⟨wrap64s (by omega) (by omega), (cut.tmod ((n : Int) + 1)).toNat, ?_, ?_⟩
  · rw [Int.tmod_eq_emod_of_nonneg (by omega)]
    have := Int.emod_nonneg cut (b := (n : Int) + 1) (by omega)
    omega
  · rw [Int.tmod_eq_emod_of_nonneg (by omega)]
    have := Int.emod_nonneg cut (b := (n : Int) + 1) (by omega)
    have := Int.emod_lt_of_pos cut (b := (n : Int) + 1) (by omega)
    omega
theorem nobra_take {th : List In} {n : Nat} (h : n < th.length) (hn : NoBra (th.take n)) (h1 : ¬th[n].op = 13) (h2 : ¬th[n].op = 14) : NoBra (th.take (n + 1)) := by
  intro x hx
  rw [List.take_add_one, List.getElem?_eq_getElem h, List.mem_append] at hx
  rcases hx with hx | hx
  · exact hn x hx
  · have : x = th[n] := by simpa using hx
    rw [this]; exact ⟨h1, h2⟩
theorem w2' : W64 2 := by decide
set_option maxHeartbeats 16000000 in
theorem law_FlowBegins {th : List In} {vals : List Int} {lucks : List Bool} {cut : Int} (hth : ∀ x ∈ th, wfIn x) (hvw : ∀ v ∈ vals, W64 v) (hcut : (Lit.int .u8 cut).wf = true) : SC Try.prog 24 [.pv (.sl 6 (insL th)), .pv (.sl 1 (ints vals)), .pv (.sl 1 (bls lucks)), I .u8 cut] (B true) := by
  by_cases h8 : 8 < (th.length : Int)
  · refine scx_of Try.func24 rfl rfl rfl (Nat.le_of_ble_eq_true rfl) ?_
    repeat' (first
      | exact aw_ret (ret_vals (by simp; exact rfl) (by simp [*]; fail_if_success (show _)))
      | exact aw_ret (ret_vals (by simp; exact rfl) (by simp [*]; omega))
      | refine ar_end rfl ?_
      | refine ar_endD rfl (by kernel_rfl) ?_
      | refine ar_fin rfl ?_
      | refine ar_finD rfl (by kernel_rfl) ?_
      | refine ar_callV Try.call65 c_shown8 rfl rfl rfl rfl rfl (by simp; done) (by rfl) (by simp; done) ?_
      | refine ar_callV_if Try.call65 c_shown8 rfl rfl rfl rfl rfl rfl (by simp; done) rfl (by rfl) (by simp; done) ?_
      | refine ar_go3 _ rfl (by simp [insL_len, insL_getE, inL, ints_len, ints_getE, bls_len, evsL_len, evsL_getE, evL, u32s_len, u32s_getE, h8]; exact ⟨rfl, rfl, rfl⟩) rfl ?_
      | refine aw_sregK 0 [0, 1, 2, 3] ?_
      | refine aw_regK 0 [0, 1, 2, 3] ?_
      | refine aw_sregK 1 [0, 1, 2, 3] ?_
      | refine aw_regK 1 [0, 1, 2, 3] ?_
      | refine aw_sregK 2 [0, 1, 2, 3, 9] ?_
      | refine aw_regK 2 [0, 1, 2, 3, 9] ?_
      | refine aw_sregK 3 [9] ?_
      | refine aw_regK 3 [9] ?_
      | refine aw_sregK 4 [0, 1, 2, 3, 9] ?_
      | refine aw_regK 4 [0, 1, 2, 3, 9] ?_
      | refine aw_sregK 5 [0, 1, 2, 3, 9, 10] ?_
      | refine aw_regK 5 [0, 1, 2, 3, 9, 10] ?_
      | refine aw_sregK 6 [0, 1, 2, 3, 9, 10] ?_
      | refine aw_regK 6 [0, 1, 2, 3, 9, 10] ?_
      | refine aw_sregK 7 [0, 1, 2, 3, 9, 10] ?_
      | refine aw_regK 7 [0, 1, 2, 3, 9, 10] ?_
      | refine aw_sregK 8 [9] ?_
      | refine aw_regK 8 [9] ?_
      | refine aw_sregK 9 [0, 1, 2, 3, 9] ?_
      | refine aw_regK 9 [0, 1, 2, 3, 9] ?_
      | refine aw_sregK 10 [0, 1, 2, 9, 11] ?_
      | refine aw_regK 10 [0, 1, 2, 9, 11] ?_
      | refine aw_sregK 11 [0, 1, 2, 9, 12] ?_
      | refine aw_regK 11 [0, 1, 2, 9, 12] ?_
      | refine aw_sregK 12 [9, 12, 13] ?_
      | refine aw_regK 12 [9, 12, 13] ?_
      | refine aw_sregK 13 [] ?_
      | refine aw_regK 13 [] ?_
      | refine aw_sregKD mixed 14 [9, 12, 13] (by simp; exact rfl) ?_
      | refine aw_regKD mixed 14 [9, 12, 13] (by simp; exact rfl) ?_
      | refine aw_sreg ?_
      | refine aw_sregD mixed ?_
      | refine aw_ifT (b := true) rfl rfl ?_
      | refine aw_ifF (b := false) rfl rfl ?_
      | refine aw_ifT rfl (by assumption) ?_
      | refine aw_ifF rfl (by assumption) ?_
      | refine aw_ifT rfl (decide_eq_true (by assumption)) ?_
      | refine aw_ifF rfl (decide_eq_false (by assumption)) ?_
      | refine aw_seq ?_
      | refine aw_block ?_
      | refine aw_skip ?_
      | refine aw_region ?_
      | refine aw_region_draw mixed ?_
      | refine aw_exit ?_
      | refine rq_exit ?_
      | refine blockQ_hit ?_
      | refine blockQ_miss (by decide) ?_
      | (refine ar_guard rfl rfl rfl rfl (fun h => ?_) (fun h => ?_) <;> (fail_if_success (cases h; done)) <;> (try simp at h) <;> (try subst h))
      | (refine aw_both rfl (fun h => ?_) (fun h => ?_) <;> (fail_if_success (cases h; done)) <;> (try simp at h) <;> (try subst h)))
  by_cases hv40 : 40 < (vals.length : Int)
  · refine scx_of Try.func24 rfl rfl rfl (Nat.le_of_ble_eq_true rfl) ?_
    repeat' (first
      | exact aw_ret (ret_vals (by simp; exact rfl) (by simp [*]; fail_if_success (show _)))
      | exact aw_ret (ret_vals (by simp; exact rfl) (by simp [*]; omega))
      | refine ar_end rfl ?_
      | refine ar_endD rfl (by kernel_rfl) ?_
      | refine ar_fin rfl ?_
      | refine ar_finD rfl (by kernel_rfl) ?_
      | refine ar_callV Try.call65 c_shown8 rfl rfl rfl rfl rfl (by simp; done) (by rfl) (by simp; done) ?_
      | refine ar_callV_if Try.call65 c_shown8 rfl rfl rfl rfl rfl rfl (by simp; done) rfl (by rfl) (by simp; done) ?_
      | refine ar_go3 _ rfl (by simp [insL_len, insL_getE, inL, ints_len, ints_getE, bls_len, evsL_len, evsL_getE, evL, u32s_len, u32s_getE, h8, hv40]; exact ⟨rfl, rfl, rfl⟩) rfl ?_
      | refine aw_sregK 0 [0, 1, 2, 3] ?_
      | refine aw_regK 0 [0, 1, 2, 3] ?_
      | refine aw_sregK 1 [0, 1, 2, 3] ?_
      | refine aw_regK 1 [0, 1, 2, 3] ?_
      | refine aw_sregK 2 [0, 1, 2, 3, 9] ?_
      | refine aw_regK 2 [0, 1, 2, 3, 9] ?_
      | refine aw_sregK 3 [9] ?_
      | refine aw_regK 3 [9] ?_
      | refine aw_sregK 4 [0, 1, 2, 3, 9] ?_
      | refine aw_regK 4 [0, 1, 2, 3, 9] ?_
      | refine aw_sregK 5 [0, 1, 2, 3, 9, 10] ?_
      | refine aw_regK 5 [0, 1, 2, 3, 9, 10] ?_
      | refine aw_sregK 6 [0, 1, 2, 3, 9, 10] ?_
      | refine aw_regK 6 [0, 1, 2, 3, 9, 10] ?_
      | refine aw_sregK 7 [0, 1, 2, 3, 9, 10] ?_
      | refine aw_regK 7 [0, 1, 2, 3, 9, 10] ?_
      | refine aw_sregK 8 [9] ?_
      | refine aw_regK 8 [9] ?_
      | refine aw_sregK 9 [0, 1, 2, 3, 9] ?_
      | refine aw_regK 9 [0, 1, 2, 3, 9] ?_
      | refine aw_sregK 10 [0, 1, 2, 9, 11] ?_
      | refine aw_regK 10 [0, 1, 2, 9, 11] ?_
      | refine aw_sregK 11 [0, 1, 2, 9, 12] ?_
      | refine aw_regK 11 [0, 1, 2, 9, 12] ?_
      | refine aw_sregK 12 [9, 12, 13] ?_
      | refine aw_regK 12 [9, 12, 13] ?_
      | refine aw_sregK 13 [] ?_
      | refine aw_regK 13 [] ?_
      | refine aw_sregKD mixed 14 [9, 12, 13] (by simp; exact rfl) ?_
      | refine aw_regKD mixed 14 [9, 12, 13] (by simp; exact rfl) ?_
      | refine aw_sreg ?_
      | refine aw_sregD mixed ?_
      | refine aw_ifT (b := true) rfl rfl ?_
      | refine aw_ifF (b := false) rfl rfl ?_
      | refine aw_ifT rfl (by assumption) ?_
      | refine aw_ifF rfl (by assumption) ?_
      | refine aw_ifT rfl (decide_eq_true (by assumption)) ?_
      | refine aw_ifF rfl (decide_eq_false (by assumption)) ?_
      | refine aw_seq ?_
      | refine aw_block ?_
      | refine aw_skip ?_
      | refine aw_region ?_
      | refine aw_region_draw mixed ?_
      | refine aw_exit ?_
      | refine rq_exit ?_
      | refine blockQ_hit ?_
      | refine blockQ_miss (by decide) ?_
      | (refine ar_guard rfl rfl rfl rfl (fun h => ?_) (fun h => ?_) <;> (fail_if_success (cases h; done)) <;> (try simp at h) <;> (try subst h))
      | (refine aw_both rfl (fun h => ?_) (fun h => ?_) <;> (fail_if_success (cases h; done)) <;> (try simp at h) <;> (try subst h)))
  by_cases hl40 : 40 < (lucks.length : Int)
  · refine scx_of Try.func24 rfl rfl rfl (Nat.le_of_ble_eq_true rfl) ?_
    repeat' (first
      | exact aw_ret (ret_vals (by simp; exact rfl) (by simp [*]; fail_if_success (show _)))
      | exact aw_ret (ret_vals (by simp; exact rfl) (by simp [*]; omega))
      | refine ar_end rfl ?_
      | refine ar_endD rfl (by kernel_rfl) ?_
      | refine ar_fin rfl ?_
      | refine ar_finD rfl (by kernel_rfl) ?_
      | refine ar_callV Try.call65 c_shown8 rfl rfl rfl rfl rfl (by simp; done) (by rfl) (by simp; done) ?_
      | refine ar_callV_if Try.call65 c_shown8 rfl rfl rfl rfl rfl rfl (by simp; done) rfl (by rfl) (by simp; done) ?_
      | refine ar_go3 _ rfl (by simp [insL_len, insL_getE, inL, ints_len, ints_getE, bls_len, evsL_len, evsL_getE, evL, u32s_len, u32s_getE, h8, hv40, hl40]; exact ⟨rfl, rfl, rfl⟩) rfl ?_
      | refine aw_sregK 0 [0, 1, 2, 3] ?_
      | refine aw_regK 0 [0, 1, 2, 3] ?_
      | refine aw_sregK 1 [0, 1, 2, 3] ?_
      | refine aw_regK 1 [0, 1, 2, 3] ?_
      | refine aw_sregK 2 [0, 1, 2, 3, 9] ?_
      | refine aw_regK 2 [0, 1, 2, 3, 9] ?_
      | refine aw_sregK 3 [9] ?_
      | refine aw_regK 3 [9] ?_
      | refine aw_sregK 4 [0, 1, 2, 3, 9] ?_
      | refine aw_regK 4 [0, 1, 2, 3, 9] ?_
      | refine aw_sregK 5 [0, 1, 2, 3, 9, 10] ?_
      | refine aw_regK 5 [0, 1, 2, 3, 9, 10] ?_
      | refine aw_sregK 6 [0, 1, 2, 3, 9, 10] ?_
      | refine aw_regK 6 [0, 1, 2, 3, 9, 10] ?_
      | refine aw_sregK 7 [0, 1, 2, 3, 9, 10] ?_
      | refine aw_regK 7 [0, 1, 2, 3, 9, 10] ?_
      | refine aw_sregK 8 [9] ?_
      | refine aw_regK 8 [9] ?_
      | refine aw_sregK 9 [0, 1, 2, 3, 9] ?_
      | refine aw_regK 9 [0, 1, 2, 3, 9] ?_
      | refine aw_sregK 10 [0, 1, 2, 9, 11] ?_
      | refine aw_regK 10 [0, 1, 2, 9, 11] ?_
      | refine aw_sregK 11 [0, 1, 2, 9, 12] ?_
      | refine aw_regK 11 [0, 1, 2, 9, 12] ?_
      | refine aw_sregK 12 [9, 12, 13] ?_
      | refine aw_regK 12 [9, 12, 13] ?_
      | refine aw_sregK 13 [] ?_
      | refine aw_regK 13 [] ?_
      | refine aw_sregKD mixed 14 [9, 12, 13] (by simp; exact rfl) ?_
      | refine aw_regKD mixed 14 [9, 12, 13] (by simp; exact rfl) ?_
      | refine aw_sreg ?_
      | refine aw_sregD mixed ?_
      | refine aw_ifT (b := true) rfl rfl ?_
      | refine aw_ifF (b := false) rfl rfl ?_
      | refine aw_ifT rfl (by assumption) ?_
      | refine aw_ifF rfl (by assumption) ?_
      | refine aw_ifT rfl (decide_eq_true (by assumption)) ?_
      | refine aw_ifF rfl (decide_eq_false (by assumption)) ?_
      | refine aw_seq ?_
      | refine aw_block ?_
      | refine aw_skip ?_
      | refine aw_region ?_
      | refine aw_region_draw mixed ?_
      | refine aw_exit ?_
      | refine rq_exit ?_
      | refine blockQ_hit ?_
      | refine blockQ_miss (by decide) ?_
      | (refine ar_guard rfl rfl rfl rfl (fun h => ?_) (fun h => ?_) <;> (fail_if_success (cases h; done)) <;> (try simp at h) <;> (try subst h))
      | (refine aw_both rfl (fun h => ?_) (fun h => ?_) <;> (fail_if_success (cases h; done)) <;> (try simp at h) <;> (try subst h)))
  have hR := c_Run (th := th) (locs := 2) (vals := vals) (lucks := lucks) (by simp [maxLen]; omega) (by omega) (by omega)
  have hM := c_mayR (th := th) w2'
  cases hm : mayB 2 th
  · refine scx_of Try.func24 rfl rfl rfl (Nat.le_of_ble_eq_true rfl) ?_
    repeat' (first
      | exact aw_ret (ret_vals (by simp; exact rfl) (by simp [*]; fail_if_success (show _)))
      | exact aw_ret (ret_vals (by simp; exact rfl) (by simp [*]; omega))
      | refine ar_end rfl ?_
      | refine ar_endD rfl (by kernel_rfl) ?_
      | refine ar_fin rfl ?_
      | refine ar_finD rfl (by kernel_rfl) ?_
      | refine ar_callV Try.call65 c_shown8 rfl rfl rfl rfl rfl (by simp; done) (by rfl) (by simp; done) ?_
      | refine ar_callV_if Try.call65 c_shown8 rfl rfl rfl rfl rfl rfl (by simp; done) rfl (by rfl) (by simp; done) ?_
      | refine ar_callV Try.call71 hM rfl rfl rfl rfl rfl (by simp; done) (by rfl) (by simp; done) ?_
      | refine ar_callV_if Try.call71 hM rfl rfl rfl rfl rfl rfl (by simp; done) rfl (by rfl) (by simp; done) ?_
      | refine ar_go3 _ rfl (by simp [insL_len, insL_getE, inL, ints_len, ints_getE, bls_len, evsL_len, evsL_getE, evL, u32s_len, u32s_getE, h8, hv40, hl40, hm]; exact ⟨rfl, rfl, rfl⟩) rfl ?_
      | refine aw_sregK 0 [0, 1, 2, 3] ?_
      | refine aw_regK 0 [0, 1, 2, 3] ?_
      | refine aw_sregK 1 [0, 1, 2, 3] ?_
      | refine aw_regK 1 [0, 1, 2, 3] ?_
      | refine aw_sregK 2 [0, 1, 2, 3, 9] ?_
      | refine aw_regK 2 [0, 1, 2, 3, 9] ?_
      | refine aw_sregK 3 [9] ?_
      | refine aw_regK 3 [9] ?_
      | refine aw_sregK 4 [0, 1, 2, 3, 9] ?_
      | refine aw_regK 4 [0, 1, 2, 3, 9] ?_
      | refine aw_sregK 5 [0, 1, 2, 3, 9, 10] ?_
      | refine aw_regK 5 [0, 1, 2, 3, 9, 10] ?_
      | refine aw_sregK 6 [0, 1, 2, 3, 9, 10] ?_
      | refine aw_regK 6 [0, 1, 2, 3, 9, 10] ?_
      | refine aw_sregK 7 [0, 1, 2, 3, 9, 10] ?_
      | refine aw_regK 7 [0, 1, 2, 3, 9, 10] ?_
      | refine aw_sregK 8 [9] ?_
      | refine aw_regK 8 [9] ?_
      | refine aw_sregK 9 [0, 1, 2, 3, 9] ?_
      | refine aw_regK 9 [0, 1, 2, 3, 9] ?_
      | refine aw_sregK 10 [0, 1, 2, 9, 11] ?_
      | refine aw_regK 10 [0, 1, 2, 9, 11] ?_
      | refine aw_sregK 11 [0, 1, 2, 9, 12] ?_
      | refine aw_regK 11 [0, 1, 2, 9, 12] ?_
      | refine aw_sregK 12 [9, 12, 13] ?_
      | refine aw_regK 12 [9, 12, 13] ?_
      | refine aw_sregK 13 [] ?_
      | refine aw_regK 13 [] ?_
      | refine aw_sregKD mixed 14 [9, 12, 13] (by simp; exact rfl) ?_
      | refine aw_regKD mixed 14 [9, 12, 13] (by simp; exact rfl) ?_
      | refine aw_sreg ?_
      | refine aw_sregD mixed ?_
      | refine aw_ifT (b := true) rfl rfl ?_
      | refine aw_ifF (b := false) rfl rfl ?_
      | refine aw_ifT rfl (by assumption) ?_
      | refine aw_ifF rfl (by assumption) ?_
      | refine aw_ifT rfl (decide_eq_true (by assumption)) ?_
      | refine aw_ifF rfl (decide_eq_false (by assumption)) ?_
      | refine aw_seq ?_
      | refine aw_block ?_
      | refine aw_skip ?_
      | refine aw_region ?_
      | refine aw_region_draw mixed ?_
      | refine aw_exit ?_
      | refine rq_exit ?_
      | refine blockQ_hit ?_
      | refine blockQ_miss (by decide) ?_
      | (refine ar_guard rfl rfl rfl rfl (fun h => ?_) (fun h => ?_) <;> (fail_if_success (cases h; done)) <;> (try simp at h) <;> (try subst h))
      | (refine aw_both rfl (fun h => ?_) (fun h => ?_) <;> (fail_if_success (cases h; done)) <;> (try simp at h) <;> (try subst h)))
  refine scx_of Try.func24 rfl rfl rfl (Nat.le_of_ble_eq_true rfl) ?_
  repeat' (first
    | exact aw_ret (ret_vals (by simp; exact rfl) (by simp [*]; fail_if_success (show _)))
    | exact aw_ret (ret_vals (by simp; exact rfl) (by simp [*]; omega))
    | refine ar_end rfl ?_
    | refine ar_endD rfl (by kernel_rfl) ?_
    | refine ar_fin rfl ?_
    | refine ar_finD rfl (by kernel_rfl) ?_
    | refine ar_callV Try.call65 c_shown8 rfl rfl rfl rfl rfl (by simp; done) (by rfl) (by simp; done) ?_
    | refine ar_callV_if Try.call65 c_shown8 rfl rfl rfl rfl rfl rfl (by simp; done) rfl (by rfl) (by simp; done) ?_
    | refine ar_callV Try.call71 hM rfl rfl rfl rfl rfl (by simp; done) (by rfl) (by simp; done) ?_
    | refine ar_callV_if Try.call71 hM rfl rfl rfl rfl rfl rfl (by simp; done) rfl (by rfl) (by simp; done) ?_
    | refine ar_go3 _ rfl (by simp [insL_len, insL_getE, inL, ints_len, ints_getE, bls_len, evsL_len, evsL_getE, evL, u32s_len, u32s_getE, h8, hv40, hl40, hm]; exact ⟨rfl, rfl, rfl⟩) rfl ?_
    | refine aw_sregK 0 [0, 1, 2, 3] ?_
    | refine aw_regK 0 [0, 1, 2, 3] ?_
    | refine aw_sregK 1 [0, 1, 2, 3] ?_
    | refine aw_regK 1 [0, 1, 2, 3] ?_
    | refine aw_sregK 2 [0, 1, 2, 3, 9] ?_
    | refine aw_regK 2 [0, 1, 2, 3, 9] ?_
    | refine aw_sregK 3 [9] ?_
    | refine aw_regK 3 [9] ?_
    | refine aw_sregK 4 [0, 1, 2, 3, 9] ?_
    | refine aw_regK 4 [0, 1, 2, 3, 9] ?_
    | refine aw_sregK 5 [0, 1, 2, 3, 9, 10] ?_
    | refine aw_regK 5 [0, 1, 2, 3, 9, 10] ?_
    | refine aw_sregK 6 [0, 1, 2, 3, 9, 10] ?_
    | refine aw_regK 6 [0, 1, 2, 3, 9, 10] ?_
    | refine aw_sregK 7 [0, 1, 2, 3, 9, 10] ?_
    | refine aw_regK 7 [0, 1, 2, 3, 9, 10] ?_
    | refine aw_sregK 8 [9] ?_
    | refine aw_regK 8 [9] ?_
    | refine aw_sregK 9 [0, 1, 2, 3, 9] ?_
    | refine aw_regK 9 [0, 1, 2, 3, 9] ?_
    | refine aw_sregK 10 [0, 1, 2, 9, 11] ?_
    | refine aw_regK 10 [0, 1, 2, 9, 11] ?_
    | refine aw_sregK 11 [0, 1, 2, 9, 12] ?_
    | refine aw_regK 11 [0, 1, 2, 9, 12] ?_
    | refine aw_sregK 12 [9, 12, 13] ?_
    | refine aw_regK 12 [9, 12, 13] ?_
    | refine aw_sregK 13 [] ?_
    | refine aw_regK 13 [] ?_
    | refine aw_sregKD mixed 14 [9, 12, 13] (by simp; exact rfl) ?_
    | refine aw_regKD mixed 14 [9, 12, 13] (by simp; exact rfl) ?_
    | refine aw_sreg ?_
    | refine aw_sregD mixed ?_
    | refine aw_ifT (b := true) rfl rfl ?_
    | refine aw_ifF (b := false) rfl rfl ?_
    | refine aw_ifT rfl (by assumption) ?_
    | refine aw_ifF rfl (by assumption) ?_
    | refine aw_ifT rfl (decide_eq_true (by assumption)) ?_
    | refine aw_ifF rfl (decide_eq_false (by assumption)) ?_
    | refine aw_seq ?_
    | refine aw_block ?_
    | refine aw_skip ?_
    | refine aw_region ?_
    | refine aw_region_draw mixed ?_
    | refine aw_exit ?_
    | refine rq_exit ?_
    | refine blockQ_hit ?_
    | refine blockQ_miss (by decide) ?_
    | (refine ar_guard rfl rfl rfl rfl (fun h => ?_) (fun h => ?_) <;> (fail_if_success (cases h; done)) <;> (try simp at h) <;> (try subst h))
    | (refine aw_both rfl (fun h => ?_) (fun h => ?_) <;> (fail_if_success (cases h; done)) <;> (try simp at h) <;> (try subst h)))
  refine aw_loopN [0, 1, 2, 3, 9, 10] [] (by simp; exact rfl) (ι := {n : Nat // n ≤ th.length ∧ NoBra (th.take n)}) (fun n => ⟨116, [(0, .pv (.sl 6 (insL th))), (1, .pv (.sl 1 (ints vals))), (2, .pv (.sl 1 (bls lucks))), (3, I .u8 cut), (9, B true), (10, I .i64 n.1)], []⟩) (fun n => th.length - n.1) ⟨0, by simp, by intro x hx; simp at hx⟩ (by simp) ?_
  rintro ⟨n, hn, hnb⟩
  by_cases hlt : n < th.length
  · have hc : (n : Int) < (th.length : Int) := by omega
    have w1 : IntKind.wrap .i64 ((n : Int) + 1) = (n : Int) + 1 := wrap64s (by omega) (by omega)
    have hnb2 := nobra_take hlt hnb
    generalize hx : th[n] = x at hnb2
    by_cases h13 : x.op = 13
    ·
      repeat' (first
        | exact aw_ret (ret_vals (by simp; exact rfl) (by simp [*]; fail_if_success (show _)))
        | exact aw_ret (ret_vals (by simp; exact rfl) (by simp [*]; omega))
        | refine ar_end rfl ?_
        | refine ar_endD rfl (by kernel_rfl) ?_
        | refine ar_fin rfl ?_
        | refine ar_finD rfl (by kernel_rfl) ?_
        | refine ar_go3 _ rfl (by simp [insL_len, insL_getE, inL, ints_len, ints_getE, bls_len, evsL_len, evsL_getE, evL, u32s_len, u32s_getE, hc, hlt, hx, h13]; exact ⟨rfl, rfl, rfl⟩) rfl ?_
        | refine aw_sregK 0 [0, 1, 2, 3] ?_
        | refine aw_regK 0 [0, 1, 2, 3] ?_
        | refine aw_sregK 1 [0, 1, 2, 3] ?_
        | refine aw_regK 1 [0, 1, 2, 3] ?_
        | refine aw_sregK 2 [0, 1, 2, 3, 9] ?_
        | refine aw_regK 2 [0, 1, 2, 3, 9] ?_
        | refine aw_sregK 3 [9] ?_
        | refine aw_regK 3 [9] ?_
        | refine aw_sregK 4 [0, 1, 2, 3, 9] ?_
        | refine aw_regK 4 [0, 1, 2, 3, 9] ?_
        | refine aw_sregK 5 [0, 1, 2, 3, 9, 10] ?_
        | refine aw_regK 5 [0, 1, 2, 3, 9, 10] ?_
        | refine aw_sregK 6 [0, 1, 2, 3, 9, 10] ?_
        | refine aw_regK 6 [0, 1, 2, 3, 9, 10] ?_
        | refine aw_sregK 7 [0, 1, 2, 3, 9, 10] ?_
        | refine aw_regK 7 [0, 1, 2, 3, 9, 10] ?_
        | refine aw_sregK 8 [9] ?_
        | refine aw_regK 8 [9] ?_
        | refine aw_sregK 9 [0, 1, 2, 3, 9] ?_
        | refine aw_regK 9 [0, 1, 2, 3, 9] ?_
        | refine aw_sregK 10 [0, 1, 2, 9, 11] ?_
        | refine aw_regK 10 [0, 1, 2, 9, 11] ?_
        | refine aw_sregK 11 [0, 1, 2, 9, 12] ?_
        | refine aw_regK 11 [0, 1, 2, 9, 12] ?_
        | refine aw_sregK 12 [9, 12, 13] ?_
        | refine aw_regK 12 [9, 12, 13] ?_
        | refine aw_sregK 13 [] ?_
        | refine aw_regK 13 [] ?_
        | refine aw_sregKD mixed 14 [9, 12, 13] (by simp; exact rfl) ?_
        | refine aw_regKD mixed 14 [9, 12, 13] (by simp; exact rfl) ?_
        | refine aw_sreg ?_
        | refine aw_sregD mixed ?_
        | refine aw_ifT (b := true) rfl rfl ?_
        | refine aw_ifF (b := false) rfl rfl ?_
        | refine aw_ifT rfl (by assumption) ?_
        | refine aw_ifF rfl (by assumption) ?_
        | refine aw_ifT rfl (decide_eq_true (by assumption)) ?_
        | refine aw_ifF rfl (decide_eq_false (by assumption)) ?_
        | refine aw_seq ?_
        | refine aw_block ?_
        | refine aw_skip ?_
        | refine aw_region ?_
        | refine aw_region_draw mixed ?_
        | refine aw_exit ?_
        | refine rq_exit ?_
        | refine blockQ_hit ?_
        | refine blockQ_miss (by decide) ?_
        | (refine ar_guard rfl rfl rfl rfl (fun h => ?_) (fun h => ?_) <;> (fail_if_success (cases h; done)) <;> (try simp at h) <;> (try subst h))
        | (refine aw_both rfl (fun h => ?_) (fun h => ?_) <;> (fail_if_success (cases h; done)) <;> (try simp at h) <;> (try subst h)))
    by_cases h14 : x.op = 14
    ·
      repeat' (first
        | exact aw_ret (ret_vals (by simp; exact rfl) (by simp [*]; fail_if_success (show _)))
        | exact aw_ret (ret_vals (by simp; exact rfl) (by simp [*]; omega))
        | refine ar_end rfl ?_
        | refine ar_endD rfl (by kernel_rfl) ?_
        | refine ar_fin rfl ?_
        | refine ar_finD rfl (by kernel_rfl) ?_
        | refine ar_go3 _ rfl (by simp [insL_len, insL_getE, inL, ints_len, ints_getE, bls_len, evsL_len, evsL_getE, evL, u32s_len, u32s_getE, hc, hlt, hx, h13, h14]; exact ⟨rfl, rfl, rfl⟩) rfl ?_
        | refine aw_sregK 0 [0, 1, 2, 3] ?_
        | refine aw_regK 0 [0, 1, 2, 3] ?_
        | refine aw_sregK 1 [0, 1, 2, 3] ?_
        | refine aw_regK 1 [0, 1, 2, 3] ?_
        | refine aw_sregK 2 [0, 1, 2, 3, 9] ?_
        | refine aw_regK 2 [0, 1, 2, 3, 9] ?_
        | refine aw_sregK 3 [9] ?_
        | refine aw_regK 3 [9] ?_
        | refine aw_sregK 4 [0, 1, 2, 3, 9] ?_
        | refine aw_regK 4 [0, 1, 2, 3, 9] ?_
        | refine aw_sregK 5 [0, 1, 2, 3, 9, 10] ?_
        | refine aw_regK 5 [0, 1, 2, 3, 9, 10] ?_
        | refine aw_sregK 6 [0, 1, 2, 3, 9, 10] ?_
        | refine aw_regK 6 [0, 1, 2, 3, 9, 10] ?_
        | refine aw_sregK 7 [0, 1, 2, 3, 9, 10] ?_
        | refine aw_regK 7 [0, 1, 2, 3, 9, 10] ?_
        | refine aw_sregK 8 [9] ?_
        | refine aw_regK 8 [9] ?_
        | refine aw_sregK 9 [0, 1, 2, 3, 9] ?_
        | refine aw_regK 9 [0, 1, 2, 3, 9] ?_
        | refine aw_sregK 10 [0, 1, 2, 9, 11] ?_
        | refine aw_regK 10 [0, 1, 2, 9, 11] ?_
        | refine aw_sregK 11 [0, 1, 2, 9, 12] ?_
        | refine aw_regK 11 [0, 1, 2, 9, 12] ?_
        | refine aw_sregK 12 [9, 12, 13] ?_
        | refine aw_regK 12 [9, 12, 13] ?_
        | refine aw_sregK 13 [] ?_
        | refine aw_regK 13 [] ?_
        | refine aw_sregKD mixed 14 [9, 12, 13] (by simp; exact rfl) ?_
        | refine aw_regKD mixed 14 [9, 12, 13] (by simp; exact rfl) ?_
        | refine aw_sreg ?_
        | refine aw_sregD mixed ?_
        | refine aw_ifT (b := true) rfl rfl ?_
        | refine aw_ifF (b := false) rfl rfl ?_
        | refine aw_ifT rfl (by assumption) ?_
        | refine aw_ifF rfl (by assumption) ?_
        | refine aw_ifT rfl (decide_eq_true (by assumption)) ?_
        | refine aw_ifF rfl (decide_eq_false (by assumption)) ?_
        | refine aw_seq ?_
        | refine aw_block ?_
        | refine aw_skip ?_
        | refine aw_region ?_
        | refine aw_region_draw mixed ?_
        | refine aw_exit ?_
        | refine rq_exit ?_
        | refine blockQ_hit ?_
        | refine blockQ_miss (by decide) ?_
        | (refine ar_guard rfl rfl rfl rfl (fun h => ?_) (fun h => ?_) <;> (fail_if_success (cases h; done)) <;> (try simp at h) <;> (try subst h))
        | (refine aw_both rfl (fun h => ?_) (fun h => ?_) <;> (fail_if_success (cases h; done)) <;> (try simp at h) <;> (try subst h)))
    have hnb3 := hnb2 h13 h14
    repeat' (first
      | refine ar_end rfl ?_
      | refine ar_endD rfl (by kernel_rfl) ?_
      | refine ar_fin rfl ?_
      | refine ar_finD rfl (by kernel_rfl) ?_
      | refine lq_normN [0, 1, 2, 3, 9, 10] [] (by simp; exact rfl) ⟨n + 1, by omega, hnb3⟩ (by dsimp only; omega) (by simp)
      | refine ar_go3 _ rfl (by simp [insL_len, insL_getE, inL, ints_len, ints_getE, bls_len, evsL_len, evsL_getE, evL, u32s_len, u32s_getE, hc, hlt, hx, h13, h14, w1]; exact ⟨rfl, rfl, rfl⟩) rfl ?_
      | refine aw_sregK 0 [0, 1, 2, 3] ?_
      | refine aw_regK 0 [0, 1, 2, 3] ?_
      | refine aw_sregK 1 [0, 1, 2, 3] ?_
      | refine aw_regK 1 [0, 1, 2, 3] ?_
      | refine aw_sregK 2 [0, 1, 2, 3, 9] ?_
      | refine aw_regK 2 [0, 1, 2, 3, 9] ?_
      | refine aw_sregK 3 [9] ?_
      | refine aw_regK 3 [9] ?_
      | refine aw_sregK 4 [0, 1, 2, 3, 9] ?_
      | refine aw_regK 4 [0, 1, 2, 3, 9] ?_
      | refine aw_sregK 5 [0, 1, 2, 3, 9, 10] ?_
      | refine aw_regK 5 [0, 1, 2, 3, 9, 10] ?_
      | refine aw_sregK 6 [0, 1, 2, 3, 9, 10] ?_
      | refine aw_regK 6 [0, 1, 2, 3, 9, 10] ?_
      | refine aw_sregK 7 [0, 1, 2, 3, 9, 10] ?_
      | refine aw_regK 7 [0, 1, 2, 3, 9, 10] ?_
      | refine aw_sregK 8 [9] ?_
      | refine aw_regK 8 [9] ?_
      | refine aw_sregK 9 [0, 1, 2, 3, 9] ?_
      | refine aw_regK 9 [0, 1, 2, 3, 9] ?_
      | refine aw_sregK 10 [0, 1, 2, 9, 11] ?_
      | refine aw_regK 10 [0, 1, 2, 9, 11] ?_
      | refine aw_sregK 11 [0, 1, 2, 9, 12] ?_
      | refine aw_regK 11 [0, 1, 2, 9, 12] ?_
      | refine aw_sregK 12 [9, 12, 13] ?_
      | refine aw_regK 12 [9, 12, 13] ?_
      | refine aw_sregK 13 [] ?_
      | refine aw_regK 13 [] ?_
      | refine aw_sregKD mixed 14 [9, 12, 13] (by simp; exact rfl) ?_
      | refine aw_regKD mixed 14 [9, 12, 13] (by simp; exact rfl) ?_
      | refine aw_sreg ?_
      | refine aw_sregD mixed ?_
      | refine aw_ifT (b := true) rfl rfl ?_
      | refine aw_ifF (b := false) rfl rfl ?_
      | refine aw_ifT rfl (by assumption) ?_
      | refine aw_ifF rfl (by assumption) ?_
      | refine aw_ifT rfl (decide_eq_true (by assumption)) ?_
      | refine aw_ifF rfl (decide_eq_false (by assumption)) ?_
      | refine aw_seq ?_
      | refine aw_block ?_
      | refine aw_skip ?_
      | refine aw_region ?_
      | refine aw_region_draw mixed ?_
      | refine aw_exit ?_
      | refine rq_exit ?_
      | refine blockQ_hit ?_
      | refine blockQ_miss (by decide) ?_
      | (refine ar_guard rfl rfl rfl rfl (fun h => ?_) (fun h => ?_) <;> (fail_if_success (cases h; done)) <;> (try simp at h) <;> (try subst h))
      | (refine aw_both rfl (fun h => ?_) (fun h => ?_) <;> (fail_if_success (cases h; done)) <;> (try simp at h) <;> (try subst h)))
  have hc : ¬(n : Int) < (th.length : Int) := by omega
  rw [List.take_of_length_le (by omega)] at hnb
  obtain ⟨wcut, k, hmod, hkl⟩ := cut_mod (n := th.length) hcut
  have wlen : IntKind.wrap .i64 ((th.length : Int) + 1) = (th.length : Int) + 1 := wrap64s (by omega) (by omega)
  have hz : ¬(th.length : Int) + 1 = 0 := by omega
  have hkn : ((k : Int)).toNat = k := by omega
  have hA := c_Run (th := th.take k) (locs := 2) (vals := vals) (lucks := lucks) (by simp [maxLen]; omega) (by omega) (by omega)
  obtain ⟨hW, q, hq, hI⟩ := run_wf (th := th.take k) (locs := 2) (lucks := lucks) (fun x hx => hth x (List.mem_of_mem_take hx)) hvw
  obtain ⟨hg, hmore⟩ := begins (vals := vals) (lucks := lucks) (k := k) hm hnb
  have hpre := hg.take
  have gl := hg.es.length_le
  have gn := hg.nv
  have gll := hg.nl
  generalize runF (th.take k) 2 vals lucks = A at *
  generalize runF th 2 vals lucks = R at *
  have hE := c_Events (l := A.es) (by have := hI.es; simp [maxLen]; omega) hW.es
  have gl1 : ¬(R.es.length : Int) < (A.es.length : Int) := by omega
  by_cases ha0 : A.more = 0
  ·
    repeat' (first
      | exact aw_ret (ret_vals (by simp; exact rfl) (by simp [ha0, gn, gll]; fail_if_success (show _)))
      | exact aw_ret (ret_vals (by simp; exact rfl) (by simp [ha0, gn, gll]; omega))
      | refine ar_end rfl ?_
      | refine ar_endD rfl (by kernel_rfl) ?_
      | refine ar_fin rfl ?_
      | refine ar_finD rfl (by kernel_rfl) ?_
      | refine ar_callV Try.call68 hA rfl rfl rfl rfl rfl (by simp; done) (by rfl) (by simp; done) ?_
      | refine ar_callV_if Try.call68 hA rfl rfl rfl rfl rfl rfl (by simp; done) rfl (by rfl) (by simp; done) ?_
      | refine ar_callV Try.call68 hR rfl rfl rfl rfl rfl (by simp; done) (by rfl) (by simp; done) ?_
      | refine ar_callV_if Try.call68 hR rfl rfl rfl rfl rfl rfl (by simp; done) rfl (by rfl) (by simp; done) ?_
      | refine ar_callV Try.call70 hE rfl rfl rfl rfl rfl (by simp; done) (by rfl) (by simp; done) ?_
      | refine ar_callV_if Try.call70 hE rfl rfl rfl rfl rfl rfl (by simp; done) rfl (by rfl) (by simp; done) ?_
      | refine lq_exit ?_
      | refine ar_go3 _ rfl (by simp [insL_len, insL_getE, inL, ints_len, ints_getE, bls_len, evsL_len, evsL_getE, evL, u32s_len, u32s_getE, hc, wcut, hmod, wlen, hz, hkl, insL_take, evsL_take, gl, gl1, gn, gll, hpre, ha0]; exact ⟨rfl, rfl, rfl⟩) rfl ?_
      | refine aw_sregK 0 [0, 1, 2, 3] ?_
      | refine aw_regK 0 [0, 1, 2, 3] ?_
      | refine aw_sregK 1 [0, 1, 2, 3] ?_
      | refine aw_regK 1 [0, 1, 2, 3] ?_
      | refine aw_sregK 2 [0, 1, 2, 3, 9] ?_
      | refine aw_regK 2 [0, 1, 2, 3, 9] ?_
      | refine aw_sregK 3 [9] ?_
      | refine aw_regK 3 [9] ?_
      | refine aw_sregK 4 [0, 1, 2, 3, 9] ?_
      | refine aw_regK 4 [0, 1, 2, 3, 9] ?_
      | refine aw_sregK 5 [0, 1, 2, 3, 9, 10] ?_
      | refine aw_regK 5 [0, 1, 2, 3, 9, 10] ?_
      | refine aw_sregK 6 [0, 1, 2, 3, 9, 10] ?_
      | refine aw_regK 6 [0, 1, 2, 3, 9, 10] ?_
      | refine aw_sregK 7 [0, 1, 2, 3, 9, 10] ?_
      | refine aw_regK 7 [0, 1, 2, 3, 9, 10] ?_
      | refine aw_sregK 8 [9] ?_
      | refine aw_regK 8 [9] ?_
      | refine aw_sregK 9 [0, 1, 2, 3, 9] ?_
      | refine aw_regK 9 [0, 1, 2, 3, 9] ?_
      | refine aw_sregK 10 [0, 1, 2, 9, 11] ?_
      | refine aw_regK 10 [0, 1, 2, 9, 11] ?_
      | refine aw_sregK 11 [0, 1, 2, 9, 12] ?_
      | refine aw_regK 11 [0, 1, 2, 9, 12] ?_
      | refine aw_sregK 12 [9, 12, 13] ?_
      | refine aw_regK 12 [9, 12, 13] ?_
      | refine aw_sregK 13 [] ?_
      | refine aw_regK 13 [] ?_
      | refine aw_sregKD mixed 14 [9, 12, 13] (by simp; exact rfl) ?_
      | refine aw_regKD mixed 14 [9, 12, 13] (by simp; exact rfl) ?_
      | refine aw_sreg ?_
      | refine aw_sregD mixed ?_
      | refine aw_ifT (b := true) rfl rfl ?_
      | refine aw_ifF (b := false) rfl rfl ?_
      | refine aw_ifT rfl (by assumption) ?_
      | refine aw_ifF rfl (by assumption) ?_
      | refine aw_ifT rfl (decide_eq_true (by assumption)) ?_
      | refine aw_ifF rfl (decide_eq_false (by assumption)) ?_
      | refine aw_seq ?_
      | refine aw_block ?_
      | refine aw_skip ?_
      | refine aw_region ?_
      | refine aw_region_draw mixed ?_
      | refine aw_exit ?_
      | refine rq_exit ?_
      | refine blockQ_hit ?_
      | refine blockQ_miss (by decide) ?_
      | (refine ar_guard rfl rfl rfl rfl (fun h => ?_) (fun h => ?_) <;> (fail_if_success (cases h; done)) <;> (try simp at h) <;> (try subst h))
      | (refine aw_both rfl (fun h => ?_) (fun h => ?_) <;> (fail_if_success (cases h; done)) <;> (try simp at h) <;> (try subst h)))
  · have hmore' : R.more = A.more := by rcases hmore with h | h; exact absurd h ha0; exact h
    repeat' (first
      | exact aw_ret (ret_vals (by simp; exact rfl) (by simp [ha0, hmore', gn, gll]; fail_if_success (show _)))
      | exact aw_ret (ret_vals (by simp; exact rfl) (by simp [ha0, hmore', gn, gll]; omega))
      | refine ar_end rfl ?_
      | refine ar_endD rfl (by kernel_rfl) ?_
      | refine ar_fin rfl ?_
      | refine ar_finD rfl (by kernel_rfl) ?_
      | refine ar_callV Try.call68 hA rfl rfl rfl rfl rfl (by simp; done) (by rfl) (by simp; done) ?_
      | refine ar_callV_if Try.call68 hA rfl rfl rfl rfl rfl rfl (by simp; done) rfl (by rfl) (by simp; done) ?_
      | refine ar_callV Try.call68 hR rfl rfl rfl rfl rfl (by simp; done) (by rfl) (by simp; done) ?_
      | refine ar_callV_if Try.call68 hR rfl rfl rfl rfl rfl rfl (by simp; done) rfl (by rfl) (by simp; done) ?_
      | refine ar_callV Try.call70 hE rfl rfl rfl rfl rfl (by simp; done) (by rfl) (by simp; done) ?_
      | refine ar_callV_if Try.call70 hE rfl rfl rfl rfl rfl rfl (by simp; done) rfl (by rfl) (by simp; done) ?_
      | refine lq_exit ?_
      | refine ar_go3 _ rfl (by simp [insL_len, insL_getE, inL, ints_len, ints_getE, bls_len, evsL_len, evsL_getE, evL, u32s_len, u32s_getE, hc, wcut, hmod, wlen, hz, hkl, insL_take, evsL_take, gl, gl1, gn, gll, hpre, ha0, hmore']; exact ⟨rfl, rfl, rfl⟩) rfl ?_
      | refine aw_sregK 0 [0, 1, 2, 3] ?_
      | refine aw_regK 0 [0, 1, 2, 3] ?_
      | refine aw_sregK 1 [0, 1, 2, 3] ?_
      | refine aw_regK 1 [0, 1, 2, 3] ?_
      | refine aw_sregK 2 [0, 1, 2, 3, 9] ?_
      | refine aw_regK 2 [0, 1, 2, 3, 9] ?_
      | refine aw_sregK 3 [9] ?_
      | refine aw_regK 3 [9] ?_
      | refine aw_sregK 4 [0, 1, 2, 3, 9] ?_
      | refine aw_regK 4 [0, 1, 2, 3, 9] ?_
      | refine aw_sregK 5 [0, 1, 2, 3, 9, 10] ?_
      | refine aw_regK 5 [0, 1, 2, 3, 9, 10] ?_
      | refine aw_sregK 6 [0, 1, 2, 3, 9, 10] ?_
      | refine aw_regK 6 [0, 1, 2, 3, 9, 10] ?_
      | refine aw_sregK 7 [0, 1, 2, 3, 9, 10] ?_
      | refine aw_regK 7 [0, 1, 2, 3, 9, 10] ?_
      | refine aw_sregK 8 [9] ?_
      | refine aw_regK 8 [9] ?_
      | refine aw_sregK 9 [0, 1, 2, 3, 9] ?_
      | refine aw_regK 9 [0, 1, 2, 3, 9] ?_
      | refine aw_sregK 10 [0, 1, 2, 9, 11] ?_
      | refine aw_regK 10 [0, 1, 2, 9, 11] ?_
      | refine aw_sregK 11 [0, 1, 2, 9, 12] ?_
      | refine aw_regK 11 [0, 1, 2, 9, 12] ?_
      | refine aw_sregK 12 [9, 12, 13] ?_
      | refine aw_regK 12 [9, 12, 13] ?_
      | refine aw_sregK 13 [] ?_
      | refine aw_regK 13 [] ?_
      | refine aw_sregKD mixed 14 [9, 12, 13] (by simp; exact rfl) ?_
      | refine aw_regKD mixed 14 [9, 12, 13] (by simp; exact rfl) ?_
      | refine aw_sreg ?_
      | refine aw_sregD mixed ?_
      | refine aw_ifT (b := true) rfl rfl ?_
      | refine aw_ifF (b := false) rfl rfl ?_
      | refine aw_ifT rfl (by assumption) ?_
      | refine aw_ifF rfl (by assumption) ?_
      | refine aw_ifT rfl (decide_eq_true (by assumption)) ?_
      | refine aw_ifF rfl (decide_eq_false (by assumption)) ?_
      | refine aw_seq ?_
      | refine aw_block ?_
      | refine aw_skip ?_
      | refine aw_region ?_
      | refine aw_region_draw mixed ?_
      | refine aw_exit ?_
      | refine rq_exit ?_
      | refine blockQ_hit ?_
      | refine blockQ_miss (by decide) ?_
      | (refine ar_guard rfl rfl rfl rfl (fun h => ?_) (fun h => ?_) <;> (fail_if_success (cases h; done)) <;> (try simp at h) <;> (try subst h))
      | (refine aw_both rfl (fun h => ?_) (fun h => ?_) <;> (fail_if_success (cases h; done)) <;> (try simp at h) <;> (try subst h)))
end Go.Eng
