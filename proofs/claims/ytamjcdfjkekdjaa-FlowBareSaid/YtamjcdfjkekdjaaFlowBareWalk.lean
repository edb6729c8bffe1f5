import Derived.Test.YtamjcdfjkekdjaaFlowValsWalk
import Derived.Test.YtamjcdfjkekdjaaFlowH
set_option linter.unusedSimpArgs false
set_option linter.unusedVariables false
set_option linter.constructorNameAsVariable false
set_option autoImplicit false
namespace Go.Eng
open Go Go.RowKit Go.Proofs
theorem filter_take_succ {α : Type} {p : α → Bool} {l : List α} {n : Nat} (h : n < l.length) : (l.take (n + 1)).filter p = (l.take n).filter p ++ (if p l[n] = true then [l[n]] else []) := by
  rw [List.take_add_one, List.getElem?_eq_getElem h, List.filter_append]
  cases hp : p l[n] <;> simp [hp]
theorem nobra_take' {th : List In} {n : Nat} (h : n < th.length) (hn : NoBra (th.take n)) (h1 : ¬th[n].op = 13) (h2 : ¬th[n].op = 14) : NoBra (th.take (n + 1)) := by
  intro x hx
  rw [List.take_add_one, List.getElem?_eq_getElem h, List.mem_append] at hx
  rcases hx with hx | hx
  · exact hn x hx
  · have : x = th[n] := by simpa using hx
    rw [this]; exact ⟨h1, h2⟩
theorem w2b : W64 2 := by decide
theorem insL_app (s l : List In) : insL (s ++ l) = insL s ++ insL l := by simp [insL]
set_option maxHeartbeats 16000000 in
theorem law_FlowBare {th : List In} {vals : List Int} {lucks : List Bool} (hth : ∀ x ∈ th, wfIn x) (hvw : ∀ v ∈ vals, W64 v) : SC Try.prog 23 [.pv (.sl 6 (insL th)), .pv (.sl 1 (ints vals)), .pv (.sl 1 (bls lucks))] (B true) := by
  by_cases h8 : 8 < (th.length : Int)
  · refine scx_of Try.func23 rfl rfl rfl (Nat.le_of_ble_eq_true rfl) ?_
    repeat' (first
      | exact aw_ret (ret_vals (by simp; exact rfl) (by simp [*]; fail_if_success (show _)))
      | exact aw_ret (ret_vals (by simp; exact rfl) (by simp [*]; omega))
      | refine ar_end rfl ?_
      | refine ar_endD rfl (by kernel_rfl) ?_
      | refine ar_fin rfl ?_
      | refine ar_finD rfl (by kernel_rfl) ?_
      | refine ar_callV Try.call65 c_shown8 rfl rfl rfl rfl rfl (by simp; done) (by rfl) (by simp; done) ?_
      | refine ar_callV_if Try.call65 c_shown8 rfl rfl rfl rfl rfl rfl (by simp; done) rfl (by rfl) (by simp; done) ?_
      | refine ar_go3 _ rfl (by simp [insL_len, insL_getE, inL, ints_len, ints_getE, bls_len, evsL_len, evsL_getE, evL, u32s_len, u32s_getE, h8]; exact ⟨rfl, rfl, rfl⟩) rfl ?_
      | refine aw_sregK 0 [0, 1, 2] ?_
      | refine aw_regK 0 [0, 1, 2] ?_
      | refine aw_sregK 1 [0, 1, 2] ?_
      | refine aw_regK 1 [0, 1, 2] ?_
      | refine aw_sregK 2 [0, 1, 2, 7] ?_
      | refine aw_regK 2 [0, 1, 2, 7] ?_
      | refine aw_sregK 3 [7] ?_
      | refine aw_regK 3 [7] ?_
      | refine aw_sregK 4 [0, 1, 2, 7] ?_
      | refine aw_regK 4 [0, 1, 2, 7] ?_
      | refine aw_sregK 5 [0, 1, 2, 7, 8] ?_
      | refine aw_regK 5 [0, 1, 2, 7, 8] ?_
      | refine aw_sregK 6 [0, 1, 2, 7, 8, 9] ?_
      | refine aw_regK 6 [0, 1, 2, 7, 8, 9] ?_
      | refine aw_sregK 7 [0, 1, 2, 7, 8, 9] ?_
      | refine aw_regK 7 [0, 1, 2, 7, 8, 9] ?_
      | refine aw_sregK 8 [0, 1, 2, 7, 8, 9] ?_
      | refine aw_regK 8 [0, 1, 2, 7, 8, 9] ?_
      | refine aw_sregK 9 [7] ?_
      | refine aw_regK 9 [7] ?_
      | refine aw_sregK 10 [0, 1, 2, 7, 8, 9] ?_
      | refine aw_regK 10 [0, 1, 2, 7, 8, 9] ?_
      | refine aw_sregK 11 [0, 1, 2, 7, 8, 9] ?_
      | refine aw_regK 11 [0, 1, 2, 7, 8, 9] ?_
      | refine aw_sregK 12 [0, 1, 2, 7, 8] ?_
      | refine aw_regK 12 [0, 1, 2, 7, 8] ?_
      | refine aw_sregK 13 [7] ?_
      | refine aw_regK 13 [7] ?_
      | refine aw_sregK 14 [0, 1, 2, 7, 8] ?_
      | refine aw_regK 14 [0, 1, 2, 7, 8] ?_
      | refine aw_sregK 15 [1, 2, 7, 8, 10] ?_
      | refine aw_regK 15 [1, 2, 7, 8, 10] ?_
      | refine aw_sregK 16 [7, 10, 11] ?_
      | refine aw_regK 16 [7, 10, 11] ?_
      | refine aw_sregK 17 [7, 10, 11, 12] ?_
      | refine aw_regK 17 [7, 10, 11, 12] ?_
      | refine aw_sregK 18 [7, 10, 11, 12, 13] ?_
      | refine aw_regK 18 [7, 10, 11, 12, 13] ?_
      | refine aw_sregK 19 [7, 10, 11, 12, 13] ?_
      | refine aw_regK 19 [7, 10, 11, 12, 13] ?_
      | refine aw_sregK 20 [7, 10, 11, 12, 13] ?_
      | refine aw_regK 20 [7, 10, 11, 12, 13] ?_
      | refine aw_sregK 21 [7, 10, 11, 12, 13] ?_
      | refine aw_regK 21 [7, 10, 11, 12, 13] ?_
      | refine aw_sregK 22 [7, 10, 11, 12] ?_
      | refine aw_regK 22 [7, 10, 11, 12] ?_
      | refine aw_sreg ?_
      | refine aw_sregD mixed ?_
      | refine aw_ifT (b := true) rfl rfl ?_
      | refine aw_ifF (b := false) rfl rfl ?_
      | refine aw_ifT rfl (by assumption) ?_
      | refine aw_ifF rfl (by assumption) ?_
      | refine aw_ifT rfl (decide_eq_true (by assumption)) ?_
      | refine aw_ifF rfl (decide_eq_false (by assumption)) ?_
      | refine aw_seq ?_
      | refine aw_block ?_
      | refine aw_skip ?_
      | refine aw_region ?_
      | refine aw_region_draw mixed ?_
      | refine aw_exit ?_
      | refine rq_exit ?_
      | refine blockQ_hit ?_
      | refine blockQ_miss (by decide) ?_
      | (refine ar_guard rfl rfl rfl rfl (fun h => ?_) (fun h => ?_) <;> (fail_if_success (cases h; done)) <;> (try simp at h) <;> (try subst h))
      | (refine aw_both rfl (fun h => ?_) (fun h => ?_) <;> (fail_if_success (cases h; done)) <;> (try simp at h) <;> (try subst h)))
  by_cases hv40 : 40 < (vals.length : Int)
  · refine scx_of Try.func23 rfl rfl rfl (Nat.le_of_ble_eq_true rfl) ?_
    repeat' (first
      | exact aw_ret (ret_vals (by simp; exact rfl) (by simp [*]; fail_if_success (show _)))
      | exact aw_ret (ret_vals (by simp; exact rfl) (by simp [*]; omega))
      | refine ar_end rfl ?_
      | refine ar_endD rfl (by kernel_rfl) ?_
      | refine ar_fin rfl ?_
      | refine ar_finD rfl (by kernel_rfl) ?_
      | refine ar_callV Try.call65 c_shown8 rfl rfl rfl rfl rfl (by simp; done) (by rfl) (by simp; done) ?_
      | refine ar_callV_if Try.call65 c_shown8 rfl rfl rfl rfl rfl rfl (by simp; done) rfl (by rfl) (by simp; done) ?_
      | refine ar_go3 _ rfl (by simp [insL_len, insL_getE, inL, ints_len, ints_getE, bls_len, evsL_len, evsL_getE, evL, u32s_len, u32s_getE, h8, hv40]; exact ⟨rfl, rfl, rfl⟩) rfl ?_
      | refine aw_sregK 0 [0, 1, 2] ?_
      | refine aw_regK 0 [0, 1, 2] ?_
      | refine aw_sregK 1 [0, 1, 2] ?_
      | refine aw_regK 1 [0, 1, 2] ?_
      | refine aw_sregK 2 [0, 1, 2, 7] ?_
      | refine aw_regK 2 [0, 1, 2, 7] ?_
      | refine aw_sregK 3 [7] ?_
      | refine aw_regK 3 [7] ?_
      | refine aw_sregK 4 [0, 1, 2, 7] ?_
      | refine aw_regK 4 [0, 1, 2, 7] ?_
      | refine aw_sregK 5 [0, 1, 2, 7, 8] ?_
      | refine aw_regK 5 [0, 1, 2, 7, 8] ?_
      | refine aw_sregK 6 [0, 1, 2, 7, 8, 9] ?_
      | refine aw_regK 6 [0, 1, 2, 7, 8, 9] ?_
      | refine aw_sregK 7 [0, 1, 2, 7, 8, 9] ?_
      | refine aw_regK 7 [0, 1, 2, 7, 8, 9] ?_
      | refine aw_sregK 8 [0, 1, 2, 7, 8, 9] ?_
      | refine aw_regK 8 [0, 1, 2, 7, 8, 9] ?_
      | refine aw_sregK 9 [7] ?_
      | refine aw_regK 9 [7] ?_
      | refine aw_sregK 10 [0, 1, 2, 7, 8, 9] ?_
      | refine aw_regK 10 [0, 1, 2, 7, 8, 9] ?_
      | refine aw_sregK 11 [0, 1, 2, 7, 8, 9] ?_
      | refine aw_regK 11 [0, 1, 2, 7, 8, 9] ?_
      | refine aw_sregK 12 [0, 1, 2, 7, 8] ?_
      | refine aw_regK 12 [0, 1, 2, 7, 8] ?_
      | refine aw_sregK 13 [7] ?_
      | refine aw_regK 13 [7] ?_
      | refine aw_sregK 14 [0, 1, 2, 7, 8] ?_
      | refine aw_regK 14 [0, 1, 2, 7, 8] ?_
      | refine aw_sregK 15 [1, 2, 7, 8, 10] ?_
      | refine aw_regK 15 [1, 2, 7, 8, 10] ?_
      | refine aw_sregK 16 [7, 10, 11] ?_
      | refine aw_regK 16 [7, 10, 11] ?_
      | refine aw_sregK 17 [7, 10, 11, 12] ?_
      | refine aw_regK 17 [7, 10, 11, 12] ?_
      | refine aw_sregK 18 [7, 10, 11, 12, 13] ?_
      | refine aw_regK 18 [7, 10, 11, 12, 13] ?_
      | refine aw_sregK 19 [7, 10, 11, 12, 13] ?_
      | refine aw_regK 19 [7, 10, 11, 12, 13] ?_
      | refine aw_sregK 20 [7, 10, 11, 12, 13] ?_
      | refine aw_regK 20 [7, 10, 11, 12, 13] ?_
      | refine aw_sregK 21 [7, 10, 11, 12, 13] ?_
      | refine aw_regK 21 [7, 10, 11, 12, 13] ?_
      | refine aw_sregK 22 [7, 10, 11, 12] ?_
      | refine aw_regK 22 [7, 10, 11, 12] ?_
      | refine aw_sreg ?_
      | refine aw_sregD mixed ?_
      | refine aw_ifT (b := true) rfl rfl ?_
      | refine aw_ifF (b := false) rfl rfl ?_
      | refine aw_ifT rfl (by assumption) ?_
      | refine aw_ifF rfl (by assumption) ?_
      | refine aw_ifT rfl (decide_eq_true (by assumption)) ?_
      | refine aw_ifF rfl (decide_eq_false (by assumption)) ?_
      | refine aw_seq ?_
      | refine aw_block ?_
      | refine aw_skip ?_
      | refine aw_region ?_
      | refine aw_region_draw mixed ?_
      | refine aw_exit ?_
      | refine rq_exit ?_
      | refine blockQ_hit ?_
      | refine blockQ_miss (by decide) ?_
      | (refine ar_guard rfl rfl rfl rfl (fun h => ?_) (fun h => ?_) <;> (fail_if_success (cases h; done)) <;> (try simp at h) <;> (try subst h))
      | (refine aw_both rfl (fun h => ?_) (fun h => ?_) <;> (fail_if_success (cases h; done)) <;> (try simp at h) <;> (try subst h)))
  by_cases hl40 : 40 < (lucks.length : Int)
  · refine scx_of Try.func23 rfl rfl rfl (Nat.le_of_ble_eq_true rfl) ?_
    repeat' (first
      | exact aw_ret (ret_vals (by simp; exact rfl) (by simp [*]; fail_if_success (show _)))
      | exact aw_ret (ret_vals (by simp; exact rfl) (by simp [*]; omega))
      | refine ar_end rfl ?_
      | refine ar_endD rfl (by kernel_rfl) ?_
      | refine ar_fin rfl ?_
      | refine ar_finD rfl (by kernel_rfl) ?_
      | refine ar_callV Try.call65 c_shown8 rfl rfl rfl rfl rfl (by simp; done) (by rfl) (by simp; done) ?_
      | refine ar_callV_if Try.call65 c_shown8 rfl rfl rfl rfl rfl rfl (by simp; done) rfl (by rfl) (by simp; done) ?_
      | refine ar_go3 _ rfl (by simp [insL_len, insL_getE, inL, ints_len, ints_getE, bls_len, evsL_len, evsL_getE, evL, u32s_len, u32s_getE, h8, hv40, hl40]; exact ⟨rfl, rfl, rfl⟩) rfl ?_
      | refine aw_sregK 0 [0, 1, 2] ?_
      | refine aw_regK 0 [0, 1, 2] ?_
      | refine aw_sregK 1 [0, 1, 2] ?_
      | refine aw_regK 1 [0, 1, 2] ?_
      | refine aw_sregK 2 [0, 1, 2, 7] ?_
      | refine aw_regK 2 [0, 1, 2, 7] ?_
      | refine aw_sregK 3 [7] ?_
      | refine aw_regK 3 [7] ?_
      | refine aw_sregK 4 [0, 1, 2, 7] ?_
      | refine aw_regK 4 [0, 1, 2, 7] ?_
      | refine aw_sregK 5 [0, 1, 2, 7, 8] ?_
      | refine aw_regK 5 [0, 1, 2, 7, 8] ?_
      | refine aw_sregK 6 [0, 1, 2, 7, 8, 9] ?_
      | refine aw_regK 6 [0, 1, 2, 7, 8, 9] ?_
      | refine aw_sregK 7 [0, 1, 2, 7, 8, 9] ?_
      | refine aw_regK 7 [0, 1, 2, 7, 8, 9] ?_
      | refine aw_sregK 8 [0, 1, 2, 7, 8, 9] ?_
      | refine aw_regK 8 [0, 1, 2, 7, 8, 9] ?_
      | refine aw_sregK 9 [7] ?_
      | refine aw_regK 9 [7] ?_
      | refine aw_sregK 10 [0, 1, 2, 7, 8, 9] ?_
      | refine aw_regK 10 [0, 1, 2, 7, 8, 9] ?_
      | refine aw_sregK 11 [0, 1, 2, 7, 8, 9] ?_
      | refine aw_regK 11 [0, 1, 2, 7, 8, 9] ?_
      | refine aw_sregK 12 [0, 1, 2, 7, 8] ?_
      | refine aw_regK 12 [0, 1, 2, 7, 8] ?_
      | refine aw_sregK 13 [7] ?_
      | refine aw_regK 13 [7] ?_
      | refine aw_sregK 14 [0, 1, 2, 7, 8] ?_
      | refine aw_regK 14 [0, 1, 2, 7, 8] ?_
      | refine aw_sregK 15 [1, 2, 7, 8, 10] ?_
      | refine aw_regK 15 [1, 2, 7, 8, 10] ?_
      | refine aw_sregK 16 [7, 10, 11] ?_
      | refine aw_regK 16 [7, 10, 11] ?_
      | refine aw_sregK 17 [7, 10, 11, 12] ?_
      | refine aw_regK 17 [7, 10, 11, 12] ?_
      | refine aw_sregK 18 [7, 10, 11, 12, 13] ?_
      | refine aw_regK 18 [7, 10, 11, 12, 13] ?_
      | refine aw_sregK 19 [7, 10, 11, 12, 13] ?_
      | refine aw_regK 19 [7, 10, 11, 12, 13] ?_
      | refine aw_sregK 20 [7, 10, 11, 12, 13] ?_
      | refine aw_regK 20 [7, 10, 11, 12, 13] ?_
      | refine aw_sregK 21 [7, 10, 11, 12, 13] ?_
      | refine aw_regK 21 [7, 10, 11, 12, 13] ?_
      | refine aw_sregK 22 [7, 10, 11, 12] ?_
      | refine aw_regK 22 [7, 10, 11, 12] ?_
      | refine aw_sreg ?_
      | refine aw_sregD mixed ?_
      | refine aw_ifT (b := true) rfl rfl ?_
      | refine aw_ifF (b := false) rfl rfl ?_
      | refine aw_ifT rfl (by assumption) ?_
      | refine aw_ifF rfl (by assumption) ?_
      | refine aw_ifT rfl (decide_eq_true (by assumption)) ?_
      | refine aw_ifF rfl (decide_eq_false (by assumption)) ?_
      | refine aw_seq ?_
      | refine aw_block ?_
      | refine aw_skip ?_
      | refine aw_region ?_
      | refine aw_region_draw mixed ?_
      | refine aw_exit ?_
      | refine rq_exit ?_
      | refine blockQ_hit ?_
      | refine blockQ_miss (by decide) ?_
      | (refine ar_guard rfl rfl rfl rfl (fun h => ?_) (fun h => ?_) <;> (fail_if_success (cases h; done)) <;> (try simp at h) <;> (try subst h))
      | (refine aw_both rfl (fun h => ?_) (fun h => ?_) <;> (fail_if_success (cases h; done)) <;> (try simp at h) <;> (try subst h)))
  have hR := c_Run (th := th) (locs := 2) (vals := vals) (lucks := lucks) (by simp [maxLen]; omega) (by omega) (by omega)
  have hM := c_mayR (th := th) w2b
  refine scx_of Try.func23 rfl rfl rfl (Nat.le_of_ble_eq_true rfl) ?_
  repeat' (first
    | exact aw_ret (ret_vals (by simp; exact rfl) (by simp [*]; fail_if_success (show _)))
    | exact aw_ret (ret_vals (by simp; exact rfl) (by simp [*]; omega))
    | refine ar_end rfl ?_
    | refine ar_endD rfl (by kernel_rfl) ?_
    | refine ar_fin rfl ?_
    | refine ar_finD rfl (by kernel_rfl) ?_
    | refine ar_callV Try.call65 c_shown8 rfl rfl rfl rfl rfl (by simp; done) (by rfl) (by simp; done) ?_
    | refine ar_callV_if Try.call65 c_shown8 rfl rfl rfl rfl rfl rfl (by simp; done) rfl (by rfl) (by simp; done) ?_
    | refine ar_go3 _ rfl (by simp [insL_len, insL_getE, inL, ints_len, ints_getE, bls_len, evsL_len, evsL_getE, evL, u32s_len, u32s_getE, h8, hv40, hl40]; exact ⟨rfl, rfl, rfl⟩) rfl ?_
    | refine aw_sregK 0 [0, 1, 2] ?_
    | refine aw_regK 0 [0, 1, 2] ?_
    | refine aw_sregK 1 [0, 1, 2] ?_
    | refine aw_regK 1 [0, 1, 2] ?_
    | refine aw_sregK 2 [0, 1, 2, 7] ?_
    | refine aw_regK 2 [0, 1, 2, 7] ?_
    | refine aw_sregK 3 [7] ?_
    | refine aw_regK 3 [7] ?_
    | refine aw_sregK 4 [0, 1, 2, 7] ?_
    | refine aw_regK 4 [0, 1, 2, 7] ?_
    | refine aw_sregK 5 [0, 1, 2, 7, 8] ?_
    | refine aw_regK 5 [0, 1, 2, 7, 8] ?_
    | refine aw_sregK 6 [0, 1, 2, 7, 8, 9] ?_
    | refine aw_regK 6 [0, 1, 2, 7, 8, 9] ?_
    | refine aw_sregK 7 [0, 1, 2, 7, 8, 9] ?_
    | refine aw_regK 7 [0, 1, 2, 7, 8, 9] ?_
    | refine aw_sregK 8 [0, 1, 2, 7, 8, 9] ?_
    | refine aw_regK 8 [0, 1, 2, 7, 8, 9] ?_
    | refine aw_sregK 9 [7] ?_
    | refine aw_regK 9 [7] ?_
    | refine aw_sregK 10 [0, 1, 2, 7, 8, 9] ?_
    | refine aw_regK 10 [0, 1, 2, 7, 8, 9] ?_
    | refine aw_sregK 11 [0, 1, 2, 7, 8, 9] ?_
    | refine aw_regK 11 [0, 1, 2, 7, 8, 9] ?_
    | refine aw_sregK 12 [0, 1, 2, 7, 8] ?_
    | refine aw_regK 12 [0, 1, 2, 7, 8] ?_
    | refine aw_sregK 13 [7] ?_
    | refine aw_regK 13 [7] ?_
    | refine aw_sregK 14 [0, 1, 2, 7, 8] ?_
    | refine aw_regK 14 [0, 1, 2, 7, 8] ?_
    | refine aw_sregK 15 [1, 2, 7, 8, 10] ?_
    | refine aw_regK 15 [1, 2, 7, 8, 10] ?_
    | refine aw_sregK 16 [7, 10, 11] ?_
    | refine aw_regK 16 [7, 10, 11] ?_
    | refine aw_sregK 17 [7, 10, 11, 12] ?_
    | refine aw_regK 17 [7, 10, 11, 12] ?_
    | refine aw_sregK 18 [7, 10, 11, 12, 13] ?_
    | refine aw_regK 18 [7, 10, 11, 12, 13] ?_
    | refine aw_sregK 19 [7, 10, 11, 12, 13] ?_
    | refine aw_regK 19 [7, 10, 11, 12, 13] ?_
    | refine aw_sregK 20 [7, 10, 11, 12, 13] ?_
    | refine aw_regK 20 [7, 10, 11, 12, 13] ?_
    | refine aw_sregK 21 [7, 10, 11, 12, 13] ?_
    | refine aw_regK 21 [7, 10, 11, 12, 13] ?_
    | refine aw_sregK 22 [7, 10, 11, 12] ?_
    | refine aw_regK 22 [7, 10, 11, 12] ?_
    | refine aw_sreg ?_
    | refine aw_sregD mixed ?_
    | refine aw_ifT (b := true) rfl rfl ?_
    | refine aw_ifF (b := false) rfl rfl ?_
    | refine aw_ifT rfl (by assumption) ?_
    | refine aw_ifF rfl (by assumption) ?_
    | refine aw_ifT rfl (decide_eq_true (by assumption)) ?_
    | refine aw_ifF rfl (decide_eq_false (by assumption)) ?_
    | refine aw_seq ?_
    | refine aw_block ?_
    | refine aw_skip ?_
    | refine aw_region ?_
    | refine aw_region_draw mixed ?_
    | refine aw_exit ?_
    | refine rq_exit ?_
    | refine blockQ_hit ?_
    | refine blockQ_miss (by decide) ?_
    | (refine ar_guard rfl rfl rfl rfl (fun h => ?_) (fun h => ?_) <;> (fail_if_success (cases h; done)) <;> (try simp at h) <;> (try subst h))
    | (refine aw_both rfl (fun h => ?_) (fun h => ?_) <;> (fail_if_success (cases h; done)) <;> (try simp at h) <;> (try subst h)))
  refine aw_nil 8 (.loc 1000) 31 6 (by simp; exact rfl) ?_
  refine aw_loopN [0, 1, 2, 7, 8, 9] [.loc 1000] (by simp; exact rfl) (ι := {n : Nat // n ≤ th.length ∧ NoBra (th.take n)}) (fun n => ⟨151, [(0, .pv (.sl 6 (insL th))), (1, .pv (.sl 1 (ints vals))), (2, .pv (.sl 1 (bls lucks))), (7, B true), (8, .own (.loc 1000)), (9, I .i64 n.1)], [(.loc 1000, some (.own 31 6 (insL ((th.take n.1).filter nobX))))]⟩) (fun n => th.length - n.1) ⟨0, by simp, by intro x hx; simp at hx⟩ (by simp [insL]) ?_
  rintro ⟨n, hn, hnb⟩
  by_cases hlt : n < th.length
  · have hc : (n : Int) < (th.length : Int) := by omega
    have w1 : IntKind.wrap .i64 ((n : Int) + 1) = (n : Int) + 1 := wrap64s (by omega) (by omega)
    have hnb2 := nobra_take' hlt hnb
    have hft := filter_take_succ (p := nobX) hlt
    have hfl : ((th.take n).filter nobX).length ≤ 8 := Nat.le_trans (List.length_filter_le _ _) (by simp; omega)
    generalize hx : th[n] = x at hnb2 hft
    by_cases h13 : x.op = 13
    ·
      repeat' (first
        | exact aw_ret (ret_vals (by simp; exact rfl) (by simp [*]; fail_if_success (show _)))
        | exact aw_ret (ret_vals (by simp; exact rfl) (by simp [*]; omega))
        | refine ar_end rfl ?_
        | refine ar_endD rfl (by kernel_rfl) ?_
        | refine ar_fin rfl ?_
        | refine ar_finD rfl (by kernel_rfl) ?_
        | refine ar_go3 _ rfl (by simp [insL_len, insL_getE, inL, ints_len, ints_getE, bls_len, evsL_len, evsL_getE, evL, u32s_len, u32s_getE, hc, hlt, hx, h13]; exact ⟨rfl, rfl, rfl⟩) rfl ?_
        | refine aw_sregK 0 [0, 1, 2] ?_
        | refine aw_regK 0 [0, 1, 2] ?_
        | refine aw_sregK 1 [0, 1, 2] ?_
        | refine aw_regK 1 [0, 1, 2] ?_
        | refine aw_sregK 2 [0, 1, 2, 7] ?_
        | refine aw_regK 2 [0, 1, 2, 7] ?_
        | refine aw_sregK 3 [7] ?_
        | refine aw_regK 3 [7] ?_
        | refine aw_sregK 4 [0, 1, 2, 7] ?_
        | refine aw_regK 4 [0, 1, 2, 7] ?_
        | refine aw_sregK 5 [0, 1, 2, 7, 8] ?_
        | refine aw_regK 5 [0, 1, 2, 7, 8] ?_
        | refine aw_sregK 6 [0, 1, 2, 7, 8, 9] ?_
        | refine aw_regK 6 [0, 1, 2, 7, 8, 9] ?_
        | refine aw_sregK 7 [0, 1, 2, 7, 8, 9] ?_
        | refine aw_regK 7 [0, 1, 2, 7, 8, 9] ?_
        | refine aw_sregK 8 [0, 1, 2, 7, 8, 9] ?_
        | refine aw_regK 8 [0, 1, 2, 7, 8, 9] ?_
        | refine aw_sregK 9 [7] ?_
        | refine aw_regK 9 [7] ?_
        | refine aw_sregK 10 [0, 1, 2, 7, 8, 9] ?_
        | refine aw_regK 10 [0, 1, 2, 7, 8, 9] ?_
        | refine aw_sregK 11 [0, 1, 2, 7, 8, 9] ?_
        | refine aw_regK 11 [0, 1, 2, 7, 8, 9] ?_
        | refine aw_sregK 12 [0, 1, 2, 7, 8] ?_
        | refine aw_regK 12 [0, 1, 2, 7, 8] ?_
        | refine aw_sregK 13 [7] ?_
        | refine aw_regK 13 [7] ?_
        | refine aw_sregK 14 [0, 1, 2, 7, 8] ?_
        | refine aw_regK 14 [0, 1, 2, 7, 8] ?_
        | refine aw_sregK 15 [1, 2, 7, 8, 10] ?_
        | refine aw_regK 15 [1, 2, 7, 8, 10] ?_
        | refine aw_sregK 16 [7, 10, 11] ?_
        | refine aw_regK 16 [7, 10, 11] ?_
        | refine aw_sregK 17 [7, 10, 11, 12] ?_
        | refine aw_regK 17 [7, 10, 11, 12] ?_
        | refine aw_sregK 18 [7, 10, 11, 12, 13] ?_
        | refine aw_regK 18 [7, 10, 11, 12, 13] ?_
        | refine aw_sregK 19 [7, 10, 11, 12, 13] ?_
        | refine aw_regK 19 [7, 10, 11, 12, 13] ?_
        | refine aw_sregK 20 [7, 10, 11, 12, 13] ?_
        | refine aw_regK 20 [7, 10, 11, 12, 13] ?_
        | refine aw_sregK 21 [7, 10, 11, 12, 13] ?_
        | refine aw_regK 21 [7, 10, 11, 12, 13] ?_
        | refine aw_sregK 22 [7, 10, 11, 12] ?_
        | refine aw_regK 22 [7, 10, 11, 12] ?_
        | refine aw_sreg ?_
        | refine aw_sregD mixed ?_
        | refine aw_ifT (b := true) rfl rfl ?_
        | refine aw_ifF (b := false) rfl rfl ?_
        | refine aw_ifT rfl (by assumption) ?_
        | refine aw_ifF rfl (by assumption) ?_
        | refine aw_ifT rfl (decide_eq_true (by assumption)) ?_
        | refine aw_ifF rfl (decide_eq_false (by assumption)) ?_
        | refine aw_seq ?_
        | refine aw_block ?_
        | refine aw_skip ?_
        | refine aw_region ?_
        | refine aw_region_draw mixed ?_
        | refine aw_exit ?_
        | refine rq_exit ?_
        | refine blockQ_hit ?_
        | refine blockQ_miss (by decide) ?_
        | (refine ar_guard rfl rfl rfl rfl (fun h => ?_) (fun h => ?_) <;> (fail_if_success (cases h; done)) <;> (try simp at h) <;> (try subst h))
        | (refine aw_both rfl (fun h => ?_) (fun h => ?_) <;> (fail_if_success (cases h; done)) <;> (try simp at h) <;> (try subst h)))
    by_cases h14 : x.op = 14
    ·
      repeat' (first
        | exact aw_ret (ret_vals (by simp; exact rfl) (by simp [*]; fail_if_success (show _)))
        | exact aw_ret (ret_vals (by simp; exact rfl) (by simp [*]; omega))
        | refine ar_end rfl ?_
        | refine ar_endD rfl (by kernel_rfl) ?_
        | refine ar_fin rfl ?_
        | refine ar_finD rfl (by kernel_rfl) ?_
        | refine ar_go3 _ rfl (by simp [insL_len, insL_getE, inL, ints_len, ints_getE, bls_len, evsL_len, evsL_getE, evL, u32s_len, u32s_getE, hc, hlt, hx, h13, h14]; exact ⟨rfl, rfl, rfl⟩) rfl ?_
        | refine aw_sregK 0 [0, 1, 2] ?_
        | refine aw_regK 0 [0, 1, 2] ?_
        | refine aw_sregK 1 [0, 1, 2] ?_
        | refine aw_regK 1 [0, 1, 2] ?_
        | refine aw_sregK 2 [0, 1, 2, 7] ?_
        | refine aw_regK 2 [0, 1, 2, 7] ?_
        | refine aw_sregK 3 [7] ?_
        | refine aw_regK 3 [7] ?_
        | refine aw_sregK 4 [0, 1, 2, 7] ?_
        | refine aw_regK 4 [0, 1, 2, 7] ?_
        | refine aw_sregK 5 [0, 1, 2, 7, 8] ?_
        | refine aw_regK 5 [0, 1, 2, 7, 8] ?_
        | refine aw_sregK 6 [0, 1, 2, 7, 8, 9] ?_
        | refine aw_regK 6 [0, 1, 2, 7, 8, 9] ?_
        | refine aw_sregK 7 [0, 1, 2, 7, 8, 9] ?_
        | refine aw_regK 7 [0, 1, 2, 7, 8, 9] ?_
        | refine aw_sregK 8 [0, 1, 2, 7, 8, 9] ?_
        | refine aw_regK 8 [0, 1, 2, 7, 8, 9] ?_
        | refine aw_sregK 9 [7] ?_
        | refine aw_regK 9 [7] ?_
        | refine aw_sregK 10 [0, 1, 2, 7, 8, 9] ?_
        | refine aw_regK 10 [0, 1, 2, 7, 8, 9] ?_
        | refine aw_sregK 11 [0, 1, 2, 7, 8, 9] ?_
        | refine aw_regK 11 [0, 1, 2, 7, 8, 9] ?_
        | refine aw_sregK 12 [0, 1, 2, 7, 8] ?_
        | refine aw_regK 12 [0, 1, 2, 7, 8] ?_
        | refine aw_sregK 13 [7] ?_
        | refine aw_regK 13 [7] ?_
        | refine aw_sregK 14 [0, 1, 2, 7, 8] ?_
        | refine aw_regK 14 [0, 1, 2, 7, 8] ?_
        | refine aw_sregK 15 [1, 2, 7, 8, 10] ?_
        | refine aw_regK 15 [1, 2, 7, 8, 10] ?_
        | refine aw_sregK 16 [7, 10, 11] ?_
        | refine aw_regK 16 [7, 10, 11] ?_
        | refine aw_sregK 17 [7, 10, 11, 12] ?_
        | refine aw_regK 17 [7, 10, 11, 12] ?_
        | refine aw_sregK 18 [7, 10, 11, 12, 13] ?_
        | refine aw_regK 18 [7, 10, 11, 12, 13] ?_
        | refine aw_sregK 19 [7, 10, 11, 12, 13] ?_
        | refine aw_regK 19 [7, 10, 11, 12, 13] ?_
        | refine aw_sregK 20 [7, 10, 11, 12, 13] ?_
        | refine aw_regK 20 [7, 10, 11, 12, 13] ?_
        | refine aw_sregK 21 [7, 10, 11, 12, 13] ?_
        | refine aw_regK 21 [7, 10, 11, 12, 13] ?_
        | refine aw_sregK 22 [7, 10, 11, 12] ?_
        | refine aw_regK 22 [7, 10, 11, 12] ?_
        | refine aw_sreg ?_
        | refine aw_sregD mixed ?_
        | refine aw_ifT (b := true) rfl rfl ?_
        | refine aw_ifF (b := false) rfl rfl ?_
        | refine aw_ifT rfl (by assumption) ?_
        | refine aw_ifF rfl (by assumption) ?_
        | refine aw_ifT rfl (decide_eq_true (by assumption)) ?_
        | refine aw_ifF rfl (decide_eq_false (by assumption)) ?_
        | refine aw_seq ?_
        | refine aw_block ?_
        | refine aw_skip ?_
        | refine aw_region ?_
        | refine aw_region_draw mixed ?_
        | refine aw_exit ?_
        | refine rq_exit ?_
        | refine blockQ_hit ?_
        | refine blockQ_miss (by decide) ?_
        | (refine ar_guard rfl rfl rfl rfl (fun h => ?_) (fun h => ?_) <;> (fail_if_success (cases h; done)) <;> (try simp at h) <;> (try subst h))
        | (refine aw_both rfl (fun h => ?_) (fun h => ?_) <;> (fail_if_success (cases h; done)) <;> (try simp at h) <;> (try subst h)))
    have hnb3 := hnb2 h13 h14
    by_cases h11 : x.op = 11
    · have hp : nobX x = false := by simp [nobX, h11]
      rw [hp] at hft
      repeat' (first
        | refine ar_end rfl ?_
        | refine ar_endD rfl (by kernel_rfl) ?_
        | refine ar_fin rfl ?_
        | refine ar_finD rfl (by kernel_rfl) ?_
        | refine lq_normN [0, 1, 2, 7, 8, 9] [.loc 1000] (by simp; exact rfl) ⟨n + 1, by omega, hnb3⟩ (by dsimp only; omega) (by simp [hft])
        | refine ar_go3 _ rfl (by simp [insL_len, insL_getE, inL, ints_len, ints_getE, bls_len, evsL_len, evsL_getE, evL, u32s_len, u32s_getE, hc, hlt, hx, h13, h14, h11, w1]; exact ⟨rfl, rfl, rfl⟩) rfl ?_
        | refine aw_sregK 0 [0, 1, 2] ?_
        | refine aw_regK 0 [0, 1, 2] ?_
        | refine aw_sregK 1 [0, 1, 2] ?_
        | refine aw_regK 1 [0, 1, 2] ?_
        | refine aw_sregK 2 [0, 1, 2, 7] ?_
        | refine aw_regK 2 [0, 1, 2, 7] ?_
        | refine aw_sregK 3 [7] ?_
        | refine aw_regK 3 [7] ?_
        | refine aw_sregK 4 [0, 1, 2, 7] ?_
        | refine aw_regK 4 [0, 1, 2, 7] ?_
        | refine aw_sregK 5 [0, 1, 2, 7, 8] ?_
        | refine aw_regK 5 [0, 1, 2, 7, 8] ?_
        | refine aw_sregK 6 [0, 1, 2, 7, 8, 9] ?_
        | refine aw_regK 6 [0, 1, 2, 7, 8, 9] ?_
        | refine aw_sregK 7 [0, 1, 2, 7, 8, 9] ?_
        | refine aw_regK 7 [0, 1, 2, 7, 8, 9] ?_
        | refine aw_sregK 8 [0, 1, 2, 7, 8, 9] ?_
        | refine aw_regK 8 [0, 1, 2, 7, 8, 9] ?_
        | refine aw_sregK 9 [7] ?_
        | refine aw_regK 9 [7] ?_
        | refine aw_sregK 10 [0, 1, 2, 7, 8, 9] ?_
        | refine aw_regK 10 [0, 1, 2, 7, 8, 9] ?_
        | refine aw_sregK 11 [0, 1, 2, 7, 8, 9] ?_
        | refine aw_regK 11 [0, 1, 2, 7, 8, 9] ?_
        | refine aw_sregK 12 [0, 1, 2, 7, 8] ?_
        | refine aw_regK 12 [0, 1, 2, 7, 8] ?_
        | refine aw_sregK 13 [7] ?_
        | refine aw_regK 13 [7] ?_
        | refine aw_sregK 14 [0, 1, 2, 7, 8] ?_
        | refine aw_regK 14 [0, 1, 2, 7, 8] ?_
        | refine aw_sregK 15 [1, 2, 7, 8, 10] ?_
        | refine aw_regK 15 [1, 2, 7, 8, 10] ?_
        | refine aw_sregK 16 [7, 10, 11] ?_
        | refine aw_regK 16 [7, 10, 11] ?_
        | refine aw_sregK 17 [7, 10, 11, 12] ?_
        | refine aw_regK 17 [7, 10, 11, 12] ?_
        | refine aw_sregK 18 [7, 10, 11, 12, 13] ?_
        | refine aw_regK 18 [7, 10, 11, 12, 13] ?_
        | refine aw_sregK 19 [7, 10, 11, 12, 13] ?_
        | refine aw_regK 19 [7, 10, 11, 12, 13] ?_
        | refine aw_sregK 20 [7, 10, 11, 12, 13] ?_
        | refine aw_regK 20 [7, 10, 11, 12, 13] ?_
        | refine aw_sregK 21 [7, 10, 11, 12, 13] ?_
        | refine aw_regK 21 [7, 10, 11, 12, 13] ?_
        | refine aw_sregK 22 [7, 10, 11, 12] ?_
        | refine aw_regK 22 [7, 10, 11, 12] ?_
        | refine aw_sreg ?_
        | refine aw_sregD mixed ?_
        | refine aw_ifT (b := true) rfl rfl ?_
        | refine aw_ifF (b := false) rfl rfl ?_
        | refine aw_ifT rfl (by assumption) ?_
        | refine aw_ifF rfl (by assumption) ?_
        | refine aw_ifT rfl (decide_eq_true (by assumption)) ?_
        | refine aw_ifF rfl (decide_eq_false (by assumption)) ?_
        | refine aw_seq ?_
        | refine aw_block ?_
        | refine aw_skip ?_
        | refine aw_region ?_
        | refine aw_region_draw mixed ?_
        | refine aw_exit ?_
        | refine rq_exit ?_
        | refine blockQ_hit ?_
        | refine blockQ_miss (by decide) ?_
        | (refine ar_guard rfl rfl rfl rfl (fun h => ?_) (fun h => ?_) <;> (fail_if_success (cases h; done)) <;> (try simp at h) <;> (try subst h))
        | (refine aw_both rfl (fun h => ?_) (fun h => ?_) <;> (fail_if_success (cases h; done)) <;> (try simp at h) <;> (try subst h)))
    by_cases h12 : x.op = 12
    · have hp : nobX x = false := by simp [nobX, h12]
      rw [hp] at hft
      repeat' (first
        | refine ar_end rfl ?_
        | refine ar_endD rfl (by kernel_rfl) ?_
        | refine ar_fin rfl ?_
        | refine ar_finD rfl (by kernel_rfl) ?_
        | refine lq_normN [0, 1, 2, 7, 8, 9] [.loc 1000] (by simp; exact rfl) ⟨n + 1, by omega, hnb3⟩ (by dsimp only; omega) (by simp [hft])
        | refine ar_go3 _ rfl (by simp [insL_len, insL_getE, inL, ints_len, ints_getE, bls_len, evsL_len, evsL_getE, evL, u32s_len, u32s_getE, hc, hlt, hx, h13, h14, h11, h12, w1]; exact ⟨rfl, rfl, rfl⟩) rfl ?_
        | refine aw_sregK 0 [0, 1, 2] ?_
        | refine aw_regK 0 [0, 1, 2] ?_
        | refine aw_sregK 1 [0, 1, 2] ?_
        | refine aw_regK 1 [0, 1, 2] ?_
        | refine aw_sregK 2 [0, 1, 2, 7] ?_
        | refine aw_regK 2 [0, 1, 2, 7] ?_
        | refine aw_sregK 3 [7] ?_
        | refine aw_regK 3 [7] ?_
        | refine aw_sregK 4 [0, 1, 2, 7] ?_
        | refine aw_regK 4 [0, 1, 2, 7] ?_
        | refine aw_sregK 5 [0, 1, 2, 7, 8] ?_
        | refine aw_regK 5 [0, 1, 2, 7, 8] ?_
        | refine aw_sregK 6 [0, 1, 2, 7, 8, 9] ?_
        | refine aw_regK 6 [0, 1, 2, 7, 8, 9] ?_
        | refine aw_sregK 7 [0, 1, 2, 7, 8, 9] ?_
        | refine aw_regK 7 [0, 1, 2, 7, 8, 9] ?_
        | refine aw_sregK 8 [0, 1, 2, 7, 8, 9] ?_
        | refine aw_regK 8 [0, 1, 2, 7, 8, 9] ?_
        | refine aw_sregK 9 [7] ?_
        | refine aw_regK 9 [7] ?_
        | refine aw_sregK 10 [0, 1, 2, 7, 8, 9] ?_
        | refine aw_regK 10 [0, 1, 2, 7, 8, 9] ?_
        | refine aw_sregK 11 [0, 1, 2, 7, 8, 9] ?_
        | refine aw_regK 11 [0, 1, 2, 7, 8, 9] ?_
        | refine aw_sregK 12 [0, 1, 2, 7, 8] ?_
        | refine aw_regK 12 [0, 1, 2, 7, 8] ?_
        | refine aw_sregK 13 [7] ?_
        | refine aw_regK 13 [7] ?_
        | refine aw_sregK 14 [0, 1, 2, 7, 8] ?_
        | refine aw_regK 14 [0, 1, 2, 7, 8] ?_
        | refine aw_sregK 15 [1, 2, 7, 8, 10] ?_
        | refine aw_regK 15 [1, 2, 7, 8, 10] ?_
        | refine aw_sregK 16 [7, 10, 11] ?_
        | refine aw_regK 16 [7, 10, 11] ?_
        | refine aw_sregK 17 [7, 10, 11, 12] ?_
        | refine aw_regK 17 [7, 10, 11, 12] ?_
        | refine aw_sregK 18 [7, 10, 11, 12, 13] ?_
        | refine aw_regK 18 [7, 10, 11, 12, 13] ?_
        | refine aw_sregK 19 [7, 10, 11, 12, 13] ?_
        | refine aw_regK 19 [7, 10, 11, 12, 13] ?_
        | refine aw_sregK 20 [7, 10, 11, 12, 13] ?_
        | refine aw_regK 20 [7, 10, 11, 12, 13] ?_
        | refine aw_sregK 21 [7, 10, 11, 12, 13] ?_
        | refine aw_regK 21 [7, 10, 11, 12, 13] ?_
        | refine aw_sregK 22 [7, 10, 11, 12] ?_
        | refine aw_regK 22 [7, 10, 11, 12] ?_
        | refine aw_sreg ?_
        | refine aw_sregD mixed ?_
        | refine aw_ifT (b := true) rfl rfl ?_
        | refine aw_ifF (b := false) rfl rfl ?_
        | refine aw_ifT rfl (by assumption) ?_
        | refine aw_ifF rfl (by assumption) ?_
        | refine aw_ifT rfl (decide_eq_true (by assumption)) ?_
        | refine aw_ifF rfl (decide_eq_false (by assumption)) ?_
        | refine aw_seq ?_
        | refine aw_block ?_
        | refine aw_skip ?_
        | refine aw_region ?_
        | refine aw_region_draw mixed ?_
        | refine aw_exit ?_
        | refine rq_exit ?_
        | refine blockQ_hit ?_
        | refine blockQ_miss (by decide) ?_
        | (refine ar_guard rfl rfl rfl rfl (fun h => ?_) (fun h => ?_) <;> (fail_if_success (cases h; done)) <;> (try simp at h) <;> (try subst h))
        | (refine aw_both rfl (fun h => ?_) (fun h => ?_) <;> (fail_if_success (cases h; done)) <;> (try simp at h) <;> (try subst h)))
    have hp : nobX x = true := by simp [nobX, h11, h12]
    rw [hp, if_pos rfl] at hft
    generalize (th.take n).filter nobX = acc at hft hfl
    repeat' (first
      | refine ar_end rfl ?_
      | refine ar_endD rfl (by kernel_rfl) ?_
      | refine ar_fin rfl ?_
      | refine ar_finD rfl (by kernel_rfl) ?_
      | refine ar_appO rfl rfl rfl rfl rfl (by simp; exact rfl) rfl (by simp; exact rfl) (by simp; exact rfl) (by simp; exact ⟨rfl, rfl⟩) rfl (by simp; exact rfl) (by simp; done) (by decide) (by simp [insL_len, evsL_len, maxLen]; try omega) ?_
      | refine lq_normR (.loc 70) (.loc 1000) [0, 1, 2, 7, 8, 9] [.loc 1000] (by simp; exact rfl) ⟨n + 1, by omega, hnb3⟩ (by dsimp only; omega) (by simp [hft, insL_app]; simp [insL, inL])
      | refine ar_go3 _ rfl (by simp [insL_len, insL_getE, inL, ints_len, ints_getE, bls_len, evsL_len, evsL_getE, evL, u32s_len, u32s_getE, hc, hlt, hx, h13, h14, h11, h12, w1]; exact ⟨rfl, rfl, rfl⟩) rfl ?_
      | refine aw_sregK 0 [0, 1, 2] ?_
      | refine aw_regK 0 [0, 1, 2] ?_
      | refine aw_sregK 1 [0, 1, 2] ?_
      | refine aw_regK 1 [0, 1, 2] ?_
      | refine aw_sregK 2 [0, 1, 2, 7] ?_
      | refine aw_regK 2 [0, 1, 2, 7] ?_
      | refine aw_sregK 3 [7] ?_
      | refine aw_regK 3 [7] ?_
      | refine aw_sregK 4 [0, 1, 2, 7] ?_
      | refine aw_regK 4 [0, 1, 2, 7] ?_
      | refine aw_sregK 5 [0, 1, 2, 7, 8] ?_
      | refine aw_regK 5 [0, 1, 2, 7, 8] ?_
      | refine aw_sregK 6 [0, 1, 2, 7, 8, 9] ?_
      | refine aw_regK 6 [0, 1, 2, 7, 8, 9] ?_
      | refine aw_sregK 7 [0, 1, 2, 7, 8, 9] ?_
      | refine aw_regK 7 [0, 1, 2, 7, 8, 9] ?_
      | refine aw_sregK 8 [0, 1, 2, 7, 8, 9] ?_
      | refine aw_regK 8 [0, 1, 2, 7, 8, 9] ?_
      | refine aw_sregK 9 [7] ?_
      | refine aw_regK 9 [7] ?_
      | refine aw_sregK 10 [0, 1, 2, 7, 8, 9] ?_
      | refine aw_regK 10 [0, 1, 2, 7, 8, 9] ?_
      | refine aw_sregK 11 [0, 1, 2, 7, 8, 9] ?_
      | refine aw_regK 11 [0, 1, 2, 7, 8, 9] ?_
      | refine aw_sregK 12 [0, 1, 2, 7, 8] ?_
      | refine aw_regK 12 [0, 1, 2, 7, 8] ?_
      | refine aw_sregK 13 [7] ?_
      | refine aw_regK 13 [7] ?_
      | refine aw_sregK 14 [0, 1, 2, 7, 8] ?_
      | refine aw_regK 14 [0, 1, 2, 7, 8] ?_
      | refine aw_sregK 15 [1, 2, 7, 8, 10] ?_
      | refine aw_regK 15 [1, 2, 7, 8, 10] ?_
      | refine aw_sregK 16 [7, 10, 11] ?_
      | refine aw_regK 16 [7, 10, 11] ?_
      | refine aw_sregK 17 [7, 10, 11, 12] ?_
      | refine aw_regK 17 [7, 10, 11, 12] ?_
      | refine aw_sregK 18 [7, 10, 11, 12, 13] ?_
      | refine aw_regK 18 [7, 10, 11, 12, 13] ?_
      | refine aw_sregK 19 [7, 10, 11, 12, 13] ?_
      | refine aw_regK 19 [7, 10, 11, 12, 13] ?_
      | refine aw_sregK 20 [7, 10, 11, 12, 13] ?_
      | refine aw_regK 20 [7, 10, 11, 12, 13] ?_
      | refine aw_sregK 21 [7, 10, 11, 12, 13] ?_
      | refine aw_regK 21 [7, 10, 11, 12, 13] ?_
      | refine aw_sregK 22 [7, 10, 11, 12] ?_
      | refine aw_regK 22 [7, 10, 11, 12] ?_
      | refine aw_sreg ?_
      | refine aw_sregD mixed ?_
      | refine aw_ifT (b := true) rfl rfl ?_
      | refine aw_ifF (b := false) rfl rfl ?_
      | refine aw_ifT rfl (by assumption) ?_
      | refine aw_ifF rfl (by assumption) ?_
      | refine aw_ifT rfl (decide_eq_true (by assumption)) ?_
      | refine aw_ifF rfl (decide_eq_false (by assumption)) ?_
      | refine aw_seq ?_
      | refine aw_block ?_
      | refine aw_skip ?_
      | refine aw_region ?_
      | refine aw_region_draw mixed ?_
      | refine aw_exit ?_
      | refine rq_exit ?_
      | refine blockQ_hit ?_
      | refine blockQ_miss (by decide) ?_
      | (refine ar_guard rfl rfl rfl rfl (fun h => ?_) (fun h => ?_) <;> (fail_if_success (cases h; done)) <;> (try simp at h) <;> (try subst h))
      | (refine aw_both rfl (fun h => ?_) (fun h => ?_) <;> (fail_if_success (cases h; done)) <;> (try simp at h) <;> (try subst h)))
  have hc : ¬(n : Int) < (th.length : Int) := by omega
  have et : th.take n = th := List.take_of_length_le (by omega)
  rw [et] at hnb
  simp only [et]
  refine aw_frz (.loc 1000) (by simp; exact rfl) ?_
  cases hm : mayB 2 th
  ·
    repeat' (first
      | exact aw_ret (ret_vals (by simp; exact rfl) (by simp [*]; fail_if_success (show _)))
      | exact aw_ret (ret_vals (by simp; exact rfl) (by simp [*]; omega))
      | refine ar_end rfl ?_
      | refine ar_endD rfl (by kernel_rfl) ?_
      | refine ar_fin rfl ?_
      | refine ar_finD rfl (by kernel_rfl) ?_
      | refine ar_callV Try.call71 hM rfl rfl rfl rfl rfl (by simp; done) (by rfl) (by simp; done) ?_
      | refine ar_callV_if Try.call71 hM rfl rfl rfl rfl rfl rfl (by simp; done) rfl (by rfl) (by simp; done) ?_
      | refine lq_exit ?_
      | refine ar_go3 _ rfl (by simp [insL_len, insL_getE, inL, ints_len, ints_getE, bls_len, evsL_len, evsL_getE, evL, u32s_len, u32s_getE, hc, hm]; exact ⟨rfl, rfl, rfl⟩) rfl ?_
      | refine aw_sregK 0 [0, 1, 2] ?_
      | refine aw_regK 0 [0, 1, 2] ?_
      | refine aw_sregK 1 [0, 1, 2] ?_
      | refine aw_regK 1 [0, 1, 2] ?_
      | refine aw_sregK 2 [0, 1, 2, 7] ?_
      | refine aw_regK 2 [0, 1, 2, 7] ?_
      | refine aw_sregK 3 [7] ?_
      | refine aw_regK 3 [7] ?_
      | refine aw_sregK 4 [0, 1, 2, 7] ?_
      | refine aw_regK 4 [0, 1, 2, 7] ?_
      | refine aw_sregK 5 [0, 1, 2, 7, 8] ?_
      | refine aw_regK 5 [0, 1, 2, 7, 8] ?_
      | refine aw_sregK 6 [0, 1, 2, 7, 8, 9] ?_
      | refine aw_regK 6 [0, 1, 2, 7, 8, 9] ?_
      | refine aw_sregK 7 [0, 1, 2, 7, 8, 9] ?_
      | refine aw_regK 7 [0, 1, 2, 7, 8, 9] ?_
      | refine aw_sregK 8 [0, 1, 2, 7, 8, 9] ?_
      | refine aw_regK 8 [0, 1, 2, 7, 8, 9] ?_
      | refine aw_sregK 9 [7] ?_
      | refine aw_regK 9 [7] ?_
      | refine aw_sregK 10 [0, 1, 2, 7, 8, 9] ?_
      | refine aw_regK 10 [0, 1, 2, 7, 8, 9] ?_
      | refine aw_sregK 11 [0, 1, 2, 7, 8, 9] ?_
      | refine aw_regK 11 [0, 1, 2, 7, 8, 9] ?_
      | refine aw_sregK 12 [0, 1, 2, 7, 8] ?_
      | refine aw_regK 12 [0, 1, 2, 7, 8] ?_
      | refine aw_sregK 13 [7] ?_
      | refine aw_regK 13 [7] ?_
      | refine aw_sregK 14 [0, 1, 2, 7, 8] ?_
      | refine aw_regK 14 [0, 1, 2, 7, 8] ?_
      | refine aw_sregK 15 [1, 2, 7, 8, 10] ?_
      | refine aw_regK 15 [1, 2, 7, 8, 10] ?_
      | refine aw_sregK 16 [7, 10, 11] ?_
      | refine aw_regK 16 [7, 10, 11] ?_
      | refine aw_sregK 17 [7, 10, 11, 12] ?_
      | refine aw_regK 17 [7, 10, 11, 12] ?_
      | refine aw_sregK 18 [7, 10, 11, 12, 13] ?_
      | refine aw_regK 18 [7, 10, 11, 12, 13] ?_
      | refine aw_sregK 19 [7, 10, 11, 12, 13] ?_
      | refine aw_regK 19 [7, 10, 11, 12, 13] ?_
      | refine aw_sregK 20 [7, 10, 11, 12, 13] ?_
      | refine aw_regK 20 [7, 10, 11, 12, 13] ?_
      | refine aw_sregK 21 [7, 10, 11, 12, 13] ?_
      | refine aw_regK 21 [7, 10, 11, 12, 13] ?_
      | refine aw_sregK 22 [7, 10, 11, 12] ?_
      | refine aw_regK 22 [7, 10, 11, 12] ?_
      | refine aw_sreg ?_
      | refine aw_sregD mixed ?_
      | refine aw_ifT (b := true) rfl rfl ?_
      | refine aw_ifF (b := false) rfl rfl ?_
      | refine aw_ifT rfl (by assumption) ?_
      | refine aw_ifF rfl (by assumption) ?_
      | refine aw_ifT rfl (decide_eq_true (by assumption)) ?_
      | refine aw_ifF rfl (decide_eq_false (by assumption)) ?_
      | refine aw_seq ?_
      | refine aw_block ?_
      | refine aw_skip ?_
      | refine aw_region ?_
      | refine aw_region_draw mixed ?_
      | refine aw_exit ?_
      | refine rq_exit ?_
      | refine blockQ_hit ?_
      | refine blockQ_miss (by decide) ?_
      | (refine ar_guard rfl rfl rfl rfl (fun h => ?_) (fun h => ?_) <;> (fail_if_success (cases h; done)) <;> (try simp at h) <;> (try subst h))
      | (refine aw_both rfl (fun h => ?_) (fun h => ?_) <;> (fail_if_success (cases h; done)) <;> (try simp at h) <;> (try subst h)))
  have hS := bare_run (vals := vals) (lucks := lucks) hm hnb
  obtain ⟨hW, q, hq, hI⟩ := run_wf (th := th) (locs := 2) (lucks := lucks) hth hvw
  have hel := hI.es
  have hB := c_Run (th := th.filter nobX) (locs := 2) (vals := vals) (lucks := lucks) (Nat.le_trans (List.length_filter_le _ _) (by simp [maxLen]; omega)) (by omega) (by omega)
  generalize runF (th.filter nobX) 2 vals lucks = D at *
  generalize runF th 2 vals lucks = A at *
  have hBl : D.es.length ≤ 8 := by rw [hS.es]; exact Nat.le_trans (List.length_filter_le _ _) (by omega)
  have hBw : ∀ e ∈ D.es, wfE e := fun e he => hW.es e (by rw [hS.es] at he; exact (List.mem_filter.1 he).1)
  have hE := c_Events (l := D.es) (Nat.le_trans hBl (by simp [maxLen])) hBw
  have hV := eqV4 hW.v0 hW.v1 hW.v2 hW.v3
  unfold trL at hB
  rw [hS.v0, hS.v1, hS.v2, hS.v3, hS.nv, hS.nl, hS.more] at hB
  repeat' (first
    | refine ar_end rfl ?_
    | refine ar_endD rfl (by kernel_rfl) ?_
    | refine ar_fin rfl ?_
    | refine ar_finD rfl (by kernel_rfl) ?_
    | refine ar_callV Try.call71 hM rfl rfl rfl rfl rfl (by simp; done) (by rfl) (by simp; done) ?_
    | refine ar_callV_if Try.call71 hM rfl rfl rfl rfl rfl rfl (by simp; done) rfl (by rfl) (by simp; done) ?_
    | refine ar_callV Try.call68 hR rfl rfl rfl rfl rfl (by simp; done) (by rfl) (by simp; done) ?_
    | refine ar_callV_if Try.call68 hR rfl rfl rfl rfl rfl rfl (by simp; done) rfl (by rfl) (by simp; done) ?_
    | refine ar_callV Try.call68 hB rfl rfl rfl rfl rfl (by simp; done) (by rfl) (by simp; done) ?_
    | refine ar_callV_if Try.call68 hB rfl rfl rfl rfl rfl rfl (by simp; done) rfl (by rfl) (by simp; done) ?_
    | refine lq_exit ?_
    | refine ar_go3 _ rfl (by simp [insL_len, insL_getE, inL, ints_len, ints_getE, bls_len, evsL_len, evsL_getE, evL, u32s_len, u32s_getE, hc, hm]; exact ⟨rfl, rfl, rfl⟩) rfl ?_
    | refine aw_sregK 0 [0, 1, 2] ?_
    | refine aw_regK 0 [0, 1, 2] ?_
    | refine aw_sregK 1 [0, 1, 2] ?_
    | refine aw_regK 1 [0, 1, 2] ?_
    | refine aw_sregK 2 [0, 1, 2, 7] ?_
    | refine aw_regK 2 [0, 1, 2, 7] ?_
    | refine aw_sregK 3 [7] ?_
    | refine aw_regK 3 [7] ?_
    | refine aw_sregK 4 [0, 1, 2, 7] ?_
    | refine aw_regK 4 [0, 1, 2, 7] ?_
    | refine aw_sregK 5 [0, 1, 2, 7, 8] ?_
    | refine aw_regK 5 [0, 1, 2, 7, 8] ?_
    | refine aw_sregK 6 [0, 1, 2, 7, 8, 9] ?_
    | refine aw_regK 6 [0, 1, 2, 7, 8, 9] ?_
    | refine aw_sregK 7 [0, 1, 2, 7, 8, 9] ?_
    | refine aw_regK 7 [0, 1, 2, 7, 8, 9] ?_
    | refine aw_sregK 8 [0, 1, 2, 7, 8, 9] ?_
    | refine aw_regK 8 [0, 1, 2, 7, 8, 9] ?_
    | refine aw_sregK 9 [7] ?_
    | refine aw_regK 9 [7] ?_
    | refine aw_sregK 10 [0, 1, 2, 7, 8, 9] ?_
    | refine aw_regK 10 [0, 1, 2, 7, 8, 9] ?_
    | refine aw_sregK 11 [0, 1, 2, 7, 8, 9] ?_
    | refine aw_regK 11 [0, 1, 2, 7, 8, 9] ?_
    | refine aw_sregK 12 [0, 1, 2, 7, 8] ?_
    | refine aw_regK 12 [0, 1, 2, 7, 8] ?_
    | refine aw_sregK 13 [7] ?_
    | refine aw_regK 13 [7] ?_
    | refine aw_sregK 14 [0, 1, 2, 7, 8] ?_
    | refine aw_regK 14 [0, 1, 2, 7, 8] ?_
    | refine aw_sregK 15 [1, 2, 7, 8, 10] ?_
    | refine aw_regK 15 [1, 2, 7, 8, 10] ?_
    | refine aw_sregK 16 [7, 10, 11] ?_
    | refine aw_regK 16 [7, 10, 11] ?_
    | refine aw_sregK 17 [7, 10, 11, 12] ?_
    | refine aw_regK 17 [7, 10, 11, 12] ?_
    | refine aw_sregK 18 [7, 10, 11, 12, 13] ?_
    | refine aw_regK 18 [7, 10, 11, 12, 13] ?_
    | refine aw_sregK 19 [7, 10, 11, 12, 13] ?_
    | refine aw_regK 19 [7, 10, 11, 12, 13] ?_
    | refine aw_sregK 20 [7, 10, 11, 12, 13] ?_
    | refine aw_regK 20 [7, 10, 11, 12, 13] ?_
    | refine aw_sregK 21 [7, 10, 11, 12, 13] ?_
    | refine aw_regK 21 [7, 10, 11, 12, 13] ?_
    | refine aw_sregK 22 [7, 10, 11, 12] ?_
    | refine aw_regK 22 [7, 10, 11, 12] ?_
    | refine aw_sreg ?_
    | refine aw_sregD mixed ?_
    | refine aw_ifT (b := true) rfl rfl ?_
    | refine aw_ifF (b := false) rfl rfl ?_
    | refine aw_ifT rfl (by assumption) ?_
    | refine aw_ifF rfl (by assumption) ?_
    | refine aw_ifT rfl (decide_eq_true (by assumption)) ?_
    | refine aw_ifF rfl (decide_eq_false (by assumption)) ?_
    | refine aw_seq ?_
    | refine aw_block ?_
    | refine aw_skip ?_
    | refine aw_region ?_
    | refine aw_region_draw mixed ?_
    | refine aw_exit ?_
    | refine rq_exit ?_
    | refine blockQ_hit ?_
    | refine blockQ_miss (by decide) ?_
    | (refine ar_guard rfl rfl rfl rfl (fun h => ?_) (fun h => ?_) <;> (fail_if_success (cases h; done)) <;> (try simp at h) <;> (try subst h))
    | (refine aw_both rfl (fun h => ?_) (fun h => ?_) <;> (fail_if_success (cases h; done)) <;> (try simp at h) <;> (try subst h)))
  refine aw_nil 12 (.loc 1001) 83 7 (by simp; exact rfl) ?_
  refine aw_loopN [7, 10, 11, 12, 13] [.loc 10, .loc 11, .loc 1001] (by simp; exact rfl) (ι := {n : Nat // n ≤ A.es.length}) (fun n => ⟨151, [(7, B true), (10, .ptr (.loc 10) 0), (11, .ptr (.loc 11) 0), (12, .own (.loc 1001)), (13, I .i64 n.1)], [(.loc 10, some (.box 76 [.pv (.sl 7 (evsL A.es)), .pv (.sl 1 (u32s A.ad)), .pv (.sl 1 (u32s A.da)), .pv (.sl 1 (u32s A.ct)), .pv (.sl 1 (ints A.pa)), I .i64 A.v0, I .i64 A.v1, I .i64 A.v2, I .i64 A.v3, I .u32 A.d0, I .u32 A.d1, I .u32 A.d2, I .u32 A.d3, I .i64 A.nv, I .i64 A.nl, I .i64 A.more])), (.loc 11, some (.box 76 [.pv (.sl 7 (evsL D.es)), .pv (.sl 1 (u32s D.ad)), .pv (.sl 1 (u32s D.da)), .pv (.sl 1 (u32s D.ct)), .pv (.sl 1 (ints D.pa)), I .i64 A.v0, I .i64 A.v1, I .i64 A.v2, I .i64 A.v3, I .u32 D.d0, I .u32 D.d1, I .u32 D.d2, I .u32 D.d3, I .i64 A.nv, I .i64 A.nl, I .i64 A.more])), (.loc 1001, some (.own 83 7 (evsL ((A.es.take n.1).filter rwE))))]⟩) (fun n => A.es.length - n.1) ⟨0, by simp⟩ (by simp [evsL]) ?_
  rintro ⟨m, hm2⟩
  by_cases hml : m < A.es.length
  · have hd : (m : Int) < (A.es.length : Int) := by omega
    have w2 : IntKind.wrap .i64 ((m : Int) + 1) = (m : Int) + 1 := wrap64s (by omega) (by omega)
    have hft := filter_take_succ (p := rwE) hml
    have hfl : ((A.es.take m).filter rwE).length ≤ 8 := Nat.le_trans (List.length_filter_le _ _) (by simp; omega)
    generalize hx : A.es[m] = e at hft
    generalize (A.es.take m).filter rwE = acc at hft hfl
    by_cases h1 : e.k = 1
    · have hp : rwE e = true := by simp [rwE, h1]
      rw [hp, if_pos rfl] at hft
      repeat' (first
        | refine ar_end rfl ?_
        | refine ar_endD rfl (by kernel_rfl) ?_
        | refine ar_fin rfl ?_
        | refine ar_finD rfl (by kernel_rfl) ?_
        | refine ar_appO rfl rfl rfl rfl rfl (by simp; exact rfl) rfl (by simp; exact rfl) (by simp; exact rfl) (by simp; exact ⟨rfl, rfl⟩) rfl (by simp; exact rfl) (by simp; done) (by decide) (by simp [insL_len, evsL_len, maxLen]; try omega) ?_
        | refine lq_normR (.loc 113) (.loc 1001) [7, 10, 11, 12, 13] [.loc 10, .loc 11, .loc 1001] (by simp; exact rfl) ⟨m + 1, by omega⟩ (by dsimp only; omega) (by simp [hft, evsL_app]; simp [evsL, evL, h1])
        | refine ar_go3 _ rfl (by simp [insL_len, insL_getE, inL, ints_len, ints_getE, bls_len, evsL_len, evsL_getE, evL, u32s_len, u32s_getE, hd, hml, hx, h1, w2]; exact ⟨rfl, rfl, rfl⟩) rfl ?_
        | refine aw_sregK 0 [0, 1, 2] ?_
        | refine aw_regK 0 [0, 1, 2] ?_
        | refine aw_sregK 1 [0, 1, 2] ?_
        | refine aw_regK 1 [0, 1, 2] ?_
        | refine aw_sregK 2 [0, 1, 2, 7] ?_
        | refine aw_regK 2 [0, 1, 2, 7] ?_
        | refine aw_sregK 3 [7] ?_
        | refine aw_regK 3 [7] ?_
        | refine aw_sregK 4 [0, 1, 2, 7] ?_
        | refine aw_regK 4 [0, 1, 2, 7] ?_
        | refine aw_sregK 5 [0, 1, 2, 7, 8] ?_
        | refine aw_regK 5 [0, 1, 2, 7, 8] ?_
        | refine aw_sregK 6 [0, 1, 2, 7, 8, 9] ?_
        | refine aw_regK 6 [0, 1, 2, 7, 8, 9] ?_
        | refine aw_sregK 7 [0, 1, 2, 7, 8, 9] ?_
        | refine aw_regK 7 [0, 1, 2, 7, 8, 9] ?_
        | refine aw_sregK 8 [0, 1, 2, 7, 8, 9] ?_
        | refine aw_regK 8 [0, 1, 2, 7, 8, 9] ?_
        | refine aw_sregK 9 [7] ?_
        | refine aw_regK 9 [7] ?_
        | refine aw_sregK 10 [0, 1, 2, 7, 8, 9] ?_
        | refine aw_regK 10 [0, 1, 2, 7, 8, 9] ?_
        | refine aw_sregK 11 [0, 1, 2, 7, 8, 9] ?_
        | refine aw_regK 11 [0, 1, 2, 7, 8, 9] ?_
        | refine aw_sregK 12 [0, 1, 2, 7, 8] ?_
        | refine aw_regK 12 [0, 1, 2, 7, 8] ?_
        | refine aw_sregK 13 [7] ?_
        | refine aw_regK 13 [7] ?_
        | refine aw_sregK 14 [0, 1, 2, 7, 8] ?_
        | refine aw_regK 14 [0, 1, 2, 7, 8] ?_
        | refine aw_sregK 15 [1, 2, 7, 8, 10] ?_
        | refine aw_regK 15 [1, 2, 7, 8, 10] ?_
        | refine aw_sregK 16 [7, 10, 11] ?_
        | refine aw_regK 16 [7, 10, 11] ?_
        | refine aw_sregK 17 [7, 10, 11, 12] ?_
        | refine aw_regK 17 [7, 10, 11, 12] ?_
        | refine aw_sregK 18 [7, 10, 11, 12, 13] ?_
        | refine aw_regK 18 [7, 10, 11, 12, 13] ?_
        | refine aw_sregK 19 [7, 10, 11, 12, 13] ?_
        | refine aw_regK 19 [7, 10, 11, 12, 13] ?_
        | refine aw_sregK 20 [7, 10, 11, 12, 13] ?_
        | refine aw_regK 20 [7, 10, 11, 12, 13] ?_
        | refine aw_sregK 21 [7, 10, 11, 12, 13] ?_
        | refine aw_regK 21 [7, 10, 11, 12, 13] ?_
        | refine aw_sregK 22 [7, 10, 11, 12] ?_
        | refine aw_regK 22 [7, 10, 11, 12] ?_
        | refine aw_sreg ?_
        | refine aw_sregD mixed ?_
        | refine aw_ifT (b := true) rfl rfl ?_
        | refine aw_ifF (b := false) rfl rfl ?_
        | refine aw_ifT rfl (by assumption) ?_
        | refine aw_ifF rfl (by assumption) ?_
        | refine aw_ifT rfl (decide_eq_true (by assumption)) ?_
        | refine aw_ifF rfl (decide_eq_false (by assumption)) ?_
        | refine aw_seq ?_
        | refine aw_block ?_
        | refine aw_skip ?_
        | refine aw_region ?_
        | refine aw_region_draw mixed ?_
        | refine aw_exit ?_
        | refine rq_exit ?_
        | refine blockQ_hit ?_
        | refine blockQ_miss (by decide) ?_
        | (refine ar_guard rfl rfl rfl rfl (fun h => ?_) (fun h => ?_) <;> (fail_if_success (cases h; done)) <;> (try simp at h) <;> (try subst h))
        | (refine aw_both rfl (fun h => ?_) (fun h => ?_) <;> (fail_if_success (cases h; done)) <;> (try simp at h) <;> (try subst h)))
    by_cases h2 : e.k = 2
    · have hp : rwE e = true := by simp [rwE, h2]
      rw [hp, if_pos rfl] at hft
      repeat' (first
        | refine ar_end rfl ?_
        | refine ar_endD rfl (by kernel_rfl) ?_
        | refine ar_fin rfl ?_
        | refine ar_finD rfl (by kernel_rfl) ?_
        | refine ar_appO rfl rfl rfl rfl rfl (by simp; exact rfl) rfl (by simp; exact rfl) (by simp; exact rfl) (by simp; exact ⟨rfl, rfl⟩) rfl (by simp; exact rfl) (by simp; done) (by decide) (by simp [insL_len, evsL_len, maxLen]; try omega) ?_
        | refine lq_normR (.loc 113) (.loc 1001) [7, 10, 11, 12, 13] [.loc 10, .loc 11, .loc 1001] (by simp; exact rfl) ⟨m + 1, by omega⟩ (by dsimp only; omega) (by simp [hft, evsL_app]; simp [evsL, evL, h2])
        | refine ar_go3 _ rfl (by simp [insL_len, insL_getE, inL, ints_len, ints_getE, bls_len, evsL_len, evsL_getE, evL, u32s_len, u32s_getE, hd, hml, hx, h1, h2, w2]; exact ⟨rfl, rfl, rfl⟩) rfl ?_
        | refine aw_sregK 0 [0, 1, 2] ?_
        | refine aw_regK 0 [0, 1, 2] ?_
        | refine aw_sregK 1 [0, 1, 2] ?_
        | refine aw_regK 1 [0, 1, 2] ?_
        | refine aw_sregK 2 [0, 1, 2, 7] ?_
        | refine aw_regK 2 [0, 1, 2, 7] ?_
        | refine aw_sregK 3 [7] ?_
        | refine aw_regK 3 [7] ?_
        | refine aw_sregK 4 [0, 1, 2, 7] ?_
        | refine aw_regK 4 [0, 1, 2, 7] ?_
        | refine aw_sregK 5 [0, 1, 2, 7, 8] ?_
        | refine aw_regK 5 [0, 1, 2, 7, 8] ?_
        | refine aw_sregK 6 [0, 1, 2, 7, 8, 9] ?_
        | refine aw_regK 6 [0, 1, 2, 7, 8, 9] ?_
        | refine aw_sregK 7 [0, 1, 2, 7, 8, 9] ?_
        | refine aw_regK 7 [0, 1, 2, 7, 8, 9] ?_
        | refine aw_sregK 8 [0, 1, 2, 7, 8, 9] ?_
        | refine aw_regK 8 [0, 1, 2, 7, 8, 9] ?_
        | refine aw_sregK 9 [7] ?_
        | refine aw_regK 9 [7] ?_
        | refine aw_sregK 10 [0, 1, 2, 7, 8, 9] ?_
        | refine aw_regK 10 [0, 1, 2, 7, 8, 9] ?_
        | refine aw_sregK 11 [0, 1, 2, 7, 8, 9] ?_
        | refine aw_regK 11 [0, 1, 2, 7, 8, 9] ?_
        | refine aw_sregK 12 [0, 1, 2, 7, 8] ?_
        | refine aw_regK 12 [0, 1, 2, 7, 8] ?_
        | refine aw_sregK 13 [7] ?_
        | refine aw_regK 13 [7] ?_
        | refine aw_sregK 14 [0, 1, 2, 7, 8] ?_
        | refine aw_regK 14 [0, 1, 2, 7, 8] ?_
        | refine aw_sregK 15 [1, 2, 7, 8, 10] ?_
        | refine aw_regK 15 [1, 2, 7, 8, 10] ?_
        | refine aw_sregK 16 [7, 10, 11] ?_
        | refine aw_regK 16 [7, 10, 11] ?_
        | refine aw_sregK 17 [7, 10, 11, 12] ?_
        | refine aw_regK 17 [7, 10, 11, 12] ?_
        | refine aw_sregK 18 [7, 10, 11, 12, 13] ?_
        | refine aw_regK 18 [7, 10, 11, 12, 13] ?_
        | refine aw_sregK 19 [7, 10, 11, 12, 13] ?_
        | refine aw_regK 19 [7, 10, 11, 12, 13] ?_
        | refine aw_sregK 20 [7, 10, 11, 12, 13] ?_
        | refine aw_regK 20 [7, 10, 11, 12, 13] ?_
        | refine aw_sregK 21 [7, 10, 11, 12, 13] ?_
        | refine aw_regK 21 [7, 10, 11, 12, 13] ?_
        | refine aw_sregK 22 [7, 10, 11, 12] ?_
        | refine aw_regK 22 [7, 10, 11, 12] ?_
        | refine aw_sreg ?_
        | refine aw_sregD mixed ?_
        | refine aw_ifT (b := true) rfl rfl ?_
        | refine aw_ifF (b := false) rfl rfl ?_
        | refine aw_ifT rfl (by assumption) ?_
        | refine aw_ifF rfl (by assumption) ?_
        | refine aw_ifT rfl (decide_eq_true (by assumption)) ?_
        | refine aw_ifF rfl (decide_eq_false (by assumption)) ?_
        | refine aw_seq ?_
        | refine aw_block ?_
        | refine aw_skip ?_
        | refine aw_region ?_
        | refine aw_region_draw mixed ?_
        | refine aw_exit ?_
        | refine rq_exit ?_
        | refine blockQ_hit ?_
        | refine blockQ_miss (by decide) ?_
        | (refine ar_guard rfl rfl rfl rfl (fun h => ?_) (fun h => ?_) <;> (fail_if_success (cases h; done)) <;> (try simp at h) <;> (try subst h))
        | (refine aw_both rfl (fun h => ?_) (fun h => ?_) <;> (fail_if_success (cases h; done)) <;> (try simp at h) <;> (try subst h)))
    have hp : rwE e = false := by simp [rwE, h1, h2]
    rw [hp] at hft
    repeat' (first
      | refine ar_end rfl ?_
      | refine ar_endD rfl (by kernel_rfl) ?_
      | refine ar_fin rfl ?_
      | refine ar_finD rfl (by kernel_rfl) ?_
      | refine lq_normN [7, 10, 11, 12, 13] [.loc 10, .loc 11, .loc 1001] (by simp; exact rfl) ⟨m + 1, by omega⟩ (by dsimp only; omega) (by simp [hft])
      | refine ar_go3 _ rfl (by simp [insL_len, insL_getE, inL, ints_len, ints_getE, bls_len, evsL_len, evsL_getE, evL, u32s_len, u32s_getE, hd, hml, hx, h1, h2, w2]; exact ⟨rfl, rfl, rfl⟩) rfl ?_
      | refine aw_sregK 0 [0, 1, 2] ?_
      | refine aw_regK 0 [0, 1, 2] ?_
      | refine aw_sregK 1 [0, 1, 2] ?_
      | refine aw_regK 1 [0, 1, 2] ?_
      | refine aw_sregK 2 [0, 1, 2, 7] ?_
      | refine aw_regK 2 [0, 1, 2, 7] ?_
      | refine aw_sregK 3 [7] ?_
      | refine aw_regK 3 [7] ?_
      | refine aw_sregK 4 [0, 1, 2, 7] ?_
      | refine aw_regK 4 [0, 1, 2, 7] ?_
      | refine aw_sregK 5 [0, 1, 2, 7, 8] ?_
      | refine aw_regK 5 [0, 1, 2, 7, 8] ?_
      | refine aw_sregK 6 [0, 1, 2, 7, 8, 9] ?_
      | refine aw_regK 6 [0, 1, 2, 7, 8, 9] ?_
      | refine aw_sregK 7 [0, 1, 2, 7, 8, 9] ?_
      | refine aw_regK 7 [0, 1, 2, 7, 8, 9] ?_
      | refine aw_sregK 8 [0, 1, 2, 7, 8, 9] ?_
      | refine aw_regK 8 [0, 1, 2, 7, 8, 9] ?_
      | refine aw_sregK 9 [7] ?_
      | refine aw_regK 9 [7] ?_
      | refine aw_sregK 10 [0, 1, 2, 7, 8, 9] ?_
      | refine aw_regK 10 [0, 1, 2, 7, 8, 9] ?_
      | refine aw_sregK 11 [0, 1, 2, 7, 8, 9] ?_
      | refine aw_regK 11 [0, 1, 2, 7, 8, 9] ?_
      | refine aw_sregK 12 [0, 1, 2, 7, 8] ?_
      | refine aw_regK 12 [0, 1, 2, 7, 8] ?_
      | refine aw_sregK 13 [7] ?_
      | refine aw_regK 13 [7] ?_
      | refine aw_sregK 14 [0, 1, 2, 7, 8] ?_
      | refine aw_regK 14 [0, 1, 2, 7, 8] ?_
      | refine aw_sregK 15 [1, 2, 7, 8, 10] ?_
      | refine aw_regK 15 [1, 2, 7, 8, 10] ?_
      | refine aw_sregK 16 [7, 10, 11] ?_
      | refine aw_regK 16 [7, 10, 11] ?_
      | refine aw_sregK 17 [7, 10, 11, 12] ?_
      | refine aw_regK 17 [7, 10, 11, 12] ?_
      | refine aw_sregK 18 [7, 10, 11, 12, 13] ?_
      | refine aw_regK 18 [7, 10, 11, 12, 13] ?_
      | refine aw_sregK 19 [7, 10, 11, 12, 13] ?_
      | refine aw_regK 19 [7, 10, 11, 12, 13] ?_
      | refine aw_sregK 20 [7, 10, 11, 12, 13] ?_
      | refine aw_regK 20 [7, 10, 11, 12, 13] ?_
      | refine aw_sregK 21 [7, 10, 11, 12, 13] ?_
      | refine aw_regK 21 [7, 10, 11, 12, 13] ?_
      | refine aw_sregK 22 [7, 10, 11, 12] ?_
      | refine aw_regK 22 [7, 10, 11, 12] ?_
      | refine aw_sreg ?_
      | refine aw_sregD mixed ?_
      | refine aw_ifT (b := true) rfl rfl ?_
      | refine aw_ifF (b := false) rfl rfl ?_
      | refine aw_ifT rfl (by assumption) ?_
      | refine aw_ifF rfl (by assumption) ?_
      | refine aw_ifT rfl (decide_eq_true (by assumption)) ?_
      | refine aw_ifF rfl (decide_eq_false (by assumption)) ?_
      | refine aw_seq ?_
      | refine aw_block ?_
      | refine aw_skip ?_
      | refine aw_region ?_
      | refine aw_region_draw mixed ?_
      | refine aw_exit ?_
      | refine rq_exit ?_
      | refine blockQ_hit ?_
      | refine blockQ_miss (by decide) ?_
      | (refine ar_guard rfl rfl rfl rfl (fun h => ?_) (fun h => ?_) <;> (fail_if_success (cases h; done)) <;> (try simp at h) <;> (try subst h))
      | (refine aw_both rfl (fun h => ?_) (fun h => ?_) <;> (fail_if_success (cases h; done)) <;> (try simp at h) <;> (try subst h)))
  have hd : ¬(m : Int) < (A.es.length : Int) := by omega
  have et2 : A.es.take m = A.es := List.take_of_length_le (by omega)
  simp only [et2, ← hS.es]
  refine aw_frz (.loc 1001) (by simp; exact rfl) ?_
  repeat' (first
    | exact aw_ret (ret_vals (by simp; exact rfl) (by simp [*]; fail_if_success (show _)))
    | exact aw_ret (ret_vals (by simp; exact rfl) (by simp [*]; omega))
    | refine ar_end rfl ?_
    | refine ar_endD rfl (by kernel_rfl) ?_
    | refine ar_fin rfl ?_
    | refine ar_finD rfl (by kernel_rfl) ?_
    | refine ar_callV Try.call70 hE rfl rfl rfl rfl rfl (by simp; done) (by rfl) (by simp; done) ?_
    | refine ar_callV_if Try.call70 hE rfl rfl rfl rfl rfl rfl (by simp; done) rfl (by rfl) (by simp; done) ?_
    | refine lq_exit ?_
    | refine ar_eqAgg_if hV rfl rfl rfl rfl rfl (by simp) rfl rfl rfl ?_
    | refine ar_go3 _ rfl (by simp [insL_len, insL_getE, inL, ints_len, ints_getE, bls_len, evsL_len, evsL_getE, evL, u32s_len, u32s_getE, hd]; exact ⟨rfl, rfl, rfl⟩) rfl ?_
    | refine aw_sregK 0 [0, 1, 2] ?_
    | refine aw_regK 0 [0, 1, 2] ?_
    | refine aw_sregK 1 [0, 1, 2] ?_
    | refine aw_regK 1 [0, 1, 2] ?_
    | refine aw_sregK 2 [0, 1, 2, 7] ?_
    | refine aw_regK 2 [0, 1, 2, 7] ?_
    | refine aw_sregK 3 [7] ?_
    | refine aw_regK 3 [7] ?_
    | refine aw_sregK 4 [0, 1, 2, 7] ?_
    | refine aw_regK 4 [0, 1, 2, 7] ?_
    | refine aw_sregK 5 [0, 1, 2, 7, 8] ?_
    | refine aw_regK 5 [0, 1, 2, 7, 8] ?_
    | refine aw_sregK 6 [0, 1, 2, 7, 8, 9] ?_
    | refine aw_regK 6 [0, 1, 2, 7, 8, 9] ?_
    | refine aw_sregK 7 [0, 1, 2, 7, 8, 9] ?_
    | refine aw_regK 7 [0, 1, 2, 7, 8, 9] ?_
    | refine aw_sregK 8 [0, 1, 2, 7, 8, 9] ?_
    | refine aw_regK 8 [0, 1, 2, 7, 8, 9] ?_
    | refine aw_sregK 9 [7] ?_
    | refine aw_regK 9 [7] ?_
    | refine aw_sregK 10 [0, 1, 2, 7, 8, 9] ?_
    | refine aw_regK 10 [0, 1, 2, 7, 8, 9] ?_
    | refine aw_sregK 11 [0, 1, 2, 7, 8, 9] ?_
    | refine aw_regK 11 [0, 1, 2, 7, 8, 9] ?_
    | refine aw_sregK 12 [0, 1, 2, 7, 8] ?_
    | refine aw_regK 12 [0, 1, 2, 7, 8] ?_
    | refine aw_sregK 13 [7] ?_
    | refine aw_regK 13 [7] ?_
    | refine aw_sregK 14 [0, 1, 2, 7, 8] ?_
    | refine aw_regK 14 [0, 1, 2, 7, 8] ?_
    | refine aw_sregK 15 [1, 2, 7, 8, 10] ?_
    | refine aw_regK 15 [1, 2, 7, 8, 10] ?_
    | refine aw_sregK 16 [7, 10, 11] ?_
    | refine aw_regK 16 [7, 10, 11] ?_
    | refine aw_sregK 17 [7, 10, 11, 12] ?_
    | refine aw_regK 17 [7, 10, 11, 12] ?_
    | refine aw_sregK 18 [7, 10, 11, 12, 13] ?_
    | refine aw_regK 18 [7, 10, 11, 12, 13] ?_
    | refine aw_sregK 19 [7, 10, 11, 12, 13] ?_
    | refine aw_regK 19 [7, 10, 11, 12, 13] ?_
    | refine aw_sregK 20 [7, 10, 11, 12, 13] ?_
    | refine aw_regK 20 [7, 10, 11, 12, 13] ?_
    | refine aw_sregK 21 [7, 10, 11, 12, 13] ?_
    | refine aw_regK 21 [7, 10, 11, 12, 13] ?_
    | refine aw_sregK 22 [7, 10, 11, 12] ?_
    | refine aw_regK 22 [7, 10, 11, 12] ?_
    | refine aw_sreg ?_
    | refine aw_sregD mixed ?_
    | refine aw_ifT (b := true) rfl rfl ?_
    | refine aw_ifF (b := false) rfl rfl ?_
    | refine aw_ifT rfl (by assumption) ?_
    | refine aw_ifF rfl (by assumption) ?_
    | refine aw_ifT rfl (decide_eq_true (by assumption)) ?_
    | refine aw_ifF rfl (decide_eq_false (by assumption)) ?_
    | refine aw_seq ?_
    | refine aw_block ?_
    | refine aw_skip ?_
    | refine aw_region ?_
    | refine aw_region_draw mixed ?_
    | refine aw_exit ?_
    | refine rq_exit ?_
    | refine blockQ_hit ?_
    | refine blockQ_miss (by decide) ?_
    | (refine ar_guard rfl rfl rfl rfl (fun h => ?_) (fun h => ?_) <;> (fail_if_success (cases h; done)) <;> (try simp at h) <;> (try subst h))
    | (refine aw_both rfl (fun h => ?_) (fun h => ?_) <;> (fail_if_success (cases h; done)) <;> (try simp at h) <;> (try subst h)))
end Go.Eng
