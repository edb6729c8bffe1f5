import Derived.Test.YtclegllogeanlaaCohD
set_option linter.unusedSimpArgs false
set_option linter.unusedVariables false
set_option linter.constructorNameAsVariable false
set_option autoImplicit false
namespace Go.Eng
open Go Go.RowKit Go.Proofs
def wrM (es : List Ev) : Wd := maskE (fun x => decide (x.k = 2)) es
set_option maxHeartbeats 16000000 in
theorem c_kinds2 {es : List Ev} (h32 : es.length ≤ 32) : SC Try.prog 60 [.agg (exL es), .pv (.sl 1 [[C .i64 2]])] (I .u32 (ub (wrM es))) := by
  have h := c_kinds (l := [2]) h32 (by decide)
  have e : (fun x : Ev => [2].contains x.k) = fun x => decide (x.k = 2) := by
    funext x
    by_cases hx : x.k = 2 <;> simp [hx]
  rw [e] at h
  exact h
theorem both_le (f : Wd → Wd → Wd) (a b : RL) : (bothR f a b).length ≤ maxLen := by
  have := clean_le a
  have : maxLen = 9223372036854775807 := rfl
  unfold bothR; split
  · rw [List.length_zipWith]; omega
  · simp
set_option maxHeartbeats 16000000 in
theorem c_fits {es : List Ev} {co : RL} (h32 : es.length ≤ 32) (hl : co.length ≤ maxLen) : SC Try.prog 28 [.agg (exL es), .pv (.sl 1 (rl co))] (B (fitsF es co)) := by
  have hN : ¬((es.length : Int) > 32) := by omega
  have hN2 : ¬(32 < (es.length : Int)) := by omega
  have hK := c_kinds2 h32
  have hA := c_alike h32
  have hAl : (eventsR alikeQ es).length ≤ maxLen := by have := (events_cl (q := alikeQ) h32).n32; have := (events_cl (q := alikeQ) h32).len; have : maxLen = 9223372036854775807 := rfl; omega
  unfold fitsF
  change SC _ _ _ (B (decide (co.length = es.length) && sameR (bothR (· ||| ·) co (invR co)) (onlyR (eventsR alikeQ es) (wrM es) (wrM es)) && decide (pairsR (bothR (· &&& ·) co (invR co)) = []) && sameR (plusR co) co))
  generalize wrM es = M at *
  generalize eventsR alikeQ es = A at *
  by_cases hlen : co.length = es.length
  · have h32c : co.length ≤ 32 := by omega
    have hI := c_invV (a := co) (by omega)
    have hil : (invR co).length ≤ maxLen := by unfold invR; rw [fold_len]; have := clean_le co; have : maxLen = 9223372036854775807 := rfl; omega
    have hO := c_onlyV (a := A) (fr := M) (to := M) hAl
    have hol : (onlyR A M M).length ≤ maxLen := by unfold onlyR; rw [List.length_mapIdx]; have := clean_le A; have : maxLen = 9223372036854775807 := rfl; omega
    have hB := c_orV (a := co) (b := invR co) (by omega) hil
    have hbl : (bothR (· ||| ·) co (invR co)).length ≤ maxLen := both_le _ _ _
    have hD := c_andV (a := co) (b := invR co) (by omega) hil
    have hdl : (bothR (· &&& ·) co (invR co)).length ≤ maxLen := both_le _ _ _
    have hS1 := c_same (a := bothR (· ||| ·) co (invR co)) (b := onlyR A M M) hbl hol
    have hP := c_pairsV (r := bothR (· &&& ·) co (invR co)) hdl
    have hT := c_plusV (r := co) hl
    have hS2 := c_same (a := plusR co) (b := co) (by have := plus_le co; have : maxLen = 9223372036854775807 := rfl; omega) hl
    have hpn : pairsR (bothR (· &&& ·) co (invR co)) = [] ↔ (pairsR (bothR (· &&& ·) co (invR co))).length = 0 := List.length_eq_zero_iff.symm
    have hlenI : (co.length : Int) = es.length := by omega
    generalize invR co = V at *
    generalize onlyR A M M = O at *
    generalize bothR (· ||| ·) co V = X at *
    generalize bothR (· &&& ·) co V = Y at *
    generalize plusR co = P at *
    generalize pairsR Y = W at *
    have hrl := rl_len (r := co)
    have hpl := prs_len (l := W)
    refine scx_of Try.func28 rfl rfl rfl (Nat.le_of_ble_eq_true rfl) ?_
    cases hs1 : sameR X O
    · rw [hs1] at hS1
      repeat' (first
        | exact aw_ret (ret_vals (by simp; exact rfl) (by simp [hlen]; fail_if_success (show _)))
        | exact aw_ret (ret_vals (by simp; exact rfl) (by simp [hlen]; omega))
        | refine ar_end rfl ?_
        | refine ar_endD rfl (by kernel_rfl) ?_
        | refine ar_fin rfl ?_
        | refine ar_finD rfl (by kernel_rfl) ?_
        | refine ar_callV Try.call49 hA rfl rfl rfl rfl rfl (by simp; done) (by rfl) (by simp; done) ?_
        | refine ar_callV_if Try.call49 hA rfl rfl rfl rfl rfl rfl (by simp; done) rfl (by rfl) (by simp; done) ?_
        | refine ar_callV Try.call18 hO rfl rfl rfl rfl rfl (by simp; done) (by rfl) (by simp; done) ?_
        | refine ar_callV_if Try.call18 hO rfl rfl rfl rfl rfl rfl (by simp; done) rfl (by rfl) (by simp; done) ?_
        | refine ar_callV Try.call22 hI rfl rfl rfl rfl rfl (by simp; done) (by rfl) (by simp; done) ?_
        | refine ar_callV_if Try.call22 hI rfl rfl rfl rfl rfl rfl (by simp; done) rfl (by rfl) (by simp; done) ?_
        | refine ar_callV Try.call16 hB rfl rfl rfl rfl rfl (by simp; done) (by rfl) (by simp; done) ?_
        | refine ar_callV_if Try.call16 hB rfl rfl rfl rfl rfl rfl (by simp; done) rfl (by rfl) (by simp; done) ?_
        | refine ar_callV Try.call21 hS1 rfl rfl rfl rfl rfl (by simp; done) (by rfl) (by simp; done) ?_
        | refine ar_callV_if Try.call21 hS1 rfl rfl rfl rfl rfl rfl (by simp; done) rfl (by rfl) (by simp; done) ?_
        | refine ar_frzV Try.call60 hK rfl rfl rfl rfl (by simp; exact rfl) (by simp; fail_if_success (show _)) (by simp; exact rfl) rfl (by simp; done) (by first | (simp; done) | (simp; exact rfl)) ⟨by rfl, by rfl, by rfl⟩ ?_
        | refine ar_go3 _ rfl (by simp [rl_len, rl_getE, rl_set, rl_nil, List.length_set, List.getElem_set, IntKind.bits, ub_shl1', ub_shr, ub_or, ub_and, ub_andNot, ub_bit, Int.toNat_natCast, ub_zero, exL, evsL_len, hlenI, hN, hN2]; exact ⟨rfl, rfl, rfl⟩) rfl ?_
        | refine aw_sregK 0 [0, 1] ?_
        | refine aw_regK 0 [0, 1] ?_
        | refine aw_sregK 1 [1, 2] ?_
        | refine aw_regK 1 [1, 2] ?_
        | refine aw_sregK 2 [1, 2, 5] ?_
        | refine aw_regK 2 [1, 2, 5] ?_
        | refine aw_sregK 3 [] ?_
        | refine aw_regK 3 [] ?_
        | refine aw_sregK 4 [1, 2] ?_
        | refine aw_regK 4 [1, 2] ?_
        | refine aw_sregK 5 [1, 2, 6] ?_
        | refine aw_regK 5 [1, 2, 6] ?_
        | refine aw_sregK 6 [1, 7] ?_
        | refine aw_regK 6 [1, 7] ?_
        | refine aw_sregK 7 [1, 7, 8] ?_
        | refine aw_regK 7 [1, 7, 8] ?_
        | refine aw_sreg ?_
        | refine aw_sregD mixed ?_
        | refine aw_ifT (b := true) rfl rfl ?_
        | refine aw_ifF (b := false) rfl rfl ?_
        | refine aw_ifT rfl (by assumption) ?_
        | refine aw_ifF rfl (by assumption) ?_
        | refine aw_ifT rfl (decide_eq_true (by assumption)) ?_
        | refine aw_ifF rfl (decide_eq_false (by assumption)) ?_
        | refine aw_seq ?_
        | refine aw_block ?_
        | refine aw_skip ?_
        | refine aw_region ?_
        | refine aw_region_draw mixed ?_
        | refine aw_exit ?_
        | refine rq_exit ?_
        | refine blockQ_hit ?_
        | refine blockQ_miss (by decide) ?_
        | (refine ar_guard rfl rfl rfl rfl (fun h => ?_) (fun h => ?_) <;> (fail_if_success (cases h; done)) <;> (try simp at h) <;> (try subst h))
        | (refine aw_both rfl (fun h => ?_) (fun h => ?_) <;> (fail_if_success (cases h; done)) <;> (try simp at h) <;> (try subst h)))
    · rw [hs1] at hS1
      by_cases hw : W = []
      · have hw2 : W.length = 0 := by rw [hw]; rfl
        cases hs2 : sameR P co
        · rw [hs2] at hS2
          repeat' (first
            | exact aw_ret (ret_vals (by simp; exact rfl) (by simp [hlen, hw]; fail_if_success (show _)))
            | exact aw_ret (ret_vals (by simp; exact rfl) (by simp [hlen, hw]; omega))
            | refine ar_end rfl ?_
            | refine ar_endD rfl (by kernel_rfl) ?_
            | refine ar_fin rfl ?_
            | refine ar_finD rfl (by kernel_rfl) ?_
            | refine ar_callV Try.call49 hA rfl rfl rfl rfl rfl (by simp; done) (by rfl) (by simp; done) ?_
            | refine ar_callV_if Try.call49 hA rfl rfl rfl rfl rfl rfl (by simp; done) rfl (by rfl) (by simp; done) ?_
            | refine ar_callV Try.call18 hO rfl rfl rfl rfl rfl (by simp; done) (by rfl) (by simp; done) ?_
            | refine ar_callV_if Try.call18 hO rfl rfl rfl rfl rfl rfl (by simp; done) rfl (by rfl) (by simp; done) ?_
            | refine ar_callV Try.call22 hI rfl rfl rfl rfl rfl (by simp; done) (by rfl) (by simp; done) ?_
            | refine ar_callV_if Try.call22 hI rfl rfl rfl rfl rfl rfl (by simp; done) rfl (by rfl) (by simp; done) ?_
            | refine ar_callV Try.call16 hB rfl rfl rfl rfl rfl (by simp; done) (by rfl) (by simp; done) ?_
            | refine ar_callV_if Try.call16 hB rfl rfl rfl rfl rfl rfl (by simp; done) rfl (by rfl) (by simp; done) ?_
            | refine ar_callV Try.call21 hS1 rfl rfl rfl rfl rfl (by simp; done) (by rfl) (by simp; done) ?_
            | refine ar_callV_if Try.call21 hS1 rfl rfl rfl rfl rfl rfl (by simp; done) rfl (by rfl) (by simp; done) ?_
            | refine ar_callV Try.call20 hD rfl rfl rfl rfl rfl (by simp; done) (by rfl) (by simp; done) ?_
            | refine ar_callV_if Try.call20 hD rfl rfl rfl rfl rfl rfl (by simp; done) rfl (by rfl) (by simp; done) ?_
            | refine ar_callV Try.call19 hP rfl rfl rfl rfl rfl (by simp; done) (by rfl) (by simp; done) ?_
            | refine ar_callV_if Try.call19 hP rfl rfl rfl rfl rfl rfl (by simp; done) rfl (by rfl) (by simp; done) ?_
            | refine ar_callV Try.call61 hT rfl rfl rfl rfl rfl (by simp; done) (by rfl) (by simp; done) ?_
            | refine ar_callV_if Try.call61 hT rfl rfl rfl rfl rfl rfl (by simp; done) rfl (by rfl) (by simp; done) ?_
            | refine ar_callV Try.call21 hS2 rfl rfl rfl rfl rfl (by simp; done) (by rfl) (by simp; done) ?_
            | refine ar_callV_if Try.call21 hS2 rfl rfl rfl rfl rfl rfl (by simp; done) rfl (by rfl) (by simp; done) ?_
            | refine ar_frzV Try.call60 hK rfl rfl rfl rfl (by simp; exact rfl) (by simp; fail_if_success (show _)) (by simp; exact rfl) rfl (by simp; done) (by first | (simp; done) | (simp; exact rfl)) ⟨by rfl, by rfl, by rfl⟩ ?_
            | refine ar_go3 _ rfl (by simp [rl_len, rl_getE, rl_set, rl_nil, List.length_set, List.getElem_set, IntKind.bits, ub_shl1', ub_shr, ub_or, ub_and, ub_andNot, ub_bit, Int.toNat_natCast, ub_zero, exL, evsL_len, hpl, hw2, hlenI, hN, hN2]; exact ⟨rfl, rfl, rfl⟩) rfl ?_
            | refine aw_sregK 0 [0, 1] ?_
            | refine aw_regK 0 [0, 1] ?_
            | refine aw_sregK 1 [1, 2] ?_
            | refine aw_regK 1 [1, 2] ?_
            | refine aw_sregK 2 [1, 2, 5] ?_
            | refine aw_regK 2 [1, 2, 5] ?_
            | refine aw_sregK 3 [] ?_
            | refine aw_regK 3 [] ?_
            | refine aw_sregK 4 [1, 2] ?_
            | refine aw_regK 4 [1, 2] ?_
            | refine aw_sregK 5 [1, 2, 6] ?_
            | refine aw_regK 5 [1, 2, 6] ?_
            | refine aw_sregK 6 [1, 7] ?_
            | refine aw_regK 6 [1, 7] ?_
            | refine aw_sregK 7 [1, 7, 8] ?_
            | refine aw_regK 7 [1, 7, 8] ?_
            | refine aw_sreg ?_
            | refine aw_sregD mixed ?_
            | refine aw_ifT (b := true) rfl rfl ?_
            | refine aw_ifF (b := false) rfl rfl ?_
            | refine aw_ifT rfl (by assumption) ?_
            | refine aw_ifF rfl (by assumption) ?_
            | refine aw_ifT rfl (decide_eq_true (by assumption)) ?_
            | refine aw_ifF rfl (decide_eq_false (by assumption)) ?_
            | refine aw_seq ?_
            | refine aw_block ?_
            | refine aw_skip ?_
            | refine aw_region ?_
            | refine aw_region_draw mixed ?_
            | refine aw_exit ?_
            | refine rq_exit ?_
            | refine blockQ_hit ?_
            | refine blockQ_miss (by decide) ?_
            | (refine ar_guard rfl rfl rfl rfl (fun h => ?_) (fun h => ?_) <;> (fail_if_success (cases h; done)) <;> (try simp at h) <;> (try subst h))
            | (refine aw_both rfl (fun h => ?_) (fun h => ?_) <;> (fail_if_success (cases h; done)) <;> (try simp at h) <;> (try subst h)))
        · rw [hs2] at hS2
          repeat' (first
            | exact aw_ret (ret_vals (by simp; exact rfl) (by simp [hlen, hw]; fail_if_success (show _)))
            | exact aw_ret (ret_vals (by simp; exact rfl) (by simp [hlen, hw]; omega))
            | refine ar_end rfl ?_
            | refine ar_endD rfl (by kernel_rfl) ?_
            | refine ar_fin rfl ?_
            | refine ar_finD rfl (by kernel_rfl) ?_
            | refine ar_callV Try.call49 hA rfl rfl rfl rfl rfl (by simp; done) (by rfl) (by simp; done) ?_
            | refine ar_callV_if Try.call49 hA rfl rfl rfl rfl rfl rfl (by simp; done) rfl (by rfl) (by simp; done) ?_
            | refine ar_callV Try.call18 hO rfl rfl rfl rfl rfl (by simp; done) (by rfl) (by simp; done) ?_
            | refine ar_callV_if Try.call18 hO rfl rfl rfl rfl rfl rfl (by simp; done) rfl (by rfl) (by simp; done) ?_
            | refine ar_callV Try.call22 hI rfl rfl rfl rfl rfl (by simp; done) (by rfl) (by simp; done) ?_
            | refine ar_callV_if Try.call22 hI rfl rfl rfl rfl rfl rfl (by simp; done) rfl (by rfl) (by simp; done) ?_
            | refine ar_callV Try.call16 hB rfl rfl rfl rfl rfl (by simp; done) (by rfl) (by simp; done) ?_
            | refine ar_callV_if Try.call16 hB rfl rfl rfl rfl rfl rfl (by simp; done) rfl (by rfl) (by simp; done) ?_
            | refine ar_callV Try.call21 hS1 rfl rfl rfl rfl rfl (by simp; done) (by rfl) (by simp; done) ?_
            | refine ar_callV_if Try.call21 hS1 rfl rfl rfl rfl rfl rfl (by simp; done) rfl (by rfl) (by simp; done) ?_
            | refine ar_callV Try.call20 hD rfl rfl rfl rfl rfl (by simp; done) (by rfl) (by simp; done) ?_
            | refine ar_callV_if Try.call20 hD rfl rfl rfl rfl rfl rfl (by simp; done) rfl (by rfl) (by simp; done) ?_
            | refine ar_callV Try.call19 hP rfl rfl rfl rfl rfl (by simp; done) (by rfl) (by simp; done) ?_
            | refine ar_callV_if Try.call19 hP rfl rfl rfl rfl rfl rfl (by simp; done) rfl (by rfl) (by simp; done) ?_
            | refine ar_callV Try.call61 hT rfl rfl rfl rfl rfl (by simp; done) (by rfl) (by simp; done) ?_
            | refine ar_callV_if Try.call61 hT rfl rfl rfl rfl rfl rfl (by simp; done) rfl (by rfl) (by simp; done) ?_
            | refine ar_callV Try.call21 hS2 rfl rfl rfl rfl rfl (by simp; done) (by rfl) (by simp; done) ?_
            | refine ar_callV_if Try.call21 hS2 rfl rfl rfl rfl rfl rfl (by simp; done) rfl (by rfl) (by simp; done) ?_
            | refine ar_frzV Try.call60 hK rfl rfl rfl rfl (by simp; exact rfl) (by simp; fail_if_success (show _)) (by simp; exact rfl) rfl (by simp; done) (by first | (simp; done) | (simp; exact rfl)) ⟨by rfl, by rfl, by rfl⟩ ?_
            | refine ar_go3 _ rfl (by simp [rl_len, rl_getE, rl_set, rl_nil, List.length_set, List.getElem_set, IntKind.bits, ub_shl1', ub_shr, ub_or, ub_and, ub_andNot, ub_bit, Int.toNat_natCast, ub_zero, exL, evsL_len, hpl, hw2, hlenI, hN, hN2]; exact ⟨rfl, rfl, rfl⟩) rfl ?_
            | refine aw_sregK 0 [0, 1] ?_
            | refine aw_regK 0 [0, 1] ?_
            | refine aw_sregK 1 [1, 2] ?_
            | refine aw_regK 1 [1, 2] ?_
            | refine aw_sregK 2 [1, 2, 5] ?_
            | refine aw_regK 2 [1, 2, 5] ?_
            | refine aw_sregK 3 [] ?_
            | refine aw_regK 3 [] ?_
            | refine aw_sregK 4 [1, 2] ?_
            | refine aw_regK 4 [1, 2] ?_
            | refine aw_sregK 5 [1, 2, 6] ?_
            | refine aw_regK 5 [1, 2, 6] ?_
            | refine aw_sregK 6 [1, 7] ?_
            | refine aw_regK 6 [1, 7] ?_
            | refine aw_sregK 7 [1, 7, 8] ?_
            | refine aw_regK 7 [1, 7, 8] ?_
            | refine aw_sreg ?_
            | refine aw_sregD mixed ?_
            | refine aw_ifT (b := true) rfl rfl ?_
            | refine aw_ifF (b := false) rfl rfl ?_
            | refine aw_ifT rfl (by assumption) ?_
            | refine aw_ifF rfl (by assumption) ?_
            | refine aw_ifT rfl (decide_eq_true (by assumption)) ?_
            | refine aw_ifF rfl (decide_eq_false (by assumption)) ?_
            | refine aw_seq ?_
            | refine aw_block ?_
            | refine aw_skip ?_
            | refine aw_region ?_
            | refine aw_region_draw mixed ?_
            | refine aw_exit ?_
            | refine rq_exit ?_
            | refine blockQ_hit ?_
            | refine blockQ_miss (by decide) ?_
            | (refine ar_guard rfl rfl rfl rfl (fun h => ?_) (fun h => ?_) <;> (fail_if_success (cases h; done)) <;> (try simp at h) <;> (try subst h))
            | (refine aw_both rfl (fun h => ?_) (fun h => ?_) <;> (fail_if_success (cases h; done)) <;> (try simp at h) <;> (try subst h)))
      · have hw2 : ¬W.length = 0 := fun h => hw (List.length_eq_zero_iff.1 h)
        have hw3 : ¬(W.length : Int) = 0 := by omega
        repeat' (first
          | exact aw_ret (ret_vals (by simp; exact rfl) (by simp [hlen, hw]; fail_if_success (show _)))
          | exact aw_ret (ret_vals (by simp; exact rfl) (by simp [hlen, hw]; omega))
          | refine ar_end rfl ?_
          | refine ar_endD rfl (by kernel_rfl) ?_
          | refine ar_fin rfl ?_
          | refine ar_finD rfl (by kernel_rfl) ?_
          | refine ar_callV Try.call49 hA rfl rfl rfl rfl rfl (by simp; done) (by rfl) (by simp; done) ?_
          | refine ar_callV_if Try.call49 hA rfl rfl rfl rfl rfl rfl (by simp; done) rfl (by rfl) (by simp; done) ?_
          | refine ar_callV Try.call18 hO rfl rfl rfl rfl rfl (by simp; done) (by rfl) (by simp; done) ?_
          | refine ar_callV_if Try.call18 hO rfl rfl rfl rfl rfl rfl (by simp; done) rfl (by rfl) (by simp; done) ?_
          | refine ar_callV Try.call22 hI rfl rfl rfl rfl rfl (by simp; done) (by rfl) (by simp; done) ?_
          | refine ar_callV_if Try.call22 hI rfl rfl rfl rfl rfl rfl (by simp; done) rfl (by rfl) (by simp; done) ?_
          | refine ar_callV Try.call16 hB rfl rfl rfl rfl rfl (by simp; done) (by rfl) (by simp; done) ?_
          | refine ar_callV_if Try.call16 hB rfl rfl rfl rfl rfl rfl (by simp; done) rfl (by rfl) (by simp; done) ?_
          | refine ar_callV Try.call21 hS1 rfl rfl rfl rfl rfl (by simp; done) (by rfl) (by simp; done) ?_
          | refine ar_callV_if Try.call21 hS1 rfl rfl rfl rfl rfl rfl (by simp; done) rfl (by rfl) (by simp; done) ?_
          | refine ar_callV Try.call20 hD rfl rfl rfl rfl rfl (by simp; done) (by rfl) (by simp; done) ?_
          | refine ar_callV_if Try.call20 hD rfl rfl rfl rfl rfl rfl (by simp; done) rfl (by rfl) (by simp; done) ?_
          | refine ar_callV Try.call19 hP rfl rfl rfl rfl rfl (by simp; done) (by rfl) (by simp; done) ?_
          | refine ar_callV_if Try.call19 hP rfl rfl rfl rfl rfl rfl (by simp; done) rfl (by rfl) (by simp; done) ?_
          | exact absurd rfl hw
          | refine ar_frzV Try.call60 hK rfl rfl rfl rfl (by simp; exact rfl) (by simp; fail_if_success (show _)) (by simp; exact rfl) rfl (by simp; done) (by first | (simp; done) | (simp; exact rfl)) ⟨by rfl, by rfl, by rfl⟩ ?_
          | refine ar_go3 _ rfl (by simp [rl_len, rl_getE, rl_set, rl_nil, List.length_set, List.getElem_set, IntKind.bits, ub_shl1', ub_shr, ub_or, ub_and, ub_andNot, ub_bit, Int.toNat_natCast, ub_zero, exL, evsL_len, hpl, hw3, hw, hlenI, hN, hN2]; exact ⟨rfl, rfl, rfl⟩) rfl ?_
          | refine aw_sregK 0 [0, 1] ?_
          | refine aw_regK 0 [0, 1] ?_
          | refine aw_sregK 1 [1, 2] ?_
          | refine aw_regK 1 [1, 2] ?_
          | refine aw_sregK 2 [1, 2, 5] ?_
          | refine aw_regK 2 [1, 2, 5] ?_
          | refine aw_sregK 3 [] ?_
          | refine aw_regK 3 [] ?_
          | refine aw_sregK 4 [1, 2] ?_
          | refine aw_regK 4 [1, 2] ?_
          | refine aw_sregK 5 [1, 2, 6] ?_
          | refine aw_regK 5 [1, 2, 6] ?_
          | refine aw_sregK 6 [1, 7] ?_
          | refine aw_regK 6 [1, 7] ?_
          | refine aw_sregK 7 [1, 7, 8] ?_
          | refine aw_regK 7 [1, 7, 8] ?_
          | refine aw_sreg ?_
          | refine aw_sregD mixed ?_
          | refine aw_ifT (b := true) rfl rfl ?_
          | refine aw_ifF (b := false) rfl rfl ?_
          | refine aw_ifT rfl (by assumption) ?_
          | refine aw_ifF rfl (by assumption) ?_
          | refine aw_ifT rfl (decide_eq_true (by assumption)) ?_
          | refine aw_ifF rfl (decide_eq_false (by assumption)) ?_
          | refine aw_seq ?_
          | refine aw_block ?_
          | refine aw_skip ?_
          | refine aw_region ?_
          | refine aw_region_draw mixed ?_
          | refine aw_exit ?_
          | refine rq_exit ?_
          | refine blockQ_hit ?_
          | refine blockQ_miss (by decide) ?_)
  · have hlenI : ¬(co.length : Int) = es.length := by omega
    refine scx_of Try.func28 rfl rfl rfl (Nat.le_of_ble_eq_true rfl) ?_
    repeat' (first
      | exact aw_ret (ret_vals (by simp; exact rfl) (by simp [hlen]; fail_if_success (show _)))
      | exact aw_ret (ret_vals (by simp; exact rfl) (by simp [hlen]; omega))
      | refine ar_end rfl ?_
      | refine ar_endD rfl (by kernel_rfl) ?_
      | refine ar_fin rfl ?_
      | refine ar_finD rfl (by kernel_rfl) ?_
      | refine ar_go3 _ rfl (by simp [rl_len, rl_getE, rl_set, rl_nil, List.length_set, List.getElem_set, IntKind.bits, ub_shl1', ub_shr, ub_or, ub_and, ub_andNot, ub_bit, Int.toNat_natCast, ub_zero, exL, evsL_len, hlenI]; exact ⟨rfl, rfl, rfl⟩) rfl ?_
      | refine aw_sregK 0 [0, 1] ?_
      | refine aw_regK 0 [0, 1] ?_
      | refine aw_sregK 1 [1, 2] ?_
      | refine aw_regK 1 [1, 2] ?_
      | refine aw_sregK 2 [1, 2, 5] ?_
      | refine aw_regK 2 [1, 2, 5] ?_
      | refine aw_sregK 3 [] ?_
      | refine aw_regK 3 [] ?_
      | refine aw_sregK 4 [1, 2] ?_
      | refine aw_regK 4 [1, 2] ?_
      | refine aw_sregK 5 [1, 2, 6] ?_
      | refine aw_regK 5 [1, 2, 6] ?_
      | refine aw_sregK 6 [1, 7] ?_
      | refine aw_regK 6 [1, 7] ?_
      | refine aw_sregK 7 [1, 7, 8] ?_
      | refine aw_regK 7 [1, 7, 8] ?_
      | refine aw_sreg ?_
      | refine aw_sregD mixed ?_
      | refine aw_ifT (b := true) rfl rfl ?_
      | refine aw_ifF (b := false) rfl rfl ?_
      | refine aw_ifT rfl (by assumption) ?_
      | refine aw_ifF rfl (by assumption) ?_
      | refine aw_ifT rfl (decide_eq_true (by assumption)) ?_
      | refine aw_ifF rfl (decide_eq_false (by assumption)) ?_
      | refine aw_seq ?_
      | refine aw_block ?_
      | refine aw_skip ?_
      | refine aw_region ?_
      | refine aw_region_draw mixed ?_
      | refine aw_exit ?_
      | refine rq_exit ?_
      | refine blockQ_hit ?_
      | refine blockQ_miss (by decide) ?_
      | (refine ar_guard rfl rfl rfl rfl (fun h => ?_) (fun h => ?_) <;> (fail_if_success (cases h; done)) <;> (try simp at h) <;> (try subst h))
      | (refine aw_both rfl (fun h => ?_) (fun h => ?_) <;> (fail_if_success (cases h; done)) <;> (try simp at h) <;> (try subst h)))
def sw : Ev := ⟨0, 2, 0, 0, false, false, false⟩
theorem sh_sort : sortI [0,0] = [0,0] := List.mergeSort_of_pairwise (by decide)
theorem sh_places : placesF [sw, sw] = [0] := by
  have : wlocs [sw, sw] = [0,0] := by decide +kernel
  unfold placesF
  rw [this, sh_sort]
  decide +kernel
theorem sh_all : allR [sw, sw] = [[2#32, 0#32], [0#32, 1#32]] := by
  have h0 : (writesF [sw, sw] 0) = [0, 1] := by decide +kernel
  have h1 : ordF [0, 1] = [[0, 1], [1, 0]] := by decide +kernel
  unfold allR
  rw [sh_places]
  show (allUp [sw, sw] 0).flatMap (fun co => (ordF (writesF [sw, sw] ((placesF [sw, sw]).getD 0 0))).map fun one => bothR (· ||| ·) co (ofF 2 one)) = _
  rw [sh_places]
  show (allUp [sw, sw] 0).flatMap (fun co => (ordF (writesF [sw, sw] 0)).map fun one => bothR (· ||| ·) co (ofF 2 one)) = _
  rw [h0, h1]
  decide +kernel
theorem sh_up : allUp [sw, sw] 1 = [[2#32, 0#32], [0#32, 1#32]] := by
  have h := sh_all
  unfold allR at h
  rw [sh_places] at h
  exact h
theorem sh_last : lastF [sw, sw] [2#32, 0#32] 0 = 1 := by decide +kernel
theorem sh_has : hasR [2#32, 0#32] 0 1 = true := by decide +kernel
theorem sh_fits : fitsF [sw, sw] [0#32, 1#32] = true := by decide +kernel
end Go.Eng
