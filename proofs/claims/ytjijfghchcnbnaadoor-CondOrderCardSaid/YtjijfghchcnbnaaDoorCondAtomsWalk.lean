import Derived.Test.YtjijfghchcnbnaaDoorCondH
import Derived.Test.YtjijfghchcnbnaaDoorEngE
set_option linter.unusedSimpArgs false
set_option linter.unusedVariables false
set_option linter.constructorNameAsVariable false
set_option autoImplicit false
namespace Go.Eng
open Go Go.RowKit Go.Proofs
set_option maxHeartbeats 16000000 in
theorem c_few' [Trk] {c : Co} {b : Bool} (hb : fewB c = b) (hl : c.any.length ≤ maxLen) : SC Tryd.prog 10 [.agg [.v (.bool c.all), .sl 1 (cosL c.any)]] (B b) := by
  subst hb
  exact c_few hl
set_option maxHeartbeats 16000000 in
theorem law_CondAtoms [Trk] {c : Co} {a : At} {o : Ou} (hT : ¬Trk.on) (hl : c.any.length ≤ maxLen) : SC Tryd.prog 3 [.agg (coC c), .agg (atC a), .agg (ouC o)] (B true) := by
  have hM : maxLen = 9223372036854775807 := rfl
  have hS := c_shown4 hT
  cases hf : fewB c with
  | false =>
    have hF := c_few' hf hl
    refine scx_of Tryd.func3 rfl rfl rfl (Nat.le_of_ble_eq_true rfl) ?_
    repeat' (first
      | exact aw_ret (ret_vals (by simp; exact rfl) (by simp [*]; fail_if_success (show _)))
      | exact aw_ret (ret_vals (by simp; exact rfl) (by simp [*]; omega))
      | refine ar_end rfl ?_
      | refine ar_endD rfl (by kernel_rfl) ?_
      | refine ar_fin rfl ?_
      | refine ar_finD rfl (by kernel_rfl) ?_
      | refine ar_callV Tryd.call9 hS rfl rfl rfl rfl rfl (by simp; done) (by rfl) (by simp; done) ?_
      | refine ar_callV_if Tryd.call9 hS rfl rfl rfl rfl rfl rfl (by simp; done) rfl (by rfl) (by simp; done) ?_
      | refine ar_callV Tryd.call10 hF rfl rfl rfl rfl rfl (by simp; done) (by rfl) (by simp; done) ?_
      | refine ar_callV_if Tryd.call10 hF rfl rfl rfl rfl rfl rfl (by simp; done) rfl (by rfl) (by simp; done) ?_
      | refine ar_go3 _ rfl (by simp [ints_len, ints_getE, rgL_len, rgL_getE, atsL_len, atsL_getE, cosL_len, cosL_getE, ousL_len, ousL_getE, atC, ouC, coC]; exact ⟨rfl, rfl, rfl⟩) rfl ?_
      | refine aw_sregK 0 [0, 1, 2] ?_
      | refine aw_regK 0 [0, 1, 2] ?_
      | refine aw_sregK 1 [3, 4, 5] ?_
      | refine aw_regK 1 [3, 4, 5] ?_
      | refine aw_sregK 2 [3, 4, 5, 7] ?_
      | refine aw_regK 2 [3, 4, 5, 7] ?_
      | refine aw_sregK 3 [7] ?_
      | refine aw_regK 3 [7] ?_
      | refine aw_sreg ?_
      | refine aw_sregD mixed ?_
      | refine aw_ifT (b := true) rfl rfl ?_
      | refine aw_ifF (b := false) rfl rfl ?_
      | refine aw_ifT rfl (by assumption) ?_
      | refine aw_ifF rfl (by assumption) ?_
      | refine aw_ifT rfl (decide_eq_true (by assumption)) ?_
      | refine aw_ifF rfl (decide_eq_false (by assumption)) ?_
      | refine aw_seq ?_
      | refine aw_block ?_
      | refine aw_skip ?_
      | refine aw_region ?_
      | refine aw_region_draw mixed ?_
      | refine aw_exit ?_
      | refine rq_exit ?_
      | refine blockQ_hit ?_
      | refine blockQ_miss (by decide) ?_)
  | true =>
  have hF := c_few' hf hl
  by_cases h0 : c.any = []
  · obtain ⟨all, any⟩ := c
    dsimp only at *
    subst h0
    have hc : cosL [] = [] := rfl
    rw [hc] at hF
    refine scx_of Tryd.func3 rfl rfl rfl (Nat.le_of_ble_eq_true rfl) ?_
    repeat' (first
      | exact aw_ret (ret_vals (by simp; exact rfl) (by simp [*]; fail_if_success (show _)))
      | exact aw_ret (ret_vals (by simp; exact rfl) (by simp [*]; omega))
      | refine ar_end rfl ?_
      | refine ar_endD rfl (by kernel_rfl) ?_
      | refine ar_fin rfl ?_
      | refine ar_finD rfl (by kernel_rfl) ?_
      | refine ar_callV Tryd.call9 hS rfl rfl rfl rfl rfl (by simp; done) (by rfl) (by simp; done) ?_
      | refine ar_callV_if Tryd.call9 hS rfl rfl rfl rfl rfl rfl (by simp; done) rfl (by rfl) (by simp; done) ?_
      | refine ar_callV Tryd.call10 hF rfl rfl rfl rfl rfl (by simp; done) (by rfl) (by simp; done) ?_
      | refine ar_callV_if Tryd.call10 hF rfl rfl rfl rfl rfl rfl (by simp; done) rfl (by rfl) (by simp; done) ?_
      | refine ar_go3 _ rfl (by simp [ints_len, ints_getE, rgL_len, rgL_getE, atsL_len, atsL_getE, cosL_len, cosL_getE, ousL_len, ousL_getE, atC, ouC, coC, hc]; exact ⟨rfl, rfl, rfl⟩) rfl ?_
      | refine aw_sregK 0 [0, 1, 2] ?_
      | refine aw_regK 0 [0, 1, 2] ?_
      | refine aw_sregK 1 [3, 4, 5] ?_
      | refine aw_regK 1 [3, 4, 5] ?_
      | refine aw_sregK 2 [3, 4, 5, 7] ?_
      | refine aw_regK 2 [3, 4, 5, 7] ?_
      | refine aw_sregK 3 [7] ?_
      | refine aw_regK 3 [7] ?_
      | refine aw_sreg ?_
      | refine aw_sregD mixed ?_
      | refine aw_ifT (b := true) rfl rfl ?_
      | refine aw_ifF (b := false) rfl rfl ?_
      | refine aw_ifT rfl (by assumption) ?_
      | refine aw_ifF rfl (by assumption) ?_
      | refine aw_ifT rfl (decide_eq_true (by assumption)) ?_
      | refine aw_ifF rfl (decide_eq_false (by assumption)) ?_
      | refine aw_seq ?_
      | refine aw_block ?_
      | refine aw_skip ?_
      | refine aw_region ?_
      | refine aw_region_draw mixed ?_
      | refine aw_exit ?_
      | refine rq_exit ?_
      | refine blockQ_hit ?_
      | refine blockQ_miss (by decide) ?_)
  have hM1 := c_made hf
  have hO := c_madeO hf
  have hfew := (fewB_iff.1 hf).1
  have hnl : ∀ l ∈ c.any, l.length ≤ 20 := (fewB_iff.1 hf).2
  obtain ⟨all, any⟩ := c
  obtain ⟨th, pl, v, neg⟩ := a
  dsimp only at *
  cases any with
  | nil => exact absurd rfl h0
  | cons l0 any =>
  simp only [List.length_cons] at hfew
  have hl0 : l0.length ≤ 20 := hnl _ (List.mem_cons_self ..)
  have hH := c_Holds (a := ⟨th, pl, v, neg⟩) (o := o)
  have hH2 := c_Holds (a := ⟨th, pl, v, !neg⟩) (o := o)
  have hneg : holdsF ⟨th, pl, v, !neg⟩ o = !holdsF ⟨th, pl, v, neg⟩ o := by simp only [holdsF, valF]; cases neg <;> simp
  have hE1 := c_Eval (c := ⟨all, l0 :: any⟩) (o := o) ⟨by simp; omega, fun l h => by have := hnl l h; omega⟩
  have hE2 := c_Eval (c := ⟨all, l0 :: any ++ [[⟨th, pl, v, neg⟩]]⟩) (o := o) ⟨by simp; omega, fun l h => by
    rcases List.mem_append.1 h with h | h
    · have := hnl l h; omega
    · rw [List.mem_singleton.1 h]; simp; omega⟩
  have hE3 := c_Eval (c := ⟨all, [l0 ++ [⟨th, pl, v, neg⟩]]⟩) (o := o) ⟨by simp; omega, fun l h => by rw [List.mem_singleton.1 h]; simp; omega⟩
  have hE4 := c_Eval (c := ⟨false, [l0]⟩) (o := o) ⟨by simp; omega, fun l h => by rw [List.mem_singleton.1 h]; omega⟩
  have e2 : evalF ⟨all, l0 :: any ++ [[⟨th, pl, v, neg⟩]]⟩ o = (evalF ⟨all, l0 :: any⟩ o || holdsF ⟨th, pl, v, neg⟩ o) := by simp [evalF, Bool.or_assoc]
  have e3 : evalF ⟨all, [l0 ++ [⟨th, pl, v, neg⟩]]⟩ o = (evalF ⟨false, [l0]⟩ o && holdsF ⟨th, pl, v, neg⟩ o) := by simp [evalF]
  have k2 : coC ⟨all, l0 :: any ++ [[⟨th, pl, v, neg⟩]]⟩ = [.v (.bool all), .sl 1 ([.sl 4 (atsL l0)] :: (cosL any ++ [[.sl 4 [[C .i64 th, C .i64 pl, C .i64 v, .v (.bool neg)]]]]))] := by simp [coC, cosL, atsL, atC]
  have k3 : coC ⟨all, [l0 ++ [⟨th, pl, v, neg⟩]]⟩ = [.v (.bool all), .sl 1 [[.sl 4 (atsL l0 ++ [[C .i64 th, C .i64 pl, C .i64 v, .v (.bool neg)]])]]] := by simp [coC, cosL, atsL, atC]
  rw [e2, k2] at hE2
  rw [e3, k3] at hE3
  rw [hneg] at hH2
  have hc0 : cosL (l0 :: any) = [.sl 4 (atsL l0)] :: cosL any := rfl
  have ha0 : (l0 :: any).length = any.length + 1 := rfl
  generalize holdsF ⟨th, pl, v, neg⟩ o = b at *
  generalize evalF ⟨all, l0 :: any⟩ o = e at *
  generalize evalF ⟨false, [l0]⟩ o = f at *
  refine scx_of Tryd.func3 rfl rfl rfl (Nat.le_of_ble_eq_true rfl) ?_
  repeat' (first
    | exact aw_ret (ret_vals (by simp; exact rfl) (by simp [*]; fail_if_success (show _)))
    | exact aw_ret (ret_vals (by simp; exact rfl) (by simp [*]; omega))
    | refine ar_end rfl ?_
    | refine ar_endD rfl (by kernel_rfl) ?_
    | refine ar_fin rfl ?_
    | refine ar_finD rfl (by kernel_rfl) ?_
    | refine ar_callV Tryd.call9 hS rfl rfl rfl rfl rfl (by simp; done) (by rfl) (by simp; done) ?_
    | refine ar_callV_if Tryd.call9 hS rfl rfl rfl rfl rfl rfl (by simp; done) rfl (by rfl) (by simp; done) ?_
    | refine ar_callV Tryd.call10 hF rfl rfl rfl rfl rfl (by simp; done) (by rfl) (by simp; done) ?_
    | refine ar_callV_if Tryd.call10 hF rfl rfl rfl rfl rfl rfl (by simp; done) rfl (by rfl) (by simp; done) ?_
    | refine ar_callV Tryd.call12 hH rfl rfl rfl rfl rfl (by simp; done) (by rfl) (by simp; done) ?_
    | refine ar_callV_if Tryd.call12 hH rfl rfl rfl rfl rfl rfl (by simp; done) rfl (by rfl) (by simp; done) ?_
    | refine ar_callV Tryd.call12 hH2 rfl rfl rfl rfl rfl (by simp; done) (by rfl) (by simp; done) ?_
    | refine ar_callV_if Tryd.call12 hH2 rfl rfl rfl rfl rfl rfl (by simp; done) rfl (by rfl) (by simp; done) ?_
    | refine ar_callV Tryd.call13 hE1 rfl rfl rfl rfl rfl (by simp; done) (by rfl) (by simp; done) ?_
    | refine ar_callV_if Tryd.call13 hE1 rfl rfl rfl rfl rfl rfl (by simp; done) rfl (by rfl) (by simp; done) ?_
    | refine ar_callV Tryd.call13 hE2 rfl rfl rfl rfl rfl (by simp; done) (by rfl) (by simp; done) ?_
    | refine ar_callV_if Tryd.call13 hE2 rfl rfl rfl rfl rfl rfl (by simp; done) rfl (by rfl) (by simp; done) ?_
    | refine ar_callV Tryd.call13 hE3 rfl rfl rfl rfl rfl (by simp; done) (by rfl) (by simp; done) ?_
    | refine ar_callV_if Tryd.call13 hE3 rfl rfl rfl rfl rfl rfl (by simp; done) rfl (by rfl) (by simp; done) ?_
    | refine ar_callV Tryd.call13 hE4 rfl rfl rfl rfl rfl (by simp; done) (by rfl) (by simp; done) ?_
    | refine ar_callV_if Tryd.call13 hE4 rfl rfl rfl rfl rfl rfl (by simp; done) rfl (by rfl) (by simp; done) ?_
    | refine ar_callE (d := 42) [] [.loc 42] [.loc 42] Tryd.call11 hO rfl rfl rfl rfl (by simp; exact rfl) rfl (by simp; done) (by rfl) (by simp; fail_if_success (show _)) rfl ⟨by simp, by simp, (by simp [okY]; fail_if_success (show _)), by simp, by simp⟩ (by simp; fail_if_success (show _)) ?_
    | refine ar_callV Tryd.call11 hM1 rfl rfl rfl rfl rfl (by simp; done) (by rfl) (by simp; done) ?_
    | refine ar_appO rfl rfl rfl rfl rfl (by simp; exact rfl) rfl (by simp; exact rfl) (by simp; exact rfl) (by simp; exact ⟨rfl, rfl⟩) rfl (by simp; exact rfl) (by simp; done) (by decide) (by simp [cosL_len, atsL_len, hfew, hl0, maxLen]; try omega) ?_
    | refine ar_frzT [46] rfl rfl (by simp; exact rfl) (by simp; exact rfl) (by simp; exact rfl) rfl (by simp; fail_if_success (show _)) ?_
    | refine ar_frzT [60] rfl rfl (by simp; exact rfl) (by simp; exact rfl) (by simp; exact rfl) rfl (by simp; fail_if_success (show _)) ?_
    | refine aw_frzH (.loc 48) rfl (by simp; exact rfl) ?_
    | refine aw_frzH (.loc 61) rfl (by simp; exact rfl) ?_
    | refine ar_go3 _ rfl (by simp [ints_len, ints_getE, rgL_len, rgL_getE, atsL_len, atsL_getE, cosL_len, cosL_getE, ousL_len, ousL_getE, atC, ouC, coC, hc0, hfew, hl0]; exact ⟨rfl, rfl, rfl⟩) rfl ?_
    | refine aw_sregK 0 [0, 1, 2] ?_
    | refine aw_regK 0 [0, 1, 2] ?_
    | refine aw_sregK 1 [3, 4, 5] ?_
    | refine aw_regK 1 [3, 4, 5] ?_
    | refine aw_sregK 2 [3, 4, 5, 7] ?_
    | refine aw_regK 2 [3, 4, 5, 7] ?_
    | refine aw_sregK 3 [7] ?_
    | refine aw_regK 3 [7] ?_
    | refine aw_sregK 4 [3, 4, 5, 7] ?_
    | refine aw_regK 4 [3, 4, 5, 7] ?_
    | refine aw_sregK 5 [3, 5, 7, 8] ?_
    | refine aw_regK 5 [3, 5, 7, 8] ?_
    | refine aw_sregK 6 [3, 5, 7, 8, 9] ?_
    | refine aw_regK 6 [3, 5, 7, 8, 9] ?_
    | refine aw_sregK 7 [3, 5, 7, 8, 9] ?_
    | refine aw_regK 7 [3, 5, 7, 8, 9] ?_
    | refine aw_sregK 8 [3, 5, 7, 8, 9, 10] ?_
    | refine aw_regK 8 [3, 5, 7, 8, 9, 10] ?_
    | refine aw_sregK 9 [3, 5, 7, 8, 9, 10, 11] ?_
    | refine aw_regK 9 [3, 5, 7, 8, 9, 10, 11] ?_
    | refine aw_sregK 10 [3, 5, 7, 8, 9, 10, 11] ?_
    | refine aw_regK 10 [3, 5, 7, 8, 9, 10, 11] ?_
    | refine aw_sregKD mixed 11 [5, 7, 8, 9, 10, 11, 12] (by simp; exact rfl) ?_
    | refine aw_regKD mixed 11 [5, 7, 8, 9, 10, 11, 12] (by simp; exact rfl) ?_
    | refine aw_sregK 12 [5, 7, 8, 9, 10, 11, 12] ?_
    | refine aw_regK 12 [5, 7, 8, 9, 10, 11, 12] ?_
    | refine aw_sregKD mixed 13 [5, 7, 8, 9, 10, 11, 12, 13] (by simp; exact rfl) ?_
    | refine aw_regKD mixed 13 [5, 7, 8, 9, 10, 11, 12, 13] (by simp; exact rfl) ?_
    | refine aw_sreg ?_
    | refine aw_sregD mixed ?_
    | refine aw_ifT (b := true) rfl rfl ?_
    | refine aw_ifF (b := false) rfl rfl ?_
    | refine aw_ifT rfl (by assumption) ?_
    | refine aw_ifF rfl (by assumption) ?_
    | refine aw_ifT rfl (decide_eq_true (by assumption)) ?_
    | refine aw_ifF rfl (decide_eq_false (by assumption)) ?_
    | refine aw_seq ?_
    | refine aw_block ?_
    | refine aw_skip ?_
    | refine aw_region ?_
    | refine aw_region_draw mixed ?_
    | refine aw_exit ?_
    | refine rq_exit ?_
    | refine blockQ_hit ?_
    | refine blockQ_miss (by decide) ?_
    | (refine ar_guard rfl rfl rfl rfl (fun h => ?_) (fun h => ?_) <;> (fail_if_success (cases h; done)) <;> (try simp at h) <;> (try subst h))
    | (refine aw_both rfl (fun h => ?_) (fun h => ?_) <;> (fail_if_success (cases h; done)) <;> (try simp at h) <;> (try subst h)))
end Go.Eng
