import Derived.Test.YtjijfghchcnbnaaDoorCondSetsWalk
import Derived.Test.YtjijfghchcnbnaaDoorEngD
set_option linter.unusedSimpArgs false
set_option linter.unusedVariables false
set_option linter.constructorNameAsVariable false
set_option autoImplicit false
namespace Go.Eng
open Go Go.RowKit Go.Proofs
theorem ver_app [Trk] (c : Co) (a b : List Ou) : (c.all = true → verF c (a ++ b) = (verF c a && verF c b)) ∧ (c.all = false → verF c (a ++ b) = (verF c a || verF c b)) := by
  unfold verF
  rw [List.any_append]
  cases c.all <;> cases (a.any fun o => evalF c o != _) <;> cases (b.any fun o => evalF c o != _) <;> simp
set_option maxHeartbeats 16000000 in
theorem law_CondParts [Trk] {c : Co} {a b : List Ou} (hT : ¬Trk.on) (hSet : SetSaid) (hc : CoOk c) (ha : a.length ≤ maxLen) (hb : b.length ≤ maxLen) (hao : ∀ o ∈ a, OuOk o) (hbo : ∀ o ∈ b, OuOk o) : SC Tryd.prog 8 [.agg (coC c), .pv (.sl 2 (ousL a)), .pv (.sl 2 (ousL b))] (B true) := by
  have hM : maxLen = 9223372036854775807 := rfl
  have hS := c_shown4 hT
  cases hf : fewB c with
  | false =>
    have hF := c_few' hf hc.len
    refine scx_of Tryd.func8 rfl rfl rfl (Nat.le_of_ble_eq_true rfl) ?_
    repeat' (first
      | exact aw_ret (ret_vals (by simp; exact rfl) (by simp [*]; fail_if_success (show _)))
      | exact aw_ret (ret_vals (by simp; exact rfl) (by simp [*]; omega))
      | refine ar_end rfl ?_
      | refine ar_endD rfl (by kernel_rfl) ?_
      | refine ar_fin rfl ?_
      | refine ar_finD rfl (by kernel_rfl) ?_
      | refine ar_callV Tryd.call9 hS rfl rfl rfl rfl rfl (by simp; done) (by rfl) (by simp; done) ?_
      | refine ar_callV_if Tryd.call9 hS rfl rfl rfl rfl rfl rfl (by simp; done) rfl (by rfl) (by simp; done) ?_
      | refine ar_callV Tryd.call10 hF rfl rfl rfl rfl rfl (by simp; done) (by rfl) (by simp; done) ?_
      | refine ar_callV_if Tryd.call10 hF rfl rfl rfl rfl rfl rfl (by simp; done) rfl (by rfl) (by simp; done) ?_
      | refine ar_go3 _ rfl (by simp [ints_len, ints_getE, rgL_len, rgL_getE, atsL_len, atsL_getE, cosL_len, cosL_getE, ousL_len, ousL_getE, atC, ouC, coC]; exact ⟨rfl, rfl, rfl⟩) rfl ?_
      | refine aw_sregK 0 [0, 1, 2] ?_
      | refine aw_regK 0 [0, 1, 2] ?_
      | refine aw_sregK 1 [1, 2, 3] ?_
      | refine aw_regK 1 [1, 2, 3] ?_
      | refine aw_sregK 2 [1, 2, 3, 7] ?_
      | refine aw_regK 2 [1, 2, 3, 7] ?_
      | refine aw_sregK 3 [7] ?_
      | refine aw_regK 3 [7] ?_
      | refine aw_sreg ?_
      | refine aw_sregD mixed ?_
      | refine aw_ifT (b := true) rfl rfl ?_
      | refine aw_ifF (b := false) rfl rfl ?_
      | refine aw_ifT rfl (by assumption) ?_
      | refine aw_ifF rfl (by assumption) ?_
      | refine aw_ifT rfl (decide_eq_true (by assumption)) ?_
      | refine aw_ifF rfl (decide_eq_false (by assumption)) ?_
      | refine aw_seq ?_
      | refine aw_block ?_
      | refine aw_skip ?_
      | refine aw_region ?_
      | refine aw_region_draw mixed ?_
      | refine aw_exit ?_
      | refine rq_exit ?_
      | refine blockQ_hit ?_
      | refine blockQ_miss (by decide) ?_)
  | true =>
  have hF := c_few' hf hc.len
  by_cases h1 : (25 : Int) < (a.length : Int)
  · refine scx_of Tryd.func8 rfl rfl rfl (Nat.le_of_ble_eq_true rfl) ?_
    repeat' (first
      | exact aw_ret (ret_vals (by simp; exact rfl) (by simp [*]; fail_if_success (show _)))
      | exact aw_ret (ret_vals (by simp; exact rfl) (by simp [*]; omega))
      | refine ar_end rfl ?_
      | refine ar_endD rfl (by kernel_rfl) ?_
      | refine ar_fin rfl ?_
      | refine ar_finD rfl (by kernel_rfl) ?_
      | refine ar_callV Tryd.call9 hS rfl rfl rfl rfl rfl (by simp; done) (by rfl) (by simp; done) ?_
      | refine ar_callV_if Tryd.call9 hS rfl rfl rfl rfl rfl rfl (by simp; done) rfl (by rfl) (by simp; done) ?_
      | refine ar_callV Tryd.call10 hF rfl rfl rfl rfl rfl (by simp; done) (by rfl) (by simp; done) ?_
      | refine ar_callV_if Tryd.call10 hF rfl rfl rfl rfl rfl rfl (by simp; done) rfl (by rfl) (by simp; done) ?_
      | refine ar_go3 _ rfl (by simp [ints_len, ints_getE, rgL_len, rgL_getE, atsL_len, atsL_getE, cosL_len, cosL_getE, ousL_len, ousL_getE, atC, ouC, coC, h1]; exact ⟨rfl, rfl, rfl⟩) rfl ?_
      | refine aw_sregK 0 [0, 1, 2] ?_
      | refine aw_regK 0 [0, 1, 2] ?_
      | refine aw_sregK 1 [1, 2, 3] ?_
      | refine aw_regK 1 [1, 2, 3] ?_
      | refine aw_sregK 2 [1, 2, 3, 7] ?_
      | refine aw_regK 2 [1, 2, 3, 7] ?_
      | refine aw_sregK 3 [7] ?_
      | refine aw_regK 3 [7] ?_
      | refine aw_sreg ?_
      | refine aw_sregD mixed ?_
      | refine aw_ifT (b := true) rfl rfl ?_
      | refine aw_ifF (b := false) rfl rfl ?_
      | refine aw_ifT rfl (by assumption) ?_
      | refine aw_ifF rfl (by assumption) ?_
      | refine aw_ifT rfl (decide_eq_true (by assumption)) ?_
      | refine aw_ifF rfl (decide_eq_false (by assumption)) ?_
      | refine aw_seq ?_
      | refine aw_block ?_
      | refine aw_skip ?_
      | refine aw_region ?_
      | refine aw_region_draw mixed ?_
      | refine aw_exit ?_
      | refine rq_exit ?_
      | refine blockQ_hit ?_
      | refine blockQ_miss (by decide) ?_)
  by_cases h2 : (25 : Int) < (b.length : Int)
  · refine scx_of Tryd.func8 rfl rfl rfl (Nat.le_of_ble_eq_true rfl) ?_
    repeat' (first
      | exact aw_ret (ret_vals (by simp; exact rfl) (by simp [*]; fail_if_success (show _)))
      | exact aw_ret (ret_vals (by simp; exact rfl) (by simp [*]; omega))
      | refine ar_end rfl ?_
      | refine ar_endD rfl (by kernel_rfl) ?_
      | refine ar_fin rfl ?_
      | refine ar_finD rfl (by kernel_rfl) ?_
      | refine ar_callV Tryd.call9 hS rfl rfl rfl rfl rfl (by simp; done) (by rfl) (by simp; done) ?_
      | refine ar_callV_if Tryd.call9 hS rfl rfl rfl rfl rfl rfl (by simp; done) rfl (by rfl) (by simp; done) ?_
      | refine ar_callV Tryd.call10 hF rfl rfl rfl rfl rfl (by simp; done) (by rfl) (by simp; done) ?_
      | refine ar_callV_if Tryd.call10 hF rfl rfl rfl rfl rfl rfl (by simp; done) rfl (by rfl) (by simp; done) ?_
      | refine ar_go3 _ rfl (by simp [ints_len, ints_getE, rgL_len, rgL_getE, atsL_len, atsL_getE, cosL_len, cosL_getE, ousL_len, ousL_getE, atC, ouC, coC, h1, h2]; exact ⟨rfl, rfl, rfl⟩) rfl ?_
      | refine aw_sregK 0 [0, 1, 2] ?_
      | refine aw_regK 0 [0, 1, 2] ?_
      | refine aw_sregK 1 [1, 2, 3] ?_
      | refine aw_regK 1 [1, 2, 3] ?_
      | refine aw_sregK 2 [1, 2, 3, 7] ?_
      | refine aw_regK 2 [1, 2, 3, 7] ?_
      | refine aw_sregK 3 [7] ?_
      | refine aw_regK 3 [7] ?_
      | refine aw_sreg ?_
      | refine aw_sregD mixed ?_
      | refine aw_ifT (b := true) rfl rfl ?_
      | refine aw_ifF (b := false) rfl rfl ?_
      | refine aw_ifT rfl (by assumption) ?_
      | refine aw_ifF rfl (by assumption) ?_
      | refine aw_ifT rfl (decide_eq_true (by assumption)) ?_
      | refine aw_ifF rfl (decide_eq_false (by assumption)) ?_
      | refine aw_seq ?_
      | refine aw_block ?_
      | refine aw_skip ?_
      | refine aw_region ?_
      | refine aw_region_draw mixed ?_
      | refine aw_exit ?_
      | refine rq_exit ?_
      | refine blockQ_hit ?_
      | refine blockQ_miss (by decide) ?_)
  have hM1 := c_made hf
  have hka : OusOk a := ⟨by omega, hao⟩
  have hkb : OusOk b := ⟨by omega, hbo⟩
  have hkab : OusOk (a ++ b) := ⟨by rw [List.length_append]; omega, fun o h => (List.mem_append.1 h).elim (hao o) (hbo o)⟩
  have hsa := setO_ok hka
  have hsb := setO_ok hkb
  have la : (setO a).length ≤ 25 := by have := foldl_len a []; rw [List.length_nil] at this; unfold setO; omega
  have lb : (setO b).length ≤ 25 := by have := foldl_len b []; rw [List.length_nil] at this; unfold setO; omega
  have hkba : OusOk (setO b ++ setO a) := ⟨by rw [List.length_append]; omega, fun o h => (List.mem_append.1 h).elim (hsb.2 o) (hsa.2 o)⟩
  have k1 := hSet a hka
  have k2 := hSet b hkb
  have k3 := hSet _ hkab
  have k4 := hSet _ hkba
  have e4 : setO (setO b ++ setO a) = setO (a ++ b) := setO_set fun y => by rw [List.mem_append, List.mem_append, setO_mem, setO_mem]; exact Or.comm
  rw [e4] at k4
  have k5 := c_SameT (setO_ok hkab)
  have v1 := c_Verdict (l := a) hc ha
  have v2 := c_Verdict (l := b) hc hb
  have v3 := c_Verdict (l := a ++ b) hc (by rw [List.length_append]; omega)
  obtain ⟨w1, w2⟩ := ver_app c a b
  rw [ousL_app] at k3 k4 v3
  have n1 : (ousL a).length ≤ 25 := by rw [ousL_len]; omega
  have n2 : (ousL b).length ≤ 25 := by rw [ousL_len]; omega
  have n3 : (ousL (setO a)).length ≤ 25 := by rw [ousL_len]; omega
  have n4 : (ousL (setO b)).length ≤ 25 := by rw [ousL_len]; omega
  obtain ⟨all, any⟩ := c
  generalize verF ⟨all, any⟩ (a ++ b) = w at *
  generalize verF ⟨all, any⟩ a = u at *
  generalize verF ⟨all, any⟩ b = v at *
  generalize ousL (setO a) = sa at *
  generalize ousL (setO b) = sb' at *
  generalize ousL (setO (a ++ b)) = sab at *
  generalize hxa : ousL a = xa at *
  generalize hxb : ousL b = xb at *
  have na : a.length = xa.length := by rw [← hxa, ousL_len]
  have nb : b.length = xb.length := by rw [← hxb, ousL_len]
  rw [na] at h1
  rw [nb] at h2
  clear na nb hxa hxb e4 hka hkb hkab hsa hsb la lb hkba hao hbo
  cases all with
  | true =>
    have hw := w1 rfl
    clear w1 w2
    subst hw
    refine scx_of Tryd.func8 rfl rfl rfl (Nat.le_of_ble_eq_true rfl) ?_
    repeat' (first
      | exact aw_ret (ret_vals (by simp; exact rfl) (by simp [h1]; fail_if_success (show _)))
      | exact aw_ret (ret_vals (by simp; exact rfl) (by simp [h1]; omega))
      | refine ar_end rfl ?_
      | refine ar_endD rfl (by kernel_rfl) ?_
      | refine ar_fin rfl ?_
      | refine ar_finD rfl (by kernel_rfl) ?_
      | refine ar_callV Tryd.call9 hS rfl rfl rfl rfl rfl (by simp; done) (by rfl) (by simp; done) ?_
      | refine ar_callV_if Tryd.call9 hS rfl rfl rfl rfl rfl rfl (by simp; done) rfl (by rfl) (by simp; done) ?_
      | refine ar_callV Tryd.call10 hF rfl rfl rfl rfl rfl (by simp; done) (by rfl) (by simp; done) ?_
      | refine ar_callV_if Tryd.call10 hF rfl rfl rfl rfl rfl rfl (by simp; done) rfl (by rfl) (by simp; done) ?_
      | refine ar_callV Tryd.call11 hM1 rfl rfl rfl rfl rfl (by simp; done) (by rfl) (by simp; done) ?_
      | refine ar_callV_if Tryd.call11 hM1 rfl rfl rfl rfl rfl rfl (by simp; done) rfl (by rfl) (by simp; done) ?_
      | refine ar_callV Tryd.call15 v1 rfl rfl rfl rfl rfl (by simp; done) (by rfl) (by simp; done) ?_
      | refine ar_callV_if Tryd.call15 v1 rfl rfl rfl rfl rfl rfl (by simp; done) rfl (by rfl) (by simp; done) ?_
      | refine ar_callV Tryd.call15 v2 rfl rfl rfl rfl rfl (by simp; done) (by rfl) (by simp; done) ?_
      | refine ar_callV_if Tryd.call15 v2 rfl rfl rfl rfl rfl rfl (by simp; done) rfl (by rfl) (by simp; done) ?_
      | refine ar_callV Tryd.call15 v3 rfl rfl rfl rfl rfl (by simp; done) (by rfl) (by simp; done) ?_
      | refine ar_callV_if Tryd.call15 v3 rfl rfl rfl rfl rfl rfl (by simp; done) rfl (by rfl) (by simp; done) ?_
      | refine ar_callV Tryd.call22 k1 rfl rfl rfl rfl rfl (by simp; done) (by rfl) (by simp; done) ?_
      | refine ar_callV_if Tryd.call22 k1 rfl rfl rfl rfl rfl rfl (by simp; done) rfl (by rfl) (by simp; done) ?_
      | refine ar_callV Tryd.call22 k2 rfl rfl rfl rfl rfl (by simp; done) (by rfl) (by simp; done) ?_
      | refine ar_callV_if Tryd.call22 k2 rfl rfl rfl rfl rfl rfl (by simp; done) rfl (by rfl) (by simp; done) ?_
      | refine ar_callV Tryd.call22 k3 rfl rfl rfl rfl rfl (by simp; done) (by rfl) (by simp; done) ?_
      | refine ar_callV_if Tryd.call22 k3 rfl rfl rfl rfl rfl rfl (by simp; done) rfl (by rfl) (by simp; done) ?_
      | refine ar_callV Tryd.call22 k4 rfl rfl rfl rfl rfl (by simp; done) (by rfl) (by simp; done) ?_
      | refine ar_callV_if Tryd.call22 k4 rfl rfl rfl rfl rfl rfl (by simp; done) rfl (by rfl) (by simp; done) ?_
      | refine ar_callV Tryd.call21 k5 rfl rfl rfl rfl rfl (by simp; done) (by rfl) (by simp; done) ?_
      | refine ar_callV_if Tryd.call21 k5 rfl rfl rfl rfl rfl rfl (by simp; done) rfl (by rfl) (by simp; done) ?_
      | refine ar_appO rfl rfl rfl rfl rfl (by simp; exact rfl) rfl (by simp; exact rfl) (by simp; exact rfl) (by simp; exact ⟨rfl, rfl⟩) rfl (by simp; exact rfl) (by simp; done) (by decide) (by simp [n1, n2, n3, n4, maxLen]; try omega) ?_
      | refine aw_frzH (.loc 35) rfl (by simp; exact rfl) ?_
      | refine aw_frzH (.loc 51) rfl (by simp; exact rfl) ?_
      | refine aw_frzH (.loc 33) rfl (by simp; exact rfl) ?_
      | refine aw_frzH (.loc 48) rfl (by simp; exact rfl) ?_
      | refine ar_go3 _ rfl (by simp [ints_len, ints_getE, rgL_len, rgL_getE, atsL_len, atsL_getE, cosL_len, cosL_getE, ousL_len, ousL_getE, atC, ouC, coC, h1, h2]; exact ⟨rfl, rfl, rfl⟩) rfl ?_
      | refine aw_sregK 0 [0, 1, 2] ?_
      | refine aw_regK 0 [0, 1, 2] ?_
      | refine aw_sregK 1 [1, 2, 3] ?_
      | refine aw_regK 1 [1, 2, 3] ?_
      | refine aw_sregK 2 [1, 2, 3, 7] ?_
      | refine aw_regK 2 [1, 2, 3, 7] ?_
      | refine aw_sregK 4 [1, 2, 3, 7] ?_
      | refine aw_regK 4 [1, 2, 3, 7] ?_
      | refine aw_sregK 5 [1, 2, 7, 8] ?_
      | refine aw_regK 5 [1, 2, 7, 8] ?_
      | refine aw_sregK 6 [1, 2, 7, 8, 9] ?_
      | refine aw_regK 6 [1, 2, 7, 8, 9] ?_
      | refine aw_sregK 7 [1, 2, 7, 8, 9, 10] ?_
      | refine aw_regK 7 [1, 2, 7, 8, 9, 10] ?_
      | refine aw_sregK 8 [1, 2, 7, 8, 9, 10, 11] ?_
      | refine aw_regK 8 [1, 2, 7, 8, 9, 10, 11] ?_
      | refine aw_sregK 9 [1, 2, 7, 8, 9, 10, 11, 12] ?_
      | refine aw_regK 9 [1, 2, 7, 8, 9, 10, 11, 12] ?_
      | refine aw_sregK 10 [7, 8, 9, 10, 11, 12, 13] ?_
      | refine aw_regK 10 [7, 8, 9, 10, 11, 12, 13] ?_
      | refine aw_sreg ?_
      | refine aw_sregD mixed ?_
      | refine aw_ifT (b := true) rfl rfl ?_
      | refine aw_ifF (b := false) rfl rfl ?_
      | refine aw_ifT rfl (by assumption) ?_
      | refine aw_ifF rfl (by assumption) ?_
      | refine aw_ifT rfl (decide_eq_true (by assumption)) ?_
      | refine aw_ifF rfl (decide_eq_false (by assumption)) ?_
      | refine aw_seq ?_
      | refine aw_block ?_
      | refine aw_skip ?_
      | refine aw_region ?_
      | refine aw_region_draw mixed ?_
      | refine aw_exit ?_
      | refine rq_exit ?_
      | refine blockQ_hit ?_
      | refine blockQ_miss (by decide) ?_
      | (refine ar_guard rfl rfl rfl rfl (fun h => ?_) (fun h => ?_) <;> (fail_if_success (cases h; done)) <;> (try simp at h) <;> (try subst h))
      | (refine aw_both rfl (fun h => ?_) (fun h => ?_) <;> (fail_if_success (cases h; done)) <;> (try simp at h) <;> (try subst h)))
  | false =>
    have hw := w2 rfl
    clear w1 w2
    subst hw
    refine scx_of Tryd.func8 rfl rfl rfl (Nat.le_of_ble_eq_true rfl) ?_
    repeat' (first
      | exact aw_ret (ret_vals (by simp; exact rfl) (by simp [h1]; fail_if_success (show _)))
      | exact aw_ret (ret_vals (by simp; exact rfl) (by simp [h1]; omega))
      | refine ar_end rfl ?_
      | refine ar_endD rfl (by kernel_rfl) ?_
      | refine ar_fin rfl ?_
      | refine ar_finD rfl (by kernel_rfl) ?_
      | refine ar_callV Tryd.call9 hS rfl rfl rfl rfl rfl (by simp; done) (by rfl) (by simp; done) ?_
      | refine ar_callV_if Tryd.call9 hS rfl rfl rfl rfl rfl rfl (by simp; done) rfl (by rfl) (by simp; done) ?_
      | refine ar_callV Tryd.call10 hF rfl rfl rfl rfl rfl (by simp; done) (by rfl) (by simp; done) ?_
      | refine ar_callV_if Tryd.call10 hF rfl rfl rfl rfl rfl rfl (by simp; done) rfl (by rfl) (by simp; done) ?_
      | refine ar_callV Tryd.call11 hM1 rfl rfl rfl rfl rfl (by simp; done) (by rfl) (by simp; done) ?_
      | refine ar_callV_if Tryd.call11 hM1 rfl rfl rfl rfl rfl rfl (by simp; done) rfl (by rfl) (by simp; done) ?_
      | refine ar_callV Tryd.call15 v1 rfl rfl rfl rfl rfl (by simp; done) (by rfl) (by simp; done) ?_
      | refine ar_callV_if Tryd.call15 v1 rfl rfl rfl rfl rfl rfl (by simp; done) rfl (by rfl) (by simp; done) ?_
      | refine ar_callV Tryd.call15 v2 rfl rfl rfl rfl rfl (by simp; done) (by rfl) (by simp; done) ?_
      | refine ar_callV_if Tryd.call15 v2 rfl rfl rfl rfl rfl rfl (by simp; done) rfl (by rfl) (by simp; done) ?_
      | refine ar_callV Tryd.call15 v3 rfl rfl rfl rfl rfl (by simp; done) (by rfl) (by simp; done) ?_
      | refine ar_callV_if Tryd.call15 v3 rfl rfl rfl rfl rfl rfl (by simp; done) rfl (by rfl) (by simp; done) ?_
      | refine ar_callV Tryd.call22 k1 rfl rfl rfl rfl rfl (by simp; done) (by rfl) (by simp; done) ?_
      | refine ar_callV_if Tryd.call22 k1 rfl rfl rfl rfl rfl rfl (by simp; done) rfl (by rfl) (by simp; done) ?_
      | refine ar_callV Tryd.call22 k2 rfl rfl rfl rfl rfl (by simp; done) (by rfl) (by simp; done) ?_
      | refine ar_callV_if Tryd.call22 k2 rfl rfl rfl rfl rfl rfl (by simp; done) rfl (by rfl) (by simp; done) ?_
      | refine ar_callV Tryd.call22 k3 rfl rfl rfl rfl rfl (by simp; done) (by rfl) (by simp; done) ?_
      | refine ar_callV_if Tryd.call22 k3 rfl rfl rfl rfl rfl rfl (by simp; done) rfl (by rfl) (by simp; done) ?_
      | refine ar_callV Tryd.call22 k4 rfl rfl rfl rfl rfl (by simp; done) (by rfl) (by simp; done) ?_
      | refine ar_callV_if Tryd.call22 k4 rfl rfl rfl rfl rfl rfl (by simp; done) rfl (by rfl) (by simp; done) ?_
      | refine ar_callV Tryd.call21 k5 rfl rfl rfl rfl rfl (by simp; done) (by rfl) (by simp; done) ?_
      | refine ar_callV_if Tryd.call21 k5 rfl rfl rfl rfl rfl rfl (by simp; done) rfl (by rfl) (by simp; done) ?_
      | refine ar_appO rfl rfl rfl rfl rfl (by simp; exact rfl) rfl (by simp; exact rfl) (by simp; exact rfl) (by simp; exact ⟨rfl, rfl⟩) rfl (by simp; exact rfl) (by simp; done) (by decide) (by simp [n1, n2, n3, n4, maxLen]; try omega) ?_
      | refine aw_frzH (.loc 35) rfl (by simp; exact rfl) ?_
      | refine aw_frzH (.loc 51) rfl (by simp; exact rfl) ?_
      | refine aw_frzH (.loc 33) rfl (by simp; exact rfl) ?_
      | refine aw_frzH (.loc 48) rfl (by simp; exact rfl) ?_
      | refine ar_go3 _ rfl (by simp [ints_len, ints_getE, rgL_len, rgL_getE, atsL_len, atsL_getE, cosL_len, cosL_getE, ousL_len, ousL_getE, atC, ouC, coC, h1, h2]; exact ⟨rfl, rfl, rfl⟩) rfl ?_
      | refine aw_sregK 0 [0, 1, 2] ?_
      | refine aw_regK 0 [0, 1, 2] ?_
      | refine aw_sregK 1 [1, 2, 3] ?_
      | refine aw_regK 1 [1, 2, 3] ?_
      | refine aw_sregK 2 [1, 2, 3, 7] ?_
      | refine aw_regK 2 [1, 2, 3, 7] ?_
      | refine aw_sregK 4 [1, 2, 3, 7] ?_
      | refine aw_regK 4 [1, 2, 3, 7] ?_
      | refine aw_sregK 5 [1, 2, 7, 8] ?_
      | refine aw_regK 5 [1, 2, 7, 8] ?_
      | refine aw_sregK 6 [1, 2, 7, 8, 9] ?_
      | refine aw_regK 6 [1, 2, 7, 8, 9] ?_
      | refine aw_sregK 7 [1, 2, 7, 8, 9, 10] ?_
      | refine aw_regK 7 [1, 2, 7, 8, 9, 10] ?_
      | refine aw_sregK 8 [1, 2, 7, 8, 9, 10, 11] ?_
      | refine aw_regK 8 [1, 2, 7, 8, 9, 10, 11] ?_
      | refine aw_sregK 9 [1, 2, 7, 8, 9, 10, 11, 12] ?_
      | refine aw_regK 9 [1, 2, 7, 8, 9, 10, 11, 12] ?_
      | refine aw_sregK 10 [7, 8, 9, 10, 11, 12, 13] ?_
      | refine aw_regK 10 [7, 8, 9, 10, 11, 12, 13] ?_
      | refine aw_sreg ?_
      | refine aw_sregD mixed ?_
      | refine aw_ifT (b := true) rfl rfl ?_
      | refine aw_ifF (b := false) rfl rfl ?_
      | refine aw_ifT rfl (by assumption) ?_
      | refine aw_ifF rfl (by assumption) ?_
      | refine aw_ifT rfl (decide_eq_true (by assumption)) ?_
      | refine aw_ifF rfl (decide_eq_false (by assumption)) ?_
      | refine aw_seq ?_
      | refine aw_block ?_
      | refine aw_skip ?_
      | refine aw_region ?_
      | refine aw_region_draw mixed ?_
      | refine aw_exit ?_
      | refine rq_exit ?_
      | refine blockQ_hit ?_
      | refine blockQ_miss (by decide) ?_
      | (refine ar_guard rfl rfl rfl rfl (fun h => ?_) (fun h => ?_) <;> (fail_if_success (cases h; done)) <;> (try simp at h) <;> (try subst h))
      | (refine aw_both rfl (fun h => ?_) (fun h => ?_) <;> (fail_if_success (cases h; done)) <;> (try simp at h) <;> (try subst h)))
end Go.Eng
