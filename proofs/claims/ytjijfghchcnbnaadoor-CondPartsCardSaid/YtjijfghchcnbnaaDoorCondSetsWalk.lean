import Derived.Test.YtjijfghchcnbnaaDoorCondAtomsWalk
import Derived.Test.YtjijfghchcnbnaaDoorCondE
import Derived.Test.YtjijfghchcnbnaaDoorEngE
import Derived.Test.YtjijfghchcnbnaaDoorEngF
set_option linter.unusedSimpArgs false
set_option linter.unusedVariables false
set_option linter.constructorNameAsVariable false
set_option autoImplicit false
namespace Go.Eng
open Go Go.RowKit Go.Proofs
/-- What the program's Set says. -/
def SetSaid [Trk] : Prop := ∀ l : List Ou, OusOk l → SC Tryd.prog 22 [.pv (.sl 2 (ousL l))] (.pv (.sl 2 (ousL (setO l))))
theorem ou50 [Trk] {l : List Ou} (h : ¬(50 : Int) < (l.length : Int)) (ho : ∀ o ∈ l, OuOk o) : OusOk l := ⟨by omega, ho⟩
set_option maxHeartbeats 16000000 in
theorem law_CondSets [Trk] {l : List Ou} (hT : ¬Trk.on) (hSet : SetSaid) (hl : l.length ≤ maxLen) (ho : ∀ o ∈ l, OuOk o) : SC Tryd.prog 5 [.pv (.sl 2 (ousL l))] (B true) := by
  have hM : maxLen = 9223372036854775807 := rfl
  have hS := c_shown4 hT
  by_cases h50 : (50 : Int) < (l.length : Int)
  · refine scx_of Tryd.func5 rfl rfl rfl (Nat.le_of_ble_eq_true rfl) ?_
    repeat' (first
      | exact aw_ret (ret_vals (by simp; exact rfl) (by simp [*]; fail_if_success (show _)))
      | exact aw_ret (ret_vals (by simp; exact rfl) (by simp [*]; omega))
      | refine ar_end rfl ?_
      | refine ar_endD rfl (by kernel_rfl) ?_
      | refine ar_fin rfl ?_
      | refine ar_finD rfl (by kernel_rfl) ?_
      | refine ar_callV Tryd.call9 hS rfl rfl rfl rfl rfl (by simp; done) (by rfl) (by simp; done) ?_
      | refine ar_callV_if Tryd.call9 hS rfl rfl rfl rfl rfl rfl (by simp; done) rfl (by rfl) (by simp; done) ?_
      | refine ar_go3 _ rfl (by simp [ints_len, ints_getE, rgL_len, rgL_getE, atsL_len, atsL_getE, cosL_len, cosL_getE, ousL_len, ousL_getE, atC, ouC, coC, h50]; exact ⟨rfl, rfl, rfl⟩) rfl ?_
      | refine aw_sregK 0 [0] ?_
      | refine aw_regK 0 [0] ?_
      | refine aw_sregK 1 [0] ?_
      | refine aw_regK 1 [0] ?_
      | refine aw_sregK 2 [0, 3] ?_
      | refine aw_regK 2 [0, 3] ?_
      | refine aw_sregK 3 [3] ?_
      | refine aw_regK 3 [3] ?_
      | refine aw_sreg ?_
      | refine aw_sregD mixed ?_
      | refine aw_ifT (b := true) rfl rfl ?_
      | refine aw_ifF (b := false) rfl rfl ?_
      | refine aw_ifT rfl (by assumption) ?_
      | refine aw_ifF rfl (by assumption) ?_
      | refine aw_ifT rfl (decide_eq_true (by assumption)) ?_
      | refine aw_ifF rfl (decide_eq_false (by assumption)) ?_
      | refine aw_seq ?_
      | refine aw_block ?_
      | refine aw_skip ?_
      | refine aw_region ?_
      | refine aw_region_draw mixed ?_
      | refine aw_exit ?_
      | refine rq_exit ?_
      | refine blockQ_hit ?_
      | refine blockQ_miss (by decide) ?_)
  have hk := ou50 h50 ho
  have h1 := hSet l hk
  have h2 := c_rSet hk
  have h3 := c_SameT (setO_ok hk)
  refine scx_of Tryd.func5 rfl rfl rfl (Nat.le_of_ble_eq_true rfl) ?_
  repeat' (first
    | refine ar_end rfl ?_
    | refine ar_endD rfl (by kernel_rfl) ?_
    | refine ar_fin rfl ?_
    | refine ar_finD rfl (by kernel_rfl) ?_
    | refine ar_callV Tryd.call9 hS rfl rfl rfl rfl rfl (by simp; done) (by rfl) (by simp; done) ?_
    | refine ar_callV_if Tryd.call9 hS rfl rfl rfl rfl rfl rfl (by simp; done) rfl (by rfl) (by simp; done) ?_
    | refine ar_go3 _ rfl (by simp [ints_len, ints_getE, rgL_len, rgL_getE, atsL_len, atsL_getE, cosL_len, cosL_getE, ousL_len, ousL_getE, atC, ouC, coC, h50]; exact ⟨rfl, rfl, rfl⟩) rfl ?_
    | refine aw_sregK 0 [0] ?_
    | refine aw_regK 0 [0] ?_
    | refine aw_sregK 1 [0] ?_
    | refine aw_regK 1 [0] ?_
    | refine aw_sregK 2 [0, 3] ?_
    | refine aw_regK 2 [0, 3] ?_
    | refine aw_sregK 4 [0, 3] ?_
    | refine aw_regK 4 [0, 3] ?_
    | refine aw_sreg ?_
    | refine aw_sregD mixed ?_
    | refine aw_ifT (b := true) rfl rfl ?_
    | refine aw_ifF (b := false) rfl rfl ?_
    | refine aw_ifT rfl (by assumption) ?_
    | refine aw_ifF rfl (by assumption) ?_
    | refine aw_ifT rfl (decide_eq_true (by assumption)) ?_
    | refine aw_ifF rfl (decide_eq_false (by assumption)) ?_
    | refine aw_seq ?_
    | refine aw_block ?_
    | refine aw_skip ?_
    | refine aw_region ?_
    | refine aw_region_draw mixed ?_
    | refine aw_exit ?_
    | refine rq_exit ?_
    | refine blockQ_hit ?_
    | refine blockQ_miss (by decide) ?_)
  refine aw_loopN [0, 3, 4] [] (by simp; exact rfl) (ι := {i : Nat // i ≤ l.length}) (fun i => ⟨46, [(0, .pv (.sl 2 (ousL l))), (3, B true), (4, I .i64 i.1)], []⟩) (fun i => l.length - i.1) ⟨0, by omega⟩ (by simp) ?_
  rintro ⟨i, hi⟩
  have hw : IntKind.wrap .i64 ((i : Int) + 1) = (i : Int) + 1 := wrap64s (by omega) (by omega)
  by_cases hlt : i + 1 < l.length
  · have hd : (i : Int) + 1 < (l.length : Int) := by omega
    have hlt0 : i < l.length := by omega
    have hC := c_Compare (ho _ (List.getElem_mem hlt0)) (ho _ (List.getElem_mem hlt))
    have hD := c_rCompare (ho _ (List.getElem_mem hlt0)) (ho _ (List.getElem_mem hlt))
    have hi1 : ((i : Int) + 1).toNat = i + 1 := by omega
    have hi2 : ¬(i : Int) + 1 < 0 := by omega
    have hi3 : 0 ≤ (i : Int) + 1 := by omega
    generalize hx : l[i] = x at *
    generalize hy : l[i + 1] = y at *
    generalize cmpF x y = n at *
    repeat' (first
      | refine ar_end rfl ?_
      | refine ar_endD rfl (by kernel_rfl) ?_
      | refine ar_fin rfl ?_
      | refine ar_finD rfl (by kernel_rfl) ?_
      | refine ar_callV Tryd.call19 hC rfl rfl rfl rfl rfl (by simp; done) (by rfl) (by simp; done) ?_
      | refine ar_callV_if Tryd.call19 hC rfl rfl rfl rfl rfl rfl (by simp; done) rfl (by rfl) (by simp; done) ?_
      | refine ar_callV Tryd.call20 hD rfl rfl rfl rfl rfl (by simp; done) (by rfl) (by simp; done) ?_
      | refine ar_callV_if Tryd.call20 hD rfl rfl rfl rfl rfl rfl (by simp; done) rfl (by rfl) (by simp; done) ?_
      | refine bq_norm ?_
      | refine lq_normN [0, 3, 4] [] (by simp; exact rfl) ⟨i + 1, by omega⟩ (by dsimp only; omega) (by simp [])
      | refine ar_go3 _ rfl (by simp [ints_len, ints_getE, rgL_len, rgL_getE, atsL_len, atsL_getE, cosL_len, cosL_getE, ousL_len, ousL_getE, atC, ouC, coC, hd, hlt, hlt0, hx, hy, hw, hi1, hi2, hi3]; exact ⟨rfl, rfl, rfl⟩) rfl ?_
      | refine aw_sregK 5 [0, 3, 4] ?_
      | refine aw_regK 5 [0, 3, 4] ?_
      | refine aw_sregK 6 [0, 3, 4] ?_
      | refine aw_regK 6 [0, 3, 4] ?_
      | refine aw_sregKD mixed 7 [0, 3, 4] (by simp; exact rfl) ?_
      | refine aw_regKD mixed 7 [0, 3, 4] (by simp; exact rfl) ?_
      | refine aw_sreg ?_
      | refine aw_sregD mixed ?_
      | refine aw_ifT (b := true) rfl rfl ?_
      | refine aw_ifF (b := false) rfl rfl ?_
      | refine aw_ifT rfl (by assumption) ?_
      | refine aw_ifF rfl (by assumption) ?_
      | refine aw_ifT rfl (decide_eq_true (by assumption)) ?_
      | refine aw_ifF rfl (decide_eq_false (by assumption)) ?_
      | refine aw_seq ?_
      | refine aw_block ?_
      | refine aw_skip ?_
      | refine aw_region ?_
      | refine aw_region_draw mixed ?_
      | refine aw_exit ?_
      | refine rq_exit ?_
      | refine blockQ_hit ?_
      | refine blockQ_miss (by decide) ?_)
  have hd : ¬(i : Int) + 1 < (l.length : Int) := by omega
  generalize setO l = s at *
  repeat' (first
    | exact aw_ret (ret_vals (by simp; exact rfl) (by simp [*]; fail_if_success (show _)))
    | exact aw_ret (ret_vals (by simp; exact rfl) (by simp [*]; omega))
    | refine ar_end rfl ?_
    | refine ar_endD rfl (by kernel_rfl) ?_
    | refine ar_fin rfl ?_
    | refine ar_finD rfl (by kernel_rfl) ?_
    | refine ar_callV Tryd.call22 h1 rfl rfl rfl rfl rfl (by simp; done) (by rfl) (by simp; done) ?_
    | refine ar_callV_if Tryd.call22 h1 rfl rfl rfl rfl rfl rfl (by simp; done) rfl (by rfl) (by simp; done) ?_
    | refine ar_callV Tryd.call23 h2 rfl rfl rfl rfl rfl (by simp; done) (by rfl) (by simp; done) ?_
    | refine ar_callV_if Tryd.call23 h2 rfl rfl rfl rfl rfl rfl (by simp; done) rfl (by rfl) (by simp; done) ?_
    | refine ar_callV Tryd.call21 h3 rfl rfl rfl rfl rfl (by simp; done) (by rfl) (by simp; done) ?_
    | refine ar_callV_if Tryd.call21 h3 rfl rfl rfl rfl rfl rfl (by simp; done) rfl (by rfl) (by simp; done) ?_
    | refine lq_exit ?_
    | refine ar_go3 _ rfl (by simp [ints_len, ints_getE, rgL_len, rgL_getE, atsL_len, atsL_getE, cosL_len, cosL_getE, ousL_len, ousL_getE, atC, ouC, coC, hd, hw]; exact ⟨rfl, rfl, rfl⟩) rfl ?_
    | refine aw_sregK 5 [0, 3, 4] ?_
    | refine aw_regK 5 [0, 3, 4] ?_
    | refine aw_sregK 9 [0, 3] ?_
    | refine aw_regK 9 [0, 3] ?_
    | refine aw_sreg ?_
    | refine aw_sregD mixed ?_
    | refine aw_ifT (b := true) rfl rfl ?_
    | refine aw_ifF (b := false) rfl rfl ?_
    | refine aw_ifT rfl (by assumption) ?_
    | refine aw_ifF rfl (by assumption) ?_
    | refine aw_ifT rfl (decide_eq_true (by assumption)) ?_
    | refine aw_ifF rfl (decide_eq_false (by assumption)) ?_
    | refine aw_seq ?_
    | refine aw_block ?_
    | refine aw_skip ?_
    | refine aw_region ?_
    | refine aw_region_draw mixed ?_
    | refine aw_exit ?_
    | refine rq_exit ?_
    | refine blockQ_hit ?_
    | refine blockQ_miss (by decide) ?_)
end Go.Eng
