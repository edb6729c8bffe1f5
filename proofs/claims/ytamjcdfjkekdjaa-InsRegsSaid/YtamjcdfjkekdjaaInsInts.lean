import Derived.Test.YtamjcdfjkekdjaaInsRefMay
set_option linter.unusedSimpArgs false
set_option linter.unusedVariables false
set_option linter.constructorNameAsVariable false
set_option autoImplicit false
namespace Go.Eng
open Go Go.RowKit Go.Proofs
/-- Are two lists of numbers the same? -/
def ints (l : List Int) : List (List PV) := l.map fun n => [C .i64 n]
theorem ints_len {l : List Int} : (ints l).length = l.length := by simp [ints]
theorem ints_get {l : List Int} {i : Nat} : (ints l)[i]? = (l[i]?).map (fun n => [C .i64 n]) := by simp [ints]
theorem ints_getE {l : List Int} {i : Nat} (h : i < (ints l).length) : (ints l)[i] = [C .i64 (l[i]'(by simpa [ints] using h))] := by simp [ints]
theorem wrap_succ {i n : Nat} (h : i < n) (hn : n ≤ maxLen) : IntKind.wrap .i64 ((i : Int) + 1) = (i : Int) + 1 := by
  have : maxLen = 9223372036854775807 := rfl
  exact wrap64s (by omega) (by omega)
set_option maxHeartbeats 16000000 in
theorem c_Ints_ne {l k : List Int} (h : l.length ≠ k.length) : SC Try.prog 46 [.pv (.sl 1 (ints l)), .pv (.sl 1 (ints k))] (B false) := by
  refine scx_of Try.func46 rfl rfl rfl (Nat.le_of_ble_eq_true rfl) ?_
  have h' : ¬(l.length : Int) = (k.length : Int) := by omega
  repeat' (first
    | exact aw_ret (ret_vals (by simp; exact rfl) (by simp [*]; fail_if_success (show _)))
    | exact aw_ret (ret_vals (by simp; exact rfl) (by simp [*]; omega))
    | refine ar_end rfl ?_
    | refine ar_endD rfl (by kernel_rfl) ?_
    | refine ar_fin rfl ?_
    | refine ar_finD rfl (by kernel_rfl) ?_
    | refine ar_go3 _ rfl (by simp [ints_len, *]; exact ⟨rfl, rfl, rfl⟩) rfl ?_
    | refine aw_sregK 0 [0, 1] ?_
    | refine aw_regK 0 [0, 1] ?_
    | refine aw_sregK 1 [0, 1] ?_
    | refine aw_regK 1 [0, 1] ?_
    | refine aw_sregK 2 [] ?_
    | refine aw_regK 2 [] ?_
    | refine aw_sregK 3 [0, 1] ?_
    | refine aw_regK 3 [0, 1] ?_
    | refine aw_sregK 4 [0, 1, 5] ?_
    | refine aw_regK 4 [0, 1, 5] ?_
    | refine aw_sregK 5 [0, 1, 5] ?_
    | refine aw_regK 5 [0, 1, 5] ?_
    | refine aw_sregKD mixed 6 [0, 1, 5] (by simp; exact rfl) ?_
    | refine aw_regKD mixed 6 [0, 1, 5] (by simp; exact rfl) ?_
    | refine aw_sregK 7 [] ?_
    | refine aw_regK 7 [] ?_
    | refine aw_sregK 8 [] ?_
    | refine aw_regK 8 [] ?_
    | refine aw_sreg ?_
    | refine aw_sregD mixed ?_
    | refine aw_ifT (b := true) rfl rfl ?_
    | refine aw_ifF (b := false) rfl rfl ?_
    | refine aw_ifT rfl (decide_eq_true (by assumption)) ?_
    | refine aw_ifF rfl (decide_eq_false (by assumption)) ?_
    | refine aw_seq ?_
    | refine aw_block ?_
    | refine aw_skip ?_
    | refine aw_region ?_
    | refine aw_region_draw mixed ?_
    | refine aw_exit ?_
    | refine rq_exit ?_
    | refine blockQ_hit ?_
    | refine blockQ_miss (by decide) ?_
    | (refine ar_guard rfl rfl rfl rfl (fun h => ?_) (fun h => ?_) <;> (fail_if_success (cases h; done)) <;> (try simp at h) <;> (try subst h))
    | (refine aw_both rfl (fun h => ?_) (fun h => ?_) <;> (fail_if_success (cases h; done)) <;> (try simp at h) <;> (try subst h)))
set_option maxHeartbeats 16000000 in
theorem c_Ints_eq {l k : List Int} (h : l.length = k.length) (hl : l.length ≤ maxLen) : SC Try.prog 46 [.pv (.sl 1 (ints l)), .pv (.sl 1 (ints k))] (B (decide (l = k))) := by
  refine scx_of Try.func46 rfl rfl rfl (Nat.le_of_ble_eq_true rfl) ?_
  have h' : (l.length : Int) = (k.length : Int) := by omega
  repeat' (first
    | exact aw_ret (ret_vals (by simp; exact rfl) (by simp [*]; fail_if_success (show _)))
    | exact aw_ret (ret_vals (by simp; exact rfl) (by simp [*]; omega))
    | refine ar_end rfl ?_
    | refine ar_endD rfl (by kernel_rfl) ?_
    | refine ar_fin rfl ?_
    | refine ar_finD rfl (by kernel_rfl) ?_
    | refine ar_go3 _ rfl (by simp [ints_len, *]; exact ⟨rfl, rfl, rfl⟩) rfl ?_
    | refine aw_sregK 0 [0, 1] ?_
    | refine aw_regK 0 [0, 1] ?_
    | refine aw_sregK 1 [0, 1] ?_
    | refine aw_regK 1 [0, 1] ?_
    | refine aw_sregK 2 [] ?_
    | refine aw_regK 2 [] ?_
    | refine aw_sregK 3 [0, 1] ?_
    | refine aw_regK 3 [0, 1] ?_
    | refine aw_sregK 4 [0, 1, 5] ?_
    | refine aw_regK 4 [0, 1, 5] ?_
    | refine aw_sregK 5 [0, 1, 5] ?_
    | refine aw_regK 5 [0, 1, 5] ?_
    | refine aw_sregKD mixed 6 [0, 1, 5] (by simp; exact rfl) ?_
    | refine aw_regKD mixed 6 [0, 1, 5] (by simp; exact rfl) ?_
    | refine aw_sregK 7 [] ?_
    | refine aw_regK 7 [] ?_
    | refine aw_sregK 8 [] ?_
    | refine aw_regK 8 [] ?_
    | refine aw_sreg ?_
    | refine aw_sregD mixed ?_
    | refine aw_ifT (b := true) rfl rfl ?_
    | refine aw_ifF (b := false) rfl rfl ?_
    | refine aw_ifT rfl (decide_eq_true (by assumption)) ?_
    | refine aw_ifF rfl (decide_eq_false (by assumption)) ?_
    | refine aw_seq ?_
    | refine aw_block ?_
    | refine aw_skip ?_
    | refine aw_region ?_
    | refine aw_region_draw mixed ?_
    | refine aw_exit ?_
    | refine rq_exit ?_
    | refine blockQ_hit ?_
    | refine blockQ_miss (by decide) ?_
    | (refine ar_guard rfl rfl rfl rfl (fun h => ?_) (fun h => ?_) <;> (fail_if_success (cases h; done)) <;> (try simp at h) <;> (try subst h))
    | (refine aw_both rfl (fun h => ?_) (fun h => ?_) <;> (fail_if_success (cases h; done)) <;> (try simp at h) <;> (try subst h)))
  refine aw_loopK [0, 1, 5] (by simp; exact rfl) (ι := {i : Nat // i ≤ l.length ∧ l.take i = k.take i}) (fun i => ⟨26, [(0, .pv (.sl 1 (ints l))), (1, .pv (.sl 1 (ints k))), (5, I .i64 i.1)], []⟩) (fun i => l.length - i.1) ⟨0, by simp⟩ (by simp) ?_
  rintro ⟨i, hi, hp⟩
  by_cases hlt : i < l.length
  · have hlt2 : i < k.length := by omega
    have hw := wrap_succ hlt hl
    have hc : (i : Int) < (k.length : Int) := by omega
    repeat' (first
      | refine ar_end rfl ?_
      | refine ar_endD rfl (by kernel_rfl) ?_
      | refine ar_fin rfl ?_
      | refine ar_finD rfl (by kernel_rfl) ?_
      | exact aw_ret (ret_vals (by simp; exact rfl) (by simp; intro e; subst e; contradiction))
      | refine lq_norm [0, 1, 5] (by simp; exact rfl) ⟨i + 1, by omega, by rw [List.take_add_one, List.take_add_one, hp, List.getElem?_eq_getElem hlt, List.getElem?_eq_getElem hlt2]; simp only [h]⟩ (by dsimp only; omega) (by simp)
      | refine ar_go3 _ rfl (by simp [ints_len, ints_getE, *]; exact ⟨rfl, rfl, rfl⟩) rfl ?_
      | refine aw_sregK 0 [0, 1] ?_
      | refine aw_regK 0 [0, 1] ?_
      | refine aw_sregK 1 [0, 1] ?_
      | refine aw_regK 1 [0, 1] ?_
      | refine aw_sregK 2 [] ?_
      | refine aw_regK 2 [] ?_
      | refine aw_sregK 3 [0, 1] ?_
      | refine aw_regK 3 [0, 1] ?_
      | refine aw_sregK 4 [0, 1, 5] ?_
      | refine aw_regK 4 [0, 1, 5] ?_
      | refine aw_sregK 5 [0, 1, 5] ?_
      | refine aw_regK 5 [0, 1, 5] ?_
      | refine aw_sregKD mixed 6 [0, 1, 5] (by simp; exact rfl) ?_
      | refine aw_regKD mixed 6 [0, 1, 5] (by simp; exact rfl) ?_
      | refine aw_sregK 7 [] ?_
      | refine aw_regK 7 [] ?_
      | refine aw_sregK 8 [] ?_
      | refine aw_regK 8 [] ?_
      | refine aw_sreg ?_
      | refine aw_sregD mixed ?_
      | refine aw_ifT (b := true) rfl rfl ?_
      | refine aw_ifF (b := false) rfl rfl ?_
      | refine aw_ifT rfl (decide_eq_true (by assumption)) ?_
      | refine aw_ifF rfl (decide_eq_false (by assumption)) ?_
      | refine aw_seq ?_
      | refine aw_block ?_
      | refine aw_skip ?_
      | refine aw_region ?_
      | refine aw_region_draw mixed ?_
      | refine aw_exit ?_
      | refine rq_exit ?_
      | refine blockQ_hit ?_
      | refine blockQ_miss (by decide) ?_
      | (refine ar_guard rfl rfl rfl rfl (fun h => ?_) (fun h => ?_) <;> (fail_if_success (cases h; done)) <;> (try simp at h) <;> (try subst h))
      | (refine aw_both rfl (fun h => ?_) (fun h => ?_) <;> (fail_if_success (cases h; done)) <;> (try simp at h) <;> (try subst h)))
  · have hc : ¬(i : Int) < (k.length : Int) := by omega
    have e1 : l = k := by
      have h1 := List.take_of_length_le (l := l) (i := i) (by omega)
      have h2 := List.take_of_length_le (l := k) (i := i) (by omega)
      rw [← h1, ← h2, hp]
    repeat' (first
      | exact aw_ret (ret_vals (by simp; exact rfl) (by simp [e1]; fail_if_success (show _)))
      | exact aw_ret (ret_vals (by simp; exact rfl) (by simp [e1]; omega))
      | refine ar_end rfl ?_
      | refine ar_endD rfl (by kernel_rfl) ?_
      | refine ar_fin rfl ?_
      | refine ar_finD rfl (by kernel_rfl) ?_
      | refine lq_exit ?_
      | refine ar_go3 _ rfl (by simp [ints_len, *]; exact ⟨rfl, rfl, rfl⟩) rfl ?_
      | refine aw_sregK 0 [0, 1] ?_
      | refine aw_regK 0 [0, 1] ?_
      | refine aw_sregK 1 [0, 1] ?_
      | refine aw_regK 1 [0, 1] ?_
      | refine aw_sregK 2 [] ?_
      | refine aw_regK 2 [] ?_
      | refine aw_sregK 3 [0, 1] ?_
      | refine aw_regK 3 [0, 1] ?_
      | refine aw_sregK 4 [0, 1, 5] ?_
      | refine aw_regK 4 [0, 1, 5] ?_
      | refine aw_sregK 5 [0, 1, 5] ?_
      | refine aw_regK 5 [0, 1, 5] ?_
      | refine aw_sregKD mixed 6 [0, 1, 5] (by simp; exact rfl) ?_
      | refine aw_regKD mixed 6 [0, 1, 5] (by simp; exact rfl) ?_
      | refine aw_sregK 7 [] ?_
      | refine aw_regK 7 [] ?_
      | refine aw_sregK 8 [] ?_
      | refine aw_regK 8 [] ?_
      | refine aw_sreg ?_
      | refine aw_sregD mixed ?_
      | refine aw_ifT (b := true) rfl rfl ?_
      | refine aw_ifF (b := false) rfl rfl ?_
      | refine aw_ifT rfl (decide_eq_true (by assumption)) ?_
      | refine aw_ifF rfl (decide_eq_false (by assumption)) ?_
      | refine aw_seq ?_
      | refine aw_block ?_
      | refine aw_skip ?_
      | refine aw_region ?_
      | refine aw_region_draw mixed ?_
      | refine aw_exit ?_
      | refine rq_exit ?_
      | refine blockQ_hit ?_
      | refine blockQ_miss (by decide) ?_
      | (refine ar_guard rfl rfl rfl rfl (fun h => ?_) (fun h => ?_) <;> (fail_if_success (cases h; done)) <;> (try simp at h) <;> (try subst h))
      | (refine aw_both rfl (fun h => ?_) (fun h => ?_) <;> (fail_if_success (cases h; done)) <;> (try simp at h) <;> (try subst h)))
end Go.Eng
