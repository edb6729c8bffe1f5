import Derived.Test.YtclegllogeanlaaCohJ
import Derived.Test.YtclegllogeanlaaCohG
set_option linter.unusedSimpArgs false
set_option linter.unusedVariables false
set_option linter.constructorNameAsVariable false
set_option autoImplicit false
namespace Go.Eng
open Go Go.RowKit Go.Proofs
theorem any_up {α : Type} (q : α → Bool) (A : List α) : ∃ lb : Nat → Bool, lb 0 = false ∧ (∀ j, (hj : j < A.length) → lb (j + 1) = (lb j || q A[j])) ∧ lb A.length = A.any q := by
  refine ⟨fun j => (A.take j).any q, by simp, fun j hj => ?_, by show (A.take A.length).any q = _; rw [List.take_length]⟩
  show (A.take (j + 1)).any q = ((A.take j).any q || q A[j])
  rw [List.take_add_one, List.getElem?_eq_getElem hj, List.any_append]; simp
theorem manyUp_pos (es : List Ev) : ∀ i, 0 < manyUp es i
  | 0 => Nat.one_pos
  | i + 1 => by
    rw [manyUp]
    refine Nat.mul_pos (manyUp_pos es i) ?_
    cases h : es[i]? with
    | none => exact Nat.one_pos
    | some x =>
      show 0 < if x.k = 2 then cntAt es x.l i + 1 else 1
      split
      · exact Nat.succ_pos _
      · exact Nat.one_pos
set_option maxHeartbeats 16000000 in
theorem law_CoherUnlike {l : List Ev} {w : Nat} (hll : l.length ≤ maxLen) (hw : w ≤ 255) : SC Try.prog 5 [.pv (.sl 7 (evsL l)), I .u8 w] (B true) := by
  have hml : maxLen = 9223372036854775807 := rfl
  refine scx_of Try.func5 rfl rfl rfl (Nat.le_of_ble_eq_true rfl) ?_
  repeat' (first
    | refine ar_end rfl ?_
    | refine ar_endD rfl (by kernel_rfl) ?_
    | refine ar_fin rfl ?_
    | refine ar_finD rfl (by kernel_rfl) ?_
    | refine ar_callV Try.call23 c_shown12 rfl rfl rfl rfl rfl (by simp; done) (by rfl) (by simp; done) ?_
    | refine ar_callV_if Try.call23 c_shown12 rfl rfl rfl rfl rfl rfl (by simp; done) rfl (by rfl) (by simp; done) ?_
    | refine ar_go3 _ rfl (by simp [evsL_len, evsL_getE, evL, prs_len, prs_getE]; exact ⟨rfl, rfl, rfl⟩) rfl ?_
    | refine aw_sregK 0 [0, 1] ?_
    | refine aw_regK 0 [0, 1] ?_
    | refine aw_sregK 1 [0, 1] ?_
    | refine aw_regK 1 [0, 1] ?_
    | refine aw_sregK 2 [0, 1, 5] ?_
    | refine aw_regK 2 [0, 1, 5] ?_
    | refine aw_sregK 3 [0, 1, 5, 6] ?_
    | refine aw_regK 3 [0, 1, 5, 6] ?_
    | refine aw_sreg ?_
    | refine aw_sregD mixed ?_
    | refine aw_ifT (b := true) rfl rfl ?_
    | refine aw_ifF (b := false) rfl rfl ?_
    | refine aw_ifT rfl (by assumption) ?_
    | refine aw_ifF rfl (by assumption) ?_
    | refine aw_ifT rfl (decide_eq_true (by assumption)) ?_
    | refine aw_ifF rfl (decide_eq_false (by assumption)) ?_
    | refine aw_seq ?_
    | refine aw_block ?_
    | refine aw_skip ?_
    | refine aw_region ?_
    | refine aw_region_draw mixed ?_
    | refine aw_exit ?_
    | refine rq_exit ?_
    | refine blockQ_hit ?_
    | refine blockQ_miss (by decide) ?_
    | (refine ar_guard rfl rfl rfl rfl (fun h => ?_) (fun h => ?_) <;> (fail_if_success (cases h; done)) <;> (try simp at h) <;> (try subst h))
    | (refine aw_both rfl (fun h => ?_) (fun h => ?_) <;> (fail_if_success (cases h; done)) <;> (try simp at h) <;> (try subst h)))
  refine aw_loopN [0, 1, 5, 6, 7] [] (by simp; exact rfl) (ι := {i : Nat // i ≤ l.length}) (fun i => ⟨131, [(0, .pv (.sl 7 (evsL l))), (1, I .u8 w), (5, B true), (6, I .i64 (fewN (l.take i.1))), (7, I .i64 i.1)], []⟩) (fun i => l.length - i.1) ⟨0, by omega⟩ (by simp [fewN]) ?_
  rintro ⟨i, hi⟩
  by_cases hlt : i < l.length
  · have hw1 : IntKind.wrap .i64 ((i : Int) + 1) = (i : Int) + 1 := wrap64s (by omega) (by omega)
    have hd : (i : Int) < (l.length : Int) := by omega
    have hs := fewN_succ hlt
    have hle := fewN_le (l.take i)
    rw [List.length_take] at hle
    generalize hx : l[i] = x at hs
    generalize fewN (l.take i) = F at *
    by_cases hk : x.k = 2
    · rw [if_pos hk] at hs
      have hw2 : IntKind.wrap .i64 ((F : Int) + 1) = (F : Int) + 1 := wrap64s (by omega) (by omega)
      repeat' (first
        | refine ar_end rfl ?_
        | refine ar_endD rfl (by kernel_rfl) ?_
        | refine ar_fin rfl ?_
        | refine ar_finD rfl (by kernel_rfl) ?_
        | refine bq_norm ?_
        | refine lq_normN [0, 1, 5, 6, 7] [] (by simp; exact rfl) ⟨i + 1, by omega⟩ (by dsimp only; omega) (by simp [hs])
        | refine ar_go3 _ rfl (by simp [evsL_len, evsL_getE, evL, prs_len, prs_getE, hlt, hd, hx, hk, hw1, hw2]; exact ⟨rfl, rfl, rfl⟩) rfl ?_
        | refine aw_sregK 4 [0, 1, 5, 6, 7] ?_
        | refine aw_regK 4 [0, 1, 5, 6, 7] ?_
        | refine aw_sregK 5 [0, 1, 5, 6, 7] ?_
        | refine aw_regK 5 [0, 1, 5, 6, 7] ?_
        | refine aw_sregK 6 [0, 1, 5, 6, 7] ?_
        | refine aw_regK 6 [0, 1, 5, 6, 7] ?_
        | refine aw_sregK 7 [0, 1, 5, 6, 7] ?_
        | refine aw_regK 7 [0, 1, 5, 6, 7] ?_
        | refine aw_sreg ?_
        | refine aw_sregD mixed ?_
        | refine aw_ifT (b := true) rfl rfl ?_
        | refine aw_ifF (b := false) rfl rfl ?_
        | refine aw_ifT rfl (by assumption) ?_
        | refine aw_ifF rfl (by assumption) ?_
        | refine aw_ifT rfl (decide_eq_true (by assumption)) ?_
        | refine aw_ifF rfl (decide_eq_false (by assumption)) ?_
        | refine aw_seq ?_
        | refine aw_block ?_
        | refine aw_skip ?_
        | refine aw_region ?_
        | refine aw_region_draw mixed ?_
        | refine aw_exit ?_
        | refine rq_exit ?_
        | refine blockQ_hit ?_
        | refine blockQ_miss (by decide) ?_
        | (refine ar_guard rfl rfl rfl rfl (fun h => ?_) (fun h => ?_) <;> (fail_if_success (cases h; done)) <;> (try simp at h) <;> (try subst h))
        | (refine aw_both rfl (fun h => ?_) (fun h => ?_) <;> (fail_if_success (cases h; done)) <;> (try simp at h) <;> (try subst h)))
    · rw [if_neg hk] at hs
      repeat' (first
        | refine ar_end rfl ?_
        | refine ar_endD rfl (by kernel_rfl) ?_
        | refine ar_fin rfl ?_
        | refine ar_finD rfl (by kernel_rfl) ?_
        | refine bq_norm ?_
        | refine lq_normN [0, 1, 5, 6, 7] [] (by simp; exact rfl) ⟨i + 1, by omega⟩ (by dsimp only; omega) (by simp [hs])
        | refine ar_go3 _ rfl (by simp [evsL_len, evsL_getE, evL, prs_len, prs_getE, hlt, hd, hx, hk, hw1]; exact ⟨rfl, rfl, rfl⟩) rfl ?_
        | refine aw_sregK 4 [0, 1, 5, 6, 7] ?_
        | refine aw_regK 4 [0, 1, 5, 6, 7] ?_
        | refine aw_sregK 5 [0, 1, 5, 6, 7] ?_
        | refine aw_regK 5 [0, 1, 5, 6, 7] ?_
        | refine aw_sregK 6 [0, 1, 5, 6, 7] ?_
        | refine aw_regK 6 [0, 1, 5, 6, 7] ?_
        | refine aw_sregK 7 [0, 1, 5, 6, 7] ?_
        | refine aw_regK 7 [0, 1, 5, 6, 7] ?_
        | refine aw_sreg ?_
        | refine aw_sregD mixed ?_
        | refine aw_ifT (b := true) rfl rfl ?_
        | refine aw_ifF (b := false) rfl rfl ?_
        | refine aw_ifT rfl (by assumption) ?_
        | refine aw_ifF rfl (by assumption) ?_
        | refine aw_ifT rfl (decide_eq_true (by assumption)) ?_
        | refine aw_ifF rfl (decide_eq_false (by assumption)) ?_
        | refine aw_seq ?_
        | refine aw_block ?_
        | refine aw_skip ?_
        | refine aw_region ?_
        | refine aw_region_draw mixed ?_
        | refine aw_exit ?_
        | refine rq_exit ?_
        | refine blockQ_hit ?_
        | refine blockQ_miss (by decide) ?_
        | (refine ar_guard rfl rfl rfl rfl (fun h => ?_) (fun h => ?_) <;> (fail_if_success (cases h; done)) <;> (try simp at h) <;> (try subst h))
        | (refine aw_both rfl (fun h => ?_) (fun h => ?_) <;> (fail_if_success (cases h; done)) <;> (try simp at h) <;> (try subst h)))
  have hd : ¬(i : Int) < (l.length : Int) := by omega
  have hie : l.take i = l := List.take_of_length_le (by omega)
  simp only [hie]
  by_cases h24 : l.length ≤ 24
  rotate_left
  · have h24' : (24 : Int) < (l.length : Int) := by omega
    repeat' (first
      | exact aw_ret (ret_vals (by simp; exact rfl) (by simp [*]; fail_if_success (show _)))
      | exact aw_ret (ret_vals (by simp; exact rfl) (by simp [*]; omega))
      | refine ar_end rfl ?_
      | refine ar_endD rfl (by kernel_rfl) ?_
      | refine ar_fin rfl ?_
      | refine ar_finD rfl (by kernel_rfl) ?_
      | refine lq_exit ?_
      | refine ar_go3 _ rfl (by simp [evsL_len, evsL_getE, evL, prs_len, prs_getE, hd, h24']; exact ⟨rfl, rfl, rfl⟩) rfl ?_
      | refine aw_sregK 4 [0, 1, 5, 6, 7] ?_
      | refine aw_regK 4 [0, 1, 5, 6, 7] ?_
      | refine aw_sregK 8 [0, 1, 5, 6] ?_
      | refine aw_regK 8 [0, 1, 5, 6] ?_
      | refine aw_sregK 9 [5] ?_
      | refine aw_regK 9 [5] ?_
      | refine aw_sreg ?_
      | refine aw_sregD mixed ?_
      | refine aw_ifT (b := true) rfl rfl ?_
      | refine aw_ifF (b := false) rfl rfl ?_
      | refine aw_ifT rfl (by assumption) ?_
      | refine aw_ifF rfl (by assumption) ?_
      | refine aw_ifT rfl (decide_eq_true (by assumption)) ?_
      | refine aw_ifF rfl (decide_eq_false (by assumption)) ?_
      | refine aw_seq ?_
      | refine aw_block ?_
      | refine aw_skip ?_
      | refine aw_region ?_
      | refine aw_region_draw mixed ?_
      | refine aw_exit ?_
      | refine rq_exit ?_
      | refine blockQ_hit ?_
      | refine blockQ_miss (by decide) ?_
      | (refine ar_guard rfl rfl rfl rfl (fun h => ?_) (fun h => ?_) <;> (fail_if_success (cases h; done)) <;> (try simp at h) <;> (try subst h))
      | (refine aw_both rfl (fun h => ?_) (fun h => ?_) <;> (fail_if_success (cases h; done)) <;> (try simp at h) <;> (try subst h)))
  have h24' : ¬(24 : Int) < (l.length : Int) := by omega
  by_cases h5 : fewN l ≤ 5
  rotate_left
  · have h5' : (5 : Int) < (fewN l : Int) := by omega
    repeat' (first
      | exact aw_ret (ret_vals (by simp; exact rfl) (by simp [*]; fail_if_success (show _)))
      | exact aw_ret (ret_vals (by simp; exact rfl) (by simp [*]; omega))
      | refine ar_end rfl ?_
      | refine ar_endD rfl (by kernel_rfl) ?_
      | refine ar_fin rfl ?_
      | refine ar_finD rfl (by kernel_rfl) ?_
      | refine lq_exit ?_
      | refine ar_go3 _ rfl (by simp [evsL_len, evsL_getE, evL, prs_len, prs_getE, hd, h24', h5']; exact ⟨rfl, rfl, rfl⟩) rfl ?_
      | refine aw_sregK 4 [0, 1, 5, 6, 7] ?_
      | refine aw_regK 4 [0, 1, 5, 6, 7] ?_
      | refine aw_sregK 8 [0, 1, 5, 6] ?_
      | refine aw_regK 8 [0, 1, 5, 6] ?_
      | refine aw_sregK 9 [5] ?_
      | refine aw_regK 9 [5] ?_
      | refine aw_sreg ?_
      | refine aw_sregD mixed ?_
      | refine aw_ifT (b := true) rfl rfl ?_
      | refine aw_ifF (b := false) rfl rfl ?_
      | refine aw_ifT rfl (by assumption) ?_
      | refine aw_ifF rfl (by assumption) ?_
      | refine aw_ifT rfl (decide_eq_true (by assumption)) ?_
      | refine aw_ifF rfl (decide_eq_false (by assumption)) ?_
      | refine aw_seq ?_
      | refine aw_block ?_
      | refine aw_skip ?_
      | refine aw_region ?_
      | refine aw_region_draw mixed ?_
      | refine aw_exit ?_
      | refine rq_exit ?_
      | refine blockQ_hit ?_
      | refine blockQ_miss (by decide) ?_
      | (refine ar_guard rfl rfl rfl rfl (fun h => ?_) (fun h => ?_) <;> (fail_if_success (cases h; done)) <;> (try simp at h) <;> (try subst h))
      | (refine aw_both rfl (fun h => ?_) (fun h => ?_) <;> (fail_if_success (cases h; done)) <;> (try simp at h) <;> (try subst h)))
  have h5' : ¬(5 : Int) < (fewN l : Int) := by omega
  by_cases h0 : l.length = 0
  · have h0' : (l.length : Int) = 0 := by omega
    repeat' (first
      | exact aw_ret (ret_vals (by simp; exact rfl) (by simp [*]; fail_if_success (show _)))
      | exact aw_ret (ret_vals (by simp; exact rfl) (by simp [*]; omega))
      | refine ar_end rfl ?_
      | refine ar_endD rfl (by kernel_rfl) ?_
      | refine ar_fin rfl ?_
      | refine ar_finD rfl (by kernel_rfl) ?_
      | refine lq_exit ?_
      | refine ar_go3 _ rfl (by simp [evsL_len, evsL_getE, evL, prs_len, prs_getE, hd, h24', h5', h0, h0']; exact ⟨rfl, rfl, rfl⟩) rfl ?_
      | refine aw_sregK 4 [0, 1, 5, 6, 7] ?_
      | refine aw_regK 4 [0, 1, 5, 6, 7] ?_
      | refine aw_sregK 8 [0, 1, 5, 6] ?_
      | refine aw_regK 8 [0, 1, 5, 6] ?_
      | refine aw_sregK 9 [5] ?_
      | refine aw_regK 9 [5] ?_
      | refine aw_sreg ?_
      | refine aw_sregD mixed ?_
      | refine aw_ifT (b := true) rfl rfl ?_
      | refine aw_ifF (b := false) rfl rfl ?_
      | refine aw_ifT rfl (by assumption) ?_
      | refine aw_ifF rfl (by assumption) ?_
      | refine aw_ifT rfl (decide_eq_true (by assumption)) ?_
      | refine aw_ifF rfl (decide_eq_false (by assumption)) ?_
      | refine aw_seq ?_
      | refine aw_block ?_
      | refine aw_skip ?_
      | refine aw_region ?_
      | refine aw_region_draw mixed ?_
      | refine aw_exit ?_
      | refine rq_exit ?_
      | refine blockQ_hit ?_
      | refine blockQ_miss (by decide) ?_
      | (refine ar_guard rfl rfl rfl rfl (fun h => ?_) (fun h => ?_) <;> (fail_if_success (cases h; done)) <;> (try simp at h) <;> (try subst h))
      | (refine aw_both rfl (fun h => ?_) (fun h => ?_) <;> (fail_if_success (cases h; done)) <;> (try simp at h) <;> (try subst h)))
  have h0' : ¬(l.length : Int) = 0 := by omega
  have hM := c_made12 (es := l)
  have hA := c_allFew (es := l) h24 (by omega)
  have hle := allR_le (es := l) (by omega)
  have hrk : ∀ co ∈ allR l, ∃ f, Rank l co f := fun co h => allR_rank (by omega) h
  have hun : ∀ i, (hi : i < (allR l).length) → ∀ k, (hk : k < i) → sameR (allR l)[i] ((allR l)[k]'(Nat.lt_trans hk hi)) = false := fun i hi k hk => all_unlike (es := l) (i := i) (k := k) (by omega) hi hk
  have h6 : ∀ p, (writesF l p).length ≤ 6 := fun p => by
    have h1 := writes_cntAt l p
    have h2 := cntAt_few (es := l) (p := p) (i := l.length) (Nat.le_refl _)
    rw [List.take_length] at h2
    omega
  have hmany := all_many (es := l) fun a ha hk => h6 _
  have hpos := manyUp_pos l l.length
  rw [← hmany] at hpos
  have hend := fun x hx hk b => all_ends (es := l) (by omega) (fun p _ => h6 p) (x := x) hx hk b
  clear hmany h6
  generalize allR l = A at *
  repeat' (first
    | refine ar_end rfl ?_
    | refine ar_endD rfl (by kernel_rfl) ?_
    | refine ar_fin rfl ?_
    | refine ar_finD rfl (by kernel_rfl) ?_
    | refine ar_callV Try.call25 hM rfl rfl rfl rfl rfl (by simp; done) (by rfl) (by simp; done) ?_
    | refine ar_callV_if Try.call25 hM rfl rfl rfl rfl rfl rfl (by simp; done) rfl (by rfl) (by simp; done) ?_
    | refine ar_callV Try.call26 hA rfl rfl rfl rfl rfl (by simp; done) (by rfl) (by simp; done) ?_
    | refine ar_callV_if Try.call26 hA rfl rfl rfl rfl rfl rfl (by simp; done) rfl (by rfl) (by simp; done) ?_
    | refine lq_exit ?_
    | refine ar_go3 _ rfl (by simp [evsL_len, evsL_getE, evL, prs_len, prs_getE, rlsL_len, rlsL_getE, exL, hd, h24', h5', h0, h0']; exact ⟨rfl, rfl, rfl⟩) rfl ?_
    | refine aw_sregK 4 [0, 1, 5, 6, 7] ?_
    | refine aw_regK 4 [0, 1, 5, 6, 7] ?_
    | refine aw_sregK 8 [0, 1, 5, 6] ?_
    | refine aw_regK 8 [0, 1, 5, 6] ?_
    | refine aw_sregK 10 [0, 1, 5] ?_
    | refine aw_regK 10 [0, 1, 5] ?_
    | refine aw_sregK 11 [0, 1, 5, 8] ?_
    | refine aw_regK 11 [0, 1, 5, 8] ?_
    | refine aw_sregK 12 [0, 1, 5, 8, 9] ?_
    | refine aw_regK 12 [0, 1, 5, 8, 9] ?_
    | refine aw_sreg ?_
    | refine aw_sregD mixed ?_
    | refine aw_ifT (b := true) rfl rfl ?_
    | refine aw_ifF (b := false) rfl rfl ?_
    | refine aw_ifT rfl (by assumption) ?_
    | refine aw_ifF rfl (by assumption) ?_
    | refine aw_ifT rfl (decide_eq_true (by assumption)) ?_
    | refine aw_ifF rfl (decide_eq_false (by assumption)) ?_
    | refine aw_seq ?_
    | refine aw_block ?_
    | refine aw_skip ?_
    | refine aw_region ?_
    | refine aw_region_draw mixed ?_
    | refine aw_exit ?_
    | refine rq_exit ?_
    | refine blockQ_hit ?_
    | refine blockQ_miss (by decide) ?_
    | (refine ar_guard rfl rfl rfl rfl (fun h => ?_) (fun h => ?_) <;> (fail_if_success (cases h; done)) <;> (try simp at h) <;> (try subst h))
    | (refine aw_both rfl (fun h => ?_) (fun h => ?_) <;> (fail_if_success (cases h; done)) <;> (try simp at h) <;> (try subst h)))
  refine aw_loopN [0, 1, 5, 8, 9, 10] [.loc 8] (by simp; exact rfl) (ι := {i : Nat // i ≤ A.length}) (fun i => ⟨131, [(0, .pv (.sl 7 (evsL l))), (1, I .u8 w), (5, B true), (8, .ptr (.loc 8) 0), (9, .pv (.sl 1 (rlsL A))), (10, I .i64 i.1)], [(.loc 8, some (.box 28 [.pv (.sl 7 (evsL l)), .pv (.v (.slice none 0 0)), .pv (.v (.slice none 0 0)), .pv (.v (.slice none 0 0)), .pv (.v (.slice none 0 0)), .pv (.v (.slice none 0 0)), .pv (.v (.slice none 0 0))]))]⟩) (fun i => A.length - i.1) ⟨0, by omega⟩ (by simp) ?_
  rintro ⟨i, hi2⟩
  by_cases hiA : i < A.length
  · have hw1 : IntKind.wrap .i64 ((i : Int) + 1) = (i : Int) + 1 := wrap64s (by omega) (by omega)
    have hd1 : (i : Int) < (A.length : Int) := by omega
    have hun1 := hun i hiA
    repeat' (first
      | refine ar_end rfl ?_
      | refine ar_endD rfl (by kernel_rfl) ?_
      | refine ar_fin rfl ?_
      | refine ar_finD rfl (by kernel_rfl) ?_
      | refine ar_go3 _ rfl (by simp [evsL_len, evsL_getE, evL, prs_len, prs_getE, rlsL_len, rlsL_getE, hd1]; exact ⟨rfl, rfl, rfl⟩) rfl ?_
      | refine aw_sregK 13 [0, 1, 5, 8, 9, 10] ?_
      | refine aw_regK 13 [0, 1, 5, 8, 9, 10] ?_
      | refine aw_sregK 15 [0, 1, 5, 8, 9, 10] ?_
      | refine aw_regK 15 [0, 1, 5, 8, 9, 10] ?_
      | refine aw_sreg ?_
      | refine aw_sregD mixed ?_
      | refine aw_ifT (b := true) rfl rfl ?_
      | refine aw_ifF (b := false) rfl rfl ?_
      | refine aw_ifT rfl (by assumption) ?_
      | refine aw_ifF rfl (by assumption) ?_
      | refine aw_ifT rfl (decide_eq_true (by assumption)) ?_
      | refine aw_ifF rfl (decide_eq_false (by assumption)) ?_
      | refine aw_seq ?_
      | refine aw_block ?_
      | refine aw_skip ?_
      | refine aw_region ?_
      | refine aw_region_draw mixed ?_
      | refine aw_exit ?_
      | refine rq_exit ?_
      | refine blockQ_hit ?_
      | refine blockQ_miss (by decide) ?_
      | (refine ar_guard rfl rfl rfl rfl (fun h => ?_) (fun h => ?_) <;> (fail_if_success (cases h; done)) <;> (try simp at h) <;> (try subst h))
      | (refine aw_both rfl (fun h => ?_) (fun h => ?_) <;> (fail_if_success (cases h; done)) <;> (try simp at h) <;> (try subst h)))
    refine aw_loopN [0, 1, 5, 8, 9, 10, 11] [.loc 8] (by simp; exact rfl) (ι := {j : Nat // j ≤ i}) (fun j => ⟨131, [(0, .pv (.sl 7 (evsL l))), (1, I .u8 w), (5, B true), (8, .ptr (.loc 8) 0), (9, .pv (.sl 1 (rlsL A))), (10, I .i64 i), (11, I .i64 j.1)], [(.loc 8, some (.box 28 [.pv (.sl 7 (evsL l)), .pv (.v (.slice none 0 0)), .pv (.v (.slice none 0 0)), .pv (.v (.slice none 0 0)), .pv (.v (.slice none 0 0)), .pv (.v (.slice none 0 0)), .pv (.v (.slice none 0 0))]))]⟩) (fun j => i - j.1) ⟨0, by omega⟩ (by simp) ?_
    rintro ⟨j, hj⟩
    by_cases hji : j < i
    · have hw2 : IntKind.wrap .i64 ((j : Int) + 1) = (j : Int) + 1 := wrap64s (by omega) (by omega)
      have hd2 : (j : Int) < (i : Int) := by omega
      have hjA : j < A.length := by omega
      have hs := hun1 j hji
      obtain ⟨f1, hR1⟩ := hrk A[i] (List.getElem_mem hiA)
      obtain ⟨f2, hR2⟩ := hrk A[j] (List.getElem_mem hjA)
      generalize hc1 : A[i] = c1 at *
      generalize hc2 : A[j] = c2 at *
      have hS := c_same (a := c1) (b := c2) (by rw [hR1.cl.len]; omega) (by rw [hR2.cl.len]; omega)
      rw [hs] at hS
      repeat' (first
        | refine ar_end rfl ?_
        | refine ar_endD rfl (by kernel_rfl) ?_
        | refine ar_fin rfl ?_
        | refine ar_finD rfl (by kernel_rfl) ?_
        | refine ar_callV Try.call21 hS rfl rfl rfl rfl rfl (by simp; done) (by rfl) (by simp; done) ?_
        | refine ar_callV_if Try.call21 hS rfl rfl rfl rfl rfl rfl (by simp; done) rfl (by rfl) (by simp; done) ?_
        | refine bq_norm ?_
        | refine lq_normN [0, 1, 5, 8, 9, 10, 11] [.loc 8] (by simp; exact rfl) ⟨j + 1, by omega⟩ (by dsimp only; omega) (by simp [hd2])
        | refine ar_go3 _ rfl (by simp [evsL_len, evsL_getE, evL, prs_len, prs_getE, rlsL_len, rlsL_getE, hd2, hiA, hjA, hc1, hc2, hw2]; exact ⟨rfl, rfl, rfl⟩) rfl ?_
        | refine aw_sregK 16 [0, 1, 5, 8, 9, 10, 11] ?_
        | refine aw_regK 16 [0, 1, 5, 8, 9, 10, 11] ?_
        | refine aw_sregK 17 [0, 1, 5, 8, 9, 10, 11] ?_
        | refine aw_regK 17 [0, 1, 5, 8, 9, 10, 11] ?_
        | refine aw_sregKD mixed 18 [0, 1, 5, 8, 9, 10, 11] (by simp; exact rfl) ?_
        | refine aw_regKD mixed 18 [0, 1, 5, 8, 9, 10, 11] (by simp; exact rfl) ?_
        | refine aw_sreg ?_
        | refine aw_sregD mixed ?_
        | refine aw_ifT (b := true) rfl rfl ?_
        | refine aw_ifF (b := false) rfl rfl ?_
        | refine aw_ifT rfl (by assumption) ?_
        | refine aw_ifF rfl (by assumption) ?_
        | refine aw_ifT rfl (decide_eq_true (by assumption)) ?_
        | refine aw_ifF rfl (decide_eq_false (by assumption)) ?_
        | refine aw_seq ?_
        | refine aw_block ?_
        | refine aw_skip ?_
        | refine aw_region ?_
        | refine aw_region_draw mixed ?_
        | refine aw_exit ?_
        | refine rq_exit ?_
        | refine blockQ_hit ?_
        | refine blockQ_miss (by decide) ?_
        | (refine ar_guard rfl rfl rfl rfl (fun h => ?_) (fun h => ?_) <;> (fail_if_success (cases h; done)) <;> (try simp at h) <;> (try subst h))
        | (refine aw_both rfl (fun h => ?_) (fun h => ?_) <;> (fail_if_success (cases h; done)) <;> (try simp at h) <;> (try subst h)))
    · have hd2 : ¬(j : Int) < (i : Int) := by omega
      repeat' (first
        | refine ar_end rfl ?_
        | refine ar_endD rfl (by kernel_rfl) ?_
        | refine ar_fin rfl ?_
        | refine ar_finD rfl (by kernel_rfl) ?_
        | refine lq_exit ?_
        | refine bq_norm ?_
        | refine lq_normN [0, 1, 5, 8, 9, 10] [.loc 8] (by simp; exact rfl) ⟨i + 1, by omega⟩ (by dsimp only; omega) (by simp [hd2])
        | refine ar_go3 _ rfl (by simp [evsL_len, evsL_getE, evL, prs_len, prs_getE, rlsL_len, rlsL_getE, hd2, hw1]; exact ⟨rfl, rfl, rfl⟩) rfl ?_
        | refine aw_sregK 14 [0, 1, 5, 8, 9, 10] ?_
        | refine aw_regK 14 [0, 1, 5, 8, 9, 10] ?_
        | refine aw_sregK 16 [0, 1, 5, 8, 9, 10, 11] ?_
        | refine aw_regK 16 [0, 1, 5, 8, 9, 10, 11] ?_
        | refine aw_sreg ?_
        | refine aw_sregD mixed ?_
        | refine aw_ifT (b := true) rfl rfl ?_
        | refine aw_ifF (b := false) rfl rfl ?_
        | refine aw_ifT rfl (by assumption) ?_
        | refine aw_ifF rfl (by assumption) ?_
        | refine aw_ifT rfl (decide_eq_true (by assumption)) ?_
        | refine aw_ifF rfl (decide_eq_false (by assumption)) ?_
        | refine aw_seq ?_
        | refine aw_block ?_
        | refine aw_skip ?_
        | refine aw_region ?_
        | refine aw_region_draw mixed ?_
        | refine aw_exit ?_
        | refine rq_exit ?_
        | refine blockQ_hit ?_
        | refine blockQ_miss (by decide) ?_
        | (refine ar_guard rfl rfl rfl rfl (fun h => ?_) (fun h => ?_) <;> (fail_if_success (cases h; done)) <;> (try simp at h) <;> (try subst h))
        | (refine aw_both rfl (fun h => ?_) (fun h => ?_) <;> (fail_if_success (cases h; done)) <;> (try simp at h) <;> (try subst h)))
  have hd1 : ¬(i : Int) < (A.length : Int) := by omega
  have hwk : IntKind.wrap .i64 (w : Int) = (w : Int) := wrap64s (by omega) (by omega)
  have htk : (w : Int).tmod (l.length : Int) = ((w % l.length : Nat) : Int) := rfl
  have hlk : w % l.length < l.length := Nat.mod_lt _ (by omega)
  generalize w % l.length = x at *
  by_cases hk : l[x].k = 2
  rotate_left
  · have hp1 : (1 : Int) ≤ (A.length : Int) := by omega
    generalize hxe : l[x] = xe at *
    repeat' (first
      | exact aw_ret (ret_vals (by simp; exact rfl) (by simp [*]; fail_if_success (show _)))
      | exact aw_ret (ret_vals (by simp; exact rfl) (by simp [*]; omega))
      | refine ar_end rfl ?_
      | refine ar_endD rfl (by kernel_rfl) ?_
      | refine ar_fin rfl ?_
      | refine ar_finD rfl (by kernel_rfl) ?_
      | refine lq_exit ?_
      | refine ar_go3 _ rfl (by simp [evsL_len, evsL_getE, evL, prs_len, prs_getE, rlsL_len, rlsL_getE, hd1, hwk, htk, hlk, hxe, hk, h0, h0', hp1]; exact ⟨rfl, rfl, rfl⟩) rfl ?_
      | refine aw_sregK 13 [0, 1, 5, 8, 9, 10] ?_
      | refine aw_regK 13 [0, 1, 5, 8, 9, 10] ?_
      | refine aw_sregK 20 [0, 1, 5, 8, 9] ?_
      | refine aw_regK 20 [0, 1, 5, 8, 9] ?_
      | refine aw_sregK 21 [0, 5, 8, 9, 12] ?_
      | refine aw_regK 21 [0, 5, 8, 9, 12] ?_
      | refine aw_sregK 22 [5, 9] ?_
      | refine aw_regK 22 [5, 9] ?_
      | refine aw_sreg ?_
      | refine aw_sregD mixed ?_
      | refine aw_ifT (b := true) rfl rfl ?_
      | refine aw_ifF (b := false) rfl rfl ?_
      | refine aw_ifT rfl (by assumption) ?_
      | refine aw_ifF rfl (by assumption) ?_
      | refine aw_ifT rfl (decide_eq_true (by assumption)) ?_
      | refine aw_ifF rfl (decide_eq_false (by assumption)) ?_
      | refine aw_seq ?_
      | refine aw_block ?_
      | refine aw_skip ?_
      | refine aw_region ?_
      | refine aw_region_draw mixed ?_
      | refine aw_exit ?_
      | refine rq_exit ?_
      | refine blockQ_hit ?_
      | refine blockQ_miss (by decide) ?_
      | (refine ar_guard rfl rfl rfl rfl (fun h => ?_) (fun h => ?_) <;> (fail_if_success (cases h; done)) <;> (try simp at h) <;> (try subst h))
      | (refine aw_both rfl (fun h => ?_) (fun h => ?_) <;> (fail_if_success (cases h; done)) <;> (try simp at h) <;> (try subst h)))
  obtain ⟨ca, hca, hla⟩ := hend x hlk hk false
  obtain ⟨cb, hcb, hlb⟩ := hend x hlk hk true
  simp only [Bool.false_eq_true, if_false] at hla
  simp only [if_true] at hlb
  generalize hxe : l[x] = xe at *
  obtain ⟨q1, hq1, hs1, he1⟩ := any_up (fun co => decide (lastF l co xe.l = (x : Int))) A
  obtain ⟨q2, hq2, hs2, he2⟩ := any_up (fun co => decide (lastF l (invR co) xe.l = (x : Int))) A
  have ht1 : q1 A.length = true := by rw [he1, List.any_eq_true]; exact ⟨ca, hca, decide_eq_true hla⟩
  have ht2 : q2 A.length = true := by rw [he2, List.any_eq_true]; exact ⟨cb, hcb, decide_eq_true hlb⟩
  clear he1 he2 hla hlb hca hcb
  repeat' (first
    | refine ar_end rfl ?_
    | refine ar_endD rfl (by kernel_rfl) ?_
    | refine ar_fin rfl ?_
    | refine ar_finD rfl (by kernel_rfl) ?_
    | refine lq_exit ?_
    | refine ar_go3 _ rfl (by simp [evsL_len, evsL_getE, evL, prs_len, prs_getE, rlsL_len, rlsL_getE, hd1, hwk, htk, hlk, hxe, hk, h0, h0']; exact ⟨rfl, rfl, rfl⟩) rfl ?_
    | refine aw_sregK 13 [0, 1, 5, 8, 9, 10] ?_
    | refine aw_regK 13 [0, 1, 5, 8, 9, 10] ?_
    | refine aw_sregK 20 [0, 1, 5, 8, 9] ?_
    | refine aw_regK 20 [0, 1, 5, 8, 9] ?_
    | refine aw_sregK 21 [0, 5, 8, 9, 12] ?_
    | refine aw_regK 21 [0, 5, 8, 9, 12] ?_
    | refine aw_sregK 23 [0, 5, 8, 9, 12] ?_
    | refine aw_regK 23 [0, 5, 8, 9, 12] ?_
    | refine aw_sregK 24 [0, 5, 8, 9, 12, 13] ?_
    | refine aw_regK 24 [0, 5, 8, 9, 12, 13] ?_
    | refine aw_sregK 25 [0, 5, 8, 9, 12, 13, 14] ?_
    | refine aw_regK 25 [0, 5, 8, 9, 12, 13, 14] ?_
    | refine aw_sreg ?_
    | refine aw_sregD mixed ?_
    | refine aw_ifT (b := true) rfl rfl ?_
    | refine aw_ifF (b := false) rfl rfl ?_
    | refine aw_ifT rfl (by assumption) ?_
    | refine aw_ifF rfl (by assumption) ?_
    | refine aw_ifT rfl (decide_eq_true (by assumption)) ?_
    | refine aw_ifF rfl (decide_eq_false (by assumption)) ?_
    | refine aw_seq ?_
    | refine aw_block ?_
    | refine aw_skip ?_
    | refine aw_region ?_
    | refine aw_region_draw mixed ?_
    | refine aw_exit ?_
    | refine rq_exit ?_
    | refine blockQ_hit ?_
    | refine blockQ_miss (by decide) ?_
    | (refine ar_guard rfl rfl rfl rfl (fun h => ?_) (fun h => ?_) <;> (fail_if_success (cases h; done)) <;> (try simp at h) <;> (try subst h))
    | (refine aw_both rfl (fun h => ?_) (fun h => ?_) <;> (fail_if_success (cases h; done)) <;> (try simp at h) <;> (try subst h)))
  refine aw_loopN [0, 5, 8, 9, 12, 13, 14, 15] [.loc 8] (by simp; exact rfl) (ι := {j : Nat // j ≤ A.length}) (fun j => ⟨131, [(0, .pv (.sl 7 (evsL l))), (5, B true), (8, .ptr (.loc 8) 0), (9, .pv (.sl 1 (rlsL A))), (12, I .i64 x), (13, B (q1 j.1)), (14, B (q2 j.1)), (15, I .i64 j.1)], [(.loc 8, some (.box 28 [.pv (.sl 7 (evsL l)), .pv (.v (.slice none 0 0)), .pv (.v (.slice none 0 0)), .pv (.v (.slice none 0 0)), .pv (.v (.slice none 0 0)), .pv (.v (.slice none 0 0)), .pv (.v (.slice none 0 0))]))]⟩) (fun j => A.length - j.1) ⟨0, by omega⟩ (by simp [hq1, hq2]) ?_
  rintro ⟨j, hj⟩
  by_cases hjl : j < A.length
  · have hw2 : IntKind.wrap .i64 ((j : Int) + 1) = (j : Int) + 1 := wrap64s (by omega) (by omega)
    have hd2 : (j : Int) < (A.length : Int) := by omega
    have hn1 := hs1 j hjl
    have hn2 := hs2 j hjl
    obtain ⟨f, hR⟩ := hrk A[j] (List.getElem_mem hjl)
    generalize hco : A[j] = co at *
    have hL1 := c_last (es := l) (co := co) (loc := xe.l) (by omega)
    have hIn := c_invV (a := co) (by rw [hR.cl.len]; omega)
    have hL2 := c_last (es := l) (co := invR co) (loc := xe.l) (by omega)
    generalize invR co = ci at *
    generalize lastF l co xe.l = L1 at *
    generalize lastF l ci xe.l = L2 at *
    clear hs1 hs2 hR
    cases hb1 : q1 j
    · rw [hb1, Bool.false_or] at hn1
      cases hb2 : q2 j
      · rw [hb2, Bool.false_or] at hn2
        repeat' (first
          | refine ar_end rfl ?_
          | refine ar_endD rfl (by kernel_rfl) ?_
          | refine ar_fin rfl ?_
          | refine ar_finD rfl (by kernel_rfl) ?_
          | refine ar_callV Try.call30 hL1 rfl rfl rfl rfl rfl (by simp; done) (by rfl) (by simp; done) ?_
          | refine ar_callV_if Try.call30 hL1 rfl rfl rfl rfl rfl rfl (by simp; done) rfl (by rfl) (by simp; done) ?_
          | refine ar_callV Try.call30 hL2 rfl rfl rfl rfl rfl (by simp; done) (by rfl) (by simp; done) ?_
          | refine ar_callV_if Try.call30 hL2 rfl rfl rfl rfl rfl rfl (by simp; done) rfl (by rfl) (by simp; done) ?_
          | refine ar_callV Try.call22 hIn rfl rfl rfl rfl rfl (by simp; done) (by rfl) (by simp; done) ?_
          | refine ar_callV_if Try.call22 hIn rfl rfl rfl rfl rfl rfl (by simp; done) rfl (by rfl) (by simp; done) ?_
          | refine bq_norm ?_
          | refine lq_normN [0, 5, 8, 9, 12, 13, 14, 15] [.loc 8] (by simp; exact rfl) ⟨j + 1, by omega⟩ (by dsimp only; omega) (by simp [hn1, hn2])
          | refine ar_go3 _ rfl (by simp [evsL_len, evsL_getE, evL, prs_len, prs_getE, rlsL_len, rlsL_getE, exL, hjl, hd2, hco, hlk, hxe, hw2, hb1, hb2]; exact ⟨rfl, rfl, rfl⟩) rfl ?_
          | refine aw_sregK 26 [0, 5, 8, 9, 12, 13, 14, 15] ?_
          | refine aw_regK 26 [0, 5, 8, 9, 12, 13, 14, 15] ?_
          | refine aw_sregK 27 [0, 5, 8, 9, 12, 13, 14, 15] ?_
          | refine aw_regK 27 [0, 5, 8, 9, 12, 13, 14, 15] ?_
          | refine aw_sregKD mixed 28 [0, 5, 8, 9, 12, 13, 14, 15] (by simp; exact rfl) ?_
          | refine aw_regKD mixed 28 [0, 5, 8, 9, 12, 13, 14, 15] (by simp; exact rfl) ?_
          | refine aw_sregKD mixed 29 [0, 5, 8, 9, 12, 13, 14, 15] (by simp; exact rfl) ?_
          | refine aw_regKD mixed 29 [0, 5, 8, 9, 12, 13, 14, 15] (by simp; exact rfl) ?_
          | refine aw_sreg ?_
          | refine aw_sregD mixed ?_
          | refine aw_ifT (b := true) rfl rfl ?_
          | refine aw_ifF (b := false) rfl rfl ?_
          | refine aw_ifT rfl (by assumption) ?_
          | refine aw_ifF rfl (by assumption) ?_
          | refine aw_ifT rfl (decide_eq_true (by assumption)) ?_
          | refine aw_ifF rfl (decide_eq_false (by assumption)) ?_
          | refine aw_seq ?_
          | refine aw_block ?_
          | refine aw_skip ?_
          | refine aw_region ?_
          | refine aw_region_draw mixed ?_
          | refine aw_exit ?_
          | refine rq_exit ?_
          | refine blockQ_hit ?_
          | refine blockQ_miss (by decide) ?_
          | (refine ar_guard rfl rfl rfl rfl (fun h => ?_) (fun h => ?_) <;> (fail_if_success (cases h; done)) <;> (try simp at h) <;> (try subst h))
          | (refine aw_both rfl (fun h => ?_) (fun h => ?_) <;> (fail_if_success (cases h; done)) <;> (try simp at h) <;> (try subst h)))
      · rw [hb2, Bool.true_or] at hn2
        repeat' (first
          | refine ar_end rfl ?_
          | refine ar_endD rfl (by kernel_rfl) ?_
          | refine ar_fin rfl ?_
          | refine ar_finD rfl (by kernel_rfl) ?_
          | refine ar_callV Try.call30 hL1 rfl rfl rfl rfl rfl (by simp; done) (by rfl) (by simp; done) ?_
          | refine ar_callV_if Try.call30 hL1 rfl rfl rfl rfl rfl rfl (by simp; done) rfl (by rfl) (by simp; done) ?_
          | refine ar_callV Try.call30 hL2 rfl rfl rfl rfl rfl (by simp; done) (by rfl) (by simp; done) ?_
          | refine ar_callV_if Try.call30 hL2 rfl rfl rfl rfl rfl rfl (by simp; done) rfl (by rfl) (by simp; done) ?_
          | refine ar_callV Try.call22 hIn rfl rfl rfl rfl rfl (by simp; done) (by rfl) (by simp; done) ?_
          | refine ar_callV_if Try.call22 hIn rfl rfl rfl rfl rfl rfl (by simp; done) rfl (by rfl) (by simp; done) ?_
          | refine bq_norm ?_
          | refine lq_normN [0, 5, 8, 9, 12, 13, 14, 15] [.loc 8] (by simp; exact rfl) ⟨j + 1, by omega⟩ (by dsimp only; omega) (by simp [hn1, hn2])
          | refine ar_go3 _ rfl (by simp [evsL_len, evsL_getE, evL, prs_len, prs_getE, rlsL_len, rlsL_getE, exL, hjl, hd2, hco, hlk, hxe, hw2, hb1, hb2]; exact ⟨rfl, rfl, rfl⟩) rfl ?_
          | refine aw_sregK 26 [0, 5, 8, 9, 12, 13, 14, 15] ?_
          | refine aw_regK 26 [0, 5, 8, 9, 12, 13, 14, 15] ?_
          | refine aw_sregK 27 [0, 5, 8, 9, 12, 13, 14, 15] ?_
          | refine aw_regK 27 [0, 5, 8, 9, 12, 13, 14, 15] ?_
          | refine aw_sregKD mixed 28 [0, 5, 8, 9, 12, 13, 14, 15] (by simp; exact rfl) ?_
          | refine aw_regKD mixed 28 [0, 5, 8, 9, 12, 13, 14, 15] (by simp; exact rfl) ?_
          | refine aw_sregKD mixed 29 [0, 5, 8, 9, 12, 13, 14, 15] (by simp; exact rfl) ?_
          | refine aw_regKD mixed 29 [0, 5, 8, 9, 12, 13, 14, 15] (by simp; exact rfl) ?_
          | refine aw_sreg ?_
          | refine aw_sregD mixed ?_
          | refine aw_ifT (b := true) rfl rfl ?_
          | refine aw_ifF (b := false) rfl rfl ?_
          | refine aw_ifT rfl (by assumption) ?_
          | refine aw_ifF rfl (by assumption) ?_
          | refine aw_ifT rfl (decide_eq_true (by assumption)) ?_
          | refine aw_ifF rfl (decide_eq_false (by assumption)) ?_
          | refine aw_seq ?_
          | refine aw_block ?_
          | refine aw_skip ?_
          | refine aw_region ?_
          | refine aw_region_draw mixed ?_
          | refine aw_exit ?_
          | refine rq_exit ?_
          | refine blockQ_hit ?_
          | refine blockQ_miss (by decide) ?_
          | (refine ar_guard rfl rfl rfl rfl (fun h => ?_) (fun h => ?_) <;> (fail_if_success (cases h; done)) <;> (try simp at h) <;> (try subst h))
          | (refine aw_both rfl (fun h => ?_) (fun h => ?_) <;> (fail_if_success (cases h; done)) <;> (try simp at h) <;> (try subst h)))
    · rw [hb1, Bool.true_or] at hn1
      cases hb2 : q2 j
      · rw [hb2, Bool.false_or] at hn2
        repeat' (first
          | refine ar_end rfl ?_
          | refine ar_endD rfl (by kernel_rfl) ?_
          | refine ar_fin rfl ?_
          | refine ar_finD rfl (by kernel_rfl) ?_
          | refine ar_callV Try.call30 hL1 rfl rfl rfl rfl rfl (by simp; done) (by rfl) (by simp; done) ?_
          | refine ar_callV_if Try.call30 hL1 rfl rfl rfl rfl rfl rfl (by simp; done) rfl (by rfl) (by simp; done) ?_
          | refine ar_callV Try.call30 hL2 rfl rfl rfl rfl rfl (by simp; done) (by rfl) (by simp; done) ?_
          | refine ar_callV_if Try.call30 hL2 rfl rfl rfl rfl rfl rfl (by simp; done) rfl (by rfl) (by simp; done) ?_
          | refine ar_callV Try.call22 hIn rfl rfl rfl rfl rfl (by simp; done) (by rfl) (by simp; done) ?_
          | refine ar_callV_if Try.call22 hIn rfl rfl rfl rfl rfl rfl (by simp; done) rfl (by rfl) (by simp; done) ?_
          | refine bq_norm ?_
          | refine lq_normN [0, 5, 8, 9, 12, 13, 14, 15] [.loc 8] (by simp; exact rfl) ⟨j + 1, by omega⟩ (by dsimp only; omega) (by simp [hn1, hn2])
          | refine ar_go3 _ rfl (by simp [evsL_len, evsL_getE, evL, prs_len, prs_getE, rlsL_len, rlsL_getE, exL, hjl, hd2, hco, hlk, hxe, hw2, hb1, hb2]; exact ⟨rfl, rfl, rfl⟩) rfl ?_
          | refine aw_sregK 26 [0, 5, 8, 9, 12, 13, 14, 15] ?_
          | refine aw_regK 26 [0, 5, 8, 9, 12, 13, 14, 15] ?_
          | refine aw_sregK 27 [0, 5, 8, 9, 12, 13, 14, 15] ?_
          | refine aw_regK 27 [0, 5, 8, 9, 12, 13, 14, 15] ?_
          | refine aw_sregKD mixed 28 [0, 5, 8, 9, 12, 13, 14, 15] (by simp; exact rfl) ?_
          | refine aw_regKD mixed 28 [0, 5, 8, 9, 12, 13, 14, 15] (by simp; exact rfl) ?_
          | refine aw_sregKD mixed 29 [0, 5, 8, 9, 12, 13, 14, 15] (by simp; exact rfl) ?_
          | refine aw_regKD mixed 29 [0, 5, 8, 9, 12, 13, 14, 15] (by simp; exact rfl) ?_
          | refine aw_sreg ?_
          | refine aw_sregD mixed ?_
          | refine aw_ifT (b := true) rfl rfl ?_
          | refine aw_ifF (b := false) rfl rfl ?_
          | refine aw_ifT rfl (by assumption) ?_
          | refine aw_ifF rfl (by assumption) ?_
          | refine aw_ifT rfl (decide_eq_true (by assumption)) ?_
          | refine aw_ifF rfl (decide_eq_false (by assumption)) ?_
          | refine aw_seq ?_
          | refine aw_block ?_
          | refine aw_skip ?_
          | refine aw_region ?_
          | refine aw_region_draw mixed ?_
          | refine aw_exit ?_
          | refine rq_exit ?_
          | refine blockQ_hit ?_
          | refine blockQ_miss (by decide) ?_
          | (refine ar_guard rfl rfl rfl rfl (fun h => ?_) (fun h => ?_) <;> (fail_if_success (cases h; done)) <;> (try simp at h) <;> (try subst h))
          | (refine aw_both rfl (fun h => ?_) (fun h => ?_) <;> (fail_if_success (cases h; done)) <;> (try simp at h) <;> (try subst h)))
      · rw [hb2, Bool.true_or] at hn2
        repeat' (first
          | refine ar_end rfl ?_
          | refine ar_endD rfl (by kernel_rfl) ?_
          | refine ar_fin rfl ?_
          | refine ar_finD rfl (by kernel_rfl) ?_
          | refine ar_callV Try.call30 hL1 rfl rfl rfl rfl rfl (by simp; done) (by rfl) (by simp; done) ?_
          | refine ar_callV_if Try.call30 hL1 rfl rfl rfl rfl rfl rfl (by simp; done) rfl (by rfl) (by simp; done) ?_
          | refine ar_callV Try.call30 hL2 rfl rfl rfl rfl rfl (by simp; done) (by rfl) (by simp; done) ?_
          | refine ar_callV_if Try.call30 hL2 rfl rfl rfl rfl rfl rfl (by simp; done) rfl (by rfl) (by simp; done) ?_
          | refine ar_callV Try.call22 hIn rfl rfl rfl rfl rfl (by simp; done) (by rfl) (by simp; done) ?_
          | refine ar_callV_if Try.call22 hIn rfl rfl rfl rfl rfl rfl (by simp; done) rfl (by rfl) (by simp; done) ?_
          | refine bq_norm ?_
          | refine lq_normN [0, 5, 8, 9, 12, 13, 14, 15] [.loc 8] (by simp; exact rfl) ⟨j + 1, by omega⟩ (by dsimp only; omega) (by simp [hn1, hn2])
          | refine ar_go3 _ rfl (by simp [evsL_len, evsL_getE, evL, prs_len, prs_getE, rlsL_len, rlsL_getE, exL, hjl, hd2, hco, hlk, hxe, hw2, hb1, hb2]; exact ⟨rfl, rfl, rfl⟩) rfl ?_
          | refine aw_sregK 26 [0, 5, 8, 9, 12, 13, 14, 15] ?_
          | refine aw_regK 26 [0, 5, 8, 9, 12, 13, 14, 15] ?_
          | refine aw_sregK 27 [0, 5, 8, 9, 12, 13, 14, 15] ?_
          | refine aw_regK 27 [0, 5, 8, 9, 12, 13, 14, 15] ?_
          | refine aw_sregKD mixed 28 [0, 5, 8, 9, 12, 13, 14, 15] (by simp; exact rfl) ?_
          | refine aw_regKD mixed 28 [0, 5, 8, 9, 12, 13, 14, 15] (by simp; exact rfl) ?_
          | refine aw_sregKD mixed 29 [0, 5, 8, 9, 12, 13, 14, 15] (by simp; exact rfl) ?_
          | refine aw_regKD mixed 29 [0, 5, 8, 9, 12, 13, 14, 15] (by simp; exact rfl) ?_
          | refine aw_sreg ?_
          | refine aw_sregD mixed ?_
          | refine aw_ifT (b := true) rfl rfl ?_
          | refine aw_ifF (b := false) rfl rfl ?_
          | refine aw_ifT rfl (by assumption) ?_
          | refine aw_ifF rfl (by assumption) ?_
          | refine aw_ifT rfl (decide_eq_true (by assumption)) ?_
          | refine aw_ifF rfl (decide_eq_false (by assumption)) ?_
          | refine aw_seq ?_
          | refine aw_block ?_
          | refine aw_skip ?_
          | refine aw_region ?_
          | refine aw_region_draw mixed ?_
          | refine aw_exit ?_
          | refine rq_exit ?_
          | refine blockQ_hit ?_
          | refine blockQ_miss (by decide) ?_
          | (refine ar_guard rfl rfl rfl rfl (fun h => ?_) (fun h => ?_) <;> (fail_if_success (cases h; done)) <;> (try simp at h) <;> (try subst h))
          | (refine aw_both rfl (fun h => ?_) (fun h => ?_) <;> (fail_if_success (cases h; done)) <;> (try simp at h) <;> (try subst h)))
  · have hd2 : ¬(j : Int) < (A.length : Int) := by omega
    have hje : j = A.length := by omega
    subst hje
    repeat' (first
      | exact aw_ret (ret_vals (by simp; exact rfl) (by simp [*]; fail_if_success (show _)))
      | exact aw_ret (ret_vals (by simp; exact rfl) (by simp [*]; omega))
      | refine ar_end rfl ?_
      | refine ar_endD rfl (by kernel_rfl) ?_
      | refine ar_fin rfl ?_
      | refine ar_finD rfl (by kernel_rfl) ?_
      | refine lq_exit ?_
      | refine ar_go3 _ rfl (by simp [evsL_len, evsL_getE, evL, prs_len, prs_getE, rlsL_len, rlsL_getE, hd2, ht1, ht2]; exact ⟨rfl, rfl, rfl⟩) rfl ?_
      | refine aw_sregK 26 [0, 5, 8, 9, 12, 13, 14, 15] ?_
      | refine aw_regK 26 [0, 5, 8, 9, 12, 13, 14, 15] ?_
      | refine aw_sregK 30 [5, 13, 14] ?_
      | refine aw_regK 30 [5, 13, 14] ?_
      | refine aw_sreg ?_
      | refine aw_sregD mixed ?_
      | refine aw_ifT (b := true) rfl rfl ?_
      | refine aw_ifF (b := false) rfl rfl ?_
      | refine aw_ifT rfl (by assumption) ?_
      | refine aw_ifF rfl (by assumption) ?_
      | refine aw_ifT rfl (decide_eq_true (by assumption)) ?_
      | refine aw_ifF rfl (decide_eq_false (by assumption)) ?_
      | refine aw_seq ?_
      | refine aw_block ?_
      | refine aw_skip ?_
      | refine aw_region ?_
      | refine aw_region_draw mixed ?_
      | refine aw_exit ?_
      | refine rq_exit ?_
      | refine blockQ_hit ?_
      | refine blockQ_miss (by decide) ?_
      | (refine ar_guard rfl rfl rfl rfl (fun h => ?_) (fun h => ?_) <;> (fail_if_success (cases h; done)) <;> (try simp at h) <;> (try subst h))
      | (refine aw_both rfl (fun h => ?_) (fun h => ?_) <;> (fail_if_success (cases h; done)) <;> (try simp at h) <;> (try subst h)))
end Go.Eng
