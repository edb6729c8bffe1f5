import Derived.Test.YtjijfghchcnbnaaDoorCondSetsWalk
import Derived.Test.YtjijfghchcnbnaaDoorEngE
set_option linter.unusedSimpArgs false
set_option linter.unusedVariables false
set_option linter.constructorNameAsVariable false
set_option autoImplicit false
namespace Go.Eng
open Go Go.RowKit Go.Proofs
theorem sc_nil2 [Trk] {P : Program} {f : FuncId} {a : AV} {es : Nat} {res : AV} (h : SC P f [a, .pv (.sl es [])] res) : SC P f [a, .pv (.v (.slice none 0 0))] res := by
  intro Γ ρ w vals hw hX hargs
  refine h Γ ρ w vals hw hX ?_
  obtain ⟨v, vs, e1, h1, v2, vs2, e2, h2, h3⟩ := hargs
  exact ⟨v, vs, e1, h1, v2, vs2, e2, ⟨none, 0, [], h2.1, Nat.le_refl _, Nat.zero_le _, rfl, .inl rfl⟩, h3⟩
theorem ver_set [Trk] (c : Co) (l : List Ou) : verF c (setO l) = verF c l := by
  unfold verF
  congr 1
  rw [Bool.eq_iff_iff, List.any_eq_true, List.any_eq_true]
  simp only [setO_mem]
theorem any_ne [Trk] (f : Ou → Bool) : ∀ l : List Ou, ((l.any fun o => f o != true) != true) = l.all f
  | [] => rfl
  | x :: l => by
    have h := any_ne f l
    simp only [List.any_cons, List.all_cons]
    rw [← h]
    cases f x <;> cases (l.any fun o => f o != true) <;> rfl
theorem any_ne' [Trk] (f : Ou → Bool) (l : List Ou) : ((l.any fun o => f o != false) != false) = l.any f := by
  have : (fun o => f o != false) = f := by funext o; cases f o <;> rfl
  rw [this]; cases l.any f <;> rfl
set_option maxHeartbeats 16000000 in
theorem law_CondVerdicts [Trk] {c : Co} {l : List Ou} (hT : ¬Trk.on) (hSet : SetSaid) (hc : CoOk c) (hl : l.length ≤ maxLen) (ho : ∀ o ∈ l, OuOk o) : SC Tryd.prog 7 [.agg (coC c), .pv (.sl 2 (ousL l))] (B true) := by
  have hM : maxLen = 9223372036854775807 := rfl
  have hS := c_shown4 hT
  cases hf : fewB c with
  | false =>
    have hF := c_few' hf hc.len
    refine scx_of Tryd.func7 rfl rfl rfl (Nat.le_of_ble_eq_true rfl) ?_
    repeat' (first
      | exact aw_ret (ret_vals (by simp; exact rfl) (by simp [*]; fail_if_success (show _)))
      | exact aw_ret (ret_vals (by simp; exact rfl) (by simp [*]; omega))
      | refine ar_end rfl ?_
      | refine ar_endD rfl (by kernel_rfl) ?_
      | refine ar_fin rfl ?_
      | refine ar_finD rfl (by kernel_rfl) ?_
      | refine ar_callV Tryd.call9 hS rfl rfl rfl rfl rfl (by simp; done) (by rfl) (by simp; done) ?_
      | refine ar_callV_if Tryd.call9 hS rfl rfl rfl rfl rfl rfl (by simp; done) rfl (by rfl) (by simp; done) ?_
      | refine ar_callV Tryd.call10 hF rfl rfl rfl rfl rfl (by simp; done) (by rfl) (by simp; done) ?_
      | refine ar_callV_if Tryd.call10 hF rfl rfl rfl rfl rfl rfl (by simp; done) rfl (by rfl) (by simp; done) ?_
      | refine ar_go3 _ rfl (by simp [ints_len, ints_getE, rgL_len, rgL_getE, atsL_len, atsL_getE, cosL_len, cosL_getE, ousL_len, ousL_getE, atC, ouC, coC]; exact ⟨rfl, rfl, rfl⟩) rfl ?_
      | refine aw_sregK 0 [0, 1] ?_
      | refine aw_regK 0 [0, 1] ?_
      | refine aw_sregK 1 [1, 2] ?_
      | refine aw_regK 1 [1, 2] ?_
      | refine aw_sregK 2 [1, 2, 5] ?_
      | refine aw_regK 2 [1, 2, 5] ?_
      | refine aw_sregK 3 [5] ?_
      | refine aw_regK 3 [5] ?_
      | refine aw_sreg ?_
      | refine aw_sregD mixed ?_
      | refine aw_ifT (b := true) rfl rfl ?_
      | refine aw_ifF (b := false) rfl rfl ?_
      | refine aw_ifT rfl (by assumption) ?_
      | refine aw_ifF rfl (by assumption) ?_
      | refine aw_ifT rfl (decide_eq_true (by assumption)) ?_
      | refine aw_ifF rfl (decide_eq_false (by assumption)) ?_
      | refine aw_seq ?_
      | refine aw_block ?_
      | refine aw_skip ?_
      | refine aw_region ?_
      | refine aw_region_draw mixed ?_
      | refine aw_exit ?_
      | refine rq_exit ?_
      | refine blockQ_hit ?_
      | refine blockQ_miss (by decide) ?_)
  | true =>
  have hF := c_few' hf hc.len
  by_cases h50 : (50 : Int) < (l.length : Int)
  · refine scx_of Tryd.func7 rfl rfl rfl (Nat.le_of_ble_eq_true rfl) ?_
    repeat' (first
      | exact aw_ret (ret_vals (by simp; exact rfl) (by simp [*]; fail_if_success (show _)))
      | exact aw_ret (ret_vals (by simp; exact rfl) (by simp [*]; omega))
      | refine ar_end rfl ?_
      | refine ar_endD rfl (by kernel_rfl) ?_
      | refine ar_fin rfl ?_
      | refine ar_finD rfl (by kernel_rfl) ?_
      | refine ar_callV Tryd.call9 hS rfl rfl rfl rfl rfl (by simp; done) (by rfl) (by simp; done) ?_
      | refine ar_callV_if Tryd.call9 hS rfl rfl rfl rfl rfl rfl (by simp; done) rfl (by rfl) (by simp; done) ?_
      | refine ar_callV Tryd.call10 hF rfl rfl rfl rfl rfl (by simp; done) (by rfl) (by simp; done) ?_
      | refine ar_callV_if Tryd.call10 hF rfl rfl rfl rfl rfl rfl (by simp; done) rfl (by rfl) (by simp; done) ?_
      | refine ar_go3 _ rfl (by simp [ints_len, ints_getE, rgL_len, rgL_getE, atsL_len, atsL_getE, cosL_len, cosL_getE, ousL_len, ousL_getE, atC, ouC, coC, h50]; exact ⟨rfl, rfl, rfl⟩) rfl ?_
      | refine aw_sregK 0 [0, 1] ?_
      | refine aw_regK 0 [0, 1] ?_
      | refine aw_sregK 1 [1, 2] ?_
      | refine aw_regK 1 [1, 2] ?_
      | refine aw_sregK 2 [1, 2, 5] ?_
      | refine aw_regK 2 [1, 2, 5] ?_
      | refine aw_sregK 3 [5] ?_
      | refine aw_regK 3 [5] ?_
      | refine aw_sreg ?_
      | refine aw_sregD mixed ?_
      | refine aw_ifT (b := true) rfl rfl ?_
      | refine aw_ifF (b := false) rfl rfl ?_
      | refine aw_ifT rfl (by assumption) ?_
      | refine aw_ifF rfl (by assumption) ?_
      | refine aw_ifT rfl (decide_eq_true (by assumption)) ?_
      | refine aw_ifF rfl (decide_eq_false (by assumption)) ?_
      | refine aw_seq ?_
      | refine aw_block ?_
      | refine aw_skip ?_
      | refine aw_region ?_
      | refine aw_region_draw mixed ?_
      | refine aw_exit ?_
      | refine rq_exit ?_
      | refine blockQ_hit ?_
      | refine blockQ_miss (by decide) ?_)
  have hM1 := c_made hf
  have hk := ou50 h50 ho
  have h1 := hSet l hk
  have hV := c_Verdict (l := l) hc hl
  have hV2 := c_Verdict (l := setO l) hc (by have := (setO_ok hk).1; omega)
  rw [ver_set] at hV2
  have hV3 := sc_nil2 (c_Verdict (l := []) hc (by simp [hM]))
  have e3 : verF c [] = c.all := by unfold verF; cases c.all <;> rfl
  rw [e3] at hV3
  obtain ⟨all, any⟩ := c
  have hV4 := c_Verdict (c := ⟨!all, any⟩) (l := l) ⟨hc.len, hc.each⟩ hl
  generalize setO l = s at *
  obtain ⟨A, hAd⟩ : ∃ A : Nat → Bool, A = fun i => (l.take i).all (evalF ⟨all, any⟩) := ⟨_, rfl⟩
  obtain ⟨E, hEd⟩ : ∃ E : Nat → Bool, E = fun i => (l.take i).any (evalF ⟨all, any⟩) := ⟨_, rfl⟩
  have hA0 : A 0 = true := by rw [hAd]; rfl
  have hE0 : E 0 = false := by rw [hEd]; rfl
  have hAs : ∀ i, (h : i < l.length) → A (i + 1) = (A i && evalF ⟨all, any⟩ l[i]) := fun i h => by
    rw [hAd]; simp only [List.take_add_one, List.getElem?_eq_getElem h, List.all_append, Option.toList, List.all_cons, List.all_nil, Bool.and_true]
  have hEs : ∀ i, (h : i < l.length) → E (i + 1) = (E i || evalF ⟨all, any⟩ l[i]) := fun i h => by
    rw [hEd]; simp only [List.take_add_one, List.getElem?_eq_getElem h, List.any_append, Option.toList, List.any_cons, List.any_nil, Bool.or_false]
  have hAe : A l.length = l.all (evalF ⟨all, any⟩) := by rw [hAd]; simp only [List.take_length]
  have hEe : E l.length = l.any (evalF ⟨all, any⟩) := by rw [hEd]; simp only [List.take_length]
  have hAE : 0 < l.length → l.all (evalF ⟨all, any⟩) = true → l.any (evalF ⟨all, any⟩) = true := fun h0 h => List.any_eq_true.2 ⟨l[0], List.getElem_mem h0, List.all_eq_true.1 h _ (List.getElem_mem h0)⟩
  have vT : all = true → verF ⟨all, any⟩ l = A l.length := fun h => by
    rw [hAe]; unfold verF; subst h; exact any_ne _ l
  have vF : all = false → verF ⟨all, any⟩ l = E l.length := fun h => by
    rw [hEe]; unfold verF; subst h; exact any_ne' _ l
  have vY : all = true → verF ⟨!all, any⟩ l = E l.length := fun h => by
    rw [hEe]; unfold verF; subst h; exact any_ne' _ l
  rw [← hAe, ← hEe] at hAE
  clear hAd hEd
  refine scx_of Tryd.func7 rfl rfl rfl (Nat.le_of_ble_eq_true rfl) ?_
  repeat' (first
    | refine ar_end rfl ?_
    | refine ar_endD rfl (by kernel_rfl) ?_
    | refine ar_fin rfl ?_
    | refine ar_finD rfl (by kernel_rfl) ?_
    | refine ar_callV Tryd.call9 hS rfl rfl rfl rfl rfl (by simp; done) (by rfl) (by simp; done) ?_
    | refine ar_callV_if Tryd.call9 hS rfl rfl rfl rfl rfl rfl (by simp; done) rfl (by rfl) (by simp; done) ?_
    | refine ar_callV Tryd.call10 hF rfl rfl rfl rfl rfl (by simp; done) (by rfl) (by simp; done) ?_
    | refine ar_callV_if Tryd.call10 hF rfl rfl rfl rfl rfl rfl (by simp; done) rfl (by rfl) (by simp; done) ?_
    | refine ar_callV Tryd.call11 hM1 rfl rfl rfl rfl rfl (by simp; done) (by rfl) (by simp; done) ?_
    | refine ar_callV_if Tryd.call11 hM1 rfl rfl rfl rfl rfl rfl (by simp; done) rfl (by rfl) (by simp; done) ?_
    | refine ar_go3 _ rfl (by simp [ints_len, ints_getE, rgL_len, rgL_getE, atsL_len, atsL_getE, cosL_len, cosL_getE, ousL_len, ousL_getE, atC, ouC, coC, h50]; exact ⟨rfl, rfl, rfl⟩) rfl ?_
    | refine aw_sregK 0 [0, 1] ?_
    | refine aw_regK 0 [0, 1] ?_
    | refine aw_sregK 1 [1, 2] ?_
    | refine aw_regK 1 [1, 2] ?_
    | refine aw_sregK 2 [1, 2, 5] ?_
    | refine aw_regK 2 [1, 2, 5] ?_
    | refine aw_sregK 4 [1, 2, 5] ?_
    | refine aw_regK 4 [1, 2, 5] ?_
    | refine aw_sregK 5 [1, 5, 6] ?_
    | refine aw_regK 5 [1, 5, 6] ?_
    | refine aw_sregK 6 [1, 5, 6, 7] ?_
    | refine aw_regK 6 [1, 5, 6, 7] ?_
    | refine aw_sregK 7 [1, 5, 6, 7] ?_
    | refine aw_regK 7 [1, 5, 6, 7] ?_
    | refine aw_sregK 8 [1, 5, 6, 7, 8] ?_
    | refine aw_regK 8 [1, 5, 6, 7, 8] ?_
    | refine aw_sregK 9 [1, 5, 6, 7, 8, 9] ?_
    | refine aw_regK 9 [1, 5, 6, 7, 8, 9] ?_
    | refine aw_sreg ?_
    | refine aw_sregD mixed ?_
    | refine aw_ifT (b := true) rfl rfl ?_
    | refine aw_ifF (b := false) rfl rfl ?_
    | refine aw_ifT rfl (by assumption) ?_
    | refine aw_ifF rfl (by assumption) ?_
    | refine aw_ifT rfl (decide_eq_true (by assumption)) ?_
    | refine aw_ifF rfl (decide_eq_false (by assumption)) ?_
    | refine aw_seq ?_
    | refine aw_block ?_
    | refine aw_skip ?_
    | refine aw_region ?_
    | refine aw_region_draw mixed ?_
    | refine aw_exit ?_
    | refine rq_exit ?_
    | refine blockQ_hit ?_
    | refine blockQ_miss (by decide) ?_)
  refine aw_loopN [1, 5, 6, 7, 8, 9, 10] [.loc 6, .loc 7] (by simp; exact rfl) (ι := {i : Nat // i ≤ l.length}) (fun i => ⟨98, [(1, .pv (.sl 2 (ousL l))), (5, B true), (6, .ptr (.loc 6) 0), (7, .ptr (.loc 7) 0), (8, B (A i.1)), (9, B (E i.1)), (10, I .i64 i.1)], [(.loc 6, some (.box 36 [.pv (.v (.bool all)), .pv (.sl 1 (cosL any))])), (.loc 7, some (.box 36 [.pv (.v (.bool (!all))), .pv (.sl 1 (cosL any))]))]⟩) (fun i => l.length - i.1) ⟨0, by omega⟩ (by simp [hA0, hE0]) ?_
  rintro ⟨i, hi⟩
  by_cases hlt : i < l.length
  · have hd : (i : Int) < (l.length : Int) := by omega
    have hw : IntKind.wrap .i64 ((i : Int) + 1) = (i : Int) + 1 := wrap64s (by omega) (by omega)
    have hX := c_Eval (o := l[i]) hc
    have hA1 := hAs i hlt
    have hE1 := hEs i hlt
    generalize hx : l[i] = o at *
    generalize evalF ⟨all, any⟩ o = e at *
    generalize A i = p at *
    generalize E i = q at *
    cases p <;> cases q
    ·
      repeat' (first
        | refine ar_end rfl ?_
        | refine ar_endD rfl (by kernel_rfl) ?_
        | refine ar_fin rfl ?_
        | refine ar_finD rfl (by kernel_rfl) ?_
        | refine ar_callV Tryd.call13 hX rfl rfl rfl rfl rfl (by simp; done) (by rfl) (by simp; done) ?_
        | refine ar_callV_if Tryd.call13 hX rfl rfl rfl rfl rfl rfl (by simp; done) rfl (by rfl) (by simp; done) ?_
        | refine bq_norm ?_
        | refine lq_normN [1, 5, 6, 7, 8, 9, 10] [.loc 6, .loc 7] (by simp; exact rfl) ⟨i + 1, by omega⟩ (by dsimp only; omega) (by simp [hA1, hE1])
        | refine ar_go3 _ rfl (by simp [ints_len, ints_getE, rgL_len, rgL_getE, atsL_len, atsL_getE, cosL_len, cosL_getE, ousL_len, ousL_getE, atC, ouC, coC, hd, hlt, hx, hw]; exact ⟨rfl, rfl, rfl⟩) rfl ?_
        | refine aw_sregK 10 [1, 5, 6, 7, 8, 9, 10] ?_
        | refine aw_regK 10 [1, 5, 6, 7, 8, 9, 10] ?_
        | refine aw_sregK 11 [1, 5, 6, 7, 8, 9, 10] ?_
        | refine aw_regK 11 [1, 5, 6, 7, 8, 9, 10] ?_
        | refine aw_sregKD mixed 12 [1, 5, 6, 7, 8, 9, 10] (by simp; exact rfl) ?_
        | refine aw_regKD mixed 12 [1, 5, 6, 7, 8, 9, 10] (by simp; exact rfl) ?_
        | refine aw_sregK 13 [1, 5, 6, 7, 8, 9, 10, 11] ?_
        | refine aw_regK 13 [1, 5, 6, 7, 8, 9, 10, 11] ?_
        | refine aw_sregK 14 [1, 5, 6, 7, 8, 9, 10, 11] ?_
        | refine aw_regK 14 [1, 5, 6, 7, 8, 9, 10, 11] ?_
        | refine aw_sreg ?_
        | refine aw_sregD mixed ?_
        | refine aw_ifT (b := true) rfl rfl ?_
        | refine aw_ifF (b := false) rfl rfl ?_
        | refine aw_ifT rfl (by assumption) ?_
        | refine aw_ifF rfl (by assumption) ?_
        | refine aw_ifT rfl (decide_eq_true (by assumption)) ?_
        | refine aw_ifF rfl (decide_eq_false (by assumption)) ?_
        | refine aw_seq ?_
        | refine aw_block ?_
        | refine aw_skip ?_
        | refine aw_region ?_
        | refine aw_region_draw mixed ?_
        | refine aw_exit ?_
        | refine rq_exit ?_
        | refine blockQ_hit ?_
        | refine blockQ_miss (by decide) ?_)
    ·
      repeat' (first
        | refine ar_end rfl ?_
        | refine ar_endD rfl (by kernel_rfl) ?_
        | refine ar_fin rfl ?_
        | refine ar_finD rfl (by kernel_rfl) ?_
        | refine ar_callV Tryd.call13 hX rfl rfl rfl rfl rfl (by simp; done) (by rfl) (by simp; done) ?_
        | refine ar_callV_if Tryd.call13 hX rfl rfl rfl rfl rfl rfl (by simp; done) rfl (by rfl) (by simp; done) ?_
        | refine bq_norm ?_
        | refine lq_normN [1, 5, 6, 7, 8, 9, 10] [.loc 6, .loc 7] (by simp; exact rfl) ⟨i + 1, by omega⟩ (by dsimp only; omega) (by simp [hA1, hE1])
        | refine ar_go3 _ rfl (by simp [ints_len, ints_getE, rgL_len, rgL_getE, atsL_len, atsL_getE, cosL_len, cosL_getE, ousL_len, ousL_getE, atC, ouC, coC, hd, hlt, hx, hw]; exact ⟨rfl, rfl, rfl⟩) rfl ?_
        | refine aw_sregK 10 [1, 5, 6, 7, 8, 9, 10] ?_
        | refine aw_regK 10 [1, 5, 6, 7, 8, 9, 10] ?_
        | refine aw_sregK 11 [1, 5, 6, 7, 8, 9, 10] ?_
        | refine aw_regK 11 [1, 5, 6, 7, 8, 9, 10] ?_
        | refine aw_sregKD mixed 12 [1, 5, 6, 7, 8, 9, 10] (by simp; exact rfl) ?_
        | refine aw_regKD mixed 12 [1, 5, 6, 7, 8, 9, 10] (by simp; exact rfl) ?_
        | refine aw_sregK 13 [1, 5, 6, 7, 8, 9, 10, 11] ?_
        | refine aw_regK 13 [1, 5, 6, 7, 8, 9, 10, 11] ?_
        | refine aw_sregK 14 [1, 5, 6, 7, 8, 9, 10, 11] ?_
        | refine aw_regK 14 [1, 5, 6, 7, 8, 9, 10, 11] ?_
        | refine aw_sreg ?_
        | refine aw_sregD mixed ?_
        | refine aw_ifT (b := true) rfl rfl ?_
        | refine aw_ifF (b := false) rfl rfl ?_
        | refine aw_ifT rfl (by assumption) ?_
        | refine aw_ifF rfl (by assumption) ?_
        | refine aw_ifT rfl (decide_eq_true (by assumption)) ?_
        | refine aw_ifF rfl (decide_eq_false (by assumption)) ?_
        | refine aw_seq ?_
        | refine aw_block ?_
        | refine aw_skip ?_
        | refine aw_region ?_
        | refine aw_region_draw mixed ?_
        | refine aw_exit ?_
        | refine rq_exit ?_
        | refine blockQ_hit ?_
        | refine blockQ_miss (by decide) ?_)
    ·
      repeat' (first
        | refine ar_end rfl ?_
        | refine ar_endD rfl (by kernel_rfl) ?_
        | refine ar_fin rfl ?_
        | refine ar_finD rfl (by kernel_rfl) ?_
        | refine ar_callV Tryd.call13 hX rfl rfl rfl rfl rfl (by simp; done) (by rfl) (by simp; done) ?_
        | refine ar_callV_if Tryd.call13 hX rfl rfl rfl rfl rfl rfl (by simp; done) rfl (by rfl) (by simp; done) ?_
        | refine bq_norm ?_
        | refine lq_normN [1, 5, 6, 7, 8, 9, 10] [.loc 6, .loc 7] (by simp; exact rfl) ⟨i + 1, by omega⟩ (by dsimp only; omega) (by simp [hA1, hE1])
        | refine ar_go3 _ rfl (by simp [ints_len, ints_getE, rgL_len, rgL_getE, atsL_len, atsL_getE, cosL_len, cosL_getE, ousL_len, ousL_getE, atC, ouC, coC, hd, hlt, hx, hw]; exact ⟨rfl, rfl, rfl⟩) rfl ?_
        | refine aw_sregK 10 [1, 5, 6, 7, 8, 9, 10] ?_
        | refine aw_regK 10 [1, 5, 6, 7, 8, 9, 10] ?_
        | refine aw_sregK 11 [1, 5, 6, 7, 8, 9, 10] ?_
        | refine aw_regK 11 [1, 5, 6, 7, 8, 9, 10] ?_
        | refine aw_sregKD mixed 12 [1, 5, 6, 7, 8, 9, 10] (by simp; exact rfl) ?_
        | refine aw_regKD mixed 12 [1, 5, 6, 7, 8, 9, 10] (by simp; exact rfl) ?_
        | refine aw_sregK 13 [1, 5, 6, 7, 8, 9, 10, 11] ?_
        | refine aw_regK 13 [1, 5, 6, 7, 8, 9, 10, 11] ?_
        | refine aw_sregK 14 [1, 5, 6, 7, 8, 9, 10, 11] ?_
        | refine aw_regK 14 [1, 5, 6, 7, 8, 9, 10, 11] ?_
        | refine aw_sreg ?_
        | refine aw_sregD mixed ?_
        | refine aw_ifT (b := true) rfl rfl ?_
        | refine aw_ifF (b := false) rfl rfl ?_
        | refine aw_ifT rfl (by assumption) ?_
        | refine aw_ifF rfl (by assumption) ?_
        | refine aw_ifT rfl (decide_eq_true (by assumption)) ?_
        | refine aw_ifF rfl (decide_eq_false (by assumption)) ?_
        | refine aw_seq ?_
        | refine aw_block ?_
        | refine aw_skip ?_
        | refine aw_region ?_
        | refine aw_region_draw mixed ?_
        | refine aw_exit ?_
        | refine rq_exit ?_
        | refine blockQ_hit ?_
        | refine blockQ_miss (by decide) ?_)
    ·
      repeat' (first
        | refine ar_end rfl ?_
        | refine ar_endD rfl (by kernel_rfl) ?_
        | refine ar_fin rfl ?_
        | refine ar_finD rfl (by kernel_rfl) ?_
        | refine ar_callV Tryd.call13 hX rfl rfl rfl rfl rfl (by simp; done) (by rfl) (by simp; done) ?_
        | refine ar_callV_if Tryd.call13 hX rfl rfl rfl rfl rfl rfl (by simp; done) rfl (by rfl) (by simp; done) ?_
        | refine bq_norm ?_
        | refine lq_normN [1, 5, 6, 7, 8, 9, 10] [.loc 6, .loc 7] (by simp; exact rfl) ⟨i + 1, by omega⟩ (by dsimp only; omega) (by simp [hA1, hE1])
        | refine ar_go3 _ rfl (by simp [ints_len, ints_getE, rgL_len, rgL_getE, atsL_len, atsL_getE, cosL_len, cosL_getE, ousL_len, ousL_getE, atC, ouC, coC, hd, hlt, hx, hw]; exact ⟨rfl, rfl, rfl⟩) rfl ?_
        | refine aw_sregK 10 [1, 5, 6, 7, 8, 9, 10] ?_
        | refine aw_regK 10 [1, 5, 6, 7, 8, 9, 10] ?_
        | refine aw_sregK 11 [1, 5, 6, 7, 8, 9, 10] ?_
        | refine aw_regK 11 [1, 5, 6, 7, 8, 9, 10] ?_
        | refine aw_sregKD mixed 12 [1, 5, 6, 7, 8, 9, 10] (by simp; exact rfl) ?_
        | refine aw_regKD mixed 12 [1, 5, 6, 7, 8, 9, 10] (by simp; exact rfl) ?_
        | refine aw_sregK 13 [1, 5, 6, 7, 8, 9, 10, 11] ?_
        | refine aw_regK 13 [1, 5, 6, 7, 8, 9, 10, 11] ?_
        | refine aw_sregK 14 [1, 5, 6, 7, 8, 9, 10, 11] ?_
        | refine aw_regK 14 [1, 5, 6, 7, 8, 9, 10, 11] ?_
        | refine aw_sreg ?_
        | refine aw_sregD mixed ?_
        | refine aw_ifT (b := true) rfl rfl ?_
        | refine aw_ifF (b := false) rfl rfl ?_
        | refine aw_ifT rfl (by assumption) ?_
        | refine aw_ifF rfl (by assumption) ?_
        | refine aw_ifT rfl (decide_eq_true (by assumption)) ?_
        | refine aw_ifF rfl (decide_eq_false (by assumption)) ?_
        | refine aw_seq ?_
        | refine aw_block ?_
        | refine aw_skip ?_
        | refine aw_region ?_
        | refine aw_region_draw mixed ?_
        | refine aw_exit ?_
        | refine rq_exit ?_
        | refine blockQ_hit ?_
        | refine blockQ_miss (by decide) ?_)
  have hie : i = l.length := by omega
  subst hie
  have hd : ¬((l.length : Nat) : Int) < (l.length : Int) := by omega
  clear hAs hEs hA0 hE0
  generalize A l.length = p at *
  generalize E l.length = q at *
  cases all with
  | true =>
    rw [vT rfl] at hV hV2
    rw [vY rfl] at hV4
    by_cases h0 : l.length = 0
    ·
      repeat' (first
        | exact aw_ret (ret_vals (by simp; exact rfl) (by simp [*]; fail_if_success (show _)))
        | exact aw_ret (ret_vals (by simp; exact rfl) (by simp [*]; omega))
        | refine ar_end rfl ?_
        | refine ar_endD rfl (by kernel_rfl) ?_
        | refine ar_fin rfl ?_
        | refine ar_finD rfl (by kernel_rfl) ?_
        | refine ar_callV Tryd.call22 h1 rfl rfl rfl rfl rfl (by simp; done) (by rfl) (by simp; done) ?_
        | refine ar_callV_if Tryd.call22 h1 rfl rfl rfl rfl rfl rfl (by simp; done) rfl (by rfl) (by simp; done) ?_
        | refine ar_callV Tryd.call15 hV rfl rfl rfl rfl rfl (by simp; done) (by rfl) (by simp; done) ?_
        | refine ar_callV_if Tryd.call15 hV rfl rfl rfl rfl rfl rfl (by simp; done) rfl (by rfl) (by simp; done) ?_
        | refine ar_callV Tryd.call15 hV2 rfl rfl rfl rfl rfl (by simp; done) (by rfl) (by simp; done) ?_
        | refine ar_callV_if Tryd.call15 hV2 rfl rfl rfl rfl rfl rfl (by simp; done) rfl (by rfl) (by simp; done) ?_
        | refine ar_callV Tryd.call15 hV3 rfl rfl rfl rfl rfl (by simp; done) (by rfl) (by simp; done) ?_
        | refine ar_callV_if Tryd.call15 hV3 rfl rfl rfl rfl rfl rfl (by simp; done) rfl (by rfl) (by simp; done) ?_
        | refine ar_callV Tryd.call15 hV4 rfl rfl rfl rfl rfl (by simp; done) (by rfl) (by simp; done) ?_
        | refine ar_callV_if Tryd.call15 hV4 rfl rfl rfl rfl rfl rfl (by simp; done) rfl (by rfl) (by simp; done) ?_
        | refine lq_exit ?_
        | refine ar_go3 _ rfl (by simp [ints_len, ints_getE, rgL_len, rgL_getE, atsL_len, atsL_getE, cosL_len, cosL_getE, ousL_len, ousL_getE, atC, ouC, coC, h0]; exact ⟨rfl, rfl, rfl⟩) rfl ?_
        | refine aw_sregK 10 [1, 5, 6, 7, 8, 9, 10] ?_
        | refine aw_regK 10 [1, 5, 6, 7, 8, 9, 10] ?_
        | refine aw_sregK 15 [1, 5, 6, 7, 8, 9] ?_
        | refine aw_regK 15 [1, 5, 6, 7, 8, 9] ?_
        | refine aw_sregK 16 [1, 5, 6, 7, 8, 12] ?_
        | refine aw_regK 16 [1, 5, 6, 7, 8, 12] ?_
        | refine aw_sregK 17 [1, 5, 6, 7, 8] ?_
        | refine aw_regK 17 [1, 5, 6, 7, 8] ?_
        | refine aw_sregKD mixed 18 [1, 5, 6, 7, 12] (by simp; exact rfl) ?_
        | refine aw_regKD mixed 18 [1, 5, 6, 7, 12] (by simp; exact rfl) ?_
        | refine aw_sreg ?_
        | refine aw_sregD mixed ?_
        | refine aw_ifT (b := true) rfl rfl ?_
        | refine aw_ifF (b := false) rfl rfl ?_
        | refine aw_ifT rfl (by assumption) ?_
        | refine aw_ifF rfl (by assumption) ?_
        | refine aw_ifT rfl (decide_eq_true (by assumption)) ?_
        | refine aw_ifF rfl (decide_eq_false (by assumption)) ?_
        | refine aw_seq ?_
        | refine aw_block ?_
        | refine aw_skip ?_
        | refine aw_region ?_
        | refine aw_region_draw mixed ?_
        | refine aw_exit ?_
        | refine rq_exit ?_
        | refine blockQ_hit ?_
        | refine blockQ_miss (by decide) ?_
        | (refine ar_guard rfl rfl rfl rfl (fun h => ?_) (fun h => ?_) <;> (fail_if_success (cases h; done)) <;> (try simp at h) <;> (try subst h))
        | (refine aw_both rfl (fun h => ?_) (fun h => ?_) <;> (fail_if_success (cases h; done)) <;> (try simp at h) <;> (try subst h)))
    · have hpq := hAE (by omega)
      cases p with
      | false =>
        repeat' (first
          | exact aw_ret (ret_vals (by simp; exact rfl) (by simp [*]; fail_if_success (show _)))
          | exact aw_ret (ret_vals (by simp; exact rfl) (by simp [*]; omega))
          | refine ar_end rfl ?_
          | refine ar_endD rfl (by kernel_rfl) ?_
          | refine ar_fin rfl ?_
          | refine ar_finD rfl (by kernel_rfl) ?_
          | refine ar_callV Tryd.call22 h1 rfl rfl rfl rfl rfl (by simp; done) (by rfl) (by simp; done) ?_
          | refine ar_callV_if Tryd.call22 h1 rfl rfl rfl rfl rfl rfl (by simp; done) rfl (by rfl) (by simp; done) ?_
          | refine ar_callV Tryd.call15 hV rfl rfl rfl rfl rfl (by simp; done) (by rfl) (by simp; done) ?_
          | refine ar_callV_if Tryd.call15 hV rfl rfl rfl rfl rfl rfl (by simp; done) rfl (by rfl) (by simp; done) ?_
          | refine ar_callV Tryd.call15 hV2 rfl rfl rfl rfl rfl (by simp; done) (by rfl) (by simp; done) ?_
          | refine ar_callV_if Tryd.call15 hV2 rfl rfl rfl rfl rfl rfl (by simp; done) rfl (by rfl) (by simp; done) ?_
          | refine ar_callV Tryd.call15 hV3 rfl rfl rfl rfl rfl (by simp; done) (by rfl) (by simp; done) ?_
          | refine ar_callV_if Tryd.call15 hV3 rfl rfl rfl rfl rfl rfl (by simp; done) rfl (by rfl) (by simp; done) ?_
          | refine ar_callV Tryd.call15 hV4 rfl rfl rfl rfl rfl (by simp; done) (by rfl) (by simp; done) ?_
          | refine ar_callV_if Tryd.call15 hV4 rfl rfl rfl rfl rfl rfl (by simp; done) rfl (by rfl) (by simp; done) ?_
          | refine lq_exit ?_
          | refine ar_go3 _ rfl (by simp [ints_len, ints_getE, rgL_len, rgL_getE, atsL_len, atsL_getE, cosL_len, cosL_getE, ousL_len, ousL_getE, atC, ouC, coC, h0, hd]; exact ⟨rfl, rfl, rfl⟩) rfl ?_
          | refine aw_sregK 10 [1, 5, 6, 7, 8, 9, 10] ?_
          | refine aw_regK 10 [1, 5, 6, 7, 8, 9, 10] ?_
          | refine aw_sregK 15 [1, 5, 6, 7, 8, 9] ?_
          | refine aw_regK 15 [1, 5, 6, 7, 8, 9] ?_
          | refine aw_sregK 16 [1, 5, 6, 7, 8, 12] ?_
          | refine aw_regK 16 [1, 5, 6, 7, 8, 12] ?_
          | refine aw_sregK 17 [1, 5, 6, 7, 8] ?_
          | refine aw_regK 17 [1, 5, 6, 7, 8] ?_
          | refine aw_sregKD mixed 18 [1, 5, 6, 7, 12] (by simp; exact rfl) ?_
          | refine aw_regKD mixed 18 [1, 5, 6, 7, 12] (by simp; exact rfl) ?_
          | refine aw_sreg ?_
          | refine aw_sregD mixed ?_
          | refine aw_ifT (b := true) rfl rfl ?_
          | refine aw_ifF (b := false) rfl rfl ?_
          | refine aw_ifT rfl (by assumption) ?_
          | refine aw_ifF rfl (by assumption) ?_
          | refine aw_ifT rfl (decide_eq_true (by assumption)) ?_
          | refine aw_ifF rfl (decide_eq_false (by assumption)) ?_
          | refine aw_seq ?_
          | refine aw_block ?_
          | refine aw_skip ?_
          | refine aw_region ?_
          | refine aw_region_draw mixed ?_
          | refine aw_exit ?_
          | refine rq_exit ?_
          | refine blockQ_hit ?_
          | refine blockQ_miss (by decide) ?_
          | (refine ar_guard rfl rfl rfl rfl (fun h => ?_) (fun h => ?_) <;> (fail_if_success (cases h; done)) <;> (try simp at h) <;> (try subst h))
          | (refine aw_both rfl (fun h => ?_) (fun h => ?_) <;> (fail_if_success (cases h; done)) <;> (try simp at h) <;> (try subst h)))
      | true =>
        have hq := hpq rfl
        subst hq
        clear hpq hAE
        repeat' (first
          | exact aw_ret (ret_vals (by simp; exact rfl) (by simp [h0]; fail_if_success (show _)))
          | exact aw_ret (ret_vals (by simp; exact rfl) (by simp [h0]; omega))
          | refine ar_end rfl ?_
          | refine ar_endD rfl (by kernel_rfl) ?_
          | refine ar_fin rfl ?_
          | refine ar_finD rfl (by kernel_rfl) ?_
          | refine ar_callV Tryd.call22 h1 rfl rfl rfl rfl rfl (by simp; done) (by rfl) (by simp; done) ?_
          | refine ar_callV_if Tryd.call22 h1 rfl rfl rfl rfl rfl rfl (by simp; done) rfl (by rfl) (by simp; done) ?_
          | refine ar_callV Tryd.call15 hV rfl rfl rfl rfl rfl (by simp; done) (by rfl) (by simp; done) ?_
          | refine ar_callV_if Tryd.call15 hV rfl rfl rfl rfl rfl rfl (by simp; done) rfl (by rfl) (by simp; done) ?_
          | refine ar_callV Tryd.call15 hV2 rfl rfl rfl rfl rfl (by simp; done) (by rfl) (by simp; done) ?_
          | refine ar_callV_if Tryd.call15 hV2 rfl rfl rfl rfl rfl rfl (by simp; done) rfl (by rfl) (by simp; done) ?_
          | refine ar_callV Tryd.call15 hV3 rfl rfl rfl rfl rfl (by simp; done) (by rfl) (by simp; done) ?_
          | refine ar_callV_if Tryd.call15 hV3 rfl rfl rfl rfl rfl rfl (by simp; done) rfl (by rfl) (by simp; done) ?_
          | refine ar_callV Tryd.call15 hV4 rfl rfl rfl rfl rfl (by simp; done) (by rfl) (by simp; done) ?_
          | refine ar_callV_if Tryd.call15 hV4 rfl rfl rfl rfl rfl rfl (by simp; done) rfl (by rfl) (by simp; done) ?_
          | refine lq_exit ?_
          | refine ar_go3 _ rfl (by simp [ints_len, ints_getE, rgL_len, rgL_getE, atsL_len, atsL_getE, cosL_len, cosL_getE, ousL_len, ousL_getE, atC, ouC, coC, h0, hd]; exact ⟨rfl, rfl, rfl⟩) rfl ?_
          | refine aw_sregK 10 [1, 5, 6, 7, 8, 9, 10] ?_
          | refine aw_regK 10 [1, 5, 6, 7, 8, 9, 10] ?_
          | refine aw_sregK 15 [1, 5, 6, 7, 8, 9] ?_
          | refine aw_regK 15 [1, 5, 6, 7, 8, 9] ?_
          | refine aw_sregK 16 [1, 5, 6, 7, 8, 12] ?_
          | refine aw_regK 16 [1, 5, 6, 7, 8, 12] ?_
          | refine aw_sregK 17 [1, 5, 6, 7, 8] ?_
          | refine aw_regK 17 [1, 5, 6, 7, 8] ?_
          | refine aw_sregKD mixed 18 [1, 5, 6, 7, 12] (by simp; exact rfl) ?_
          | refine aw_regKD mixed 18 [1, 5, 6, 7, 12] (by simp; exact rfl) ?_
          | refine aw_sreg ?_
          | refine aw_sregD mixed ?_
          | refine aw_ifT (b := true) rfl rfl ?_
          | refine aw_ifF (b := false) rfl rfl ?_
          | refine aw_ifT rfl (by assumption) ?_
          | refine aw_ifF rfl (by assumption) ?_
          | refine aw_ifT rfl (decide_eq_true (by assumption)) ?_
          | refine aw_ifF rfl (decide_eq_false (by assumption)) ?_
          | refine aw_seq ?_
          | refine aw_block ?_
          | refine aw_skip ?_
          | refine aw_region ?_
          | refine aw_region_draw mixed ?_
          | refine aw_exit ?_
          | refine rq_exit ?_
          | refine blockQ_hit ?_
          | refine blockQ_miss (by decide) ?_
          | (refine ar_guard rfl rfl rfl rfl (fun h => ?_) (fun h => ?_) <;> (fail_if_success (cases h; done)) <;> (try simp at h) <;> (try subst h))
          | (refine aw_both rfl (fun h => ?_) (fun h => ?_) <;> (fail_if_success (cases h; done)) <;> (try simp at h) <;> (try subst h)))
  | false =>
    rw [vF rfl] at hV hV2
    by_cases h0 : l.length = 0
    ·
      repeat' (first
        | exact aw_ret (ret_vals (by simp; exact rfl) (by simp [*]; fail_if_success (show _)))
        | exact aw_ret (ret_vals (by simp; exact rfl) (by simp [*]; omega))
        | refine ar_end rfl ?_
        | refine ar_endD rfl (by kernel_rfl) ?_
        | refine ar_fin rfl ?_
        | refine ar_finD rfl (by kernel_rfl) ?_
        | refine ar_callV Tryd.call22 h1 rfl rfl rfl rfl rfl (by simp; done) (by rfl) (by simp; done) ?_
        | refine ar_callV_if Tryd.call22 h1 rfl rfl rfl rfl rfl rfl (by simp; done) rfl (by rfl) (by simp; done) ?_
        | refine ar_callV Tryd.call15 hV rfl rfl rfl rfl rfl (by simp; done) (by rfl) (by simp; done) ?_
        | refine ar_callV_if Tryd.call15 hV rfl rfl rfl rfl rfl rfl (by simp; done) rfl (by rfl) (by simp; done) ?_
        | refine ar_callV Tryd.call15 hV2 rfl rfl rfl rfl rfl (by simp; done) (by rfl) (by simp; done) ?_
        | refine ar_callV_if Tryd.call15 hV2 rfl rfl rfl rfl rfl rfl (by simp; done) rfl (by rfl) (by simp; done) ?_
        | refine ar_callV Tryd.call15 hV3 rfl rfl rfl rfl rfl (by simp; done) (by rfl) (by simp; done) ?_
        | refine ar_callV_if Tryd.call15 hV3 rfl rfl rfl rfl rfl rfl (by simp; done) rfl (by rfl) (by simp; done) ?_
        | refine ar_callV Tryd.call15 hV4 rfl rfl rfl rfl rfl (by simp; done) (by rfl) (by simp; done) ?_
        | refine ar_callV_if Tryd.call15 hV4 rfl rfl rfl rfl rfl rfl (by simp; done) rfl (by rfl) (by simp; done) ?_
        | refine lq_exit ?_
        | refine ar_go3 _ rfl (by simp [ints_len, ints_getE, rgL_len, rgL_getE, atsL_len, atsL_getE, cosL_len, cosL_getE, ousL_len, ousL_getE, atC, ouC, coC, h0]; exact ⟨rfl, rfl, rfl⟩) rfl ?_
        | refine aw_sregK 10 [1, 5, 6, 7, 8, 9, 10] ?_
        | refine aw_regK 10 [1, 5, 6, 7, 8, 9, 10] ?_
        | refine aw_sregK 15 [1, 5, 6, 7, 8, 9] ?_
        | refine aw_regK 15 [1, 5, 6, 7, 8, 9] ?_
        | refine aw_sregK 16 [1, 5, 6, 7, 8, 12] ?_
        | refine aw_regK 16 [1, 5, 6, 7, 8, 12] ?_
        | refine aw_sregKD mixed 18 [1, 5, 6, 7, 12] (by simp; exact rfl) ?_
        | refine aw_regKD mixed 18 [1, 5, 6, 7, 12] (by simp; exact rfl) ?_
        | refine aw_sreg ?_
        | refine aw_sregD mixed ?_
        | refine aw_ifT (b := true) rfl rfl ?_
        | refine aw_ifF (b := false) rfl rfl ?_
        | refine aw_ifT rfl (by assumption) ?_
        | refine aw_ifF rfl (by assumption) ?_
        | refine aw_ifT rfl (decide_eq_true (by assumption)) ?_
        | refine aw_ifF rfl (decide_eq_false (by assumption)) ?_
        | refine aw_seq ?_
        | refine aw_block ?_
        | refine aw_skip ?_
        | refine aw_region ?_
        | refine aw_region_draw mixed ?_
        | refine aw_exit ?_
        | refine rq_exit ?_
        | refine blockQ_hit ?_
        | refine blockQ_miss (by decide) ?_
        | (refine ar_guard rfl rfl rfl rfl (fun h => ?_) (fun h => ?_) <;> (fail_if_success (cases h; done)) <;> (try simp at h) <;> (try subst h))
        | (refine aw_both rfl (fun h => ?_) (fun h => ?_) <;> (fail_if_success (cases h; done)) <;> (try simp at h) <;> (try subst h)))
    ·
      repeat' (first
        | exact aw_ret (ret_vals (by simp; exact rfl) (by simp [*]; fail_if_success (show _)))
        | exact aw_ret (ret_vals (by simp; exact rfl) (by simp [*]; omega))
        | refine ar_end rfl ?_
        | refine ar_endD rfl (by kernel_rfl) ?_
        | refine ar_fin rfl ?_
        | refine ar_finD rfl (by kernel_rfl) ?_
        | refine ar_callV Tryd.call22 h1 rfl rfl rfl rfl rfl (by simp; done) (by rfl) (by simp; done) ?_
        | refine ar_callV_if Tryd.call22 h1 rfl rfl rfl rfl rfl rfl (by simp; done) rfl (by rfl) (by simp; done) ?_
        | refine ar_callV Tryd.call15 hV rfl rfl rfl rfl rfl (by simp; done) (by rfl) (by simp; done) ?_
        | refine ar_callV_if Tryd.call15 hV rfl rfl rfl rfl rfl rfl (by simp; done) rfl (by rfl) (by simp; done) ?_
        | refine ar_callV Tryd.call15 hV2 rfl rfl rfl rfl rfl (by simp; done) (by rfl) (by simp; done) ?_
        | refine ar_callV_if Tryd.call15 hV2 rfl rfl rfl rfl rfl rfl (by simp; done) rfl (by rfl) (by simp; done) ?_
        | refine ar_callV Tryd.call15 hV3 rfl rfl rfl rfl rfl (by simp; done) (by rfl) (by simp; done) ?_
        | refine ar_callV_if Tryd.call15 hV3 rfl rfl rfl rfl rfl rfl (by simp; done) rfl (by rfl) (by simp; done) ?_
        | refine ar_callV Tryd.call15 hV4 rfl rfl rfl rfl rfl (by simp; done) (by rfl) (by simp; done) ?_
        | refine ar_callV_if Tryd.call15 hV4 rfl rfl rfl rfl rfl rfl (by simp; done) rfl (by rfl) (by simp; done) ?_
        | refine lq_exit ?_
        | refine ar_go3 _ rfl (by simp [ints_len, ints_getE, rgL_len, rgL_getE, atsL_len, atsL_getE, cosL_len, cosL_getE, ousL_len, ousL_getE, atC, ouC, coC, h0, hd]; exact ⟨rfl, rfl, rfl⟩) rfl ?_
        | refine aw_sregK 10 [1, 5, 6, 7, 8, 9, 10] ?_
        | refine aw_regK 10 [1, 5, 6, 7, 8, 9, 10] ?_
        | refine aw_sregK 15 [1, 5, 6, 7, 8, 9] ?_
        | refine aw_regK 15 [1, 5, 6, 7, 8, 9] ?_
        | refine aw_sregK 16 [1, 5, 6, 7, 8, 12] ?_
        | refine aw_regK 16 [1, 5, 6, 7, 8, 12] ?_
        | refine aw_sregKD mixed 18 [1, 5, 6, 7, 12] (by simp; exact rfl) ?_
        | refine aw_regKD mixed 18 [1, 5, 6, 7, 12] (by simp; exact rfl) ?_
        | refine aw_sreg ?_
        | refine aw_sregD mixed ?_
        | refine aw_ifT (b := true) rfl rfl ?_
        | refine aw_ifF (b := false) rfl rfl ?_
        | refine aw_ifT rfl (by assumption) ?_
        | refine aw_ifF rfl (by assumption) ?_
        | refine aw_ifT rfl (decide_eq_true (by assumption)) ?_
        | refine aw_ifF rfl (decide_eq_false (by assumption)) ?_
        | refine aw_seq ?_
        | refine aw_block ?_
        | refine aw_skip ?_
        | refine aw_region ?_
        | refine aw_region_draw mixed ?_
        | refine aw_exit ?_
        | refine rq_exit ?_
        | refine blockQ_hit ?_
        | refine blockQ_miss (by decide) ?_
        | (refine ar_guard rfl rfl rfl rfl (fun h => ?_) (fun h => ?_) <;> (fail_if_success (cases h; done)) <;> (try simp at h) <;> (try subst h))
        | (refine aw_both rfl (fun h => ?_) (fun h => ?_) <;> (fail_if_success (cases h; done)) <;> (try simp at h) <;> (try subst h)))
end Go.Eng
