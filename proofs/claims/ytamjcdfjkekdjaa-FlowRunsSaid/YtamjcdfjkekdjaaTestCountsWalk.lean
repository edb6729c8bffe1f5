import Derived.Test.YtamjcdfjkekdjaaTestC
set_option linter.unusedSimpArgs false
set_option linter.unusedVariables false
set_option linter.constructorNameAsVariable false
set_option autoImplicit false
namespace Go.Eng
open Go Go.RowKit Go.Proofs
theorem SC.weaken {P : Program} {f : FuncId} {args args' : List AV} {res : AV} (h : SC P f args res) (hl : ∀ ρ w vs, ARels ρ w args' vs → ARels ρ w args vs) : SC P f args' res :=
  fun Γ ρ w vals hw hX hargs => h Γ ρ w vals hw hX (hl ρ w _ hargs)
theorem nil_rel {F : Nat → Prop} {w : World} {es : Nat} {v : Value} (h : PRel F w (.v (.slice none 0 0)) v) : PRel F w (.sl es []) v := by
  obtain ⟨rfl, _⟩ := h
  exact ⟨none, 0, [], rfl, Nat.le_refl _, by simp [maxLen], rfl, .inl rfl⟩
/-- A test without places, its list nil. -/
theorem noInit {f : FuncId} {t : List (List In)} {res : AV} (h : SC Try.prog f [.agg (testL [] t)] res) : SC Try.prog f [.agg [.v (.slice none 0 0), .sl 1 (thsL t)]] res := by
  refine h.weaken fun ρ w vs hv => ?_
  obtain ⟨v, vs', e, ⟨a, e2, v1, vs1, e3, h1, h2⟩, h3⟩ := hv
  exact ⟨v, vs', e, ⟨a, e2, v1, vs1, e3, nil_rel h1, h2⟩, h3⟩
def goodT (L : Int) (th : List In) : Prop := ¬((th.length : Int) < 1 ∨ 8 < (th.length : Int)) ∧ badI L th.length 0 th = none
theorem badT_iff {L : Int} : ∀ {t : List (List In)} {n : Nat}, badT L n t = none ↔ ∀ th ∈ t, goodT L th
  | [], n => by simp [badT]
  | x :: t, n => by
    rw [badT]
    by_cases h : (x.length : Int) < 1 ∨ 8 < (x.length : Int)
    · rw [if_pos h]
      simp only [reduceCtorEq, List.mem_cons, forall_eq_or_imp, false_iff, not_and]
      intro hg; exact absurd h hg.1
    · rw [if_neg h]
      cases hb : badI L x.length 0 x with
      | some k =>
        simp only [reduceCtorEq, List.mem_cons, forall_eq_or_imp, false_iff, not_and]
        intro hg; rw [hg.2] at hb; cases hb
      | none =>
        simp only [List.mem_cons, forall_eq_or_imp]
        rw [badT_iff]
        exact ⟨fun hh => ⟨⟨h, hb⟩, hh⟩, fun hh => hh.2⟩
theorem kcT_rev (k : Int) : ∀ t : List (List In), kcT k t.reverse = kcT k t
  | [] => rfl
  | l :: t => by rw [List.reverse_cons, kcT_append, kcT_rev k t]; simp only [kcT]; omega
theorem okTest_rev (i : List Int) (t : List (List In)) : okTest i t.reverse = okTest i t := by
  rw [Bool.eq_iff_iff, okTest_iff, okTest_iff, badT_iff, badT_iff]
  simp only [sizedF, List.length_reverse, fullF, kcT_rev, List.mem_reverse]
theorem Few.rev {i : List Int} {t : List (List In)} (h : Few i t) : Few i t.reverse := ⟨h.1, by simpa using h.2.1, fun l hl => h.2.2 l (by simpa using hl)⟩
theorem few_one {th : List In} (h : th.length ≤ 40) : Few [] [th] := ⟨by simp, by simp, by simpa using h⟩
theorem kcT_drop (k : Int) {t : List (List In)} {n : Nat} (h : n < t.length) : kcT k (t.drop n) = kc k t[n] + kcT k (t.drop (n + 1)) := by
  rw [List.drop_eq_getElem_cons h, kcT]
theorem kcT_one (k : Int) (th : List In) : kcT k [th] = kc k th := by simp [kcT]
theorem few_kcD {i : List Int} {t : List (List In)} (h : Few i t) (k : Int) (n : Nat) : 0 ≤ kcT k (t.drop n) ∧ kcT k (t.drop n) ≤ 400 := by
  have h1 := kcT_bnd k (t := t.drop n) (fun x hx => h.2.2 x (List.mem_of_mem_drop hx))
  have h2 : ((t.drop n).length : Int) ≤ 10 := by have := h.2.1; rw [List.length_drop]; omega
  omega
theorem rev_drop {t : List (List In)} {n : Nat} (h : n < t.length) : (t.drop n).reverse = (t.drop (n + 1)).reverse ++ [t[n]] := by
  rw [List.drop_eq_getElem_cons h, List.reverse_cons]
theorem slice_one {t : List (List In)} {n : Nat} (h : n < t.length) : List.drop n (List.take (n + 1) (thsL t)) = thsL [t[n]] := by
  rw [List.take_add_one, List.drop_append, List.getElem?_eq_getElem (by simpa [thsL] using h), thsL_getE]
  have e : n - min n t.length = 0 := by omega
  simp [thsL, e]
set_option maxHeartbeats 16000000 in
theorem law_TestCounts {i : List Int} {t : List (List In)} : SC Try.prog 14 [.agg (testL i t)] (B true) := by
  cases hfb : fewB i t
  · refine scx_of Try.func14 rfl rfl rfl (Nat.le_of_ble_eq_true rfl) ?_
    repeat' (first
      | exact aw_ret (ret_vals (by simp; exact rfl) (by simp [*]; fail_if_success (show _)))
      | exact aw_ret (ret_vals (by simp; exact rfl) (by simp [*]; omega))
      | refine ar_end rfl ?_
      | refine ar_endD rfl (by kernel_rfl) ?_
      | refine ar_fin rfl ?_
      | refine ar_finD rfl (by kernel_rfl) ?_
      | refine ar_callV Try.call53 c_shown2 rfl rfl rfl rfl rfl (by simp; done) (by rfl) (by simp; done) ?_
      | refine ar_callV_if Try.call53 c_shown2 rfl rfl rfl rfl rfl rfl (by simp; done) rfl (by rfl) (by simp; done) ?_
      | refine ar_callV Try.call54 c_Few rfl rfl rfl rfl rfl (by simp; done) (by rfl) (by simp; done) ?_
      | refine ar_callV_if Try.call54 c_Few rfl rfl rfl rfl rfl rfl (by simp; done) rfl (by rfl) (by simp; done) ?_
      | refine ar_go3 _ rfl (by simp [hfb]; exact ⟨rfl, rfl, rfl⟩) rfl ?_
      | refine aw_sregK 0 [0] ?_
      | refine aw_regK 0 [0] ?_
      | refine aw_sregK 1 [1] ?_
      | refine aw_regK 1 [1] ?_
      | refine aw_sregK 2 [1, 3] ?_
      | refine aw_regK 2 [1, 3] ?_
      | refine aw_sregK 3 [3] ?_
      | refine aw_regK 3 [3] ?_
      | refine aw_sregK 4 [1, 3] ?_
      | refine aw_regK 4 [1, 3] ?_
      | refine aw_sregK 5 [1, 3, 4] ?_
      | refine aw_regK 5 [1, 3, 4] ?_
      | refine aw_sregK 6 [1, 3, 4, 5] ?_
      | refine aw_regK 6 [1, 3, 4, 5] ?_
      | refine aw_sregK 7 [1, 3, 4, 5, 6] ?_
      | refine aw_regK 7 [1, 3, 4, 5, 6] ?_
      | refine aw_sregK 8 [1, 3, 4, 5, 6] ?_
      | refine aw_regK 8 [1, 3, 4, 5, 6] ?_
      | refine aw_sregK 9 [1, 3, 4, 5, 6, 7] ?_
      | refine aw_regK 9 [1, 3, 4, 5, 6, 7] ?_
      | refine aw_sregK 10 [1, 3, 4, 5, 6, 7] ?_
      | refine aw_regK 10 [1, 3, 4, 5, 6, 7] ?_
      | refine aw_sregK 11 [1, 3, 4, 5, 6, 7] ?_
      | refine aw_regK 11 [1, 3, 4, 5, 6, 7] ?_
      | refine aw_sregK 12 [1, 3, 4, 5, 6, 7, 8, 9] ?_
      | refine aw_regK 12 [1, 3, 4, 5, 6, 7, 8, 9] ?_
      | refine aw_sregK 13 [1, 3, 4, 5, 6, 7, 9] ?_
      | refine aw_regK 13 [1, 3, 4, 5, 6, 7, 9] ?_
      | refine aw_sregKD mixed 14 [1, 3, 4, 5, 6, 7] (by simp; exact rfl) ?_
      | refine aw_regKD mixed 14 [1, 3, 4, 5, 6, 7] (by simp; exact rfl) ?_
      | refine aw_sregK 15 [1, 3, 4, 5, 6] ?_
      | refine aw_regK 15 [1, 3, 4, 5, 6] ?_
      | refine aw_sregK 16 [1, 3, 4, 5, 6, 10, 11] ?_
      | refine aw_regK 16 [1, 3, 4, 5, 6, 10, 11] ?_
      | refine aw_sregK 17 [1, 3, 4, 5, 6, 10, 11, 12, 13] ?_
      | refine aw_regK 17 [1, 3, 4, 5, 6, 10, 11, 12, 13] ?_
      | refine aw_sregK 18 [3, 4, 5, 6, 10, 11, 12, 13, 16] ?_
      | refine aw_regK 18 [3, 4, 5, 6, 10, 11, 12, 13, 16] ?_
      | refine aw_sregK 19 [3, 4, 5, 10, 11, 12, 13, 16, 19] ?_
      | refine aw_regK 19 [3, 4, 5, 10, 11, 12, 13, 16, 19] ?_
      | refine aw_sreg ?_
      | refine aw_sregD mixed ?_
      | refine aw_ifT (b := true) rfl rfl ?_
      | refine aw_ifF (b := false) rfl rfl ?_
      | refine aw_ifT rfl (by assumption) ?_
      | refine aw_ifF rfl (by assumption) ?_
      | refine aw_ifT rfl (decide_eq_true (by assumption)) ?_
      | refine aw_ifF rfl (decide_eq_false (by assumption)) ?_
      | refine aw_seq ?_
      | refine aw_block ?_
      | refine aw_skip ?_
      | refine aw_region ?_
      | refine aw_region_draw mixed ?_
      | refine aw_exit ?_
      | refine rq_exit ?_
      | refine blockQ_hit ?_
      | refine blockQ_miss (by decide) ?_
      | (refine ar_guard rfl rfl rfl rfl (fun h => ?_) (fun h => ?_) <;> (fail_if_success (cases h; done)) <;> (try simp at h) <;> (try subst h))
      | (refine aw_both rfl (fun h => ?_) (fun h => ?_) <;> (fail_if_success (cases h; done)) <;> (try simp at h) <;> (try subst h)))
  · have hf := fewB_iff.1 hfb
    have hl : i.length ≤ maxLen := Nat.le_trans hf.1 (by simp [maxLen])
    have htl := hf.2.1
    have w0 : IntKind.wrap .i64 ((t.length : Int) - 1) = (t.length : Int) - 1 := wrap64s (by omega) (by omega)
    refine scx_of Try.func14 rfl rfl rfl (Nat.le_of_ble_eq_true rfl) ?_
    repeat' (first
      | exact aw_ret (ret_vals (by simp; exact rfl) (by simp [*]; fail_if_success (show _)))
      | exact aw_ret (ret_vals (by simp; exact rfl) (by simp [*]; omega))
      | refine ar_end rfl ?_
      | refine ar_endD rfl (by kernel_rfl) ?_
      | refine ar_fin rfl ?_
      | refine ar_finD rfl (by kernel_rfl) ?_
      | refine ar_callV Try.call53 c_shown2 rfl rfl rfl rfl rfl (by simp; done) (by rfl) (by simp; done) ?_
      | refine ar_callV_if Try.call53 c_shown2 rfl rfl rfl rfl rfl rfl (by simp; done) rfl (by rfl) (by simp; done) ?_
      | refine ar_callV Try.call54 c_Few rfl rfl rfl rfl rfl (by simp; done) (by rfl) (by simp; done) ?_
      | refine ar_callV_if Try.call54 c_Few rfl rfl rfl rfl rfl rfl (by simp; done) rfl (by rfl) (by simp; done) ?_
      | refine ar_go3 _ rfl (by simp [hfb, w0, insL_len, thsL_len, insL_getE, thsL_getE, inL, ints_len]; exact ⟨rfl, rfl, rfl⟩) rfl ?_
      | refine aw_sregK 0 [0] ?_
      | refine aw_regK 0 [0] ?_
      | refine aw_sregK 1 [1] ?_
      | refine aw_regK 1 [1] ?_
      | refine aw_sregK 2 [1, 3] ?_
      | refine aw_regK 2 [1, 3] ?_
      | refine aw_sregK 3 [3] ?_
      | refine aw_regK 3 [3] ?_
      | refine aw_sregK 4 [1, 3] ?_
      | refine aw_regK 4 [1, 3] ?_
      | refine aw_sregK 5 [1, 3, 4] ?_
      | refine aw_regK 5 [1, 3, 4] ?_
      | refine aw_sregK 6 [1, 3, 4, 5] ?_
      | refine aw_regK 6 [1, 3, 4, 5] ?_
      | refine aw_sregK 7 [1, 3, 4, 5, 6] ?_
      | refine aw_regK 7 [1, 3, 4, 5, 6] ?_
      | refine aw_sregK 8 [1, 3, 4, 5, 6] ?_
      | refine aw_regK 8 [1, 3, 4, 5, 6] ?_
      | refine aw_sregK 9 [1, 3, 4, 5, 6, 7] ?_
      | refine aw_regK 9 [1, 3, 4, 5, 6, 7] ?_
      | refine aw_sregK 10 [1, 3, 4, 5, 6, 7] ?_
      | refine aw_regK 10 [1, 3, 4, 5, 6, 7] ?_
      | refine aw_sregK 11 [1, 3, 4, 5, 6, 7] ?_
      | refine aw_regK 11 [1, 3, 4, 5, 6, 7] ?_
      | refine aw_sregK 12 [1, 3, 4, 5, 6, 7, 8, 9] ?_
      | refine aw_regK 12 [1, 3, 4, 5, 6, 7, 8, 9] ?_
      | refine aw_sregK 13 [1, 3, 4, 5, 6, 7, 9] ?_
      | refine aw_regK 13 [1, 3, 4, 5, 6, 7, 9] ?_
      | refine aw_sregKD mixed 14 [1, 3, 4, 5, 6, 7] (by simp; exact rfl) ?_
      | refine aw_regKD mixed 14 [1, 3, 4, 5, 6, 7] (by simp; exact rfl) ?_
      | refine aw_sregK 15 [1, 3, 4, 5, 6] ?_
      | refine aw_regK 15 [1, 3, 4, 5, 6] ?_
      | refine aw_sregK 16 [1, 3, 4, 5, 6, 10, 11] ?_
      | refine aw_regK 16 [1, 3, 4, 5, 6, 10, 11] ?_
      | refine aw_sregK 17 [1, 3, 4, 5, 6, 10, 11, 12, 13] ?_
      | refine aw_regK 17 [1, 3, 4, 5, 6, 10, 11, 12, 13] ?_
      | refine aw_sregK 18 [3, 4, 5, 6, 10, 11, 12, 13, 16] ?_
      | refine aw_regK 18 [3, 4, 5, 6, 10, 11, 12, 13, 16] ?_
      | refine aw_sregK 19 [3, 4, 5, 10, 11, 12, 13, 16, 19] ?_
      | refine aw_regK 19 [3, 4, 5, 10, 11, 12, 13, 16, 19] ?_
      | refine aw_sreg ?_
      | refine aw_sregD mixed ?_
      | refine aw_ifT (b := true) rfl rfl ?_
      | refine aw_ifF (b := false) rfl rfl ?_
      | refine aw_ifT rfl (by assumption) ?_
      | refine aw_ifF rfl (by assumption) ?_
      | refine aw_ifT rfl (decide_eq_true (by assumption)) ?_
      | refine aw_ifF rfl (decide_eq_false (by assumption)) ?_
      | refine aw_seq ?_
      | refine aw_block ?_
      | refine aw_skip ?_
      | refine aw_region ?_
      | refine aw_region_draw mixed ?_
      | refine aw_exit ?_
      | refine rq_exit ?_
      | refine blockQ_hit ?_
      | refine blockQ_miss (by decide) ?_
      | (refine ar_guard rfl rfl rfl rfl (fun h => ?_) (fun h => ?_) <;> (fail_if_success (cases h; done)) <;> (try simp at h) <;> (try subst h))
      | (refine aw_both rfl (fun h => ?_) (fun h => ?_) <;> (fail_if_success (cases h; done)) <;> (try simp at h) <;> (try subst h)))
    refine aw_nilC (.loc 6) 1 (.loc 1001) 64 1 (by simp; exact rfl) ?_
    refine aw_loopN [1, 3, 4, 5, 6, 7] [.loc 1, .loc 6, .loc 1001] (by simp; exact rfl) (ι := {n : Nat // n ≤ t.length}) (fun n => ⟨113, [(1, .ptr (.loc 1) 0), (3, B true), (4, I .i64 (kcT 1 (t.drop n.1))), (5, I .i64 (kcT 2 (t.drop n.1))), (6, .ptr (.loc 6) 0), (7, I .i64 ((n.1 : Int) - 1))], [(.loc 1, some (.box 55 [.pv (.sl 1 (ints i)), .pv (.sl 1 (thsL t))])), (.loc 6, some (.box 55 [.pv (.sl 1 (ints i)), .own (.loc 1001)])), (.loc 1001, some (.own 64 1 (thsL (t.drop n.1).reverse)))]⟩) (fun n => n.1) ⟨t.length, by omega⟩ (by simp [kcT, thsL]) ?_
    rintro ⟨n, hn⟩
    cases n with
    | succ n =>
      have hlt : n < t.length := by omega
      have l40 := hf.len hlt
      have s1 := kcT_drop 1 hlt
      have s2 := kcT_drop 2 hlt
      have hrd := rev_drop hlt
      have hso := slice_one hlt
      have b1 := few_kcD hf 1 (n + 1)
      have b2 := few_kcD hf 2 (n + 1)
      have hrl : (t.drop (n + 1)).reverse.length ≤ 10 := by simp; omega
      generalize hth : t[n] = th at l40 s1 s2 hrd hso
      have c1 := kc_bnd 1 th
      have c2 := kc_bnd 2 th
      have hcnt := noInit (c_Count (few_one l40))
      rw [kcT_one, kcT_one] at hcnt
      have q1 : IntKind.wrap .i64 ((n : Int) + 1) = (n : Int) + 1 := wrap64s (by omega) (by omega)
      have q2 : IntKind.wrap .i64 ((n : Int) - 1) = (n : Int) - 1 := wrap64s (by omega) (by omega)
      have q3 : IntKind.wrap .i64 (kcT 1 (t.drop (n + 1)) + kc 1 th) = kcT 1 (t.drop (n + 1)) + kc 1 th := wrap64s (by omega) (by omega)
      have q4 : IntKind.wrap .i64 (kcT 2 (t.drop (n + 1)) + kc 2 th) = kcT 2 (t.drop (n + 1)) + kc 2 th := wrap64s (by omega) (by omega)
      have t1 : ((n : Int) + 1).toNat = n + 1 := by omega
      have p1 : 0 ≤ (n : Int) + 1 := by omega
      have p3 : n + 1 ≤ t.length := by omega
      have p4 : n ≤ n + 1 := by omega
      repeat' (first
        | refine ar_end rfl ?_
        | refine ar_endD rfl (by kernel_rfl) ?_
        | refine ar_fin rfl ?_
        | refine ar_finD rfl (by kernel_rfl) ?_
        | refine ar_callV Try.call57 hcnt rfl rfl rfl rfl rfl (by simp; done) (by rfl) (by simp; done) ?_
        | refine ar_callV_if Try.call57 hcnt rfl rfl rfl rfl rfl rfl (by simp; done) rfl (by rfl) (by simp; done) ?_
        | refine ar_appO rfl rfl rfl rfl rfl (by simp; exact rfl) rfl (by simp; exact rfl) (by simp; exact rfl) (by simp; exact ⟨rfl, rfl⟩) rfl (by simp; exact rfl) (by simp; done) (by decide) (by simp [insL_len, thsL_len, maxLen]; try omega) ?_
        | refine lq_normR (.loc 61) (.loc 1001) [1, 3, 4, 5, 6, 7] [.loc 1, .loc 6, .loc 1001] (by simp; exact rfl) ⟨n, by omega⟩ (by dsimp only; omega) (by rw [s1, s2, hrd]; simp [thsL, Int.add_comm])
        | refine ar_go3 _ rfl (by simp [insL_len, thsL_len, insL_getE, thsL_getE, inL, ints_len, hlt, hth, hso, q1, q2, q3, q4, t1, p1, p3, p4]; exact ⟨rfl, rfl, rfl⟩) rfl ?_
        | refine aw_sregK 0 [0] ?_
        | refine aw_regK 0 [0] ?_
        | refine aw_sregK 1 [1] ?_
        | refine aw_regK 1 [1] ?_
        | refine aw_sregK 2 [1, 3] ?_
        | refine aw_regK 2 [1, 3] ?_
        | refine aw_sregK 3 [3] ?_
        | refine aw_regK 3 [3] ?_
        | refine aw_sregK 4 [1, 3] ?_
        | refine aw_regK 4 [1, 3] ?_
        | refine aw_sregK 5 [1, 3, 4] ?_
        | refine aw_regK 5 [1, 3, 4] ?_
        | refine aw_sregK 6 [1, 3, 4, 5] ?_
        | refine aw_regK 6 [1, 3, 4, 5] ?_
        | refine aw_sregK 7 [1, 3, 4, 5, 6] ?_
        | refine aw_regK 7 [1, 3, 4, 5, 6] ?_
        | refine aw_sregK 8 [1, 3, 4, 5, 6] ?_
        | refine aw_regK 8 [1, 3, 4, 5, 6] ?_
        | refine aw_sregK 9 [1, 3, 4, 5, 6, 7] ?_
        | refine aw_regK 9 [1, 3, 4, 5, 6, 7] ?_
        | refine aw_sregK 10 [1, 3, 4, 5, 6, 7] ?_
        | refine aw_regK 10 [1, 3, 4, 5, 6, 7] ?_
        | refine aw_sregK 11 [1, 3, 4, 5, 6, 7] ?_
        | refine aw_regK 11 [1, 3, 4, 5, 6, 7] ?_
        | refine aw_sregK 12 [1, 3, 4, 5, 6, 7, 8, 9] ?_
        | refine aw_regK 12 [1, 3, 4, 5, 6, 7, 8, 9] ?_
        | refine aw_sregK 13 [1, 3, 4, 5, 6, 7, 9] ?_
        | refine aw_regK 13 [1, 3, 4, 5, 6, 7, 9] ?_
        | refine aw_sregKD mixed 14 [1, 3, 4, 5, 6, 7] (by simp; exact rfl) ?_
        | refine aw_regKD mixed 14 [1, 3, 4, 5, 6, 7] (by simp; exact rfl) ?_
        | refine aw_sregK 15 [1, 3, 4, 5, 6] ?_
        | refine aw_regK 15 [1, 3, 4, 5, 6] ?_
        | refine aw_sregK 16 [1, 3, 4, 5, 6, 10, 11] ?_
        | refine aw_regK 16 [1, 3, 4, 5, 6, 10, 11] ?_
        | refine aw_sregK 17 [1, 3, 4, 5, 6, 10, 11, 12, 13] ?_
        | refine aw_regK 17 [1, 3, 4, 5, 6, 10, 11, 12, 13] ?_
        | refine aw_sregK 18 [3, 4, 5, 6, 10, 11, 12, 13, 16] ?_
        | refine aw_regK 18 [3, 4, 5, 6, 10, 11, 12, 13, 16] ?_
        | refine aw_sregK 19 [3, 4, 5, 10, 11, 12, 13, 16, 19] ?_
        | refine aw_regK 19 [3, 4, 5, 10, 11, 12, 13, 16, 19] ?_
        | refine aw_sreg ?_
        | refine aw_sregD mixed ?_
        | refine aw_ifT (b := true) rfl rfl ?_
        | refine aw_ifF (b := false) rfl rfl ?_
        | refine aw_ifT rfl (by assumption) ?_
        | refine aw_ifF rfl (by assumption) ?_
        | refine aw_ifT rfl (decide_eq_true (by assumption)) ?_
        | refine aw_ifF rfl (decide_eq_false (by assumption)) ?_
        | refine aw_seq ?_
        | refine aw_block ?_
        | refine aw_skip ?_
        | refine aw_region ?_
        | refine aw_region_draw mixed ?_
        | refine aw_exit ?_
        | refine rq_exit ?_
        | refine blockQ_hit ?_
        | refine blockQ_miss (by decide) ?_
        | (refine ar_guard rfl rfl rfl rfl (fun h => ?_) (fun h => ?_) <;> (fail_if_success (cases h; done)) <;> (try simp at h) <;> (try subst h))
        | (refine aw_both rfl (fun h => ?_) (fun h => ?_) <;> (fail_if_success (cases h; done)) <;> (try simp at h) <;> (try subst h)))
    | zero =>
      have hc1 := c_Count hf
      have hc2 := c_Count hf.rev
      rw [kcT_rev, kcT_rev] at hc2
      have he : ((checkF i t.reverse).2.2 = 0) = ((checkF i t).2.2 = 0) := by have := okTest_rev i t; unfold okTest at this; simpa using this
      refine aw_frz (.loc 1001) (by simp; exact rfl) ?_
      repeat' (first
        | exact aw_ret (ret_vals (by simp; exact rfl) (by simp [*]; fail_if_success (show _)))
        | exact aw_ret (ret_vals (by simp; exact rfl) (by simp [*]; omega))
        | refine ar_end rfl ?_
        | refine ar_endD rfl (by kernel_rfl) ?_
        | refine ar_fin rfl ?_
        | refine ar_finD rfl (by kernel_rfl) ?_
        | refine ar_callV Try.call57 hc1 rfl rfl rfl rfl rfl (by simp; done) (by rfl) (by simp; done) ?_
        | refine ar_callV_if Try.call57 hc1 rfl rfl rfl rfl rfl rfl (by simp; done) rfl (by rfl) (by simp; done) ?_
        | refine ar_callV Try.call57 hc2 rfl rfl rfl rfl rfl (by simp; done) (by rfl) (by simp; done) ?_
        | refine ar_callV_if Try.call57 hc2 rfl rfl rfl rfl rfl rfl (by simp; done) rfl (by rfl) (by simp; done) ?_
        | refine ar_callV Try.call55 (c_Check (i := i) (t := t) hl) rfl rfl rfl rfl rfl (by simp; done) (by rfl) (by simp; done) ?_
        | refine ar_callV_if Try.call55 (c_Check (i := i) (t := t) hl) rfl rfl rfl rfl rfl rfl (by simp; done) rfl (by rfl) (by simp; done) ?_
        | refine ar_callV Try.call55 (c_Check (i := i) (t := t.reverse) hl) rfl rfl rfl rfl rfl (by simp; done) (by rfl) (by simp; done) ?_
        | refine ar_callV_if Try.call55 (c_Check (i := i) (t := t.reverse) hl) rfl rfl rfl rfl rfl rfl (by simp; done) rfl (by rfl) (by simp; done) ?_
        | refine lq_exit ?_
        | refine ar_go3 _ rfl (by simp [insL_len, thsL_len, insL_getE, thsL_getE, inL, ints_len, he]; exact ⟨rfl, rfl, rfl⟩) rfl ?_
        | refine aw_sregK 0 [0] ?_
        | refine aw_regK 0 [0] ?_
        | refine aw_sregK 1 [1] ?_
        | refine aw_regK 1 [1] ?_
        | refine aw_sregK 2 [1, 3] ?_
        | refine aw_regK 2 [1, 3] ?_
        | refine aw_sregK 3 [3] ?_
        | refine aw_regK 3 [3] ?_
        | refine aw_sregK 4 [1, 3] ?_
        | refine aw_regK 4 [1, 3] ?_
        | refine aw_sregK 5 [1, 3, 4] ?_
        | refine aw_regK 5 [1, 3, 4] ?_
        | refine aw_sregK 6 [1, 3, 4, 5] ?_
        | refine aw_regK 6 [1, 3, 4, 5] ?_
        | refine aw_sregK 7 [1, 3, 4, 5, 6] ?_
        | refine aw_regK 7 [1, 3, 4, 5, 6] ?_
        | refine aw_sregK 8 [1, 3, 4, 5, 6] ?_
        | refine aw_regK 8 [1, 3, 4, 5, 6] ?_
        | refine aw_sregK 9 [1, 3, 4, 5, 6, 7] ?_
        | refine aw_regK 9 [1, 3, 4, 5, 6, 7] ?_
        | refine aw_sregK 10 [1, 3, 4, 5, 6, 7] ?_
        | refine aw_regK 10 [1, 3, 4, 5, 6, 7] ?_
        | refine aw_sregK 11 [1, 3, 4, 5, 6, 7] ?_
        | refine aw_regK 11 [1, 3, 4, 5, 6, 7] ?_
        | refine aw_sregK 12 [1, 3, 4, 5, 6, 7, 8, 9] ?_
        | refine aw_regK 12 [1, 3, 4, 5, 6, 7, 8, 9] ?_
        | refine aw_sregK 13 [1, 3, 4, 5, 6, 7, 9] ?_
        | refine aw_regK 13 [1, 3, 4, 5, 6, 7, 9] ?_
        | refine aw_sregKD mixed 14 [1, 3, 4, 5, 6, 7] (by simp; exact rfl) ?_
        | refine aw_regKD mixed 14 [1, 3, 4, 5, 6, 7] (by simp; exact rfl) ?_
        | refine aw_sregK 15 [1, 3, 4, 5, 6] ?_
        | refine aw_regK 15 [1, 3, 4, 5, 6] ?_
        | refine aw_sregK 16 [1, 3, 4, 5, 6, 10, 11] ?_
        | refine aw_regK 16 [1, 3, 4, 5, 6, 10, 11] ?_
        | refine aw_sregK 17 [1, 3, 4, 5, 6, 10, 11, 12, 13] ?_
        | refine aw_regK 17 [1, 3, 4, 5, 6, 10, 11, 12, 13] ?_
        | refine aw_sregK 18 [3, 4, 5, 6, 10, 11, 12, 13, 16] ?_
        | refine aw_regK 18 [3, 4, 5, 6, 10, 11, 12, 13, 16] ?_
        | refine aw_sregK 19 [3, 4, 5, 10, 11, 12, 13, 16, 19] ?_
        | refine aw_regK 19 [3, 4, 5, 10, 11, 12, 13, 16, 19] ?_
        | refine aw_sreg ?_
        | refine aw_sregD mixed ?_
        | refine aw_ifT (b := true) rfl rfl ?_
        | refine aw_ifF (b := false) rfl rfl ?_
        | refine aw_ifT rfl (by assumption) ?_
        | refine aw_ifF rfl (by assumption) ?_
        | refine aw_ifT rfl (decide_eq_true (by assumption)) ?_
        | refine aw_ifF rfl (decide_eq_false (by assumption)) ?_
        | refine aw_seq ?_
        | refine aw_block ?_
        | refine aw_skip ?_
        | refine aw_region ?_
        | refine aw_region_draw mixed ?_
        | refine aw_exit ?_
        | refine rq_exit ?_
        | refine blockQ_hit ?_
        | refine blockQ_miss (by decide) ?_
        | (refine ar_guard rfl rfl rfl rfl (fun h => ?_) (fun h => ?_) <;> (fail_if_success (cases h; done)) <;> (try simp at h) <;> (try subst h))
        | (refine aw_both rfl (fun h => ?_) (fun h => ?_) <;> (fail_if_success (cases h; done)) <;> (try simp at h) <;> (try subst h)))
end Go.Eng
