import Derived.Test.YtclegllogeanlaaRefD
set_option linter.unusedSimpArgs false
set_option linter.unusedVariables false
set_option linter.constructorNameAsVariable false
set_option autoImplicit false
namespace Go.Eng
open Go Go.RowKit Go.Proofs
/-! ## Whether writes may come so, by definition -/
theorem plusStep_mono (r : RL) (j i : Nat) {a b : Nat} (h : bitR r a b = true) : bitR (plusStep r j i) a b = true := by
  unfold plusStep
  split
  · rename_i hij
    by_cases hx : a = i
    · subst hx
      have hxl : a < r.length := by
        by_cases hq : a < r.length
        · exact hq
        · rw [bit_out (by omega)] at h; cases h
      unfold bitR at h ⊢
      rw [getD_in _ _ (by simpa using hxl), List.getElem_set_self, or_bit, h, Bool.true_or]
    · unfold bitR at h ⊢
      by_cases hxl : a < r.length
      · rw [getD_in _ _ (by simpa using hxl), List.getElem_set_ne (fun e => hx e.symm)]
        rw [getD_in _ _ hxl] at h; exact h
      · rw [getD_out _ _ (by omega)] at h; simp at h
  · exact h
theorem plusIn_mono (r : RL) (j : Nat) {a b : Nat} (h : bitR r a b = true) : ∀ i, bitR (plusIn r j i) a b = true
  | 0 => h
  | i + 1 => plusStep_mono _ _ _ (plusIn_mono r j h i)
theorem plusUp_mono (n : Nat) (r : RL) {a b : Nat} (h : bitR r a b = true) : ∀ j, bitR (plusUp n r j) a b = true
  | 0 => h
  | j + 1 => plusIn_mono _ _ (plusUp_mono n r h j) n
theorem plusStep_adds {r : RL} {j i c : Nat} (h1 : bitR r i j = true) (h2 : bitR r j c = true) : bitR (plusStep r j i) i c = true := by
  unfold plusStep
  rw [if_pos h1]
  have hxl : i < r.length := by
    by_cases hq : i < r.length
    · exact hq
    · rw [bit_out (by omega)] at h1; cases h1
  unfold bitR at h2 ⊢
  rw [getD_in _ _ (by simpa using hxl), List.getElem_set_self, or_bit, h2, Bool.or_true]
theorem plusIn_adds {r : RL} {j i c : Nat} (h1 : bitR r i j = true) (h2 : bitR r j c = true) : ∀ k, i < k → bitR (plusIn r j k) i c = true
  | 0, h => by omega
  | k + 1, h => by
    by_cases e : i = k
    · subst e
      exact plusStep_adds (plusIn_mono r j h1 i) (plusIn_mono r j h2 i)
    · exact plusStep_mono _ _ _ (plusIn_adds h1 h2 k (by omega))
theorem plusUp_adds {n : Nat} {r : RL} {j i c : Nat} (hi : i < n) (h1 : bitR r i j = true) (h2 : bitR r j c = true) : ∀ k, j < k → bitR (plusUp n r k) i c = true
  | 0, h => by omega
  | k + 1, h => by
    by_cases e : j = k
    · subst e
      exact plusIn_adds (plusUp_mono n r h1 j) (plusUp_mono n r h2 j) n hi
    · exact plusIn_mono _ _ (plusUp_adds hi h1 h2 k (by omega)) n
theorem plus_clean (r : RL) : plusR (cleanR r) = plusR r := by unfold plusR; rw [clean_clean]
theorem same_clean (a b : RL) : sameR a (cleanR b) = sameR a b := by unfold sameR; rw [clean_clean]
theorem same_cleanL (a b : RL) : sameR (cleanR a) b = sameR a b := by unfold sameR; rw [clean_clean]
theorem inv_cleanL (r : RL) : invR (cleanR r) = invR r := by unfold invR; rw [clean_clean]
theorem plus_iff {n : Nat} {r : RL} (h : Cl n r) : sameR (plusR r) r = true ↔ ∀ a b c, a < n → b < n → c < n → bitR r a b = true → bitR r b c = true → bitR r a c = true := by
  constructor
  · intro hs a b c ha hb hc h1 h2
    have hp : plusR r = r := by
      unfold sameR at hs
      have := of_decide_eq_true hs
      rw [h.clean] at this
      have hcl : cleanR (plusR r) = plusR r := by
        have hz : Cl n (plusR r) := by
          refine ⟨h.n32, by unfold plusR; rw [plusUp_len, h.clean, h.len], fun i k hk => ?_⟩
          have hno : ∀ (x : RL) j, (∀ i k, n ≤ k → bitR x i k = false) → ∀ i, ∀ a k, n ≤ k → bitR (plusStep x j i) a k = false := fun x j hx i a k hk => by
            refine Bool.eq_false_iff.2 fun hb => ?_
            unfold plusStep at hb
            split at hb
            · by_cases ha : a = i
              · subst ha
                unfold bitR at hb
                by_cases hl : a < x.length
                · rw [getD_in _ _ (by simpa using hl), List.getElem_set_self, or_bit] at hb
                  have e1 := hx a k hk
                  have e2 := hx j k hk
                  unfold bitR at e1 e2
                  rw [e1, e2] at hb; cases hb
                · rw [getD_out _ _ (by simp; omega)] at hb; simp at hb
              · have e1 := hx a k hk
                unfold bitR at hb e1
                by_cases hl : a < x.length
                · rw [getD_in _ _ (by simpa using hl), List.getElem_set_ne (fun e => ha e.symm)] at hb
                  rw [getD_in _ _ hl, hb] at e1; cases e1
                · rw [getD_out _ _ (by simp; omega)] at hb; simp at hb
            · rw [hx a k hk] at hb; cases hb
          have h1 : ∀ (x : RL) j, (∀ i k, n ≤ k → bitR x i k = false) → ∀ i, ∀ a k, n ≤ k → bitR (plusIn x j i) a k = false := fun x j hx i => by
            induction i with
            | zero => exact hx
            | succ i ih => exact hno _ _ ih i
          have h2 : ∀ m j, ∀ a k, n ≤ k → bitR (plusUp m (cleanR r) j) a k = false := fun m j => by
            induction j with
            | zero => rw [h.clean]; exact h.out
            | succ j ih => exact h1 _ _ ih _
          exact h2 _ _ i k hk
        exact hz.clean
      rw [hcl] at this; exact this
    have h3 : bitR (plusR r) a c = true := by
      unfold plusR
      rw [h.clean, h.len]
      exact plusUp_adds ha h1 h2 n hb
    rw [hp] at h3; exact h3
  · intro ht
    rw [plus_id h ht]; unfold sameR; simp
def alikW (x y : Ev) (ne : Bool) : Bool := ne && decide (x.k = 2) && decide (y.k = 2) && decide (x.l = y.l)
/-- One pair is as it should be. -/
def okP (es : List Ev) (co : RL) (i k : Nat) : Prop := (∀ x y, es[i]? = some x → es[k]? = some y → ¬((alikW x y (decide (¬i = k)) = true ∧ hasR co i k = hasR co k i) ∨ (alikW x y (decide (¬i = k)) = false ∧ hasR co i k = true))) ∧ (hasR co i k = true → ∀ j : Nat, j < es.length → hasR co k j = true → hasR co i j = true)
theorem fits_def {es : List Ev} {co : RL} (h32 : es.length ≤ 32) (hl : co.length = es.length) : fitsF es co = true ↔ ∀ i k, i < es.length → k < es.length → okP es co i k := by
  have hc : Cl es.length (cleanR co) := by have := clean_cl (r := co) (by omega); rwa [hl] at this
  have e0 : fitsF es co = fitsF es (cleanR co) := by
    unfold fitsF
    rw [clean_len (by omega), both_cleanL, both_cleanL, inv_cleanL, plus_clean, same_clean]
  have hh : ∀ i k : Nat, i < es.length → k < es.length → hasR co (i : Int) (k : Int) = bitR (cleanR co) i k := fun i k hi hk => by
    rw [has_size, clean_bit (by omega)]
    have e1 : rsize co = es.length := by unfold rsize; rw [if_neg (by omega), hl]
    rw [e1, hl]
    simp [hi, hk]
  rw [e0, fits_iff hc, plus_iff hc]
  constructor
  · rintro ⟨⟨h1, h2⟩, h3⟩ i k hi hk
    refine ⟨fun x y hx hy => ?_, fun hb j hj hb2 => ?_⟩
    · have ex : es[i] = x := by rw [List.getElem?_eq_getElem hi] at hx; exact Option.some.inj hx
      have ey : es[k] = y := by rw [List.getElem?_eq_getElem hk] at hy; exact Option.some.inj hy
      rw [hh i k hi hk, hh k i hk hi]
      have e1 := h1 i k hi hk
      have e2 := h2 i k hi hk
      rw [ex, ey] at e1
      change _ = alikW x y (decide (¬i = k)) at e1
      rw [← e1]
      cases hA : bitR (cleanR co) i k <;> cases hB : bitR (cleanR co) k i <;> simp [hA, hB] at e2 ⊢
    · rw [hh i k hi hk] at hb
      rw [hh k j hk hj] at hb2
      rw [hh i j hi hj]
      exact h3 i k j hi hk hj hb hb2
  · intro h
    have hb : ∀ a b, (ha : a < es.length) → (hb : b < es.length) → (bitR (cleanR co) a b || bitR (cleanR co) b a) = alikW es[a] es[b] (decide (¬a = b)) ∧ (bitR (cleanR co) a b && bitR (cleanR co) b a) = false := fun a b ha hb => by
      have h1 := (h a b ha hb).1 es[a] es[b] (List.getElem?_eq_getElem ha) (List.getElem?_eq_getElem hb)
      have h2 := (h b a hb ha).1 es[b] es[a] (List.getElem?_eq_getElem hb) (List.getElem?_eq_getElem ha)
      rw [hh a b ha hb, hh b a hb ha] at h1 h2
      have hs : alikW es[b] es[a] (decide (¬b = a)) = alikW es[a] es[b] (decide (¬a = b)) := by
        unfold alikW
        have e1 : decide (¬b = a) = decide (¬a = b) := by
          by_cases e : a = b
          · simp [e]
          · simp [e]; exact fun h => e h.symm
        have e2 : decide (es[b].l = es[a].l) = decide (es[a].l = es[b].l) := by
          by_cases e : es[a].l = es[b].l
          · simp [e]
          · simp [e]; exact fun h => e h.symm
        rw [e1, e2]
        cases decide (¬a = b) <;> cases decide (es[a].k = 2) <;> cases decide (es[b].k = 2) <;> simp
      rw [hs] at h2
      generalize alikW es[a] es[b] (decide (¬a = b)) = al at *
      generalize bitR (cleanR co) a b = q1 at *
      generalize bitR (cleanR co) b a = q2 at *
      clear hs
      cases al <;> cases q1 <;> cases q2 <;> simp at h1 h2 ⊢
    exact ⟨⟨fun a b ha hb2 => (hb a b ha hb2).1, fun a b ha hb2 => (hb a b ha hb2).2⟩, fun a b c ha hb2 hc2 h1 h2 => by
      have := (h a b ha hb2).2 (by rw [hh a b ha hb2]; exact h1) c hc2 (by rw [hh b c hb2 hc2]; exact h2)
      rwa [hh a c ha hc2] at this⟩
set_option maxHeartbeats 16000000 in
theorem c_rfits {es : List Ev} {co : RL} (h32 : es.length ≤ 32) : SC Try.prog 38 [.agg (exL es), .pv (.sl 1 (rl co))] (B (fitsF es co)) := by
  by_cases hl : co.length = es.length
  rotate_left
  · have hlI : ¬(co.length : Int) = (es.length : Int) := by omega
    have e : fitsF es co = false := by unfold fitsF; rw [decide_eq_false hl]; rfl
    rw [e]
    refine scx_of Try.func38 rfl rfl rfl (Nat.le_of_ble_eq_true rfl) ?_
    repeat' (first
      | exact aw_ret (ret_vals (by simp; exact rfl) (by simp [*]; fail_if_success (show _)))
      | exact aw_ret (ret_vals (by simp; exact rfl) (by simp [*]; omega))
      | refine ar_end rfl ?_
      | refine ar_endD rfl (by kernel_rfl) ?_
      | refine ar_fin rfl ?_
      | refine ar_finD rfl (by kernel_rfl) ?_
      | refine ar_go3 _ rfl (by simp [evsL_len, evsL_getE, evL, prs_len, prs_getE, rl_len, rl_getE, rl_set, rl_nil, List.length_set, List.getElem_set, IntKind.bits, ub_shl1', ub_shr, ub_or, ub_and, ub_andNot, ub_bit, Int.toNat_natCast, ub_zero, hlI]; exact ⟨rfl, rfl, rfl⟩) rfl ?_
      | refine aw_sregK 0 [0, 1] ?_
      | refine aw_regK 0 [0, 1] ?_
      | refine aw_sregK 1 [1, 2] ?_
      | refine aw_regK 1 [1, 2] ?_
      | refine aw_sregK 2 [1, 2, 5] ?_
      | refine aw_regK 2 [1, 2, 5] ?_
      | refine aw_sregK 3 [] ?_
      | refine aw_regK 3 [] ?_
      | refine aw_sreg ?_
      | refine aw_sregD mixed ?_
      | refine aw_ifT (b := true) rfl rfl ?_
      | refine aw_ifF (b := false) rfl rfl ?_
      | refine aw_ifT rfl (by assumption) ?_
      | refine aw_ifF rfl (by assumption) ?_
      | refine aw_ifT rfl (decide_eq_true (by assumption)) ?_
      | refine aw_ifF rfl (decide_eq_false (by assumption)) ?_
      | refine aw_seq ?_
      | refine aw_block ?_
      | refine aw_skip ?_
      | refine aw_region ?_
      | refine aw_region_draw mixed ?_
      | refine aw_exit ?_
      | refine rq_exit ?_
      | refine blockQ_hit ?_
      | refine blockQ_miss (by decide) ?_
      | (refine ar_guard rfl rfl rfl rfl (fun h => ?_) (fun h => ?_) <;> (fail_if_success (cases h; done)) <;> (try simp at h) <;> (try subst h))
      | (refine aw_both rfl (fun h => ?_) (fun h => ?_) <;> (fail_if_success (cases h; done)) <;> (try simp at h) <;> (try subst h)))
  have hlI : (co.length : Int) = (es.length : Int) := by omega
  have hN : ¬(32 : Int) < (es.length : Int) := by omega
  have hdef := fits_def h32 hl
  generalize fitsF es co = Z at *
  have hbad : ∀ i k, i < es.length → k < es.length → ¬okP es co i k → Z = false := fun i k hi hk h => by
    refine Bool.eq_false_iff.2 fun hz => h (hdef.1 hz i k hi hk)
  refine scx_of Try.func38 rfl rfl rfl (Nat.le_of_ble_eq_true rfl) ?_
  repeat' (first
    | refine ar_end rfl ?_
    | refine ar_endD rfl (by kernel_rfl) ?_
    | refine ar_fin rfl ?_
    | refine ar_finD rfl (by kernel_rfl) ?_
    | refine ar_go3 _ rfl (by simp [evsL_len, evsL_getE, evL, prs_len, prs_getE, rl_len, rl_getE, rl_set, rl_nil, List.length_set, List.getElem_set, IntKind.bits, ub_shl1', ub_shr, ub_or, ub_and, ub_andNot, ub_bit, Int.toNat_natCast, ub_zero, hlI, hN]; exact ⟨rfl, rfl, rfl⟩) rfl ?_
    | refine aw_sregK 0 [0, 1] ?_
    | refine aw_regK 0 [0, 1] ?_
    | refine aw_sregK 1 [1, 2] ?_
    | refine aw_regK 1 [1, 2] ?_
    | refine aw_sregK 2 [1, 2, 5] ?_
    | refine aw_regK 2 [1, 2, 5] ?_
    | refine aw_sregK 4 [1, 2, 5] ?_
    | refine aw_regK 4 [1, 2, 5] ?_
    | refine aw_sreg ?_
    | refine aw_sregD mixed ?_
    | refine aw_ifT (b := true) rfl rfl ?_
    | refine aw_ifF (b := false) rfl rfl ?_
    | refine aw_ifT rfl (by assumption) ?_
    | refine aw_ifF rfl (by assumption) ?_
    | refine aw_ifT rfl (decide_eq_true (by assumption)) ?_
    | refine aw_ifF rfl (decide_eq_false (by assumption)) ?_
    | refine aw_seq ?_
    | refine aw_block ?_
    | refine aw_skip ?_
    | refine aw_region ?_
    | refine aw_region_draw mixed ?_
    | refine aw_exit ?_
    | refine rq_exit ?_
    | refine blockQ_hit ?_
    | refine blockQ_miss (by decide) ?_
    | (refine ar_guard rfl rfl rfl rfl (fun h => ?_) (fun h => ?_) <;> (fail_if_success (cases h; done)) <;> (try simp at h) <;> (try subst h))
    | (refine aw_both rfl (fun h => ?_) (fun h => ?_) <;> (fail_if_success (cases h; done)) <;> (try simp at h) <;> (try subst h)))
  refine aw_loopN [1, 2, 5, 6] [.loc 2] (by simp; exact rfl) (ι := {i : Nat // i ≤ es.length ∧ ∀ a b, a < i → b < es.length → okP es co a b}) (fun i => ⟨105, [(1, .pv (.sl 1 (rl co))), (2, .ptr (.loc 2) 0), (5, I .i64 es.length), (6, I .i64 i.1)], [(.loc 2, some (.box 60 [.pv (.sl 7 (evsL es)), .pv (.v (.slice none 0 0)), .pv (.v (.slice none 0 0)), .pv (.v (.slice none 0 0)), .pv (.v (.slice none 0 0)), .pv (.v (.slice none 0 0)), .pv (.v (.slice none 0 0))]))]⟩) (fun i => es.length - i.1) ⟨0, by omega, fun a b h => absurd h (by omega)⟩ (by simp) ?_
  rintro ⟨i, hi, hpi⟩
  by_cases hil : i < es.length
  · have hw1 : IntKind.wrap .i64 ((i : Int) + 1) = (i : Int) + 1 := wrap64s (by omega) (by omega)
    have hd1 : (i : Int) < (es.length : Int) := by omega
    repeat' (first
      | refine ar_end rfl ?_
      | refine ar_endD rfl (by kernel_rfl) ?_
      | refine ar_fin rfl ?_
      | refine ar_finD rfl (by kernel_rfl) ?_
      | refine ar_go3 _ rfl (by simp [evsL_len, evsL_getE, evL, prs_len, prs_getE, hd1]; exact ⟨rfl, rfl, rfl⟩) rfl ?_
      | refine aw_sregK 5 [1, 2, 5, 6] ?_
      | refine aw_regK 5 [1, 2, 5, 6] ?_
      | refine aw_sregK 7 [1, 2, 5, 6] ?_
      | refine aw_regK 7 [1, 2, 5, 6] ?_
      | refine aw_sreg ?_
      | refine aw_sregD mixed ?_
      | refine aw_ifT (b := true) rfl rfl ?_
      | refine aw_ifF (b := false) rfl rfl ?_
      | refine aw_ifT rfl (by assumption) ?_
      | refine aw_ifF rfl (by assumption) ?_
      | refine aw_ifT rfl (decide_eq_true (by assumption)) ?_
      | refine aw_ifF rfl (decide_eq_false (by assumption)) ?_
      | refine aw_seq ?_
      | refine aw_block ?_
      | refine aw_skip ?_
      | refine aw_region ?_
      | refine aw_region_draw mixed ?_
      | refine aw_exit ?_
      | refine rq_exit ?_
      | refine blockQ_hit ?_
      | refine blockQ_miss (by decide) ?_
      | (refine ar_guard rfl rfl rfl rfl (fun h => ?_) (fun h => ?_) <;> (fail_if_success (cases h; done)) <;> (try simp at h) <;> (try subst h))
      | (refine aw_both rfl (fun h => ?_) (fun h => ?_) <;> (fail_if_success (cases h; done)) <;> (try simp at h) <;> (try subst h)))
    refine aw_loopN [1, 2, 5, 6, 7] [.loc 2] (by simp; exact rfl) (ι := {k : Nat // k ≤ es.length ∧ ∀ b, b < k → okP es co i b}) (fun k => ⟨105, [(1, .pv (.sl 1 (rl co))), (2, .ptr (.loc 2) 0), (5, I .i64 es.length), (6, I .i64 i), (7, I .i64 k.1)], [(.loc 2, some (.box 60 [.pv (.sl 7 (evsL es)), .pv (.v (.slice none 0 0)), .pv (.v (.slice none 0 0)), .pv (.v (.slice none 0 0)), .pv (.v (.slice none 0 0)), .pv (.v (.slice none 0 0)), .pv (.v (.slice none 0 0))]))]⟩) (fun k => es.length - k.1) ⟨0, by omega, fun b h => absurd h (by omega)⟩ (by simp) ?_
    rintro ⟨k, hk, hpk⟩
    by_cases hkl : k < es.length
    · have hw2 : IntKind.wrap .i64 ((k : Int) + 1) = (k : Int) + 1 := wrap64s (by omega) (by omega)
      have hd2 : (k : Int) < (es.length : Int) := by omega
      have hik : ((i : Int) = (k : Int)) ↔ i = k := by omega
      have hH1 := c_rhas (r := co) (i := (i : Int)) (k := (k : Int))
      have hH2 := c_rhas (r := co) (i := (k : Int)) (k := (i : Int))
      have hHj := fun j : Nat => c_rhas (r := co) (i := (i : Int)) (k := (j : Int))
      have hHk := fun j : Nat => c_rhas (r := co) (i := (k : Int)) (k := (j : Int))
      have hok := hbad i k hil hkl
      have hx0 : es[i]? = some es[i] := List.getElem?_eq_getElem hil
      have hy0 : es[k]? = some es[k] := List.getElem?_eq_getElem hkl
      generalize hx : es[i] = x at *
      generalize hy : es[k] = y at *
      have hokd : okP es co i k ↔ (¬((alikW x y (decide (¬i = k)) = true ∧ hasR co i k = hasR co k i) ∨ (alikW x y (decide (¬i = k)) = false ∧ hasR co i k = true))) ∧ (hasR co i k = true → ∀ j : Nat, j < es.length → hasR co k j = true → hasR co i j = true) := by
        unfold okP
        rw [hx0, hy0]
        constructor
        · exact fun h => ⟨h.1 x y rfl rfl, h.2⟩
        · exact fun h => ⟨fun x' y' e1 e2 => by
            have e1 := Option.some.inj e1
            have e2 := Option.some.inj e2
            subst e1; subst e2; exact h.1, h.2⟩
      rw [hokd] at hok
      have hpk2 : okP es co i k → ∀ b, b < k + 1 → okP es co i b := fun h b hb => by
        by_cases e : b = k
        · rw [e]; exact h
        · exact hpk b (by omega)
      rw [hokd] at hpk2
      clear hdef hbad hokd
      generalize hasR co (i : Int) (k : Int) = hab at *
      generalize hasR co (k : Int) (i : Int) = hba at *
      obtain ⟨al, hal⟩ : ∃ al, alikW x y (decide (¬i = k)) = al := ⟨_, rfl⟩
      rw [hal] at hok hpk2
      by_cases e1 : i = k
      · have e1' : (i : Int) = (k : Int) := by omega
        have : al = false := by rw [← hal]; unfold alikW; simp [e1]
        subst this
        subst e1
        cases hab
        · have hp := hpk2 ⟨fun h => (by rcases h with ⟨h, _⟩ | ⟨_, h⟩ <;> cases h), fun h => (by cases h)⟩
          repeat' (first
            | refine ar_end rfl ?_
            | refine ar_endD rfl (by kernel_rfl) ?_
            | refine ar_fin rfl ?_
            | refine ar_finD rfl (by kernel_rfl) ?_
            | refine ar_callV Try.call68 hH1 rfl rfl rfl rfl rfl (by simp; done) (by rfl) (by simp; done) ?_
            | refine ar_callV_if Try.call68 hH1 rfl rfl rfl rfl rfl rfl (by simp; done) rfl (by rfl) (by simp; done) ?_
            | refine ar_callV Try.call68 hH2 rfl rfl rfl rfl rfl (by simp; done) (by rfl) (by simp; done) ?_
            | refine ar_callV_if Try.call68 hH2 rfl rfl rfl rfl rfl rfl (by simp; done) rfl (by rfl) (by simp; done) ?_
            | refine ar_go3 _ rfl (by simp [evsL_len, evsL_getE, evL, prs_len, prs_getE, rl_len, rl_getE, rl_set, rl_nil, List.length_set, List.getElem_set, IntKind.bits, ub_shl1', ub_shr, ub_or, ub_and, ub_andNot, ub_bit, Int.toNat_natCast, ub_zero, hil, hkl, hd1, hd2, hx, hy, hx]; exact ⟨rfl, rfl, rfl⟩) rfl ?_
            | refine aw_sregK 8 [1, 2, 5, 6, 7] ?_
            | refine aw_regK 8 [1, 2, 5, 6, 7] ?_
            | refine aw_sregK 10 [1, 2, 5, 6, 7] ?_
            | refine aw_regK 10 [1, 2, 5, 6, 7] ?_
            | refine aw_sregK 11 [1, 2, 5, 6, 7, 8] ?_
            | refine aw_regK 11 [1, 2, 5, 6, 7, 8] ?_
            | refine aw_sregK 12 [1, 2, 5, 6, 7, 8, 9] ?_
            | refine aw_regK 12 [1, 2, 5, 6, 7, 8, 9] ?_
            | refine aw_sregK 13 [1, 2, 5, 6, 7, 10] ?_
            | refine aw_regK 13 [1, 2, 5, 6, 7, 10] ?_
            | refine aw_sregK 14 [1, 2, 5, 6, 7, 10, 11] ?_
            | refine aw_regK 14 [1, 2, 5, 6, 7, 10, 11] ?_
            | refine aw_sregK 15 [1, 2, 5, 6, 7, 10, 11, 12] ?_
            | refine aw_regK 15 [1, 2, 5, 6, 7, 10, 11, 12] ?_
            | refine aw_sregK 17 [1, 2, 5, 6, 7, 11] ?_
            | refine aw_regK 17 [1, 2, 5, 6, 7, 11] ?_
            | refine aw_sreg ?_
            | refine aw_sregD mixed ?_
            | refine aw_ifT (b := true) rfl rfl ?_
            | refine aw_ifF (b := false) rfl rfl ?_
            | refine aw_ifT rfl (by assumption) ?_
            | refine aw_ifF rfl (by assumption) ?_
            | refine aw_ifT rfl (decide_eq_true (by assumption)) ?_
            | refine aw_ifF rfl (decide_eq_false (by assumption)) ?_
            | refine aw_seq ?_
            | refine aw_block ?_
            | refine aw_skip ?_
            | refine aw_region ?_
            | refine aw_region_draw mixed ?_
            | refine aw_exit ?_
            | refine rq_exit ?_
            | refine blockQ_hit ?_
            | refine blockQ_miss (by decide) ?_
            | (refine ar_guard rfl rfl rfl rfl (fun h => ?_) (fun h => ?_) <;> (fail_if_success (cases h; done)) <;> (try simp at h) <;> (try subst h))
            | (refine aw_both rfl (fun h => ?_) (fun h => ?_) <;> (fail_if_success (cases h; done)) <;> (try simp at h) <;> (try subst h)))
          refine aw_loopN [1, 2, 5, 6, 7, 11, 13] [.loc 2] (by simp; exact rfl) (ι := Unit) (fun _ => ⟨105, [(1, .pv (.sl 1 (rl co))), (2, .ptr (.loc 2) 0), (5, I .i64 es.length), (6, I .i64 i), (7, I .i64 i), (11, B false), (13, I .i64 0)], [(.loc 2, some (.box 60 [.pv (.sl 7 (evsL es)), .pv (.v (.slice none 0 0)), .pv (.v (.slice none 0 0)), .pv (.v (.slice none 0 0)), .pv (.v (.slice none 0 0)), .pv (.v (.slice none 0 0)), .pv (.v (.slice none 0 0))]))]⟩) (fun _ => 0) () (by simp) ?_
          rintro ⟨⟩
          by_cases h0 : (0 : Int) < (es.length : Int)
          ·
            repeat' (first
              | refine ar_end rfl ?_
              | refine ar_endD rfl (by kernel_rfl) ?_
              | refine ar_fin rfl ?_
              | refine ar_finD rfl (by kernel_rfl) ?_
              | {refine lq_exit ?_}
              | refine bq_norm ?_
              | refine lq_normN [1, 2, 5, 6, 7] [.loc 2] (by simp; exact rfl) ⟨i + 1, by omega, hp⟩ (by dsimp only; omega) (by simp [hd2])
              | refine ar_go3 _ rfl (by simp [h0, hw2]; exact ⟨rfl, rfl, rfl⟩) rfl ?_
              | refine aw_sregK 9 [1, 2, 5, 6, 7] ?_
              | refine aw_regK 9 [1, 2, 5, 6, 7] ?_
              | refine aw_sregK 18 [1, 2, 5, 6, 7, 11, 13] ?_
              | refine aw_regK 18 [1, 2, 5, 6, 7, 11, 13] ?_
              | refine aw_sreg ?_
              | refine aw_sregD mixed ?_
              | refine aw_ifT (b := true) rfl rfl ?_
              | refine aw_ifF (b := false) rfl rfl ?_
              | refine aw_ifT rfl (by assumption) ?_
              | refine aw_ifF rfl (by assumption) ?_
              | refine aw_ifT rfl (decide_eq_true (by assumption)) ?_
              | refine aw_ifF rfl (decide_eq_false (by assumption)) ?_
              | refine aw_seq ?_
              | refine aw_block ?_
              | refine aw_skip ?_
              | refine aw_region ?_
              | refine aw_region_draw mixed ?_
              | refine aw_exit ?_
              | refine rq_exit ?_
              | refine blockQ_hit ?_
              | refine blockQ_miss (by decide) ?_
              | (refine ar_guard rfl rfl rfl rfl (fun h => ?_) (fun h => ?_) <;> (fail_if_success (cases h; done)) <;> (try simp at h) <;> (try subst h))
              | (refine aw_both rfl (fun h => ?_) (fun h => ?_) <;> (fail_if_success (cases h; done)) <;> (try simp at h) <;> (try subst h)))
          ·
            repeat' (first
              | refine ar_end rfl ?_
              | refine ar_endD rfl (by kernel_rfl) ?_
              | refine ar_fin rfl ?_
              | refine ar_finD rfl (by kernel_rfl) ?_
              | {refine lq_exit ?_}
              | refine bq_norm ?_
              | refine lq_normN [1, 2, 5, 6, 7] [.loc 2] (by simp; exact rfl) ⟨i + 1, by omega, hp⟩ (by dsimp only; omega) (by simp [hd2])
              | refine ar_go3 _ rfl (by simp [h0, hw2]; exact ⟨rfl, rfl, rfl⟩) rfl ?_
              | refine aw_sregK 9 [1, 2, 5, 6, 7] ?_
              | refine aw_regK 9 [1, 2, 5, 6, 7] ?_
              | refine aw_sregK 18 [1, 2, 5, 6, 7, 11, 13] ?_
              | refine aw_regK 18 [1, 2, 5, 6, 7, 11, 13] ?_
              | refine aw_sreg ?_
              | refine aw_sregD mixed ?_
              | refine aw_ifT (b := true) rfl rfl ?_
              | refine aw_ifF (b := false) rfl rfl ?_
              | refine aw_ifT rfl (by assumption) ?_
              | refine aw_ifF rfl (by assumption) ?_
              | refine aw_ifT rfl (decide_eq_true (by assumption)) ?_
              | refine aw_ifF rfl (decide_eq_false (by assumption)) ?_
              | refine aw_seq ?_
              | refine aw_block ?_
              | refine aw_skip ?_
              | refine aw_region ?_
              | refine aw_region_draw mixed ?_
              | refine aw_exit ?_
              | refine rq_exit ?_
              | refine blockQ_hit ?_
              | refine blockQ_miss (by decide) ?_
              | (refine ar_guard rfl rfl rfl rfl (fun h => ?_) (fun h => ?_) <;> (fail_if_success (cases h; done)) <;> (try simp at h) <;> (try subst h))
              | (refine aw_both rfl (fun h => ?_) (fun h => ?_) <;> (fail_if_success (cases h; done)) <;> (try simp at h) <;> (try subst h)))
        · have hz := hok (fun h => h.1 (.inr ⟨rfl, rfl⟩))
          subst hz
          repeat' (first
            | exact aw_ret (ret_vals (by simp; exact rfl) (by simp [*]; fail_if_success (show _)))
            | exact aw_ret (ret_vals (by simp; exact rfl) (by simp [*]; omega))
            | refine ar_end rfl ?_
            | refine ar_endD rfl (by kernel_rfl) ?_
            | refine ar_fin rfl ?_
            | refine ar_finD rfl (by kernel_rfl) ?_
            | refine ar_callV Try.call68 hH1 rfl rfl rfl rfl rfl (by simp; done) (by rfl) (by simp; done) ?_
            | refine ar_callV_if Try.call68 hH1 rfl rfl rfl rfl rfl rfl (by simp; done) rfl (by rfl) (by simp; done) ?_
            | refine ar_callV Try.call68 hH2 rfl rfl rfl rfl rfl (by simp; done) (by rfl) (by simp; done) ?_
            | refine ar_callV_if Try.call68 hH2 rfl rfl rfl rfl rfl rfl (by simp; done) rfl (by rfl) (by simp; done) ?_
            | refine ar_go3 _ rfl (by simp [evsL_len, evsL_getE, evL, prs_len, prs_getE, rl_len, rl_getE, rl_set, rl_nil, List.length_set, List.getElem_set, IntKind.bits, ub_shl1', ub_shr, ub_or, ub_and, ub_andNot, ub_bit, Int.toNat_natCast, ub_zero, hil, hkl, hd1, hd2, hx, hy, hx]; exact ⟨rfl, rfl, rfl⟩) rfl ?_
            | refine aw_sregK 8 [1, 2, 5, 6, 7] ?_
            | refine aw_regK 8 [1, 2, 5, 6, 7] ?_
            | refine aw_sregK 10 [1, 2, 5, 6, 7] ?_
            | refine aw_regK 10 [1, 2, 5, 6, 7] ?_
            | refine aw_sregK 11 [1, 2, 5, 6, 7, 8] ?_
            | refine aw_regK 11 [1, 2, 5, 6, 7, 8] ?_
            | refine aw_sregK 12 [1, 2, 5, 6, 7, 8, 9] ?_
            | refine aw_regK 12 [1, 2, 5, 6, 7, 8, 9] ?_
            | refine aw_sregK 13 [1, 2, 5, 6, 7, 10] ?_
            | refine aw_regK 13 [1, 2, 5, 6, 7, 10] ?_
            | refine aw_sregK 14 [1, 2, 5, 6, 7, 10, 11] ?_
            | refine aw_regK 14 [1, 2, 5, 6, 7, 10, 11] ?_
            | refine aw_sregK 15 [1, 2, 5, 6, 7, 10, 11, 12] ?_
            | refine aw_regK 15 [1, 2, 5, 6, 7, 10, 11, 12] ?_
            | refine aw_sregK 16 [] ?_
            | refine aw_regK 16 [] ?_
            | refine aw_sreg ?_
            | refine aw_sregD mixed ?_
            | refine aw_ifT (b := true) rfl rfl ?_
            | refine aw_ifF (b := false) rfl rfl ?_
            | refine aw_ifT rfl (by assumption) ?_
            | refine aw_ifF rfl (by assumption) ?_
            | refine aw_ifT rfl (decide_eq_true (by assumption)) ?_
            | refine aw_ifF rfl (decide_eq_false (by assumption)) ?_
            | refine aw_seq ?_
            | refine aw_block ?_
            | refine aw_skip ?_
            | refine aw_region ?_
            | refine aw_region_draw mixed ?_
            | refine aw_exit ?_
            | refine rq_exit ?_
            | refine blockQ_hit ?_
            | refine blockQ_miss (by decide) ?_
            | (refine ar_guard rfl rfl rfl rfl (fun h => ?_) (fun h => ?_) <;> (fail_if_success (cases h; done)) <;> (try simp at h) <;> (try subst h))
            | (refine aw_both rfl (fun h => ?_) (fun h => ?_) <;> (fail_if_success (cases h; done)) <;> (try simp at h) <;> (try subst h)))
      have e1' : ¬(i : Int) = (k : Int) := by omega
      by_cases e2 : x.k = 2
      rotate_left
      · have : al = false := by rw [← hal]; unfold alikW; simp [e2]
        subst this
        cases hab
        · have hp := hpk2 ⟨fun h => (by rcases h with ⟨h, _⟩ | ⟨_, h⟩ <;> cases h), fun h => (by cases h)⟩
          repeat' (first
            | refine ar_end rfl ?_
            | refine ar_endD rfl (by kernel_rfl) ?_
            | refine ar_fin rfl ?_
            | refine ar_finD rfl (by kernel_rfl) ?_
            | refine ar_callV Try.call68 hH1 rfl rfl rfl rfl rfl (by simp; done) (by rfl) (by simp; done) ?_
            | refine ar_callV_if Try.call68 hH1 rfl rfl rfl rfl rfl rfl (by simp; done) rfl (by rfl) (by simp; done) ?_
            | refine ar_callV Try.call68 hH2 rfl rfl rfl rfl rfl (by simp; done) (by rfl) (by simp; done) ?_
            | refine ar_callV_if Try.call68 hH2 rfl rfl rfl rfl rfl rfl (by simp; done) rfl (by rfl) (by simp; done) ?_
            | refine ar_go3 _ rfl (by simp [evsL_len, evsL_getE, evL, prs_len, prs_getE, rl_len, rl_getE, rl_set, rl_nil, List.length_set, List.getElem_set, IntKind.bits, ub_shl1', ub_shr, ub_or, ub_and, ub_andNot, ub_bit, Int.toNat_natCast, ub_zero, hil, hkl, hd1, hd2, hx, hy, e1, e1', e2]; exact ⟨rfl, rfl, rfl⟩) rfl ?_
            | refine aw_sregK 8 [1, 2, 5, 6, 7] ?_
            | refine aw_regK 8 [1, 2, 5, 6, 7] ?_
            | refine aw_sregK 10 [1, 2, 5, 6, 7] ?_
            | refine aw_regK 10 [1, 2, 5, 6, 7] ?_
            | refine aw_sregK 11 [1, 2, 5, 6, 7, 8] ?_
            | refine aw_regK 11 [1, 2, 5, 6, 7, 8] ?_
            | refine aw_sregK 12 [1, 2, 5, 6, 7, 8, 9] ?_
            | refine aw_regK 12 [1, 2, 5, 6, 7, 8, 9] ?_
            | refine aw_sregK 13 [1, 2, 5, 6, 7, 10] ?_
            | refine aw_regK 13 [1, 2, 5, 6, 7, 10] ?_
            | refine aw_sregK 14 [1, 2, 5, 6, 7, 10, 11] ?_
            | refine aw_regK 14 [1, 2, 5, 6, 7, 10, 11] ?_
            | refine aw_sregK 15 [1, 2, 5, 6, 7, 10, 11, 12] ?_
            | refine aw_regK 15 [1, 2, 5, 6, 7, 10, 11, 12] ?_
            | refine aw_sregK 17 [1, 2, 5, 6, 7, 11] ?_
            | refine aw_regK 17 [1, 2, 5, 6, 7, 11] ?_
            | refine aw_sreg ?_
            | refine aw_sregD mixed ?_
            | refine aw_ifT (b := true) rfl rfl ?_
            | refine aw_ifF (b := false) rfl rfl ?_
            | refine aw_ifT rfl (by assumption) ?_
            | refine aw_ifF rfl (by assumption) ?_
            | refine aw_ifT rfl (decide_eq_true (by assumption)) ?_
            | refine aw_ifF rfl (decide_eq_false (by assumption)) ?_
            | refine aw_seq ?_
            | refine aw_block ?_
            | refine aw_skip ?_
            | refine aw_region ?_
            | refine aw_region_draw mixed ?_
            | refine aw_exit ?_
            | refine rq_exit ?_
            | refine blockQ_hit ?_
            | refine blockQ_miss (by decide) ?_
            | (refine ar_guard rfl rfl rfl rfl (fun h => ?_) (fun h => ?_) <;> (fail_if_success (cases h; done)) <;> (try simp at h) <;> (try subst h))
            | (refine aw_both rfl (fun h => ?_) (fun h => ?_) <;> (fail_if_success (cases h; done)) <;> (try simp at h) <;> (try subst h)))
          refine aw_loopN [1, 2, 5, 6, 7, 11, 13] [.loc 2] (by simp; exact rfl) (ι := Unit) (fun _ => ⟨105, [(1, .pv (.sl 1 (rl co))), (2, .ptr (.loc 2) 0), (5, I .i64 es.length), (6, I .i64 i), (7, I .i64 k), (11, B false), (13, I .i64 0)], [(.loc 2, some (.box 60 [.pv (.sl 7 (evsL es)), .pv (.v (.slice none 0 0)), .pv (.v (.slice none 0 0)), .pv (.v (.slice none 0 0)), .pv (.v (.slice none 0 0)), .pv (.v (.slice none 0 0)), .pv (.v (.slice none 0 0))]))]⟩) (fun _ => 0) () (by simp) ?_
          rintro ⟨⟩
          by_cases h0 : (0 : Int) < (es.length : Int)
          ·
            repeat' (first
              | refine ar_end rfl ?_
              | refine ar_endD rfl (by kernel_rfl) ?_
              | refine ar_fin rfl ?_
              | refine ar_finD rfl (by kernel_rfl) ?_
              | {refine lq_exit ?_}
              | refine bq_norm ?_
              | refine lq_normN [1, 2, 5, 6, 7] [.loc 2] (by simp; exact rfl) ⟨k + 1, by omega, hp⟩ (by dsimp only; omega) (by simp [hd2])
              | refine ar_go3 _ rfl (by simp [h0, hw2]; exact ⟨rfl, rfl, rfl⟩) rfl ?_
              | refine aw_sregK 9 [1, 2, 5, 6, 7] ?_
              | refine aw_regK 9 [1, 2, 5, 6, 7] ?_
              | refine aw_sregK 18 [1, 2, 5, 6, 7, 11, 13] ?_
              | refine aw_regK 18 [1, 2, 5, 6, 7, 11, 13] ?_
              | refine aw_sreg ?_
              | refine aw_sregD mixed ?_
              | refine aw_ifT (b := true) rfl rfl ?_
              | refine aw_ifF (b := false) rfl rfl ?_
              | refine aw_ifT rfl (by assumption) ?_
              | refine aw_ifF rfl (by assumption) ?_
              | refine aw_ifT rfl (decide_eq_true (by assumption)) ?_
              | refine aw_ifF rfl (decide_eq_false (by assumption)) ?_
              | refine aw_seq ?_
              | refine aw_block ?_
              | refine aw_skip ?_
              | refine aw_region ?_
              | refine aw_region_draw mixed ?_
              | refine aw_exit ?_
              | refine rq_exit ?_
              | refine blockQ_hit ?_
              | refine blockQ_miss (by decide) ?_
              | (refine ar_guard rfl rfl rfl rfl (fun h => ?_) (fun h => ?_) <;> (fail_if_success (cases h; done)) <;> (try simp at h) <;> (try subst h))
              | (refine aw_both rfl (fun h => ?_) (fun h => ?_) <;> (fail_if_success (cases h; done)) <;> (try simp at h) <;> (try subst h)))
          ·
            repeat' (first
              | refine ar_end rfl ?_
              | refine ar_endD rfl (by kernel_rfl) ?_
              | refine ar_fin rfl ?_
              | refine ar_finD rfl (by kernel_rfl) ?_
              | {refine lq_exit ?_}
              | refine bq_norm ?_
              | refine lq_normN [1, 2, 5, 6, 7] [.loc 2] (by simp; exact rfl) ⟨k + 1, by omega, hp⟩ (by dsimp only; omega) (by simp [hd2])
              | refine ar_go3 _ rfl (by simp [h0, hw2]; exact ⟨rfl, rfl, rfl⟩) rfl ?_
              | refine aw_sregK 9 [1, 2, 5, 6, 7] ?_
              | refine aw_regK 9 [1, 2, 5, 6, 7] ?_
              | refine aw_sregK 18 [1, 2, 5, 6, 7, 11, 13] ?_
              | refine aw_regK 18 [1, 2, 5, 6, 7, 11, 13] ?_
              | refine aw_sreg ?_
              | refine aw_sregD mixed ?_
              | refine aw_ifT (b := true) rfl rfl ?_
              | refine aw_ifF (b := false) rfl rfl ?_
              | refine aw_ifT rfl (by assumption) ?_
              | refine aw_ifF rfl (by assumption) ?_
              | refine aw_ifT rfl (decide_eq_true (by assumption)) ?_
              | refine aw_ifF rfl (decide_eq_false (by assumption)) ?_
              | refine aw_seq ?_
              | refine aw_block ?_
              | refine aw_skip ?_
              | refine aw_region ?_
              | refine aw_region_draw mixed ?_
              | refine aw_exit ?_
              | refine rq_exit ?_
              | refine blockQ_hit ?_
              | refine blockQ_miss (by decide) ?_
              | (refine ar_guard rfl rfl rfl rfl (fun h => ?_) (fun h => ?_) <;> (fail_if_success (cases h; done)) <;> (try simp at h) <;> (try subst h))
              | (refine aw_both rfl (fun h => ?_) (fun h => ?_) <;> (fail_if_success (cases h; done)) <;> (try simp at h) <;> (try subst h)))
        · have hz := hok (fun h => h.1 (.inr ⟨rfl, rfl⟩))
          subst hz
          repeat' (first
            | exact aw_ret (ret_vals (by simp; exact rfl) (by simp [*]; fail_if_success (show _)))
            | exact aw_ret (ret_vals (by simp; exact rfl) (by simp [*]; omega))
            | refine ar_end rfl ?_
            | refine ar_endD rfl (by kernel_rfl) ?_
            | refine ar_fin rfl ?_
            | refine ar_finD rfl (by kernel_rfl) ?_
            | refine ar_callV Try.call68 hH1 rfl rfl rfl rfl rfl (by simp; done) (by rfl) (by simp; done) ?_
            | refine ar_callV_if Try.call68 hH1 rfl rfl rfl rfl rfl rfl (by simp; done) rfl (by rfl) (by simp; done) ?_
            | refine ar_callV Try.call68 hH2 rfl rfl rfl rfl rfl (by simp; done) (by rfl) (by simp; done) ?_
            | refine ar_callV_if Try.call68 hH2 rfl rfl rfl rfl rfl rfl (by simp; done) rfl (by rfl) (by simp; done) ?_
            | refine ar_go3 _ rfl (by simp [evsL_len, evsL_getE, evL, prs_len, prs_getE, rl_len, rl_getE, rl_set, rl_nil, List.length_set, List.getElem_set, IntKind.bits, ub_shl1', ub_shr, ub_or, ub_and, ub_andNot, ub_bit, Int.toNat_natCast, ub_zero, hil, hkl, hd1, hd2, hx, hy, e1, e1', e2]; exact ⟨rfl, rfl, rfl⟩) rfl ?_
            | refine aw_sregK 8 [1, 2, 5, 6, 7] ?_
            | refine aw_regK 8 [1, 2, 5, 6, 7] ?_
            | refine aw_sregK 10 [1, 2, 5, 6, 7] ?_
            | refine aw_regK 10 [1, 2, 5, 6, 7] ?_
            | refine aw_sregK 11 [1, 2, 5, 6, 7, 8] ?_
            | refine aw_regK 11 [1, 2, 5, 6, 7, 8] ?_
            | refine aw_sregK 12 [1, 2, 5, 6, 7, 8, 9] ?_
            | refine aw_regK 12 [1, 2, 5, 6, 7, 8, 9] ?_
            | refine aw_sregK 13 [1, 2, 5, 6, 7, 10] ?_
            | refine aw_regK 13 [1, 2, 5, 6, 7, 10] ?_
            | refine aw_sregK 14 [1, 2, 5, 6, 7, 10, 11] ?_
            | refine aw_regK 14 [1, 2, 5, 6, 7, 10, 11] ?_
            | refine aw_sregK 15 [1, 2, 5, 6, 7, 10, 11, 12] ?_
            | refine aw_regK 15 [1, 2, 5, 6, 7, 10, 11, 12] ?_
            | refine aw_sregK 16 [] ?_
            | refine aw_regK 16 [] ?_
            | refine aw_sreg ?_
            | refine aw_sregD mixed ?_
            | refine aw_ifT (b := true) rfl rfl ?_
            | refine aw_ifF (b := false) rfl rfl ?_
            | refine aw_ifT rfl (by assumption) ?_
            | refine aw_ifF rfl (by assumption) ?_
            | refine aw_ifT rfl (decide_eq_true (by assumption)) ?_
            | refine aw_ifF rfl (decide_eq_false (by assumption)) ?_
            | refine aw_seq ?_
            | refine aw_block ?_
            | refine aw_skip ?_
            | refine aw_region ?_
            | refine aw_region_draw mixed ?_
            | refine aw_exit ?_
            | refine rq_exit ?_
            | refine blockQ_hit ?_
            | refine blockQ_miss (by decide) ?_
            | (refine ar_guard rfl rfl rfl rfl (fun h => ?_) (fun h => ?_) <;> (fail_if_success (cases h; done)) <;> (try simp at h) <;> (try subst h))
            | (refine aw_both rfl (fun h => ?_) (fun h => ?_) <;> (fail_if_success (cases h; done)) <;> (try simp at h) <;> (try subst h)))
      by_cases e3 : y.k = 2
      rotate_left
      · have : al = false := by rw [← hal]; unfold alikW; simp [e3]
        subst this
        cases hab
        · have hp := hpk2 ⟨fun h => (by rcases h with ⟨h, _⟩ | ⟨_, h⟩ <;> cases h), fun h => (by cases h)⟩
          repeat' (first
            | refine ar_end rfl ?_
            | refine ar_endD rfl (by kernel_rfl) ?_
            | refine ar_fin rfl ?_
            | refine ar_finD rfl (by kernel_rfl) ?_
            | refine ar_callV Try.call68 hH1 rfl rfl rfl rfl rfl (by simp; done) (by rfl) (by simp; done) ?_
            | refine ar_callV_if Try.call68 hH1 rfl rfl rfl rfl rfl rfl (by simp; done) rfl (by rfl) (by simp; done) ?_
            | refine ar_callV Try.call68 hH2 rfl rfl rfl rfl rfl (by simp; done) (by rfl) (by simp; done) ?_
            | refine ar_callV_if Try.call68 hH2 rfl rfl rfl rfl rfl rfl (by simp; done) rfl (by rfl) (by simp; done) ?_
            | refine ar_go3 _ rfl (by simp [evsL_len, evsL_getE, evL, prs_len, prs_getE, rl_len, rl_getE, rl_set, rl_nil, List.length_set, List.getElem_set, IntKind.bits, ub_shl1', ub_shr, ub_or, ub_and, ub_andNot, ub_bit, Int.toNat_natCast, ub_zero, hil, hkl, hd1, hd2, hx, hy, e1, e1', e2, e3]; exact ⟨rfl, rfl, rfl⟩) rfl ?_
            | refine aw_sregK 8 [1, 2, 5, 6, 7] ?_
            | refine aw_regK 8 [1, 2, 5, 6, 7] ?_
            | refine aw_sregK 10 [1, 2, 5, 6, 7] ?_
            | refine aw_regK 10 [1, 2, 5, 6, 7] ?_
            | refine aw_sregK 11 [1, 2, 5, 6, 7, 8] ?_
            | refine aw_regK 11 [1, 2, 5, 6, 7, 8] ?_
            | refine aw_sregK 12 [1, 2, 5, 6, 7, 8, 9] ?_
            | refine aw_regK 12 [1, 2, 5, 6, 7, 8, 9] ?_
            | refine aw_sregK 13 [1, 2, 5, 6, 7, 10] ?_
            | refine aw_regK 13 [1, 2, 5, 6, 7, 10] ?_
            | refine aw_sregK 14 [1, 2, 5, 6, 7, 10, 11] ?_
            | refine aw_regK 14 [1, 2, 5, 6, 7, 10, 11] ?_
            | refine aw_sregK 15 [1, 2, 5, 6, 7, 10, 11, 12] ?_
            | refine aw_regK 15 [1, 2, 5, 6, 7, 10, 11, 12] ?_
            | refine aw_sregK 17 [1, 2, 5, 6, 7, 11] ?_
            | refine aw_regK 17 [1, 2, 5, 6, 7, 11] ?_
            | refine aw_sreg ?_
            | refine aw_sregD mixed ?_
            | refine aw_ifT (b := true) rfl rfl ?_
            | refine aw_ifF (b := false) rfl rfl ?_
            | refine aw_ifT rfl (by assumption) ?_
            | refine aw_ifF rfl (by assumption) ?_
            | refine aw_ifT rfl (decide_eq_true (by assumption)) ?_
            | refine aw_ifF rfl (decide_eq_false (by assumption)) ?_
            | refine aw_seq ?_
            | refine aw_block ?_
            | refine aw_skip ?_
            | refine aw_region ?_
            | refine aw_region_draw mixed ?_
            | refine aw_exit ?_
            | refine rq_exit ?_
            | refine blockQ_hit ?_
            | refine blockQ_miss (by decide) ?_
            | (refine ar_guard rfl rfl rfl rfl (fun h => ?_) (fun h => ?_) <;> (fail_if_success (cases h; done)) <;> (try simp at h) <;> (try subst h))
            | (refine aw_both rfl (fun h => ?_) (fun h => ?_) <;> (fail_if_success (cases h; done)) <;> (try simp at h) <;> (try subst h)))
          refine aw_loopN [1, 2, 5, 6, 7, 11, 13] [.loc 2] (by simp; exact rfl) (ι := Unit) (fun _ => ⟨105, [(1, .pv (.sl 1 (rl co))), (2, .ptr (.loc 2) 0), (5, I .i64 es.length), (6, I .i64 i), (7, I .i64 k), (11, B false), (13, I .i64 0)], [(.loc 2, some (.box 60 [.pv (.sl 7 (evsL es)), .pv (.v (.slice none 0 0)), .pv (.v (.slice none 0 0)), .pv (.v (.slice none 0 0)), .pv (.v (.slice none 0 0)), .pv (.v (.slice none 0 0)), .pv (.v (.slice none 0 0))]))]⟩) (fun _ => 0) () (by simp) ?_
          rintro ⟨⟩
          by_cases h0 : (0 : Int) < (es.length : Int)
          ·
            repeat' (first
              | refine ar_end rfl ?_
              | refine ar_endD rfl (by kernel_rfl) ?_
              | refine ar_fin rfl ?_
              | refine ar_finD rfl (by kernel_rfl) ?_
              | {refine lq_exit ?_}
              | refine bq_norm ?_
              | refine lq_normN [1, 2, 5, 6, 7] [.loc 2] (by simp; exact rfl) ⟨k + 1, by omega, hp⟩ (by dsimp only; omega) (by simp [hd2])
              | refine ar_go3 _ rfl (by simp [h0, hw2]; exact ⟨rfl, rfl, rfl⟩) rfl ?_
              | refine aw_sregK 9 [1, 2, 5, 6, 7] ?_
              | refine aw_regK 9 [1, 2, 5, 6, 7] ?_
              | refine aw_sregK 18 [1, 2, 5, 6, 7, 11, 13] ?_
              | refine aw_regK 18 [1, 2, 5, 6, 7, 11, 13] ?_
              | refine aw_sreg ?_
              | refine aw_sregD mixed ?_
              | refine aw_ifT (b := true) rfl rfl ?_
              | refine aw_ifF (b := false) rfl rfl ?_
              | refine aw_ifT rfl (by assumption) ?_
              | refine aw_ifF rfl (by assumption) ?_
              | refine aw_ifT rfl (decide_eq_true (by assumption)) ?_
              | refine aw_ifF rfl (decide_eq_false (by assumption)) ?_
              | refine aw_seq ?_
              | refine aw_block ?_
              | refine aw_skip ?_
              | refine aw_region ?_
              | refine aw_region_draw mixed ?_
              | refine aw_exit ?_
              | refine rq_exit ?_
              | refine blockQ_hit ?_
              | refine blockQ_miss (by decide) ?_
              | (refine ar_guard rfl rfl rfl rfl (fun h => ?_) (fun h => ?_) <;> (fail_if_success (cases h; done)) <;> (try simp at h) <;> (try subst h))
              | (refine aw_both rfl (fun h => ?_) (fun h => ?_) <;> (fail_if_success (cases h; done)) <;> (try simp at h) <;> (try subst h)))
          ·
            repeat' (first
              | refine ar_end rfl ?_
              | refine ar_endD rfl (by kernel_rfl) ?_
              | refine ar_fin rfl ?_
              | refine ar_finD rfl (by kernel_rfl) ?_
              | {refine lq_exit ?_}
              | refine bq_norm ?_
              | refine lq_normN [1, 2, 5, 6, 7] [.loc 2] (by simp; exact rfl) ⟨k + 1, by omega, hp⟩ (by dsimp only; omega) (by simp [hd2])
              | refine ar_go3 _ rfl (by simp [h0, hw2]; exact ⟨rfl, rfl, rfl⟩) rfl ?_
              | refine aw_sregK 9 [1, 2, 5, 6, 7] ?_
              | refine aw_regK 9 [1, 2, 5, 6, 7] ?_
              | refine aw_sregK 18 [1, 2, 5, 6, 7, 11, 13] ?_
              | refine aw_regK 18 [1, 2, 5, 6, 7, 11, 13] ?_
              | refine aw_sreg ?_
              | refine aw_sregD mixed ?_
              | refine aw_ifT (b := true) rfl rfl ?_
              | refine aw_ifF (b := false) rfl rfl ?_
              | refine aw_ifT rfl (by assumption) ?_
              | refine aw_ifF rfl (by assumption) ?_
              | refine aw_ifT rfl (decide_eq_true (by assumption)) ?_
              | refine aw_ifF rfl (decide_eq_false (by assumption)) ?_
              | refine aw_seq ?_
              | refine aw_block ?_
              | refine aw_skip ?_
              | refine aw_region ?_
              | refine aw_region_draw mixed ?_
              | refine aw_exit ?_
              | refine rq_exit ?_
              | refine blockQ_hit ?_
              | refine blockQ_miss (by decide) ?_
              | (refine ar_guard rfl rfl rfl rfl (fun h => ?_) (fun h => ?_) <;> (fail_if_success (cases h; done)) <;> (try simp at h) <;> (try subst h))
              | (refine aw_both rfl (fun h => ?_) (fun h => ?_) <;> (fail_if_success (cases h; done)) <;> (try simp at h) <;> (try subst h)))
        · have hz := hok (fun h => h.1 (.inr ⟨rfl, rfl⟩))
          subst hz
          repeat' (first
            | exact aw_ret (ret_vals (by simp; exact rfl) (by simp [*]; fail_if_success (show _)))
            | exact aw_ret (ret_vals (by simp; exact rfl) (by simp [*]; omega))
            | refine ar_end rfl ?_
            | refine ar_endD rfl (by kernel_rfl) ?_
            | refine ar_fin rfl ?_
            | refine ar_finD rfl (by kernel_rfl) ?_
            | refine ar_callV Try.call68 hH1 rfl rfl rfl rfl rfl (by simp; done) (by rfl) (by simp; done) ?_
            | refine ar_callV_if Try.call68 hH1 rfl rfl rfl rfl rfl rfl (by simp; done) rfl (by rfl) (by simp; done) ?_
            | refine ar_callV Try.call68 hH2 rfl rfl rfl rfl rfl (by simp; done) (by rfl) (by simp; done) ?_
            | refine ar_callV_if Try.call68 hH2 rfl rfl rfl rfl rfl rfl (by simp; done) rfl (by rfl) (by simp; done) ?_
            | refine ar_go3 _ rfl (by simp [evsL_len, evsL_getE, evL, prs_len, prs_getE, rl_len, rl_getE, rl_set, rl_nil, List.length_set, List.getElem_set, IntKind.bits, ub_shl1', ub_shr, ub_or, ub_and, ub_andNot, ub_bit, Int.toNat_natCast, ub_zero, hil, hkl, hd1, hd2, hx, hy, e1, e1', e2, e3]; exact ⟨rfl, rfl, rfl⟩) rfl ?_
            | refine aw_sregK 8 [1, 2, 5, 6, 7] ?_
            | refine aw_regK 8 [1, 2, 5, 6, 7] ?_
            | refine aw_sregK 10 [1, 2, 5, 6, 7] ?_
            | refine aw_regK 10 [1, 2, 5, 6, 7] ?_
            | refine aw_sregK 11 [1, 2, 5, 6, 7, 8] ?_
            | refine aw_regK 11 [1, 2, 5, 6, 7, 8] ?_
            | refine aw_sregK 12 [1, 2, 5, 6, 7, 8, 9] ?_
            | refine aw_regK 12 [1, 2, 5, 6, 7, 8, 9] ?_
            | refine aw_sregK 13 [1, 2, 5, 6, 7, 10] ?_
            | refine aw_regK 13 [1, 2, 5, 6, 7, 10] ?_
            | refine aw_sregK 14 [1, 2, 5, 6, 7, 10, 11] ?_
            | refine aw_regK 14 [1, 2, 5, 6, 7, 10, 11] ?_
            | refine aw_sregK 15 [1, 2, 5, 6, 7, 10, 11, 12] ?_
            | refine aw_regK 15 [1, 2, 5, 6, 7, 10, 11, 12] ?_
            | refine aw_sregK 16 [] ?_
            | refine aw_regK 16 [] ?_
            | refine aw_sreg ?_
            | refine aw_sregD mixed ?_
            | refine aw_ifT (b := true) rfl rfl ?_
            | refine aw_ifF (b := false) rfl rfl ?_
            | refine aw_ifT rfl (by assumption) ?_
            | refine aw_ifF rfl (by assumption) ?_
            | refine aw_ifT rfl (decide_eq_true (by assumption)) ?_
            | refine aw_ifF rfl (decide_eq_false (by assumption)) ?_
            | refine aw_seq ?_
            | refine aw_block ?_
            | refine aw_skip ?_
            | refine aw_region ?_
            | refine aw_region_draw mixed ?_
            | refine aw_exit ?_
            | refine rq_exit ?_
            | refine blockQ_hit ?_
            | refine blockQ_miss (by decide) ?_
            | (refine ar_guard rfl rfl rfl rfl (fun h => ?_) (fun h => ?_) <;> (fail_if_success (cases h; done)) <;> (try simp at h) <;> (try subst h))
            | (refine aw_both rfl (fun h => ?_) (fun h => ?_) <;> (fail_if_success (cases h; done)) <;> (try simp at h) <;> (try subst h)))
      by_cases e4 : x.l = y.l
      rotate_left
      · have : al = false := by rw [← hal]; unfold alikW; simp [e4]
        subst this
        cases hab
        · have hp := hpk2 ⟨fun h => (by rcases h with ⟨h, _⟩ | ⟨_, h⟩ <;> cases h), fun h => (by cases h)⟩
          repeat' (first
            | refine ar_end rfl ?_
            | refine ar_endD rfl (by kernel_rfl) ?_
            | refine ar_fin rfl ?_
            | refine ar_finD rfl (by kernel_rfl) ?_
            | refine ar_callV Try.call68 hH1 rfl rfl rfl rfl rfl (by simp; done) (by rfl) (by simp; done) ?_
            | refine ar_callV_if Try.call68 hH1 rfl rfl rfl rfl rfl rfl (by simp; done) rfl (by rfl) (by simp; done) ?_
            | refine ar_callV Try.call68 hH2 rfl rfl rfl rfl rfl (by simp; done) (by rfl) (by simp; done) ?_
            | refine ar_callV_if Try.call68 hH2 rfl rfl rfl rfl rfl rfl (by simp; done) rfl (by rfl) (by simp; done) ?_
            | refine ar_go3 _ rfl (by simp [evsL_len, evsL_getE, evL, prs_len, prs_getE, rl_len, rl_getE, rl_set, rl_nil, List.length_set, List.getElem_set, IntKind.bits, ub_shl1', ub_shr, ub_or, ub_and, ub_andNot, ub_bit, Int.toNat_natCast, ub_zero, hil, hkl, hd1, hd2, hx, hy, e1, e1', e2, e3, e4]; exact ⟨rfl, rfl, rfl⟩) rfl ?_
            | refine aw_sregK 8 [1, 2, 5, 6, 7] ?_
            | refine aw_regK 8 [1, 2, 5, 6, 7] ?_
            | refine aw_sregK 10 [1, 2, 5, 6, 7] ?_
            | refine aw_regK 10 [1, 2, 5, 6, 7] ?_
            | refine aw_sregK 11 [1, 2, 5, 6, 7, 8] ?_
            | refine aw_regK 11 [1, 2, 5, 6, 7, 8] ?_
            | refine aw_sregK 12 [1, 2, 5, 6, 7, 8, 9] ?_
            | refine aw_regK 12 [1, 2, 5, 6, 7, 8, 9] ?_
            | refine aw_sregK 13 [1, 2, 5, 6, 7, 10] ?_
            | refine aw_regK 13 [1, 2, 5, 6, 7, 10] ?_
            | refine aw_sregK 14 [1, 2, 5, 6, 7, 10, 11] ?_
            | refine aw_regK 14 [1, 2, 5, 6, 7, 10, 11] ?_
            | refine aw_sregK 15 [1, 2, 5, 6, 7, 10, 11, 12] ?_
            | refine aw_regK 15 [1, 2, 5, 6, 7, 10, 11, 12] ?_
            | refine aw_sregK 17 [1, 2, 5, 6, 7, 11] ?_
            | refine aw_regK 17 [1, 2, 5, 6, 7, 11] ?_
            | refine aw_sreg ?_
            | refine aw_sregD mixed ?_
            | refine aw_ifT (b := true) rfl rfl ?_
            | refine aw_ifF (b := false) rfl rfl ?_
            | refine aw_ifT rfl (by assumption) ?_
            | refine aw_ifF rfl (by assumption) ?_
            | refine aw_ifT rfl (decide_eq_true (by assumption)) ?_
            | refine aw_ifF rfl (decide_eq_false (by assumption)) ?_
            | refine aw_seq ?_
            | refine aw_block ?_
            | refine aw_skip ?_
            | refine aw_region ?_
            | refine aw_region_draw mixed ?_
            | refine aw_exit ?_
            | refine rq_exit ?_
            | refine blockQ_hit ?_
            | refine blockQ_miss (by decide) ?_
            | (refine ar_guard rfl rfl rfl rfl (fun h => ?_) (fun h => ?_) <;> (fail_if_success (cases h; done)) <;> (try simp at h) <;> (try subst h))
            | (refine aw_both rfl (fun h => ?_) (fun h => ?_) <;> (fail_if_success (cases h; done)) <;> (try simp at h) <;> (try subst h)))
          refine aw_loopN [1, 2, 5, 6, 7, 11, 13] [.loc 2] (by simp; exact rfl) (ι := Unit) (fun _ => ⟨105, [(1, .pv (.sl 1 (rl co))), (2, .ptr (.loc 2) 0), (5, I .i64 es.length), (6, I .i64 i), (7, I .i64 k), (11, B false), (13, I .i64 0)], [(.loc 2, some (.box 60 [.pv (.sl 7 (evsL es)), .pv (.v (.slice none 0 0)), .pv (.v (.slice none 0 0)), .pv (.v (.slice none 0 0)), .pv (.v (.slice none 0 0)), .pv (.v (.slice none 0 0)), .pv (.v (.slice none 0 0))]))]⟩) (fun _ => 0) () (by simp) ?_
          rintro ⟨⟩
          by_cases h0 : (0 : Int) < (es.length : Int)
          ·
            repeat' (first
              | refine ar_end rfl ?_
              | refine ar_endD rfl (by kernel_rfl) ?_
              | refine ar_fin rfl ?_
              | refine ar_finD rfl (by kernel_rfl) ?_
              | {refine lq_exit ?_}
              | refine bq_norm ?_
              | refine lq_normN [1, 2, 5, 6, 7] [.loc 2] (by simp; exact rfl) ⟨k + 1, by omega, hp⟩ (by dsimp only; omega) (by simp [hd2])
              | refine ar_go3 _ rfl (by simp [h0, hw2]; exact ⟨rfl, rfl, rfl⟩) rfl ?_
              | refine aw_sregK 9 [1, 2, 5, 6, 7] ?_
              | refine aw_regK 9 [1, 2, 5, 6, 7] ?_
              | refine aw_sregK 18 [1, 2, 5, 6, 7, 11, 13] ?_
              | refine aw_regK 18 [1, 2, 5, 6, 7, 11, 13] ?_
              | refine aw_sreg ?_
              | refine aw_sregD mixed ?_
              | refine aw_ifT (b := true) rfl rfl ?_
              | refine aw_ifF (b := false) rfl rfl ?_
              | refine aw_ifT rfl (by assumption) ?_
              | refine aw_ifF rfl (by assumption) ?_
              | refine aw_ifT rfl (decide_eq_true (by assumption)) ?_
              | refine aw_ifF rfl (decide_eq_false (by assumption)) ?_
              | refine aw_seq ?_
              | refine aw_block ?_
              | refine aw_skip ?_
              | refine aw_region ?_
              | refine aw_region_draw mixed ?_
              | refine aw_exit ?_
              | refine rq_exit ?_
              | refine blockQ_hit ?_
              | refine blockQ_miss (by decide) ?_
              | (refine ar_guard rfl rfl rfl rfl (fun h => ?_) (fun h => ?_) <;> (fail_if_success (cases h; done)) <;> (try simp at h) <;> (try subst h))
              | (refine aw_both rfl (fun h => ?_) (fun h => ?_) <;> (fail_if_success (cases h; done)) <;> (try simp at h) <;> (try subst h)))
          ·
            repeat' (first
              | refine ar_end rfl ?_
              | refine ar_endD rfl (by kernel_rfl) ?_
              | refine ar_fin rfl ?_
              | refine ar_finD rfl (by kernel_rfl) ?_
              | {refine lq_exit ?_}
              | refine bq_norm ?_
              | refine lq_normN [1, 2, 5, 6, 7] [.loc 2] (by simp; exact rfl) ⟨k + 1, by omega, hp⟩ (by dsimp only; omega) (by simp [hd2])
              | refine ar_go3 _ rfl (by simp [h0, hw2]; exact ⟨rfl, rfl, rfl⟩) rfl ?_
              | refine aw_sregK 9 [1, 2, 5, 6, 7] ?_
              | refine aw_regK 9 [1, 2, 5, 6, 7] ?_
              | refine aw_sregK 18 [1, 2, 5, 6, 7, 11, 13] ?_
              | refine aw_regK 18 [1, 2, 5, 6, 7, 11, 13] ?_
              | refine aw_sreg ?_
              | refine aw_sregD mixed ?_
              | refine aw_ifT (b := true) rfl rfl ?_
              | refine aw_ifF (b := false) rfl rfl ?_
              | refine aw_ifT rfl (by assumption) ?_
              | refine aw_ifF rfl (by assumption) ?_
              | refine aw_ifT rfl (decide_eq_true (by assumption)) ?_
              | refine aw_ifF rfl (decide_eq_false (by assumption)) ?_
              | refine aw_seq ?_
              | refine aw_block ?_
              | refine aw_skip ?_
              | refine aw_region ?_
              | refine aw_region_draw mixed ?_
              | refine aw_exit ?_
              | refine rq_exit ?_
              | refine blockQ_hit ?_
              | refine blockQ_miss (by decide) ?_
              | (refine ar_guard rfl rfl rfl rfl (fun h => ?_) (fun h => ?_) <;> (fail_if_success (cases h; done)) <;> (try simp at h) <;> (try subst h))
              | (refine aw_both rfl (fun h => ?_) (fun h => ?_) <;> (fail_if_success (cases h; done)) <;> (try simp at h) <;> (try subst h)))
        · have hz := hok (fun h => h.1 (.inr ⟨rfl, rfl⟩))
          subst hz
          repeat' (first
            | exact aw_ret (ret_vals (by simp; exact rfl) (by simp [*]; fail_if_success (show _)))
            | exact aw_ret (ret_vals (by simp; exact rfl) (by simp [*]; omega))
            | refine ar_end rfl ?_
            | refine ar_endD rfl (by kernel_rfl) ?_
            | refine ar_fin rfl ?_
            | refine ar_finD rfl (by kernel_rfl) ?_
            | refine ar_callV Try.call68 hH1 rfl rfl rfl rfl rfl (by simp; done) (by rfl) (by simp; done) ?_
            | refine ar_callV_if Try.call68 hH1 rfl rfl rfl rfl rfl rfl (by simp; done) rfl (by rfl) (by simp; done) ?_
            | refine ar_callV Try.call68 hH2 rfl rfl rfl rfl rfl (by simp; done) (by rfl) (by simp; done) ?_
            | refine ar_callV_if Try.call68 hH2 rfl rfl rfl rfl rfl rfl (by simp; done) rfl (by rfl) (by simp; done) ?_
            | refine ar_go3 _ rfl (by simp [evsL_len, evsL_getE, evL, prs_len, prs_getE, rl_len, rl_getE, rl_set, rl_nil, List.length_set, List.getElem_set, IntKind.bits, ub_shl1', ub_shr, ub_or, ub_and, ub_andNot, ub_bit, Int.toNat_natCast, ub_zero, hil, hkl, hd1, hd2, hx, hy, e1, e1', e2, e3, e4]; exact ⟨rfl, rfl, rfl⟩) rfl ?_
            | refine aw_sregK 8 [1, 2, 5, 6, 7] ?_
            | refine aw_regK 8 [1, 2, 5, 6, 7] ?_
            | refine aw_sregK 10 [1, 2, 5, 6, 7] ?_
            | refine aw_regK 10 [1, 2, 5, 6, 7] ?_
            | refine aw_sregK 11 [1, 2, 5, 6, 7, 8] ?_
            | refine aw_regK 11 [1, 2, 5, 6, 7, 8] ?_
            | refine aw_sregK 12 [1, 2, 5, 6, 7, 8, 9] ?_
            | refine aw_regK 12 [1, 2, 5, 6, 7, 8, 9] ?_
            | refine aw_sregK 13 [1, 2, 5, 6, 7, 10] ?_
            | refine aw_regK 13 [1, 2, 5, 6, 7, 10] ?_
            | refine aw_sregK 14 [1, 2, 5, 6, 7, 10, 11] ?_
            | refine aw_regK 14 [1, 2, 5, 6, 7, 10, 11] ?_
            | refine aw_sregK 15 [1, 2, 5, 6, 7, 10, 11, 12] ?_
            | refine aw_regK 15 [1, 2, 5, 6, 7, 10, 11, 12] ?_
            | refine aw_sregK 16 [] ?_
            | refine aw_regK 16 [] ?_
            | refine aw_sreg ?_
            | refine aw_sregD mixed ?_
            | refine aw_ifT (b := true) rfl rfl ?_
            | refine aw_ifF (b := false) rfl rfl ?_
            | refine aw_ifT rfl (by assumption) ?_
            | refine aw_ifF rfl (by assumption) ?_
            | refine aw_ifT rfl (decide_eq_true (by assumption)) ?_
            | refine aw_ifF rfl (decide_eq_false (by assumption)) ?_
            | refine aw_seq ?_
            | refine aw_block ?_
            | refine aw_skip ?_
            | refine aw_region ?_
            | refine aw_region_draw mixed ?_
            | refine aw_exit ?_
            | refine rq_exit ?_
            | refine blockQ_hit ?_
            | refine blockQ_miss (by decide) ?_
            | (refine ar_guard rfl rfl rfl rfl (fun h => ?_) (fun h => ?_) <;> (fail_if_success (cases h; done)) <;> (try simp at h) <;> (try subst h))
            | (refine aw_both rfl (fun h => ?_) (fun h => ?_) <;> (fail_if_success (cases h; done)) <;> (try simp at h) <;> (try subst h)))
      have : al = true := by rw [← hal]; unfold alikW; simp [e1, e2, e3, e4]
      subst this
      cases hab
      · cases hba
        · have hz := hok (fun h => h.1 (.inl ⟨rfl, rfl⟩))
          subst hz
          repeat' (first
            | exact aw_ret (ret_vals (by simp; exact rfl) (by simp [*]; fail_if_success (show _)))
            | exact aw_ret (ret_vals (by simp; exact rfl) (by simp [*]; omega))
            | refine ar_end rfl ?_
            | refine ar_endD rfl (by kernel_rfl) ?_
            | refine ar_fin rfl ?_
            | refine ar_finD rfl (by kernel_rfl) ?_
            | refine ar_callV Try.call68 hH1 rfl rfl rfl rfl rfl (by simp; done) (by rfl) (by simp; done) ?_
            | refine ar_callV_if Try.call68 hH1 rfl rfl rfl rfl rfl rfl (by simp; done) rfl (by rfl) (by simp; done) ?_
            | refine ar_callV Try.call68 hH2 rfl rfl rfl rfl rfl (by simp; done) (by rfl) (by simp; done) ?_
            | refine ar_callV_if Try.call68 hH2 rfl rfl rfl rfl rfl rfl (by simp; done) rfl (by rfl) (by simp; done) ?_
            | refine ar_go3 _ rfl (by simp [evsL_len, evsL_getE, evL, prs_len, prs_getE, rl_len, rl_getE, rl_set, rl_nil, List.length_set, List.getElem_set, IntKind.bits, ub_shl1', ub_shr, ub_or, ub_and, ub_andNot, ub_bit, Int.toNat_natCast, ub_zero, hil, hkl, hd1, hd2, hx, hy, e1, e1', e2, e3, e4]; exact ⟨rfl, rfl, rfl⟩) rfl ?_
            | refine aw_sregK 8 [1, 2, 5, 6, 7] ?_
            | refine aw_regK 8 [1, 2, 5, 6, 7] ?_
            | refine aw_sregK 10 [1, 2, 5, 6, 7] ?_
            | refine aw_regK 10 [1, 2, 5, 6, 7] ?_
            | refine aw_sregK 11 [1, 2, 5, 6, 7, 8] ?_
            | refine aw_regK 11 [1, 2, 5, 6, 7, 8] ?_
            | refine aw_sregK 12 [1, 2, 5, 6, 7, 8, 9] ?_
            | refine aw_regK 12 [1, 2, 5, 6, 7, 8, 9] ?_
            | refine aw_sregK 13 [1, 2, 5, 6, 7, 10] ?_
            | refine aw_regK 13 [1, 2, 5, 6, 7, 10] ?_
            | refine aw_sregK 14 [1, 2, 5, 6, 7, 10, 11] ?_
            | refine aw_regK 14 [1, 2, 5, 6, 7, 10, 11] ?_
            | refine aw_sregK 15 [1, 2, 5, 6, 7, 10, 11, 12] ?_
            | refine aw_regK 15 [1, 2, 5, 6, 7, 10, 11, 12] ?_
            | refine aw_sregK 16 [] ?_
            | refine aw_regK 16 [] ?_
            | refine aw_sreg ?_
            | refine aw_sregD mixed ?_
            | refine aw_ifT (b := true) rfl rfl ?_
            | refine aw_ifF (b := false) rfl rfl ?_
            | refine aw_ifT rfl (by assumption) ?_
            | refine aw_ifF rfl (by assumption) ?_
            | refine aw_ifT rfl (decide_eq_true (by assumption)) ?_
            | refine aw_ifF rfl (decide_eq_false (by assumption)) ?_
            | refine aw_seq ?_
            | refine aw_block ?_
            | refine aw_skip ?_
            | refine aw_region ?_
            | refine aw_region_draw mixed ?_
            | refine aw_exit ?_
            | refine rq_exit ?_
            | refine blockQ_hit ?_
            | refine blockQ_miss (by decide) ?_
            | (refine ar_guard rfl rfl rfl rfl (fun h => ?_) (fun h => ?_) <;> (fail_if_success (cases h; done)) <;> (try simp at h) <;> (try subst h))
            | (refine aw_both rfl (fun h => ?_) (fun h => ?_) <;> (fail_if_success (cases h; done)) <;> (try simp at h) <;> (try subst h)))
        · have hp := hpk2 ⟨fun h => (by rcases h with ⟨_, h⟩ | ⟨h, _⟩ <;> cases h), fun h => (by cases h)⟩
          repeat' (first
            | refine ar_end rfl ?_
            | refine ar_endD rfl (by kernel_rfl) ?_
            | refine ar_fin rfl ?_
            | refine ar_finD rfl (by kernel_rfl) ?_
            | refine ar_callV Try.call68 hH1 rfl rfl rfl rfl rfl (by simp; done) (by rfl) (by simp; done) ?_
            | refine ar_callV_if Try.call68 hH1 rfl rfl rfl rfl rfl rfl (by simp; done) rfl (by rfl) (by simp; done) ?_
            | refine ar_callV Try.call68 hH2 rfl rfl rfl rfl rfl (by simp; done) (by rfl) (by simp; done) ?_
            | refine ar_callV_if Try.call68 hH2 rfl rfl rfl rfl rfl rfl (by simp; done) rfl (by rfl) (by simp; done) ?_
            | refine ar_go3 _ rfl (by simp [evsL_len, evsL_getE, evL, prs_len, prs_getE, rl_len, rl_getE, rl_set, rl_nil, List.length_set, List.getElem_set, IntKind.bits, ub_shl1', ub_shr, ub_or, ub_and, ub_andNot, ub_bit, Int.toNat_natCast, ub_zero, hil, hkl, hd1, hd2, hx, hy, e1, e1', e2, e3, e4]; exact ⟨rfl, rfl, rfl⟩) rfl ?_
            | refine aw_sregK 8 [1, 2, 5, 6, 7] ?_
            | refine aw_regK 8 [1, 2, 5, 6, 7] ?_
            | refine aw_sregK 10 [1, 2, 5, 6, 7] ?_
            | refine aw_regK 10 [1, 2, 5, 6, 7] ?_
            | refine aw_sregK 11 [1, 2, 5, 6, 7, 8] ?_
            | refine aw_regK 11 [1, 2, 5, 6, 7, 8] ?_
            | refine aw_sregK 12 [1, 2, 5, 6, 7, 8, 9] ?_
            | refine aw_regK 12 [1, 2, 5, 6, 7, 8, 9] ?_
            | refine aw_sregK 13 [1, 2, 5, 6, 7, 10] ?_
            | refine aw_regK 13 [1, 2, 5, 6, 7, 10] ?_
            | refine aw_sregK 14 [1, 2, 5, 6, 7, 10, 11] ?_
            | refine aw_regK 14 [1, 2, 5, 6, 7, 10, 11] ?_
            | refine aw_sregK 15 [1, 2, 5, 6, 7, 10, 11, 12] ?_
            | refine aw_regK 15 [1, 2, 5, 6, 7, 10, 11, 12] ?_
            | refine aw_sregK 17 [1, 2, 5, 6, 7, 11] ?_
            | refine aw_regK 17 [1, 2, 5, 6, 7, 11] ?_
            | refine aw_sreg ?_
            | refine aw_sregD mixed ?_
            | refine aw_ifT (b := true) rfl rfl ?_
            | refine aw_ifF (b := false) rfl rfl ?_
            | refine aw_ifT rfl (by assumption) ?_
            | refine aw_ifF rfl (by assumption) ?_
            | refine aw_ifT rfl (decide_eq_true (by assumption)) ?_
            | refine aw_ifF rfl (decide_eq_false (by assumption)) ?_
            | refine aw_seq ?_
            | refine aw_block ?_
            | refine aw_skip ?_
            | refine aw_region ?_
            | refine aw_region_draw mixed ?_
            | refine aw_exit ?_
            | refine rq_exit ?_
            | refine blockQ_hit ?_
            | refine blockQ_miss (by decide) ?_
            | (refine ar_guard rfl rfl rfl rfl (fun h => ?_) (fun h => ?_) <;> (fail_if_success (cases h; done)) <;> (try simp at h) <;> (try subst h))
            | (refine aw_both rfl (fun h => ?_) (fun h => ?_) <;> (fail_if_success (cases h; done)) <;> (try simp at h) <;> (try subst h)))
          refine aw_loopN [1, 2, 5, 6, 7, 11, 13] [.loc 2] (by simp; exact rfl) (ι := Unit) (fun _ => ⟨105, [(1, .pv (.sl 1 (rl co))), (2, .ptr (.loc 2) 0), (5, I .i64 es.length), (6, I .i64 i), (7, I .i64 k), (11, B false), (13, I .i64 0)], [(.loc 2, some (.box 60 [.pv (.sl 7 (evsL es)), .pv (.v (.slice none 0 0)), .pv (.v (.slice none 0 0)), .pv (.v (.slice none 0 0)), .pv (.v (.slice none 0 0)), .pv (.v (.slice none 0 0)), .pv (.v (.slice none 0 0))]))]⟩) (fun _ => 0) () (by simp) ?_
          rintro ⟨⟩
          by_cases h0 : (0 : Int) < (es.length : Int)
          ·
            repeat' (first
              | refine ar_end rfl ?_
              | refine ar_endD rfl (by kernel_rfl) ?_
              | refine ar_fin rfl ?_
              | refine ar_finD rfl (by kernel_rfl) ?_
              | {refine lq_exit ?_}
              | refine bq_norm ?_
              | refine lq_normN [1, 2, 5, 6, 7] [.loc 2] (by simp; exact rfl) ⟨k + 1, by omega, hp⟩ (by dsimp only; omega) (by simp [hd2])
              | refine ar_go3 _ rfl (by simp [h0, hw2]; exact ⟨rfl, rfl, rfl⟩) rfl ?_
              | refine aw_sregK 9 [1, 2, 5, 6, 7] ?_
              | refine aw_regK 9 [1, 2, 5, 6, 7] ?_
              | refine aw_sregK 18 [1, 2, 5, 6, 7, 11, 13] ?_
              | refine aw_regK 18 [1, 2, 5, 6, 7, 11, 13] ?_
              | refine aw_sreg ?_
              | refine aw_sregD mixed ?_
              | refine aw_ifT (b := true) rfl rfl ?_
              | refine aw_ifF (b := false) rfl rfl ?_
              | refine aw_ifT rfl (by assumption) ?_
              | refine aw_ifF rfl (by assumption) ?_
              | refine aw_ifT rfl (decide_eq_true (by assumption)) ?_
              | refine aw_ifF rfl (decide_eq_false (by assumption)) ?_
              | refine aw_seq ?_
              | refine aw_block ?_
              | refine aw_skip ?_
              | refine aw_region ?_
              | refine aw_region_draw mixed ?_
              | refine aw_exit ?_
              | refine rq_exit ?_
              | refine blockQ_hit ?_
              | refine blockQ_miss (by decide) ?_
              | (refine ar_guard rfl rfl rfl rfl (fun h => ?_) (fun h => ?_) <;> (fail_if_success (cases h; done)) <;> (try simp at h) <;> (try subst h))
              | (refine aw_both rfl (fun h => ?_) (fun h => ?_) <;> (fail_if_success (cases h; done)) <;> (try simp at h) <;> (try subst h)))
          ·
            repeat' (first
              | refine ar_end rfl ?_
              | refine ar_endD rfl (by kernel_rfl) ?_
              | refine ar_fin rfl ?_
              | refine ar_finD rfl (by kernel_rfl) ?_
              | {refine lq_exit ?_}
              | refine bq_norm ?_
              | refine lq_normN [1, 2, 5, 6, 7] [.loc 2] (by simp; exact rfl) ⟨k + 1, by omega, hp⟩ (by dsimp only; omega) (by simp [hd2])
              | refine ar_go3 _ rfl (by simp [h0, hw2]; exact ⟨rfl, rfl, rfl⟩) rfl ?_
              | refine aw_sregK 9 [1, 2, 5, 6, 7] ?_
              | refine aw_regK 9 [1, 2, 5, 6, 7] ?_
              | refine aw_sregK 18 [1, 2, 5, 6, 7, 11, 13] ?_
              | refine aw_regK 18 [1, 2, 5, 6, 7, 11, 13] ?_
              | refine aw_sreg ?_
              | refine aw_sregD mixed ?_
              | refine aw_ifT (b := true) rfl rfl ?_
              | refine aw_ifF (b := false) rfl rfl ?_
              | refine aw_ifT rfl (by assumption) ?_
              | refine aw_ifF rfl (by assumption) ?_
              | refine aw_ifT rfl (decide_eq_true (by assumption)) ?_
              | refine aw_ifF rfl (decide_eq_false (by assumption)) ?_
              | refine aw_seq ?_
              | refine aw_block ?_
              | refine aw_skip ?_
              | refine aw_region ?_
              | refine aw_region_draw mixed ?_
              | refine aw_exit ?_
              | refine rq_exit ?_
              | refine blockQ_hit ?_
              | refine blockQ_miss (by decide) ?_
              | (refine ar_guard rfl rfl rfl rfl (fun h => ?_) (fun h => ?_) <;> (fail_if_success (cases h; done)) <;> (try simp at h) <;> (try subst h))
              | (refine aw_both rfl (fun h => ?_) (fun h => ?_) <;> (fail_if_success (cases h; done)) <;> (try simp at h) <;> (try subst h)))
      · cases hba
        ·
          repeat' (first
            | refine ar_end rfl ?_
            | refine ar_endD rfl (by kernel_rfl) ?_
            | refine ar_fin rfl ?_
            | refine ar_finD rfl (by kernel_rfl) ?_
            | refine ar_callV Try.call68 hH1 rfl rfl rfl rfl rfl (by simp; done) (by rfl) (by simp; done) ?_
            | refine ar_callV_if Try.call68 hH1 rfl rfl rfl rfl rfl rfl (by simp; done) rfl (by rfl) (by simp; done) ?_
            | refine ar_callV Try.call68 hH2 rfl rfl rfl rfl rfl (by simp; done) (by rfl) (by simp; done) ?_
            | refine ar_callV_if Try.call68 hH2 rfl rfl rfl rfl rfl rfl (by simp; done) rfl (by rfl) (by simp; done) ?_
            | refine ar_go3 _ rfl (by simp [evsL_len, evsL_getE, evL, prs_len, prs_getE, rl_len, rl_getE, rl_set, rl_nil, List.length_set, List.getElem_set, IntKind.bits, ub_shl1', ub_shr, ub_or, ub_and, ub_andNot, ub_bit, Int.toNat_natCast, ub_zero, hil, hkl, hd1, hd2, hx, hy, e1, e1', e2, e3, e4]; exact ⟨rfl, rfl, rfl⟩) rfl ?_
            | refine aw_sregK 8 [1, 2, 5, 6, 7] ?_
            | refine aw_regK 8 [1, 2, 5, 6, 7] ?_
            | refine aw_sregK 10 [1, 2, 5, 6, 7] ?_
            | refine aw_regK 10 [1, 2, 5, 6, 7] ?_
            | refine aw_sregK 11 [1, 2, 5, 6, 7, 8] ?_
            | refine aw_regK 11 [1, 2, 5, 6, 7, 8] ?_
            | refine aw_sregK 12 [1, 2, 5, 6, 7, 8, 9] ?_
            | refine aw_regK 12 [1, 2, 5, 6, 7, 8, 9] ?_
            | refine aw_sregK 13 [1, 2, 5, 6, 7, 10] ?_
            | refine aw_regK 13 [1, 2, 5, 6, 7, 10] ?_
            | refine aw_sregK 14 [1, 2, 5, 6, 7, 10, 11] ?_
            | refine aw_regK 14 [1, 2, 5, 6, 7, 10, 11] ?_
            | refine aw_sregK 15 [1, 2, 5, 6, 7, 10, 11, 12] ?_
            | refine aw_regK 15 [1, 2, 5, 6, 7, 10, 11, 12] ?_
            | refine aw_sregK 17 [1, 2, 5, 6, 7, 11] ?_
            | refine aw_regK 17 [1, 2, 5, 6, 7, 11] ?_
            | refine aw_sreg ?_
            | refine aw_sregD mixed ?_
            | refine aw_ifT (b := true) rfl rfl ?_
            | refine aw_ifF (b := false) rfl rfl ?_
            | refine aw_ifT rfl (by assumption) ?_
            | refine aw_ifF rfl (by assumption) ?_
            | refine aw_ifT rfl (decide_eq_true (by assumption)) ?_
            | refine aw_ifF rfl (decide_eq_false (by assumption)) ?_
            | refine aw_seq ?_
            | refine aw_block ?_
            | refine aw_skip ?_
            | refine aw_region ?_
            | refine aw_region_draw mixed ?_
            | refine aw_exit ?_
            | refine rq_exit ?_
            | refine blockQ_hit ?_
            | refine blockQ_miss (by decide) ?_
            | (refine ar_guard rfl rfl rfl rfl (fun h => ?_) (fun h => ?_) <;> (fail_if_success (cases h; done)) <;> (try simp at h) <;> (try subst h))
            | (refine aw_both rfl (fun h => ?_) (fun h => ?_) <;> (fail_if_success (cases h; done)) <;> (try simp at h) <;> (try subst h)))
          refine aw_loopN [1, 2, 5, 6, 7, 11, 13] [.loc 2] (by simp; exact rfl) (ι := {j : Nat // j ≤ es.length ∧ ∀ c : Nat, c < j → hasR co (k : Int) (c : Int) = true → hasR co (i : Int) (c : Int) = true}) (fun j => ⟨105, [(1, .pv (.sl 1 (rl co))), (2, .ptr (.loc 2) 0), (5, I .i64 es.length), (6, I .i64 i), (7, I .i64 k), (11, B true), (13, I .i64 j.1)], [(.loc 2, some (.box 60 [.pv (.sl 7 (evsL es)), .pv (.v (.slice none 0 0)), .pv (.v (.slice none 0 0)), .pv (.v (.slice none 0 0)), .pv (.v (.slice none 0 0)), .pv (.v (.slice none 0 0)), .pv (.v (.slice none 0 0))]))]⟩) (fun j => es.length - j.1) ⟨0, by omega, fun c h => absurd h (by omega)⟩ (by simp) ?_
          rintro ⟨j, hj, hpj⟩
          by_cases hjl : j < es.length
          · have hw3 : IntKind.wrap .i64 ((j : Int) + 1) = (j : Int) + 1 := wrap64s (by omega) (by omega)
            have hd3 : (j : Int) < (es.length : Int) := by omega
            have hJ := hHj j
            have hK := hHk j
            have hnx : (hasR co (k : Int) (j : Int) = true → hasR co (i : Int) (j : Int) = true) → ∀ c : Nat, c < j + 1 → hasR co (k : Int) (c : Int) = true → hasR co (i : Int) (c : Int) = true := fun h c hc => by
              by_cases e : c = j
              · rw [e]; exact h
              · exact hpj c (by omega)
            have hbd : ¬(hasR co (k : Int) (j : Int) = true → hasR co (i : Int) (j : Int) = true) → Z = false := fun h => hok fun g => h (g.2 rfl j hjl)
            generalize hasR co (k : Int) (j : Int) = q1 at *
            generalize hasR co (i : Int) (j : Int) = q2 at *
            cases q1
            · have hnx2 := hnx (fun h => by cases h)
              repeat' (first
                | refine ar_end rfl ?_
                | refine ar_endD rfl (by kernel_rfl) ?_
                | refine ar_fin rfl ?_
                | refine ar_finD rfl (by kernel_rfl) ?_
                | refine ar_callV Try.call68 hJ rfl rfl rfl rfl rfl (by simp; done) (by rfl) (by simp; done) ?_
                | refine ar_callV_if Try.call68 hJ rfl rfl rfl rfl rfl rfl (by simp; done) rfl (by rfl) (by simp; done) ?_
                | refine ar_callV Try.call68 hK rfl rfl rfl rfl rfl (by simp; done) (by rfl) (by simp; done) ?_
                | refine ar_callV_if Try.call68 hK rfl rfl rfl rfl rfl rfl (by simp; done) rfl (by rfl) (by simp; done) ?_
                | refine bq_norm ?_
                | refine lq_normN [1, 2, 5, 6, 7, 11, 13] [.loc 2] (by simp; exact rfl) ⟨j + 1, by omega, hnx2⟩ (by dsimp only; omega) (by simp [hd3])
                | refine ar_go3 _ rfl (by simp [hd3, hw3]; exact ⟨rfl, rfl, rfl⟩) rfl ?_
                | refine aw_sregK 18 [1, 2, 5, 6, 7, 11, 13] ?_
                | refine aw_regK 18 [1, 2, 5, 6, 7, 11, 13] ?_
                | refine aw_sregK 19 [1, 2, 5, 6, 7, 11, 13] ?_
                | refine aw_regK 19 [1, 2, 5, 6, 7, 11, 13] ?_
                | refine aw_sregK 20 [1, 2, 5, 6, 7, 11, 13] ?_
                | refine aw_regK 20 [1, 2, 5, 6, 7, 11, 13] ?_
                | refine aw_sreg ?_
                | refine aw_sregD mixed ?_
                | refine aw_ifT (b := true) rfl rfl ?_
                | refine aw_ifF (b := false) rfl rfl ?_
                | refine aw_ifT rfl (by assumption) ?_
                | refine aw_ifF rfl (by assumption) ?_
                | refine aw_ifT rfl (decide_eq_true (by assumption)) ?_
                | refine aw_ifF rfl (decide_eq_false (by assumption)) ?_
                | refine aw_seq ?_
                | refine aw_block ?_
                | refine aw_skip ?_
                | refine aw_region ?_
                | refine aw_region_draw mixed ?_
                | refine aw_exit ?_
                | refine rq_exit ?_
                | refine blockQ_hit ?_
                | refine blockQ_miss (by decide) ?_
                | (refine ar_guard rfl rfl rfl rfl (fun h => ?_) (fun h => ?_) <;> (fail_if_success (cases h; done)) <;> (try simp at h) <;> (try subst h))
                | (refine aw_both rfl (fun h => ?_) (fun h => ?_) <;> (fail_if_success (cases h; done)) <;> (try simp at h) <;> (try subst h)))
            · cases q2
              · have hz := hbd (fun h => by cases h rfl)
                subst hz
                repeat' (first
                  | exact aw_ret (ret_vals (by simp; exact rfl) (by simp [*]; fail_if_success (show _)))
                  | exact aw_ret (ret_vals (by simp; exact rfl) (by simp [*]; omega))
                  | refine ar_end rfl ?_
                  | refine ar_endD rfl (by kernel_rfl) ?_
                  | refine ar_fin rfl ?_
                  | refine ar_finD rfl (by kernel_rfl) ?_
                  | refine ar_callV Try.call68 hJ rfl rfl rfl rfl rfl (by simp; done) (by rfl) (by simp; done) ?_
                  | refine ar_callV_if Try.call68 hJ rfl rfl rfl rfl rfl rfl (by simp; done) rfl (by rfl) (by simp; done) ?_
                  | refine ar_callV Try.call68 hK rfl rfl rfl rfl rfl (by simp; done) (by rfl) (by simp; done) ?_
                  | refine ar_callV_if Try.call68 hK rfl rfl rfl rfl rfl rfl (by simp; done) rfl (by rfl) (by simp; done) ?_
                  | refine ar_go3 _ rfl (by simp [hd3, hw3]; exact ⟨rfl, rfl, rfl⟩) rfl ?_
                  | refine aw_sregK 18 [1, 2, 5, 6, 7, 11, 13] ?_
                  | refine aw_regK 18 [1, 2, 5, 6, 7, 11, 13] ?_
                  | refine aw_sregK 19 [1, 2, 5, 6, 7, 11, 13] ?_
                  | refine aw_regK 19 [1, 2, 5, 6, 7, 11, 13] ?_
                  | refine aw_sregK 20 [1, 2, 5, 6, 7, 11, 13] ?_
                  | refine aw_regK 20 [1, 2, 5, 6, 7, 11, 13] ?_
                  | refine aw_sregK 21 [] ?_
                  | refine aw_regK 21 [] ?_
                  | refine aw_sreg ?_
                  | refine aw_sregD mixed ?_
                  | refine aw_ifT (b := true) rfl rfl ?_
                  | refine aw_ifF (b := false) rfl rfl ?_
                  | refine aw_ifT rfl (by assumption) ?_
                  | refine aw_ifF rfl (by assumption) ?_
                  | refine aw_ifT rfl (decide_eq_true (by assumption)) ?_
                  | refine aw_ifF rfl (decide_eq_false (by assumption)) ?_
                  | refine aw_seq ?_
                  | refine aw_block ?_
                  | refine aw_skip ?_
                  | refine aw_region ?_
                  | refine aw_region_draw mixed ?_
                  | refine aw_exit ?_
                  | refine rq_exit ?_
                  | refine blockQ_hit ?_
                  | refine blockQ_miss (by decide) ?_
                  | (refine ar_guard rfl rfl rfl rfl (fun h => ?_) (fun h => ?_) <;> (fail_if_success (cases h; done)) <;> (try simp at h) <;> (try subst h))
                  | (refine aw_both rfl (fun h => ?_) (fun h => ?_) <;> (fail_if_success (cases h; done)) <;> (try simp at h) <;> (try subst h)))
              · have hnx2 := hnx (fun _ => rfl)
                repeat' (first
                  | refine ar_end rfl ?_
                  | refine ar_endD rfl (by kernel_rfl) ?_
                  | refine ar_fin rfl ?_
                  | refine ar_finD rfl (by kernel_rfl) ?_
                  | refine ar_callV Try.call68 hJ rfl rfl rfl rfl rfl (by simp; done) (by rfl) (by simp; done) ?_
                  | refine ar_callV_if Try.call68 hJ rfl rfl rfl rfl rfl rfl (by simp; done) rfl (by rfl) (by simp; done) ?_
                  | refine ar_callV Try.call68 hK rfl rfl rfl rfl rfl (by simp; done) (by rfl) (by simp; done) ?_
                  | refine ar_callV_if Try.call68 hK rfl rfl rfl rfl rfl rfl (by simp; done) rfl (by rfl) (by simp; done) ?_
                  | refine bq_norm ?_
                  | refine lq_normN [1, 2, 5, 6, 7, 11, 13] [.loc 2] (by simp; exact rfl) ⟨j + 1, by omega, hnx2⟩ (by dsimp only; omega) (by simp [hd3])
                  | refine ar_go3 _ rfl (by simp [hd3, hw3]; exact ⟨rfl, rfl, rfl⟩) rfl ?_
                  | refine aw_sregK 18 [1, 2, 5, 6, 7, 11, 13] ?_
                  | refine aw_regK 18 [1, 2, 5, 6, 7, 11, 13] ?_
                  | refine aw_sregK 19 [1, 2, 5, 6, 7, 11, 13] ?_
                  | refine aw_regK 19 [1, 2, 5, 6, 7, 11, 13] ?_
                  | refine aw_sregK 20 [1, 2, 5, 6, 7, 11, 13] ?_
                  | refine aw_regK 20 [1, 2, 5, 6, 7, 11, 13] ?_
                  | refine aw_sreg ?_
                  | refine aw_sregD mixed ?_
                  | refine aw_ifT (b := true) rfl rfl ?_
                  | refine aw_ifF (b := false) rfl rfl ?_
                  | refine aw_ifT rfl (by assumption) ?_
                  | refine aw_ifF rfl (by assumption) ?_
                  | refine aw_ifT rfl (decide_eq_true (by assumption)) ?_
                  | refine aw_ifF rfl (decide_eq_false (by assumption)) ?_
                  | refine aw_seq ?_
                  | refine aw_block ?_
                  | refine aw_skip ?_
                  | refine aw_region ?_
                  | refine aw_region_draw mixed ?_
                  | refine aw_exit ?_
                  | refine rq_exit ?_
                  | refine blockQ_hit ?_
                  | refine blockQ_miss (by decide) ?_
                  | (refine ar_guard rfl rfl rfl rfl (fun h => ?_) (fun h => ?_) <;> (fail_if_success (cases h; done)) <;> (try simp at h) <;> (try subst h))
                  | (refine aw_both rfl (fun h => ?_) (fun h => ?_) <;> (fail_if_success (cases h; done)) <;> (try simp at h) <;> (try subst h)))
          · have hd3 : ¬(j : Int) < (es.length : Int) := by omega
            have hp := hpk2 ⟨fun h => (by rcases h with ⟨_, h⟩ | ⟨h, _⟩ <;> cases h), fun _ c hc => hpj c (by omega)⟩
            repeat' (first
              | refine ar_end rfl ?_
              | refine ar_endD rfl (by kernel_rfl) ?_
              | refine ar_fin rfl ?_
              | refine ar_finD rfl (by kernel_rfl) ?_
              | {refine lq_exit ?_}
              | refine bq_norm ?_
              | refine lq_normN [1, 2, 5, 6, 7] [.loc 2] (by simp; exact rfl) ⟨k + 1, by omega, hp⟩ (by dsimp only; omega) (by simp [hd2])
              | refine ar_go3 _ rfl (by simp [hd3, hw2]; exact ⟨rfl, rfl, rfl⟩) rfl ?_
              | refine aw_sregK 9 [1, 2, 5, 6, 7] ?_
              | refine aw_regK 9 [1, 2, 5, 6, 7] ?_
              | refine aw_sregK 18 [1, 2, 5, 6, 7, 11, 13] ?_
              | refine aw_regK 18 [1, 2, 5, 6, 7, 11, 13] ?_
              | refine aw_sreg ?_
              | refine aw_sregD mixed ?_
              | refine aw_ifT (b := true) rfl rfl ?_
              | refine aw_ifF (b := false) rfl rfl ?_
              | refine aw_ifT rfl (by assumption) ?_
              | refine aw_ifF rfl (by assumption) ?_
              | refine aw_ifT rfl (decide_eq_true (by assumption)) ?_
              | refine aw_ifF rfl (decide_eq_false (by assumption)) ?_
              | refine aw_seq ?_
              | refine aw_block ?_
              | refine aw_skip ?_
              | refine aw_region ?_
              | refine aw_region_draw mixed ?_
              | refine aw_exit ?_
              | refine rq_exit ?_
              | refine blockQ_hit ?_
              | refine blockQ_miss (by decide) ?_
              | (refine ar_guard rfl rfl rfl rfl (fun h => ?_) (fun h => ?_) <;> (fail_if_success (cases h; done)) <;> (try simp at h) <;> (try subst h))
              | (refine aw_both rfl (fun h => ?_) (fun h => ?_) <;> (fail_if_success (cases h; done)) <;> (try simp at h) <;> (try subst h)))
        · have hz := hok (fun h => h.1 (.inl ⟨rfl, rfl⟩))
          subst hz
          repeat' (first
            | exact aw_ret (ret_vals (by simp; exact rfl) (by simp [*]; fail_if_success (show _)))
            | exact aw_ret (ret_vals (by simp; exact rfl) (by simp [*]; omega))
            | refine ar_end rfl ?_
            | refine ar_endD rfl (by kernel_rfl) ?_
            | refine ar_fin rfl ?_
            | refine ar_finD rfl (by kernel_rfl) ?_
            | refine ar_callV Try.call68 hH1 rfl rfl rfl rfl rfl (by simp; done) (by rfl) (by simp; done) ?_
            | refine ar_callV_if Try.call68 hH1 rfl rfl rfl rfl rfl rfl (by simp; done) rfl (by rfl) (by simp; done) ?_
            | refine ar_callV Try.call68 hH2 rfl rfl rfl rfl rfl (by simp; done) (by rfl) (by simp; done) ?_
            | refine ar_callV_if Try.call68 hH2 rfl rfl rfl rfl rfl rfl (by simp; done) rfl (by rfl) (by simp; done) ?_
            | refine ar_go3 _ rfl (by simp [evsL_len, evsL_getE, evL, prs_len, prs_getE, rl_len, rl_getE, rl_set, rl_nil, List.length_set, List.getElem_set, IntKind.bits, ub_shl1', ub_shr, ub_or, ub_and, ub_andNot, ub_bit, Int.toNat_natCast, ub_zero, hil, hkl, hd1, hd2, hx, hy, e1, e1', e2, e3, e4]; exact ⟨rfl, rfl, rfl⟩) rfl ?_
            | refine aw_sregK 8 [1, 2, 5, 6, 7] ?_
            | refine aw_regK 8 [1, 2, 5, 6, 7] ?_
            | refine aw_sregK 10 [1, 2, 5, 6, 7] ?_
            | refine aw_regK 10 [1, 2, 5, 6, 7] ?_
            | refine aw_sregK 11 [1, 2, 5, 6, 7, 8] ?_
            | refine aw_regK 11 [1, 2, 5, 6, 7, 8] ?_
            | refine aw_sregK 12 [1, 2, 5, 6, 7, 8, 9] ?_
            | refine aw_regK 12 [1, 2, 5, 6, 7, 8, 9] ?_
            | refine aw_sregK 13 [1, 2, 5, 6, 7, 10] ?_
            | refine aw_regK 13 [1, 2, 5, 6, 7, 10] ?_
            | refine aw_sregK 14 [1, 2, 5, 6, 7, 10, 11] ?_
            | refine aw_regK 14 [1, 2, 5, 6, 7, 10, 11] ?_
            | refine aw_sregK 15 [1, 2, 5, 6, 7, 10, 11, 12] ?_
            | refine aw_regK 15 [1, 2, 5, 6, 7, 10, 11, 12] ?_
            | refine aw_sregK 16 [] ?_
            | refine aw_regK 16 [] ?_
            | refine aw_sreg ?_
            | refine aw_sregD mixed ?_
            | refine aw_ifT (b := true) rfl rfl ?_
            | refine aw_ifF (b := false) rfl rfl ?_
            | refine aw_ifT rfl (by assumption) ?_
            | refine aw_ifF rfl (by assumption) ?_
            | refine aw_ifT rfl (decide_eq_true (by assumption)) ?_
            | refine aw_ifF rfl (decide_eq_false (by assumption)) ?_
            | refine aw_seq ?_
            | refine aw_block ?_
            | refine aw_skip ?_
            | refine aw_region ?_
            | refine aw_region_draw mixed ?_
            | refine aw_exit ?_
            | refine rq_exit ?_
            | refine blockQ_hit ?_
            | refine blockQ_miss (by decide) ?_
            | (refine ar_guard rfl rfl rfl rfl (fun h => ?_) (fun h => ?_) <;> (fail_if_success (cases h; done)) <;> (try simp at h) <;> (try subst h))
            | (refine aw_both rfl (fun h => ?_) (fun h => ?_) <;> (fail_if_success (cases h; done)) <;> (try simp at h) <;> (try subst h)))
    · have hd2 : ¬(k : Int) < (es.length : Int) := by omega
      have hpi2 : ∀ a b, a < i + 1 → b < es.length → okP es co a b := fun a b ha hb => by
        by_cases e : a = i
        · rw [e]; exact hpk b (by omega)
        · exact hpi a b (by omega) hb
      repeat' (first
        | refine ar_end rfl ?_
        | refine ar_endD rfl (by kernel_rfl) ?_
        | refine ar_fin rfl ?_
        | refine ar_finD rfl (by kernel_rfl) ?_
        | refine lq_exit ?_
        | refine bq_norm ?_
        | refine lq_normN [1, 2, 5, 6] [.loc 2] (by simp; exact rfl) ⟨i + 1, by omega, hpi2⟩ (by dsimp only; omega) (by simp [hd2])
        | refine ar_go3 _ rfl (by simp [evsL_len, evsL_getE, evL, prs_len, prs_getE, hd2, hw1]; exact ⟨rfl, rfl, rfl⟩) rfl ?_
        | refine aw_sregK 6 [1, 2, 5, 6] ?_
        | refine aw_regK 6 [1, 2, 5, 6] ?_
        | refine aw_sregK 8 [1, 2, 5, 6, 7] ?_
        | refine aw_regK 8 [1, 2, 5, 6, 7] ?_
        | refine aw_sreg ?_
        | refine aw_sregD mixed ?_
        | refine aw_ifT (b := true) rfl rfl ?_
        | refine aw_ifF (b := false) rfl rfl ?_
        | refine aw_ifT rfl (by assumption) ?_
        | refine aw_ifF rfl (by assumption) ?_
        | refine aw_ifT rfl (decide_eq_true (by assumption)) ?_
        | refine aw_ifF rfl (decide_eq_false (by assumption)) ?_
        | refine aw_seq ?_
        | refine aw_block ?_
        | refine aw_skip ?_
        | refine aw_region ?_
        | refine aw_region_draw mixed ?_
        | refine aw_exit ?_
        | refine rq_exit ?_
        | refine blockQ_hit ?_
        | refine blockQ_miss (by decide) ?_
        | (refine ar_guard rfl rfl rfl rfl (fun h => ?_) (fun h => ?_) <;> (fail_if_success (cases h; done)) <;> (try simp at h) <;> (try subst h))
        | (refine aw_both rfl (fun h => ?_) (fun h => ?_) <;> (fail_if_success (cases h; done)) <;> (try simp at h) <;> (try subst h)))
  · have hd1 : ¬(i : Int) < (es.length : Int) := by omega
    have hz : Z = true := hdef.2 fun a b ha hb => hpi a b (by omega) hb
    subst hz
    repeat' (first
      | exact aw_ret (ret_vals (by simp; exact rfl) (by simp [*]; fail_if_success (show _)))
      | exact aw_ret (ret_vals (by simp; exact rfl) (by simp [*]; omega))
      | refine ar_end rfl ?_
      | refine ar_endD rfl (by kernel_rfl) ?_
      | refine ar_fin rfl ?_
      | refine ar_finD rfl (by kernel_rfl) ?_
      | refine lq_exit ?_
      | refine ar_go3 _ rfl (by simp [evsL_len, evsL_getE, evL, prs_len, prs_getE, hd1]; exact ⟨rfl, rfl, rfl⟩) rfl ?_
      | refine aw_sregK 5 [1, 2, 5, 6] ?_
      | refine aw_regK 5 [1, 2, 5, 6] ?_
      | refine aw_sregK 22 [] ?_
      | refine aw_regK 22 [] ?_
      | refine aw_sreg ?_
      | refine aw_sregD mixed ?_
      | refine aw_ifT (b := true) rfl rfl ?_
      | refine aw_ifF (b := false) rfl rfl ?_
      | refine aw_ifT rfl (by assumption) ?_
      | refine aw_ifF rfl (by assumption) ?_
      | refine aw_ifT rfl (decide_eq_true (by assumption)) ?_
      | refine aw_ifF rfl (decide_eq_false (by assumption)) ?_
      | refine aw_seq ?_
      | refine aw_block ?_
      | refine aw_skip ?_
      | refine aw_region ?_
      | refine aw_region_draw mixed ?_
      | refine aw_exit ?_
      | refine rq_exit ?_
      | refine blockQ_hit ?_
      | refine blockQ_miss (by decide) ?_
      | (refine ar_guard rfl rfl rfl rfl (fun h => ?_) (fun h => ?_) <;> (fail_if_success (cases h; done)) <;> (try simp at h) <;> (try subst h))
      | (refine aw_both rfl (fun h => ?_) (fun h => ?_) <;> (fail_if_success (cases h; done)) <;> (try simp at h) <;> (try subst h)))
end Go.Eng
