import Derived.Test.YtamjcdfjkekdjaaFlowE
set_option linter.unusedSimpArgs false
set_option linter.unusedVariables false
set_option linter.constructorNameAsVariable false
set_option autoImplicit false
namespace Go.Eng
open Go Go.RowKit Go.Proofs
/-! Runs grow. -/
structure Grow (A B : Rn) : Prop where
  es : A.es <+: B.es
  nv : A.nv ≤ B.nv
  nl : A.nl ≤ B.nl
theorem Grow.refl (A : Rn) : Grow A A := ⟨List.prefix_refl _, Int.le_refl _, Int.le_refl _⟩
theorem Grow.trans {A B C : Rn} (h : Grow A B) (k : Grow B C) : Grow A C := ⟨h.es.trans k.es, Int.le_trans h.nv k.nv, Int.le_trans h.nl k.nl⟩
theorem step_grow (R : Rn) (x : In) (locs : Int) (vals : List Int) (lucks : List Bool) : Grow R (R.step x locs vals lucks) := by
  refine step_elim (M := Grow R) (fun h1 h => ?_) (fun _ _ => ⟨List.prefix_refl _, Int.le_refl _, Int.le_refl _⟩) (fun _ h he hkk hb => ?_) (fun _ _ _ _ => ?_) (fun _ _ _ => ⟨List.prefix_refl _, Int.le_refl _, Int.le_refl _⟩) (fun _ _ => ⟨List.prefix_refl _, Int.le_refl _, Int.le_refl _⟩) (fun _ => ⟨List.prefix_append _ _, Int.le_refl _, Int.le_refl _⟩) (fun h => ⟨List.prefix_append _ _, Int.le_refl _, Int.le_refl _⟩) (fun _ => ⟨List.prefix_refl _, Int.le_refl _, Int.le_refl _⟩) (fun _ => ?_)
  · have key : Grow R (R.load1 x locs vals[R.nv.toNat]) := ⟨List.prefix_append _ _, by show R.nv ≤ R.nv + 1; omega, Int.le_refl _⟩
    unfold Rn.load
    split
    · exact ⟨key.es, key.nv, key.nl⟩
    · exact ⟨key.es, key.nv, key.nl⟩
  · exact ⟨List.prefix_append _ _, Int.le_refl _, by show R.nl ≤ R.nl + 1; omega⟩
  · exact ⟨List.prefix_refl _, Int.le_refl _, by show R.nl ≤ R.nl + 1; omega⟩
  · unfold Rn.alone
    split <;> exact ⟨List.prefix_refl _, Int.le_refl _, Int.le_refl _⟩
theorem run1_grow (R : Rn) (x : In) (locs : Int) (vals : List Int) (lucks : List Bool) : Grow R (R.run1 x locs vals lucks) := by
  unfold Rn.run1
  split
  · exact ⟨List.prefix_refl _, Int.le_refl _, Int.le_refl _⟩
  · exact step_grow R x locs vals lucks
theorem runL_grow {locs : Int} {vals : List Int} {lucks : List Bool} : ∀ (l : List In) (R : Rn), Grow R (runL locs vals lucks R l)
  | [], R => Grow.refl R
  | x :: l, R => by
    rw [runL]; split
    · exact (run1_grow R x locs vals lucks).trans (runL_grow l _)
    · exact Grow.refl R
theorem runL_stop {locs : Int} {vals : List Int} {lucks : List Bool} {R : Rn} (h : ¬R.more = 0) : ∀ l, runL locs vals lucks R l = R
  | [] => rfl
  | x :: l => by rw [runL, if_neg h]
theorem runL_append {locs : Int} {vals : List Int} {lucks : List Bool} : ∀ (l m : List In) (R : Rn), runL locs vals lucks R (l ++ m) = runL locs vals lucks (runL locs vals lucks R l) m
  | [], m, R => rfl
  | x :: l, m, R => by
    rw [List.cons_append, runL, runL]
    split
    · exact runL_append l m _
    · rename_i h; rw [runL_stop h]
/-! Without branches. -/
def NoBra (th : List In) : Prop := ∀ x ∈ th, ¬x.op = 13 ∧ ¬x.op = 14
theorem may_nobra {x : In} {β γ L : Int} (h : ¬x.op = 13 ∧ ¬x.op = 14) (hm : mayI x β L = true) : mayI x γ L = true := by
  unfold mayI mayF at *
  have : (bif hasI x.op then immF x.op x.m β else named x.op && decide (x.m = 0)) = (bif hasI x.op then immF x.op x.m γ else named x.op && decide (x.m = 0)) := by
    cases hI : hasI x.op
    · rfl
    · unfold hasI at hI
      simp only [decide_eq_true_eq] at hI
      simp only [cond_true]
      unfold immF
      by_cases h1 : x.op = 1
      · rw [if_pos h1, if_pos h1]
      · have h11 : x.op = 11 := by omega
        rw [if_neg h1, if_neg h1, if_pos h11, if_pos h11]
  rw [← this]; exact hm
theorem badI_nobra {L : Int} : ∀ {l : List In} {k : Nat} {len : Int}, (∀ x ∈ l, ∃ β, mayI x β L = true) → NoBra l → badI L len k l = none
  | [], _, _, _, _ => rfl
  | x :: l, k, len, h, hn => by
    obtain ⟨β, hβ⟩ := h x (by simp)
    rw [badI, if_pos (may_nobra (hn x (by simp)) hβ)]
    exact badI_nobra (fun y hy => h y (by simp [hy])) (fun y hy => hn y (by simp [hy]))
theorem may_sub {th s : List In} {L : Int} (h : mayB L th = true) (hn : NoBra th) (hs : ∀ x ∈ s, x ∈ th) (hl : s.length ≤ th.length) : mayB L s = true := by
  obtain ⟨h8, l1, l3, hm⟩ := mayB_facts h
  have hb : badI L s.length 0 s = none := by
    refine badI_nobra (fun x hx => ?_) (fun x hx => hn x (hs x hx))
    obtain ⟨j, hj, e⟩ := List.getElem_of_mem (hs x hx)
    exact ⟨_, by rw [← e]; exact hm j hj⟩
  simp only [mayB, Bool.and_eq_true, decide_eq_true_eq, Option.isNone_iff_eq_none]
  exact ⟨hb, by omega, l1, l3⟩
theorem begins {th : List In} {vals : List Int} {lucks : List Bool} {k : Nat} (h : mayB 2 th = true) (hn : NoBra th) :
    Grow (runF (th.take k) 2 vals lucks) (runF th 2 vals lucks) ∧ ((runF (th.take k) 2 vals lucks).more = 0 ∨ (runF th 2 vals lucks).more = (runF (th.take k) 2 vals lucks).more) := by
  have h2 := may_sub (s := th.take k) h hn (fun x hx => List.mem_of_mem_take hx) (by simp; omega)
  have e1 : runF th 2 vals lucks = runL 2 vals lucks (runL 2 vals lucks Rn0 (th.take k)) (th.drop k) := by
    rw [← runL_append, List.take_append_drop]; simp [runF, h]
  have e2 : runF (th.take k) 2 vals lucks = runL 2 vals lucks Rn0 (th.take k) := by simp [runF, h2]
  rw [e1, e2]
  generalize runL 2 vals lucks Rn0 (th.take k) = A
  refine ⟨runL_grow _ _, ?_⟩
  by_cases hA : A.more = 0
  · exact .inl hA
  · rw [runL_stop hA]; exact .inr rfl
theorem Grow.take {A B : Rn} (h : Grow A B) : B.es.take A.es.length = A.es := by
  obtain ⟨t, e⟩ := h.es
  rw [← e]; simp
/-! With fewer guesses. -/
theorem take_at {α : Type} {l : List α} {k n : Nat} (h : n < k) : (l.take k)[n]? = l[n]? := by rw [List.getElem?_take, if_pos h]
/-- What a step takes of the guesses. -/
theorem step_same {R : Rn} {x : In} {locs : Int} {vals vals' : List Int} {lucks lucks' : List Bool} (hv : kindF x.op = 1 → vals'[R.nv.toNat]? = vals[R.nv.toNat]?) (hl : x.op = 10 → (∃ h : 0 ≤ R.last ∧ R.last.toNat < R.es.length, (R.es[R.last.toNat]'h.2).l = R.loc x locs) → lucks'[R.nl.toNat]? = lucks[R.nl.toNat]?) : R.step x locs vals' lucks' = R.step x locs vals lucks := by
  unfold Rn.step
  by_cases h1 : kindF x.op = 1
  · rw [if_pos h1, if_pos h1]
    have := hv h1
    by_cases h : R.nv.toNat < vals.length
    · rw [List.getElem?_eq_getElem h] at this
      obtain ⟨h', e⟩ := List.getElem?_eq_some_iff.1 this
      rw [dif_pos h, dif_pos h', e]
    · rw [List.getElem?_eq_none (l := vals) (by omega)] at this
      have h' := List.getElem?_eq_none_iff.1 this
      rw [dif_neg h, dif_neg (by omega)]
  rw [if_neg h1, if_neg h1]
  by_cases h10 : x.op = 10
  · rw [if_pos h10, if_pos h10]
    unfold Rn.exclF
    split
    · rename_i hlast
      split
      · rename_i hloc
        have := hl h10 ⟨hlast, hloc⟩
        by_cases h : R.nl.toNat < lucks.length
        · rw [List.getElem?_eq_getElem h] at this
          obtain ⟨h', e⟩ := List.getElem?_eq_some_iff.1 this
          rw [dif_pos h, dif_pos h', e]
        · rw [List.getElem?_eq_none (l := lucks) (by omega)] at this
          have h' := List.getElem?_eq_none_iff.1 this
          rw [dif_neg h, dif_neg (by omega)]
      · rfl
    · rfl
  rw [if_neg h10, if_neg h10]
theorem step_load {R : Rn} {x : In} {locs : Int} {vals : List Int} {lucks : List Bool} (h1 : kindF x.op = 1) (h : R.nv.toNat < vals.length) : (R.step x locs vals lucks).nv = R.nv + 1 := by
  unfold Rn.step; rw [if_pos h1, dif_pos h]; unfold Rn.load; split <;> rfl
theorem step_noval {R : Rn} {x : In} {locs : Int} {vals : List Int} {lucks : List Bool} (h1 : kindF x.op = 1) (h : ¬R.nv.toNat < vals.length) : R.step x locs vals lucks = { R with more := 1 } := by
  unfold Rn.step; rw [if_pos h1, dif_neg h]
theorem k10 {x : In} (h : x.op = 10) : ¬kindF x.op = 1 := by rw [kind1]; omega
theorem step_luck {R : Rn} {x : In} {locs : Int} {vals : List Int} {lucks : List Bool} (h10 : x.op = 10) (hs : ∃ h : 0 ≤ R.last ∧ R.last.toNat < R.es.length, (R.es[R.last.toNat]'h.2).l = R.loc x locs) (h : R.nl.toNat < lucks.length) : (R.step x locs vals lucks).nl = R.nl + 1 := by
  obtain ⟨h3, h4⟩ := hs
  unfold Rn.step; rw [if_neg (k10 h10), if_pos h10]; unfold Rn.exclF
  rw [dif_pos h3, if_pos h4, dif_pos h]; split <;> rfl
theorem step_noluck {R : Rn} {x : In} {locs : Int} {vals : List Int} {lucks : List Bool} (h10 : x.op = 10) (hs : ∃ h : 0 ≤ R.last ∧ R.last.toNat < R.es.length, (R.es[R.last.toNat]'h.2).l = R.loc x locs) (h : ¬R.nl.toNat < lucks.length) : R.step x locs vals lucks = { R with more := 2 } := by
  obtain ⟨h3, h4⟩ := hs
  unfold Rn.step; rw [if_neg (k10 h10), if_pos h10]; unfold Rn.exclF
  rw [dif_pos h3, if_pos h4, dif_neg h]
theorem step_nv {R : Rn} {x : In} {locs : Int} {vals : List Int} {lucks : List Bool} (h1 : ¬kindF x.op = 1) : (R.step x locs vals lucks).nv = R.nv := by
  refine step_elim (M := fun Q => Q.nv = R.nv) (fun h _ => absurd h h1) (fun h _ => absurd h h1) (fun _ _ _ _ _ => rfl) (fun _ _ _ _ => rfl) (fun _ _ _ => rfl) (fun _ _ => rfl) (fun _ => rfl) (fun _ => rfl) (fun _ => rfl) (fun _ => ?_)
  unfold Rn.alone; split <;> rfl
theorem more_done {locs : Int} {vals : List Int} {lucks : List Bool} {T : Rn} (hT : T.more = 0) : ∀ (l : List In) (R : Rn), 0 ≤ R.nv → 0 ≤ R.nl → runL locs vals lucks R l = T → runL locs (vals.take T.nv.toNat) (lucks.take T.nl.toNat) R l = T
  | [], R, _, _, h => h
  | x :: l, R, h1, h2, h => by
    rw [runL] at h ⊢
    by_cases h0 : R.more = 0
    · rw [if_pos h0] at h ⊢
      have g1 := run1_grow R x locs vals lucks
      have g2 := runL_grow (locs := locs) (vals := vals) (lucks := lucks) l (R.run1 x locs vals lucks)
      rw [h] at g2
      have hsame : R.run1 x locs (vals.take T.nv.toNat) (lucks.take T.nl.toNat) = R.run1 x locs vals lucks := by
        unfold Rn.run1 at *
        split
        · rfl
        · rename_i hs
          rw [if_neg hs] at g1 g2 h
          refine step_same (fun hk => ?_) (fun h10 hsm => ?_)
          · by_cases hlt : R.nv.toNat < vals.length
            · have := g2.nv
              rw [step_load hk hlt] at this
              exact take_at (by omega)
            · rw [step_noval hk hlt, runL_stop (by simp)] at h
              rw [← h] at hT; simp at hT
          · by_cases hlt : R.nl.toNat < lucks.length
            · have := g2.nl
              rw [step_luck h10 hsm hlt] at this
              exact take_at (by omega)
            · rw [step_noluck h10 hsm hlt, runL_stop (by simp)] at h
              rw [← h] at hT; simp at hT
      rw [hsame]
      exact more_done hT l _ (by have := g1.nv; omega) (by have := g1.nl; omega) h
    · rw [if_neg h0] at h
      rw [h] at h0; exact absurd hT h0
theorem more_cut {locs : Int} {vals : List Int} {lucks : List Bool} {T : Rn} {k : Nat} (hk : (k : Int) ≤ T.nv) : ∀ (l : List In) (R : Rn), 0 ≤ R.nv → R.nv ≤ k → runL locs vals lucks R l = T →
    runL locs (vals.take k) lucks R l = T ∨ ((runL locs (vals.take k) lucks R l).more = 1 ∧ (runL locs (vals.take k) lucks R l).nv = k ∧ (runL locs (vals.take k) lucks R l).es <+: T.es)
  | [], R, _, _, h => .inl h
  | x :: l, R, h1, h2, h => by
    have g2 := runL_grow (locs := locs) (vals := vals) (lucks := lucks) (x :: l) R
    rw [h] at g2
    rw [runL] at h ⊢
    by_cases h0 : R.more = 0
    · rw [if_pos h0] at h ⊢
      have g1 := run1_grow R x locs vals lucks
      unfold Rn.run1 at *
      by_cases hs : 0 < R.skip
      · rw [if_pos hs] at g1 h ⊢
        exact more_cut hk l _ h1 h2 h
      rw [if_neg hs] at g1 h ⊢
      by_cases hkd : kindF x.op = 1
      · by_cases hlt : R.nv.toNat < k
        · rw [step_same (vals := vals) (lucks := lucks) (fun _ => take_at hlt) (fun h10 => absurd hkd (k10 h10))]
          refine more_cut hk l _ (by have := g1.nv; omega) ?_ h
          by_cases hv : R.nv.toNat < vals.length
          · rw [step_load hkd hv]; omega
          · rw [step_noval hkd hv]; exact h2
        · have hn : ¬R.nv.toNat < (vals.take k).length := by rw [List.length_take]; omega
          rw [step_noval hkd hn, runL_stop (by simp)]
          exact .inr ⟨rfl, by show R.nv = k; omega, g2.es⟩
      · rw [step_same (vals := vals) (lucks := lucks) (fun h => absurd h hkd) (fun _ _ => rfl)]
        exact more_cut hk l _ (by have := g1.nv; omega) (by rw [step_nv hkd]; exact h2) h
    · rw [if_neg h0] at h ⊢
      exact .inl h
theorem more_law {th : List In} {vals : List Int} {lucks : List Bool} {k : Nat} (hk : (k : Int) ≤ (runF th 2 vals lucks).nv) :
    runF th 2 (vals.take k) lucks = runF th 2 vals lucks ∨ ((runF th 2 (vals.take k) lucks).more = 1 ∧ (runF th 2 (vals.take k) lucks).nv = k ∧ (runF th 2 (vals.take k) lucks).es <+: (runF th 2 vals lucks).es) := by
  by_cases h : mayB 2 th = true
  · have e : ∀ vals lucks, runF th 2 vals lucks = runL 2 vals lucks Rn0 th := fun vals lucks => by simp [runF, h]
    rw [e, e] at *
    exact more_cut hk th Rn0 (by simp [Rn0]) (by simp [Rn0]) rfl
  · have e : ∀ vals lucks, runF th 2 vals lucks = Rn0 := fun vals lucks => by simp [runF, h]
    rw [e, e]; exact .inl rfl
theorem more_law0 {th : List In} {vals : List Int} {lucks : List Bool} (h0 : (runF th 2 vals lucks).more = 0) :
    runF th 2 (vals.take (runF th 2 vals lucks).nv.toNat) (lucks.take (runF th 2 vals lucks).nl.toNat) = runF th 2 vals lucks := by
  by_cases h : mayB 2 th = true
  · have e : ∀ vals lucks, runF th 2 vals lucks = runL 2 vals lucks Rn0 th := fun vals lucks => by simp [runF, h]
    rw [e vals] at h0 ⊢
    rw [e]
    exact more_done h0 th Rn0 (by simp [Rn0]) (by simp [Rn0]) rfl
  · have e : ∀ vals lucks, runF th 2 vals lucks = Rn0 := fun vals lucks => by simp [runF, h]
    rw [e, e]
end Go.Eng
