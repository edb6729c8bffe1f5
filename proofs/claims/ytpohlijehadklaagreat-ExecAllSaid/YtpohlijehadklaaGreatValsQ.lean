import Derived.Test.YtpohlijehadklaaGreatFlowG
import Derived.Test.YtpohlijehadklaaGreatValsP
set_option linter.unusedSimpArgs false
set_option linter.unusedVariables false
set_option linter.constructorNameAsVariable false
set_option autoImplicit false
namespace Go.Eng
open Go Go.RowKit Go.Proofs
def ldN (l : List In) : Nat := (l.filter fun x => decide (kindF x.op = 1)).length
structure CntQ (R S : Rn) (x : In) (vals : List Int) (lucks : List Bool) : Prop where
  nv : R.nv ≤ S.nv ∧ S.nv ≤ R.nv + (if kindF x.op = 1 then 1 else 0)
  nl : R.nl ≤ S.nl ∧ S.nl ≤ R.nl + 1
  more : S.more = R.more ∨ (S.more = 1 ∧ kindF x.op = 1 ∧ S.nv = R.nv ∧ S.nl = R.nl ∧ vals.length ≤ R.nv.toNat) ∨ (S.more = 2 ∧ S.nv = R.nv ∧ S.nl = R.nl ∧ lucks.length ≤ R.nl.toNat)
theorem step_cnt (R : Rn) (x : In) (locs : Int) (vals : List Int) (lucks : List Bool) : CntQ R (R.step x locs vals lucks) x vals lucks := by
  have z : ∀ c : Prop, [Decidable c] → (0 : Int) ≤ if c then 1 else 0 := by intro c _; split <;> decide
  have hz := z (kindF x.op = 1)
  refine step_elim (M := fun S => CntQ R S x vals lucks) (fun h1 h => ?_) (fun h1 h => ?_) (fun _ h he hkk hb => ?_) (fun _ _ _ _ => ?_) (fun _ _ h => ?_) (fun _ _ => ?_) (fun _ => ?_) (fun h => ?_) (fun _ => ?_) (fun _ => ?_)
  · have e1 : (R.load x locs vals[R.nv.toNat]).nv = R.nv + 1 ∧ (R.load x locs vals[R.nv.toNat]).nl = R.nl ∧ (R.load x locs vals[R.nv.toNat]).more = R.more := by
      unfold Rn.load
      split <;> exact ⟨rfl, rfl, rfl⟩
    obtain ⟨e1, e2, e3⟩ := e1
    refine ⟨?_, ?_, .inl e3⟩
    · rw [e1, if_pos h1]; omega
    · rw [e2]; omega
  · refine ⟨⟨Int.le_refl _, by show R.nv ≤ _; omega⟩, ⟨Int.le_refl _, by show R.nl ≤ R.nl + 1; omega⟩, .inr (.inl ⟨rfl, h1, rfl, rfl, by omega⟩)⟩
  · exact ⟨⟨Int.le_refl _, by show R.nv ≤ _; omega⟩, ⟨by show R.nl ≤ R.nl + 1; omega, Int.le_refl _⟩, .inl rfl⟩
  · exact ⟨⟨Int.le_refl _, by show R.nv ≤ _; omega⟩, ⟨by show R.nl ≤ R.nl + 1; omega, Int.le_refl _⟩, .inl rfl⟩
  · refine ⟨⟨Int.le_refl _, by show R.nv ≤ _; omega⟩, ⟨Int.le_refl _, by show R.nl ≤ R.nl + 1; omega⟩, .inr (.inr ⟨rfl, rfl, rfl, by omega⟩)⟩
  · exact ⟨⟨Int.le_refl _, by show R.nv ≤ _; omega⟩, ⟨Int.le_refl _, by show R.nl ≤ R.nl + 1; omega⟩, .inl rfl⟩
  · exact ⟨⟨Int.le_refl _, by show R.nv ≤ _; omega⟩, ⟨Int.le_refl _, by show R.nl ≤ R.nl + 1; omega⟩, .inl rfl⟩
  · exact ⟨⟨Int.le_refl _, by show R.nv ≤ _; omega⟩, ⟨Int.le_refl _, by show R.nl ≤ R.nl + 1; omega⟩, .inl rfl⟩
  · exact ⟨⟨Int.le_refl _, by show R.nv ≤ _; omega⟩, ⟨Int.le_refl _, by show R.nl ≤ R.nl + 1; omega⟩, .inl rfl⟩
  · have : (R.alone x).nv = R.nv ∧ (R.alone x).nl = R.nl ∧ (R.alone x).more = R.more := by unfold Rn.alone; split <;> exact ⟨rfl, rfl, rfl⟩
    obtain ⟨e1, e2, e3⟩ := this
    exact ⟨by rw [e1]; omega, by rw [e2]; omega, .inl e3⟩
theorem run1_cnt (R : Rn) (x : In) (locs : Int) (vals : List Int) (lucks : List Bool) : CntQ R (R.run1 x locs vals lucks) x vals lucks := by
  unfold Rn.run1
  split
  · have z : ∀ c : Prop, [Decidable c] → (0 : Int) ≤ if c then 1 else 0 := by intro c _; split <;> decide
    have hz := z (kindF x.op = 1)
    exact ⟨⟨Int.le_refl _, by show R.nv ≤ _; omega⟩, ⟨Int.le_refl _, by show R.nl ≤ R.nl + 1; omega⟩, .inl rfl⟩
  · exact step_cnt R x locs vals lucks
structure StopQ (R T : Rn) (l : List In) (vals : List Int) (lucks : List Bool) : Prop where
  nv : R.nv ≤ T.nv ∧ T.nv ≤ R.nv + ldN l
  nl : R.nl ≤ T.nl ∧ T.nl ≤ R.nl + l.length
  one : R.more = 0 → T.more = 1 → vals.length ≤ T.nv.toNat ∧ T.nv < R.nv + ldN l
  two : R.more = 0 → T.more = 2 → lucks.length ≤ T.nl.toNat ∧ T.nl < R.nl + l.length
  more : R.more = 0 → T.more = 0 ∨ T.more = 1 ∨ T.more = 2
theorem runL_cnt {locs : Int} {vals : List Int} {lucks : List Bool} : ∀ (l : List In) (R : Rn), StopQ R (runL locs vals lucks R l) l vals lucks
  | [], R => ⟨by simp [runL, ldN], by simp [runL], fun h0 h => by rw [runL] at h; omega, fun h0 h => by rw [runL] at h; omega, fun h0 => .inl h0⟩
  | x :: l, R => by
    rw [runL]
    have e : (ldN (x :: l) : Int) = ldN l + (if kindF x.op = 1 then 1 else 0) := by
      unfold ldN; rw [List.filter_cons]
      by_cases h : kindF x.op = 1 <;> simp [h]
    have hz : (0 : Int) ≤ if kindF x.op = 1 then 1 else 0 := by split <;> decide
    by_cases h0 : R.more = 0
    · rw [if_pos h0]
      have ih := runL_cnt (locs := locs) (vals := vals) (lucks := lucks) l (R.run1 x locs vals lucks)
      obtain ⟨c1, c2, c3⟩ := run1_cnt R x locs vals lucks
      generalize R.run1 x locs vals lucks = S at *
      have hl : ((x :: l).length : Int) = l.length + 1 := by simp
      refine ⟨⟨by have := ih.nv; omega, by have := ih.nv; omega⟩, ⟨by have := ih.nl; omega, by have := ih.nl; omega⟩, fun _ h => ?_, fun _ h => ?_, fun _ => ?_⟩
      · rcases c3 with c3 | ⟨m, k, q1, q2, q3⟩ | ⟨m, q1, q2, q3⟩
        · have := ih.one (by omega) h; omega
        · rw [runL_stop (by omega)] at h ⊢; rw [q1]
          have e1 : (if kindF x.op = 1 then (1 : Int) else 0) = 1 := if_pos k
          omega
        · rw [runL_stop (by omega)] at h; omega
      · rcases c3 with c3 | ⟨m, k, q1, q2, q3⟩ | ⟨m, q1, q2, q3⟩
        · have := ih.two (by omega) h; omega
        · rw [runL_stop (by omega)] at h; omega
        · rw [runL_stop (by omega)] at h ⊢; rw [q2]; omega
      · rcases c3 with c3 | ⟨m, k, q1, q2, q3⟩ | ⟨m, q1, q2, q3⟩
        · exact ih.more (by omega)
        · rw [runL_stop (by omega)]; omega
        · rw [runL_stop (by omega)]; omega
    · rw [if_neg h0]
      exact ⟨by omega, ⟨by omega, by have : (0 : Int) ≤ ((x :: l).length : Int) := Int.natCast_nonneg _; omega⟩, fun h => absurd h h0, fun h => absurd h h0, fun h => absurd h h0⟩
/-- A run that wants a value has taken all that there were, and fewer than there are loads; and so of lucks. -/
theorem run_wants {th : List In} {locs : Int} {vals : List Int} {lucks : List Bool} :
    ((runF th locs vals lucks).more = 1 → vals.length < ldN th ∧ th.length ≤ 8) ∧ ((runF th locs vals lucks).more = 2 → lucks.length < 8) ∧
    ((runF th locs vals lucks).more = 0 ∨ (runF th locs vals lucks).more = 1 ∨ (runF th locs vals lucks).more = 2) := by
  unfold runF
  split
  · rename_i hm
    obtain ⟨h8, _⟩ := mayB_facts hm
    have h := runL_cnt (locs := locs) (vals := vals) (lucks := lucks) th Rn0
    have z : Rn0.nv = 0 ∧ Rn0.nl = 0 ∧ Rn0.more = 0 := ⟨rfl, rfl, rfl⟩
    obtain ⟨z1, z2, z3⟩ := z
    refine ⟨fun e => ?_, fun e => ?_, h.more z3⟩
    · have := h.one z3 e; have := h.nv; omega
    · have := h.two z3 e; have := h.nl; omega
  · exact ⟨fun e => by simp [Rn0] at e, fun e => by simp [Rn0] at e, .inl rfl⟩
/-- All traces that go on from guesses. -/
def tellF (th : List In) (locs : Int) (vals : List Int) : Nat → List Int → List Bool → List Rn
  | 0, _, _ => []
  | f + 1, v, b =>
    if (runF th locs v b).more = 0 then [runF th locs v b]
    else if (runF th locs v b).more = 1 then vals.flatMap fun n => tellF th locs vals f (v ++ [n]) b
    else tellF th locs vals f v (b ++ [true]) ++ tellF th locs vals f v (b ++ [false])
def tracesF (th : List In) (locs : Int) (vals : List Int) : List Rn := if 4 < ldN th then [] else tellF th locs vals 13 [] []
def meas (v : List Int) (b : List Bool) : Nat := (4 - v.length) + (8 - b.length)
theorem flatMap_len {α β : Type} {l : List α} {g : α → List β} {m : Nat} (h : ∀ x ∈ l, (g x).length ≤ m) : (l.flatMap g).length ≤ l.length * m := by
  induction l with
  | nil => simp
  | cons x l ih =>
    rw [List.flatMap_cons, List.length_append, List.length_cons, Nat.succ_mul]
    have := h x (by simp)
    have := ih (fun y hy => h y (by simp [hy]))
    omega
theorem tell_len {th : List In} {locs : Int} {vals : List Int} (hl : ldN th ≤ 4) (h8 : vals.length ≤ 8) : ∀ (f : Nat) (v : List Int) (b : List Bool), (tellF th locs vals f v b).length ≤ 8 ^ (4 - v.length) * 2 ^ (8 - b.length)
  | 0, v, b => by simp [tellF]
  | f + 1, v, b => by
    obtain ⟨w1, w2, w3⟩ := run_wants (th := th) (locs := locs) (vals := v) (lucks := b)
    have hpos : 0 < 8 ^ (4 - v.length) * 2 ^ (8 - b.length) := Nat.mul_pos (Nat.pow_pos (by decide)) (Nat.pow_pos (by decide))
    rw [tellF]
    split
    · exact hpos
    split
    · rename_i h0 h1
      obtain ⟨k1, _⟩ := w1 h1
      have hs : 4 - v.length = (4 - (v.length + 1)) + 1 := by omega
      have := flatMap_len (l := vals) (g := fun n => tellF th locs vals f (v ++ [n]) b) (m := 8 ^ (4 - (v.length + 1)) * 2 ^ (8 - b.length)) (fun n _ => by
        have := tell_len (locs := locs) hl h8 f (v ++ [n]) b
        rw [List.length_append, List.length_singleton] at this
        exact this)
      refine Nat.le_trans this ?_
      rw [hs, Nat.pow_succ, Nat.mul_comm (8 ^ _) 8, Nat.mul_assoc]
      exact Nat.mul_le_mul_right _ h8
    · rename_i h0 h1
      have k1 := w2 (by omega)
      have hs : 8 - b.length = (8 - (b.length + 1)) + 1 := by omega
      have a1 := tell_len (locs := locs) hl h8 f v (b ++ [true])
      have a2 := tell_len (locs := locs) hl h8 f v (b ++ [false])
      rw [List.length_append, List.length_singleton] at a1 a2
      rw [List.length_append, hs, Nat.pow_succ, ← Nat.mul_assoc, Nat.mul_two]
      omega
end Go.Eng
set_option linter.unusedSimpArgs false
set_option linter.unusedVariables false
set_option autoImplicit false
namespace Go.Eng
open Go Go.RowKit Go.Proofs
theorem tell_wf {th : List In} {locs : Int} {vals : List Int} (hth : ∀ x ∈ th, wfIn x) (hv : ∀ n ∈ vals, W64 n) : ∀ (f : Nat) (v : List Int) (b : List Bool), (∀ n ∈ v, W64 n) → ∀ R ∈ tellF th locs vals f v b, RnW R ∧ R.es.length ≤ 8 ∧ R.more = 0
  | 0, v, b, _, R, h => by simp [tellF] at h
  | f + 1, v, b, hvv, R, h => by
    rw [tellF] at h
    split at h
    · rename_i h0
      simp only [List.mem_singleton] at h
      subst h
      obtain ⟨h1, k, h2, h3⟩ := run_wf (locs := locs) (lucks := b) hth hvv
      exact ⟨h1, Nat.le_trans h3.es h2, h0⟩
    split at h
    · obtain ⟨n, hn, h⟩ := List.mem_flatMap.1 h
      exact tell_wf hth hv f (v ++ [n]) b (fun m hm => by
        rcases List.mem_append.1 hm with hm | hm
        · exact hvv m hm
        · rw [List.mem_singleton] at hm; rw [hm]; exact hv n hn) R h
    · rcases List.mem_append.1 h with h | h
      · exact tell_wf hth hv f v _ hvv R h
      · exact tell_wf hth hv f v _ hvv R h
theorem traces_wf {th : List In} {locs : Int} {vals : List Int} (hth : ∀ x ∈ th, wfIn x) (hv : ∀ n ∈ vals, W64 n) : ∀ R ∈ tracesF th locs vals, RnW R ∧ R.es.length ≤ 8 ∧ R.more = 0 := by
  unfold tracesF
  split
  · simp
  · exact tell_wf hth hv 13 [] [] (by simp)
theorem traces_len {th : List In} {locs : Int} {vals : List Int} (h8 : vals.length ≤ 8) : (tracesF th locs vals).length ≤ 1048576 := by
  unfold tracesF
  split
  · simp
  · exact Nat.le_trans (tell_len (by omega) h8 13 [] []) (by decide)
end Go.Eng
