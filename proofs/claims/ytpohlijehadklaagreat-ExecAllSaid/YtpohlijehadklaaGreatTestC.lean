import Derived.Test.YtpohlijehadklaaGreatTestB
import Derived.Test.YtpohlijehadklaaGreatEngC
set_option linter.unusedSimpArgs false
set_option linter.unusedVariables false
set_option linter.constructorNameAsVariable false
set_option autoImplicit false
namespace Go.Eng
open Go Go.RowKit Go.Proofs
def braF (op : Int) : Bool := decide (op = 13 ∨ op = 14)
def setM (x : In) (n : Int) : In := { x with m := n }
def okTest (i : List Int) (t : List (List In)) : Bool := decide ((checkF i t).2.2 = 0)
end Go.Eng
set_option linter.unusedSimpArgs false
set_option linter.unusedVariables false
set_option linter.constructorNameAsVariable false
set_option autoImplicit false
namespace Go.Eng
open Go Go.RowKit Go.Proofs
def cntF (T : In → List In) : List In → Int
  | [] => 0
  | x :: l => ((T x).length : Int) + cntF T l
theorem cntF_append (T : In → List In) : ∀ s t : List In, cntF T (s ++ t) = cntF T s + cntF T t
  | [], t => by simp [cntF]
  | x :: s, t => by simp only [List.cons_append, cntF, cntF_append T s t]; omega
def oneF (T : In → List In) (x : In) (rest : List In) : List In := if braF x.op = true then [setM x (cntF T (rest.take x.m.toNat))] else T x
def turnL (T : In → List In) : List In → List In
  | [] => []
  | x :: rest => oneF T x rest ++ turnL T rest
/-- Branches stay within their thread. -/
def BraOk (th : List In) : Prop := ∀ (k : Nat) (h : k < th.length), braF (th[k]).op = true → 0 ≤ (th[k]).m ∧ (k : Int) + 1 + (th[k]).m ≤ th.length
end Go.Eng
set_option linter.unusedSimpArgs false
set_option linter.unusedVariables false
set_option linter.constructorNameAsVariable false
set_option autoImplicit false
namespace Go.Eng
open Go Go.RowKit Go.Proofs
theorem badI_none {L len : Int} : ∀ {l : List In} {k : Nat}, badI L len k l = none → ∀ (j : Nat) (h : j < l.length), mayI l[j] (len - 1 - ((k + j : Nat) : Int)) L = true
  | [], _, _, j, h => absurd h (by simp)
  | x :: l, k, hb, j, h => by
    simp only [badI] at hb
    split at hb
    · rename_i hm
      cases j with
      | zero => simpa using hm
      | succ j =>
        have := badI_none hb j (by simpa using h)
        simp only [List.getElem_cons_succ]
        rw [show k + (j + 1) = k + 1 + j by omega]
        exact this
    · cases hb
theorem badT_may {L : Int} : ∀ {t : List (List In)} {n : Nat}, badT L n t = none → ∀ th ∈ t, (1 ≤ th.length ∧ th.length ≤ 8) ∧ ∀ (j : Nat) (h : j < th.length), mayI th[j] ((th.length : Int) - 1 - (j : Int)) L = true
  | [], _, _, th, h => by cases h
  | x :: t, n, hb, th, h => by
    have h0 := badT_none hb th h
    refine ⟨h0, ?_⟩
    simp only [badT] at hb
    split at hb
    · cases hb
    split at hb
    · cases hb
    rename_i hi
    rcases List.mem_cons.1 h with rfl | h
    · intro j hj
      have := badI_none hi j hj
      simpa using this
    · exact (badT_may hb th h).2
theorem badT_code {L : Int} : ∀ {t : List (List In)} {n : Nat} {p : Int × Int × Int}, badT L n t = some p → p.2.2 = 1 ∨ p.2.2 = 2
  | [], _, _, h => by cases h
  | x :: t, n, p, h => by
    simp only [badT] at h
    split at h
    · cases h; exact .inl rfl
    split at h
    · cases h; exact .inr rfl
    · exact badT_code h
theorem okTest_iff {i : List Int} {t : List (List In)} : okTest i t = true ↔ sizedF i t = true ∧ badT i.length 0 t = none ∧ fullF t = false := by
  unfold okTest checkF
  cases hs : sizedF i t
  · simp
  · cases hb : badT i.length 0 t with
    | some p => have := badT_code hb; simp; omega
    | none => cases hf : fullF t <;> simp
theorem bra_may {x : In} {behind L : Int} (h : mayI x behind L = true) (hb : braF x.op = true) : 0 ≤ x.m ∧ x.m ≤ behind := by
  unfold braF at hb
  simp at hb
  have hI : hasI x.op = true := by unfold hasI; simp; omega
  unfold mayI mayF at h
  simp only [Bool.and_eq_true, hI, cond_true] at h
  have h5 := h.2.2.2.2
  unfold immF at h5
  rw [if_neg (by omega), if_neg (by omega)] at h5
  unfold betw at h5
  simpa using h5
def BraR : List In → Prop
  | [] => True
  | x :: l => (braF x.op = true → 0 ≤ x.m ∧ x.m ≤ l.length) ∧ BraR l
theorem BraR.ok : ∀ {l : List In}, BraR l → BraOk l
  | [], _, k, h => absurd h (by simp)
  | x :: l, hr, k, h => by
    intro hb
    cases k with
    | zero =>
      have := hr.1 hb
      simp at this ⊢
      omega
    | succ k =>
      have h' : k < l.length := by simpa using h
      have := BraR.ok hr.2 k h' hb
      simp only [List.getElem_cons_succ, List.length_cons]
      omega
theorem BraR.of {L : Int} : ∀ {l : List In}, (∀ (j : Nat) (h : j < l.length), mayI l[j] ((l.length : Int) - 1 - (j : Int)) L = true) → BraR l
  | [], _ => trivial
  | x :: l, h => by
    refine ⟨fun hb => ?_, BraR.of (L := L) fun j hj => ?_⟩
    · have := bra_may (h 0 (by simp)) hb
      simp at this; omega
    · have := h (j + 1) (by simpa using hj)
      simp only [List.getElem_cons_succ, List.length_cons] at this
      rw [show ((l.length : Int) - 1 - (j : Int)) = ((l.length + 1 : Nat) : Int) - 1 - ((j + 1 : Nat) : Int) by omega]
      exact this
theorem BraR.nb {s r : List In} (hs : ∀ y ∈ s, braF y.op = false) (hr : BraR r) : BraR (s ++ r) := by
  induction s with
  | nil => exact hr
  | cons y s ih =>
    refine ⟨fun hb => ?_, ih fun z hz => hs z (by simp [hz])⟩
    rw [hs y (by simp)] at hb; cases hb
theorem turnL_len {T : In → List In} (hbr : ∀ x, braF x.op = true → T x = [x]) : ∀ l : List In, ((turnL T l).length : Int) = cntF T l
  | [] => rfl
  | x :: l => by
    have h := turnL_len hbr l
    simp only [turnL, cntF, List.length_append]
    have : (oneF T x l).length = (T x).length := by
      unfold oneF
      split
      · rename_i hb; rw [hbr x hb]; rfl
      · rfl
    omega
theorem cntF_nonneg (T : In → List In) : ∀ l : List In, 0 ≤ cntF T l
  | [] => Int.le_refl 0
  | x :: l => by have := cntF_nonneg T l; simp only [cntF]; omega
theorem cntF_take (T : In → List In) (M : Nat) (l : List In) : cntF T (l.take M) ≤ cntF T l := by
  have h := cntF_append T (l.take M) (l.drop M)
  rw [List.take_append_drop] at h
  have := cntF_nonneg T (l.drop M)
  omega
theorem BraR.turn {T : In → List In} (hbr : ∀ x, braF x.op = true → T x = [x]) (hnb : ∀ x, braF x.op = false → ∀ y ∈ T x, braF y.op = false) : ∀ l : List In, BraR (turnL T l)
  | [] => trivial
  | x :: l => by
    have h := BraR.turn hbr hnb l
    simp only [turnL]
    unfold oneF
    split
    · refine ⟨fun _ => ?_, h⟩
      have h1 := turnL_len hbr l
      have h2 := cntF_take T x.m.toNat l
      have h3 := cntF_nonneg T (l.take x.m.toNat)
      show 0 ≤ cntF T (l.take x.m.toNat) ∧ cntF T (l.take x.m.toNat) ≤ ((turnL T l).length : Int)
      omega
    · rename_i hb
      exact BraR.nb (hnb x (by simpa using hb)) h
theorem ok_facts {i : List Int} {t : List (List In)} (h : okTest i t = true) : i.length ≤ 3 ∧ t.length ≤ 3 ∧ 1 ≤ i.length ∧ 1 ≤ t.length ∧ ∀ th ∈ t, (1 ≤ th.length ∧ th.length ≤ 8) ∧ BraR th := by
  obtain ⟨h1, h2, h3⟩ := okTest_iff.1 h
  simp [sizedF] at h1
  refine ⟨by omega, by omega, by omega, by omega, fun th hth => ?_⟩
  have := badT_may h2 th hth
  exact ⟨this.1, BraR.of this.2⟩
end Go.Eng
