import Derived.Test.YtpohlijehadklaaGreatFlowE
set_option linter.unusedSimpArgs false
set_option linter.unusedVariables false
set_option linter.constructorNameAsVariable false
set_option autoImplicit false
namespace Go.Eng
open Go Go.RowKit Go.Proofs
structure Grow (A B : Rn) : Prop where
  es : A.es <+: B.es
  nv : A.nv ≤ B.nv
  nl : A.nl ≤ B.nl
theorem Grow.refl (A : Rn) : Grow A A := ⟨List.prefix_refl _, Int.le_refl _, Int.le_refl _⟩
theorem Grow.trans {A B C : Rn} (h : Grow A B) (k : Grow B C) : Grow A C := ⟨h.es.trans k.es, Int.le_trans h.nv k.nv, Int.le_trans h.nl k.nl⟩
theorem runL_stop {locs : Int} {vals : List Int} {lucks : List Bool} {R : Rn} (h : ¬R.more = 0) : ∀ l, runL locs vals lucks R l = R
  | [] => rfl
  | x :: l => by rw [runL, if_neg h]
theorem Grow.take {A B : Rn} (h : Grow A B) : B.es.take A.es.length = A.es := by
  obtain ⟨t, e⟩ := h.es
  rw [← e]; simp
theorem k10 {x : In} (h : x.op = 10) : ¬kindF x.op = 1 := by rw [kind1]; omega
end Go.Eng
