import Derived.Test.YtpohlijehadklaaGreatKitRef
set_option linter.unusedSimpArgs false
set_option linter.unusedVariables false
set_option linter.constructorNameAsVariable false
set_option autoImplicit false
namespace Go.Eng
open Go Go.RowKit Go.Proofs
theorem may_facts {op d a b l m behind locs : Int} (h : mayF op d a b l m behind locs = true) :
    (hasD op = true → 0 ≤ d ∧ d ≤ 3) ∧ (hasA op = true → -1 ≤ a ∧ a ≤ 3) ∧ (hasB op = true → 0 ≤ b ∧ b ≤ 3) ∧ named op = true := by
  have hi : hasI op = true → named op = true := by unfold hasI named; simp; omega
  simp only [mayF, Bool.and_eq_true] at h
  obtain ⟨h1, h2, h3, h4, h5⟩ := h
  refine ⟨fun e => ?_, fun e => ?_, fun e => ?_, ?_⟩
  · rw [e] at h1; unfold okF betw at h1; simp at h1; omega
  · rw [e] at h2; unfold okF betw at h2; simp at h2; split at h2 <;> omega
  · rw [e] at h3; unfold okF betw at h3; simp at h3; omega
  · cases e : hasI op
    · rw [e] at h5; simp at h5; exact h5.1
    · exact hi e
end Go.Eng
