import Derived.Test.YtpohlijehadklaaGreatTestC
set_option linter.unusedSimpArgs false
set_option linter.unusedVariables false
set_option linter.constructorNameAsVariable false
set_option autoImplicit false
namespace Go.Eng
open Go Go.RowKit Go.Proofs
theorem SC.weaken {P : Program} {f : FuncId} {args args' : List AV} {res : AV} (h : SC P f args res) (hl : ∀ ρ w vs, ARels ρ w args' vs → ARels ρ w args vs) : SC P f args' res :=
  fun Γ ρ w vals hw hX hargs => h Γ ρ w vals hw hX (hl ρ w _ hargs)
theorem nil_rel {F : Nat → Prop} {w : World} {es : Nat} {v : Value} (h : PRel F w (.v (.slice none 0 0)) v) : PRel F w (.sl es []) v := by
  obtain ⟨rfl, _⟩ := h
  exact ⟨none, 0, [], rfl, Nat.le_refl _, by simp [maxLen], rfl, .inl rfl⟩
/-- A test without places, its list nil. -/
theorem noInit {f : FuncId} {t : List (List In)} {res : AV} (h : SC Tryz.prog f [.agg (testL [] t)] res) : SC Tryz.prog f [.agg [.v (.slice none 0 0), .sl 1 (thsL t)]] res := by
  refine h.weaken fun ρ w vs hv => ?_
  obtain ⟨v, vs', e, ⟨a, e2, v1, vs1, e3, h1, h2⟩, h3⟩ := hv
  exact ⟨v, vs', e, ⟨a, e2, v1, vs1, e3, nil_rel h1, h2⟩, h3⟩
end Go.Eng
