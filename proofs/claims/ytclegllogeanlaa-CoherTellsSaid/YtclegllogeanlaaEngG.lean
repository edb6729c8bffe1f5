import Derived.Test.YtclegllogeanlaaEngF
set_option autoImplicit false
set_option linter.unusedVariables false
set_option linter.unusedSimpArgs false
namespace Go.Eng
open Go Go.RowKit
variable {P : Program}
/-! ## A nil slice is one of no elements -/
theorem aw_nilS {c : Code} {Q : Exit → AState → Prop} {st st' : AState} (t es : Nat) (hs : st.nilSl t es = st') (h : AW P c Q st') : AW P c Q st := by
  subst hs; exact aw_sub (Sub.nilSl st t es) h
theorem nil_sl {F : Nat → Prop} {w : World} {es : Nat} {v : Value} (h : PRel F w (.v (.slice none 0 0)) v) : PRel F w (.sl es []) v := by
  have e : v = .slice none 0 0 := h.1
  subst e
  exact ⟨none, 0, [], rfl, Nat.le_refl _, Nat.zero_le _, rfl, .inl rfl⟩
theorem SC.post2 {f : FuncId} {args : List AV} {res res' : AV} (h : SC P f args res) (hl : ∀ ρ w v, ARel ρ w res v → ARel ρ w res' v) : SC P f args res' := by
  intro Γ ρ w vals hw hX hargs
  refine (h Γ ρ w vals hw hX hargs).mono ?_
  rintro e w' ⟨v, ρ', e1, h1, h2⟩
  exact ⟨v, ρ', e1, hl _ _ _ h1, h2⟩
/-- A slot that is there, read as any slice from here on. -/
theorem aw_frzH {c : Code} {Q : Exit → AState → Prop} {st st' : AState} (n : Name) {e : TypeId} {es : Nat} {xs : List (List PV)} (hn : sget st.s n = some (.own e es xs)) (hs : st.freeze n = st') (h : AW P c Q st') : AW P c Q st := aw_frz n hs h
end Go.Eng
