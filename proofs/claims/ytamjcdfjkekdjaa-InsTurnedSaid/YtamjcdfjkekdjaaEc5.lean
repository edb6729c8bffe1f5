import Derived.Test.YtamjcdfjkekdjaaEc4
set_option autoImplicit false
set_option linter.unusedVariables false
set_option linter.unusedSimpArgs false
namespace Go.Eng
open Go Go.RowKit
variable {P : Program}

/-! ## Conditions that are not known: both ways -/
def tset : List (Nat × AV) → Nat → AV → List (Nat × AV)
  | [], _, _ => []
  | (k, v) :: r, n, a => if n = k then (k, a) :: r else (k, v) :: tset r n a
theorem tset_same {n : Nat} : ∀ {l : List (Nat × AV)} {a : AV}, tget l n = a → tset l n a = l
  | [], _, _ => rfl
  | (k, v) :: r, a, h => by
    simp only [tget] at h
    simp only [tset]
    split
    · rename_i e; rw [if_pos e] at h; rw [h]
    · rename_i e; rw [if_neg e] at h; rw [tset_same h]
theorem ar_guard {ops : Array Oper} {draw : Bool} {st0 : AState} {Q : Exit → AState → Prop} {i j d : Nat} {b c : Bool} {st : AState} {acc : List Eff} {o : Oper} (ho : ops[i]? = some o) (hg : o.guard = some (j, c)) (hj : (ops[j]?).bind (·.dst) = some d) (hv : tget st.t d = .pv (.v (.bool b)))
    (ht : b = true → AR P ops draw st0 Q (i, ⟨st.n, tset st.t d (.pv (.v (.bool true))), st.s⟩, acc)) (hf : b = false → AR P ops draw st0 Q (i, ⟨st.n, tset st.t d (.pv (.v (.bool false))), st.s⟩, acc)) : AR P ops draw st0 Q (i, st, acc) := by
  cases hb : b with
  | true => have h := ht hb; rw [hb] at hv; rw [tset_same hv] at h; exact h
  | false => have h := hf hb; rw [hb] at hv; rw [tset_same hv] at h; exact h
theorem aw_both {c : Operand} {x y : Code} {b : Bool} {Q : Exit → AState → Prop} {st : AState} (hc : ev st c = .pv (.v (.bool b))) (ht : b = true → AW P x Q st) (hf : b = false → AW P y Q st) : AW P (.cond c x y) Q st := aw_cond hc ht hf

/-! ## What comes back, an own slice among it, is a slice as any -/
theorem ret_frz {rs : List ResultVar} {res : AV} {st : AState} {r : List AV} (n : Name) (h1 : resA P (st.freeze n) rs = some r) (h2 : resV r = res) : retL P rs res [] .ret st :=
  ⟨st.freeze n, r, Sub.freeze st n, h1, h2, by simp⟩
/-- A nil slice is one without elements. -/
def AState.nilSl (st : AState) (t es : Nat) : AState := if isNilV (tget st.t t) = true then ⟨st.n, (t, .pv (.sl es [])) :: st.t, st.s⟩ else st
theorem Sub.nilSl (st : AState) (t es : Nat) : Sub st (st.nilSl t es) := by
  intro Γ ρ a w hok
  unfold AState.nilSl
  split
  rotate_left
  · exact ⟨ρ, hok⟩
  rename_i hnil
  refine ⟨ρ, hok.defers, hok.size, fun q => ?_, hok.sok⟩
  simp only [tget]
  split
  · rename_i hq
    subst hq
    have := isNilV_rel hnil (hok.tmps q)
    rw [this]
    exact ⟨none, 0, [], rfl, Nat.le_refl _, by simp [maxLen], rfl, .inl rfl⟩
  · exact hok.tmps q
theorem ret_nil {rs : List ResultVar} {res : AV} {st : AState} {r : List AV} (t es : Nat) (h1 : resA P (st.nilSl t es) rs = some r) (h2 : resV r = res) : retL P rs res [] .ret st :=
  ⟨st.nilSl t es, r, Sub.nilSl st t es, h1, h2, by simp⟩
attribute [simp] tset AState.freeze AState.nilSl tmap smap AV.frz Slot.map isNilV
end Go.Eng
