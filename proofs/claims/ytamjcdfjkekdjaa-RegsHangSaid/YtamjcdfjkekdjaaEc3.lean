import Derived.Test.YtamjcdfjkekdjaaEc2
set_option autoImplicit false
set_option linter.unusedVariables false
set_option linter.unusedSimpArgs false
namespace Go.Eng
open Go Go.RowKit
variable {P : Program}
def isFunc (P : Program) (t : TypeId) : Bool := match P.underlying t with | some (.func _ _ _) => true | _ => false
def isNilFn : AV → Option Bool
  | .fn _ _ _ => some false
  | .pv (.v .nilFunc) => some true
  | _ => none
theorem run_eq_nil {t : TypeId} {v : Value} {b : Bool} (ht : isFunc P t = true) (hv : (b = true ∧ v = .nilFunc) ∨ (b = false ∧ ∃ f x y, v = .func f x y)) (w : World) : (Op.equal t v .nilFunc).run P w = .ok b w := by
  unfold isFunc at ht
  cases hu : P.underlying t with
  | none => rw [hu] at ht; cases ht
  | some d =>
    rw [hu] at ht
    cases d with
    | func a c e =>
      have hd : ∀ d : Nat, (Op.equalIn (d + 1) t v .nilFunc).run P w = .ok b w := fun d => by
        rcases hv with ⟨rfl, rfl⟩ | ⟨rfl, f, x, y, rfl⟩ <;> simp [Op.equalIn, run_underlying hu]
      exact hd 9999
    | _ => cases ht
theorem l_eqNil {o : Oper} {st : AState} {d : Nat} {x : Operand} {t t' : TypeId} {b : Bool} (ho : o.op = .binOp .eql t x (.const .nilFunc) t') (hd : o.dst = some d) (hlt : d < st.n) (ht : isFunc P t = true) (hx : isNilFn (ev st x) = some b) :
    Local P o st ⟨keyO x, ⟨[(d, B b)], []⟩, []⟩ := by
  intro st2 hn hr
  refine ok_value hd (by rw [hn]; exact hlt) fun Γ ρ a w hok => ?_
  have h1 := ev_rel hok x
  rw [ev_agree hr (fun k hk => hk)] at h1
  have hv : (b = true ∧ a.eval x = .nilFunc) ∨ (b = false ∧ ∃ f p q, a.eval x = .func f p q) := by
    unfold isNilFn at hx
    split at hx
    · rename_i f p q he
      rw [he] at h1
      obtain ⟨u, v, h2, _⟩ := h1
      cases hx
      exact .inr ⟨rfl, _, _, _, h2⟩
    · rename_i he
      rw [he] at h1
      cases hx
      exact .inl ⟨rfl, pv_inv h1⟩
    · cases hx
  refine ⟨.bool b, ⟨rfl, rfl⟩, ?_⟩
  have hg : (eqGuard .eql t x (.const .nilFunc) (a.eval x) .nilFunc).run P w = .ok () w := by
    rcases hv with ⟨_, h⟩ | ⟨_, f, p, q, h⟩ <;> rw [h] <;> rfl
  have en : a.eval (.const .nilFunc) = .nilFunc := rfl
  have hb : (binOp .eql t (a.eval x) .nilFunc).run P w = .ok (.bool b) w := by
    have he := run_eq_nil (P := P) ht hv w
    rcases hv with ⟨_, h⟩ | ⟨_, f, p, q, h⟩ <;> rw [h] at he ⊢ <;> simp only [binOp, Sem.run_bind, he, Result.andThen_ok, Sem.run_pure]
  unfold execOp
  simp only [ho, en, Sem.run_bind, hg, Result.andThen_ok, hb, Sem.run_pure]
theorem ar_eqNil {ops : Array Oper} {draw : Bool} {st0 : AState} {Q : Exit → AState → Prop} {i d : Nat} {st : AState} {acc : List Eff} {o : Oper} {x : Operand} {t t' : TypeId} {b : Bool} (ho : ops[i]? = some o) (hg : o.guard = none) (hop : o.op = .binOp .eql t x (.const .nilFunc) t') (hd : o.dst = some d) (hlt : d < st.n) (ht : isFunc P t = true) (hx : isNilFn (ev st x) = some b)
    (k : AR P ops draw st0 Q (i + 1, { st with t := (d, B b) :: st.t }, if draw = true then acc ++ [⟨keyO x, ⟨[(d, B b)], []⟩, []⟩] else acc)) : AR P ops draw st0 Q (i, st, acc) :=
  as_local ho hg (E := ⟨keyO x, ⟨[(d, B b)], []⟩, []⟩) (l_eqNil hop hd hlt ht hx) rfl rfl st0 Q k
end Go.Eng
