import Derived.Test.YtamjcdfjkekdjaaEb9
import Derived.DeepKeys
set_option autoImplicit false
set_option linter.unusedVariables false
set_option linter.unusedSimpArgs false
namespace Go.Eng
open Go Go.RowKit
variable {P : Program}

theorem PVs_v {F : Nat → Prop} {w : World} : ∀ {cs vs : List Value}, PVs F w (cs.map .v) vs → vs = cs
  | [], vs, h => h
  | c :: cs, vs, h => by
    obtain ⟨v, vs', rfl, h1, h2⟩ := h
    rw [PVs_v h2, h1.1]
/-- What holds of two structs, or arrays, of scalars: are they the same? -/
structure EqAgg (P : Program) (t : TypeId) (cs ds : List Value) (r : Bool) : Prop where
  is : ∃ m D D' la lb, m ≤ 10000 ∧ P.keyTypeAt m t = true ∧ P.keyLits D t cs = some la ∧ P.keyLits D' t ds = some lb ∧ (r = true ↔ la = lb)
  agg : aggOf P t = some true
  size : cs.length = P.cellsOf t ∧ ds.length = P.cellsOf t
  guard : P.eqGuardType P.depth t = false
theorem EqAgg.run {t : TypeId} {cs ds : List Value} {r : Bool} (h : EqAgg P t cs ds r) (w : World) : (Op.equal t (.agg cs.toArray) (.agg ds.toArray)).run P w = .ok r w := by
  obtain ⟨m, D, D', la, lb, hm, hk, ha, hb, hr⟩ := h.is
  have hfm : ∀ l : List Value, l.length = P.cellsOf t → (Value.agg l.toArray).formed P t = true := by
    intro l hl
    have := h.agg
    unfold aggOf at this
    cases hu : P.underlying t with
    | none => rw [hu] at this; cases this
    | some dd => rw [hu] at this; cases dd <;> simp_all [Value.formed]
  obtain ⟨r', h1, h2⟩ := run_equalIn_deep (P := P) (10000 - m) m t hk w D D' _ _ la lb (hfm cs h.size.1) (hfm ds h.size.2) (by simpa [Value.cells] using ha) (by simpa [Value.cells] using hb)
  rw [Nat.sub_add_cancel hm] at h1
  have : r' = r := by
    cases r <;> cases r' <;> simp_all
  rw [← this]; exact h1
theorem l_eqAgg {o : Oper} {st : AState} {d : Nat} {x y : Operand} {t t' : TypeId} {cs ds : List Value} {r : Bool} (ho : o.op = .binOp .eql t x y t') (hd : o.dst = some d) (hlt : d < st.n) (hx : ev st x = .agg (cs.map .v)) (hy : ev st y = .agg (ds.map .v)) (h : EqAgg P t cs ds r) :
    Local P o st ⟨keyO x ++ keyO y, ⟨[(d, B r)], []⟩, []⟩ := by
  intro st2 hn hr
  refine ok_value hd (by rw [hn]; exact hlt) fun Γ ρ a w hok => ?_
  have h1 := ev_rel hok x
  have h2 := ev_rel hok y
  rw [ev_agree hr (fun k hk => List.mem_append.2 (.inl hk)), hx] at h1
  rw [ev_agree hr (fun k hk => List.mem_append.2 (.inr hk)), hy] at h2
  obtain ⟨a1, e1, k1⟩ := h1
  obtain ⟨a2, e2, k2⟩ := h2
  refine ⟨.bool r, ⟨rfl, rfl⟩, ?_⟩
  have l1 := PVs_v k1
  have l2 := PVs_v k2
  have q1 : a1 = cs.toArray := by rw [← l1]
  have q2 : a2 = ds.toArray := by rw [← l2]
  subst q1; subst q2
  have hg : (eqGuard .eql t x y (.agg cs.toArray) (.agg ds.toArray)).run P w = .ok () w := by
    unfold eqGuard
    simp [h.guard]
  unfold execOp
  simp only [ho, e1, e2, Sem.run_bind, hg, Result.andThen_ok]
  simp only [binOp, Sem.run_bind, h.run, Result.andThen_ok, Sem.run_pure]
theorem l_neAgg {o : Oper} {st : AState} {d : Nat} {x y : Operand} {t t' : TypeId} {cs ds : List Value} {r : Bool} (ho : o.op = .binOp .neq t x y t') (hd : o.dst = some d) (hlt : d < st.n) (hx : ev st x = .agg (cs.map .v)) (hy : ev st y = .agg (ds.map .v)) (h : EqAgg P t cs ds r) :
    Local P o st ⟨keyO x ++ keyO y, ⟨[(d, B (!r))], []⟩, []⟩ := by
  intro st2 hn hr
  refine ok_value hd (by rw [hn]; exact hlt) fun Γ ρ a w hok => ?_
  have h1 := ev_rel hok x
  have h2 := ev_rel hok y
  rw [ev_agree hr (fun k hk => List.mem_append.2 (.inl hk)), hx] at h1
  rw [ev_agree hr (fun k hk => List.mem_append.2 (.inr hk)), hy] at h2
  obtain ⟨a1, e1, k1⟩ := h1
  obtain ⟨a2, e2, k2⟩ := h2
  refine ⟨.bool (!r), ⟨rfl, rfl⟩, ?_⟩
  have l1 := PVs_v k1
  have l2 := PVs_v k2
  have q1 : a1 = cs.toArray := by rw [← l1]
  have q2 : a2 = ds.toArray := by rw [← l2]
  subst q1; subst q2
  have hg : (eqGuard .neq t x y (.agg cs.toArray) (.agg ds.toArray)).run P w = .ok () w := by
    unfold eqGuard
    simp [h.guard]
  unfold execOp
  simp only [ho, e1, e2, Sem.run_bind, hg, Result.andThen_ok]
  simp only [binOp, Sem.run_bind, h.run, Result.andThen_ok, Sem.run_pure]
theorem ar_eqAgg {ops : Array Oper} {draw : Bool} {st0 : AState} {Q : Exit → AState → Prop} {i d : Nat} {st : AState} {acc : List Eff} {o : Oper} {x y : Operand} {t t' : TypeId} {cs ds : List Value} {r : Bool} (h : EqAgg P t cs ds r) (ho : ops[i]? = some o) (hg : o.guard = none) (hop : o.op = .binOp .eql t x y t') (hd : o.dst = some d) (hlt : d < st.n)
    (hx : ev st x = .agg (cs.map .v)) (hy : ev st y = .agg (ds.map .v)) (k : AR P ops draw st0 Q (i + 1, { st with t := (d, B r) :: st.t }, if draw = true then acc ++ [⟨keyO x ++ keyO y, ⟨[(d, B r)], []⟩, []⟩] else acc)) : AR P ops draw st0 Q (i, st, acc) :=
  as_local ho hg (E := ⟨keyO x ++ keyO y, ⟨[(d, B r)], []⟩, []⟩) (l_eqAgg hop hd hlt hx hy h) rfl rfl st0 Q k
theorem ar_eqAgg_if {ops : Array Oper} {draw : Bool} {st0 : AState} {Q : Exit → AState → Prop} {i j dj d : Nat} {b : Bool} {st : AState} {acc : List Eff} {o : Oper} {x y : Operand} {t t' : TypeId} {cs ds : List Value} {r : Bool} (h : EqAgg P t cs ds r) (ho : ops[i]? = some o) (hg : o.guard = some (j, b)) (hj : (ops[j]?).bind (·.dst) = some dj) (hop : o.op = .binOp .eql t x y t') (hd : o.dst = some d) (hlt : d < st.n)
    (hv : tget st.t dj = .pv (.v (.bool b))) (hx : ev st x = .agg (cs.map .v)) (hy : ev st y = .agg (ds.map .v)) (k : AR P ops draw st0 Q (i + 1, { st with t := (d, B r) :: st.t }, if draw = true then acc ++ [⟨.tmp dj :: (keyO x ++ keyO y), ⟨[(d, B r)], []⟩, []⟩] else acc)) : AR P ops draw st0 Q (i, st, acc) :=
  as_local_if ho hg hj hv (E := ⟨keyO x ++ keyO y, ⟨[(d, B r)], []⟩, []⟩) (l_eqAgg hop hd hlt hx hy h) rfl rfl st0 Q k
theorem ar_neAgg {ops : Array Oper} {draw : Bool} {st0 : AState} {Q : Exit → AState → Prop} {i d : Nat} {st : AState} {acc : List Eff} {o : Oper} {x y : Operand} {t t' : TypeId} {cs ds : List Value} {r : Bool} (h : EqAgg P t cs ds r) (ho : ops[i]? = some o) (hg : o.guard = none) (hop : o.op = .binOp .neq t x y t') (hd : o.dst = some d) (hlt : d < st.n)
    (hx : ev st x = .agg (cs.map .v)) (hy : ev st y = .agg (ds.map .v)) (k : AR P ops draw st0 Q (i + 1, { st with t := (d, B (!r)) :: st.t }, if draw = true then acc ++ [⟨keyO x ++ keyO y, ⟨[(d, B (!r))], []⟩, []⟩] else acc)) : AR P ops draw st0 Q (i, st, acc) :=
  as_local ho hg (E := ⟨keyO x ++ keyO y, ⟨[(d, B (!r))], []⟩, []⟩) (l_neAgg hop hd hlt hx hy h) rfl rfl st0 Q k
theorem ar_neAgg_if {ops : Array Oper} {draw : Bool} {st0 : AState} {Q : Exit → AState → Prop} {i j dj d : Nat} {b : Bool} {st : AState} {acc : List Eff} {o : Oper} {x y : Operand} {t t' : TypeId} {cs ds : List Value} {r : Bool} (h : EqAgg P t cs ds r) (ho : ops[i]? = some o) (hg : o.guard = some (j, b)) (hj : (ops[j]?).bind (·.dst) = some dj) (hop : o.op = .binOp .neq t x y t') (hd : o.dst = some d) (hlt : d < st.n)
    (hv : tget st.t dj = .pv (.v (.bool b))) (hx : ev st x = .agg (cs.map .v)) (hy : ev st y = .agg (ds.map .v)) (k : AR P ops draw st0 Q (i + 1, { st with t := (d, B (!r)) :: st.t }, if draw = true then acc ++ [⟨.tmp dj :: (keyO x ++ keyO y), ⟨[(d, B (!r))], []⟩, []⟩] else acc)) : AR P ops draw st0 Q (i, st, acc) :=
  as_local_if ho hg hj hv (E := ⟨keyO x ++ keyO y, ⟨[(d, B (!r))], []⟩, []⟩) (l_neAgg hop hd hlt hx hy h) rfl rfl st0 Q k
end Go.Eng
