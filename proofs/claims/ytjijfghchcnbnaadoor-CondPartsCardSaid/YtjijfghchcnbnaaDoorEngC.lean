import Derived.Test.YtjijfghchcnbnaaDoorEngB
import Derived.DeepKeys
import Derived.LoopN
import Derived.ProofKit
import Derived.OpenShut
import Derived.Deep.Slices
import Derived.ChangeOld
import Derived.SizedLaws
set_option autoImplicit false
set_option linter.unusedVariables false
set_option linter.unusedSimpArgs false
namespace Go.Eng
open Go Go.RowKit
variable {P : Program}

theorem PVs_v [Trk] {F : Nat → Prop} {w : World} : ∀ {cs vs : List Value}, PVs F w (cs.map .v) vs → vs = cs
  | [], vs, h => h
  | c :: cs, vs, h => by
    obtain ⟨v, vs', rfl, h1, h2⟩ := h
    rw [PVs_v h2, h1.1]
/-- What holds of two structs, or arrays, of scalars: are they the same? -/
structure EqAgg (P : Program) (t : TypeId) (cs ds : List Value) (r : Bool) : Prop where
  is : ∃ m D D' la lb, m ≤ 10000 ∧ P.keyTypeAt m t = true ∧ P.keyLits D t cs = some la ∧ P.keyLits D' t ds = some lb ∧ (r = true ↔ la = lb)
  agg : aggOf P t = some true
  size : cs.length = P.cellsOf t ∧ ds.length = P.cellsOf t
  guard : P.eqGuardType P.depth t = false
theorem EqAgg.run [Trk] {t : TypeId} {cs ds : List Value} {r : Bool} (h : EqAgg P t cs ds r) (w : World) : (Op.equal t (.agg cs.toArray) (.agg ds.toArray)).run P w = .ok r w := by
  obtain ⟨m, D, D', la, lb, hm, hk, ha, hb, hr⟩ := h.is
  have hfm : ∀ l : List Value, l.length = P.cellsOf t → (Value.agg l.toArray).formed P t = true := by
    intro l hl
    have := h.agg
    unfold aggOf at this
    cases hu : P.underlying t with
    | none => rw [hu] at this; cases this
    | some dd => rw [hu] at this; cases dd <;> simp_all [Value.formed]
  obtain ⟨r', h1, h2⟩ := run_equalIn_deep (P := P) (10000 - m) m t hk w D D' _ _ la lb (hfm cs h.size.1) (hfm ds h.size.2) (by simpa [Value.cells] using ha) (by simpa [Value.cells] using hb)
  rw [Nat.sub_add_cancel hm] at h1
  have : r' = r := by
    cases r <;> cases r' <;> simp_all
  rw [← this]; exact h1
theorem l_eqAgg [Trk] {o : Oper} {st : AState} {d : Nat} {x y : Operand} {t t' : TypeId} {cs ds : List Value} {r : Bool} (ho : o.op = .binOp .eql t x y t') (hd : o.dst = some d) (hlt : d < st.n) (hx : ev st x = .agg (cs.map .v)) (hy : ev st y = .agg (ds.map .v)) (h : EqAgg P t cs ds r) :
    Local P o st ⟨keyO x ++ keyO y, ⟨[(d, B r)], []⟩, []⟩ := by
  intro st2 hn hr
  refine ok_value hd (by rw [hn]; exact hlt) fun Γ ρ a w hok => ?_
  have h1 := ev_rel hok x
  have h2 := ev_rel hok y
  rw [ev_agree hr (fun k hk => List.mem_append.2 (.inl hk)), hx] at h1
  rw [ev_agree hr (fun k hk => List.mem_append.2 (.inr hk)), hy] at h2
  obtain ⟨a1, e1, k1⟩ := h1
  obtain ⟨a2, e2, k2⟩ := h2
  refine ⟨.bool r, ⟨rfl, rfl⟩, ?_⟩
  have l1 := PVs_v k1
  have l2 := PVs_v k2
  have q1 : a1 = cs.toArray := by rw [← l1]
  have q2 : a2 = ds.toArray := by rw [← l2]
  subst q1; subst q2
  have hg : (eqGuard .eql t x y (.agg cs.toArray) (.agg ds.toArray)).run P w = .ok () w := by
    unfold eqGuard
    simp [h.guard]
  unfold execOp
  simp only [ho, e1, e2, Sem.run_bind, hg, Result.andThen_ok]
  simp only [binOp, Sem.run_bind, h.run, Result.andThen_ok, Sem.run_pure]
theorem l_neAgg [Trk] {o : Oper} {st : AState} {d : Nat} {x y : Operand} {t t' : TypeId} {cs ds : List Value} {r : Bool} (ho : o.op = .binOp .neq t x y t') (hd : o.dst = some d) (hlt : d < st.n) (hx : ev st x = .agg (cs.map .v)) (hy : ev st y = .agg (ds.map .v)) (h : EqAgg P t cs ds r) :
    Local P o st ⟨keyO x ++ keyO y, ⟨[(d, B (!r))], []⟩, []⟩ := by
  intro st2 hn hr
  refine ok_value hd (by rw [hn]; exact hlt) fun Γ ρ a w hok => ?_
  have h1 := ev_rel hok x
  have h2 := ev_rel hok y
  rw [ev_agree hr (fun k hk => List.mem_append.2 (.inl hk)), hx] at h1
  rw [ev_agree hr (fun k hk => List.mem_append.2 (.inr hk)), hy] at h2
  obtain ⟨a1, e1, k1⟩ := h1
  obtain ⟨a2, e2, k2⟩ := h2
  refine ⟨.bool (!r), ⟨rfl, rfl⟩, ?_⟩
  have l1 := PVs_v k1
  have l2 := PVs_v k2
  have q1 : a1 = cs.toArray := by rw [← l1]
  have q2 : a2 = ds.toArray := by rw [← l2]
  subst q1; subst q2
  have hg : (eqGuard .neq t x y (.agg cs.toArray) (.agg ds.toArray)).run P w = .ok () w := by
    unfold eqGuard
    simp [h.guard]
  unfold execOp
  simp only [ho, e1, e2, Sem.run_bind, hg, Result.andThen_ok]
  simp only [binOp, Sem.run_bind, h.run, Result.andThen_ok, Sem.run_pure]
theorem ar_eqAgg [Trk] {ops : Array Oper} {draw : Bool} {st0 : AState} {Q : Exit → AState → Prop} {i d : Nat} {st : AState} {acc : List Eff} {o : Oper} {x y : Operand} {t t' : TypeId} {cs ds : List Value} {r : Bool} (h : EqAgg P t cs ds r) (ho : ops[i]? = some o) (hg : o.guard = none) (hop : o.op = .binOp .eql t x y t') (hd : o.dst = some d) (hlt : d < st.n)
    (hx : ev st x = .agg (cs.map .v)) (hy : ev st y = .agg (ds.map .v)) (k : AR P ops draw st0 Q (i + 1, { st with t := (d, B r) :: st.t }, if draw = true then acc ++ [⟨keyO x ++ keyO y, ⟨[(d, B r)], []⟩, []⟩] else acc)) : AR P ops draw st0 Q (i, st, acc) :=
  as_local ho hg (E := ⟨keyO x ++ keyO y, ⟨[(d, B r)], []⟩, []⟩) (l_eqAgg hop hd hlt hx hy h) rfl rfl st0 Q k
theorem ar_eqAgg_if [Trk] {ops : Array Oper} {draw : Bool} {st0 : AState} {Q : Exit → AState → Prop} {i j dj d : Nat} {b : Bool} {st : AState} {acc : List Eff} {o : Oper} {x y : Operand} {t t' : TypeId} {cs ds : List Value} {r : Bool} (h : EqAgg P t cs ds r) (ho : ops[i]? = some o) (hg : o.guard = some (j, b)) (hj : (ops[j]?).bind (·.dst) = some dj) (hop : o.op = .binOp .eql t x y t') (hd : o.dst = some d) (hlt : d < st.n)
    (hv : tget st.t dj = .pv (.v (.bool b))) (hx : ev st x = .agg (cs.map .v)) (hy : ev st y = .agg (ds.map .v)) (k : AR P ops draw st0 Q (i + 1, { st with t := (d, B r) :: st.t }, if draw = true then acc ++ [⟨.tmp dj :: (keyO x ++ keyO y), ⟨[(d, B r)], []⟩, []⟩] else acc)) : AR P ops draw st0 Q (i, st, acc) :=
  as_local_if ho hg hj hv (E := ⟨keyO x ++ keyO y, ⟨[(d, B r)], []⟩, []⟩) (l_eqAgg hop hd hlt hx hy h) rfl rfl st0 Q k
theorem ar_neAgg [Trk] {ops : Array Oper} {draw : Bool} {st0 : AState} {Q : Exit → AState → Prop} {i d : Nat} {st : AState} {acc : List Eff} {o : Oper} {x y : Operand} {t t' : TypeId} {cs ds : List Value} {r : Bool} (h : EqAgg P t cs ds r) (ho : ops[i]? = some o) (hg : o.guard = none) (hop : o.op = .binOp .neq t x y t') (hd : o.dst = some d) (hlt : d < st.n)
    (hx : ev st x = .agg (cs.map .v)) (hy : ev st y = .agg (ds.map .v)) (k : AR P ops draw st0 Q (i + 1, { st with t := (d, B (!r)) :: st.t }, if draw = true then acc ++ [⟨keyO x ++ keyO y, ⟨[(d, B (!r))], []⟩, []⟩] else acc)) : AR P ops draw st0 Q (i, st, acc) :=
  as_local ho hg (E := ⟨keyO x ++ keyO y, ⟨[(d, B (!r))], []⟩, []⟩) (l_neAgg hop hd hlt hx hy h) rfl rfl st0 Q k
theorem ar_neAgg_if [Trk] {ops : Array Oper} {draw : Bool} {st0 : AState} {Q : Exit → AState → Prop} {i j dj d : Nat} {b : Bool} {st : AState} {acc : List Eff} {o : Oper} {x y : Operand} {t t' : TypeId} {cs ds : List Value} {r : Bool} (h : EqAgg P t cs ds r) (ho : ops[i]? = some o) (hg : o.guard = some (j, b)) (hj : (ops[j]?).bind (·.dst) = some dj) (hop : o.op = .binOp .neq t x y t') (hd : o.dst = some d) (hlt : d < st.n)
    (hv : tget st.t dj = .pv (.v (.bool b))) (hx : ev st x = .agg (cs.map .v)) (hy : ev st y = .agg (ds.map .v)) (k : AR P ops draw st0 Q (i + 1, { st with t := (d, B (!r)) :: st.t }, if draw = true then acc ++ [⟨.tmp dj :: (keyO x ++ keyO y), ⟨[(d, B (!r))], []⟩, []⟩] else acc)) : AR P ops draw st0 Q (i, st, acc) :=
  as_local_if ho hg hj hv (E := ⟨keyO x ++ keyO y, ⟨[(d, B (!r))], []⟩, []⟩) (l_neAgg hop hd hlt hx hy h) rfl rfl st0 Q k
end Go.Eng
set_option autoImplicit false
set_option linter.unusedVariables false
set_option linter.unusedSimpArgs false
namespace Go.Eng
open Go Go.RowKit
variable {P : Program}
def isFunc (P : Program) (t : TypeId) : Bool := match P.underlying t with | some (.func _ _ _) => true | _ => false
def isNilFn : AV → Option Bool
  | .fn _ _ _ => some false
  | .pv (.v .nilFunc) => some true
  | _ => none
theorem run_eq_nil [Trk] {t : TypeId} {v : Value} {b : Bool} (ht : isFunc P t = true) (hv : (b = true ∧ v = .nilFunc) ∨ (b = false ∧ ∃ f x y, v = .func f x y)) (w : World) : (Op.equal t v .nilFunc).run P w = .ok b w := by
  unfold isFunc at ht
  cases hu : P.underlying t with
  | none => rw [hu] at ht; cases ht
  | some d =>
    rw [hu] at ht
    cases d with
    | func a c e =>
      have hd : ∀ d : Nat, (Op.equalIn (d + 1) t v .nilFunc).run P w = .ok b w := fun d => by
        rcases hv with ⟨rfl, rfl⟩ | ⟨rfl, f, x, y, rfl⟩ <;> simp [Op.equalIn, run_underlying hu]
      exact hd 9999
    | _ => cases ht
theorem l_eqNil [Trk] {o : Oper} {st : AState} {d : Nat} {x : Operand} {t t' : TypeId} {b : Bool} (ho : o.op = .binOp .eql t x (.const .nilFunc) t') (hd : o.dst = some d) (hlt : d < st.n) (ht : isFunc P t = true) (hx : isNilFn (ev st x) = some b) :
    Local P o st ⟨keyO x, ⟨[(d, B b)], []⟩, []⟩ := by
  intro st2 hn hr
  refine ok_value hd (by rw [hn]; exact hlt) fun Γ ρ a w hok => ?_
  have h1 := ev_rel hok x
  rw [ev_agree hr (fun k hk => hk)] at h1
  have hv : (b = true ∧ a.eval x = .nilFunc) ∨ (b = false ∧ ∃ f p q, a.eval x = .func f p q) := by
    unfold isNilFn at hx
    split at hx
    · rename_i f p q he
      rw [he] at h1
      obtain ⟨u, v, h2, _⟩ := h1
      cases hx
      exact .inr ⟨rfl, _, _, _, h2⟩
    · rename_i he
      rw [he] at h1
      cases hx
      exact .inl ⟨rfl, pv_inv h1⟩
    · cases hx
  refine ⟨.bool b, ⟨rfl, rfl⟩, ?_⟩
  have hg : (eqGuard .eql t x (.const .nilFunc) (a.eval x) .nilFunc).run P w = .ok () w := by
    rcases hv with ⟨_, h⟩ | ⟨_, f, p, q, h⟩ <;> rw [h] <;> rfl
  have en : a.eval (.const .nilFunc) = .nilFunc := rfl
  have hb : (binOp .eql t (a.eval x) .nilFunc).run P w = .ok (.bool b) w := by
    have he := run_eq_nil (P := P) ht hv w
    rcases hv with ⟨_, h⟩ | ⟨_, f, p, q, h⟩ <;> rw [h] at he ⊢ <;> simp only [binOp, Sem.run_bind, he, Result.andThen_ok, Sem.run_pure]
  unfold execOp
  simp only [ho, en, Sem.run_bind, hg, Result.andThen_ok, hb, Sem.run_pure]
theorem ar_eqNil [Trk] {ops : Array Oper} {draw : Bool} {st0 : AState} {Q : Exit → AState → Prop} {i d : Nat} {st : AState} {acc : List Eff} {o : Oper} {x : Operand} {t t' : TypeId} {b : Bool} (ho : ops[i]? = some o) (hg : o.guard = none) (hop : o.op = .binOp .eql t x (.const .nilFunc) t') (hd : o.dst = some d) (hlt : d < st.n) (ht : isFunc P t = true) (hx : isNilFn (ev st x) = some b)
    (k : AR P ops draw st0 Q (i + 1, { st with t := (d, B b) :: st.t }, if draw = true then acc ++ [⟨keyO x, ⟨[(d, B b)], []⟩, []⟩] else acc)) : AR P ops draw st0 Q (i, st, acc) :=
  as_local ho hg (E := ⟨keyO x, ⟨[(d, B b)], []⟩, []⟩) (l_eqNil hop hd hlt ht hx) rfl rfl st0 Q k
end Go.Eng
set_option autoImplicit false
set_option linter.unusedVariables false
set_option linter.unusedSimpArgs false
namespace Go.Eng
open Go Go.RowKit
variable {P : Program}

/-! ## Memory that grows -/
/-- Memory has grown; of old all is as it was. -/
theorem SOk.grow [Trk] {Γ : Ctx} {S : SMap} {ρ : Rho} {w w' : World} (h : SOk Γ S ρ w) (hs : w.heap.size ≤ w'.heap.size) (hb : ∀ b, b < w.heap.size → w'.heap[b]? = w.heap[b]?) (ho : w'.os = w.os) (ht : w'.tape = w.tape) (hu : w'.output = w.output) (hd : Trk.on → w.drawn ≤ w'.drawn) : SOk Γ S ρ w' := by
  have hk : Keep ρ.F w ρ.F w' := ⟨fun _ h => h, fun b hF => hb b (h.flt b hF)⟩
  refine { slots := fun n s hn => ?_, disj := h.disj, sep := h.sep, flt := fun b hF => Nat.lt_of_lt_of_le (h.flt b hF) hs, os := ho.trans h.os, tape := ht.trans h.tape, output := hu.trans h.output, size := Nat.le_trans h.size hs,
           below := fun b h1 h2 => (hb b (Nat.lt_of_lt_of_le h1 h.size)).trans (h.below b h1 h2), fmono := h.fmono, fnew := h.fnew, home := h.home, xblk := h.xblk, glob := h.glob.keep hk, drawn := fun t => Nat.le_trans (h.drawn t) (hd t) }
  have := h.slots n s hn
  cases s with
  | box T cells =>
    obtain ⟨cs, k1, k2, k3⟩ := this
    exact ⟨cs, by rw [hb _ (Array.getElem?_eq_some_iff.1 k1).1]; exact k1, ARels.keep' (ρ := ρ) (ρ' := ρ) hk rfl rfl k2, k3⟩
  | own e es xs =>
    obtain ⟨vs, k1, k2⟩ := this
    exact ⟨vs, k1.keepB (fun b hq => hb b (k1.lt hq)), PElems.keep hk _ _ k2⟩
theorem Ok.grow [Trk] {Γ : Ctx} {st : AState} {ρ : Rho} {a : Act} {w w' : World} (h : Ok Γ st ρ a w) (hs : w.heap.size ≤ w'.heap.size) (hb : ∀ b, b < w.heap.size → w'.heap[b]? = w.heap[b]?) (ho : w'.os = w.os) (ht : w'.tape = w.tape) (hu : w'.output = w.output) (hd : Trk.on → w.drawn ≤ w'.drawn) : Ok Γ st ρ a w' :=
  ⟨h.defers, h.size, fun t => ARel.keep' (ρ := ρ) (ρ' := ρ) ⟨fun _ h => h, fun b hF => hb b (h.sok.flt b hF)⟩ rfl rfl (h.tmps t), h.sok.grow hs hb ho ht hu hd⟩
/-! ## Rounds of a loop, one after the other -/
def AWR [Trk] (P : Program) (c : Code) (Q : Exit → AState → Prop) (n : Nat) (st : AState) : Prop :=
  ∀ (Γ : Ctx) (ρ : Rho) (a : Act) (w : World), Ok Γ st ρ a w → Code.rounds P c (fun e a' w' => ∃ st' ρ', Q e st' ∧ Ok Γ st' ρ' a' w') n a w
def rQ [Trk] (P : Program) (c : Code) (Q : Exit → AState → Prop) (n : Nat) : Exit → AState → Prop
  | .normal, st => AWR P c Q n st
  | e, st => Q e st
theorem aw_rounds [Trk] {c : Code} {Q : Exit → AState → Prop} {st : AState} (n : Nat) (h : AWR P c Q n st) : AW P (.loop c) Q st :=
  fun Γ ρ a w hok => wp_loop_rounds n (h Γ ρ a w hok)
theorem awr_step [Trk] {c : Code} {Q : Exit → AState → Prop} {n : Nat} {st : AState} (h : AW P c (rQ P c Q n) st) : AWR P c Q (n + 1) st := by
  intro Γ ρ a w hok
  rw [rounds_succ]
  refine wp_mono (h Γ ρ a w hok) ?_
  rintro e a' w' ⟨st', ρ', h1, h2⟩
  cases e with
  | normal => exact h1 Γ ρ' a' w' h2
  | _ => exact ⟨st', ρ', h1, h2⟩
theorem awr_sub [Trk] {c : Code} {Q : Exit → AState → Prop} {n : Nat} {st st' : AState} (hs : Sub st st') (h : AWR P c Q n st') : AWR P c Q n st :=
  fun Γ ρ a w hok => let ⟨ρ', h'⟩ := hs Γ ρ a w hok; h Γ ρ' a w h'
theorem rq_norm [Trk] {c : Code} {Q : Exit → AState → Prop} {n : Nat} {st : AState} (h : AWR P c Q n st) : rQ P c Q n .normal st := h
theorem rq_exit [Trk] {c : Code} {Q : Exit → AState → Prop} {n id : Nat} {st : AState} (h : Q (.exit id) st) : rQ P c Q n (.exit id) st := h
theorem rq_ret [Trk] {c : Code} {Q : Exit → AState → Prop} {n : Nat} {st : AState} (h : Q .ret st) : rQ P c Q n .ret st := h
theorem rq_goto [Trk] {c : Code} {Q : Exit → AState → Prop} {n l : Nat} {st : AState} (h : Q (.goto l) st) : rQ P c Q n (.goto l) st := h
theorem bq_norm [Trk] {id : Nat} {Q : Exit → AState → Prop} {st : AState} (h : Q .normal st) : blockQ id Q .normal st := h
theorem bq_ret [Trk] {id : Nat} {Q : Exit → AState → Prop} {st : AState} (h : Q .ret st) : blockQ id Q .ret st := h
theorem tq_norm [Trk] {y : Code} {Q : Exit → AState → Prop} {st : AState} (h : AW P y Q st) : thenQ P y Q .normal st := h
theorem tq_ret [Trk] {y : Code} {Q : Exit → AState → Prop} {st : AState} (h : Q .ret st) : thenQ P y Q .ret st := h
theorem tq_exit [Trk] {y : Code} {Q : Exit → AState → Prop} {st : AState} {id : Nat} (h : Q (.exit id) st) : thenQ P y Q (.exit id) st := h

/-! ## An operation whose effect is known -/
theorem ar_loc [Trk] {ops : Array Oper} {draw : Bool} {st0 : AState} {Q : Exit → AState → Prop} {i : Nat} {st st1 : AState} {acc : List Eff} {o : Oper} {E : Eff} (ho : ops[i]? = some o) (hg : o.guard = none) (hk : st.killAll E.c = st1) (hl : Local P o st1 E)
    (k : AR P ops draw st0 Q (i + 1, st1.app E.u, if draw = true then acc ++ [E] else acc)) : AR P ops draw st0 Q (i, st, acc) := by
  subst hk
  exact ar_at (Array.getElem?_eq_some_iff.1 ho).1 (LocalAt.plain ho hg hl) (fun hd => by rw [if_pos hd]) k
theorem ar_loc_if [Trk] {ops : Array Oper} {draw : Bool} {st0 : AState} {Q : Exit → AState → Prop} {i j d : Nat} {b : Bool} {st st1 : AState} {acc : List Eff} {o : Oper} {E : Eff} (ho : ops[i]? = some o) (hg : o.guard = some (j, b)) (hj : (ops[j]?).bind (·.dst) = some d) (hv : tget st.t d = .pv (.v (.bool b))) (hk : st.killAll E.c = st1) (hl : Local P o st1 E)
    (k : AR P ops draw st0 Q (i + 1, st1.app E.u, if draw = true then acc ++ [{ E with r := .tmp d :: E.r }] else acc)) : AR P ops draw st0 Q (i, st, acc) := by
  subst hk
  exact ar_at (E := { E with r := .tmp d :: E.r }) (Array.getElem?_eq_some_iff.1 ho).1 (LocalAt.guarded ho hg hj (tget_killAll_pv _ hv) hl) (fun hd => by rw [if_pos hd]) k

/-! ## Appends -/
theorem isNilV_eq [Trk] {a : AV} (h : isNilV a = true) : a = .pv (.v (.slice none 0 0)) := by
  unfold isNilV at h
  split at h
  · rfl
  · cases h
theorem ar_appN [Trk] {ops : Array Oper} {draw : Bool} {st0 : AState} {Q : Exit → AState → Prop} {i d : Nat} {st st1 : AState} {acc : List Eff} {o : Oper} {s x : Operand} {t t' e e' size bytes : Nat} {ys : List (List PV)}
    (ho : ops[i]? = some o) (hg : o.guard = none) (hop : o.op = .call { callee := .builtin .append, args := #[s, x], argTypes := #[t, t'] }) (hd : o.dst = some d) (hk : st.killAll [.loc d] = st1) (hs : isNilV (ev st1 s) = true) (hT : elemS P t = some e) (hT' : elemS P t' = some e') (he : elemT? P e = some (size, bytes))
    (hx : srcP st1 size (ev st1 x) = some ys) (hlt : d < st1.n) (hsz : 0 < size) (hb : ys.length * bytes ≤ 140737488355328 ∧ ys.length ≤ maxLen)
    (k : AR P ops draw st0 Q (i + 1, st1.app ⟨[(d, .own (.loc d))], [(.loc d, some (.own e size ys))]⟩, if draw = true then acc ++ [⟨keyO s ++ keyO x ++ slotK (ev st1 x), ⟨[(d, .own (.loc d))], [(.loc d, some (.own e size ys))]⟩, [.loc d]⟩] else acc)) : AR P ops draw st0 Q (i, st, acc) :=
  ar_loc (E := ⟨keyO s ++ keyO x ++ slotK (ev st1 x), ⟨[(d, .own (.loc d))], [(.loc d, some (.own e size ys))]⟩, [.loc d]⟩) ho hg hk
    (l_append_new (xs := []) hop hd hlt hT hT' he hsz (.inr ⟨isNilV_eq hs, rfl⟩) hx (.inl rfl) (by simpa using hb.1) (by simpa using hb.2)) k
theorem ar_appT [Trk] {ops : Array Oper} {draw : Bool} {st0 : AState} {Q : Exit → AState → Prop} {i d : Nat} {st st1 : AState} {acc : List Eff} {o : Oper} {s x : Operand} {t t' e e' size bytes : Nat} {xs ys : List (List PV)}
    (ho : ops[i]? = some o) (hg : o.guard = none) (hop : o.op = .call { callee := .builtin .append, args := #[s, x], argTypes := #[t, t'] }) (hd : o.dst = some d) (hk : st.killAll [.loc d] = st1) (hs : ev st1 s = .tight size xs) (hT : elemS P t = some e) (hT' : elemS P t' = some e') (he : elemT? P e = some (size, bytes))
    (hx : srcP st1 size (ev st1 x) = some ys) (hlt : d < st1.n) (hsz : 0 < size) (hne : xs = [] ∨ 0 < ys.length) (hb : (xs.length + ys.length) * bytes ≤ 140737488355328 ∧ xs.length + ys.length ≤ maxLen)
    (k : AR P ops draw st0 Q (i + 1, st1.app ⟨[(d, .own (.loc d))], [(.loc d, some (.own e size (xs ++ ys)))]⟩, if draw = true then acc ++ [⟨keyO s ++ keyO x ++ slotK (ev st1 x), ⟨[(d, .own (.loc d))], [(.loc d, some (.own e size (xs ++ ys)))]⟩, [.loc d]⟩] else acc)) : AR P ops draw st0 Q (i, st, acc) :=
  ar_loc (E := ⟨keyO s ++ keyO x ++ slotK (ev st1 x), ⟨[(d, .own (.loc d))], [(.loc d, some (.own e size (xs ++ ys)))]⟩, [.loc d]⟩) ho hg hk
    (l_append_new hop hd hlt hT hT' he hsz (.inl hs) hx hne hb.1 hb.2) k
theorem ar_appO [Trk] {ops : Array Oper} {draw : Bool} {st0 : AState} {Q : Exit → AState → Prop} {i d : Nat} {st st1 : AState} {acc : List Eff} {o : Oper} {s x : Operand} {t t' e e' size bytes : Nat} {n : Name} {xs ys : List (List PV)}
    (ho : ops[i]? = some o) (hg : o.guard = none) (hop : o.op = .call { callee := .builtin .append, args := #[s, x], argTypes := #[t, t'] }) (hd : o.dst = some d) (hn0 : ev st s = .own n) (hk : st.killAll [freshN n d] = st1) (hs : ev st1 s = .own n) (hT : elemS P t = some e) (hT' : elemS P t' = some e') (he : elemT? P e = some (size, bytes))
    (hn : sget st1.s n = some (.own e size xs)) (hx : srcP st1 size (ev st1 x) = some ys) (hlt : d < st1.n) (hsz : 0 < size) (hb : (xs.length + ys.length) * bytes ≤ 140737488355328 ∧ xs.length + ys.length ≤ maxLen)
    (k : AR P ops draw st0 Q (i + 1, st1.app ⟨[(d, .own (freshN n d))], [(freshN n d, some (.own e size (xs ++ ys))), (n, none)]⟩, if draw = true then acc ++ [⟨keyO s ++ keyO x ++ slotK (ev st1 x) ++ [.slot n], ⟨[(d, .own (freshN n d))], [(freshN n d, some (.own e size (xs ++ ys))), (n, none)]⟩, [freshN n d]⟩] else acc)) : AR P ops draw st0 Q (i, st, acc) :=
  ar_loc (E := ⟨keyO s ++ keyO x ++ slotK (ev st1 x) ++ [.slot n], ⟨[(d, .own (freshN n d))], [(freshN n d, some (.own e size (xs ++ ys))), (n, none)]⟩, [freshN n d]⟩) ho hg hk
    (l_append_own hop hd hlt hT hT' he hsz hs hn hx hb.1 hb.2) k

/-! ## Own slices, lent to be read -/
def PV.plain : PV → Bool
  | .v _ => true
  | .sl _ _ => false
mutual
def AV.plain : AV → Bool
  | .pv p => p.plain
  | .agg cs => cs.all PV.plain
  | .tup l => AV.plainL l
  | _ => false
def AV.plainL : List AV → Bool
  | [] => true
  | a :: l => a.plain && AV.plainL l
end
theorem PVs_plain [Trk] {F F' : Nat → Prop} {w w' : World} : ∀ {cs : List PV} {vs : List Value}, cs.all PV.plain = true → PVs F w cs vs → PVs F' w' cs vs
  | [], vs, _, h => h
  | p :: cs, vs, hp, ⟨v, vs', e, h1, h2⟩ => by
    simp only [List.all_cons, Bool.and_eq_true] at hp
    refine ⟨v, vs', e, ?_, PVs_plain hp.2 h2⟩
    cases p with
    | v x => exact h1
    | sl es xs => cases hp.1
mutual
theorem ARel.plain [Trk] {ρ ρ' : Rho} {w w' : World} : ∀ (a : AV) (v : Value), a.plain = true → ARel ρ w a v → ARel ρ' w' a v
  | .pv (.v x), v, _, h => h
  | .pv (.sl _ _), v, hp, h => by cases hp
  | .agg cs, v, hp, ⟨a, e, h⟩ => ⟨a, e, PVs_plain hp h⟩
  | .tup l, v, hp, ⟨a, e, h⟩ => ⟨a, e, ARels.plain l _ hp h⟩
  | .own _, v, hp, h => by cases hp
  | .tight _ _, v, hp, h => by cases hp
  | .ptr _ _, v, hp, h => by cases hp
  | .eptr _ _ _ _, v, hp, h => by cases hp
  | .rptr _, v, hp, h => by cases hp
  | .fn _ _ _, v, hp, h => by cases hp
  | .dead, v, hp, h => trivial
theorem ARels.plain [Trk] {ρ ρ' : Rho} {w w' : World} : ∀ (l : List AV) (vs : List Value), AV.plainL l = true → ARels ρ w l vs → ARels ρ' w' l vs
  | [], vs, _, h => h
  | a :: l, vs, hp, ⟨v, vs', e, h1, h2⟩ => by
    simp only [AV.plainL, Bool.and_eq_true] at hp
    exact ⟨v, vs', e, ARel.plain a v hp.1 h1, ARels.plain l vs' hp.2 h2⟩
end
/-- One argument is the same, or is an own slice that is read as any slice. -/
def Lend (X : SMap) (a a' : AV) : Prop := a = a' ∨ ∃ n e es xs, a' = .own n ∧ sget X n = some (.own e es xs) ∧ a = .pv (.sl es xs)
def LendAll (X : SMap) : List AV → List AV → Prop
  | [], [] => True
  | a :: l, a' :: l' => Lend X a a' ∧ LendAll X l l'
  | _, _ => False
theorem lend_rel [Trk] {Γ : Ctx} {X : SMap} {ρ : Rho} {w : World} (hX : SOk Γ X ρ w) {F' : Nat → Prop} (hF : ∀ b, ρ.F b → F' b) (hs : ∀ n s b, sget X n = some s → slotBlk ρ n s = some b → F' b) : ∀ {l l' : List AV} {vs : List Value}, LendAll X l l' → ARels ρ w l' vs → ARels ⟨ρ.blk, ρ.ov, F'⟩ w l vs
  | [], [], vs, _, h => h
  | a :: l, a' :: l', vs, ⟨h1, h2⟩, ⟨v, vs', e, h3, h4⟩ => by
    refine ⟨v, vs', e, ?_, lend_rel hX hF hs h2 h4⟩
    rcases h1 with rfl | ⟨n, e, es, xs, rfl, hn, rfl⟩
    · exact ARel.keep' (ρ := ρ) (ρ' := ⟨ρ.blk, ρ.ov, F'⟩) ⟨hF, fun _ _ => rfl⟩ rfl rfl h3
    · have hv : v = ρ.ov n := h3
      rw [hv]
      exact own_pv (hX.slots n _ hn) hF (fun b hb => hs n _ b hn hb)
  | [], _ :: _, _, h, _ => h.elim
  | _ :: _, [], _, h, _ => h.elim
theorem SC.lend [Trk] {f : FuncId} {args args' : List AV} {res : AV} {X : SMap} (h : SC P f args res) (hp : res.plain = true) (hl : LendAll X args args') : SCX P f args' X res X := by
  intro Γ ρ w vals hw hX hargs
  have hF : ∀ b, ρ.F b → (fun b => ρ.F b ∨ ∃ n s, sget X n = some s ∧ slotBlk ρ n s = some b) b := fun b hb => .inl hb
  have hF2 : ∀ n s b, sget X n = some s → slotBlk ρ n s = some b → (fun b => ρ.F b ∨ ∃ n s, sget X n = some s ∧ slotBlk ρ n s = some b) b := fun n s b h1 h2 => .inr ⟨n, s, h1, h2⟩
  have hrel := lend_rel hX hF hF2 hl hargs
  have hlt : ∀ b, (fun b => ρ.F b ∨ ∃ n s, sget X n = some s ∧ slotBlk ρ n s = some b) b → b < w.heap.size := by
    rintro b (hb | ⟨n, s, h1, h2⟩)
    · exact hX.flt b hb
    · exact slotBlk_lt hX h1 h2
  have hgl : GlobOK (fun b => ρ.F b ∨ ∃ n s, sget X n = some s ∧ slotBlk ρ n s = some b) w := fun b cs h => ⟨.inl (hX.glob b cs h).1, (hX.glob b cs h).2⟩
  generalize (fun b => ρ.F b ∨ ∃ n s, sget X n = some s ∧ slotBlk ρ n s = some b) = F' at *
  have h0 : SOk ⟨w, F', fun _ => False, fun i => ρ.blk (.ext i)⟩ [] ⟨ρ.blk, ρ.ov, F'⟩ w :=
    { slots := fun n s hn => (by cases hn), disj := fun n m s s' b hn => (by cases hn), sep := fun n s b hn => (by cases hn), flt := hlt, os := rfl, tape := rfl, output := rfl, size := Nat.le_refl _, below := fun _ _ _ => rfl, fmono := fun _ h => h, fnew := fun _ h => .inl h, home := fun n s b hn => (by cases hn), xblk := fun _ => rfl, glob := hgl, drawn := fun _ => Nat.le_refl _ }
  refine (h ⟨w, F', fun _ => False, fun i => ρ.blk (.ext i)⟩ ⟨ρ.blk, ρ.ov, F'⟩ w vals rfl h0 hrel).mono ?_
  rintro e w' ⟨v, ρ', rfl, hv, h'⟩
  exact ⟨v, ρ, rfl, ARel.plain _ _ hp hv, hX.grow h'.size (fun b hb => h'.below b hb (fun h => h)) h'.os h'.tape h'.output h'.drawn⟩
/-- A call that lends. -/
theorem ar_callX [Trk] {ops : Array Oper} {draw : Bool} {st0 : AState} {Q : Exit → AState → Prop} {i : Nat} {st : AState} {acc : List Eff} {o : Oper} {x : Operand} {args : Array Operand} {ats : Array TypeId} {f : FuncId} {fi ca : List AV} {cargs : List AV} {res : AV} {X Y : SMap} {d : Nat} (r r2 : List Name)
    (hent : Enters P f) (hsc : SCX P f cargs X res Y) (ho : ops[i]? = some o) (hg : o.guard = none) (hop : o.op = .call { callee := .value x, args, argTypes := ats }) (hd : o.dst = some d) (hx : ev st x = .fn f fi ca) (hlt : d < st.n)
    (hargs : AV.renL r cargs = fi ++ (args.toList.map (ev st) ++ ca)) (hX : OkX r st X) (hc : CallOk r r2 [] Y) (hrX : ∀ i, i < r.length → ∃ s, sget X (.ext i) = some s) (hres : res.okN r r2 [] = true)
    (k : AR P ops draw st0 Q (i + 1, st.app ⟨[(d, res.ren r2)], renS r2 Y ++ noneS r⟩, if draw = true then acc ++ [⟨keyO x ++ keysL args.toList ++ r.map .slot, ⟨[(d, res.ren r2)], renS r2 Y ++ noneS r⟩, []⟩] else acc)) : AR P ops draw st0 Q (i, st, acc) := by
  have hl := l_call (P := P) (C := []) hop hx hargs hent hsc hX hc hrX hres (fun d' h' => by rw [hd] at h'; cases h'; exact hlt)
  rw [hd] at hl
  have hl' : Local P o st ⟨keyO x ++ keysL args.toList ++ r.map .slot, ⟨[(d, res.ren r2)], renS r2 Y ++ noneS r⟩, []⟩ := hl
  exact ar_loc (st1 := st) (E := ⟨keyO x ++ keysL args.toList ++ r.map .slot, ⟨[(d, res.ren r2)], renS r2 Y ++ noneS r⟩, []⟩) ho hg rfl hl' k
end Go.Eng
set_option autoImplicit false
set_option linter.unusedVariables false
set_option linter.unusedSimpArgs false
namespace Go.Eng
open Go Go.RowKit
variable {P : Program}

/-! ## Conditions that are not known: both ways -/
def tset : List (Nat × AV) → Nat → AV → List (Nat × AV)
  | [], _, _ => []
  | (k, v) :: r, n, a => if n = k then (k, a) :: r else (k, v) :: tset r n a
theorem tset_same [Trk] {n : Nat} : ∀ {l : List (Nat × AV)} {a : AV}, tget l n = a → tset l n a = l
  | [], _, _ => rfl
  | (k, v) :: r, a, h => by
    simp only [tget] at h
    simp only [tset]
    split
    · rename_i e; rw [if_pos e] at h; rw [h]
    · rename_i e; rw [if_neg e] at h; rw [tset_same h]
theorem ar_guard [Trk] {ops : Array Oper} {draw : Bool} {st0 : AState} {Q : Exit → AState → Prop} {i j d : Nat} {b c : Bool} {st : AState} {acc : List Eff} {o : Oper} (ho : ops[i]? = some o) (hg : o.guard = some (j, c)) (hj : (ops[j]?).bind (·.dst) = some d) (hv : tget st.t d = .pv (.v (.bool b)))
    (ht : b = true → AR P ops draw st0 Q (i, ⟨st.n, tset st.t d (.pv (.v (.bool true))), st.s⟩, acc)) (hf : b = false → AR P ops draw st0 Q (i, ⟨st.n, tset st.t d (.pv (.v (.bool false))), st.s⟩, acc)) : AR P ops draw st0 Q (i, st, acc) := by
  cases hb : b with
  | true => have h := ht hb; rw [hb] at hv; rw [tset_same hv] at h; exact h
  | false => have h := hf hb; rw [hb] at hv; rw [tset_same hv] at h; exact h
theorem aw_both [Trk] {c : Operand} {x y : Code} {b : Bool} {Q : Exit → AState → Prop} {st : AState} (hc : ev st c = .pv (.v (.bool b))) (ht : b = true → AW P x Q st) (hf : b = false → AW P y Q st) : AW P (.cond c x y) Q st := aw_cond hc ht hf

/-! ## What comes back, an own slice among it, is a slice as any -/
theorem ret_frz [Trk] {rs : List ResultVar} {res : AV} {st : AState} {r : List AV} (n : Name) (h1 : resA P (st.freeze n) rs = some r) (h2 : resV r = res) : retL P rs res [] .ret st :=
  ⟨st.freeze n, r, Sub.freeze st n, h1, h2, by simp⟩
/-- A nil slice is one without elements. -/
def AState.nilSl (st : AState) (t es : Nat) : AState := if isNilV (tget st.t t) = true then ⟨st.n, (t, .pv (.sl es [])) :: st.t, st.s⟩ else st
theorem Sub.nilSl [Trk] (st : AState) (t es : Nat) : Sub st (st.nilSl t es) := by
  intro Γ ρ a w hok
  unfold AState.nilSl
  split
  rotate_left
  · exact ⟨ρ, hok⟩
  rename_i hnil
  refine ⟨ρ, hok.defers, hok.size, fun q => ?_, hok.sok⟩
  simp only [tget]
  split
  · rename_i hq
    subst hq
    have := isNilV_rel hnil (hok.tmps q)
    rw [this]
    exact ⟨none, 0, [], rfl, Nat.le_refl _, by simp [maxLen], rfl, .inl rfl⟩
  · exact hok.tmps q
theorem ret_nil [Trk] {rs : List ResultVar} {res : AV} {st : AState} {r : List AV} (t es : Nat) (h1 : resA P (st.nilSl t es) rs = some r) (h2 : resV r = res) : retL P rs res [] .ret st :=
  ⟨st.nilSl t es, r, Sub.nilSl st t es, h1, h2, by simp⟩
attribute [simp] tset AState.freeze AState.nilSl tmap smap AV.frz Slot.map isNilV
end Go.Eng
set_option autoImplicit false
set_option linter.unusedVariables false
set_option linter.unusedSimpArgs false
namespace Go.Eng
open Go Go.RowKit
variable {P : Program}

/-! ## What is no longer needed is left -/
def keepT (l : List (Nat × AV)) : List Nat → List (Nat × AV)
  | [] => []
  | t :: L => (t, tget l t) :: keepT l L
def sclean (seen : List Name) : SMap → SMap
  | [] => []
  | (k, v) :: r => if k ∈ seen then sclean seen r else match v with
    | none => sclean (k :: seen) r
    | some s => (k, some s) :: sclean (k :: seen) r
def AState.keep (st : AState) (L : List Nat) : AState := ⟨st.n, keepT st.t L, sclean [] st.s⟩
theorem keepT_mem [Trk] {l : List (Nat × AV)} : ∀ {L : List Nat} {p : Nat × AV}, p ∈ keepT l L → p.2 = tget l p.1
  | [], p, h => by cases h
  | t :: L, p, h => by
    simp only [keepT, List.mem_cons] at h
    rcases h with rfl | h
    · rfl
    · exact keepT_mem h
theorem sclean_mem [Trk] : ∀ {S : SMap} {seen : List Name} {p : Name × Option Slot}, p ∈ sclean seen S → p.1 ∉ seen ∧ p.2 = sget S p.1
  | [], seen, p, h => by cases h
  | (k, v) :: r, seen, p, h => by
    simp only [sclean] at h
    split at h
    · rename_i hk
      obtain ⟨h1, h2⟩ := sclean_mem h
      refine ⟨h1, ?_⟩
      simp only [sget]
      rw [if_neg (fun e => h1 (by rw [e]; exact hk))]
      exact h2
    · rename_i hk
      split at h
      · obtain ⟨h1, h2⟩ := sclean_mem h
        simp only [List.mem_cons, not_or] at h1
        refine ⟨h1.2, ?_⟩
        simp only [sget]
        rw [if_neg h1.1]
        exact h2
      · simp only [List.mem_cons] at h
        rcases h with rfl | h
        · exact ⟨hk, by simp [sget]⟩
        · obtain ⟨h1, h2⟩ := sclean_mem h
          simp only [List.mem_cons, not_or] at h1
          refine ⟨h1.2, ?_⟩
          simp only [sget]
          rw [if_neg h1.1]
          exact h2
theorem Sub.keep [Trk] (st : AState) (L : List Nat) : Sub st (st.keep L) :=
  Sub.of rfl (fun p h => keepT_mem h) (fun p h => (sclean_mem h).2)
theorem aw_keep [Trk] {c : Code} {Q : Exit → AState → Prop} {st st' : AState} (L : List Nat) (hs : st.keep L = st') (h : AW P c Q st') : AW P c Q st := by
  subst hs; exact aw_sub (Sub.keep st L) h
theorem awr_keep [Trk] {c : Code} {Q : Exit → AState → Prop} {n : Nat} {st st' : AState} (L : List Nat) (hs : st.keep L = st') (h : AWR P c Q n st') : AWR P c Q n st := by
  subst hs; exact awr_sub (Sub.keep st L) h
theorem aw_sregK [Trk] {ops : Array Oper} {y : Code} {Q : Exit → AState → Prop} {st : AState} (id : Nat) (L : List Nat) (h : AR P ops false (st.keep L) (thenQ P y Q) (0, st.keep L, [])) : AW P (.seq (.region id ops false) y) Q st :=
  aw_sub (Sub.keep st L) (aw_sreg h)
theorem aw_regK [Trk] {ops : Array Oper} {Q : Exit → AState → Prop} {st : AState} (id : Nat) (L : List Nat) (h : AR P ops false (st.keep L) Q (0, st.keep L, [])) : AW P (.region id ops false) Q st :=
  aw_sub (Sub.keep st L) (aw_region h)
theorem aw_sregKD [Trk] {ops : Array Oper} {y : Code} {Q : Exit → AState → Prop} {st st' : AState} (hm : P.follows .mixedOrders = true) (id : Nat) (L : List Nat) (hs : st.keep L = st') (h : AR P ops true st' (thenQ P y Q) (0, st', [])) : AW P (.seq (.region id ops true) y) Q st := by
  subst hs; exact aw_sub (Sub.keep st L) (aw_sregD hm h)
theorem aw_regKD [Trk] {ops : Array Oper} {Q : Exit → AState → Prop} {st st' : AState} (hm : P.follows .mixedOrders = true) (id : Nat) (L : List Nat) (hs : st.keep L = st') (h : AR P ops true st' Q (0, st', [])) : AW P (.region id ops true) Q st := by
  subst hs; exact aw_sub (Sub.keep st L) (aw_region_draw hm h)
/-- A loop, its state pruned: from any head its body leads to another one, or out. -/
theorem aw_loopK [Trk] {ι : Type} {c : Code} {Q : Exit → AState → Prop} {st st' : AState} (L : List Nat) (hs : st.keep L = st') (head : ι → AState) (μ : ι → Nat) (i0 : ι) (h0 : head i0 = st') (hr : ∀ i, AW P c (loopQ head μ i Q) (head i)) : AW P (.loop c) Q st :=
  aw_loop head μ i0 (by rw [h0, ← hs]; exact Sub.keep st L) hr
theorem lq_norm [Trk] {ι : Type} {head : ι → AState} {μ : ι → Nat} {i : ι} {Q : Exit → AState → Prop} {st st' : AState} (L : List Nat) (hs : st.keep L = st') (j : ι) (hj : μ j < μ i) (h : head j = st') : loopQ head μ i Q .normal st :=
  ⟨j, hj, by rw [h, ← hs]; exact Sub.keep st L⟩
theorem lq_exit [Trk] {ι : Type} {head : ι → AState} {μ : ι → Nat} {i : ι} {Q : Exit → AState → Prop} {st : AState} {id : Nat} (h : Q (.exit id) st) : loopQ head μ i Q (.exit id) st := h
theorem lq_ret [Trk] {ι : Type} {head : ι → AState} {μ : ι → Nat} {i : ι} {Q : Exit → AState → Prop} {st : AState} (h : Q .ret st) : loopQ head μ i Q .ret st := h
/-! ## A call to which own slices are lent: nothing of the caller's changes -/
def LendR (st : AState) (r : List Name) : List AV → List AV → Prop
  | [], [] => True
  | a :: l, a' :: l' => (a = a' ∨ ∃ n e es xs, n ∈ r ∧ a' = .own n ∧ sget st.s n = some (.own e es xs) ∧ a = .pv (.sl es xs)) ∧ LendR st r l l'
  | _, _ => False
theorem LendR.all [Trk] {st st2 : AState} {r : List Name} (hs : ∀ n ∈ r, sget st2.s n = sget st.s n) : ∀ {l l' : List AV}, LendR st r l l' → LendAll st2.s l l'
  | [], [], _ => trivial
  | a :: l, a' :: l', ⟨h1, h2⟩ => by
    refine ⟨?_, LendR.all hs h2⟩
    rcases h1 with h | ⟨n, e, es, xs, hn, h3, h4, h5⟩
    · exact .inl h
    · exact .inr ⟨n, e, es, xs, h3, by rw [hs n hn, h4], h5⟩
  | [], _ :: _, h => h.elim
  | _ :: _, [], h => h.elim
theorem l_lend [Trk] {o : Oper} {st : AState} {x : Operand} {args : Array Operand} {ats : Array TypeId} {f : FuncId} {fi ca : List AV} {cargs : List AV} {res : AV} {d : Nat} (r : List Name)
    (ho : o.op = .call { callee := .value x, args, argTypes := ats }) (hx : ev st x = .fn f fi ca) (hargs : LendR st r cargs (fi ++ (args.toList.map (ev st) ++ ca))) (hent : Enters P f) (hsc : SC P f cargs res) (hp : res.plain = true) (hd : o.dst = some d) (hlt : d < st.n) :
    Local P o st ⟨keyO x ++ keysL args.toList ++ r.map Key.slot, ⟨[(d, res)], []⟩, []⟩ := by
  intro st2 hn hr Γ ρ a w K Q hok hfree hk
  have hx2 : ev st2 x = .fn f fi ca := by rw [ev_agree hr (fun k h => List.mem_append_left _ (List.mem_append_left _ h)), hx]
  have ha2 : args.toList.map (ev st2) = args.toList.map (ev st) := map_ev_agree hr _ (fun k h => List.mem_append_left _ (List.mem_append_right _ h))
  have hs2 : ∀ n ∈ r, sget st2.s n = sget st.s n := fun n h => sget_agree hr (List.mem_append_right _ (List.mem_map_of_mem h))
  have hf := ev_rel hok x
  rw [hx2] at hf
  obtain ⟨af, ac, h1, h2, h3⟩ := hf
  have hvals : ARels ρ w (fi ++ (args.toList.map (ev st) ++ ca)) (af ++ (args.map a.eval) ++ ac).toList := by
    rw [← ha2]
    simp only [Array.toList_append, Array.toList_map, List.append_assoc]
    exact h2.append ((ARels.ev hok _).append h3)
  have hX := hok.sok
  have hF : ∀ b, ρ.F b → (fun b => ρ.F b ∨ ∃ n s, sget st2.s n = some s ∧ slotBlk ρ n s = some b) b := fun b hb => .inl hb
  have hF2 : ∀ n s b, sget st2.s n = some s → slotBlk ρ n s = some b → (fun b => ρ.F b ∨ ∃ n s, sget st2.s n = some s ∧ slotBlk ρ n s = some b) b := fun n s b h1 h2 => .inr ⟨n, s, h1, h2⟩
  have hrel := lend_rel hX hF hF2 (hargs.all hs2) hvals
  have hlt2 : ∀ b, (fun b => ρ.F b ∨ ∃ n s, sget st2.s n = some s ∧ slotBlk ρ n s = some b) b → b < w.heap.size := by
    rintro b (hb | ⟨n, s, h1, h2⟩)
    · exact hX.flt b hb
    · exact slotBlk_lt hX h1 h2
  have hgl : GlobOK (fun b => ρ.F b ∨ ∃ n s, sget st2.s n = some s ∧ slotBlk ρ n s = some b) w := fun b cs h => ⟨.inl (hX.glob b cs h).1, (hX.glob b cs h).2⟩
  generalize (fun b => ρ.F b ∨ ∃ n s, sget st2.s n = some s ∧ slotBlk ρ n s = some b) = F' at *
  have h0 : SOk ⟨w, F', fun _ => False, fun i => ρ.blk (.ext i)⟩ [] ⟨ρ.blk, ρ.ov, F'⟩ w :=
    { slots := fun n s hn => (by cases hn), disj := fun n m s s' b hn => (by cases hn), sep := fun n s b hn => (by cases hn), flt := hlt2, os := rfl, tape := rfl, output := rfl, size := Nat.le_refl _, below := fun _ _ _ => rfl, fmono := fun _ h => h, fnew := fun _ h => .inl h, home := fun n s b hn => (by cases hn), xblk := fun _ => rfl, glob := hgl, drawn := fun _ => Nat.le_refl _ }
  have hcall := hsc ⟨w, F', fun _ => False, fun i => ρ.blk (.ext i)⟩ ⟨ρ.blk, ρ.ov, F'⟩ w (af ++ (args.map a.eval) ++ ac) rfl h0 hrel
  unfold Oper.wp
  have hrun : (execOp a.eval o).run P w = .ok (.enter f (af ++ (args.map a.eval) ++ ac)) w := by
    unfold execOp
    simp only [ho, resolve, h1, Deferred.ofValue, Sem.run_bind, Sem.run_pure, Result.andThen_ok, invoke]
    rw [hent]
  rw [hrun, Oper.upon_enter]
  refine hcall.mono ?_
  rintro e w' ⟨v, ρ', rfl, hv, h'⟩
  rw [hd]
  exact hk _ _ _ ((hok.grow h'.size (fun b hb => h'.below b hb (fun h => h)) h'.os h'.tape h'.output h'.drawn).setT (by rw [hn]; exact hlt) (ARel.plain _ _ hp hv))
/-- The arguments, own slices read as any. -/
def lentA (st : AState) (a : AV) : AV := match a with
  | .own n => match sget st.s n with | some (.own _ es xs) => .pv (.sl es xs) | _ => a
  | a => a
def lentN : List AV → List Name
  | [] => []
  | .own n :: l => n :: lentN l
  | _ :: l => lentN l
theorem lendR_of [Trk] (st : AState) (r : List Name) : ∀ l : List AV, (∀ n ∈ lentN l, n ∈ r) → LendR st r (l.map (lentA st)) l
  | [], _ => trivial
  | a :: l, h => by
    cases a with
    | own n =>
      refine ⟨?_, lendR_of st r l fun m hm => h m (by simp [lentN, hm])⟩
      simp only [lentA]
      split
      · rename_i e es xs hs
        exact .inr ⟨n, e, es, xs, h n (by simp [lentN]), rfl, hs, rfl⟩
      · exact .inl rfl
    | _ => exact ⟨.inl rfl, lendR_of st r l fun m hm => h m (by simpa [lentN] using hm)⟩
theorem ar_lend [Trk] {ops : Array Oper} {draw : Bool} {st0 : AState} {Q : Exit → AState → Prop} {i : Nat} {st : AState} {acc : List Eff} {o : Oper} {x : Operand} {args : Array Operand} {ats : Array TypeId} {f : FuncId} {fi ca : List AV} {as cargs : List AV} {res : AV} {d : Nat} {r : List Name}
    (hent : Enters P f) (hsc : SC P f cargs res) (ho : ops[i]? = some o) (hg : o.guard = none) (hop : o.op = .call { callee := .value x, args, argTypes := ats }) (hd : o.dst = some d) (hx : ev st x = .fn f fi ca) (hlt : d < st.n)
    (hac : fi ++ (args.toList.map (ev st) ++ ca) = as) (hm : as.map (lentA st) = cargs) (hr : lentN as = r) (hp : res.plain = true)
    (k : AR P ops draw st0 Q (i + 1, ⟨st.n, (d, res) :: st.t, st.s⟩, if draw = true then acc ++ [⟨keyO x ++ keysL args.toList ++ r.map Key.slot, ⟨[(d, res)], []⟩, []⟩] else acc)) : AR P ops draw st0 Q (i, st, acc) :=
  ar_loc (st1 := st) (E := ⟨keyO x ++ keysL args.toList ++ r.map Key.slot, ⟨[(d, res)], []⟩, []⟩) ho hg rfl (l_lend r hop hx (by rw [hac, ← hm]; exact lendR_of st r as (fun n h => by rw [← hr]; exact h)) hent hsc hp hd hlt) k
theorem ar_lend_if [Trk] {ops : Array Oper} {draw : Bool} {st0 : AState} {Q : Exit → AState → Prop} {i j dj : Nat} {b : Bool} {st : AState} {acc : List Eff} {o : Oper} {x : Operand} {args : Array Operand} {ats : Array TypeId} {f : FuncId} {fi ca : List AV} {as cargs : List AV} {res : AV} {d : Nat} {r : List Name}
    (hent : Enters P f) (hsc : SC P f cargs res) (ho : ops[i]? = some o) (hg : o.guard = some (j, b)) (hj : (ops[j]?).bind (·.dst) = some dj) (hop : o.op = .call { callee := .value x, args, argTypes := ats }) (hd : o.dst = some d) (hx : ev st x = .fn f fi ca) (hv : tget st.t dj = .pv (.v (.bool b))) (hlt : d < st.n)
    (hac : fi ++ (args.toList.map (ev st) ++ ca) = as) (hm : as.map (lentA st) = cargs) (hr : lentN as = r) (hp : res.plain = true)
    (k : AR P ops draw st0 Q (i + 1, ⟨st.n, (d, res) :: st.t, st.s⟩, if draw = true then acc ++ [⟨.tmp dj :: (keyO x ++ keysL args.toList ++ r.map Key.slot), ⟨[(d, res)], []⟩, []⟩] else acc)) : AR P ops draw st0 Q (i, st, acc) :=
  ar_loc_if (st1 := st) (E := ⟨keyO x ++ keysL args.toList ++ r.map Key.slot, ⟨[(d, res)], []⟩, []⟩) ho hg hj hv rfl (l_lend r hop hx (by rw [hac, ← hm]; exact lendR_of st r as (fun n h => by rw [← hr]; exact h)) hent hsc hp hd hlt) k
/-! ## Operations up to one that hangs on a condition that was just made -/
def newG (i0 : Nat) (o : Oper) : Bool := match o.guard with | some (j, _) => Nat.ble i0 j | none => false
def runsS (P : Program) (ops : Array Oper) (draw : Bool) (i0 : Nat) : List Oper → Nat → AState → List Eff → Nat × AState × List Eff
  | [], i, st, acc => (i, st, acc)
  | o :: l, i, st, acc => if newG i0 o = true then (i, st, acc) else match stepG P ops o st with
    | some (E, st') => runsS P ops draw i0 l (i + 1) st' (if draw = true then acc ++ [E] else acc)
    | none => (i, st, acc)
theorem ar_runsS [Trk] {ops : Array Oper} {draw : Bool} {st0 : AState} {Q : Exit → AState → Prop} {i0 : Nat} : ∀ (l : List Oper) (i : Nat) (st : AState) (acc : List Eff), ops.toList.drop i = l → AR P ops draw st0 Q (runsS P ops draw i0 l i st acc) → AR P ops draw st0 Q (i, st, acc)
  | [], _, _, _, _, h => h
  | o :: l, i, st, acc, hl, h => by
    simp only [runsS] at h
    have ho : ops[i]? = some o := by
      have : (ops.toList.drop i)[0]? = some o := by rw [hl]; rfl
      simpa [List.getElem?_drop] using this
    split at h
    · exact h
    split at h
    · rename_i E st' hs
      obtain ⟨h1, rfl⟩ := stepG_ok ho hs
      refine ar_at (acc' := if draw = true then acc ++ [E] else acc) (Array.getElem?_eq_some_iff.1 ho).1 h1 (fun hd => by rw [if_pos hd]) ?_
      exact ar_runsS l (i + 1) _ _ (by rw [← List.tail_drop, hl]; rfl) h
    · exact h
theorem ar_go3 [Trk] {ops : Array Oper} {draw : Bool} {st0 : AState} {Q : Exit → AState → Prop} {i j : Nat} {st st' : AState} {acc acc' : List Eff} (l : List Oper) (hl : ops.toList.drop i = l) (h : runsS P ops draw i l i st acc = (j, st', acc')) (hj : Nat.blt i j = true) (k : AR P ops draw st0 Q (j, st', acc')) : AR P ops draw st0 Q (i, st, acc) :=
  ar_runsS l i st acc hl (by rw [h]; exact k)
theorem wrap64s [Trk] {n : Int} (h0 : -9223372036854775808 ≤ n) (h1 : n ≤ 9223372036854775807) : IntKind.wrap .i64 n = n := by
  rw [IntKind.wrap_i64]; omega
attribute [simp] AState.keep keepT sclean srcV chunk freshN runsS newG Nat.ble LendR lentA lentN AV.plain AV.plainL PV.plain
end Go.Eng
set_option autoImplicit false
set_option linter.unusedVariables false
set_option linter.unusedSimpArgs false
namespace Go.Eng
open Go Go.RowKit
variable {P : Program}

/-! ## Ghost steps within a region -/
def Ghost [Trk] (st : AState) (E : Eff) : Prop := ∀ (st2 : AState), st2.n = st.n → (∀ k ∈ E.r, st2.get k = st.get k) → ∀ (Γ : Ctx) (ρ : Rho) (a : Act) (w : World), Ok Γ st2 ρ a w → ∃ ρ', Ok Γ (st2.app E.u) ρ' a w
def seqE (E0 E : Eff) : Eff := ⟨E0.r ++ E.r, ⟨E.u.t ++ E0.u.t, E.u.s ++ E0.u.s⟩, E.c⟩
theorem app_agree [Trk] {st st2 : AState} {E0 E : Eff} (hr : ∀ k ∈ (seqE E0 E).r, st2.get k = st.get k) : ∀ k ∈ E.r, (st2.app E0.u).get k = (st.app E0.u).get k := by
  intro k hk
  by_cases h : k ∈ E0.u.keys
  · exact get_app_in h
  · rw [get_app_out h, get_app_out h]
    exact hr k (List.mem_append_right _ hk)
theorem Ghost.nil [Trk] (st : AState) : Ghost st ⟨[], ⟨[], []⟩, []⟩ := fun st2 _ _ Γ ρ a w h => ⟨ρ, h⟩
theorem Ghost.seq [Trk] {st : AState} {E0 E : Eff} (h0 : Ghost st E0) (h : Ghost (st.app E0.u) E) : Ghost st (seqE E0 E) := by
  intro st2 hn hr Γ ρ a w hok
  obtain ⟨ρ1, h1⟩ := h0 st2 hn (fun k hk => hr k (List.mem_append_left _ hk)) Γ ρ a w hok
  obtain ⟨ρ2, h2⟩ := h (st2.app E0.u) hn (app_agree hr) Γ ρ1 a w h1
  exact ⟨ρ2, by rw [AState.app_app] at h2; exact h2⟩
theorem l_pre [Trk] {o : Oper} {st : AState} {E0 E : Eff} (h0 : Ghost st E0) (hc : ∀ n ∈ E.c, E0.u.has n = false) (h : Local P o (st.app E0.u) E) : Local P o st (seqE E0 E) := by
  intro st2 hn hr Γ ρ a w K Q hok hfree hk
  obtain ⟨ρ1, h1⟩ := h0 st2 hn (fun k hk => hr k (List.mem_append_left _ hk)) Γ ρ a w hok
  refine h (st2.app E0.u) hn (app_agree hr) Γ ρ1 a w K Q h1 (fun n hn' => app_free (hfree n hn') (hc n hn')) ?_
  intro ρ' a' w' h2
  rw [AState.app_app] at h2
  exact hk ρ' a' w' h2
theorem tget_tmap_id [Trk] : ∀ (l : List (Nat × AV)) (t : Nat), tget (tmap id l) t = tget l t := fun l t => tget_tmap (f := id) rfl l t
theorem slot_map_id [Trk] (s : Slot) : Slot.map id s = s := by cases s <;> simp [Slot.map]
theorem sget_smap_id [Trk] (l : SMap) (m : Name) : sget (smap id l) m = sget l m := by
  rw [sget_smap]
  cases sget l m with
  | none => rfl
  | some s => cases s <;> simp
/-- An own slice, wherever it is held, is read as any slice from here on, in one temporary. -/
theorem ghost_frz [Trk] {st : AState} {t e es : Nat} {n : Name} {xs : List (List PV)} (ht : tget st.t t = .own n) (hn : sget st.s n = some (.own e es xs)) : Ghost st ⟨[.tmp t, .slot n], ⟨[(t, .pv (.sl es xs))], [(n, none)]⟩, []⟩ := by
  intro st2 hn2 hr Γ ρ a w hok
  have ht2 : tget st2.t t = .own n := by have := hr (.tmp t) (by simp); simp [AState.get] at this; rw [this, ht]
  have hs2 : sget st2.s n = some (.own e es xs) := by have := hr (.slot n) (by simp); simp [AState.get] at this; rw [this, hn]
  have k : Keep ρ.F w (fun b => ρ.F b ∨ ownBlk (ρ.ov n) = some b) w := ⟨fun b hb => .inl hb, fun _ _ => rfl⟩
  have h1 := hok.turn (ρ' := ⟨ρ.blk, ρ.ov, fun b => ρ.F b ∨ ownBlk (ρ.ov n) = some b⟩) n (f := id) rfl rfl rfl hs2 rfl (fun b => Iff.rfl) (fun x v hx => ARel.keep' (ρ := ρ) (ρ' := ⟨ρ.blk, ρ.ov, _⟩) k rfl rfl hx)
  have h2 : Ok Γ ⟨st2.n, st2.t, (n, none) :: st2.s⟩ ⟨ρ.blk, ρ.ov, fun b => ρ.F b ∨ ownBlk (ρ.ov n) = some b⟩ a w := by
    refine h1.ext rfl (fun q => (tget_tmap_id _ _).symm) (fun m => ?_)
    simp only [sget]
    split
    · rfl
    · exact (sget_smap_id _ _).symm
  refine ⟨_, h2.defers, h2.size, fun q => ?_, h2.sok⟩
  simp only [AState.app, List.cons_append, List.nil_append, tget]
  split
  · rename_i hq
    subst hq
    have hv := hok.tmps q
    rw [ht2] at hv
    have hv' : a.tmps.getD q undef = ρ.ov n := hv
    rw [hv']
    exact own_pv (hok.sok.slots n _ hs2) (fun b hb => .inl hb) (fun b hb => .inr hb)
  · exact h2.tmps q
def frzE (st : AState) : List Nat → Option Eff
  | [] => some ⟨[], ⟨[], []⟩, []⟩
  | t :: L => match tget st.t t with
    | .own n => match sget st.s n with
      | some (.own _ es xs) => match frzE (st.app ⟨[(t, .pv (.sl es xs))], [(n, none)]⟩) L with
        | some E => some (seqE ⟨[.tmp t, .slot n], ⟨[(t, .pv (.sl es xs))], [(n, none)]⟩, []⟩ E)
        | none => none
      | _ => none
    | _ => none
theorem frzE_ghost [Trk] : ∀ {L : List Nat} {st : AState} {E : Eff}, frzE st L = some E → Ghost st E
  | [], st, E, h => by cases h; exact Ghost.nil st
  | t :: L, st, E, h => by
    simp only [frzE] at h
    split at h
    · split at h
      · split at h
        · cases h
          exact Ghost.seq (ghost_frz ‹_› ‹_›) (frzE_ghost ‹_›)
        · cases h
      · cases h
    · cases h
/-- The temporaries among an operation's parts that hold own slices. -/
def ownTs (st : AState) : List Operand → List Nat
  | [] => []
  | .tmp t :: l => match tget st.t t with | .own _ => t :: ownTs st l | _ => ownTs st l
  | _ :: l => ownTs st l
def partsO (o : Oper) : List Operand := match o.op with
  | .build _ ps => ps.toList.map (·.2)
  | .buildSlice _ _ ps => ps.toList.map (·.2)
  | .store _ _ y => [y]
  | .slice _ x _ _ _ => [x]
  | _ => []
theorem ar_frz [Trk] {ops : Array Oper} {draw : Bool} {st0 : AState} {Q : Exit → AState → Prop} {i : Nat} {st st1 : AState} {acc : List Eff} {o : Oper} {E0 E : Eff} {L : List Nat} (ho : ops[i]? = some o) (hg : o.guard = none) (hk : st.killAll (creates o) = st1) (hL : ownTs st1 (partsO o) = L) (hne : L ≠ []) (h0 : frzE st1 L = some E0)
    (hs : step P o (st1.app E0.u) = some E) (hE : E.c = creates o) (hc : (creates o).all (fun n => !E0.u.has n) = true)
    (k : AR P ops draw st0 Q (i + 1, st1.app (seqE E0 E).u, if draw = true then acc ++ [seqE E0 E] else acc)) : AR P ops draw st0 Q (i, st, acc) := by
  refine ar_loc (E := seqE E0 E) (st1 := st1) ho hg (by show st.killAll E.c = st1; rw [hE]; exact hk) (l_pre (frzE_ghost h0) (fun n hn => ?_) (step_local hs)) k
  rw [hE] at hn
  have := List.all_eq_true.1 hc n hn
  simpa using this
attribute [simp] frzE ownTs partsO seqE Upd.has
end Go.Eng
namespace Go.Eng
open Go Go.RowKit
variable {P : Program}
/-! ## Loops: of the temporaries and of the variables what is listed is kept -/
def keepS (S : SMap) : List Name → SMap
  | [] => []
  | n :: N => (n, sget S n) :: keepS S N
theorem keepS_mem [Trk] {S : SMap} : ∀ {N : List Name} {p : Name × Option Slot}, p ∈ keepS S N → p.2 = sget S p.1
  | [], p, h => by cases h
  | n :: N, p, h => by
    simp only [keepS, List.mem_cons] at h
    rcases h with rfl | h
    · rfl
    · exact keepS_mem h
def AState.keepN (st : AState) (L : List Nat) (N : List Name) : AState := ⟨st.n, keepT st.t L, keepS st.s N⟩
theorem Sub.keepN [Trk] (st : AState) (L : List Nat) (N : List Name) : Sub st (st.keepN L N) := Sub.of rfl (fun p h => keepT_mem h) (fun p h => keepS_mem h)
theorem aw_loopN [Trk] {ι : Type} {c : Code} {Q : Exit → AState → Prop} {st st' : AState} (L : List Nat) (N : List Name) (hs : st.keepN L N = st') (head : ι → AState) (μ : ι → Nat) (i0 : ι) (h0 : head i0 = st') (hr : ∀ i, AW P c (loopQ head μ i Q) (head i)) : AW P (.loop c) Q st :=
  aw_loop head μ i0 (by rw [h0, ← hs]; exact Sub.keepN st L N) hr
theorem lq_normN [Trk] {ι : Type} {head : ι → AState} {μ : ι → Nat} {i : ι} {Q : Exit → AState → Prop} {st st' : AState} (L : List Nat) (N : List Name) (hs : st.keepN L N = st') (j : ι) (hj : μ j < μ i) (h : head j = st') : loopQ head μ i Q .normal st :=
  ⟨j, hj, by rw [h, ← hs]; exact Sub.keepN st L N⟩
attribute [simp] keepS AState.keepN
end Go.Eng
set_option autoImplicit false
set_option linter.unusedVariables false
set_option linter.unusedSimpArgs false
namespace Go.Eng
open Go Go.RowKit
variable {P : Program}

/-! ## Functions that hand out a new slice -/
theorem ret_own [Trk] {rs : List ResultVar} {e es : Nat} {xs : List (List PV)} {st st' : AState} (n : Name) (hs : st.ren n (.ext 0) = st') (h1 : resA P st' rs = some [.own (.ext 0)]) (h2 : sget st'.s (.ext 0) = some (.own e es xs)) : retL P rs (.own (.ext 0)) [(.ext 0, some (.own e es xs))] .ret st :=
  ⟨st', _, by rw [← hs]; exact Sub.ren st n (.ext 0), h1, rfl, by simpa using h2.symm⟩
theorem ret_ownNil [Trk] {rs : List ResultVar} {e es : Nat} {xs : List (List PV)} {st st' : AState} (t : Nat) (hs : st.ownNil t (.ext 0) e es = st') (h1 : resA P st' rs = some [.own (.ext 0)]) (h2 : sget st'.s (.ext 0) = some (.own e es xs)) : retL P rs (.own (.ext 0)) [(.ext 0, some (.own e es xs))] .ret st :=
  ⟨st', _, by rw [← hs]; exact Sub.ownNil st t (.ext 0) e es, h1, rfl, by simpa using h2.symm⟩
theorem ar_callO [Trk] {ops : Array Oper} {draw : Bool} {st0 : AState} {Q : Exit → AState → Prop} {i : Nat} {st st1 : AState} {acc : List Eff} {o : Oper} {x : Operand} {args : Array Operand} {ats : Array TypeId} {f : FuncId} {fi ca : List AV} {cargs : List AV} {e es : Nat} {xs : List (List PV)} {d : Nat}
    (hent : Enters P f) (hsc : SCO P f cargs e es xs) (ho : ops[i]? = some o) (hg : o.guard = none) (hop : o.op = .call { callee := .value x, args, argTypes := ats }) (hd : o.dst = some d) (hk : st.killAll [.loc d] = st1) (hx : ev st1 x = .fn f fi ca) (hlt : d < st1.n)
    (hargs : fi ++ (args.toList.map (ev st1) ++ ca) = cargs) (hp : AV.renL [] cargs = cargs)
    (k : AR P ops draw st0 Q (i + 1, ⟨st1.n, (d, .own (.loc d)) :: st1.t, (.loc d, some (.own e es xs)) :: st1.s⟩, if draw = true then acc ++ [⟨keyO x ++ keysL args.toList, ⟨[(d, .own (.loc d))], [(.loc d, some (.own e es xs))]⟩, [.loc d]⟩] else acc)) : AR P ops draw st0 Q (i, st, acc) := by
  have hl := l_call (P := P) (o := o) (st := st1) (r := []) (r2 := [.loc d]) (C := [.loc d]) (X := []) hop hx (by rw [hp, hargs]) hent hsc (by intro p hp; cases hp)
    ⟨List.nodup_nil, by simp, by simp [okY, Slot.okN, okName], by simp, by simp [nmR]⟩ (by simp) (by simp [AV.okN, okName]) (fun d' h' => by rw [hd] at h'; cases h'; exact hlt)
  rw [hd] at hl
  have hl' : Local P o st1 ⟨keyO x ++ keysL args.toList, ⟨[(d, .own (.loc d))], [(.loc d, some (.own e es xs))]⟩, [.loc d]⟩ := by
    have := hl
    simpa [dstU, AV.ren, nmR, renS, noneS, Slot.ren] using this
  exact ar_loc (st1 := st1) (E := ⟨keyO x ++ keysL args.toList, ⟨[(d, .own (.loc d))], [(.loc d, some (.own e es xs))]⟩, [.loc d]⟩) ho hg hk hl' k

/-! ## Ghost steps ahead of a statement, and at a loop's head -/
theorem aw_frz [Trk] {c : Code} {Q : Exit → AState → Prop} {st st' : AState} (n : Name) (hs : st.freeze n = st') (h : AW P c Q st') : AW P c Q st := by
  subst hs; exact aw_sub (Sub.freeze st n) h
theorem aw_ren [Trk] {c : Code} {Q : Exit → AState → Prop} {st st' : AState} (n m : Name) (hs : st.ren n m = st') (h : AW P c Q st') : AW P c Q st := by
  subst hs; exact aw_sub (Sub.ren st n m) h
theorem aw_nil [Trk] {c : Code} {Q : Exit → AState → Prop} {st st' : AState} (t : Nat) (n : Name) (e es : Nat) (hs : st.ownNil t n e es = st') (h : AW P c Q st') : AW P c Q st := by
  subst hs; exact aw_sub (Sub.ownNil st t n e es) h
theorem aw_nilC [Trk] {c : Code} {Q : Exit → AState → Prop} {st st' : AState} (q : Name) (off : Nat) (n : Name) (e es : Nat) (hs : st.ownNilC q off n e es = st') (h : AW P c Q st') : AW P c Q st := by
  subst hs; exact aw_sub (Sub.ownNilC st q off n e es) h
theorem lq_normR [Trk] {ι : Type} {head : ι → AState} {μ : ι → Nat} {i : ι} {Q : Exit → AState → Prop} {st st' : AState} (n m : Name) (L : List Nat) (N : List Name) (hs : (st.ren n m).keepN L N = st') (j : ι) (hj : μ j < μ i) (h : head j = st') : loopQ head μ i Q .normal st :=
  ⟨j, hj, by rw [h, ← hs]; exact (Sub.ren st n m).trans (Sub.keepN _ L N)⟩
attribute [simp] AState.ren AV.renN AState.ownNil AState.ownNilC
end Go.Eng
set_option autoImplicit false
set_option linter.unusedVariables false
set_option linter.unusedSimpArgs false
namespace Go.Eng
open Go Go.RowKit Go.ChangeShapes
variable {P : Program}

/-! ## What an argument reads as -/
def shapeF (P : Program) (R : TypeId → List PV → Prop) : List Field → List PV → Prop
  | [], ps => ps = []
  | f :: fs, ps => ∃ q r, ps = q ++ r ∧ R f.type q ∧ shapeF P R fs r
def shapeN (R : List PV → Prop) : Nat → List PV → Prop
  | 0, ps => ps = []
  | m + 1, ps => ∃ q r, ps = q ++ r ∧ R q ∧ shapeN R m r
def Shape (P : Program) : Nat → TypeId → List PV → Prop
  | 0, _, _ => False
  | m + 1, t, ps => match P.underlying t with
    | some .bool => ∃ b, ps = [.v (.bool b)]
    | some (.int k) => ∃ n, ps = [.v (.int k n)] ∧ (Lit.int k n).wf = true
    | some .string => ∃ s, ps = [.v (.string s)]
    | some (.slice e) => ∃ xs, ps = [.sl (P.cellsOf e) xs] ∧ xs.length ≤ maxLen ∧ ∀ x ∈ xs, Shape P m e x
    | some (.struct fs) => shapeF P (Shape P m) fs.toList ps
    | some (.array n e) => shapeN (Shape P m e) n ps
    | _ => False
def tilesF (P : Program) : List Field → Nat → Nat → Bool
  | [], off, n => off == n
  | f :: fs, off, n => f.offset == off && tilesF P fs (off + P.cellsOf f.type) n
def flatT (P : Program) : Nat → TypeId → Bool
  | 0, _ => false
  | m + 1, t => match P.underlying t with
    | some .bool | some (.int _) | some .string => true
    | some (.slice e) => flatT P m e
    | some (.struct fs) => tilesF P fs.toList 0 (P.cellsOf t) && fs.toList.all (fun f => flatT P m f.type)
    | some (.array n e) => n * P.cellsOf e == P.cellsOf t && flatT P m e
    | _ => false

section
variable {H : Type} {enc : TypeId × Value → H} {w : World} {base : Nat} {spare : Nat → Bool} {held : Bool}
theorem array_shape [Trk] {R : List PV → Prop} {F : Nat → Prop} {es : Nat} {cs : List Value} : ∀ (m i : Nat), cs.length = (i + m) * es → (∀ j, j < i + m → ∃ ps, PVs F w ps ((cs.drop (j * es)).take es) ∧ R ps) → ∃ ps, PVs F w ps (cs.drop (i * es)) ∧ shapeN R m ps
  | 0, i, hl, _ => ⟨[], by rw [List.drop_eq_nil_of_le (by simp at hl; omega)]; rfl, rfl⟩
  | m + 1, i, hl, hx => by
    obtain ⟨q, h2, h3⟩ := hx i (by omega)
    obtain ⟨r, h4, h5⟩ := array_shape m (i + 1) (by rw [hl]; congr 1; omega) (fun j hj => hx j (by omega))
    refine ⟨q ++ r, ?_, q, r, rfl, h3, h5⟩
    have := h2.append h4
    rw [Nat.succ_mul, ← List.drop_drop, List.take_append_drop] at this
    exact this
theorem slice_elems [Trk] {R : List PV → Prop} {F : Nat → Prop} {es : Nat} {a : Addr} : ∀ (n : Nat), (∀ i, i < n → ∃ ps us, PVs F w ps us ∧ us.length = es ∧ R ps ∧ ∀ k u, us[k]? = some u → w.cell? ((a.add (i * es)).add k) = some u) →
    ∃ xs vs, xs.length = n ∧ PElems F w es xs vs ∧ (∀ x ∈ xs, R x) ∧ ∀ j u, vs[j]? = some u → w.cell? (a.add j) = some u
  | 0, _ => ⟨[], [], rfl, rfl, by simp, by simp⟩
  | n + 1, h => by
    obtain ⟨xs, vs, h1, h2, h3, h4⟩ := slice_elems n (fun i hi => h i (by omega))
    obtain ⟨ps, us, k1, k2, k3, k4⟩ := h n (by omega)
    have hl := h2.length
    refine ⟨xs ++ [ps], vs ++ us, by simp [h1], h2.append (PElems.one k1 (by rw [← k1.length, k2])), ?_, ?_⟩
    · intro x hx
      rcases List.mem_append.1 hx with hx | hx
      · exact h3 x hx
      · rw [List.mem_singleton.1 hx]; exact k3
    · intro j u hj
      rw [List.getElem?_append] at hj
      split at hj
      · exact h4 j u hj
      · rename_i hlt
        have := k4 _ _ hj
        rw [Go.Deep.add_add] at this
        rw [hl, h1] at this
        rw [← this]
        congr 2
        rw [hl, h1] at hlt
        omega
theorem trod_shape [Trk] : ∀ (m : Nat) (t : TypeId), flatT P m t = true → ∀ (fuel : Nat) (cs : List Value) (x : DataW H × List MemPlace), DataW.trod enc P w base spare held fuel t cs = some x →
    ∃ ps, PVs (fun b => b < w.heap.size) w ps cs ∧ Shape P m t ps
  | 0, t, ht, _, _, _, _ => by simp [flatT] at ht
  | m + 1, t, ht, fuel, cs, x, h => by
    have one : ∀ {v : Value}, v.oneCell' = true → PVs (fun b => b < w.heap.size) w [.v v] [v] := fun hv => ⟨_, _, rfl, ⟨rfl, hv⟩, rfl⟩
    unfold flatT at ht
    cases hu : P.underlying t with
    | none => rw [hu] at ht; simp at ht
    | some d =>
      rw [hu] at ht
      cases d with
      | bool =>
        obtain ⟨b, rfl, _⟩ := DataW.trod_bool hu h
        exact ⟨_, one rfl, by simp only [Shape, hu]; exact ⟨b, rfl⟩⟩
      | int k =>
        obtain ⟨n, rfl, _, hw⟩ := DataW.trod_int hu h
        exact ⟨_, one rfl, by simp only [Shape, hu]; exact ⟨n, rfl, hw⟩⟩
      | string =>
        obtain ⟨s, rfl, _⟩ := DataW.trod_string hu h
        exact ⟨_, one rfl, by simp only [Shape, hu]; exact ⟨s, rfl⟩⟩
      | slice e =>
        simp only at ht
        rcases DataW.trod_slice hu h with ⟨rfl, _⟩ | ⟨a, len, cap, elems, rest, n, rfl, rfl, _, hb, hlc, hcm, hel, hi, _, _⟩
        · refine ⟨[.sl (P.cellsOf e) []], ⟨_, _, rfl, ⟨none, 0, [], rfl, by simp, by simp [maxLen], rfl, .inl rfl⟩, rfl⟩, ?_⟩
          simp only [Shape, hu]
          exact ⟨[], rfl, by simp, by simp⟩
        · obtain ⟨xs, vs, h1, h2, h3, h4⟩ := slice_elems (w := w) (F := fun b => b < w.heap.size) (R := Shape P m e) (es := P.cellsOf e) (a := a) len (fun i hil => by
            have h5 := hi i hil
            have h6 : elems[i]? = some (elems[i]'(by omega)) := List.getElem?_eq_getElem (by omega)
            rw [h6] at h5
            obtain ⟨us, h7, h8⟩ := Option.bind_eq_some_iff.1 h5
            obtain ⟨ps, h9, h10⟩ := trod_shape m e ht n us _ h8
            obtain ⟨_, hl, hc⟩ := World.cells?_some h7
            exact ⟨ps, us, h9, hl, h10, fun k u hk => by
              have : k < us.length := (List.getElem?_eq_some_iff.1 hk).1
              rw [hc k (by omega)]; exact hk⟩)
          refine ⟨[.sl (P.cellsOf e) xs], ⟨_, _, rfl, ⟨some a, cap, vs, by rw [h1], by omega, hcm, h2, ?_⟩, rfl⟩, ?_⟩
          · cases vs with
            | nil => exact .inl rfl
            | cons u us =>
              refine .inr ⟨a, rfl, ?_, h4⟩
              have := h4 0 u rfl
              rw [Addr.add_zero'] at this
              unfold World.cell? at this
              split at this
              · rename_i hh; exact (Array.getElem?_eq_some_iff.1 hh).1
              · cases this
          · simp only [Shape, hu]
            exact ⟨xs, rfl, by omega, h3⟩
      | struct fs =>
        simp only [Bool.and_eq_true, List.all_eq_true] at ht
        obtain ⟨xs, n, rfl, _, hl, hxl, hf⟩ := DataW.trod_struct hu h
        have hR : ∀ f ∈ fs.toList, ∀ x, DataW.trod enc P w base spare held n f.type ((cs.drop f.offset).take (P.cellsOf f.type)) = some x → ∃ ps, PVs (fun b => b < w.heap.size) w ps ((cs.drop f.offset).take (P.cellsOf f.type)) ∧ Shape P m f.type ps :=
          fun f hfm x hx => trod_shape m f.type (ht.2 f hfm) n _ _ hx
        have key : ∀ (l : List Field) (off : Nat), (∀ f ∈ l, f ∈ fs.toList) → tilesF P l off cs.length = true → ∃ ps, PVs (fun b => b < w.heap.size) w ps (cs.drop off) ∧ shapeF P (Shape P m) l ps := by
          intro l
          induction l with
          | nil => intro off _ h0; simp only [tilesF, beq_iff_eq] at h0; exact ⟨[], by rw [h0, List.drop_length]; rfl, rfl⟩
          | cons f l ih =>
            intro off hsub h0
            simp only [tilesF, Bool.and_eq_true, beq_iff_eq] at h0
            have hfm := hsub f (by simp)
            obtain ⟨i, hil, hfi⟩ := List.getElem_of_mem hfm
            have hfi' : fs[i]? = some f := by rw [← Array.getElem?_toList, List.getElem?_eq_getElem hil, hfi]
            have h1 := hf i f hfi'
            have hi2 : i < xs.length := by rw [hxl]; simpa using hil
            rw [List.getElem?_eq_getElem hi2] at h1
            obtain ⟨q, h2, h3⟩ := hR f hfm _ h1
            obtain ⟨r, h4, h5⟩ := ih _ (fun g hg => hsub g (by simp [hg])) h0.2
            refine ⟨q ++ r, ?_, q, r, rfl, h3, h5⟩
            have := h2.append h4
            rw [h0.1] at this
            rwa [← List.drop_drop, List.take_append_drop] at this
        obtain ⟨ps, h1, h2⟩ := key fs.toList 0 (fun _ h => h) (by rw [hl]; exact ht.1)
        exact ⟨ps, by simpa using h1, by simp only [Shape, hu]; exact h2⟩
      | array n e =>
        simp only [Bool.and_eq_true, beq_iff_eq] at ht
        obtain ⟨xs, k, rfl, _, hl, hxl, hf⟩ := DataW.trod_array hu h
        obtain ⟨ps, h1, h2⟩ := array_shape (w := w) (R := Shape P m e) (F := fun b => b < w.heap.size) (es := P.cellsOf e) (cs := cs) n 0 (by rw [hl, ← ht.1]; simp) (fun j hj => by
          have h1 := hf j (by omega)
          rw [List.getElem?_eq_getElem (show j < xs.length by omega)] at h1
          exact trod_shape m e ht.2 k _ _ h1)
        exact ⟨ps, by simpa using h1, by simp only [Shape, hu]; exact h2⟩
      | _ => simp at ht
end
end Go.Eng
set_option autoImplicit false
set_option linter.unusedVariables false
set_option linter.unusedSimpArgs false
namespace Go.Eng
open Go Go.RowKit Go.ChangeShapes
variable {P : Program}

/-! ## Arguments, and the row's form -/
def ShapeA (P : Program) (m : Nat) (t : TypeId) (a : AV) : Prop :=
  (aggOf P t = some true ∧ ∃ ps, a = .agg ps ∧ Shape P m t ps) ∨ (aggOf P t = some false ∧ ∃ p, a = .pv p ∧ Shape P m t [p])
def ShapeAll (P : Program) (m : Nat) : List TypeId → List AV → Prop
  | [], as => as = []
  | t :: ts, as => ∃ a r, as = a :: r ∧ ShapeA P m t a ∧ ShapeAll P m ts r
/-- All that is of old is as it is. -/
def rho0 (w : World) : Rho := ⟨fun _ => 0, fun _ => .nilFunc, fun b => b < w.heap.size⟩
section
variable {H : Type} {enc : TypeId × Value → H} {w : World} {base : Nat} {spare : Nat → Bool} {held : Bool}
theorem arg_rel [Trk] {m : Nat} {t : TypeId} {v : Value} {d : DataW H} {p : List MemPlace} {r : Reach} {b0 : Nat} (hf : flatT P m t = true) (hval : Value.okWide P w r b0 t v) (h : DataW.Trod enc P w base spare held t v d p) :
    ∃ a, ARel (rho0 w) w a v ∧ ShapeA P m t a := by
  obtain ⟨fuel, h⟩ := h
  obtain ⟨ps, h1, h2⟩ := trod_shape m t hf fuel _ _ h
  cases m with
  | zero => simp [flatT] at hf
  | succ m =>
    unfold flatT at hf
    cases hu : P.underlying t with
    | none => rw [hu] at hf; simp at hf
    | some D =>
      rw [hu] at hf
      have sc : aggOf P t = some false → v.cells.toList = [v] → ∃ a, ARel (rho0 w) w a v ∧ ShapeA P (m + 1) t a := by
        intro hg hc
        rw [hc] at h1
        have hl := h1.length
        match ps, hl with
        | [q], _ =>
          obtain ⟨_, _, e, h3, _⟩ := h1
          cases e
          exact ⟨.pv q, h3, .inr ⟨hg, q, rfl, h2⟩⟩
      have ag : aggOf P t = some true → (∃ cs, v = .agg cs) → ∃ a, ARel (rho0 w) w a v ∧ ShapeA P (m + 1) t a := by
        rintro hg ⟨cs, rfl⟩
        exact ⟨.agg ps, ⟨cs, rfl, h1⟩, .inl ⟨hg, ps, rfl, h2⟩⟩
      cases D with
      | bool => exact sc (by simp [aggOf, hu]) (by cases v <;> simp_all [Value.okWide, Cell.okWide, Cell.ok, Value.cells])
      | int k => exact sc (by simp [aggOf, hu]) (by cases v <;> simp_all [Value.okWide, Cell.okWide, Cell.ok, Value.cells])
      | string => exact sc (by simp [aggOf, hu]) (by cases v <;> simp_all [Value.okWide, Cell.okWide, Cell.ok, Value.cells])
      | slice e => exact sc (by simp [aggOf, hu]) (by cases v <;> simp_all [Value.okWide, Cell.okWide, Cell.ok, Value.cells])
      | struct fs =>
        simp only [Value.okWide, hu] at hval
        obtain ⟨cs, rfl, _⟩ := hval
        exact ag (by simp [aggOf, hu]) ⟨cs, rfl⟩
      | array n e =>
        simp only [Value.okWide, hu] at hval
        obtain ⟨cs, rfl, _⟩ := hval
        exact ag (by simp [aggOf, hu]) ⟨cs, rfl⟩
      | _ => simp at hf
theorem args_rel [Trk] {m : Nat} {r : Reach} {b0 : Nat} : ∀ {ts : List TypeId} {vs : List Value} {ds : List (DataW H)} {p : List MemPlace}, (∀ t ∈ ts, flatT P m t = true) → (∀ (j : Nat) t v, ts[j]? = some t → vs[j]? = some v → Value.okWide P w r b0 t v) →
    DataW.TrodAll enc P w base spare held ts vs ds p → ∃ as, ARels (rho0 w) w as vs ∧ ShapeAll P m ts as
  | [], vs, ds, p, _, _, h => by
    obtain ⟨rfl, rfl, rfl⟩ := trodAll_nil h
    exact ⟨[], rfl, rfl⟩
  | t :: ts, vs, ds, p, hf, hv, h => by
    obtain ⟨v, vs', d, ds', p0, q0, rfl, rfl, rfl, h0, h1⟩ := trodAll_cons h
    obtain ⟨a, h2, h3⟩ := arg_rel (m := m) (hf t (by simp)) (hv 0 t v rfl rfl) h0
    obtain ⟨as, h4, h5⟩ := args_rel (fun t ht => hf t (by simp [ht])) (fun j t v h1 h2 => hv (j + 1) t v (by simpa using h1) (by simpa using h2)) h1
    exact ⟨a :: as, ⟨v, vs', rfl, h2, h4⟩, a, as, rfl, h3, h5⟩
theorem trodAll_below [Trk] (hl : laidOutB P = true) {W W' : World} (hb : Below W.heap.size W W') : ∀ {ts : List TypeId} {vs : List Value} {ds : List (DataW H)} {p : List MemPlace}, (∀ t ∈ ts, P.readableRec t = true ∧ t < P.types.size) →
    DataW.TrodAll enc P W 0 (fun _ => true) true ts vs ds p → DataW.TrodAll enc P W' 0 (fun b => decide (b < W.heap.size)) true ts vs ds p
  | [], vs, ds, p, _, h => by
    obtain ⟨rfl, rfl, rfl⟩ := trodAll_nil h
    exact rfl
  | t :: ts, vs, ds, p, hr, h => by
    obtain ⟨v, vs', d, ds', p0, q0, rfl, rfl, rfl, h0, h1⟩ := trodAll_cons h
    have ht := hr t (by simp)
    refine ⟨p0, q0, ?_, trodAll_below hl hb (fun t ht => hr t (by simp [ht])) h1, rfl⟩
    refine Below.trod hl ht.1 ht.2 h0 hb ?_
    obtain ⟨fuel, h0⟩ := h0
    exact DataW.trod_lt fuel t _ _ h0
theorem trodAll_len [Trk] : ∀ {ts : List TypeId} {vs : List Value} {ds : List (DataW H)} {p : List MemPlace}, DataW.TrodAll enc P w base spare held ts vs ds p → ds.length = ts.length
  | [], vs, ds, p, h => by obtain ⟨rfl, rfl, rfl⟩ := trodAll_nil h; rfl
  | t :: ts, vs, ds, p, h => by
    obtain ⟨v, vs', d, ds', p0, q0, rfl, rfl, rfl, h0, h1⟩ := trodAll_cons h
    simp [trodAll_len h1]

/-- A call that comes back with what is of no variable: nothing of old has turned. -/
theorem law_calls [Trk] {f : FuncId} {as : List AV} {b : Bool} {args : Array Value} (h : SC P f as (B b)) (hT : GlobOK (fun b => b < w.heap.size) w) (hr : ARels (rho0 w) w as args.toList) :
    Calls P f args w fun e w' => e = .returned (.bool b) ∧ Below w.heap.size w w' := by
  refine (h ⟨w, fun b => b < w.heap.size, fun _ => False, fun _ => 0⟩ (rho0 w) w args rfl ?_ hr).mono ?_
  · refine { slots := ?_, disj := ?_, sep := ?_, flt := fun b h => h, os := rfl, tape := rfl, output := rfl, size := Nat.le_refl _, below := fun _ _ _ => rfl, fmono := fun b h => h, fnew := fun b h => .inl h, home := ?_, xblk := fun _ => rfl, glob := hT, drawn := fun _ => Nat.le_refl _ }
    · intro n s h; cases h
    · intro n m s s' b h; cases h
    · intro n s b h; cases h
    · intro n s b h; cases h
  · rintro e w' ⟨v, ρ', rfl, h1, h2⟩
    have := pv_inv h1
    subst this
    exact ⟨rfl, h2.os, h2.tape, h2.output, h2.size, fun k hk => h2.below k hk (fun h => h)⟩

end
end Go.Eng
