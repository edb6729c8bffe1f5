import Derived.Test.YtamjcdfjkekdjaaEa2
set_option autoImplicit false
set_option linter.unusedVariables false
set_option linter.unusedSimpArgs false
namespace Go.Eng
open Go Go.RowKit
variable {P : Program}

/-! ## What the table of types says -/
def aggOf (P : Program) (t : TypeId) : Option Bool := (P.underlying t).map fun d => match d with | .struct _ | .array _ _ => true | _ => false
def szOf (P : Program) (t : TypeId) : Option Nat := (P.info? t).map (·.size)
def byOf (P : Program) (t : TypeId) : Option Nat := (P.info? t).map (·.bytes)
def zeroOf (P : Program) (t : TypeId) : Option Value := (P.info? t).bind (·.zero)
def elemS (P : Program) (t : TypeId) : Option TypeId := match P.underlying t with | some (.slice e) => some e | _ => none
def arrOf (P : Program) (t : TypeId) : Option (Nat × TypeId) := match P.underlying t with | some (.array n e) => some (n, e) | _ => none
/-- A field's offset and size. -/
def fldOf (P : Program) (t : TypeId) (i : Nat) : Option (Nat × TypeId) := match P.underlying t with
  | some (.struct fs) => (fs[i]?).map fun f => (f.offset, f.type)
  | _ => none
def intOf? (P : Program) (t : TypeId) : Option IntKind := match P.underlying t with | some (.int k) => some k | _ => none
def isBoolT (P : Program) (t : TypeId) : Bool := match P.underlying t with | some .bool => true | _ => false
def isStr (P : Program) (t : TypeId) : Bool := match P.underlying t with | some .string => true | _ => false

theorem run_isAgg {t : TypeId} {b : Bool} (h : aggOf P t = some b) (w : World) : (isAgg t).run P w = .ok b w := by
  unfold aggOf at h
  cases hu : P.underlying t with
  | none => rw [hu] at h; cases h
  | some d =>
    rw [hu] at h; simp only [Option.map_some, Option.some.injEq] at h
    unfold isAgg
    rw [Sem.run_bind, run_underlying hu w]
    cases d <;> simp_all
theorem run_size {t : TypeId} {n : Nat} (h : szOf P t = some n) (w : World) : (sizeOf t).run P w = .ok n w := by
  unfold szOf at h
  cases hq : P.info? t with
  | none => rw [hq] at h; cases h
  | some i => rw [hq] at h; simp at h; simp [sizeOf, typeInfo, hq, h]
theorem run_zero {t : TypeId} {v : Value} (h : zeroOf P t = some v) (w : World) : (zeroValue t).run P w = .ok v w := by
  unfold zeroOf at h
  cases hq : P.info? t with
  | none => rw [hq] at h; cases h
  | some i => rw [hq] at h; simp at h; simp [zeroValue, typeInfo, hq, h]
theorem und_slice {t e : TypeId} (h : elemS P t = some e) : P.underlying t = some (.slice e) := by
  unfold elemS at h; split at h
  · rename_i h'; rw [h']; simp at h; rw [h]
  · cases h
theorem und_arr {t e : TypeId} {n : Nat} (h : arrOf P t = some (n, e)) : P.underlying t = some (.array n e) := by
  unfold arrOf at h; split at h
  · rename_i h'; rw [h']; simp at h; rw [h.1, h.2]
  · cases h

/-! ## Operands -/
def evC (v : Value) : AV := match v with
  | .agg cs => if cs.toList.all (·.oneCell') then .agg (cs.toList.map .v) else .dead
  | .tuple _ => .dead
  | v => .pv (.v v)
def ev (st : AState) : Operand → AV
  | .tmp t => tget st.t t
  | .const v => evC v
  | .func f => .fn f [] []
  | .global _ => .dead
theorem PVs_map_v {F : Nat → Prop} {w : World} : ∀ {l : List Value}, l.all (·.oneCell') = true → PVs F w (l.map .v) l
  | [], _ => rfl
  | a :: l, h => by
    simp only [List.all_cons, Bool.and_eq_true] at h
    exact ⟨a, l, rfl, ⟨rfl, h.1⟩, PVs_map_v h.2⟩
theorem evC_rel (ρ : Rho) (w : World) (v : Value) : ARel ρ w (evC v) v := by
  unfold evC
  cases v with
  | agg cs =>
    dsimp only
    split
    · exact ⟨cs, rfl, PVs_map_v ‹_›⟩
    · trivial
  | tuple vs => trivial
  | _ => exact ⟨rfl, rfl⟩
theorem ev_rel {Γ : Ctx} {st : AState} {ρ : Rho} {a : Act} {w : World} (h : Ok Γ st ρ a w) (x : Operand) : ARel ρ w (ev st x) (a.eval x) := by
  cases x with
  | tmp t => exact h.tmps t
  | const v => exact evC_rel _ _ v
  | func f => exact ⟨#[], #[], rfl, rfl, rfl⟩
  | global g => trivial

/-! ## One operation -/
def OpOK (P : Program) (o : Oper) (st : AState) (U : Upd) (C : List Name) : Prop :=
  ∀ (Γ : Ctx) (ρ : Rho) (a : Act) (w : World) (K : Act → World → Prop) (Q : Exit → Act → World → Prop), Ok Γ st ρ a w → (∀ n ∈ C, st.free n) →
    (∀ ρ' a' w', Ok Γ (st.app U) ρ' a' w' → K a' w') → o.wp P a w K Q

theorem ok_value {o : Oper} {st : AState} {d : Nat} {av : AV} (hd : o.dst = some d) (hlt : d < st.n)
    (h : ∀ Γ ρ a w, Ok Γ st ρ a w → ∃ v, ARel ρ w av v ∧ (execOp a.eval o).run P w = .ok (.value v) w) : OpOK P o st ⟨[(d, av)], []⟩ [] := by
  intro Γ ρ a w K Q hok _ hk
  obtain ⟨v, hv, hr⟩ := h Γ ρ a w hok
  unfold Oper.wp
  rw [hr, Oper.upon_value, hd]
  exact hk ρ _ _ (hok.setT hlt hv)

theorem ok_move {o : Oper} {st : AState} {d : Nat} {x : Operand} (ho : o.op = .move x ∨ o.op = .assign x) (hd : o.dst = some d) (hlt : d < st.n) : OpOK P o st ⟨[(d, ev st x)], []⟩ [] :=
  ok_value hd hlt fun Γ ρ a w h => ⟨a.eval x, ev_rel h x, by rcases ho with ho | ho <;> simp [execOp, ho]⟩

theorem pv_inv {ρ : Rho} {w : World} {x v : Value} (h : ARel ρ w (.pv (.v x)) v) : v = x := h.1

theorem ok_pick {o : Oper} {st : AState} {d : Nat} {c x y : Operand} {b : Bool} (ho : o.op = .pick c x y) (hd : o.dst = some d) (hlt : d < st.n) (hc : ev st c = .pv (.v (.bool b))) :
    OpOK P o st ⟨[(d, if b then ev st x else ev st y)], []⟩ [] :=
  ok_value hd hlt fun Γ ρ a w h => by
    have h1 := ev_rel h c
    rw [hc] at h1
    have h2 := pv_inv h1
    refine ⟨if b then a.eval x else a.eval y, ?_, ?_⟩
    · cases b
      · exact ev_rel h y
      · exact ev_rel h x
    · simp [execOp, ho, h2, asBool]

/-- Two scalars, and an operation on them. -/
def abin (P : Program) (op : BinOp) (t : TypeId) (a b : Value) : Option Value :=
  match op, a, b with
  | .add, .int k x, .int k' y => if k = k' then some (.int k (k.wrap (x + y))) else none
  | .sub, .int k x, .int k' y => if k = k' then some (.int k (k.wrap (x - y))) else none
  | .mul, .int k x, .int k' y => if k = k' then some (.int k (k.wrap (x * y))) else none
  | .quo, .int k x, .int k' y => if k = k' ∧ y ≠ 0 then some (.int k (k.wrap (x.tdiv y))) else none
  | .rem, .int k x, .int k' y => if k = k' ∧ y ≠ 0 then some (.int k (x.tmod y)) else none
  | .and, .int k x, .int k' y => if k = k' then some (.int k (bits .and k x y)) else none
  | .or, .int k x, .int k' y => if k = k' then some (.int k (bits .or k x y)) else none
  | .xor, .int k x, .int k' y => if k = k' then some (.int k (bits .xor k x y)) else none
  | .andNot, .int k x, .int k' y => if k = k' then some (.int k (bits .andNot k x y)) else none
  | .shl, .int k x, .int _ y => if 0 ≤ y then some (.int k (k.wrap (x * 2 ^ (min y.toNat k.bits)))) else none
  | .shr, .int k x, .int _ y => if 0 ≤ y then some (.int k (x.fdiv (2 ^ (min y.toNat k.bits)))) else none
  | .eql, .int k x, .int k' y => if k = k' then some (.bool (decide (x = y))) else none
  | .neq, .int k x, .int k' y => if k = k' then some (.bool (!decide (x = y))) else none
  | .lss, .int k x, .int k' y => if k = k' then some (.bool (decide (x < y))) else none
  | .leq, .int k x, .int k' y => if k = k' then some (.bool (decide (x ≤ y))) else none
  | .gtr, .int k x, .int k' y => if k = k' then some (.bool (decide (y < x))) else none
  | .geq, .int k x, .int k' y => if k = k' then some (.bool (decide (y ≤ x))) else none
  | .eql, .bool x, .bool y => if isBoolT P t = true then some (.bool (x == y)) else none
  | .neq, .bool x, .bool y => if isBoolT P t = true then some (.bool (x != y)) else none
  | .eql, .string x, .string y => some (.bool (x.toList == y.toList))
  | .neq, .string x, .string y => some (.bool (!(x.toList == y.toList)))
  | .add, .string x, .string y => if x.size + y.size ≤ 9223372036854775807 then some (.string (x ++ y)) else none
  | _, _, _ => none

theorem und_bool {t : TypeId} (h : isBoolT P t = true) : P.underlying t = some .bool := by
  unfold isBoolT at h; split at h
  · assumption
  · cases h
theorem run_equal_bool {t : TypeId} (h : P.underlying t = some .bool) (a b : Bool) (w : World) : (Op.equal t (.bool a) (.bool b)).run P w = .ok (a == b) w := by
  have hd : ∀ d : Nat, (Op.equalIn (d + 1) t (.bool a) (.bool b)).run P w = .ok (a == b) w := fun d => by
    simp [Op.equalIn, run_underlying h]
  exact hd 9999
theorem abin_run {op : BinOp} {t : TypeId} {x y : Operand} {a b r : Value} (h : abin P op t a b = some r) (w : World) :
    (do eqGuard op t x y a b; binOp op t a b : Sem Value).run P w = .ok r w ∧ r.oneCell' = true := by
  unfold abin at h
  split at h
  all_goals first
    | (cases h; done)
    | (split at h
       rotate_left
       · cases h
       rename_i hc
       cases h
       refine ⟨?_, rfl⟩
       first
        | (subst hc; simp [go_sem, Op.intArith]; done)
        | (obtain ⟨hc, h0⟩ := hc; subst hc; simp [go_sem, Op.intDiv, h0]; done)
        | (have := Int.not_lt.2 hc; simp [go_sem, Op.shift, this]; done)
        | (subst hc; simp only [eqGuard_at_int, binOp_eql, binOp_neq, Sem.run_bind, Sem.run_pure, Result.andThen_ok, pure_bind]; rfl; done)
        | (simp only [eqGuard_at_bool, binOp, Sem.run_bind, Sem.run_pure, Result.andThen_ok, pure_bind, run_equal_bool (und_bool hc)]; try rfl; done)
        | (have hc' : ¬ ((_ : Int) < _) := Int.not_lt.2 (Int.ofNat_le.2 hc)
           simp [go_sem, binOp, Op.stringOp]; omega))
    | (cases h
       refine ⟨?_, rfl⟩
       simp [go_sem, binOp, Op.stringOp]; done)

end Go.Eng
