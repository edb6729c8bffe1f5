import Derived.Test.YtamjcdfjkekdjaaEc3
import Derived.LoopN
set_option autoImplicit false
set_option linter.unusedVariables false
set_option linter.unusedSimpArgs false
namespace Go.Eng
open Go Go.RowKit
variable {P : Program}

/-! ## Memory that grows -/
/-- Memory has grown; of old all is as it was. -/
theorem SOk.grow {Γ : Ctx} {S : SMap} {ρ : Rho} {w w' : World} (h : SOk Γ S ρ w) (hs : w.heap.size ≤ w'.heap.size) (hb : ∀ b, b < w.heap.size → w'.heap[b]? = w.heap[b]?) (ho : w'.os = w.os) (ht : w'.tape = w.tape) (hu : w'.output = w.output) : SOk Γ S ρ w' := by
  have hk : Keep ρ.F w ρ.F w' := ⟨fun _ h => h, fun b hF => hb b (h.flt b hF)⟩
  refine { slots := fun n s hn => ?_, disj := h.disj, sep := h.sep, flt := fun b hF => Nat.lt_of_lt_of_le (h.flt b hF) hs, os := ho.trans h.os, tape := ht.trans h.tape, output := hu.trans h.output, size := Nat.le_trans h.size hs,
           below := fun b h1 h2 => (hb b (Nat.lt_of_lt_of_le h1 h.size)).trans (h.below b h1 h2), fmono := h.fmono, fnew := h.fnew, home := h.home, xblk := h.xblk }
  have := h.slots n s hn
  cases s with
  | box T cells =>
    obtain ⟨cs, k1, k2, k3⟩ := this
    exact ⟨cs, by rw [hb _ (Array.getElem?_eq_some_iff.1 k1).1]; exact k1, ARels.keep' (ρ := ρ) (ρ' := ρ) hk rfl rfl k2, k3⟩
  | own e es xs =>
    obtain ⟨vs, k1, k2⟩ := this
    exact ⟨vs, k1.keepB (fun b hq => hb b (k1.lt hq)), PElems.keep hk _ _ k2⟩
theorem Ok.grow {Γ : Ctx} {st : AState} {ρ : Rho} {a : Act} {w w' : World} (h : Ok Γ st ρ a w) (hs : w.heap.size ≤ w'.heap.size) (hb : ∀ b, b < w.heap.size → w'.heap[b]? = w.heap[b]?) (ho : w'.os = w.os) (ht : w'.tape = w.tape) (hu : w'.output = w.output) : Ok Γ st ρ a w' :=
  ⟨h.defers, h.size, fun t => ARel.keep' (ρ := ρ) (ρ' := ρ) ⟨fun _ h => h, fun b hF => hb b (h.sok.flt b hF)⟩ rfl rfl (h.tmps t), h.sok.grow hs hb ho ht hu⟩
/-! ## Rounds of a loop, one after the other -/
def AWR (P : Program) (c : Code) (Q : Exit → AState → Prop) (n : Nat) (st : AState) : Prop :=
  ∀ (Γ : Ctx) (ρ : Rho) (a : Act) (w : World), Ok Γ st ρ a w → Code.rounds P c (fun e a' w' => ∃ st' ρ', Q e st' ∧ Ok Γ st' ρ' a' w') n a w
def rQ (P : Program) (c : Code) (Q : Exit → AState → Prop) (n : Nat) : Exit → AState → Prop
  | .normal, st => AWR P c Q n st
  | e, st => Q e st
theorem aw_rounds {c : Code} {Q : Exit → AState → Prop} {st : AState} (n : Nat) (h : AWR P c Q n st) : AW P (.loop c) Q st :=
  fun Γ ρ a w hok => wp_loop_rounds n (h Γ ρ a w hok)
theorem awr_step {c : Code} {Q : Exit → AState → Prop} {n : Nat} {st : AState} (h : AW P c (rQ P c Q n) st) : AWR P c Q (n + 1) st := by
  intro Γ ρ a w hok
  rw [rounds_succ]
  refine wp_mono (h Γ ρ a w hok) ?_
  rintro e a' w' ⟨st', ρ', h1, h2⟩
  cases e with
  | normal => exact h1 Γ ρ' a' w' h2
  | _ => exact ⟨st', ρ', h1, h2⟩
theorem awr_sub {c : Code} {Q : Exit → AState → Prop} {n : Nat} {st st' : AState} (hs : Sub st st') (h : AWR P c Q n st') : AWR P c Q n st :=
  fun Γ ρ a w hok => let ⟨ρ', h'⟩ := hs Γ ρ a w hok; h Γ ρ' a w h'
theorem rq_norm {c : Code} {Q : Exit → AState → Prop} {n : Nat} {st : AState} (h : AWR P c Q n st) : rQ P c Q n .normal st := h
theorem rq_exit {c : Code} {Q : Exit → AState → Prop} {n id : Nat} {st : AState} (h : Q (.exit id) st) : rQ P c Q n (.exit id) st := h
theorem rq_ret {c : Code} {Q : Exit → AState → Prop} {n : Nat} {st : AState} (h : Q .ret st) : rQ P c Q n .ret st := h
theorem rq_goto {c : Code} {Q : Exit → AState → Prop} {n l : Nat} {st : AState} (h : Q (.goto l) st) : rQ P c Q n (.goto l) st := h
theorem bq_norm {id : Nat} {Q : Exit → AState → Prop} {st : AState} (h : Q .normal st) : blockQ id Q .normal st := h
theorem bq_ret {id : Nat} {Q : Exit → AState → Prop} {st : AState} (h : Q .ret st) : blockQ id Q .ret st := h
theorem tq_norm {y : Code} {Q : Exit → AState → Prop} {st : AState} (h : AW P y Q st) : thenQ P y Q .normal st := h
theorem tq_ret {y : Code} {Q : Exit → AState → Prop} {st : AState} (h : Q .ret st) : thenQ P y Q .ret st := h
theorem tq_exit {y : Code} {Q : Exit → AState → Prop} {st : AState} {id : Nat} (h : Q (.exit id) st) : thenQ P y Q (.exit id) st := h

/-! ## An operation whose effect is known -/
theorem ar_loc {ops : Array Oper} {draw : Bool} {st0 : AState} {Q : Exit → AState → Prop} {i : Nat} {st st1 : AState} {acc : List Eff} {o : Oper} {E : Eff} (ho : ops[i]? = some o) (hg : o.guard = none) (hk : st.killAll E.c = st1) (hl : Local P o st1 E)
    (k : AR P ops draw st0 Q (i + 1, st1.app E.u, if draw = true then acc ++ [E] else acc)) : AR P ops draw st0 Q (i, st, acc) := by
  subst hk
  exact ar_at (Array.getElem?_eq_some_iff.1 ho).1 (LocalAt.plain ho hg hl) (fun hd => by rw [if_pos hd]) k
theorem ar_loc_if {ops : Array Oper} {draw : Bool} {st0 : AState} {Q : Exit → AState → Prop} {i j d : Nat} {b : Bool} {st st1 : AState} {acc : List Eff} {o : Oper} {E : Eff} (ho : ops[i]? = some o) (hg : o.guard = some (j, b)) (hj : (ops[j]?).bind (·.dst) = some d) (hv : tget st.t d = .pv (.v (.bool b))) (hk : st.killAll E.c = st1) (hl : Local P o st1 E)
    (k : AR P ops draw st0 Q (i + 1, st1.app E.u, if draw = true then acc ++ [{ E with r := .tmp d :: E.r }] else acc)) : AR P ops draw st0 Q (i, st, acc) := by
  subst hk
  exact ar_at (E := { E with r := .tmp d :: E.r }) (Array.getElem?_eq_some_iff.1 ho).1 (LocalAt.guarded ho hg hj (tget_killAll_pv _ hv) hl) (fun hd => by rw [if_pos hd]) k

/-! ## Appends -/
theorem isNilV_eq {a : AV} (h : isNilV a = true) : a = .pv (.v (.slice none 0 0)) := by
  unfold isNilV at h
  split at h
  · rfl
  · cases h
theorem ar_appN {ops : Array Oper} {draw : Bool} {st0 : AState} {Q : Exit → AState → Prop} {i d : Nat} {st st1 : AState} {acc : List Eff} {o : Oper} {s x : Operand} {t t' e e' size bytes : Nat} {ys : List (List PV)}
    (ho : ops[i]? = some o) (hg : o.guard = none) (hop : o.op = .call { callee := .builtin .append, args := #[s, x], argTypes := #[t, t'] }) (hd : o.dst = some d) (hk : st.killAll [.loc d] = st1) (hs : isNilV (ev st1 s) = true) (hT : elemS P t = some e) (hT' : elemS P t' = some e') (he : elemT? P e = some (size, bytes))
    (hx : srcP st1 size (ev st1 x) = some ys) (hlt : d < st1.n) (hsz : 0 < size) (hb : ys.length * bytes ≤ 140737488355328 ∧ ys.length ≤ maxLen)
    (k : AR P ops draw st0 Q (i + 1, st1.app ⟨[(d, .own (.loc d))], [(.loc d, some (.own e size ys))]⟩, if draw = true then acc ++ [⟨keyO s ++ keyO x ++ slotK (ev st1 x), ⟨[(d, .own (.loc d))], [(.loc d, some (.own e size ys))]⟩, [.loc d]⟩] else acc)) : AR P ops draw st0 Q (i, st, acc) :=
  ar_loc (E := ⟨keyO s ++ keyO x ++ slotK (ev st1 x), ⟨[(d, .own (.loc d))], [(.loc d, some (.own e size ys))]⟩, [.loc d]⟩) ho hg hk
    (l_append_new (xs := []) hop hd hlt hT hT' he hsz (.inr ⟨isNilV_eq hs, rfl⟩) hx (.inl rfl) (by simpa using hb.1) (by simpa using hb.2)) k
theorem ar_appT {ops : Array Oper} {draw : Bool} {st0 : AState} {Q : Exit → AState → Prop} {i d : Nat} {st st1 : AState} {acc : List Eff} {o : Oper} {s x : Operand} {t t' e e' size bytes : Nat} {xs ys : List (List PV)}
    (ho : ops[i]? = some o) (hg : o.guard = none) (hop : o.op = .call { callee := .builtin .append, args := #[s, x], argTypes := #[t, t'] }) (hd : o.dst = some d) (hk : st.killAll [.loc d] = st1) (hs : ev st1 s = .tight size xs) (hT : elemS P t = some e) (hT' : elemS P t' = some e') (he : elemT? P e = some (size, bytes))
    (hx : srcP st1 size (ev st1 x) = some ys) (hlt : d < st1.n) (hsz : 0 < size) (hne : xs = [] ∨ 0 < ys.length) (hb : (xs.length + ys.length) * bytes ≤ 140737488355328 ∧ xs.length + ys.length ≤ maxLen)
    (k : AR P ops draw st0 Q (i + 1, st1.app ⟨[(d, .own (.loc d))], [(.loc d, some (.own e size (xs ++ ys)))]⟩, if draw = true then acc ++ [⟨keyO s ++ keyO x ++ slotK (ev st1 x), ⟨[(d, .own (.loc d))], [(.loc d, some (.own e size (xs ++ ys)))]⟩, [.loc d]⟩] else acc)) : AR P ops draw st0 Q (i, st, acc) :=
  ar_loc (E := ⟨keyO s ++ keyO x ++ slotK (ev st1 x), ⟨[(d, .own (.loc d))], [(.loc d, some (.own e size (xs ++ ys)))]⟩, [.loc d]⟩) ho hg hk
    (l_append_new hop hd hlt hT hT' he hsz (.inl hs) hx hne hb.1 hb.2) k
theorem ar_appO {ops : Array Oper} {draw : Bool} {st0 : AState} {Q : Exit → AState → Prop} {i d : Nat} {st st1 : AState} {acc : List Eff} {o : Oper} {s x : Operand} {t t' e e' size bytes : Nat} {n : Name} {xs ys : List (List PV)}
    (ho : ops[i]? = some o) (hg : o.guard = none) (hop : o.op = .call { callee := .builtin .append, args := #[s, x], argTypes := #[t, t'] }) (hd : o.dst = some d) (hn0 : ev st s = .own n) (hk : st.killAll [freshN n d] = st1) (hs : ev st1 s = .own n) (hT : elemS P t = some e) (hT' : elemS P t' = some e') (he : elemT? P e = some (size, bytes))
    (hn : sget st1.s n = some (.own e size xs)) (hx : srcP st1 size (ev st1 x) = some ys) (hlt : d < st1.n) (hsz : 0 < size) (hb : (xs.length + ys.length) * bytes ≤ 140737488355328 ∧ xs.length + ys.length ≤ maxLen)
    (k : AR P ops draw st0 Q (i + 1, st1.app ⟨[(d, .own (freshN n d))], [(freshN n d, some (.own e size (xs ++ ys))), (n, none)]⟩, if draw = true then acc ++ [⟨keyO s ++ keyO x ++ slotK (ev st1 x) ++ [.slot n], ⟨[(d, .own (freshN n d))], [(freshN n d, some (.own e size (xs ++ ys))), (n, none)]⟩, [freshN n d]⟩] else acc)) : AR P ops draw st0 Q (i, st, acc) :=
  ar_loc (E := ⟨keyO s ++ keyO x ++ slotK (ev st1 x) ++ [.slot n], ⟨[(d, .own (freshN n d))], [(freshN n d, some (.own e size (xs ++ ys))), (n, none)]⟩, [freshN n d]⟩) ho hg hk
    (l_append_own hop hd hlt hT hT' he hsz hs hn hx hb.1 hb.2) k

/-! ## Own slices, lent to be read -/
def PV.plain : PV → Bool
  | .v _ => true
  | .sl _ _ => false
mutual
def AV.plain : AV → Bool
  | .pv p => p.plain
  | .agg cs => cs.all PV.plain
  | .tup l => AV.plainL l
  | _ => false
def AV.plainL : List AV → Bool
  | [] => true
  | a :: l => a.plain && AV.plainL l
end
theorem PVs_plain {F F' : Nat → Prop} {w w' : World} : ∀ {cs : List PV} {vs : List Value}, cs.all PV.plain = true → PVs F w cs vs → PVs F' w' cs vs
  | [], vs, _, h => h
  | p :: cs, vs, hp, ⟨v, vs', e, h1, h2⟩ => by
    simp only [List.all_cons, Bool.and_eq_true] at hp
    refine ⟨v, vs', e, ?_, PVs_plain hp.2 h2⟩
    cases p with
    | v x => exact h1
    | sl es xs => cases hp.1
mutual
theorem ARel.plain {ρ ρ' : Rho} {w w' : World} : ∀ (a : AV) (v : Value), a.plain = true → ARel ρ w a v → ARel ρ' w' a v
  | .pv (.v x), v, _, h => h
  | .pv (.sl _ _), v, hp, h => by cases hp
  | .agg cs, v, hp, ⟨a, e, h⟩ => ⟨a, e, PVs_plain hp h⟩
  | .tup l, v, hp, ⟨a, e, h⟩ => ⟨a, e, ARels.plain l _ hp h⟩
  | .own _, v, hp, h => by cases hp
  | .tight _ _, v, hp, h => by cases hp
  | .ptr _ _, v, hp, h => by cases hp
  | .eptr _ _ _ _, v, hp, h => by cases hp
  | .rptr _, v, hp, h => by cases hp
  | .fn _ _ _, v, hp, h => by cases hp
  | .dead, v, hp, h => trivial
theorem ARels.plain {ρ ρ' : Rho} {w w' : World} : ∀ (l : List AV) (vs : List Value), AV.plainL l = true → ARels ρ w l vs → ARels ρ' w' l vs
  | [], vs, _, h => h
  | a :: l, vs, hp, ⟨v, vs', e, h1, h2⟩ => by
    simp only [AV.plainL, Bool.and_eq_true] at hp
    exact ⟨v, vs', e, ARel.plain a v hp.1 h1, ARels.plain l vs' hp.2 h2⟩
end
/-- One argument is the same, or is an own slice that is read as any slice. -/
def Lend (X : SMap) (a a' : AV) : Prop := a = a' ∨ ∃ n e es xs, a' = .own n ∧ sget X n = some (.own e es xs) ∧ a = .pv (.sl es xs)
def LendAll (X : SMap) : List AV → List AV → Prop
  | [], [] => True
  | a :: l, a' :: l' => Lend X a a' ∧ LendAll X l l'
  | _, _ => False
theorem lend_rel {Γ : Ctx} {X : SMap} {ρ : Rho} {w : World} (hX : SOk Γ X ρ w) {F' : Nat → Prop} (hF : ∀ b, ρ.F b → F' b) (hs : ∀ n s b, sget X n = some s → slotBlk ρ n s = some b → F' b) : ∀ {l l' : List AV} {vs : List Value}, LendAll X l l' → ARels ρ w l' vs → ARels ⟨ρ.blk, ρ.ov, F'⟩ w l vs
  | [], [], vs, _, h => h
  | a :: l, a' :: l', vs, ⟨h1, h2⟩, ⟨v, vs', e, h3, h4⟩ => by
    refine ⟨v, vs', e, ?_, lend_rel hX hF hs h2 h4⟩
    rcases h1 with rfl | ⟨n, e, es, xs, rfl, hn, rfl⟩
    · exact ARel.keep' (ρ := ρ) (ρ' := ⟨ρ.blk, ρ.ov, F'⟩) ⟨hF, fun _ _ => rfl⟩ rfl rfl h3
    · have hv : v = ρ.ov n := h3
      rw [hv]
      exact own_pv (hX.slots n _ hn) hF (fun b hb => hs n _ b hn hb)
  | [], _ :: _, _, h, _ => h.elim
  | _ :: _, [], _, h, _ => h.elim
theorem SC.lend {f : FuncId} {args args' : List AV} {res : AV} {X : SMap} (h : SC P f args res) (hp : res.plain = true) (hl : LendAll X args args') : SCX P f args' X res X := by
  intro Γ ρ w vals hw hX hargs
  have hF : ∀ b, ρ.F b → (fun b => ρ.F b ∨ ∃ n s, sget X n = some s ∧ slotBlk ρ n s = some b) b := fun b hb => .inl hb
  have hF2 : ∀ n s b, sget X n = some s → slotBlk ρ n s = some b → (fun b => ρ.F b ∨ ∃ n s, sget X n = some s ∧ slotBlk ρ n s = some b) b := fun n s b h1 h2 => .inr ⟨n, s, h1, h2⟩
  have hrel := lend_rel hX hF hF2 hl hargs
  have hlt : ∀ b, (fun b => ρ.F b ∨ ∃ n s, sget X n = some s ∧ slotBlk ρ n s = some b) b → b < w.heap.size := by
    rintro b (hb | ⟨n, s, h1, h2⟩)
    · exact hX.flt b hb
    · exact slotBlk_lt hX h1 h2
  generalize (fun b => ρ.F b ∨ ∃ n s, sget X n = some s ∧ slotBlk ρ n s = some b) = F' at *
  have h0 : SOk ⟨w, F', fun _ => False, fun i => ρ.blk (.ext i)⟩ [] ⟨ρ.blk, ρ.ov, F'⟩ w :=
    { slots := fun n s hn => (by cases hn), disj := fun n m s s' b hn => (by cases hn), sep := fun n s b hn => (by cases hn), flt := hlt, os := rfl, tape := rfl, output := rfl, size := Nat.le_refl _, below := fun _ _ _ => rfl, fmono := fun _ h => h, fnew := fun _ h => .inl h, home := fun n s b hn => (by cases hn), xblk := fun _ => rfl }
  refine (h ⟨w, F', fun _ => False, fun i => ρ.blk (.ext i)⟩ ⟨ρ.blk, ρ.ov, F'⟩ w vals rfl h0 hrel).mono ?_
  rintro e w' ⟨v, ρ', rfl, hv, h'⟩
  exact ⟨v, ρ, rfl, ARel.plain _ _ hp hv, hX.grow h'.size (fun b hb => h'.below b hb (fun h => h)) h'.os h'.tape h'.output⟩
/-- A call that lends. -/
theorem ar_callX {ops : Array Oper} {draw : Bool} {st0 : AState} {Q : Exit → AState → Prop} {i : Nat} {st : AState} {acc : List Eff} {o : Oper} {x : Operand} {args : Array Operand} {ats : Array TypeId} {f : FuncId} {fi ca : List AV} {cargs : List AV} {res : AV} {X Y : SMap} {d : Nat} (r r2 : List Name)
    (hent : Enters P f) (hsc : SCX P f cargs X res Y) (ho : ops[i]? = some o) (hg : o.guard = none) (hop : o.op = .call { callee := .value x, args, argTypes := ats }) (hd : o.dst = some d) (hx : ev st x = .fn f fi ca) (hlt : d < st.n)
    (hargs : AV.renL r cargs = fi ++ (args.toList.map (ev st) ++ ca)) (hX : OkX r st X) (hc : CallOk r r2 [] Y) (hrX : ∀ i, i < r.length → ∃ s, sget X (.ext i) = some s) (hres : res.okN r r2 [] = true)
    (k : AR P ops draw st0 Q (i + 1, st.app ⟨[(d, res.ren r2)], renS r2 Y ++ noneS r⟩, if draw = true then acc ++ [⟨keyO x ++ keysL args.toList ++ r.map .slot, ⟨[(d, res.ren r2)], renS r2 Y ++ noneS r⟩, []⟩] else acc)) : AR P ops draw st0 Q (i, st, acc) := by
  have hl := l_call (P := P) (C := []) hop hx hargs hent hsc hX hc hrX hres (fun d' h' => by rw [hd] at h'; cases h'; exact hlt)
  rw [hd] at hl
  have hl' : Local P o st ⟨keyO x ++ keysL args.toList ++ r.map .slot, ⟨[(d, res.ren r2)], renS r2 Y ++ noneS r⟩, []⟩ := hl
  exact ar_loc (st1 := st) (E := ⟨keyO x ++ keysL args.toList ++ r.map .slot, ⟨[(d, res.ren r2)], renS r2 Y ++ noneS r⟩, []⟩) ho hg rfl hl' k
end Go.Eng
