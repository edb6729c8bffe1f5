import Derived.Test.YtjijfghchcnbnaaDoorEngD
import Derived.Test.YtjijfghchcnbnaaDoorEngC
import Derived.Lib.LaidU8
import Derived.Lay
import Derived.Handed
import Derived.LaidHandle
import Derived.Stop.Joined
import Derived.MakeChecks
set_option linter.unusedSimpArgs false
set_option linter.unusedVariables false
set_option autoImplicit false
namespace Go.Eng
open Go Go.RowKit
variable {P : Program}
/-! ## All of an array, as a slice -/
theorem elems_one [Trk] {F : Nat → Prop} {w : World} : ∀ {cs : List PV} {vs : List Value}, PVs F w cs vs → PElems F w 1 (cs.map fun c => [c]) vs
  | [], vs, h => by simpa only [PVs, List.map_nil, PElems] using h
  | c :: cs, vs, h => by
    obtain ⟨v, vs', rfl, h1, h2⟩ := h
    exact ⟨[v], vs', rfl, rfl, ⟨v, [], rfl, h1, rfl⟩, elems_one h2⟩
theorem add0 [Trk] (ad : Addr) : ad.add 0 = ad := by
  obtain ⟨b, o, k⟩ := ad
  simp [Addr.add]
theorem ok_sliceArr [Trk] {o : Oper} {st : AState} {d : Nat} {x : Operand} {T e n : Nat} {cs : List PV} (ho : o.op = .slice T x none none none) (hd : o.dst = some d) (hlt : d < st.n) (hT : arrOf P T = some (n, e)) (hs : szOf P e = some 1)
    (hn : 0 < n) (hM : n ≤ maxLen) (hx : ev st x = .rptr cs) (hc : n ≤ cs.length) : OpOK P o st ⟨[(d, .pv (.sl 1 ((cs.take n).map fun c => [c])))], []⟩ [] :=
  ok_value hd hlt fun Γ ρ a w hok => by
    have k1 := ev_rel hok x; rw [hx] at k1
    obtain ⟨ad, vs, h1, h2, h3, h4⟩ := k1
    have hl : ((cs.take n).map fun c => [c]).length = n := by simp; omega
    refine ⟨.slice (some ad) n n, ⟨some ad, n, vs.take n, by rw [hl], by rw [hl]; exact Nat.le_refl _, hM, elems_one (h2.take n), ?_⟩, ?_⟩
    · rcases h3 with rfl | hF
      · exact .inl (by simp)
      · refine .inr ⟨ad, rfl, hF, fun j u hu => ?_⟩
        rw [List.getElem?_take] at hu
        split at hu
        · exact h4 j u hu
        · cases hu
    · simp [execOp, ho, Instr.sliceAt, run_underlying (und_arr hT), h1, Instr.sureAddr, Instr.sliceBounds, run_size hs, Nat.ne_of_gt hn]
      try exact add0 ad
theorem l_sliceArr [Trk] {o : Oper} {st : AState} {d : Nat} {x : Operand} {T e n : Nat} {cs : List PV} (ho : o.op = .slice T x none none none) (hd : o.dst = some d) (hlt : d < st.n) (hT : arrOf P T = some (n, e)) (hs : szOf P e = some 1)
    (hn : 0 < n) (hM : n ≤ maxLen) (hx : ev st x = .rptr cs) (hc : n ≤ cs.length) : Local P o st ⟨keyO x, ⟨[(d, .pv (.sl 1 ((cs.take n).map fun c => [c])))], []⟩, []⟩ := by
  intro st2 hn2 hr
  exact ok_sliceArr ho hd (by rw [hn2]; exact hlt) hT hs hn hM (by rw [ev_agree hr (fun k hk => hk)]; exact hx) hc
theorem ar_sliceArr [Trk] {ops : Array Oper} {draw : Bool} {st0 : AState} {Q : Exit → AState → Prop} {i d : Nat} {st : AState} {acc : List Eff} {o : Oper} {x : Operand} {T e n : Nat} {cs : List PV} (ho : ops[i]? = some o) (hg : o.guard = none) (hop : o.op = .slice T x none none none) (hd : o.dst = some d) (hlt : d < st.n) (hT : arrOf P T = some (n, e)) (hs : szOf P e = some 1)
    (hn : 0 < n) (hM : n ≤ maxLen) (hx : ev st x = .rptr cs) (hc : n ≤ cs.length)
    (k : AR P ops draw st0 Q (i + 1, { st with t := (d, .pv (.sl 1 ((cs.take n).map fun c => [c]))) :: st.t }, if draw = true then acc ++ [⟨keyO x, ⟨[(d, .pv (.sl 1 ((cs.take n).map fun c => [c])))], []⟩, []⟩] else acc)) : AR P ops draw st0 Q (i, st, acc) :=
  ar_loc (E := ⟨keyO x, ⟨[(d, .pv (.sl 1 ((cs.take n).map fun c => [c])))], []⟩, []⟩) (st1 := st) ho hg rfl (l_sliceArr hop hd hlt hT hs hn hM hx hc) k
theorem aw_frzB [Trk] {c : Code} {Q : Exit → AState → Prop} {st st' : AState} (n : Name) (hs : st.freezeB n = st') (h : AW P c Q st') : AW P c Q st := by
  subst hs; exact aw_sub (Sub.freezeB st n) h
attribute [simp] AState.freezeB AV.frzB
end Go.Eng
namespace Go.Eng
open Go Go.RowKit
variable {P : Program}
/-! ## A temporary, read otherwise -/
theorem aw_impl [Trk] {c : Code} {Q : Exit → AState → Prop} {st : AState} {t : Nat} {a a' : AV} (ht : tget st.t t = a) (h : ∀ ρ w v, ARel ρ w a v → ARel ρ w a' v) (k : AW P c Q ⟨st.n, (t, a') :: st.t, st.s⟩) : AW P c Q st := by
  refine aw_sub (st' := ⟨st.n, (t, a') :: st.t, st.s⟩) (fun Γ ρ a0 w hok => ⟨ρ, hok.defers, hok.size, fun q => ?_, hok.sok⟩) k
  simp only [tget]
  split
  · rename_i hq
    subst hq
    have h1 := hok.tmps q
    rw [ht] at h1
    exact h _ _ _ h1
  · exact hok.tmps q
/-- A slice of one slice, that is nil, is a slice of one that is empty. -/
theorem nil_in [Trk] {es : Nat} (ρ : Rho) (w : World) (v : Value) (h : ARel ρ w (.pv (.sl 1 [[.v (.slice none 0 0)]])) v) : ARel ρ w (.pv (.sl 1 [[.sl es []]])) v := by
  obtain ⟨a, cap, vs, h1, h2, h3, h4, h5⟩ := h
  refine ⟨a, cap, vs, h1, h2, h3, ?_, h5⟩
  obtain ⟨v1, v2, e1, e2, e3, e4⟩ := h4
  obtain ⟨u, us, f1, f2, f3⟩ := e3
  have e : u = .slice none 0 0 := f2.1
  exact ⟨v1, v2, e1, e2, ⟨u, us, f1, ⟨none, 0, [], e, Nat.le_refl _, Nat.zero_le _, rfl, .inl rfl⟩, f3⟩, e4⟩
end Go.Eng
set_option autoImplicit false
set_option linter.unusedVariables false
set_option linter.unusedSimpArgs false
namespace Go.Eng
open Go Go.RowKit
variable {P : Program}
/-! ## Calls that hand on variables, and are handed own slices, read as any from here on -/
theorem ar_frzE [Trk] {ops : Array Oper} {draw : Bool} {st0 : AState} {Q : Exit → AState → Prop} {i : Nat} {st st1 : AState} {acc : List Eff} {o : Oper} {x : Operand} {args : Array Operand} {ats : Array TypeId} {f : FuncId} {fi ca : List AV} {cargs : List AV} {res : AV} {X Y : SMap} {d : Nat} {E0 : Eff} (L : List Nat) (r r2 C : List Name)
    (hent : Enters P f) (hsc : SCX P f cargs X res Y) (ho : ops[i]? = some o) (hg : o.guard = none) (hop : o.op = .call { callee := .value x, args, argTypes := ats }) (hd : o.dst = some d) (hk : st.killAll C = st1) (h0 : frzE st1 L = some E0) (hx : ev (st1.app E0.u) x = .fn f fi ca) (hlt : d < (st1.app E0.u).n)
    (hargs : AV.renL r cargs = fi ++ (args.toList.map (ev (st1.app E0.u)) ++ ca)) (hX : okXE r (st1.app E0.u) 0 X) (hl : X.length = r.length) (hc : CallOk r r2 C Y) (hres : res.okN r r2 C = true) (hcc : C.all (fun n => !E0.u.has n) = true)
    (k : AR P ops draw st0 Q (i + 1, st1.app (seqE E0 ⟨keyO x ++ keysL args.toList ++ r.map Key.slot, ⟨[(d, res.ren r2)], renS r2 Y ++ noneS r⟩, C⟩).u, if draw = true then acc ++ [seqE E0 ⟨keyO x ++ keysL args.toList ++ r.map Key.slot, ⟨[(d, res.ren r2)], renS r2 Y ++ noneS r⟩, C⟩] else acc)) : AR P ops draw st0 Q (i, st, acc) := by
  have hl := l_call (P := P) (o := o) (st := st1.app E0.u) (C := C) hop hx hargs hent hsc (okXE_mem hX) hc (fun j hj => okXE_get hX (Nat.zero_le j) (by omega)) hres (fun d' h' => by rw [hd] at h'; cases h'; exact hlt)
  rw [hd] at hl
  have hl' : Local P o (st1.app E0.u) ⟨keyO x ++ keysL args.toList ++ r.map Key.slot, ⟨[(d, res.ren r2)], renS r2 Y ++ noneS r⟩, C⟩ := hl
  exact ar_loc (st1 := st1) (E := seqE E0 ⟨keyO x ++ keysL args.toList ++ r.map Key.slot, ⟨[(d, res.ren r2)], renS r2 Y ++ noneS r⟩, C⟩) ho hg hk (l_pre (frzE_ghost h0) (fun n hn => by
    have := List.all_eq_true.1 hcc n hn
    simpa using this) hl') k
end Go.Eng
set_option autoImplicit false
set_option linter.unusedVariables false
set_option linter.unusedSimpArgs false
namespace Go.Eng
open Go Go.RowKit
variable {P : Program}
/-! ## A contract of a weaker start -/
theorem args_ok [Trk] {Γ : Ctx} {ρ : Rho} {w : World} {args : List AV} {X : SMap} {vals : Array Value} (hX : SOk Γ X ρ w) (hargs : ARels ρ w args vals.toList) : Ok Γ ⟨args.length, enumT 0 args, X⟩ ρ { tmps := vals, defers := [] } w := by
  have hlen : vals.size = args.length := by rw [← Array.length_toList, hargs.length]
  refine ⟨rfl, hlen, fun t => ?_, hX⟩
  rw [enumT_get]
  split
  · rename_i ht
    simp only [Nat.sub_zero, Nat.zero_add] at ht ⊢
    have h1 : args[t]? = some (args.getD t .dead) := by simp [List.getD, List.getElem?_eq_getElem ht.2]
    obtain ⟨v, h2, h3⟩ := hargs.get h1
    have : vals.getD t undef = v := by
      have h4 : vals[t]? = some v := by simpa using h2
      rw [Array.getD_eq_getD_getElem?, h4]; rfl
    rw [this]; exact h3
  · trivial
theorem SCX.pre [Trk] {f : FuncId} {args args' : List AV} {X X' Y : SMap} {res : AV} (hs : Sub ⟨args.length, enumT 0 args, X⟩ ⟨args.length, enumT 0 args', X'⟩) (hl : args'.length = args.length) (h : SCX P f args' X' res Y) : SCX P f args X res Y := by
  intro Γ ρ w vals hw hX hargs
  obtain ⟨ρ', hok⟩ := hs Γ ρ _ w (args_ok hX hargs)
  have hlen : vals.size = args.length := by rw [← Array.length_toList, hargs.length]
  refine h Γ ρ' w vals hw hok.sok ((ARels_iff _ _).2 ⟨(by have h5 : args'.length = vals.toList.length := (by simp only [Array.length_toList]; omega); exact h5), fun j p v hp hv => ?_⟩)
  have hj : j < args'.length := (List.getElem?_eq_some_iff.1 hp).1
  have h1 := hok.tmps j
  rw [enumT_get, if_pos ⟨Nat.zero_le _, by omega⟩] at h1
  have e1 : args'.getD (j - 0) .dead = p := by simp [List.getD, hp]
  have e2 : ({ tmps := vals, defers := [] } : Act).tmps.getD j undef = v := by
    have h4 : vals[j]? = some v := by simpa using hv
    show vals.getD j undef = v
    rw [Array.getD_eq_getD_getElem?, h4]; rfl
  rw [e1, e2] at h1
  exact h1
end Go.Eng
set_option autoImplicit false
set_option linter.unusedVariables false
set_option linter.unusedSimpArgs false
namespace Go.Eng
open Go Go.RowKit
variable {P : Program}
/-! ## A nil slice is one of no elements -/
theorem aw_nilS [Trk] {c : Code} {Q : Exit → AState → Prop} {st st' : AState} (t es : Nat) (hs : st.nilSl t es = st') (h : AW P c Q st') : AW P c Q st := by
  subst hs; exact aw_sub (Sub.nilSl st t es) h
theorem nil_sl [Trk] {F : Nat → Prop} {w : World} {es : Nat} {v : Value} (h : PRel F w (.v (.slice none 0 0)) v) : PRel F w (.sl es []) v := by
  have e : v = .slice none 0 0 := h.1
  subst e
  exact ⟨none, 0, [], rfl, Nat.le_refl _, Nat.zero_le _, rfl, .inl rfl⟩
theorem SC.post2 [Trk] {f : FuncId} {args : List AV} {res res' : AV} (h : SC P f args res) (hl : ∀ ρ w v, ARel ρ w res v → ARel ρ w res' v) : SC P f args res' := by
  intro Γ ρ w vals hw hX hargs
  refine (h Γ ρ w vals hw hX hargs).mono ?_
  rintro e w' ⟨v, ρ', e1, h1, h2⟩
  exact ⟨v, ρ', e1, hl _ _ _ h1, h2⟩
/-- A slot that is there, read as any slice from here on. -/
theorem aw_frzH [Trk] {c : Code} {Q : Exit → AState → Prop} {st st' : AState} (n : Name) {e : TypeId} {es : Nat} {xs : List (List PV)} (hn : sget st.s n = some (.own e es xs)) (hs : st.freeze n = st') (h : AW P c Q st') : AW P c Q st := aw_frz n hs h
end Go.Eng
set_option autoImplicit false
set_option linter.unusedVariables false
set_option linter.unusedSimpArgs false
namespace Go.Eng
open Go Go.RowKit
variable {P : Program}
theorem below_heap {n : Nat} {w w' : World} (h : Below n w w') : w.heap.size ≤ w'.heap.size := h.size
/-- A contract of the library's that hands back one plain value and turns nothing of old. -/
theorem sc_calls [Trk] {f : FuncId} {args : List AV} {v : Value} (h1 : v.oneCell' = true)
    (hc : ∀ (Γ : Ctx) (ρ : Rho) (w : World) (vals : Array Value), SOk Γ [] ρ w → ARels ρ w args vals.toList → Calls P f vals w fun e w' => e = .returned v ∧ Below w.heap.size w w' ∧ (Trk.on → w.drawn ≤ w'.drawn)) : SC P f args (.pv (.v v)) := by
  intro Γ ρ w vals hw hX hargs
  refine (hc Γ ρ w vals hX hargs).mono ?_
  rintro e w' ⟨rfl, hb, hd⟩
  exact ⟨v, ρ, rfl, ⟨rfl, h1⟩, hX.grow hb.size (fun b h => hb.block b h) hb.os hb.tape hb.output hd⟩
end Go.Eng
set_option linter.unusedSimpArgs false
set_option linter.unusedVariables false
set_option autoImplicit false
namespace Go.Eng
open Go Go.RowKit
variable {P : Program}
/-! ## The ways through an 'if' meet again -/
/-- Behind this code all is as 'st2' says. (No definition: a goal of another form is told apart at once.) -/
inductive meetQ [Trk] (st2 : AState) : Exit → AState → Prop
  | norm {st : AState} (h : Sub st st2) : meetQ st2 .normal st
theorem aw_meet [Trk] {x y : Code} {Q : Exit → AState → Prop} {st : AState} (st2 : AState) (h : AW P x (meetQ st2) st) (k : AW P y Q st2) : AW P (.seq x y) Q st := by
  refine aw_seq fun Γ ρ a w hok => ?_
  refine wp_mono (h Γ ρ a w hok) ?_
  rintro e a' w' ⟨st', ρ', h1, h2⟩
  cases h1 with
  | norm h => exact ⟨st', ρ', aw_sub h k, h2⟩
theorem meet_norm [Trk] {st st2 : AState} (l : List (Name × Name)) (L : List Nat) (N : List Name) (hs : (st.rens l).keepN L N = st2) : meetQ st2 .normal st := by
  subst hs
  exact .norm ((Sub.rens l st).trans (Sub.keepN _ L N))
end Go.Eng
namespace Go.Eng
open Go Go.RowKit
variable {P : Program}
theorem aw_meetC [Trk] {r x y z : Code} {Q : Exit → AState → Prop} {st : AState} (t : Nat) (st2 : AState) (h : AW P (.seq r (.cond (.tmp t) x y)) (meetQ st2) st) (k : AW P z Q st2) : AW P (.seq (.seq r (.cond (.tmp t) x y)) z) Q st := aw_meet st2 h k
theorem aw_meetN [Trk] {x y : Code} {Q : Exit → AState → Prop} {st st1 st2 : AState} (l : List (Name × Name)) (L : List Nat) (N : List Name) (hs : (st.rens l).keepN L N = st1) (h : AW P x (meetQ st2) st1) (k : AW P y Q st2) : AW P (.seq x y) Q st := by
  subst hs
  exact aw_sub ((Sub.rens l st).trans (Sub.keepN _ L N)) (aw_meet st2 h k)
end Go.Eng
set_option linter.unusedSimpArgs false
set_option linter.unusedVariables false
set_option linter.constructorNameAsVariable false
set_option autoImplicit false
namespace Go.Eng
open Go Go.RowKit Go.ChangeShapes
/-- What a row lists of the tables, as the engine asks for it. -/
theorem glob_of_laid {P : Program} {w : World} {L : List (String × DataW Unit)} {t e : TypeId} (hg : P.globalNamed "internal/strconv.uint64pow10" = some 0) (hty : (P.globals[0]?).map (·.type) = some t) (ht : P.underlying t = some (.array 20 e)) (he : P.underlying e = some (.int .u64)) (hce : P.cellsOf e = 1) (hct : P.cellsOf t = 20)
    (hm : ("internal/strconv.uint64pow10", Lib.tabData .u64 Lib.pow10Tab) ∈ L) (h : laidMet P L w) : GlobOK (fun b => b < w.heap.size) w := by
  obtain ⟨g', t', cs, fuel, p, h1, h2, h3, h4⟩ := Lib.laidMet.reads h hm
  obtain rfl := Option.some.inj (hg.symm.trans h1)
  obtain rfl := Option.some.inj (hty.symm.trans h2)
  have hcs := Lib.cells_of_tab ht he hce hct h4
  intro b xs hb
  unfold tabB at hb
  split at hb
  · rename_i h0
    subst h0
    cases hb
    unfold World.var? at h3
    rw [hg] at h3
    simp only [Option.bind_some] at h3
    cases hx : w.heap[0]? with
    | none => rw [hx] at h3; cases h3
    | some o =>
      rw [hx] at h3
      cases o with
      | cells c ty fr =>
        simp only [Option.some.injEq] at h3
        refine ⟨(Array.getElem?_eq_some_iff.1 hx).1, ty, fr, ?_⟩
        rw [h3, ← hcs]
      | _ => cases h3
  · cases hb
section
/-- The law's row that lists tables, lifted. -/
theorem law_lifted_laid [Trk] {H : Type} {enc : TypeId × Value → H} {C : Checked} {os : Os} {f : FuncId} {fn : Func} {s : ChangeSpec} {conds : List PathCond} {apart fresh handsOn : Bool} {tb : TypeId} {L : List (String × DataW Unit)} (m : Nat)
    (own : ownKnob C.prog.godebug = none) (started : os.Started) (noInit : C.prog.inits.idxOf? f = none) (hfn : C.prog.funcs[f]? = some fn)
    (witness : ∃ (w : World) (tape : Tape) (i : Input), w.os = os ∧ (w.forCall tape i).Shaped C.prog ∧ i.vars = [] ∧ Input.okWide C.prog (w.forCall tape i) .any w.heap.size f i ∧
      ((s.pre enc C.prog fn conds apart (w.forCall tape i).memory i.args ∧ laidMetH C.prog L (w.forCall tape i).memory) ∧ sizedMet enc C.prog fn (OpenSpec.ofChange s) apart (w.forCall tape i).memory i.args) ∧ ({} : Assume).holds C.prog (lone (Frame.enter C.prog f i.args .normal) [] (w.forCall tape i)))
    (laid : laidOutB C.prog = true) (hp : fn.params.toList.all (fun t => flatT C.prog m t && C.prog.readableRec t && decide (t < C.prog.types.size)) = true) (hvars : s.vars = []) (hres : fn.resultTypes = #[tb]) (hb : C.prog.underlying tb = some .bool)
    (hs : ∀ ds : List (DataW H), ds.length = fn.params.size → s.fn H ds = { results := [.lit (.bool true)], args := ds })
    (glob : ∀ w, laidMetH C.prog L w → GlobOK (fun b => b < w.heap.size) w)
    (law : ∀ av, ShapeAll C.prog m fn.params.toList av → SC C.prog f av (B true)) :
    ReturnsInHanded {} C os f .any (fun w args => (s.pre enc C.prog fn conds apart w args ∧ laidMetH C.prog L w) ∧ sizedMet enc C.prog fn (OpenSpec.ofChange s) apart w args) (s.post enc C.prog fn apart fresh handsOn false) := by
  have hp' : ∀ t ∈ fn.params.toList, flatT C.prog m t = true ∧ C.prog.readableRec t = true ∧ t < C.prog.types.size := by
    intro t ht
    have := List.all_eq_true.1 hp t ht
    simp only [Bool.and_eq_true, decide_eq_true_eq] at this
    exact ⟨this.1.1, this.1.2, this.2⟩
  refine returnsInHanded_of_change_and (X := fun w _ => laidMetH C.prog L w) (fun _ _ _ hh h => h.of_heap hh) own started noInit hfn witness ?_
  intro W base args ds gs before hval hW hc hsz hL _
  have hW0 := hW
  obtain ⟨p, q, hA, hV, rfl, hfz, hnd⟩ := hW
  obtain ⟨av, h1, h2⟩ := args_rel (m := m) (fun t ht => (hp' t ht).1) (fun j t v hj hv => hval j t v (by simpa using hj) (by simpa using hv)) hA
  refine (law_calls (law av h2) (glob W hL) h1).mono ?_
  rintro e W' ⟨rfl, bel⟩
  rw [hvars] at hV
  have hg : gs = [] ∧ q = [] := by
    cases gs with
    | nil => exact ⟨rfl, hV⟩
    | cons => exact hV.elim
  obtain ⟨rfl, rfl⟩ := hg
  have hsf := hs ds (by rw [trodAll_len hA]; simp)
  refine ⟨_, rfl, ds, [], _, [], p, [], hW0, ?_, ?_, ?_, bel.frame _, fun h => by cases h⟩
  · rw [List.append_nil, hsf, hres]
    exact trodAll_mk1 (shut_bool hb _)
  · rw [List.append_nil, hsf]
    exact trodAll_below laid bel (fun t ht => ⟨(hp' t ht).2.1, (hp' t ht).2.2⟩) hA
  · rw [List.append_nil, hsf, hvars]
    exact rfl
end
end Go.Eng
