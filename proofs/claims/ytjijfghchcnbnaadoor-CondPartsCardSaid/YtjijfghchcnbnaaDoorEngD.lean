import Derived.Test.YtjijfghchcnbnaaDoorEngC
set_option autoImplicit false
set_option linter.unusedVariables false
set_option linter.unusedSimpArgs false
namespace Go.Eng
open Go Go.RowKit
variable {P : Program}
theorem ar_frz_if [Trk] {ops : Array Oper} {draw : Bool} {st0 : AState} {Q : Exit → AState → Prop} {i j dj : Nat} {b : Bool} {st st1 : AState} {acc : List Eff} {o : Oper} {E0 E : Eff} {L : List Nat} (ho : ops[i]? = some o) (hg : o.guard = some (j, b)) (hj : (ops[j]?).bind (·.dst) = some dj) (hv : tget st.t dj = .pv (.v (.bool b))) (hk : st.killAll (creates o) = st1) (hL : ownTs st1 (partsO o) = L) (hne : L ≠ []) (h0 : frzE st1 L = some E0)
    (hs : step P o (st1.app E0.u) = some E) (hE : E.c = creates o) (hc : (creates o).all (fun n => !E0.u.has n) = true)
    (k : AR P ops draw st0 Q (i + 1, st1.app (seqE E0 E).u, if draw = true then acc ++ [{ seqE E0 E with r := .tmp dj :: (seqE E0 E).r }] else acc)) : AR P ops draw st0 Q (i, st, acc) := by
  refine ar_loc_if (E := seqE E0 E) (st1 := st1) ho hg hj hv (by show st.killAll E.c = st1; rw [hE]; exact hk) (l_pre (frzE_ghost h0) (fun n hn => ?_) (step_local hs)) k
  rw [hE] at hn
  have := List.all_eq_true.1 hc n hn
  simpa using this
end Go.Eng
set_option autoImplicit false
set_option linter.unusedVariables false
set_option linter.unusedSimpArgs false
namespace Go.Eng
open Go Go.RowKit
variable {P : Program}

/-! ## Several slices called otherwise -/
def AState.rens (st : AState) : List (Name × Name) → AState
  | [] => st
  | p :: l => (st.ren p.1 p.2).rens l
theorem Sub.rens [Trk] : ∀ (l : List (Name × Name)) (st : AState), Sub st (st.rens l)
  | [], st => Sub.refl st
  | p :: l, st => (Sub.ren st p.1 p.2).trans (Sub.rens l _)
theorem aw_rens [Trk] {c : Code} {Q : Exit → AState → Prop} {st st' : AState} (l : List (Name × Name)) (hs : st.rens l = st') (h : AW P c Q st') : AW P c Q st := by
  subst hs; exact aw_sub (Sub.rens l st) h
theorem lq_normRs [Trk] {ι : Type} {head : ι → AState} {μ : ι → Nat} {i : ι} {Q : Exit → AState → Prop} {st st' : AState} (l : List (Name × Name)) (L : List Nat) (N : List Name) (hs : (st.rens l).keepN L N = st') (j : ι) (hj : μ j < μ i) (h : head j = st') : loopQ head μ i Q .normal st :=
  ⟨j, hj, by rw [h, ← hs]; exact (Sub.rens l st).trans (Sub.keepN _ L N)⟩
/-- Behind the names that are left, what is handed back is there. -/
theorem ret_rens [Trk] {rs : List ResultVar} {res : AV} {Y : SMap} {st st' : AState} {r : List AV} (e : Exit) (he : e = .normal ∨ e = .ret) (l : List (Name × Name)) (N : List Name) (hs : (st.rens l).keepN (rs.filterMap fun x => match x with | .tmp t => some t | .cell t _ => some t) N = st') (h1 : resA P st' rs = some r) (h2 : resV r = res) (h3 : st'.s = Y) (hn : (Y.map (·.1)).Nodup) : retL P rs res Y e st := by
  have hsub : Sub st st' := by rw [← hs]; exact (Sub.rens l st).trans (Sub.keepN _ _ N)
  have hY : ∀ p ∈ Y, p.2 = sget st'.s p.1 := by
    rw [h3]
    have key : ∀ (Y : SMap), (Y.map (·.1)).Nodup → ∀ p ∈ Y, p.2 = sget Y p.1 := by
      intro Y
      induction Y with
      | nil => intro _ p hp; cases hp
      | cons q Y ih =>
        intro hn p hp
        simp only [List.map_cons, List.nodup_cons] at hn
        rcases List.mem_cons.1 hp with rfl | hp
        · simp [sget]
        · simp only [sget]
          rw [if_neg (fun e => hn.1 (by rw [← e]; exact List.mem_map_of_mem hp))]
          exact ih hn.2 p hp
    exact key Y hn
  rcases he with rfl | rfl <;> exact ⟨st', r, hsub, h1, h2, hY⟩
/-- A call that hands on variables; what is new bears new names. -/
theorem ar_callC [Trk] {ops : Array Oper} {draw : Bool} {st0 : AState} {Q : Exit → AState → Prop} {i : Nat} {st st1 : AState} {acc : List Eff} {o : Oper} {x : Operand} {args : Array Operand} {ats : Array TypeId} {f : FuncId} {fi ca : List AV} {cargs : List AV} {res : AV} {X Y : SMap} {d : Nat} (r r2 C : List Name)
    (hent : Enters P f) (hsc : SCX P f cargs X res Y) (ho : ops[i]? = some o) (hg : o.guard = none) (hop : o.op = .call { callee := .value x, args, argTypes := ats }) (hd : o.dst = some d) (hk : st.killAll C = st1) (hx : ev st1 x = .fn f fi ca) (hlt : d < st1.n)
    (hargs : AV.renL r cargs = fi ++ (args.toList.map (ev st1) ++ ca)) (hX : OkX r st1 X) (hc : CallOk r r2 C Y) (hrX : ∀ i, i < r.length → ∃ s, sget X (.ext i) = some s) (hres : res.okN r r2 C = true)
    (k : AR P ops draw st0 Q (i + 1, st1.app ⟨[(d, res.ren r2)], renS r2 Y ++ noneS r⟩, if draw = true then acc ++ [⟨keyO x ++ keysL args.toList ++ r.map Key.slot, ⟨[(d, res.ren r2)], renS r2 Y ++ noneS r⟩, C⟩] else acc)) : AR P ops draw st0 Q (i, st, acc) := by
  have hl := l_call (P := P) (C := C) hop hx hargs hent hsc hX hc hrX hres (fun d' h' => by rw [hd] at h'; cases h'; exact hlt)
  rw [hd] at hl
  have hl' : Local P o st1 ⟨keyO x ++ keysL args.toList ++ r.map Key.slot, ⟨[(d, res.ren r2)], renS r2 Y ++ noneS r⟩, C⟩ := hl
  exact ar_loc (st1 := st1) (E := ⟨keyO x ++ keysL args.toList ++ r.map Key.slot, ⟨[(d, res.ren r2)], renS r2 Y ++ noneS r⟩, C⟩) ho hg hk hl' k
/-- Each variable that is handed on, one after the other. -/
def okXE (r : List Name) (st : AState) : Nat → SMap → Prop
  | _, [] => True
  | i, p :: X => (p.1 = .ext i ∧ i < r.length ∧ ∃ s, p.2 = some s ∧ sget st.s (r.getD i (.loc 0)) = some (s.ren r)) ∧ okXE r st (i + 1) X
theorem okXE_mem [Trk] {r : List Name} {st : AState} : ∀ {X : SMap} {i : Nat}, okXE r st i X → OkX r st X
  | [], _, _ => by intro p hp; cases hp
  | q :: X, i, h => by
    intro p hp
    rcases List.mem_cons.1 hp with rfl | hp
    · obtain ⟨h1, h2, s, h3, h4⟩ := h.1; exact ⟨i, s, h1, h2, h3, h4⟩
    · exact okXE_mem h.2 p hp
theorem okXE_get [Trk] {r : List Name} {st : AState} : ∀ {X : SMap} {i j : Nat}, okXE r st i X → i ≤ j → j < i + X.length → ∃ s, sget X (.ext j) = some s
  | [], i, j, _, h1, h2 => by simp at h2; omega
  | q :: X, i, j, h, h1, h2 => by
    obtain ⟨e, _, s, h3, _⟩ := h.1
    simp only [sget]
    by_cases hj : j = i
    · subst hj; rw [if_pos e.symm]; exact ⟨s, h3⟩
    · have : ¬(Name.ext j = q.1) := by rw [e]; intro h; injection h; omega
      rw [if_neg this]
      exact okXE_get h.2 (by omega) (by simp at h2; omega)
theorem ar_callE [Trk] {ops : Array Oper} {draw : Bool} {st0 : AState} {Q : Exit → AState → Prop} {i : Nat} {st st1 : AState} {acc : List Eff} {o : Oper} {x : Operand} {args : Array Operand} {ats : Array TypeId} {f : FuncId} {fi ca : List AV} {cargs : List AV} {res : AV} {X Y : SMap} {d : Nat} (r r2 C : List Name)
    (hent : Enters P f) (hsc : SCX P f cargs X res Y) (ho : ops[i]? = some o) (hg : o.guard = none) (hop : o.op = .call { callee := .value x, args, argTypes := ats }) (hd : o.dst = some d) (hk : st.killAll C = st1) (hx : ev st1 x = .fn f fi ca) (hlt : d < st1.n)
    (hargs : AV.renL r cargs = fi ++ (args.toList.map (ev st1) ++ ca)) (hX : okXE r st1 0 X) (hl : X.length = r.length) (hc : CallOk r r2 C Y) (hres : res.okN r r2 C = true)
    (k : AR P ops draw st0 Q (i + 1, st1.app ⟨[(d, res.ren r2)], renS r2 Y ++ noneS r⟩, if draw = true then acc ++ [⟨keyO x ++ keysL args.toList ++ r.map Key.slot, ⟨[(d, res.ren r2)], renS r2 Y ++ noneS r⟩, C⟩] else acc)) : AR P ops draw st0 Q (i, st, acc) :=
  ar_callC r r2 C hent hsc ho hg hop hd hk hx hlt hargs (okXE_mem hX) hc (fun j hj => okXE_get hX (Nat.zero_le j) (by omega)) hres k
attribute [simp] AState.rens okXE
end Go.Eng
set_option autoImplicit false
set_option linter.unusedVariables false
set_option linter.unusedSimpArgs false
namespace Go.Eng
open Go Go.RowKit
variable {P : Program}
/-! ## Calls that are handed own slices, read as any slices from here on -/
theorem ar_frzV [Trk] {ops : Array Oper} {draw : Bool} {st0 : AState} {Q : Exit → AState → Prop} {i : Nat} {st : AState} {acc : List Eff} {o : Oper} {x : Operand} {args : Array Operand} {ats : Array TypeId} {f : FuncId} {fi ca : List AV} {cargs : List AV} {res : AV} {d : Nat} {L : List Nat} {E0 : Eff}
    (hent : Enters P f) (hsc : SC P f cargs res) (ho : ops[i]? = some o) (hg : o.guard = none) (hop : o.op = .call { callee := .value x, args, argTypes := ats }) (hd : o.dst = some d) (hL : ownTs st args.toList = L) (hne : L ≠ []) (h0 : frzE st L = some E0) (hx : ev (st.app E0.u) x = .fn f fi ca) (hlt : d < (st.app E0.u).n)
    (hargs : fi ++ (args.toList.map (ev (st.app E0.u)) ++ ca) = cargs) (hp : AV.renL [] cargs = cargs ∧ res.okN [] [] [] = true ∧ res.ren [] = res)
    (k : AR P ops draw st0 Q (i + 1, st.app (seqE E0 ⟨keyO x ++ keysL args.toList, ⟨[(d, res)], []⟩, []⟩).u, if draw = true then acc ++ [seqE E0 ⟨keyO x ++ keysL args.toList, ⟨[(d, res)], []⟩, []⟩] else acc)) : AR P ops draw st0 Q (i, st, acc) := by
  have hl := l_callV (P := P) (o := o) (st := st.app E0.u) hop hx (by rw [hp.1, hargs]) hent hsc hp.2.1 (fun d' h' => by rw [hd] at h'; cases h'; exact hlt)
  rw [hd, hp.2.2] at hl
  exact ar_loc (st1 := st) (E := seqE E0 ⟨keyO x ++ keysL args.toList, ⟨[(d, res)], []⟩, []⟩) ho hg rfl (l_pre (frzE_ghost h0) (by intro n hn; cases hn) hl) k
end Go.Eng
set_option autoImplicit false
set_option linter.unusedVariables false
set_option linter.unusedSimpArgs false
namespace Go.Eng
open Go Go.RowKit
variable {P : Program}
/-! ## Temporaries that hold own slices, read as any slices from here on -/
theorem ar_frzT [Trk] {ops : Array Oper} {draw : Bool} {st0 : AState} {Q : Exit → AState → Prop} {i : Nat} {st st1 : AState} {acc : List Eff} {o : Oper} {E0 E : Eff} (L : List Nat) (ho : ops[i]? = some o) (hg : o.guard = none) (hk : st.killAll (creates o) = st1) (h0 : frzE st1 L = some E0)
    (hs : step P o (st1.app E0.u) = some E) (hE : E.c = creates o) (hc : (creates o).all (fun n => !E0.u.has n) = true)
    (k : AR P ops draw st0 Q (i + 1, st1.app (seqE E0 E).u, if draw = true then acc ++ [seqE E0 E] else acc)) : AR P ops draw st0 Q (i, st, acc) := by
  refine ar_loc (E := seqE E0 E) (st1 := st1) ho hg (by show st.killAll E.c = st1; rw [hE]; exact hk) (l_pre (frzE_ghost h0) (fun n hn => ?_) (step_local hs)) k
  rw [hE] at hn
  have := List.all_eq_true.1 hc n hn
  simpa using this
end Go.Eng
set_option autoImplicit false
set_option linter.unusedVariables false
set_option linter.unusedSimpArgs false
namespace Go.Eng
open Go Go.RowKit
variable {P : Program}
/-! ## The loops of a function's code, by number -/
def loopsC : Code → List Code
  | .seq a b => loopsC a ++ loopsC b
  | .cond _ a b => loopsC a ++ loopsC b
  | .block _ c => loopsC c
  | .scope c => loopsC c
  | .loop c => c :: loopsC c
  | .rangeFunc _ _ a c => loopsC a ++ loopsC c
  | _ => []
def loopAt (fn : Func) (k : Nat) : Option Code := match fn.body with
  | some c => (loopsC c)[k]?
  | none => none
end Go.Eng
set_option autoImplicit false
set_option linter.unusedVariables false
set_option linter.unusedSimpArgs false
namespace Go.Eng
open Go Go.RowKit
variable {P : Program}
/-! ## A slice against nil -/
def isSliceT (P : Program) (t : TypeId) : Bool := match P.underlying t with | some (.slice _) => true | _ => false
def isNilS : AV → Option Bool
  | .pv (.v (.slice a _ _)) => some a.isNone
  | .pv (.sl (_ + 1) (_ :: _)) => some false
  | _ => none
theorem run_eq_nilS [Trk] {t : TypeId} {a : Option Addr} {n c : Nat} (ht : isSliceT P t = true) (w : World) : (Op.equal t (.slice a n c) (.slice none 0 0)).run P w = .ok a.isNone w := by
  unfold isSliceT at ht
  split at ht
  · rename_i e he
    have hd : ∀ d : Nat, (Op.equalIn (d + 1) t (.slice a n c) (.slice none 0 0)).run P w = .ok a.isNone w := fun d => by
      cases a <;> simp [Op.equalIn, run_underlying he]
    exact hd 9999
  · cases ht
theorem isNilS_rel [Trk] {ρ : Rho} {w : World} {x : AV} {v : Value} {b : Bool} (h : isNilS x = some b) (k : ARel ρ w x v) : ∃ a n c, v = .slice a n c ∧ a.isNone = b := by
  unfold isNilS at h
  split at h
  · cases h
    exact ⟨_, _, _, pv_inv k, rfl⟩
  · cases h
    rename_i es x xs
    obtain ⟨a, cap, vs, h1, h2, h3, h4, h5⟩ := k
    have hl := h4.length
    rcases h5 with rfl | ⟨ad, rfl, _⟩
    · simp at hl
    · exact ⟨_, _, _, h1, rfl⟩
  · cases h
theorem l_eqNilS [Trk] {o : Oper} {st : AState} {d : Nat} {x : Operand} {t t' : TypeId} {b : Bool} (ho : o.op = .binOp .eql t x (.const (.slice none 0 0)) t') (hd : o.dst = some d) (hlt : d < st.n) (ht : isSliceT P t = true) (hx : isNilS (ev st x) = some b) :
    Local P o st ⟨keyO x, ⟨[(d, B b)], []⟩, []⟩ := by
  intro st2 hn hr
  refine ok_value hd (by rw [hn]; exact hlt) fun Γ ρ a w hok => ?_
  have h1 := ev_rel hok x
  rw [ev_agree hr (fun k hk => hk)] at h1
  obtain ⟨ad, n, c, hv, hb⟩ := isNilS_rel hx h1
  subst hb
  refine ⟨.bool ad.isNone, ⟨rfl, rfl⟩, ?_⟩
  have hg : (eqGuard .eql t x (.const (.slice none 0 0)) (a.eval x) (.slice none 0 0)).run P w = .ok () w := by rw [hv]; rfl
  have en : a.eval (.const (.slice none 0 0)) = .slice none 0 0 := rfl
  have hb : (binOp .eql t (a.eval x) (.slice none 0 0)).run P w = .ok (.bool ad.isNone) w := by
    rw [hv]
    simp only [binOp, Sem.run_bind, run_eq_nilS ht, Result.andThen_ok, Sem.run_pure]
  unfold execOp
  simp only [ho, en, Sem.run_bind, hg, Result.andThen_ok, hb, Sem.run_pure]
theorem ar_eqNilS [Trk] {ops : Array Oper} {draw : Bool} {st0 : AState} {Q : Exit → AState → Prop} {i d : Nat} {st : AState} {acc : List Eff} {o : Oper} {x : Operand} {t t' : TypeId} {b : Bool} (ho : ops[i]? = some o) (hg : o.guard = none) (hop : o.op = .binOp .eql t x (.const (.slice none 0 0)) t') (hd : o.dst = some d) (hlt : d < st.n) (ht : isSliceT P t = true) (hx : isNilS (ev st x) = some b)
    (k : AR P ops draw st0 Q (i + 1, { st with t := (d, B b) :: st.t }, if draw = true then acc ++ [⟨keyO x, ⟨[(d, B b)], []⟩, []⟩] else acc)) : AR P ops draw st0 Q (i, st, acc) :=
  ar_loc (E := ⟨keyO x, ⟨[(d, B b)], []⟩, []⟩) (st1 := st) ho hg rfl (l_eqNilS hop hd hlt ht hx) k
/-- A slice of no elements is nil, or it isn't. -/
theorem aw_nilCase [Trk] {c : Code} {Q : Exit → AState → Prop} {st : AState} (t es : Nat) (ht : tget st.t t = .pv (.sl es [])) (h : ∀ a cap, cap ≤ maxLen → AW P c Q ⟨st.n, (t, .pv (.v (.slice a 0 cap))) :: st.t, st.s⟩) : AW P c Q st := by
  intro Γ ρ a w hok
  have h1 := hok.tmps t
  rw [ht] at h1
  obtain ⟨ad, cap, vs, e1, e2, e3, e4, e5⟩ := h1
  refine h ad cap e3 Γ ρ a w ⟨hok.defers, hok.size, fun q => ?_, hok.sok⟩
  simp only [tget]
  split
  · rename_i hq; subst hq; rw [e1]; exact ⟨rfl, rfl⟩
  · exact hok.tmps q
theorem aw_empSl [Trk] {c : Code} {Q : Exit → AState → Prop} {st : AState} (t es : Nat) (a : Option Addr) (cap : Nat) (hcap : cap ≤ maxLen) (ht : tget st.t t = .pv (.v (.slice a 0 cap))) (h : AW P c Q ⟨st.n, (t, .pv (.sl es [])) :: st.t, st.s⟩) : AW P c Q st := by
  intro Γ ρ b w hok
  have h1 := hok.tmps t
  rw [ht] at h1
  refine h Γ ρ b w ⟨hok.defers, hok.size, fun q => ?_, hok.sok⟩
  simp only [tget]
  split
  · rename_i hq; subst hq; rw [pv_inv h1]; exact ⟨a, cap, [], rfl, Nat.zero_le _, hcap, rfl, .inl rfl⟩
  · exact hok.tmps q
attribute [simp] isNilS
end Go.Eng
set_option autoImplicit false
set_option linter.unusedVariables false
set_option linter.unusedSimpArgs false
namespace Go.Eng
open Go Go.RowKit
variable {P : Program}
/-! ## Slices made; a new slice read as any -/
theorem ar_make [Trk] {ops : Array Oper} {draw : Bool} {st0 : AState} {Q : Exit → AState → Prop} {i d : Nat} {st st1 : AState} {acc : List Eff} {o : Oper} {x y : Operand} {T e size bytes : Nat} {z : Value} {k k' : IntKind} {n : Int} {m : Nat}
    (ho : ops[i]? = some o) (hg : o.guard = none) (hop : o.op = .makeSlice T x y) (hd : o.dst = some d) (hk : st.killAll [.loc d] = st1) (hT : elemS P T = some e) (he : elemT? P e = some (size, bytes)) (hz : zeroOf P e = some z) (hz1 : z.cells.toList.all (·.oneCell') = true) (hlt : d < st1.n) (hsz : 0 < size)
    (hx : ev st1 x = .pv (.v (.int k n))) (hy : ev st1 y = .pv (.v (.int k' n))) (hn : n = (m : Int)) (hb : bytes * m ≤ 281474976710656 ∧ m ≤ maxLen)
    (kk : AR P ops draw st0 Q (i + 1, st1.app ⟨[(d, .own (.loc d))], [(.loc d, some (.own e size (List.replicate m (z.cells.toList.map .v))))]⟩, if draw = true then acc ++ [⟨keyO x ++ keyO y, ⟨[(d, .own (.loc d))], [(.loc d, some (.own e size (List.replicate m (z.cells.toList.map .v))))]⟩, [.loc d]⟩] else acc)) : AR P ops draw st0 Q (i, st, acc) := by
  subst hn
  exact ar_loc (E := ⟨keyO x ++ keyO y, ⟨[(d, .own (.loc d))], [(.loc d, some (.own e size (List.replicate m (z.cells.toList.map .v))))]⟩, [.loc d]⟩) ho hg hk
    (l_make hop hd hlt hT he hz hz1 hsz hx hy (Int.natCast_nonneg _) (by simpa using hb.1) (by simpa using hb.2)) kk
theorem sco_sc [Trk] {f : FuncId} {args : List AV} {e es : Nat} {xs : List (List PV)} (h : SCO P f args e es xs) : SC P f args (.pv (.sl es xs)) := by
  intro Γ ρ w vals hw hX hargs
  refine (h Γ ρ w vals hw hX hargs).mono ?_
  rintro ex w' ⟨v, ρ', e1, h1, h2⟩
  have hok : Ok Γ ⟨1, [(0, .own (.ext 0))], [(.ext 0, some (.own e es xs))]⟩ ρ' { tmps := #[v], defers := [] } w' := ⟨rfl, rfl, fun t => by
    simp only [tget]
    split
    · rename_i ht; subst ht; exact h1
    · trivial, h2⟩
  obtain ⟨ρ2, hk⟩ := Sub.freeze _ (.ext 0) Γ ρ' _ w' hok
  refine ⟨v, ρ2, e1, ?_, ?_⟩
  · have := hk.tmps 0
    simpa [AState.freeze, sget, tmap, AV.frz, tget] using this
  · have := hk.sok
    refine this.sub ⟨fun n s' hn => ?_⟩
    cases hn
/-- A contract's result, told less exactly. -/
theorem SC.postE [Trk] {f : FuncId} {args : List AV} {res res' : AV} (h : SC P f args res) (e : res = res') : SC P f args res' := e ▸ h
end Go.Eng
