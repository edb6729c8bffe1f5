import Derived.Test.YtpohlijehadklaaGreatEngC
set_option autoImplicit false
set_option linter.unusedVariables false
set_option linter.unusedSimpArgs false
namespace Go.Eng
open Go Go.RowKit
variable {P : Program}

def AState.rens (st : AState) : List (Name × Name) → AState
  | [] => st
  | p :: l => (st.ren p.1 p.2).rens l
theorem Sub.rens : ∀ (l : List (Name × Name)) (st : AState), Sub st (st.rens l)
  | [], st => Sub.refl st
  | p :: l, st => (Sub.ren st p.1 p.2).trans (Sub.rens l _)
theorem lq_normRs {ι : Type} {head : ι → AState} {μ : ι → Nat} {i : ι} {Q : Exit → AState → Prop} {st st' : AState} (l : List (Name × Name)) (L : List Nat) (N : List Name) (hs : (st.rens l).keepN L N = st') (j : ι) (hj : μ j < μ i) (h : head j = st') : loopQ head μ i Q .normal st :=
  ⟨j, hj, by rw [h, ← hs]; exact (Sub.rens l st).trans (Sub.keepN _ L N)⟩
/-- Behind the names that are left, what is handed back is there. -/
theorem ret_rens {rs : List ResultVar} {res : AV} {Y : SMap} {st st' : AState} {r : List AV} (e : Exit) (he : e = .normal ∨ e = .ret) (l : List (Name × Name)) (N : List Name) (hs : (st.rens l).keepN (rs.filterMap fun x => match x with | .tmp t => some t | .cell t _ => some t) N = st') (h1 : resA P st' rs = some r) (h2 : resV r = res) (h3 : st'.s = Y) (hn : (Y.map (·.1)).Nodup) : retL P rs res Y e st := by
  have hsub : Sub st st' := by rw [← hs]; exact (Sub.rens l st).trans (Sub.keepN _ _ N)
  have hY : ∀ p ∈ Y, p.2 = sget st'.s p.1 := by
    rw [h3]
    have key : ∀ (Y : SMap), (Y.map (·.1)).Nodup → ∀ p ∈ Y, p.2 = sget Y p.1 := by
      intro Y
      induction Y with
      | nil => intro _ p hp; cases hp
      | cons q Y ih =>
        intro hn p hp
        simp only [List.map_cons, List.nodup_cons] at hn
        rcases List.mem_cons.1 hp with rfl | hp
        · simp [sget]
        · simp only [sget]
          rw [if_neg (fun e => hn.1 (by rw [← e]; exact List.mem_map_of_mem hp))]
          exact ih hn.2 p hp
    exact key Y hn
  rcases he with rfl | rfl <;> exact ⟨st', r, hsub, h1, h2, hY⟩
/-- A call that hands on variables; what is new bears new names. -/
theorem ar_callC {ops : Array Oper} {draw : Bool} {st0 : AState} {Q : Exit → AState → Prop} {i : Nat} {st st1 : AState} {acc : List Eff} {o : Oper} {x : Operand} {args : Array Operand} {ats : Array TypeId} {f : FuncId} {fi ca : List AV} {cargs : List AV} {res : AV} {X Y : SMap} {d : Nat} (r r2 C : List Name)
    (hent : Enters P f) (hsc : SCX P f cargs X res Y) (ho : ops[i]? = some o) (hg : o.guard = none) (hop : o.op = .call { callee := .value x, args, argTypes := ats }) (hd : o.dst = some d) (hk : st.killAll C = st1) (hx : ev st1 x = .fn f fi ca) (hlt : d < st1.n)
    (hargs : AV.renL r cargs = fi ++ (args.toList.map (ev st1) ++ ca)) (hX : OkX r st1 X) (hc : CallOk r r2 C Y) (hrX : ∀ i, i < r.length → ∃ s, sget X (.ext i) = some s) (hres : res.okN r r2 C = true)
    (k : AR P ops draw st0 Q (i + 1, st1.app ⟨[(d, res.ren r2)], renS r2 Y ++ noneS r⟩, if draw = true then acc ++ [⟨keyO x ++ keysL args.toList ++ r.map Key.slot, ⟨[(d, res.ren r2)], renS r2 Y ++ noneS r⟩, C⟩] else acc)) : AR P ops draw st0 Q (i, st, acc) := by
  have hl := l_call (P := P) (C := C) hop hx hargs hent hsc hX hc hrX hres (fun d' h' => by rw [hd] at h'; cases h'; exact hlt)
  rw [hd] at hl
  have hl' : Local P o st1 ⟨keyO x ++ keysL args.toList ++ r.map Key.slot, ⟨[(d, res.ren r2)], renS r2 Y ++ noneS r⟩, C⟩ := hl
  exact ar_loc (st1 := st1) (E := ⟨keyO x ++ keysL args.toList ++ r.map Key.slot, ⟨[(d, res.ren r2)], renS r2 Y ++ noneS r⟩, C⟩) ho hg hk hl' k
/-- Each variable that is handed on, one after the other. -/
def okXE (r : List Name) (st : AState) : Nat → SMap → Prop
  | _, [] => True
  | i, p :: X => (p.1 = .ext i ∧ i < r.length ∧ ∃ s, p.2 = some s ∧ sget st.s (r.getD i (.loc 0)) = some (s.ren r)) ∧ okXE r st (i + 1) X
theorem okXE_mem {r : List Name} {st : AState} : ∀ {X : SMap} {i : Nat}, okXE r st i X → OkX r st X
  | [], _, _ => by intro p hp; cases hp
  | q :: X, i, h => by
    intro p hp
    rcases List.mem_cons.1 hp with rfl | hp
    · obtain ⟨h1, h2, s, h3, h4⟩ := h.1; exact ⟨i, s, h1, h2, h3, h4⟩
    · exact okXE_mem h.2 p hp
theorem okXE_get {r : List Name} {st : AState} : ∀ {X : SMap} {i j : Nat}, okXE r st i X → i ≤ j → j < i + X.length → ∃ s, sget X (.ext j) = some s
  | [], i, j, _, h1, h2 => by simp at h2; omega
  | q :: X, i, j, h, h1, h2 => by
    obtain ⟨e, _, s, h3, _⟩ := h.1
    simp only [sget]
    by_cases hj : j = i
    · subst hj; rw [if_pos e.symm]; exact ⟨s, h3⟩
    · have : ¬(Name.ext j = q.1) := by rw [e]; intro h; injection h; omega
      rw [if_neg this]
      exact okXE_get h.2 (by omega) (by simp at h2; omega)
theorem ar_callE {ops : Array Oper} {draw : Bool} {st0 : AState} {Q : Exit → AState → Prop} {i : Nat} {st st1 : AState} {acc : List Eff} {o : Oper} {x : Operand} {args : Array Operand} {ats : Array TypeId} {f : FuncId} {fi ca : List AV} {cargs : List AV} {res : AV} {X Y : SMap} {d : Nat} (r r2 C : List Name)
    (hent : Enters P f) (hsc : SCX P f cargs X res Y) (ho : ops[i]? = some o) (hg : o.guard = none) (hop : o.op = .call { callee := .value x, args, argTypes := ats }) (hd : o.dst = some d) (hk : st.killAll C = st1) (hx : ev st1 x = .fn f fi ca) (hlt : d < st1.n)
    (hargs : AV.renL r cargs = fi ++ (args.toList.map (ev st1) ++ ca)) (hX : okXE r st1 0 X) (hl : X.length = r.length) (hc : CallOk r r2 C Y) (hres : res.okN r r2 C = true)
    (k : AR P ops draw st0 Q (i + 1, st1.app ⟨[(d, res.ren r2)], renS r2 Y ++ noneS r⟩, if draw = true then acc ++ [⟨keyO x ++ keysL args.toList ++ r.map Key.slot, ⟨[(d, res.ren r2)], renS r2 Y ++ noneS r⟩, C⟩] else acc)) : AR P ops draw st0 Q (i, st, acc) :=
  ar_callC r r2 C hent hsc ho hg hop hd hk hx hlt hargs (okXE_mem hX) hc (fun j hj => okXE_get hX (Nat.zero_le j) (by omega)) hres k
attribute [simp] AState.rens okXE
end Go.Eng
set_option autoImplicit false
set_option linter.unusedVariables false
set_option linter.unusedSimpArgs false
namespace Go.Eng
open Go Go.RowKit
variable {P : Program}
theorem ar_frzT {ops : Array Oper} {draw : Bool} {st0 : AState} {Q : Exit → AState → Prop} {i : Nat} {st st1 : AState} {acc : List Eff} {o : Oper} {E0 E : Eff} (L : List Nat) (ho : ops[i]? = some o) (hg : o.guard = none) (hk : st.killAll (creates o) = st1) (h0 : frzE st1 L = some E0)
    (hs : step P o (st1.app E0.u) = some E) (hE : E.c = creates o) (hc : (creates o).all (fun n => !E0.u.has n) = true)
    (k : AR P ops draw st0 Q (i + 1, st1.app (seqE E0 E).u, if draw = true then acc ++ [seqE E0 E] else acc)) : AR P ops draw st0 Q (i, st, acc) := by
  refine ar_loc (E := seqE E0 E) (st1 := st1) ho hg (by show st.killAll E.c = st1; rw [hE]; exact hk) (l_pre (frzE_ghost h0) (fun n hn => ?_) (step_local hs)) k
  rw [hE] at hn
  have := List.all_eq_true.1 hc n hn
  simpa using this
end Go.Eng
