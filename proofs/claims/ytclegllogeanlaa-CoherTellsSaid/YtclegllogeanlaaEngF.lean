import Derived.Test.YtclegllogeanlaaEngD
set_option autoImplicit false
set_option linter.unusedVariables false
set_option linter.unusedSimpArgs false
namespace Go.Eng
open Go Go.RowKit
variable {P : Program}
/-! ## Calls that hand on variables, and are handed own slices, read as any from here on -/
theorem ar_frzE {ops : Array Oper} {draw : Bool} {st0 : AState} {Q : Exit → AState → Prop} {i : Nat} {st st1 : AState} {acc : List Eff} {o : Oper} {x : Operand} {args : Array Operand} {ats : Array TypeId} {f : FuncId} {fi ca : List AV} {cargs : List AV} {res : AV} {X Y : SMap} {d : Nat} {E0 : Eff} (L : List Nat) (r r2 C : List Name)
    (hent : Enters P f) (hsc : SCX P f cargs X res Y) (ho : ops[i]? = some o) (hg : o.guard = none) (hop : o.op = .call { callee := .value x, args, argTypes := ats }) (hd : o.dst = some d) (hk : st.killAll C = st1) (h0 : frzE st1 L = some E0) (hx : ev (st1.app E0.u) x = .fn f fi ca) (hlt : d < (st1.app E0.u).n)
    (hargs : AV.renL r cargs = fi ++ (args.toList.map (ev (st1.app E0.u)) ++ ca)) (hX : okXE r (st1.app E0.u) 0 X) (hl : X.length = r.length) (hc : CallOk r r2 C Y) (hres : res.okN r r2 C = true) (hcc : C.all (fun n => !E0.u.has n) = true)
    (k : AR P ops draw st0 Q (i + 1, st1.app (seqE E0 ⟨keyO x ++ keysL args.toList ++ r.map Key.slot, ⟨[(d, res.ren r2)], renS r2 Y ++ noneS r⟩, C⟩).u, if draw = true then acc ++ [seqE E0 ⟨keyO x ++ keysL args.toList ++ r.map Key.slot, ⟨[(d, res.ren r2)], renS r2 Y ++ noneS r⟩, C⟩] else acc)) : AR P ops draw st0 Q (i, st, acc) := by
  have hl := l_call (P := P) (o := o) (st := st1.app E0.u) (C := C) hop hx hargs hent hsc (okXE_mem hX) hc (fun j hj => okXE_get hX (Nat.zero_le j) (by omega)) hres (fun d' h' => by rw [hd] at h'; cases h'; exact hlt)
  rw [hd] at hl
  have hl' : Local P o (st1.app E0.u) ⟨keyO x ++ keysL args.toList ++ r.map Key.slot, ⟨[(d, res.ren r2)], renS r2 Y ++ noneS r⟩, C⟩ := hl
  exact ar_loc (st1 := st1) (E := seqE E0 ⟨keyO x ++ keysL args.toList ++ r.map Key.slot, ⟨[(d, res.ren r2)], renS r2 Y ++ noneS r⟩, C⟩) ho hg hk (l_pre (frzE_ghost h0) (fun n hn => by
    have := List.all_eq_true.1 hcc n hn
    simpa using this) hl') k
end Go.Eng
set_option autoImplicit false
set_option linter.unusedVariables false
set_option linter.unusedSimpArgs false
namespace Go.Eng
open Go Go.RowKit
variable {P : Program}
/-! ## A contract of a weaker start -/
theorem args_ok {Γ : Ctx} {ρ : Rho} {w : World} {args : List AV} {X : SMap} {vals : Array Value} (hX : SOk Γ X ρ w) (hargs : ARels ρ w args vals.toList) : Ok Γ ⟨args.length, enumT 0 args, X⟩ ρ { tmps := vals, defers := [] } w := by
  have hlen : vals.size = args.length := by rw [← Array.length_toList, hargs.length]
  refine ⟨rfl, hlen, fun t => ?_, hX⟩
  rw [enumT_get]
  split
  · rename_i ht
    simp only [Nat.sub_zero, Nat.zero_add] at ht ⊢
    have h1 : args[t]? = some (args.getD t .dead) := by simp [List.getD, List.getElem?_eq_getElem ht.2]
    obtain ⟨v, h2, h3⟩ := hargs.get h1
    have : vals.getD t undef = v := by
      have h4 : vals[t]? = some v := by simpa using h2
      rw [Array.getD_eq_getD_getElem?, h4]; rfl
    rw [this]; exact h3
  · trivial
theorem SCX.pre {f : FuncId} {args args' : List AV} {X X' Y : SMap} {res : AV} (hs : Sub ⟨args.length, enumT 0 args, X⟩ ⟨args.length, enumT 0 args', X'⟩) (hl : args'.length = args.length) (h : SCX P f args' X' res Y) : SCX P f args X res Y := by
  intro Γ ρ w vals hw hX hargs
  obtain ⟨ρ', hok⟩ := hs Γ ρ _ w (args_ok hX hargs)
  have hlen : vals.size = args.length := by rw [← Array.length_toList, hargs.length]
  refine h Γ ρ' w vals hw hok.sok ((ARels_iff _ _).2 ⟨(by have h5 : args'.length = vals.toList.length := (by simp only [Array.length_toList]; omega); exact h5), fun j p v hp hv => ?_⟩)
  have hj : j < args'.length := (List.getElem?_eq_some_iff.1 hp).1
  have h1 := hok.tmps j
  rw [enumT_get, if_pos ⟨Nat.zero_le _, by omega⟩] at h1
  have e1 : args'.getD (j - 0) .dead = p := by simp [List.getD, hp]
  have e2 : ({ tmps := vals, defers := [] } : Act).tmps.getD j undef = v := by
    have h4 : vals[j]? = some v := by simpa using hv
    show vals.getD j undef = v
    rw [Array.getD_eq_getD_getElem?, h4]; rfl
  rw [e1, e2] at h1
  exact h1
end Go.Eng
