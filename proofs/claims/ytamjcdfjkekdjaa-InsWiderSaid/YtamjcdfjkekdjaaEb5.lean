import Derived.Test.YtamjcdfjkekdjaaEb4
set_option autoImplicit false
set_option linter.unusedVariables false
set_option linter.unusedSimpArgs false
namespace Go.Eng
open Go Go.RowKit
variable {P : Program}

/-! ## Functions -/
/-- A call with these arguments and these variables of the caller's comes back with this result and these variables. -/
def SCX (P : Program) (f : FuncId) (args : List AV) (X : SMap) (res : AV) (Y : SMap) : Prop :=
  ∀ (Γ : Ctx) (ρ : Rho) (w : World) (vals : Array Value), Γ.w0 = w → SOk Γ X ρ w → ARels ρ w args vals.toList →
    Calls P f vals w (fun e w' => ∃ v ρ', e = .returned v ∧ ARel ρ' w' res v ∧ SOk Γ Y ρ' w')
/-- Nothing of the caller's: a value. -/
abbrev SC (P : Program) (f : FuncId) (args : List AV) (res : AV) : Prop := SCX P f args [] res []
/-- Nothing of the caller's: a new slice. -/
abbrev SCO (P : Program) (f : FuncId) (args : List AV) (e : TypeId) (es : Nat) (xs : List (List PV)) : Prop := SCX P f args [] (.own (.ext 0)) [(.ext 0, some (.own e es xs))]

def resA (P : Program) (st : AState) : List ResultVar → Option (List AV)
  | [] => some []
  | .tmp t :: l => match resA P st l with | some r => some (tget st.t t :: r) | none => none
  | .cell a T :: l => match tget st.t a with
    | .ptr m off => match sget st.s m, aggOf P T, szOf P T with
      | some (.box _ cells), some b, some n => match cutA b n off cells, resA P st l with
        | some av, some r => some (av :: r)
        | _, _ => none
      | _, _, _ => none
    | _ => none
def resV : List AV → AV
  | [a] => a
  | l => .tup l
theorem cutA_run {T T' n off : Nat} {b : Bool} {m : Name} {cells : List AV} {av : AV} {ρ : Rho} {w : World} (hg : aggOf P T = some b) (hs : szOf P T = some n) (hm : SlotOK ρ w m (.box T' cells)) (hr : cutA b n off cells = some av) :
    ∃ v, ARel ρ w av v ∧ (loadVar T ⟨ρ.blk m, off, none⟩).run P w = .ok v w := by
  obtain ⟨cs, h2, h3, _⟩ := hm
  have hcell : ∀ j, w.cell? ((⟨ρ.blk m, off, none⟩ : Addr).add j) = cs.toList[off + j]? := fun j => by
    rw [Addr.add_lit, cell_of_row w _ _ cs _ _ h2]; simp
  unfold cutA at hr
  cases b with
  | true =>
    simp only [if_true] at hr
    split at hr
    · rename_i ps hps
      split at hr
      · rename_i hl
        cases hr
        have hrel := allPV_rel hps ((h3.drop off).take n)
        refine ⟨.agg ((cs.toList.drop off).take n).toArray, ⟨_, rfl, by simpa using hrel⟩, ?_⟩
        exact run_loadVar_agg (P := P) hg hs ⟨ρ.blk m, off, none⟩ ((cs.toList.drop off).take n) (by rw [hrel.length, hl]) w (fun j u hu => by
          rw [hcell]
          rw [List.getElem?_take] at hu
          split at hu
          · rw [List.getElem?_drop] at hu; exact hu
          · cases hu)
      · cases hr
    · cases hr
  | false =>
    simp at hr
    obtain ⟨v, h5, h6⟩ := h3.get hr
    exact ⟨v, h6, run_loadVar_one (P := P) hg ⟨ρ.blk m, off, none⟩ v w (by have := hcell 0; simp only [Addr.add_zero', Nat.add_zero] at this; rw [this]; exact h5)⟩
def rdV (a : Act) : ResultVar → Sem Value
  | .tmp t => pure (a.tmps.getD t undef)
  | .cell b t => do loadVar t (← asAddr (a.tmps.getD b undef))
theorem run_asAddr (a : Addr) (w : World) : (asAddr (.pointer (some a))).run P w = .ok a w := rfl
theorem resA_run {Γ : Ctx} {st : AState} {ρ : Rho} {a : Act} {w : World} (h : Ok Γ st ρ a w) : ∀ {l : List ResultVar} {r : List AV}, resA P st l = some r →
    ∃ vs, (l.mapM (m := Sem) (rdV a)).run P w = .ok vs w ∧ ARels ρ w r vs
  | [], r, hr => by simp [resA] at hr; subst hr; exact ⟨[], by simp, rfl⟩
  | .tmp t :: l, r, hr => by
    simp only [resA] at hr
    split at hr
    · rename_i r' hr'
      cases hr
      obtain ⟨vs, h1, h2⟩ := resA_run h hr'
      refine ⟨a.tmps.getD t undef :: vs, ?_, _, _, rfl, h.tmps t, h2⟩
      simp only [List.mapM_cons, rdV, Sem.run_bind, Sem.run_pure, Result.andThen_ok, h1]
    · cases hr
  | .cell b T :: l, r, hr => by
    simp only [resA] at hr
    split at hr
    · rename_i m off hb
      split at hr
      · rename_i T' cells bb n hm hg hs
        split at hr
        · rename_i av r' hav hr'
          cases hr
          obtain ⟨vs, h1, h2⟩ := resA_run h hr'
          obtain ⟨v, h3, h4⟩ := cutA_run (P := P) hg hs (h.sok.slots m _ hm) hav
          have h5 := h.tmps b
          rw [hb] at h5
          have h5' : a.tmps.getD b undef = .pointer (some ⟨ρ.blk m, off, none⟩) := h5
          refine ⟨v :: vs, ?_, _, _, rfl, h3, h2⟩
          simp only [List.mapM_cons, rdV, Sem.run_bind, Sem.run_pure, Result.andThen_ok, h1, h5', run_asAddr, h4]
        · cases hr
      · cases hr
    · cases hr
theorem results_run {Γ : Ctx} {st : AState} {ρ : Rho} {a : Act} {w : World} (h : Ok Γ st ρ a w) {fn : Func} {r : List AV} (hr : resA P st fn.results.toList = some r) : ∃ v, (results fn a.tmps).run P w = .ok v w ∧ ARel ρ w (resV r) v := by
  obtain ⟨vs, h1, h2⟩ := resA_run h hr
  have hm : (fn.results.mapM (m := Sem) (rdV a)).run P w = .ok vs.toArray w := by
    rw [Array.mapM_eq_mapM_toList, Sem.run_map, h1]; rfl
  have hres : (results fn a.tmps).run P w = .ok (if h : vs.toArray.size = 1 then vs.toArray[0] else .tuple vs.toArray) w := by
    have e : results fn a.tmps = (do let vs ← fn.results.mapM (rdV a); pure (if h : vs.size = 1 then vs[0] else .tuple vs)) := by
      unfold results
      congr 1
    rw [e, Sem.run_bind, hm]; rfl
  refine ⟨_, hres, ?_⟩
  have hl := h2.length
  match r, vs, h2, hl with
  | [], [], h2, _ => exact ⟨#[], by simp, rfl⟩
  | [x], [v], h2, _ => obtain ⟨_, _, e, h3, _⟩ := h2; cases e; simpa [resV] using h3
  | x :: y :: r, v :: u :: vs, h2, _ => exact ⟨(v :: u :: vs).toArray, by simp, by simpa using h2⟩

def retQ (P : Program) (fn : Func) (res : AV) (Y : SMap) : Exit → AState → Prop
  | .normal, st | .ret, st => ∃ st' r, Sub st st' ∧ resA P st' fn.results.toList = some r ∧ resV r = res ∧ ∀ p ∈ Y, p.2 = sget st'.s p.1
  | _, _ => False
theorem ret_done {fn : Func} {res : AV} {Y : SMap} {st : AState} {r : List AV} {e : Exit} (he : e = .normal ∨ e = .ret) (h1 : resA P st fn.results.toList = some r) (h2 : resV r = res) (h3 : ∀ p ∈ Y, p.2 = sget st.s p.1) : retQ P fn res Y e st := by
  rcases he with rfl | rfl <;> exact ⟨st, r, Sub.refl st, h1, h2, h3⟩
theorem ret_sub {fn : Func} {res : AV} {Y : SMap} {st st' : AState} {e : Exit} (hs : Sub st st') (h : retQ P fn res Y e st') : retQ P fn res Y e st := by
  cases e <;> first | exact h.elim | (obtain ⟨s, r, h1, h2⟩ := h; exact ⟨s, r, hs.trans h1, h2⟩)

def enumT : Nat → List AV → List (Nat × AV)
  | _, [] => []
  | i, a :: l => (i, a) :: enumT (i + 1) l
theorem enumT_get : ∀ (l : List AV) (i t : Nat), tget (enumT i l) t = if i ≤ t ∧ t < i + l.length then l.getD (t - i) .dead else .dead
  | [], i, t => by simp [enumT, tget]
  | a :: l, i, t => by
    simp only [enumT, tget, enumT_get l (i + 1) t, List.length_cons]
    by_cases h : t = i
    · subst h; simp
    · rw [if_neg h]
      by_cases h2 : i + 1 ≤ t ∧ t < i + 1 + l.length
      · rw [if_pos h2, if_pos (by omega)]
        obtain ⟨k, rfl⟩ : ∃ k, t = i + 1 + k := ⟨t - (i + 1), by omega⟩
        have e1 : i + 1 + k - (i + 1) = k := by omega
        have e2 : i + 1 + k - i = k + 1 := by omega
        rw [e1, e2]; simp
      · rw [if_neg h2, if_neg (by omega)]

theorem scx_fn {f : FuncId} {fn : Func} {c : Code} {args : List AV} {X Y : SMap} {res : AV} (hf : P.funcs[f]? = some fn) (hb : fn.body = some c) (hn : args.length ≤ fn.ntmps)
    (h : AW P c (retQ P fn res Y) ⟨fn.ntmps, enumT 0 args, X⟩) : SCX P f args X res Y := by
  intro Γ ρ w vals hw hX hargs
  refine calls_of_wp hf hb ?_
  have hlen : vals.size = args.length := by rw [← Array.length_toList, hargs.length]
  have hok : Ok Γ ⟨fn.ntmps, enumT 0 args, X⟩ ρ { tmps := vals ++ Array.replicate (fn.ntmps - vals.size) undef, defers := [] } w := by
    refine ⟨rfl, by simp; omega, fun t => ?_, hX⟩
    rw [enumT_get]
    split
    · rename_i ht
      simp only [Nat.sub_zero, Nat.zero_add] at ht ⊢
      have h1 : args[t]? = some (args.getD t .dead) := by simp [List.getD, List.getElem?_eq_getElem ht.2]
      obtain ⟨v, h2, h3⟩ := hargs.get h1
      have : (vals ++ Array.replicate (fn.ntmps - vals.size) undef).getD t undef = v := by
        have h4 : vals[t]? = some v := by simpa using h2
        rw [Array.getD_eq_getD_getElem?, Array.getElem?_append, if_pos (show t < vals.size by omega), h4]; rfl
      rw [this]; exact h3
    · trivial
  refine wp_mono (h Γ ρ _ w hok) ?_
  rintro e a' w' ⟨st', ρ', h1, h2⟩
  have fin : ∀ st', (∃ st2 r, Sub st' st2 ∧ resA P st2 fn.results.toList = some r ∧ resV r = res ∧ ∀ p ∈ Y, p.2 = sget st2.s p.1) → Ok Γ st' ρ' a' w' →
      a'.defers = [] ∧ ∃ v, (results fn a'.tmps).run P w' = .ok v w' ∧ ∃ v' ρ'', Ending.returned v = .returned v' ∧ ARel ρ'' w' res v' ∧ SOk Γ Y ρ'' w' := by
    rintro st' ⟨st2, r, k1, k2, rfl, k4⟩ hok'
    obtain ⟨ρ2, hok2⟩ := k1 Γ ρ' a' w' hok'
    obtain ⟨v, k5, k6⟩ := results_run (P := P) hok2 k2
    refine ⟨hok2.defers, v, k5, v, ρ2, rfl, k6, hok2.sok.sub ⟨fun n s' hs => ?_⟩⟩
    rcases sget_mem (l := Y) (n := n) with hq | hq
    · rw [hq] at hs; cases hs
    · have := k4 _ hq
      simp only at this
      rw [hs] at this
      exact ⟨s', this.symm, fun _ _ k => k, fun _ => rfl⟩
  cases e with
  | normal => exact fin st' h1 h2
  | ret => exact fin st' h1 h2
  | _ => exact h1.elim

end Go.Eng
