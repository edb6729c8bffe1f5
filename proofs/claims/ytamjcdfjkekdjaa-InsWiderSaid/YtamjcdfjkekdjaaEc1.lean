import Derived.Test.YtamjcdfjkekdjaaEc0
set_option autoImplicit false
set_option linter.unusedVariables false
set_option linter.unusedSimpArgs false
namespace Go.Eng
open Go Go.RowKit Go.ChangeShapes
variable {P : Program}

/-! ## Arguments, and the row's form -/
def ShapeA (P : Program) (m : Nat) (t : TypeId) (a : AV) : Prop :=
  (aggOf P t = some true ∧ ∃ ps, a = .agg ps ∧ Shape P m t ps) ∨ (aggOf P t = some false ∧ ∃ p, a = .pv p ∧ Shape P m t [p])
def ShapeAll (P : Program) (m : Nat) : List TypeId → List AV → Prop
  | [], as => as = []
  | t :: ts, as => ∃ a r, as = a :: r ∧ ShapeA P m t a ∧ ShapeAll P m ts r
/-- All that is of old is as it is. -/
def rho0 (w : World) : Rho := ⟨fun _ => 0, fun _ => .nilFunc, fun b => b < w.heap.size⟩
section
variable {H : Type} {enc : TypeId × Value → H} {w : World} {base : Nat} {spare : Nat → Bool} {held : Bool}
theorem arg_rel {m : Nat} {t : TypeId} {v : Value} {d : DataW H} {p : List MemPlace} {r : Reach} {b0 : Nat} (hf : flatT P m t = true) (hval : Value.okWide P w r b0 t v) (h : DataW.Trod enc P w base spare held t v d p) :
    ∃ a, ARel (rho0 w) w a v ∧ ShapeA P m t a := by
  obtain ⟨fuel, h⟩ := h
  obtain ⟨ps, h1, h2⟩ := trod_shape m t hf fuel _ _ h
  cases m with
  | zero => simp [flatT] at hf
  | succ m =>
    unfold flatT at hf
    cases hu : P.underlying t with
    | none => rw [hu] at hf; simp at hf
    | some D =>
      rw [hu] at hf
      have sc : aggOf P t = some false → v.cells.toList = [v] → ∃ a, ARel (rho0 w) w a v ∧ ShapeA P (m + 1) t a := by
        intro hg hc
        rw [hc] at h1
        have hl := h1.length
        match ps, hl with
        | [q], _ =>
          obtain ⟨_, _, e, h3, _⟩ := h1
          cases e
          exact ⟨.pv q, h3, .inr ⟨hg, q, rfl, h2⟩⟩
      have ag : aggOf P t = some true → (∃ cs, v = .agg cs) → ∃ a, ARel (rho0 w) w a v ∧ ShapeA P (m + 1) t a := by
        rintro hg ⟨cs, rfl⟩
        exact ⟨.agg ps, ⟨cs, rfl, h1⟩, .inl ⟨hg, ps, rfl, h2⟩⟩
      cases D with
      | bool => exact sc (by simp [aggOf, hu]) (by cases v <;> simp_all [Value.okWide, Cell.okWide, Cell.ok, Value.cells])
      | int k => exact sc (by simp [aggOf, hu]) (by cases v <;> simp_all [Value.okWide, Cell.okWide, Cell.ok, Value.cells])
      | string => exact sc (by simp [aggOf, hu]) (by cases v <;> simp_all [Value.okWide, Cell.okWide, Cell.ok, Value.cells])
      | slice e => exact sc (by simp [aggOf, hu]) (by cases v <;> simp_all [Value.okWide, Cell.okWide, Cell.ok, Value.cells])
      | struct fs =>
        simp only [Value.okWide, hu] at hval
        obtain ⟨cs, rfl, _⟩ := hval
        exact ag (by simp [aggOf, hu]) ⟨cs, rfl⟩
      | array n e =>
        simp only [Value.okWide, hu] at hval
        obtain ⟨cs, rfl, _⟩ := hval
        exact ag (by simp [aggOf, hu]) ⟨cs, rfl⟩
      | _ => simp at hf
theorem args_rel {m : Nat} {r : Reach} {b0 : Nat} : ∀ {ts : List TypeId} {vs : List Value} {ds : List (DataW H)} {p : List MemPlace}, (∀ t ∈ ts, flatT P m t = true) → (∀ (j : Nat) t v, ts[j]? = some t → vs[j]? = some v → Value.okWide P w r b0 t v) →
    DataW.TrodAll enc P w base spare held ts vs ds p → ∃ as, ARels (rho0 w) w as vs ∧ ShapeAll P m ts as
  | [], vs, ds, p, _, _, h => by
    obtain ⟨rfl, rfl, rfl⟩ := trodAll_nil h
    exact ⟨[], rfl, rfl⟩
  | t :: ts, vs, ds, p, hf, hv, h => by
    obtain ⟨v, vs', d, ds', p0, q0, rfl, rfl, rfl, h0, h1⟩ := trodAll_cons h
    obtain ⟨a, h2, h3⟩ := arg_rel (m := m) (hf t (by simp)) (hv 0 t v rfl rfl) h0
    obtain ⟨as, h4, h5⟩ := args_rel (fun t ht => hf t (by simp [ht])) (fun j t v h1 h2 => hv (j + 1) t v (by simpa using h1) (by simpa using h2)) h1
    exact ⟨a :: as, ⟨v, vs', rfl, h2, h4⟩, a, as, rfl, h3, h5⟩
theorem trodAll_below (hl : laidOutB P = true) {W W' : World} (hb : Below W.heap.size W W') : ∀ {ts : List TypeId} {vs : List Value} {ds : List (DataW H)} {p : List MemPlace}, (∀ t ∈ ts, P.readableRec t = true ∧ t < P.types.size) →
    DataW.TrodAll enc P W 0 (fun _ => true) true ts vs ds p → DataW.TrodAll enc P W' 0 (fun b => decide (b < W.heap.size)) true ts vs ds p
  | [], vs, ds, p, _, h => by
    obtain ⟨rfl, rfl, rfl⟩ := trodAll_nil h
    exact rfl
  | t :: ts, vs, ds, p, hr, h => by
    obtain ⟨v, vs', d, ds', p0, q0, rfl, rfl, rfl, h0, h1⟩ := trodAll_cons h
    have ht := hr t (by simp)
    refine ⟨p0, q0, ?_, trodAll_below hl hb (fun t ht => hr t (by simp [ht])) h1, rfl⟩
    refine Below.trod hl ht.1 ht.2 h0 hb ?_
    obtain ⟨fuel, h0⟩ := h0
    exact DataW.trod_lt fuel t _ _ h0
theorem trodAll_len : ∀ {ts : List TypeId} {vs : List Value} {ds : List (DataW H)} {p : List MemPlace}, DataW.TrodAll enc P w base spare held ts vs ds p → ds.length = ts.length
  | [], vs, ds, p, h => by obtain ⟨rfl, rfl, rfl⟩ := trodAll_nil h; rfl
  | t :: ts, vs, ds, p, h => by
    obtain ⟨v, vs', d, ds', p0, q0, rfl, rfl, rfl, h0, h1⟩ := trodAll_cons h
    simp [trodAll_len h1]

/-- A call that comes back with what is of no variable: nothing of old has turned. -/
theorem law_calls {f : FuncId} {as : List AV} {b : Bool} {args : Array Value} (h : SC P f as (B b)) (hr : ARels (rho0 w) w as args.toList) :
    Calls P f args w fun e w' => e = .returned (.bool b) ∧ Below w.heap.size w w' := by
  refine (h ⟨w, fun b => b < w.heap.size, fun _ => False, fun _ => 0⟩ (rho0 w) w args rfl ?_ hr).mono ?_
  · refine { slots := ?_, disj := ?_, sep := ?_, flt := fun b h => h, os := rfl, tape := rfl, output := rfl, size := Nat.le_refl _, below := fun _ _ _ => rfl, fmono := fun b h => h, fnew := fun b h => .inl h, home := ?_, xblk := fun _ => rfl }
    · intro n s h; cases h
    · intro n m s s' b h; cases h
    · intro n s b h; cases h
    · intro n s b h; cases h
  · rintro e w' ⟨v, ρ', rfl, h1, h2⟩
    have := pv_inv h1
    subst this
    exact ⟨rfl, h2.os, h2.tape, h2.output, h2.size, fun k hk => h2.below k hk (fun h => h)⟩

/-- The law's row, lifted. -/
theorem law_lifted {H : Type} {enc : TypeId × Value → H} {C : Checked} {os : Os} {f : FuncId} {fn : Func} {s : ChangeSpec} {conds : List PathCond} {apart fresh handsOn : Bool} {tb : TypeId} (m : Nat)
    (own : ownKnob C.prog.godebug = none) (started : os.Started) (noInit : C.prog.inits.idxOf? f = none) (hfn : C.prog.funcs[f]? = some fn)
    (witness : ∃ (w : World) (tape : Tape) (i : Input), w.os = os ∧ (w.forCall tape i).Shaped C.prog ∧ i.vars = [] ∧ Input.okWide C.prog (w.forCall tape i) .any w.heap.size f i ∧
      s.pre6 enc C.prog fn conds apart (w.forCall tape i).memory i.args ∧ ({} : Assume).holds C.prog (lone (Frame.enter C.prog f i.args .normal) [] (w.forCall tape i)))
    (laid : laidOutB C.prog = true) (hp : fn.params.toList.all (fun t => flatT C.prog m t && C.prog.readableRec t && decide (t < C.prog.types.size)) = true) (hvars : s.vars = []) (hres : fn.resultTypes = #[tb]) (hb : C.prog.underlying tb = some .bool)
    (hs : ∀ ds : List (DataW H), ds.length = fn.params.size → s.fn H ds = { results := [.lit (.bool true)], args := ds })
    (law : ∀ as, ShapeAll C.prog m fn.params.toList as → SC C.prog f as (B true)) :
    ReturnsInHanded {} C os f .any (s.pre6 enc C.prog fn conds apart) (s.post enc C.prog fn apart fresh handsOn false) := by
  have hp' : ∀ t ∈ fn.params.toList, flatT C.prog m t = true ∧ C.prog.readableRec t = true ∧ t < C.prog.types.size := by
    intro t ht
    have := List.all_eq_true.1 hp t ht
    simp only [Bool.and_eq_true, decide_eq_true_eq] at this
    exact ⟨this.1.1, this.1.2, this.2⟩
  refine returnsInHanded_of_change_sized own started noInit hfn witness ?_
  intro W base args ds gs before hval hW hc hsz _
  have hW0 := hW
  obtain ⟨p, q, hA, hV, rfl, hfz, hnd⟩ := hW
  obtain ⟨as, h1, h2⟩ := args_rel (m := m) (fun t ht => (hp' t ht).1) (fun j t v hj hv => hval j t v (by simpa using hj) (by simpa using hv)) hA
  refine (law_calls (law as h2) h1).mono ?_
  rintro e W' ⟨rfl, bel⟩
  rw [hvars] at hV
  have hg : gs = [] ∧ q = [] := by
    cases gs with
    | nil => exact ⟨rfl, hV⟩
    | cons => exact hV.elim
  obtain ⟨rfl, rfl⟩ := hg
  have hsf := hs ds (by rw [trodAll_len hA]; simp)
  refine ⟨_, rfl, ds, [], _, [], p, [], hW0, ?_, ?_, ?_, bel.frame _, fun h => by cases h⟩
  · rw [List.append_nil, hsf, hres]
    exact trodAll_mk1 (shut_bool hb _)
  · rw [List.append_nil, hsf]
    exact trodAll_below laid bel (fun t ht => ⟨(hp' t ht).2.1, (hp' t ht).2.2⟩) hA
  · rw [List.append_nil, hsf, hvars]
    exact rfl
end
end Go.Eng
