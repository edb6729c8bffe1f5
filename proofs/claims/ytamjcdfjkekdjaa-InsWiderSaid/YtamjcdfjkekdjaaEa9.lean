import Derived.Test.YtamjcdfjkekdjaaEa8
set_option autoImplicit false
set_option linter.unusedVariables false
set_option linter.unusedSimpArgs false
namespace Go.Eng
open Go Go.RowKit
variable {P : Program}

/-! ## Regions -/
inductive Key where
  | tmp (t : Nat)
  | slot (n : Name)
  deriving DecidableEq
structure Eff where
  r : List Key
  u : Upd
  c : List Name
inductive Cont where
  | av (a : AV)
  | slot (s : Option Slot)
def AState.get (st : AState) : Key → Cont
  | .tmp t => .av (tget st.t t)
  | .slot n => .slot (sget st.s n)
def Upd.keys (U : Upd) : List Key := U.t.map (fun p => .tmp p.1) ++ U.s.map (fun p => .slot p.1)
def AState.killAll (st : AState) : List Name → AState
  | [] => st
  | n :: l => AState.killAll (st.kill n) l

def Local (P : Program) (o : Oper) (st : AState) (E : Eff) : Prop :=
  ∀ st2 : AState, st2.n = st.n → (∀ k ∈ E.r, st2.get k = st.get k) → OpOK P o st2 E.u E.c
/-- At its place in a region, its guard looked at. -/
def LocalAt (P : Program) (ops : Array Oper) (i : Nat) (st : AState) (E : Eff) : Prop :=
  ∀ st2 : AState, st2.n = st.n → (∀ k ∈ E.r, st2.get k = st.get k) →
    ∀ (Γ : Ctx) (ρ : Rho) (a : Act) (w : World) (K : Act → World → Prop) (Q : Exit → Act → World → Prop), Ok Γ st2 ρ a w → (∀ n ∈ E.c, st2.free n) →
      (∀ ρ' a' w', Ok Γ (st2.app E.u) ρ' a' w' → K a' w') → wpOp P ops Q i K a w

theorem LocalAt.plain {ops : Array Oper} {i : Nat} {o : Oper} {st : AState} {E : Eff} (ho : ops[i]? = some o) (hg : o.guard = none) (h : Local P o st E) : LocalAt P ops i st E := by
  intro st2 hn hr Γ ρ a w K Q hok hf hk
  unfold wpOp
  rw [ho]
  simp only [Region.wanted, hg, if_true]
  exact .inl (h st2 hn hr Γ ρ a w K Q hok hf hk)
theorem yielded_of {Γ : Ctx} {st : AState} {ρ : Rho} {a : Act} {w : World} (h : Ok Γ st ρ a w) {ops : Array Oper} {j d : Nat} {b : Bool} (hj : (ops[j]?).bind (·.dst) = some d) (hv : tget st.t d = .pv (.v (.bool b))) : yielded ops a.tmps j = some b := by
  have h1 := h.tmps d
  rw [hv] at h1
  have h2 := pv_inv h1
  unfold yielded
  rw [hj]
  simp only [Option.bind_some]
  cases hq : a.tmps[d]? with
  | none => simp [Array.getD_eq_getD_getElem?, hq, undef] at h2
  | some v =>
    simp [Array.getD_eq_getD_getElem?, hq] at h2
    subst h2; rfl

theorem LocalAt.guarded {ops : Array Oper} {i j d : Nat} {o : Oper} {b : Bool} {st : AState} {E : Eff} (ho : ops[i]? = some o) (hg : o.guard = some (j, b)) (hj : (ops[j]?).bind (·.dst) = some d) (hv : tget st.t d = .pv (.v (.bool b)))
    (h : Local P o st E) : LocalAt P ops i st { E with r := .tmp d :: E.r } := by
  intro st2 hn hr Γ ρ a w K Q hok hf hk
  have h1 : tget st2.t d = .pv (.v (.bool b)) := by
    have := hr (.tmp d) (by simp)
    simp only [AState.get, Cont.av.injEq] at this
    rw [this, hv]
  unfold wpOp
  rw [ho]
  simp only [Region.wanted, hg, yielded_of hok hj h1, beq_self_eq_true, if_true]
  exact .inl (h st2 hn (fun k hk => hr k (by simp [hk])) Γ ρ a w K Q hok hf hk)
theorem Ok.noDst {Γ : Ctx} {st : AState} {ρ : Rho} {a : Act} {w : World} (h : Ok Γ st ρ a w) (v : Value) : Ok Γ (st.app ⟨[], []⟩) ρ (a.put none v) w := h
theorem LocalAt.skipped {ops : Array Oper} {i j d : Nat} {o : Oper} {b : Bool} {st : AState} {g : AV} (ho : ops[i]? = some o) (hg : o.guard = some (j, b)) (hj : (ops[j]?).bind (·.dst) = some d) (hv : tget st.t d = g) (hgv : g = .pv (.v (.bool (!b))) ∨ g = .tup [])
    (hd : ∀ q, o.dst = some q → q < st.n) : LocalAt P ops i st ⟨[.tmp d], ⟨(match o.dst with | some q => [(q, .tup [])] | none => []), []⟩, []⟩ := by
  intro st2 hn hr Γ ρ a w K Q hok hf hk
  have h1 : tget st2.t d = g := by
    have := hr (.tmp d) (by simp)
    simp only [AState.get, Cont.av.injEq] at this
    rw [this, hv]
  have hne : ((yielded ops a.tmps j) == some b) = false := by
    rcases hgv with rfl | rfl
    · rw [yielded_of hok hj h1]; cases b <;> rfl
    · have h2 := hok.tmps d
      rw [h1] at h2
      obtain ⟨x, h3, h4⟩ := h2
      unfold yielded
      rw [hj]
      simp only [Option.bind_some]
      cases hq : a.tmps[d]? with
      | none => rfl
      | some v =>
        simp [Array.getD_eq_getD_getElem?, hq] at h3
        subst h3; rfl
  unfold wpOp
  rw [ho]
  simp only [Region.wanted, hg, hne]
  cases hq : o.dst with
  | none => simp only [hq] at hk; exact hk ρ _ w (by simpa using hok.noDst undef)
  | some q =>
    simp only [hq] at hk
    exact hk ρ _ w (hok.setT (by rw [hn]; exact hd q hq) ⟨#[], rfl, rfl⟩)

/-- One after the other, as they stand. -/
inductive Run (P : Program) (ops : Array Oper) : Nat → AState → List Eff → AState → Prop
  | nil {i : Nat} {st : AState} : ops.size = i → Run P ops i st [] st
  | cons {i : Nat} {st st' : AState} {E : Eff} {tr : List Eff} : i < ops.size → LocalAt P ops i (st.killAll E.c) E → Run P ops (i + 1) ((st.killAll E.c).app E.u) tr st' → Run P ops i st (E :: tr) st'

theorem Ok.killAll {Γ : Ctx} {ρ : Rho} {a : Act} {w : World} : ∀ (l : List Name) {st : AState}, Ok Γ st ρ a w → Ok Γ (st.killAll l) ρ a w
  | [], _, h => h
  | n :: l, _, h => Ok.killAll l (h.kill n)
theorem AV.kill_has_of {n m : Name} {a : AV} (h : a.has n = false) : (AV.kill m a).has n = false := by
  unfold AV.kill; split
  · rfl
  · exact h
theorem hasL_map_kill_of {n m : Name} : ∀ {l : List AV}, AV.hasL n l = false → AV.hasL n (l.map (AV.kill m)) = false
  | [], _ => rfl
  | a :: l, h => by
    simp only [AV.hasL, Bool.or_eq_false_iff] at h
    simp [AV.hasL, AV.kill_has_of h.1, hasL_map_kill_of h.2]
theorem AState.free_kill {st : AState} {n : Name} (h : st.free n) (m : Name) : (st.kill m).free n := by
  refine ⟨fun t => by simp only [AState.kill, tget_kill]; exact AV.kill_has_of (h.1 t), fun q s hq => ?_⟩
  simp only [AState.kill] at hq
  obtain ⟨s0, h1, rfl⟩ := sget_kill_some hq
  have := h.2 q s0 h1
  cases s0 with
  | box T cells => exact hasL_map_kill_of this
  | own e es xs => rfl
theorem AState.free_killAll : ∀ (l : List Name) {st : AState} {n : Name}, st.free n → (st.killAll l).free n
  | [], _, _, h => h
  | m :: l, _, _, h => AState.free_killAll l (AState.free_kill h m)
theorem AState.killAll_free : ∀ (l : List Name) (st : AState), ∀ n ∈ l, (st.killAll l).free n
  | [], _, _, h => by cases h
  | m :: l, st, n, h => by
    cases h with
    | head => exact AState.free_killAll l (st.kill_free m)
    | tail _ h => exact AState.killAll_free l _ n h
theorem AState.killAll_n : ∀ (l : List Name) (st : AState), (st.killAll l).n = st.n
  | [], _ => rfl
  | m :: l, st => AState.killAll_n l (st.kill m)

theorem Run.sound {ops : Array Oper} {i : Nat} {st st' : AState} {tr : List Eff} (h : Run P ops i st tr st') {Γ : Ctx} {Q : Exit → Act → World → Prop} (hQ : ∀ ρ' a' w', Ok Γ st' ρ' a' w' → Q .normal a' w') :
    ∀ (ρ : Rho) (a : Act) (w : World), Ok Γ st ρ a w → wpOps P ops Q (List.range' i (ops.size - i)) a w := by
  induction h with
  | @nil i st hi => intro ρ a w hok; rw [hi, Nat.sub_self]; exact hQ ρ a w hok
  | @cons i st st' E tr hi hl _ ih =>
    intro ρ a w hok
    have e : ops.size - i = (ops.size - (i + 1)) + 1 := by omega
    rw [e, List.range'_succ, wpOps_cons]
    exact hl _ rfl (fun _ _ => rfl) Γ ρ a w _ Q (hok.killAll _) (AState.killAll_free _ _) fun ρ' a' w' hok' => ih hQ ρ' a' w' hok'

/-! ### In whatever order -/
/-- Must it come up ahead? By the edges that bind. -/
def hasPath (ops : Array Oper) (i : Nat) : Nat → Nat → Bool
  | 0, _ => false
  | d + 1, j => match ops[j]? with
    | some o => o.after.toList.any (fun e => Region.binds .any e && e.on == i) || o.after.toList.any (fun e => Region.binds .any e && decide (i < e.on) && hasPath ops i d e.on)
    | none => false
inductive Path (ops : Array Oper) : Nat → Nat → Prop
  | one {i j : Nat} {o : Oper} {e : Edge} : ops[j]? = some o → e ∈ o.after.toList → Region.binds .any e = true → e.on = i → Path ops i j
  | step {i k j : Nat} {o : Oper} {e : Edge} : Path ops i k → ops[j]? = some o → e ∈ o.after.toList → Region.binds .any e = true → e.on = k → Path ops i j
theorem hasPath_path {ops : Array Oper} {i : Nat} : ∀ (d j : Nat), hasPath ops i d j = true → Path ops i j
  | 0, _, h => by simp [hasPath] at h
  | d + 1, j, h => by
    simp only [hasPath] at h
    split at h
    · rename_i o ho
      simp only [Bool.or_eq_true, List.any_eq_true, Bool.and_eq_true, beq_iff_eq, decide_eq_true_eq] at h
      rcases h with ⟨e, h1, h2, h3⟩ | ⟨e, h1, ⟨h2, _⟩, h3⟩
      · exact .one ho h1 h2 h3
      · exact .step (hasPath_path d _ h3) ho h1 h2 rfl
    · cases h

/-- What has come up holds what it must come behind. -/
def Closed (ops : Array Oper) (D : Nat → Bool) : Prop := ∀ j o e, ops[j]? = some o → D j = true → e ∈ o.after.toList → Region.binds .any e = true → D e.on = true
theorem Closed.path {ops : Array Oper} {D : Nat → Bool} (h : Closed ops D) {i j : Nat} (hp : Path ops i j) (hj : D j = true) : D i = true := by
  induction hp with
  | one h1 h2 h3 h4 => rw [← h4]; exact h _ _ _ h1 hj h2 h3
  | step _ h1 h2 h3 h4 ih => exact ih (by rw [← h4]; exact h _ _ _ h1 hj h2 h3)

def AState.appD (D : Nat → Bool) : Nat → List Eff → AState → AState
  | _, [], st => st
  | i, E :: tr, st => AState.appD D (i + 1) tr (if D i then st.app E.u else st)

theorem get_app_out {st : AState} {U : Upd} {k : Key} (h : k ∉ U.keys) : (st.app U).get k = st.get k := by
  cases k with
  | tmp t =>
    simp only [AState.get, AState.app, tget_append, Cont.av.injEq]
    rw [if_neg]
    intro hm; apply h
    simp only [Upd.keys, List.mem_append, List.mem_map]
    obtain ⟨p, hp, rfl⟩ := List.mem_map.1 hm
    exact .inl ⟨p, hp, rfl⟩
  | slot n =>
    simp only [AState.get, AState.app, sget_append, Cont.slot.injEq]
    rw [if_neg]
    intro hm; apply h
    simp only [Upd.keys, List.mem_append, List.mem_map]
    obtain ⟨p, hp, rfl⟩ := List.mem_map.1 hm
    exact .inr ⟨p, hp, rfl⟩
theorem get_app_in {st st2 : AState} {U : Upd} {k : Key} (h : k ∈ U.keys) : (st.app U).get k = (st2.app U).get k := by
  simp only [Upd.keys, List.mem_append, List.mem_map] at h
  rcases h with ⟨p, hp, rfl⟩ | ⟨p, hp, rfl⟩
  · simp only [AState.get, AState.app, tget_append]
    rw [if_pos (List.mem_map_of_mem hp), if_pos (List.mem_map_of_mem hp)]
  · simp only [AState.get, AState.app, sget_append]
    rw [if_pos (List.mem_map_of_mem hp), if_pos (List.mem_map_of_mem hp)]
theorem get_app_congr {st st2 : AState} {U : Upd} {k : Key} (h : st.get k = st2.get k) : (st.app U).get k = (st2.app U).get k := by
  by_cases hk : k ∈ U.keys
  · exact get_app_in hk
  · rw [get_app_out hk, get_app_out hk, h]

theorem appD_n (D : Nat → Bool) : ∀ (i : Nat) (tr : List Eff) (st : AState), (AState.appD D i tr st).n = st.n
  | _, [], _ => rfl
  | i, E :: tr, st => by
    simp only [AState.appD]
    rw [appD_n D (i + 1) tr]
    split <;> rfl
/-- L1: what is looked up at a key hangs on those alone that write it. -/
theorem appD_get {k : Key} {D D' : Nat → Bool} : ∀ (i : Nat) (tr : List Eff) (st st2 : AState), st.get k = st2.get k → (∀ j E, tr[j]? = some E → k ∈ E.u.keys → D (i + j) = D' (i + j)) → (AState.appD D i tr st).get k = (AState.appD D' i tr st2).get k
  | _, [], _, _, h, _ => h
  | i, E :: tr, st, st2, h, hd => by
    simp only [AState.appD]
    refine appD_get (i + 1) tr _ _ ?_ (fun j E' hj hk => by have := hd (j + 1) E' (by simpa using hj) hk; rwa [show i + 1 + j = i + (j + 1) by omega])
    by_cases hk : k ∈ E.u.keys
    · have := hd 0 E (by simp) hk
      simp only [Nat.add_zero] at this
      rw [this]
      split
      · exact get_app_in hk
      · exact h
    · split <;> split
      · exact get_app_congr h
      · rw [get_app_out hk]; exact h
      · rw [get_app_out hk]; exact h
      · exact h
/-- L3: the last one that wrote it. -/
theorem appD_last {k : Key} {D : Nat → Bool} : ∀ (i : Nat) (tr : List Eff) (st st2 : AState) (j : Nat) (E : Eff), tr[j]? = some E → D (i + j) = true → k ∈ E.u.keys → (∀ j' E', j < j' → tr[j']? = some E' → D (i + j') = true → k ∉ E'.u.keys) →
    (AState.appD D i tr st).get k = (st2.app E.u).get k
  | _, [], _, _, _, _, h, _, _, _ => by simp at h
  | i, E0 :: tr, st, st2, 0, E, h, hd, hk, hl => by
    simp only [List.getElem?_cons_zero, Option.some.injEq] at h
    subst h
    simp only [AState.appD, Nat.add_zero] at hd ⊢
    rw [hd]
    simp only [if_true]
    have hnone : ∀ j' E', tr[j']? = some E' → D (i + 1 + j') = true → k ∉ E'.u.keys := fun j' E' h1 h2 => hl (j' + 1) E' (by omega) (by simpa using h1) (by rwa [show i + (j' + 1) = i + 1 + j' by omega])
    have : (AState.appD D (i + 1) tr (st.app E0.u)).get k = (AState.appD (fun _ => false) (i + 1) tr (st.app E0.u)).get k := appD_get _ _ _ _ rfl fun j E' h1 h2 => by
      cases hq : D (i + 1 + j) with
      | false => rfl
      | true => exact absurd h2 (hnone j E' h1 hq)
    rw [this]
    have hid : ∀ (i : Nat) (tr : List Eff) (s : AState), AState.appD (fun _ => false) i tr s = s := by
      intro i tr
      induction tr generalizing i with
      | nil => intro s; rfl
      | cons E tr ih => intro s; simp [AState.appD, ih]
    rw [hid]
    exact get_app_in hk
  | i, E0 :: tr, st, st2, j + 1, E, h, hd, hk, hl => by
    simp only [AState.appD]
    refine appD_last (i + 1) tr _ st2 j E (by simpa using h) (by rwa [show i + 1 + j = i + (j + 1) by omega]) hk fun j' E' h1 h2 h3 => hl (j' + 1) E' (by omega) (by simpa using h2) (by rwa [show i + (j' + 1) = i + 1 + j' by omega])

/-- Nothing that is looked up speaks of a name. -/
def Cont.free (n : Name) : Cont → Prop
  | .av a => a.has n = false
  | .slot s => ∀ t, s = some t → t.has n = false
theorem free_iff {st : AState} {n : Name} : st.free n ↔ ∀ k, (st.get k).free n := by
  constructor
  · intro h k
    cases k with
    | tmp t => exact h.1 t
    | slot m => exact fun s hs => h.2 m s hs
  · exact fun h => ⟨fun t => h (.tmp t), fun m s hs => h (.slot m) s hs⟩
def Upd.has (n : Name) (U : Upd) : Bool := U.t.any (fun p => p.2.has n) || U.s.any (fun p => match p.2 with | some s => s.has n | none => false)
def AState.hasB (st : AState) (n : Name) : Bool := st.t.any (fun p => p.2.has n) || st.s.any (fun p => match p.2 with | some s => s.has n | none => false)
theorem tget_any {n : Name} : ∀ {l : List (Nat × AV)} (t : Nat), l.any (fun p => p.2.has n) = false → (tget l t).has n = false
  | [], _, _ => rfl
  | (k, v) :: l, t, h => by
    simp only [List.any_cons, Bool.or_eq_false_iff] at h
    simp only [tget]; split
    · exact h.1
    · exact tget_any t h.2
theorem sget_any {n : Name} : ∀ {l : SMap} (m : Name), l.any (fun p => match p.2 with | some s => s.has n | none => false) = false → ∀ t, sget l m = some t → t.has n = false
  | [], _, _, t, ht => by simp [sget] at ht
  | (k, v) :: l, m, h, t, ht => by
    simp only [List.any_cons, Bool.or_eq_false_iff] at h
    simp only [sget] at ht; split at ht
    · subst ht; exact h.1
    · exact sget_any m h.2 t ht
theorem hasB_free {st : AState} {n : Name} (h : st.hasB n = false) : st.free n := by
  simp only [AState.hasB, Bool.or_eq_false_iff] at h
  exact ⟨fun t => tget_any t h.1, fun m s hs => sget_any m h.2 s hs⟩
theorem app_free {st : AState} {U : Upd} {n : Name} (h : st.free n) (hu : U.has n = false) : (st.app U).free n := by
  simp only [Upd.has, Bool.or_eq_false_iff] at hu
  refine ⟨fun t => ?_, fun m s hs => ?_⟩
  · simp only [AState.app, tget_append]
    split
    · exact tget_any t hu.1
    · exact h.1 t
  · simp only [AState.app, sget_append] at hs
    split at hs
    · exact sget_any m hu.2 s hs
    · exact h.2 m s hs
theorem appD_free {n : Name} {D : Nat → Bool} : ∀ (i : Nat) (tr : List Eff) (st : AState), st.free n → (∀ j E, tr[j]? = some E → D (i + j) = true → E.u.has n = false) → (AState.appD D i tr st).free n
  | _, [], _, h, _ => h
  | i, E :: tr, st, h, hd => by
    simp only [AState.appD]
    refine appD_free (i + 1) tr _ ?_ fun j E' h1 h2 => hd (j + 1) E' (by simpa using h1) (by rwa [show i + (j + 1) = i + 1 + j by omega])
    split
    · exact app_free h (hd 0 E (by simp) (by simpa using ‹_›))
    · exact h

def disjK (a b : List Key) : Bool := a.all fun k => !b.contains k
/-- Of two that may come up in either order neither touches what the other one writes; what one makes, none speaks of but those behind it. -/
def checkTr (ops : Array Oper) (st0 : AState) (tr : List Eff) : Bool :=
  tr.length == ops.size && (ops.toList.zipIdx.all fun (o, i) => o.after.toList.all fun e => !Region.binds .any e || decide (e.on < i)) &&
  (tr.zipIdx.all fun (E, i) => E.c.all (fun n => !st0.hasB n) &&
    (tr.zipIdx.all fun (F, j) =>
      (E.c.isEmpty || (i == j || (decide (i < j) && hasPath ops i 3 j) || E.c.all fun n => !F.u.has n)) &&
      (decide (j ≤ i) || (disjK E.u.keys F.r && disjK E.u.keys F.u.keys && disjK E.r F.u.keys) || hasPath ops i 3 j)))

end Go.Eng
