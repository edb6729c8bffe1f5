import Derived.Test.YtjijfghchcnbnaaDoorEngA
set_option autoImplicit false
set_option linter.unusedVariables false
set_option linter.unusedSimpArgs false
namespace Go.Eng
open Go Go.RowKit
variable {P : Program}

/-! ## Regions -/
inductive Key where
  | tmp (t : Nat)
  | slot (n : Name)
  deriving DecidableEq
structure Eff where
  r : List Key
  u : Upd
  c : List Name
inductive Cont where
  | av (a : AV)
  | slot (s : Option Slot)
def AState.get (st : AState) : Key → Cont
  | .tmp t => .av (tget st.t t)
  | .slot n => .slot (sget st.s n)
def Upd.keys (U : Upd) : List Key := U.t.map (fun p => .tmp p.1) ++ U.s.map (fun p => .slot p.1)
def AState.killAll (st : AState) : List Name → AState
  | [] => st
  | n :: l => AState.killAll (st.kill n) l

def Local [Trk] (P : Program) (o : Oper) (st : AState) (E : Eff) : Prop :=
  ∀ st2 : AState, st2.n = st.n → (∀ k ∈ E.r, st2.get k = st.get k) → OpOK P o st2 E.u E.c
/-- At its place in a region, its guard looked at. -/
def LocalAt [Trk] (P : Program) (ops : Array Oper) (i : Nat) (st : AState) (E : Eff) : Prop :=
  ∀ st2 : AState, st2.n = st.n → (∀ k ∈ E.r, st2.get k = st.get k) →
    ∀ (Γ : Ctx) (ρ : Rho) (a : Act) (w : World) (K : Act → World → Prop) (Q : Exit → Act → World → Prop), Ok Γ st2 ρ a w → (∀ n ∈ E.c, st2.free n) →
      (∀ ρ' a' w', Ok Γ (st2.app E.u) ρ' a' w' → K a' w') → wpOp P ops Q i K a w

theorem LocalAt.plain [Trk] {ops : Array Oper} {i : Nat} {o : Oper} {st : AState} {E : Eff} (ho : ops[i]? = some o) (hg : o.guard = none) (h : Local P o st E) : LocalAt P ops i st E := by
  intro st2 hn hr Γ ρ a w K Q hok hf hk
  unfold wpOp
  rw [ho]
  simp only [Region.wanted, hg, if_true]
  exact .inl (h st2 hn hr Γ ρ a w K Q hok hf hk)
theorem yielded_of [Trk] {Γ : Ctx} {st : AState} {ρ : Rho} {a : Act} {w : World} (h : Ok Γ st ρ a w) {ops : Array Oper} {j d : Nat} {b : Bool} (hj : (ops[j]?).bind (·.dst) = some d) (hv : tget st.t d = .pv (.v (.bool b))) : yielded ops a.tmps j = some b := by
  have h1 := h.tmps d
  rw [hv] at h1
  have h2 := pv_inv h1
  unfold yielded
  rw [hj]
  simp only [Option.bind_some]
  cases hq : a.tmps[d]? with
  | none => simp [Array.getD_eq_getD_getElem?, hq, undef] at h2
  | some v =>
    simp [Array.getD_eq_getD_getElem?, hq] at h2
    subst h2; rfl

theorem LocalAt.guarded [Trk] {ops : Array Oper} {i j d : Nat} {o : Oper} {b : Bool} {st : AState} {E : Eff} (ho : ops[i]? = some o) (hg : o.guard = some (j, b)) (hj : (ops[j]?).bind (·.dst) = some d) (hv : tget st.t d = .pv (.v (.bool b)))
    (h : Local P o st E) : LocalAt P ops i st { E with r := .tmp d :: E.r } := by
  intro st2 hn hr Γ ρ a w K Q hok hf hk
  have h1 : tget st2.t d = .pv (.v (.bool b)) := by
    have := hr (.tmp d) (by simp)
    simp only [AState.get, Cont.av.injEq] at this
    rw [this, hv]
  unfold wpOp
  rw [ho]
  simp only [Region.wanted, hg, yielded_of hok hj h1, beq_self_eq_true, if_true]
  exact .inl (h st2 hn (fun k hk => hr k (by simp [hk])) Γ ρ a w K Q hok hf hk)
theorem Ok.noDst [Trk] {Γ : Ctx} {st : AState} {ρ : Rho} {a : Act} {w : World} (h : Ok Γ st ρ a w) (v : Value) : Ok Γ (st.app ⟨[], []⟩) ρ (a.put none v) w := h
theorem LocalAt.skipped [Trk] {ops : Array Oper} {i j d : Nat} {o : Oper} {b : Bool} {st : AState} {g : AV} (ho : ops[i]? = some o) (hg : o.guard = some (j, b)) (hj : (ops[j]?).bind (·.dst) = some d) (hv : tget st.t d = g) (hgv : g = .pv (.v (.bool (!b))) ∨ g = .tup [])
    (hd : ∀ q, o.dst = some q → q < st.n) : LocalAt P ops i st ⟨[.tmp d], ⟨(match o.dst with | some q => [(q, .tup [])] | none => []), []⟩, []⟩ := by
  intro st2 hn hr Γ ρ a w K Q hok hf hk
  have h1 : tget st2.t d = g := by
    have := hr (.tmp d) (by simp)
    simp only [AState.get, Cont.av.injEq] at this
    rw [this, hv]
  have hne : ((yielded ops a.tmps j) == some b) = false := by
    rcases hgv with rfl | rfl
    · rw [yielded_of hok hj h1]; cases b <;> rfl
    · have h2 := hok.tmps d
      rw [h1] at h2
      obtain ⟨x, h3, h4⟩ := h2
      unfold yielded
      rw [hj]
      simp only [Option.bind_some]
      cases hq : a.tmps[d]? with
      | none => rfl
      | some v =>
        simp [Array.getD_eq_getD_getElem?, hq] at h3
        subst h3; rfl
  unfold wpOp
  rw [ho]
  simp only [Region.wanted, hg, hne]
  cases hq : o.dst with
  | none => simp only [hq] at hk; exact hk ρ _ w (by simpa using hok.noDst undef)
  | some q =>
    simp only [hq] at hk
    exact hk ρ _ w (hok.setT (by rw [hn]; exact hd q hq) ⟨#[], rfl, rfl⟩)

/-- One after the other, as they stand. -/
inductive Run [Trk] (P : Program) (ops : Array Oper) : Nat → AState → List Eff → AState → Prop
  | nil {i : Nat} {st : AState} : ops.size = i → Run P ops i st [] st
  | cons {i : Nat} {st st' : AState} {E : Eff} {tr : List Eff} : i < ops.size → LocalAt P ops i (st.killAll E.c) E → Run P ops (i + 1) ((st.killAll E.c).app E.u) tr st' → Run P ops i st (E :: tr) st'

theorem Ok.killAll [Trk] {Γ : Ctx} {ρ : Rho} {a : Act} {w : World} : ∀ (l : List Name) {st : AState}, Ok Γ st ρ a w → Ok Γ (st.killAll l) ρ a w
  | [], _, h => h
  | n :: l, _, h => Ok.killAll l (h.kill n)
theorem AV.kill_has_of [Trk] {n m : Name} {a : AV} (h : a.has n = false) : (AV.kill m a).has n = false := by
  unfold AV.kill; split
  · rfl
  · exact h
theorem hasL_map_kill_of [Trk] {n m : Name} : ∀ {l : List AV}, AV.hasL n l = false → AV.hasL n (l.map (AV.kill m)) = false
  | [], _ => rfl
  | a :: l, h => by
    simp only [AV.hasL, Bool.or_eq_false_iff] at h
    simp [AV.hasL, AV.kill_has_of h.1, hasL_map_kill_of h.2]
theorem AState.free_kill [Trk] {st : AState} {n : Name} (h : st.free n) (m : Name) : (st.kill m).free n := by
  refine ⟨fun t => by simp only [AState.kill, tget_kill]; exact AV.kill_has_of (h.1 t), fun q s hq => ?_⟩
  simp only [AState.kill] at hq
  obtain ⟨s0, h1, rfl⟩ := sget_kill_some hq
  have := h.2 q s0 h1
  cases s0 with
  | box T cells => exact hasL_map_kill_of this
  | own e es xs => rfl
theorem AState.free_killAll [Trk] : ∀ (l : List Name) {st : AState} {n : Name}, st.free n → (st.killAll l).free n
  | [], _, _, h => h
  | m :: l, _, _, h => AState.free_killAll l (AState.free_kill h m)
theorem AState.killAll_free [Trk] : ∀ (l : List Name) (st : AState), ∀ n ∈ l, (st.killAll l).free n
  | [], _, _, h => by cases h
  | m :: l, st, n, h => by
    cases h with
    | head => exact AState.free_killAll l (st.kill_free m)
    | tail _ h => exact AState.killAll_free l _ n h
theorem AState.killAll_n [Trk] : ∀ (l : List Name) (st : AState), (st.killAll l).n = st.n
  | [], _ => rfl
  | m :: l, st => AState.killAll_n l (st.kill m)

theorem Run.sound [Trk] {ops : Array Oper} {i : Nat} {st st' : AState} {tr : List Eff} (h : Run P ops i st tr st') {Γ : Ctx} {Q : Exit → Act → World → Prop} (hQ : ∀ ρ' a' w', Ok Γ st' ρ' a' w' → Q .normal a' w') :
    ∀ (ρ : Rho) (a : Act) (w : World), Ok Γ st ρ a w → wpOps P ops Q (List.range' i (ops.size - i)) a w := by
  induction h with
  | @nil i st hi => intro ρ a w hok; rw [hi, Nat.sub_self]; exact hQ ρ a w hok
  | @cons i st st' E tr hi hl _ ih =>
    intro ρ a w hok
    have e : ops.size - i = (ops.size - (i + 1)) + 1 := by omega
    rw [e, List.range'_succ, wpOps_cons]
    exact hl _ rfl (fun _ _ => rfl) Γ ρ a w _ Q (hok.killAll _) (AState.killAll_free _ _) fun ρ' a' w' hok' => ih hQ ρ' a' w' hok'

/-! ### In whatever order -/
/-- Must it come up ahead? By the edges that bind. -/
def hasPath (ops : Array Oper) (i : Nat) : Nat → Nat → Bool
  | 0, _ => false
  | d + 1, j => match ops[j]? with
    | some o => o.after.toList.any (fun e => Region.binds .any e && e.on == i) || o.after.toList.any (fun e => Region.binds .any e && decide (i < e.on) && hasPath ops i d e.on)
    | none => false
inductive Path (ops : Array Oper) : Nat → Nat → Prop
  | one {i j : Nat} {o : Oper} {e : Edge} : ops[j]? = some o → e ∈ o.after.toList → Region.binds .any e = true → e.on = i → Path ops i j
  | step {i k j : Nat} {o : Oper} {e : Edge} : Path ops i k → ops[j]? = some o → e ∈ o.after.toList → Region.binds .any e = true → e.on = k → Path ops i j
theorem hasPath_path [Trk] {ops : Array Oper} {i : Nat} : ∀ (d j : Nat), hasPath ops i d j = true → Path ops i j
  | 0, _, h => by simp [hasPath] at h
  | d + 1, j, h => by
    simp only [hasPath] at h
    split at h
    · rename_i o ho
      simp only [Bool.or_eq_true, List.any_eq_true, Bool.and_eq_true, beq_iff_eq, decide_eq_true_eq] at h
      rcases h with ⟨e, h1, h2, h3⟩ | ⟨e, h1, ⟨h2, _⟩, h3⟩
      · exact .one ho h1 h2 h3
      · exact .step (hasPath_path d _ h3) ho h1 h2 rfl
    · cases h

/-- What has come up holds what it must come behind. -/
def Closed (ops : Array Oper) (D : Nat → Bool) : Prop := ∀ j o e, ops[j]? = some o → D j = true → e ∈ o.after.toList → Region.binds .any e = true → D e.on = true
theorem Closed.path [Trk] {ops : Array Oper} {D : Nat → Bool} (h : Closed ops D) {i j : Nat} (hp : Path ops i j) (hj : D j = true) : D i = true := by
  induction hp with
  | one h1 h2 h3 h4 => rw [← h4]; exact h _ _ _ h1 hj h2 h3
  | step _ h1 h2 h3 h4 ih => exact ih (by rw [← h4]; exact h _ _ _ h1 hj h2 h3)

def AState.appD (D : Nat → Bool) : Nat → List Eff → AState → AState
  | _, [], st => st
  | i, E :: tr, st => AState.appD D (i + 1) tr (if D i then st.app E.u else st)

theorem get_app_out [Trk] {st : AState} {U : Upd} {k : Key} (h : k ∉ U.keys) : (st.app U).get k = st.get k := by
  cases k with
  | tmp t =>
    simp only [AState.get, AState.app, tget_append, Cont.av.injEq]
    rw [if_neg]
    intro hm; apply h
    simp only [Upd.keys, List.mem_append, List.mem_map]
    obtain ⟨p, hp, rfl⟩ := List.mem_map.1 hm
    exact .inl ⟨p, hp, rfl⟩
  | slot n =>
    simp only [AState.get, AState.app, sget_append, Cont.slot.injEq]
    rw [if_neg]
    intro hm; apply h
    simp only [Upd.keys, List.mem_append, List.mem_map]
    obtain ⟨p, hp, rfl⟩ := List.mem_map.1 hm
    exact .inr ⟨p, hp, rfl⟩
theorem get_app_in [Trk] {st st2 : AState} {U : Upd} {k : Key} (h : k ∈ U.keys) : (st.app U).get k = (st2.app U).get k := by
  simp only [Upd.keys, List.mem_append, List.mem_map] at h
  rcases h with ⟨p, hp, rfl⟩ | ⟨p, hp, rfl⟩
  · simp only [AState.get, AState.app, tget_append]
    rw [if_pos (List.mem_map_of_mem hp), if_pos (List.mem_map_of_mem hp)]
  · simp only [AState.get, AState.app, sget_append]
    rw [if_pos (List.mem_map_of_mem hp), if_pos (List.mem_map_of_mem hp)]
theorem get_app_congr [Trk] {st st2 : AState} {U : Upd} {k : Key} (h : st.get k = st2.get k) : (st.app U).get k = (st2.app U).get k := by
  by_cases hk : k ∈ U.keys
  · exact get_app_in hk
  · rw [get_app_out hk, get_app_out hk, h]

theorem appD_n [Trk] (D : Nat → Bool) : ∀ (i : Nat) (tr : List Eff) (st : AState), (AState.appD D i tr st).n = st.n
  | _, [], _ => rfl
  | i, E :: tr, st => by
    simp only [AState.appD]
    rw [appD_n D (i + 1) tr]
    split <;> rfl
/-- L1: what is looked up at a key hangs on those alone that write it. -/
theorem appD_get [Trk] {k : Key} {D D' : Nat → Bool} : ∀ (i : Nat) (tr : List Eff) (st st2 : AState), st.get k = st2.get k → (∀ j E, tr[j]? = some E → k ∈ E.u.keys → D (i + j) = D' (i + j)) → (AState.appD D i tr st).get k = (AState.appD D' i tr st2).get k
  | _, [], _, _, h, _ => h
  | i, E :: tr, st, st2, h, hd => by
    simp only [AState.appD]
    refine appD_get (i + 1) tr _ _ ?_ (fun j E' hj hk => by have := hd (j + 1) E' (by simpa using hj) hk; rwa [show i + 1 + j = i + (j + 1) by omega])
    by_cases hk : k ∈ E.u.keys
    · have := hd 0 E (by simp) hk
      simp only [Nat.add_zero] at this
      rw [this]
      split
      · exact get_app_in hk
      · exact h
    · split <;> split
      · exact get_app_congr h
      · rw [get_app_out hk]; exact h
      · rw [get_app_out hk]; exact h
      · exact h
/-- L3: the last one that wrote it. -/
theorem appD_last [Trk] {k : Key} {D : Nat → Bool} : ∀ (i : Nat) (tr : List Eff) (st st2 : AState) (j : Nat) (E : Eff), tr[j]? = some E → D (i + j) = true → k ∈ E.u.keys → (∀ j' E', j < j' → tr[j']? = some E' → D (i + j') = true → k ∉ E'.u.keys) →
    (AState.appD D i tr st).get k = (st2.app E.u).get k
  | _, [], _, _, _, _, h, _, _, _ => by simp at h
  | i, E0 :: tr, st, st2, 0, E, h, hd, hk, hl => by
    simp only [List.getElem?_cons_zero, Option.some.injEq] at h
    subst h
    simp only [AState.appD, Nat.add_zero] at hd ⊢
    rw [hd]
    simp only [if_true]
    have hnone : ∀ j' E', tr[j']? = some E' → D (i + 1 + j') = true → k ∉ E'.u.keys := fun j' E' h1 h2 => hl (j' + 1) E' (by omega) (by simpa using h1) (by rwa [show i + (j' + 1) = i + 1 + j' by omega])
    have : (AState.appD D (i + 1) tr (st.app E0.u)).get k = (AState.appD (fun _ => false) (i + 1) tr (st.app E0.u)).get k := appD_get _ _ _ _ rfl fun j E' h1 h2 => by
      cases hq : D (i + 1 + j) with
      | false => rfl
      | true => exact absurd h2 (hnone j E' h1 hq)
    rw [this]
    have hid : ∀ (i : Nat) (tr : List Eff) (s : AState), AState.appD (fun _ => false) i tr s = s := by
      intro i tr
      induction tr generalizing i with
      | nil => intro s; rfl
      | cons E tr ih => intro s; simp [AState.appD, ih]
    rw [hid]
    exact get_app_in hk
  | i, E0 :: tr, st, st2, j + 1, E, h, hd, hk, hl => by
    simp only [AState.appD]
    refine appD_last (i + 1) tr _ st2 j E (by simpa using h) (by rwa [show i + 1 + j = i + (j + 1) by omega]) hk fun j' E' h1 h2 h3 => hl (j' + 1) E' (by omega) (by simpa using h2) (by rwa [show i + (j' + 1) = i + 1 + j' by omega])

/-- Nothing that is looked up speaks of a name. -/
def Cont.free (n : Name) : Cont → Prop
  | .av a => a.has n = false
  | .slot s => ∀ t, s = some t → t.has n = false
theorem free_iff [Trk] {st : AState} {n : Name} : st.free n ↔ ∀ k, (st.get k).free n := by
  constructor
  · intro h k
    cases k with
    | tmp t => exact h.1 t
    | slot m => exact fun s hs => h.2 m s hs
  · exact fun h => ⟨fun t => h (.tmp t), fun m s hs => h (.slot m) s hs⟩
def Upd.has (n : Name) (U : Upd) : Bool := U.t.any (fun p => p.2.has n) || U.s.any (fun p => match p.2 with | some s => s.has n | none => false)
def AState.hasB (st : AState) (n : Name) : Bool := st.t.any (fun p => p.2.has n) || st.s.any (fun p => match p.2 with | some s => s.has n | none => false)
theorem tget_any [Trk] {n : Name} : ∀ {l : List (Nat × AV)} (t : Nat), l.any (fun p => p.2.has n) = false → (tget l t).has n = false
  | [], _, _ => rfl
  | (k, v) :: l, t, h => by
    simp only [List.any_cons, Bool.or_eq_false_iff] at h
    simp only [tget]; split
    · exact h.1
    · exact tget_any t h.2
theorem sget_any [Trk] {n : Name} : ∀ {l : SMap} (m : Name), l.any (fun p => match p.2 with | some s => s.has n | none => false) = false → ∀ t, sget l m = some t → t.has n = false
  | [], _, _, t, ht => by simp [sget] at ht
  | (k, v) :: l, m, h, t, ht => by
    simp only [List.any_cons, Bool.or_eq_false_iff] at h
    simp only [sget] at ht; split at ht
    · subst ht; exact h.1
    · exact sget_any m h.2 t ht
theorem hasB_free [Trk] {st : AState} {n : Name} (h : st.hasB n = false) : st.free n := by
  simp only [AState.hasB, Bool.or_eq_false_iff] at h
  exact ⟨fun t => tget_any t h.1, fun m s hs => sget_any m h.2 s hs⟩
theorem app_free [Trk] {st : AState} {U : Upd} {n : Name} (h : st.free n) (hu : U.has n = false) : (st.app U).free n := by
  simp only [Upd.has, Bool.or_eq_false_iff] at hu
  refine ⟨fun t => ?_, fun m s hs => ?_⟩
  · simp only [AState.app, tget_append]
    split
    · exact tget_any t hu.1
    · exact h.1 t
  · simp only [AState.app, sget_append] at hs
    split at hs
    · exact sget_any m hu.2 s hs
    · exact h.2 m s hs
theorem appD_free [Trk] {n : Name} {D : Nat → Bool} : ∀ (i : Nat) (tr : List Eff) (st : AState), st.free n → (∀ j E, tr[j]? = some E → D (i + j) = true → E.u.has n = false) → (AState.appD D i tr st).free n
  | _, [], _, h, _ => h
  | i, E :: tr, st, h, hd => by
    simp only [AState.appD]
    refine appD_free (i + 1) tr _ ?_ fun j E' h1 h2 => hd (j + 1) E' (by simpa using h1) (by rwa [show i + (j + 1) = i + 1 + j by omega])
    split
    · exact app_free h (hd 0 E (by simp) (by simpa using ‹_›))
    · exact h

def disjK (a b : List Key) : Bool := a.all fun k => !b.contains k
/-- Of two that may come up in either order neither touches what the other one writes; what one makes, none speaks of but those behind it. -/
def checkTr (ops : Array Oper) (st0 : AState) (tr : List Eff) : Bool :=
  tr.length == ops.size && (ops.toList.zipIdx.all fun (o, i) => o.after.toList.all fun e => !Region.binds .any e || decide (e.on < i)) &&
  (tr.zipIdx.all fun (E, i) => E.c.all (fun n => !st0.hasB n) &&
    (tr.zipIdx.all fun (F, j) =>
      (E.c.isEmpty || (i == j || (decide (i < j) && hasPath ops i 3 j) || E.c.all fun n => !F.u.has n)) &&
      (decide (j ≤ i) || (disjK E.u.keys F.r && disjK E.u.keys F.u.keys && disjK E.r F.u.keys) || hasPath ops i 3 j)))

end Go.Eng
set_option autoImplicit false
set_option linter.unusedVariables false
set_option linter.unusedSimpArgs false
namespace Go.Eng
open Go Go.RowKit
variable {P : Program}

theorem AV.kill_id [Trk] {n : Name} {a : AV} (h : a.has n = false) : AV.kill n a = a := by simp [AV.kill, h]
theorem map_kill_id [Trk] {n : Name} : ∀ {l : List AV}, AV.hasL n l = false → l.map (AV.kill n) = l
  | [], _ => rfl
  | a :: l, h => by
    simp only [AV.hasL, Bool.or_eq_false_iff] at h
    simp [AV.kill_id h.1, map_kill_id h.2]
theorem get_kill [Trk] {st : AState} {n : Name} (h : st.free n) (k : Key) : (st.kill n).get k = st.get k := by
  cases k with
  | tmp t => simp only [AState.get, AState.kill, tget_kill, Cont.av.injEq]; exact AV.kill_id (h.1 t)
  | slot m =>
    simp only [AState.get, AState.kill, sget_kill, Cont.slot.injEq]
    cases hs : sget st.s m with
    | none => rfl
    | some s =>
      have := h.2 m s hs
      cases s with
      | box T cells => simp only [Option.map_some, Slot.kill, Option.some.injEq, Slot.box.injEq, true_and]; exact map_kill_id this
      | own e es xs => rfl
theorem get_killAll [Trk] : ∀ (l : List Name) {st : AState}, (∀ n ∈ l, st.free n) → ∀ k, (st.killAll l).get k = st.get k
  | [], _, _, _ => rfl
  | n :: l, st, h, k => by
    have h1 := get_kill (h n (by simp))
    have := get_killAll l (st := st.kill n) (fun m hm => free_iff.2 fun k => by rw [h1]; exact free_iff.1 (h m (by simp [hm])) k) k
    simp only [AState.killAll]
    rw [this, h1]

structure Check (ops : Array Oper) (st0 : AState) (tr : List Eff) : Prop where
  len : tr.length = ops.size
  fwd : ∀ (i : Nat) (o : Oper) (e : Edge), ops[i]? = some o → e ∈ o.after.toList → Region.binds .any e = true → e.on < i
  st0 : ∀ (i : Nat) (E : Eff) (n : Name), tr[i]? = some E → n ∈ E.c → st0.free n
  ment : ∀ (i j : Nat) (E F : Eff) (n : Name), tr[i]? = some E → tr[j]? = some F → n ∈ E.c → i = j ∨ (i < j ∧ Path ops i j) ∨ F.u.has n = false
  conf : ∀ (i j : Nat) (E F : Eff), tr[i]? = some E → tr[j]? = some F → i < j → Path ops i j ∨ ((∀ k ∈ E.u.keys, k ∉ F.r ∧ k ∉ F.u.keys) ∧ ∀ k ∈ E.r, k ∉ F.u.keys)
theorem disjK_iff [Trk] {a b : List Key} (h : disjK a b = true) : ∀ k ∈ a, k ∉ b := by
  intro k hk hb
  have := List.all_eq_true.1 h k hk
  simp at this
  exact this hb
theorem zipIdx_mem [Trk] {α : Type} {l : List α} {i : Nat} {x : α} (h : l[i]? = some x) : (x, i) ∈ l.zipIdx := by
  rw [List.mem_zipIdx_iff_getElem?]; exact h
theorem checkTr_sound [Trk] {ops : Array Oper} {st0 : AState} {tr : List Eff} (h : checkTr ops st0 tr = true) : Check ops st0 tr := by
  simp only [checkTr, Bool.and_eq_true, beq_iff_eq] at h
  obtain ⟨⟨h1, h2⟩, h3⟩ := h
  have htab : ∀ i j, hasPath ops i 3 j = true → Path ops i j := fun i j h => hasPath_path 3 j h
  have h4 : ∀ i E, tr[i]? = some E → E.c.all (fun n => !st0.hasB n) = true ∧ ∀ j F, tr[j]? = some F →
      (E.c.isEmpty || (i == j || (decide (i < j) && hasPath ops i 3 j) || E.c.all fun n => !F.u.has n)) = true ∧
      (decide (j ≤ i) || (disjK E.u.keys F.r && disjK E.u.keys F.u.keys && disjK E.r F.u.keys) || hasPath ops i 3 j) = true := by
    intro i E hE
    have h5 := List.all_eq_true.1 h3 _ (zipIdx_mem hE)
    simp only [Bool.and_eq_true] at h5
    refine ⟨h5.1, fun j F hF => ?_⟩
    have h6 := List.all_eq_true.1 h5.2 _ (zipIdx_mem hF)
    simpa only [Bool.and_eq_true] using h6
  refine ⟨h1, ?_, ?_, ?_, ?_⟩
  · intro i o e ho he hb
    have h5 := List.all_eq_true.1 h2 (o, i) (zipIdx_mem (by simpa using ho))
    have h6 := List.all_eq_true.1 h5 e he
    simpa [hb] using h6
  · intro i E n hE hn
    have := List.all_eq_true.1 (h4 i E hE).1 n hn
    exact hasB_free (by simpa using this)
  · intro i j E F n hE hF hn
    have := ((h4 i E hE).2 j F hF).1
    simp only [Bool.or_eq_true, beq_iff_eq, Bool.and_eq_true, decide_eq_true_eq] at this
    rcases this with h0 | (h | ⟨h, h'⟩) | h
    · rw [List.isEmpty_iff.1 h0] at hn; cases hn
    · exact .inl h
    · exact .inr (.inl ⟨h, htab _ _ h'⟩)
    · exact .inr (.inr (by simpa using List.all_eq_true.1 h n hn))
  · intro i j E F hE hF hij
    have := ((h4 i E hE).2 j F hF).2
    simp only [Bool.or_eq_true, Bool.and_eq_true, decide_eq_true_eq] at this
    rcases this with (h | ⟨⟨h, h'⟩, h''⟩) | h
    · omega
    rotate_left
    · exact .inl (htab _ _ h)
    · exact .inr ⟨fun k hk => ⟨disjK_iff h k hk, disjK_iff h' k hk⟩, disjK_iff h''⟩

theorem appD_none [Trk] {D : Nat → Bool} (h : ∀ j, D j = false) : ∀ (i : Nat) (tr : List Eff) (s : AState), AState.appD D i tr s = s
  | _, [], _ => rfl
  | i, E :: tr, s => by simp [AState.appD, h i, appD_none h (i + 1) tr]
theorem appD_succ [Trk] {st0 : AState} {tr : List Eff} {i : Nat} {E : Eff} (hE : tr[i]? = some E) (k : Key) :
    (AState.appD (fun j => decide (j < i + 1)) 0 tr st0).get k = ((AState.appD (fun j => decide (j < i)) 0 tr st0).app E.u).get k := by
  by_cases hk : k ∈ E.u.keys
  · exact appD_last 0 tr st0 _ i E hE (by simp) hk (fun j' E' h1 h2 h3 => by simp at h3; omega)
  · rw [get_app_out hk]
    refine appD_get 0 tr st0 st0 rfl fun j F hF hkF => ?_
    have : j ≠ i := fun e => by subst e; rw [hE] at hF; cases hF; exact hk hkF
    simp only [Nat.zero_add]
    by_cases h : j < i
    · simp [h, Nat.lt_succ_of_lt h]
    · have : ¬ j < i + 1 := by omega
      simp [h, this]

/-- Each step's state, told by what came up ahead of it in the text. -/
theorem Run.states [Trk] {ops : Array Oper} {st0 : AState} {all : List Eff} (hc : Check ops st0 all) {i : Nat} {st st' : AState} {tr : List Eff} (h : Run P ops i st tr st') :
    all.drop i = tr → st.n = st0.n → (∀ k, st.get k = (AState.appD (fun j => decide (j < i)) 0 all st0).get k) →
    (∀ j E, i ≤ j → all[j]? = some E → ∃ s, LocalAt P ops j s E ∧ s.n = st0.n ∧ ∀ k, s.get k = (AState.appD (fun q => decide (q < j)) 0 all st0).get k) ∧
    st'.n = st0.n ∧ ∀ k, st'.get k = (AState.appD (fun q => decide (q < ops.size)) 0 all st0).get k := by
  induction h with
  | @nil i st hi =>
    intro hd hn hg
    refine ⟨fun j E hj hE => ?_, hn, by rw [hi]; exact hg⟩
    have h1 := (List.getElem?_eq_some_iff.1 hE).1
    have h2 : all.length ≤ i := List.drop_eq_nil_iff.1 hd
    omega
  | @cons i st st' E tr hi hl _ ih =>
    intro hd hn hg
    have hE : all[i]? = some E := by
      have : (all.drop i)[0]? = some E := by rw [hd]; rfl
      simpa [List.getElem?_drop] using this
    have hfree : ∀ n ∈ E.c, st.free n := by
      intro n hnE
      refine free_iff.2 fun k => ?_
      rw [hg k]
      refine free_iff.1 (appD_free 0 all st0 (hc.st0 i E n hE hnE) fun j F hF hj => ?_) k
      simp only [Nat.zero_add, decide_eq_true_eq] at hj
      rcases hc.ment i j E F n hE hF hnE with h | ⟨h, _⟩ | h
      · omega
      · omega
      · exact h
    have hkill := get_killAll E.c hfree
    obtain ⟨h1, h2, h3⟩ := ih (by rw [← List.tail_drop, hd]; rfl) (by simp [AState.app, AState.killAll_n, hn]) (fun k => by
      rw [appD_succ hE k]
      exact get_app_congr (by rw [hkill, hg]))
    refine ⟨fun j F hj hF => ?_, h2, h3⟩
    by_cases hji : j = i
    · subst hji
      rw [hE] at hF; cases hF
      exact ⟨_, hl, by rw [AState.killAll_n, hn], fun k => by rw [hkill, hg]⟩
    · exact h1 j F (by omega) hF

theorem countP_lt [Trk] {α : Type} {p q : α → Bool} : ∀ {l : List α}, (∀ x, p x = true → q x = true) → (∃ x ∈ l, q x = true ∧ p x = false) → l.countP p < l.countP q
  | [], _, ⟨_, h, _⟩ => by cases h
  | a :: l, h, ⟨x, hx, hq, hp⟩ => by
    have hle : l.countP p ≤ l.countP q := List.countP_mono_left fun x _ => h x
    simp only [List.countP_cons]
    cases hx with
    | head => simp [hq, hp]; omega
    | tail _ hx =>
      have := countP_lt h ⟨x, hx, hq, hp⟩
      cases hpa : p a with
      | true => simp [h a hpa]; omega
      | false => cases q a <;> simp <;> omega

theorem Run.any [Trk] {ops : Array Oper} {st0 st' : AState} {tr : List Eff} (h : Run P ops 0 st0 tr st') (hcheck : checkTr ops st0 tr = true) {Γ : Ctx} {Q : Exit → Act → World → Prop} (hQ : ∀ ρ' a' w', Ok Γ st' ρ' a' w' → Q .normal a' w')
    {ρ : Rho} {a : Act} {w : World} (hok : Ok Γ st0 ρ a w) : wpAny P .any ops Q ops.size (Array.replicate ops.size false) a w := by
  have hc := checkTr_sound hcheck
  obtain ⟨hs, hn', hg'⟩ := h.states hc (by simp) rfl (fun k => by
    rw [appD_none (fun j => by simp)])
  have key : ∀ (fuel : Nat) (listed : Array Bool) (ρ : Rho) (a : Act) (w : World) (st2 : AState), listed.size = ops.size → Closed ops (fun j => listed.getD j false) →
      Ok Γ st2 ρ a w → st2.n = st0.n → (∀ k, st2.get k = (AState.appD (fun j => listed.getD j false) 0 tr st0).get k) → (List.range ops.size).countP (fun j => !listed.getD j false) ≤ fuel →
      wpAny P .any ops Q fuel listed a w := by
    intro fuel
    have hready : ∀ (listed : Array Bool), listed.size = ops.size → ∀ i, i ∈ Region.ready .any ops listed ↔ i < ops.size ∧ listed.getD i false = false ∧ ∀ o e, ops[i]? = some o → e ∈ o.after.toList → Region.binds .any e = true → listed.getD e.on false = true := by
      intro listed hsz i
      simp only [Region.ready, List.mem_filter, List.mem_range, Bool.and_eq_true]
      constructor
      · rintro ⟨h1, h2, h3⟩
        have hl : listed.getD i true = listed.getD i false := by simp [Array.getD_eq_getD_getElem?, Array.getElem?_eq_getElem (show i < listed.size by omega)]
        refine ⟨h1, by rw [hl] at h2; simpa using h2, fun o e ho he hb => ?_⟩
        rw [ho] at h3
        simp only [Option.map_some, Option.getD_some] at h3
        have h4 := Array.all_eq_true_iff_forall_mem.1 h3 e (Array.mem_toList_iff.1 he)
        simpa [hb] using h4
      · rintro ⟨h1, h2, h3⟩
        have hl : listed.getD i true = listed.getD i false := by simp [Array.getD_eq_getD_getElem?, Array.getElem?_eq_getElem (show i < listed.size by omega)]
        refine ⟨h1, by rw [hl, h2]; rfl, ?_⟩
        rw [Array.getElem?_eq_getElem h1]
        simp only [Option.map_some, Option.getD_some]
        refine Array.all_eq_true_iff_forall_mem.2 fun e he => ?_
        cases hb : Region.binds .any e with
        | false => simp
        | true => simp; simpa using h3 _ e (Array.getElem?_eq_getElem h1) (Array.mem_toList_iff.2 he) hb
    have hleast : ∀ (listed : Array Bool), listed.size = ops.size → ∀ i, i < ops.size → listed.getD i false = false → Region.ready .any ops listed ≠ [] := by
      intro listed hsz i
      induction i using Nat.strongRecOn with
      | _ i ih =>
        intro h1 h2 hnil
        by_cases hall : ∀ o e, ops[i]? = some o → e ∈ o.after.toList → Region.binds .any e = true → listed.getD e.on false = true
        · have := (hready listed hsz i).2 ⟨h1, h2, hall⟩
          rw [hnil] at this; cases this
        · simp only [Classical.not_forall] at hall
          obtain ⟨o, e, ho, he, hb, hne⟩ := hall
          have hlt := hc.fwd i o e ho he hb
          exact ih e.on hlt (by omega) (by simpa using hne) hnil
    have hdone : ∀ (listed : Array Bool) (ρ : Rho) (a : Act) (w : World) (st2 : AState), listed.size = ops.size → Ok Γ st2 ρ a w → st2.n = st0.n → (∀ k, st2.get k = (AState.appD (fun j => listed.getD j false) 0 tr st0).get k) →
        Region.ready .any ops listed = [] → Q .normal a w := by
      intro listed ρ a w st2 hsz hok hn hg hnil
      have hall : ∀ j, j < ops.size → listed.getD j false = true := fun j hj => by
        cases hq : listed.getD j false with
        | true => rfl
        | false => exact absurd hnil (hleast listed hsz j hj hq)
      refine hQ ρ a w (hok.ext (by rw [hn', hn]) (fun t => ?_) fun n => ?_)
      · have : (AState.get st' (.tmp t)) = AState.get st2 (.tmp t) := by
          rw [hg', hg]
          refine appD_get 0 tr st0 st0 rfl fun j E hE _ => ?_
          have hj := (List.getElem?_eq_some_iff.1 hE).1
          rw [hc.len] at hj
          simp [hj]; simpa using (hall j hj).symm
        simpa [AState.get] using this
      · have : (AState.get st' (.slot n)) = AState.get st2 (.slot n) := by
          rw [hg', hg]
          refine appD_get 0 tr st0 st0 rfl fun j E hE _ => ?_
          have hj := (List.getElem?_eq_some_iff.1 hE).1
          rw [hc.len] at hj
          simp [hj]; simpa using (hall j hj).symm
        simpa [AState.get] using this
    induction fuel with
    | zero =>
      intro listed ρ a w st2 hsz hcl hok hn hg hcnt
      have hnil : Region.ready .any ops listed = [] := by
        cases hr : Region.ready .any ops listed with
        | nil => rfl
        | cons i l =>
          have hi := (hready listed hsz i).1 (by rw [hr]; simp)
          have : 0 < (List.range ops.size).countP (fun j => !listed.getD j false) := List.countP_pos_iff.2 ⟨i, List.mem_range.2 hi.1, by simp only [hi.2.1]; rfl⟩
          omega
      exact ⟨hnil, hdone listed ρ a w st2 hsz hok hn hg hnil⟩
    | succ fuel ih =>
      intro listed ρ a w st2 hsz hcl hok hn hg hcnt
      refine ⟨hdone listed ρ a w st2 hsz hok hn hg, fun i hi => ?_⟩
      obtain ⟨hi1, hi2, hi3⟩ := (hready listed hsz i).1 hi
      have hlen := hc.len
      obtain ⟨E, hE⟩ : ∃ E, tr[i]? = some E := ⟨_, List.getElem?_eq_getElem (by omega)⟩
      obtain ⟨s, hl, hsn, hsg⟩ := hs i E (Nat.zero_le _) hE
      have hnot : ∀ j F, tr[j]? = some F → listed.getD j false = true → Path ops i j → False := by
        intro j F hF hj hp
        have := hcl.path hp hj
        rw [this] at hi2; cases hi2
      have hpre : ∀ j, j < i → listed.getD j false = false → ¬Path ops j i := by
        intro j _ hj hp
        cases hp with
        | one h1 h2 h3 h4 => have := hi3 _ _ h1 h2 h3; rw [h4, hj] at this; cases this
        | step hp' h1 h2 h3 h4 =>
          have := hi3 _ _ h1 h2 h3
          rw [h4] at this
          have h5 := hcl.path hp' this
          rw [hj] at h5; cases h5
      refine hl st2 (by rw [hn, hsn]) (fun k hk => ?_) Γ ρ a w _ Q hok (fun n hnE => free_iff.2 fun k => ?_) fun ρ' a' w' hok' => ?_
      · rw [hg, hsg]
        refine appD_get 0 tr st0 st0 rfl fun j F hF hkF => ?_
        rw [Nat.zero_add]
        by_cases hlt : j < i
        · cases hq : listed.getD j false with
          | true => simp [hlt]
          | false =>
            rcases hc.conf j i F E hF hE hlt with hp | ⟨h1, _⟩
            · exact absurd hp (hpre j hlt hq)
            · exact absurd hk (h1 k hkF).1
        · cases hq : listed.getD j false with
          | false => simp [hlt]
          | true =>
            have hne : j ≠ i := fun e => by subst e; rw [hi2] at hq; cases hq
            rcases hc.conf i j E F hE hF (by omega) with hp | ⟨_, h2⟩
            · exact (hnot j F hF hq hp).elim
            · exact absurd hkF (h2 k hk)
      · rw [hg]
        refine free_iff.1 (appD_free 0 tr st0 (hc.st0 i E n hE hnE) fun j F hF hj => ?_) k
        rw [Nat.zero_add] at hj
        rcases hc.ment i j E F n hE hF hnE with h | ⟨_, h⟩ | h
        · subst h; rw [hi2] at hj; cases hj
        · exact (hnot j F hF hj h).elim
        · exact h
      · have hget : ∀ j, (listed.setIfInBounds i true).getD j false = if j = i then true else listed.getD j false := by
          intro j
          simp only [Array.getD_eq_getD_getElem?, Array.getElem?_setIfInBounds]
          by_cases hji : i = j
          · subst hji; simp [hsz, hi1]
          · rw [if_neg hji, if_neg (fun e => hji e.symm)]
        refine ih (listed.setIfInBounds i true) ρ' a' w' _ (by simpa using hsz) ?_ hok' (by simp [AState.app, hn]) (fun k => ?_) ?_
        · intro j o e ho hj he hb
          simp only [hget] at hj ⊢
          by_cases hji : j = i
          · subst hji
            split
            · rfl
            · exact hi3 o e ho he hb
          · rw [if_neg hji] at hj
            split
            · rfl
            · exact hcl j o e ho hj he hb
        · have hD : (fun j => (listed.setIfInBounds i true).getD j false) = fun j => if j = i then true else listed.getD j false := funext hget
          rw [hD]
          by_cases hk : k ∈ E.u.keys
          · refine (appD_last 0 tr st0 st2 i E hE (by simp) hk fun j F h1 h2 h3 h4 => ?_).symm
            rw [Nat.zero_add, if_neg (by omega)] at h3
            rcases hc.conf i j E F hE h2 h1 with hp | ⟨h5, _⟩
            · exact hnot j F h2 h3 hp
            · exact (h5 k hk).2 h4
          · rw [get_app_out hk, hg]
            refine appD_get 0 tr st0 st0 rfl fun j F hF hkF => ?_
            rw [Nat.zero_add]
            have : j ≠ i := fun e => by subst e; rw [hE] at hF; cases hF; exact hk hkF
            rw [if_neg this]
        · have hlt := countP_lt (l := List.range ops.size) (p := fun j => !(listed.setIfInBounds i true).getD j false) (q := fun j => !listed.getD j false)
            (fun x hx => by
              simp only [hget] at hx
              split at hx
              · cases hx
              · exact hx) ⟨i, List.mem_range.2 hi1, by simp only [hi2]; rfl, by simp only [hget, if_true]; rfl⟩
          omega
  have hnone : ∀ j, (Array.replicate ops.size false).getD j false = false := fun j => by
    simp only [Array.getD_eq_getD_getElem?, Array.getElem?_replicate]; split <;> rfl
  exact key ops.size _ ρ a w st0 (by simp) (fun j o e ho hj => by simp only [hnone] at hj; cases hj) hok rfl (fun k => by rw [appD_none hnone]) (Nat.le_trans (List.countP_le_length) (by simp))

end Go.Eng
set_option autoImplicit false
set_option linter.unusedVariables false
set_option linter.unusedSimpArgs false
namespace Go.Eng
open Go Go.RowKit
variable {P : Program}

def keyO : Operand → List Key
  | .tmp t => [.tmp t]
  | _ => []
def slotK : AV → List Key
  | .own n => [.slot n]
  | .ptr n _ => [.slot n]
  | .eptr n _ _ _ => [.slot n]
  | _ => []
def keysL (l : List Operand) : List Key := l.flatMap keyO
def slotsL (st : AState) (l : List Operand) : List Key := l.flatMap fun x => slotK (ev st x)

theorem ev_agree [Trk] {st st2 : AState} {x : Operand} {r : List Key} (h : ∀ k ∈ r, st2.get k = st.get k) (hx : ∀ k ∈ keyO x, k ∈ r) : ev st2 x = ev st x := by
  cases x with
  | tmp t =>
    have := h (.tmp t) (hx _ (by simp [keyO]))
    simpa [AState.get, ev] using this
  | _ => rfl
theorem sget_agree [Trk] {st st2 : AState} {n : Name} {r : List Key} (h : ∀ k ∈ r, st2.get k = st.get k) (hx : Key.slot n ∈ r) : sget st2.s n = sget st.s n := by
  have := h (.slot n) hx
  simpa [AState.get] using this

abbrev ef (r : List Key) (d : Nat) (a : AV) : Option Eff := some ⟨r, ⟨[(d, a)], []⟩, []⟩

def pickA (b : Bool) (x y : AV) : AV :=
  match x, y with
  | .pv (.v (.bool p)), .pv (.v (.bool q)) => .pv (.v (.bool (bif b then p else q)))
  | x, y => if b = true then x else y
theorem pickA_eq [Trk] (b : Bool) (x y : AV) : pickA b x y = if b = true then x else y := by
  unfold pickA
  split
  · cases b <;> rfl
  · rfl
def sPick (d : Nat) (st : AState) (c x y : Operand) : Option Eff :=
  match ev st c with
  | .pv (.v (.bool b)) => ef (keyO c ++ keyO x ++ keyO y) d (pickA b (ev st x) (ev st y))
  | _ => none
def sNot (d : Nat) (st : AState) (x : Operand) : Option Eff :=
  match ev st x with
  | .pv (.v (.bool b)) => ef (keyO x) d (.pv (.v (.bool (!b))))
  | _ => none
def sBin (P : Program) (d : Nat) (st : AState) (op : BinOp) (t : TypeId) (x y : Operand) : Option Eff :=
  match ev st x, ev st y with
  | .pv (.v u), .pv (.v v) => match abin P op t u v with
    | some r => ef (keyO x ++ keyO y) d (.pv (.v r))
    | none => none
  | _, _ => none
def sConv (P : Program) (d : Nat) (st : AState) (t t' : TypeId) (x : Operand) : Option Eff :=
  match ev st x, intOf? P t, intOf? P t' with
  | .pv (.v (.int _ n)), some _, some k' => ef (keyO x) d (.pv (.v (.int k' (k'.wrap n))))
  | _, _, _ => none
def sExtract (d : Nat) (st : AState) (x : Operand) (i : Nat) : Option Eff :=
  match ev st x with
  | .tup l => match l[i]? with
    | some av => ef (keyO x) d av
    | none => none
  | _ => none
def sNil (d : Nat) (st : AState) (x : Operand) : Option Eff :=
  match moveP 0 (ev st x) with
  | some _ => ef (keyO x) d (ev st x)
  | none => none
def sFunc (d : Nat) (st : AState) (f : FuncId) (fi ca : Array Operand) : Option Eff :=
  ef (keysL (fi.toList ++ ca.toList)) d (.fn f (fi.toList.map (ev st)) (ca.toList.map (ev st)))
def sFAddr (P : Program) (d : Nat) (st : AState) (T : TypeId) (x : Operand) (i : Nat) : Option Eff :=
  match fldOf P T i with
  | some (off, ft) => match szOf P ft, moveP off (ev st x) with
    | some (_ + 1), some av => ef (keyO x) d av
    | _, _ => none
  | none => none
def sField (P : Program) (d : Nat) (st : AState) (T : TypeId) (x : Operand) (i : Nat) : Option Eff :=
  match fldOf P T i, ev st x with
  | some (off, ft), .agg cs => match szOf P ft, aggOf P ft with
    | some n, some true => ef (keyO x) d (.agg ((cs.drop off).take n))
    | some _, some false => match cs[off]? with
      | some p => ef (keyO x) d (.pv p)
      | none => none
    | _, _ => none
  | _, _ => none
def sIAddr (P : Program) (d : Nat) (st : AState) (T : TypeId) (x ix : Operand) : Option Eff :=
  match ev st ix with
  | .pv (.v (.int _ i)) =>
    if 0 ≤ i then
      match elemS P T with
      | some e => match szOf P e with
        | some sz => match ev st x with
          | .pv (.sl es xs) => if es = sz ∧ 0 < es then (match xs[i.toNat]? with | some c => ef (keyO x ++ keyO ix) d (.rptr c) | none => none) else none
          | .tight es xs => if es = sz ∧ 0 < es then (match xs[i.toNat]? with | some c => ef (keyO x ++ keyO ix) d (.rptr c) | none => none) else none
          | .own n => match sget st.s n with
            | some (.own _ es xs) => if es = sz then (if i.toNat < xs.length then ef (keyO x ++ keyO ix ++ [.slot n]) d (.eptr n es i.toNat 0) else none) else none
            | _ => none
          | _ => none
        | none => none
      | none => match arrOf P T with
        | some (n, e) => match szOf P e with
          | some sz => if i.toNat < n then (match moveP (i.toNat * sz) (ev st x) with | some av => ef (keyO x ++ keyO ix) d av | none => none) else none
          | none => none
        | none => none
    else none
  | _ => none
def sIndex (P : Program) (d : Nat) (st : AState) (T : TypeId) (x ix : Operand) : Option Eff :=
  match ev st ix, ev st x with
  | .pv (.v (.int _ i)), .pv (.v (.string s)) => if 0 ≤ i ∧ isStr P T = true then (match s[i.toNat]? with | some b => ef (keyO x ++ keyO ix) d (.pv (.v (.int .u8 b.toNat))) | none => none) else none
  | _, _ => none
def sLoad (P : Program) (d : Nat) (st : AState) (T : TypeId) (x : Operand) : Option Eff :=
  match aggOf P T, szOf P T with
  | some b, some n => match ev st x with
    | .rptr cs => match cutP b n cs with
      | some av => ef (keyO x) d av
      | none => none
    | .ptr m off => match sget st.s m with
      | some (.box _ cells) => match cutA b n off cells with
        | some av => ef (keyO x ++ [.slot m]) d av
        | none => none
      | _ => none
    | .eptr m es i j => match sget st.s m with
      | some (.own _ es' xs) => if es = es' then (match xs[i]? with
        | some c => (match cutP b n (c.drop j) with | some av => ef (keyO x ++ [.slot m]) d av | none => none)
        | none => none) else none
      | _ => none
    | _ => none
  | _, _ => none
def sAlloc (P : Program) (d : Nat) (st : AState) (T : TypeId) : Option Eff :=
  match zeroOf P T with
  | some z => if z.cells.toList.all (·.oneCell') = true then some ⟨[], ⟨[(d, .ptr (.loc d) 0)], [(.loc d, some (.box T (z.cells.toList.map fun u => .pv (.v u))))]⟩, [.loc d]⟩ else none
  | none => none
def sBox (d : Nat) (st : AState) (T : TypeId) (x : Operand) : Option Eff :=
  match cellsA st (ev st x) with
  | some cells => if AV.hasL (.loc d) cells = false then some ⟨keyO x ++ slotK (ev st x), ⟨[(d, .ptr (.loc d) 0)], [(.loc d, some (.box T cells))]⟩, [.loc d]⟩ else none
  | none => none
def sBuild (P : Program) (d : Nat) (st : AState) (T : TypeId) (parts : Array (Nat × Operand)) : Option Eff :=
  match zeroOf P T, partsP st parts.toList with
  | some z, some ps => if z.cells.toList.all (·.oneCell') = true then
      (match placesOf P T with
      | some pl => match fillP (fun i => pl[i]?) (z.cells.toList.map .v) ps with
        | some cells => ef (keysL (parts.toList.map (·.2))) d (.agg cells)
        | none => none
      | none => match arrOf P T with
        | some (n, e) => match szOf P e with
          | some sz => match fillP (fun i => some (i * sz, sz)) (z.cells.toList.map .v) ps with
            | some cells => ef (keysL (parts.toList.map (·.2))) d (.agg cells)
            | none => none
          | none => none
        | none => none)
    else none
  | _, _ => none
def sBuildS (P : Program) (d : Nat) (st : AState) (T n : Nat) (parts : Array (Nat × Operand)) : Option Eff :=
  match elemS P T with
  | some e => match elemT? P e, zeroOf P e, partsP st parts.toList with
    | some (size, _), some z, some ps => if z.cells.toList.all (·.oneCell') = true ∧ 0 < size ∧ n * size ≤ 2 ^ 24 then
        (match fillP (fun i => some (i * size, size)) (List.replicate n (z.cells.toList.map PV.v)).flatten ps with
        | some cells => some ⟨keysL (parts.toList.map (·.2)), ⟨[(d, .own (.loc d))], [(.loc d, some (.own e size (chunk size n cells)))]⟩, [.loc d]⟩
        | none => none)
      else none
    | _, _, _ => none
  | none => none
def sSlice (P : Program) (d : Nat) (st : AState) (T : TypeId) (x : Operand) (lo hi mx : Option Operand) : Option Eff :=
  match elemS P T, ev st x with
  | some e, .pv (.sl es xs) => match szOf P e, bnd st 0 lo, bnd st xs.length hi with
    | some sz, some l, some h => if sz = es ∧ l ≤ h ∧ h ≤ xs.length then
        (match mx with
        | none => ef (keyO x ++ keysL (lo.toList ++ hi.toList)) d (.pv (.sl es ((xs.take h).drop l)))
        | some y => if bnd st 0 (some y) = some h ∧ hi.isSome = true then ef (keyO x ++ keysL (lo.toList ++ hi.toList ++ [y])) d (.tight es ((xs.take h).drop l)) else none)
      else none
    | _, _, _ => none
  | _, _ => none
def esOf (P : Program) (T : TypeId) : Option Nat := (elemS P T).bind (szOf P)
def sLen (P : Program) (d : Nat) (st : AState) (T : TypeId) (x : Operand) : Option Eff :=
  match elemS P T with
  | some e => match szOf P e with
    | some es => match srcP st es (ev st x) with
      | some xs => ef (keyO x ++ slotK (ev st x)) d (.pv (.v (.int .i64 xs.length)))
      | none => none
    | none => none
  | none => match ev st x with
    | .pv (.v (.string s)) => if isStr P T = true then ef (keyO x) d (.pv (.v (.int .i64 s.size))) else none
    | _ => none
def sMM (mx : Bool) (d : Nat) (st : AState) (x y : Operand) : Option Eff :=
  match ev st x, ev st y with
  | .pv (.v (.int k m)), .pv (.v (.int _ n)) => ef (keyO x ++ keyO y) d (.pv (.v (.int k (mm mx m n))))
  | _, _ => none
def sBuiltin (P : Program) (d : Nat) (st : AState) (b : Builtin) (args : Array Operand) (ts : Array TypeId) : Option Eff :=
  match b, args.toList, ts.toList with
  | .len, [x], [T] => sLen P d st T x
  | .max, [x, y], _ => sMM true d st x y
  | .min, [x, y], _ => sMM false d st x y
  | _, _, _ => none
def stepD (P : Program) (op : Op) (d : Nat) (st : AState) : Option Eff :=
  match op with
  | .move x => ef (keyO x) d (ev st x)
  | .assign x => ef (keyO x) d (ev st x)
  | .pick c x y => sPick d st c x y
  | .unOp .not _ x => sNot d st x
  | .binOp op t x y _ => sBin P d st op t x y
  | .convert t t' x => sConv P d st t t' x
  | .extract x i => sExtract d st x i
  | .nilCheck x => sNil d st x
  | .makeFunc (.func f) fi ca => sFunc d st f fi ca
  | .fieldAddr T x i => sFAddr P d st T x i
  | .field T x i => sField P d st T x i
  | .indexAddr T x i => sIAddr P d st T x i
  | .index T x i => sIndex P d st T x i
  | .load T x => sLoad P d st T x
  | .alloc T => sAlloc P d st T
  | .box T x => sBox d st T x
  | .build T ps => sBuild P d st T ps
  | .buildSlice T n ps => sBuildS P d st T n ps
  | .slice T x lo hi mx => sSlice P d st T x lo hi mx
  | .call c => match c.callee with
    | .builtin b => sBuiltin P d st b c.args c.argTypes
    | _ => none
  | _ => none
def stepN (P : Program) (op : Op) (st : AState) : Option Eff :=
  match op with
  | .store T x y => match szOf P T with
    | some n => match ev st x with
      | .ptr m off => match sget st.s m, cellsA st (ev st y) with
        | some (.box T' cells), some vs => if vs.length = n then (match spliceA cells off vs with
          | some cells' => some ⟨keyO x ++ keyO y ++ slotK (ev st y) ++ [.slot m], ⟨[], [(m, some (.box T' cells'))]⟩, []⟩
          | none => none) else none
        | _, _ => none
      | .eptr m es i j => match sget st.s m, cellsP (ev st y) with
        | some (.own e es' xs), some vs => if es' = es ∧ vs.length = n then (match xs[i]? with
          | some c => (match spliceP c j vs with
            | some c' => some ⟨keyO x ++ keyO y ++ [.slot m], ⟨[], [(m, some (.own e es (xs.set i c')))]⟩, []⟩
            | none => none)
          | none => none) else none
        | _, _ => none
      | _ => none
    | none => none
  | _ => none
def step (P : Program) (o : Oper) (st : AState) : Option Eff :=
  match o.dst with
  | some d => if d < st.n then stepD P o.op d st else none
  | none => stepN P o.op st
end Go.Eng
set_option autoImplicit false
set_option linter.unusedVariables false
set_option linter.unusedSimpArgs false
namespace Go.Eng
open Go Go.RowKit
variable {P : Program} {o : Oper} {st : AState} {d : Nat} {E : Eff}

theorem mem_keysL [Trk] {x : Operand} {l : List Operand} (h : x ∈ l) : ∀ k ∈ keyO x, k ∈ keysL l := fun k hk => List.mem_flatMap.2 ⟨x, h, hk⟩
theorem partsP_agree [Trk] {st st2 : AState} {r : List Key} (h : ∀ k ∈ r, st2.get k = st.get k) : ∀ {l : List (Nat × Operand)}, (∀ k ∈ keysL (l.map (·.2)), k ∈ r) → partsP st2 l = partsP st l
  | [], _ => rfl
  | (i, x) :: l, hk => by
    have h1 : ev st2 x = ev st x := ev_agree h fun k hx => hk k (by simp [keysL, hx])
    have h2 := partsP_agree h (l := l) fun k hx => hk k (by simp only [keysL, List.map_cons, List.flatMap_cons, List.mem_append]; exact .inr hx)
    simp only [partsP, h1, h2]
theorem bnd_agree [Trk] {st st2 : AState} {r : List Key} (h : ∀ k ∈ r, st2.get k = st.get k) {df : Nat} {x : Option Operand} (hk : ∀ k ∈ keysL x.toList, k ∈ r) : bnd st2 df x = bnd st df x := by
  cases x with
  | none => rfl
  | some y =>
    have h1 : ev st2 y = ev st y := ev_agree h fun k hx => hk k (by simp [keysL, hx])
    simp only [bnd, h1]
theorem cellsA_agree [Trk] {st st2 : AState} {r : List Key} (h : ∀ k ∈ r, st2.get k = st.get k) {a : AV} (hk : ∀ k ∈ slotK a, k ∈ r) : cellsA st2 a = cellsA st a := by
  cases a with
  | own n => simp only [cellsA]; rw [sget_agree h (hk _ (by simp [slotK]))]
  | _ => rfl
theorem srcP_agree [Trk] {st st2 : AState} {r : List Key} (h : ∀ k ∈ r, st2.get k = st.get k) {es : Nat} {a : AV} (hk : ∀ k ∈ slotK a, k ∈ r) : srcP st2 es a = srcP st es a := by
  cases a with
  | own n => simp only [srcP]; rw [sget_agree h (hk _ (by simp [slotK]))]
  | _ => rfl

theorem l_move [Trk] {x : Operand} (ho : o.op = .move x ∨ o.op = .assign x) (hd : o.dst = some d) (hlt : d < st.n) (h : ef (keyO x) d (ev st x) = some E) : Local P o st E := by
  cases h
  intro st2 hn hr
  rw [← ev_agree (st2 := st2) hr (fun k hk => hk)]
  exact ok_move ho hd (by rw [hn]; exact hlt)
theorem l_pick [Trk] {c x y : Operand} (ho : o.op = .pick c x y) (hd : o.dst = some d) (hlt : d < st.n) (h : sPick d st c x y = some E) : Local P o st E := by
  unfold sPick at h
  split at h
  · rename_i b hc
    cases h
    intro st2 hn hr
    have h1 := ev_agree (st2 := st2) (x := c) hr (fun k hk => by simp [hk])
    have h2 := ev_agree (st2 := st2) (x := x) hr (fun k hk => by simp [hk])
    have h3 := ev_agree (st2 := st2) (x := y) hr (fun k hk => by simp [hk])
    rw [← h2, ← h3, pickA_eq]
    exact ok_pick ho hd (by rw [hn]; exact hlt) (by rw [h1, hc])
  · cases h
theorem l_not [Trk] {x : Operand} {t : TypeId} (ho : o.op = .unOp .not t x) (hd : o.dst = some d) (hlt : d < st.n) (h : sNot d st x = some E) : Local P o st E := by
  unfold sNot at h
  split at h
  · rename_i b hc
    cases h
    intro st2 hn hr
    exact ok_not ho hd (by rw [hn]; exact hlt) (by rw [ev_agree hr (fun k hk => hk), hc])
  · cases h
theorem l_bin [Trk] {x y : Operand} {op : BinOp} {t t' : TypeId} (ho : o.op = .binOp op t x y t') (hd : o.dst = some d) (hlt : d < st.n) (h : sBin P d st op t x y = some E) : Local P o st E := by
  unfold sBin at h
  split at h
  · rename_i u v hx hy
    split at h
    · rename_i r hr'
      cases h
      intro st2 hn hr
      exact ok_bin ho hd (by rw [hn]; exact hlt) (by rw [ev_agree hr (fun k hk => by simp [hk]), hx]) (by rw [ev_agree hr (fun k hk => by simp [hk]), hy]) hr'
    · cases h
  · cases h
theorem l_conv [Trk] {x : Operand} {t t' : TypeId} (ho : o.op = .convert t t' x) (hd : o.dst = some d) (hlt : d < st.n) (h : sConv P d st t t' x = some E) : Local P o st E := by
  unfold sConv at h
  split at h
  · rename_i k n k1 k2 hx h1 h2
    cases h
    intro st2 hn hr
    exact ok_conv ho hd (by rw [hn]; exact hlt) (by rw [ev_agree hr (fun k hk => by simp [hk]), hx]) h2 (by rw [h1]; rfl)
  · cases h
theorem l_extract [Trk] {x : Operand} {i : Nat} (ho : o.op = .extract x i) (hd : o.dst = some d) (hlt : d < st.n) (h : sExtract d st x i = some E) : Local P o st E := by
  unfold sExtract at h
  split at h
  · rename_i l hx
    split at h
    · rename_i av hi
      cases h
      intro st2 hn hr
      exact ok_extract ho hd (by rw [hn]; exact hlt) (by rw [ev_agree hr (fun k hk => hk), hx]) hi
    · cases h
  · cases h
theorem l_nil [Trk] {x : Operand} (ho : o.op = .nilCheck x) (hd : o.dst = some d) (hlt : d < st.n) (h : sNil d st x = some E) : Local P o st E := by
  unfold sNil at h
  split at h
  · rename_i av hi
    cases h
    intro st2 hn hr
    have h1 := ev_agree (st2 := st2) (x := x) hr (fun k hk => hk)
    rw [← h1]
    exact ok_nilCheck ho hd (by rw [hn]; exact hlt) (by rw [h1]; exact hi)
  · cases h
theorem l_func [Trk] {f : FuncId} {fi ca : Array Operand} (ho : o.op = .makeFunc (.func f) fi ca) (hd : o.dst = some d) (hlt : d < st.n) (h : sFunc d st f fi ca = some E) : Local P o st E := by
  cases h
  intro st2 hn hr
  have h1 : fi.toList.map (ev st2) = fi.toList.map (ev st) := List.map_congr_left fun x hx => ev_agree hr (mem_keysL (by simp at hx ⊢; exact .inl hx))
  have h2 : ca.toList.map (ev st2) = ca.toList.map (ev st) := List.map_congr_left fun x hx => ev_agree hr (mem_keysL (by simp at hx ⊢; exact .inr hx))
  rw [← h1, ← h2]
  exact ok_makeFunc ho hd (by rw [hn]; exact hlt)
theorem l_fAddr [Trk] {T i : Nat} {x : Operand} (ho : o.op = .fieldAddr T x i) (hd : o.dst = some d) (hlt : d < st.n) (h : sFAddr P d st T x i = some E) : Local P o st E := by
  unfold sFAddr at h
  split at h
  · rename_i off ft hf
    split at h
    · rename_i k av hs hm
      cases h
      intro st2 hn hr
      exact ok_fieldAddr ho hd (by rw [hn]; exact hlt) hf hs (by rw [ev_agree hr (fun k hk => hk)]; exact hm)
    · cases h
  · cases h
theorem l_field [Trk] {T i : Nat} {x : Operand} (ho : o.op = .field T x i) (hd : o.dst = some d) (hlt : d < st.n) (h : sField P d st T x i = some E) : Local P o st E := by
  unfold sField at h
  split at h
  · rename_i off ft cs hf hx
    split at h
    · rename_i n hs hg
      cases h
      intro st2 hn hr
      exact ok_field (b := true) ho hd (by rw [hn]; exact hlt) hf hs hg (by rw [ev_agree hr (fun k hk => hk)]; exact hx) rfl
    · rename_i n hs hg
      split at h
      · rename_i p hp
        cases h
        intro st2 hn hr
        exact ok_field (b := false) ho hd (by rw [hn]; exact hlt) hf hs hg (by rw [ev_agree hr (fun k hk => hk)]; exact hx) (by simp [hp])
      · cases h
    · cases h
  · cases h
theorem l_iAddr [Trk] {T : Nat} {x ix : Operand} (ho : o.op = .indexAddr T x ix) (hd : o.dst = some d) (hlt : d < st.n) (h : sIAddr P d st T x ix = some E) : Local P o st E := by
  unfold sIAddr at h
  split at h
  rotate_left
  · cases h
  rename_i k i hi
  split at h
  rotate_left
  · cases h
  rename_i h0
  split at h
  · rename_i e hT
    split at h
    rotate_left
    · cases h
    rename_i sz hs
    split at h
    · rename_i es xs hx
      split at h
      · rename_i he
        obtain ⟨rfl, he⟩ := he
        split at h
        · rename_i c hc
          cases h
          intro st2 hn hr
          exact ok_index_sl ho hd (by rw [hn]; exact hlt) hT hs he (by rw [ev_agree hr (fun k hk => by simp [hk])]; exact hx) (by rw [ev_agree hr (fun k hk => by simp [hk])]; exact hi) h0 hc
        · cases h
      · cases h
    · rename_i es xs hx
      split at h
      · rename_i he
        obtain ⟨rfl, he⟩ := he
        split at h
        · rename_i c hc
          cases h
          intro st2 hn hr
          exact ok_index_tight ho hd (by rw [hn]; exact hlt) hT hs he (by rw [ev_agree hr (fun k hk => by simp [hk])]; exact hx) (by rw [ev_agree hr (fun k hk => by simp [hk])]; exact hi) h0 hc
        · cases h
      · cases h
    · rename_i n hx
      split at h
      · rename_i e' es xs hn'
        split at h
        · rename_i he
          subst he
          split at h
          · rename_i hl
            cases h
            intro st2 hn hr
            exact ok_index_own (e' := e') ho hd (by rw [hn]; exact hlt) hT hs (by rw [ev_agree hr (fun k hk => by simp [hk])]; exact hx) (by rw [sget_agree hr (by simp)]; exact hn') (by rw [ev_agree hr (fun k hk => by simp [hk])]; exact hi) h0 hl
          · cases h
        · cases h
      · cases h
    · cases h
  · split at h
    · rename_i n e hT
      split at h
      · rename_i sz hs
        split at h
        · rename_i hl
          split at h
          · rename_i av hm
            cases h
            intro st2 hn hr
            exact ok_index_arr ho hd (by rw [hn]; exact hlt) hT hs (by rw [ev_agree hr (fun k hk => by simp [hk])]; exact hi) h0 hl (by rw [ev_agree hr (fun k hk => by simp [hk])]; exact hm)
          · cases h
        · cases h
      · cases h
    · cases h
theorem l_index [Trk] {T : Nat} {x ix : Operand} (ho : o.op = .index T x ix) (hd : o.dst = some d) (hlt : d < st.n) (h : sIndex P d st T x ix = some E) : Local P o st E := by
  unfold sIndex at h
  split at h
  · rename_i k i s hi hx
    split at h
    · rename_i hc
      split at h
      · rename_i b hb
        cases h
        intro st2 hn hr
        exact ok_index_str ho hd (by rw [hn]; exact hlt) hc.2 (by rw [ev_agree hr (fun k hk => by simp [hk])]; exact hx) (by rw [ev_agree hr (fun k hk => by simp [hk])]; exact hi) hc.1 hb
      · cases h
    · cases h
  · cases h
theorem l_load [Trk] {T : Nat} {x : Operand} (ho : o.op = .load T x) (hd : o.dst = some d) (hlt : d < st.n) (h : sLoad P d st T x = some E) : Local P o st E := by
  unfold sLoad at h
  split at h
  rotate_left
  · cases h
  rename_i b n hg hs
  split at h
  · rename_i cs hx
    split at h
    · rename_i av hc
      cases h
      intro st2 hn hr
      exact ok_load_r ho hd (by rw [hn]; exact hlt) hg hs (by rw [ev_agree hr (fun k hk => by simp [hk])]; exact hx) hc
    · cases h
  · rename_i m off hx
    split at h
    · rename_i T' cells hm
      split at h
      · rename_i av hc
        cases h
        intro st2 hn hr
        exact ok_load_box ho hd (by rw [hn]; exact hlt) hg hs (by rw [ev_agree hr (fun k hk => by simp [hk])]; exact hx) (by rw [sget_agree hr (by simp)]; exact hm) hc
      · cases h
    · cases h
  · rename_i m es i j hx
    split at h
    · rename_i e es' xs hm
      split at h
      · rename_i he
        subst he
        split at h
        · rename_i c hc
          split at h
          · rename_i av hcut
            cases h
            intro st2 hn hr
            exact ok_load_own ho hd (by rw [hn]; exact hlt) hg hs (by rw [ev_agree hr (fun k hk => by simp [hk])]; exact hx) (by rw [sget_agree hr (by simp)]; exact hm) hc hcut
          · cases h
        · cases h
      · cases h
    · cases h
  · cases h
theorem l_alloc [Trk] {T : Nat} (ho : o.op = .alloc T) (hd : o.dst = some d) (hlt : d < st.n) (h : sAlloc P d st T = some E) : Local P o st E := by
  unfold sAlloc at h
  split at h
  · rename_i z hz
    split at h
    · rename_i hz1
      cases h
      intro st2 hn hr
      exact ok_alloc ho hd (by rw [hn]; exact hlt) hz hz1
    · cases h
  · cases h
theorem l_box [Trk] {T : Nat} {x : Operand} (ho : o.op = .box T x) (hd : o.dst = some d) (hlt : d < st.n) (h : sBox d st T x = some E) : Local P o st E := by
  unfold sBox at h
  split at h
  · rename_i cells hc
    split at h
    · rename_i hf
      cases h
      intro st2 hn hr
      exact ok_box ho hd (by rw [hn]; exact hlt) (by rw [ev_agree hr (fun k hk => by simp [hk]), cellsA_agree hr (fun k hk => by simp [hk])]; exact hc) hf
    · cases h
  · cases h
theorem l_build [Trk] {T : Nat} {ps : Array (Nat × Operand)} (ho : o.op = .build T ps) (hd : o.dst = some d) (hlt : d < st.n) (h : sBuild P d st T ps = some E) : Local P o st E := by
  unfold sBuild at h
  split at h
  rotate_left
  · cases h
  rename_i z pp hz hp
  split at h
  rotate_left
  · cases h
  rename_i hz1
  split at h
  · rename_i pl hpl
    split at h
    · rename_i cells hf
      cases h
      intro st2 hn hr
      exact ok_build_struct ho hd (by rw [hn]; exact hlt) hz hz1 hpl (by rw [partsP_agree hr (fun k hk => hk)]; exact hp) hf
    · cases h
  · split at h
    · rename_i n e hT
      split at h
      · rename_i sz hs
        split at h
        · rename_i cells hf
          cases h
          intro st2 hn hr
          exact ok_build_arr ho hd (by rw [hn]; exact hlt) hz hz1 hT hs (by rw [partsP_agree hr (fun k hk => hk)]; exact hp) hf
        · cases h
      · cases h
    · cases h
theorem l_buildS [Trk] {T n : Nat} {ps : Array (Nat × Operand)} (ho : o.op = .buildSlice T n ps) (hd : o.dst = some d) (hlt : d < st.n) (h : sBuildS P d st T n ps = some E) : Local P o st E := by
  unfold sBuildS at h
  split at h
  rotate_left
  · cases h
  rename_i e hT
  split at h
  rotate_left
  · cases h
  rename_i size by_ z pp he hz hp
  split at h
  rotate_left
  · cases h
  rename_i hc
  split at h
  · rename_i cells hf
    cases h
    intro st2 hn hr
    exact ok_buildSlice ho hd (by rw [hn]; exact hlt) hT he hz hc.1 hc.2.1 hc.2.2 (by rw [partsP_agree hr (fun k hk => hk)]; exact hp) hf
  · cases h
theorem l_slice [Trk] {T : Nat} {x : Operand} {lo hi mx : Option Operand} (ho : o.op = .slice T x lo hi mx) (hd : o.dst = some d) (hlt : d < st.n) (h : sSlice P d st T x lo hi mx = some E) : Local P o st E := by
  unfold sSlice at h
  split at h
  rotate_left
  · cases h
  rename_i e es xs hT hx
  split at h
  rotate_left
  · cases h
  rename_i sz l h' hs hl hh
  split at h
  rotate_left
  · cases h
  rename_i hc
  obtain ⟨rfl, h1, h2⟩ := hc
  split at h
  · cases h
    intro st2 hn hr
    exact ok_slice2 ho hd (by rw [hn]; exact hlt) hT hs (by rw [ev_agree hr (fun k hk => by simp [hk])]; exact hx) (by rw [bnd_agree hr (fun k hk => by simp [keysL] at hk ⊢; exact .inr (.inl hk))]; exact hl)
      (by rw [bnd_agree hr (fun k hk => by simp [keysL] at hk ⊢; exact .inr (.inr hk))]; exact hh) h1 h2
  · rename_i y
    split at h
    · rename_i hm
      cases h
      intro st2 hn hr
      exact ok_slice3 ho hd (by rw [hn]; exact hlt) hT hs (by rw [ev_agree hr (fun k hk => by simp [hk])]; exact hx) (by rw [bnd_agree hr (fun k hk => by simp [keysL] at hk ⊢; exact .inr (.inl hk))]; exact hl)
        (by rw [bnd_agree hr (fun k hk => by simp [keysL] at hk ⊢; exact .inr (.inr (.inl hk)))]; exact hh) (by rw [bnd_agree hr (fun k hk => by simp [keysL] at hk ⊢; exact .inr (.inr (.inr hk)))]; exact hm.1) rfl h1 h2 hm.2
    · cases h
theorem l_len [Trk] {T : Nat} {x : Operand} (ho : o.op = .call { callee := .builtin .len, args := #[x], argTypes := #[T] }) (hd : o.dst = some d) (hlt : d < st.n) (h : sLen P d st T x = some E) : Local P o st E := by
  unfold sLen at h
  split at h
  · rename_i e hT
    split at h
    · rename_i es hs
      split at h
      · rename_i xs hx
        cases h
        intro st2 hn hr
        exact ok_len (es := es) ho hd (by rw [hn]; exact hlt) hT (by rw [ev_agree hr (fun k hk => by simp [hk]), srcP_agree hr (fun k hk => by simp [hk])]; exact hx)
      · cases h
    · cases h
  · split at h
    · rename_i s hx
      split at h
      · rename_i hT
        cases h
        intro st2 hn hr
        exact ok_len_str ho hd (by rw [hn]; exact hlt) hT (by rw [ev_agree hr (fun k hk => by simp [hk])]; exact hx)
      · cases h
    · cases h
theorem l_builtin [Trk] {c : Call} {b : Builtin} (ho : o.op = .call c) (hb : c.callee = .builtin b) (hd : o.dst = some d) (hlt : d < st.n) (h : sBuiltin P d st b c.args c.argTypes = some E) : Local P o st E := by
  obtain ⟨callee, args, ts⟩ := c
  simp only at hb h
  subst hb
  unfold sBuiltin at h
  split at h
  · rename_i x T h1 h2
    have h1' : args = #[x] := by apply Array.toList_inj.1; simpa using h1
    have h2' : ts = #[T] := by apply Array.toList_inj.1; simpa using h2
    subst h1'; subst h2'
    exact l_len ho hd hlt h
  · rename_i x y h1
    have h1' : args = #[x, y] := by apply Array.toList_inj.1; simpa using h1
    subst h1'
    unfold sMM at h
    split at h
    · rename_i k m k' n hx hy
      cases h
      intro st2 hn hr
      exact ok_max2 ho hd (by rw [hn]; exact hlt) (by rw [ev_agree hr (fun k hk => by simp [hk])]; exact hx) (by rw [ev_agree hr (fun k hk => by simp [hk])]; exact hy)
    · cases h
  · rename_i x y h1
    have h1' : args = #[x, y] := by apply Array.toList_inj.1; simpa using h1
    subst h1'
    unfold sMM at h
    split at h
    · rename_i k m k' n hx hy
      cases h
      intro st2 hn hr
      exact ok_min2 ho hd (by rw [hn]; exact hlt) (by rw [ev_agree hr (fun k hk => by simp [hk])]; exact hx) (by rw [ev_agree hr (fun k hk => by simp [hk])]; exact hy)
    · cases h
  · cases h
theorem stepD_local [Trk] (hd : o.dst = some d) (hlt : d < st.n) (h : stepD P o.op d st = some E) : Local P o st E := by
  unfold stepD at h
  split at h
  · exact l_move (.inl ‹_›) hd hlt h
  · exact l_move (.inr ‹_›) hd hlt h
  · exact l_pick ‹_› hd hlt h
  · exact l_not ‹_› hd hlt h
  · exact l_bin ‹_› hd hlt h
  · exact l_conv ‹_› hd hlt h
  · exact l_extract ‹_› hd hlt h
  · exact l_nil ‹_› hd hlt h
  · exact l_func ‹_› hd hlt h
  · exact l_fAddr ‹_› hd hlt h
  · exact l_field ‹_› hd hlt h
  · exact l_iAddr ‹_› hd hlt h
  · exact l_index ‹_› hd hlt h
  · exact l_load ‹_› hd hlt h
  · exact l_alloc ‹_› hd hlt h
  · exact l_box ‹_› hd hlt h
  · exact l_build ‹_› hd hlt h
  · exact l_buildS ‹_› hd hlt h
  · exact l_slice ‹_› hd hlt h
  · split at h
    · exact l_builtin ‹_› ‹_› hd hlt h
    · cases h
  · cases h
theorem stepN_local [Trk] (hd : o.dst = none) (h : stepN P o.op st = some E) : Local P o st E := by
  unfold stepN at h
  split at h
  rotate_left
  · cases h
  rename_i T x y ho
  split at h
  rotate_left
  · cases h
  rename_i n hs
  split at h
  · rename_i m off hx
    split at h
    · rename_i T' cells vs hm hv
      split at h
      · rename_i hl
        split at h
        · rename_i cells' hsp
          cases h
          intro st2 hn hr
          exact ok_store_box ho hd hs (by rw [ev_agree hr (fun k hk => by simp [hk])]; exact hx) (by rw [sget_agree hr (by simp)]; exact hm)
            (by rw [ev_agree hr (fun k hk => by simp [hk]), cellsA_agree hr (fun k hk => by simp [hk])]; exact hv) hl hsp
        · cases h
      · cases h
    · cases h
  · rename_i m es i j hx
    split at h
    · rename_i e es' xs vs hm hv
      split at h
      · rename_i hl
        obtain ⟨rfl, hl⟩ := hl
        split at h
        · rename_i c hc
          split at h
          · rename_i c' hsp
            cases h
            intro st2 hn hr
            exact ok_store_own ho hd hs (by rw [ev_agree hr (fun k hk => by simp [hk])]; exact hx) (by rw [sget_agree hr (by simp)]; exact hm) hc (by rw [ev_agree hr (fun k hk => by simp [hk])]; exact hv) hl hsp
          · cases h
        · cases h
      · cases h
    · cases h
  · cases h
theorem step_local [Trk] (h : step P o st = some E) : Local P o st E := by
  unfold step at h
  split at h
  · split at h
    · exact stepD_local ‹_› ‹_› h
    · cases h
  · exact stepN_local ‹_› h

/-! ### Appends -/
theorem l_append_own [Trk] {s x : Operand} {t t' e e' size bytes : Nat} {n : Name} {xs ys : List (List PV)} (ho : o.op = .call { callee := .builtin .append, args := #[s, x], argTypes := #[t, t'] }) (hd : o.dst = some d) (hlt : d < st.n)
    (hT : elemS P t = some e) (hT' : elemS P t' = some e') (he : elemT? P e = some (size, bytes)) (hsz : 0 < size) (hs : ev st s = .own n) (hn : sget st.s n = some (.own e size xs)) (hx : srcP st size (ev st x) = some ys)
    (hb : (xs.length + ys.length) * bytes ≤ 140737488355328) (h63 : xs.length + ys.length ≤ maxLen) :
    Local P o st ⟨keyO s ++ keyO x ++ slotK (ev st x) ++ [.slot n], ⟨[(d, .own (freshN n d))], [(freshN n d, some (.own e size (xs ++ ys))), (n, none)]⟩, [freshN n d]⟩ := by
  intro st2 hn' hr
  exact ok_append_own ho hd (by rw [hn']; exact hlt) hT hT' he hsz (by rw [ev_agree hr (fun k hk => by simp [hk])]; exact hs) (by rw [sget_agree hr (by simp)]; exact hn)
    (by rw [ev_agree hr (fun k hk => by simp [hk]), srcP_agree hr (fun k hk => by simp [hk])]; exact hx) hb h63
theorem l_append_new [Trk] {s x : Operand} {t t' e e' size bytes : Nat} {xs ys : List (List PV)} (ho : o.op = .call { callee := .builtin .append, args := #[s, x], argTypes := #[t, t'] }) (hd : o.dst = some d) (hlt : d < st.n)
    (hT : elemS P t = some e) (hT' : elemS P t' = some e') (he : elemT? P e = some (size, bytes)) (hsz : 0 < size) (hs : ev st s = .tight size xs ∨ (ev st s = .pv (.v (.slice none 0 0)) ∧ xs = [])) (hx : srcP st size (ev st x) = some ys)
    (hne : xs = [] ∨ 0 < ys.length) (hb : (xs.length + ys.length) * bytes ≤ 140737488355328) (h63 : xs.length + ys.length ≤ maxLen) :
    Local P o st ⟨keyO s ++ keyO x ++ slotK (ev st x), ⟨[(d, .own (.loc d))], [(.loc d, some (.own e size (xs ++ ys)))]⟩, [.loc d]⟩ := by
  intro st2 hn' hr
  exact ok_append_new ho hd (by rw [hn']; exact hlt) hT hT' he hsz (by rw [ev_agree hr (fun k hk => by simp [hk])]; exact hs)
    (by rw [ev_agree hr (fun k hk => by simp [hk]), srcP_agree hr (fun k hk => by simp [hk])]; exact hx) hne hb h63
theorem l_make [Trk] {T e size bytes : Nat} {x y : Operand} {z : Value} {k k' : IntKind} {i : Int} (ho : o.op = .makeSlice T x y) (hd : o.dst = some d) (hlt : d < st.n) (hT : elemS P T = some e) (he : elemT? P e = some (size, bytes))
    (hz : zeroOf P e = some z) (hz1 : z.cells.toList.all (·.oneCell') = true) (hsz : 0 < size) (hx : ev st x = .pv (.v (.int k i))) (hy : ev st y = .pv (.v (.int k' i))) (h0 : 0 ≤ i) (hb : bytes * i.toNat ≤ 281474976710656) (h63 : i.toNat ≤ maxLen) :
    Local P o st ⟨keyO x ++ keyO y, ⟨[(d, .own (.loc d))], [(.loc d, some (.own e size (List.replicate i.toNat (z.cells.toList.map .v))))]⟩, [.loc d]⟩ := by
  intro st2 hn' hr
  exact ok_make ho hd (by rw [hn']; exact hlt) hT he hz hz1 hsz (by rw [ev_agree hr (fun k hk => by simp [hk])]; exact hx) (by rw [ev_agree hr (fun k hk => by simp [hk])]; exact hy) h0 hb h63

end Go.Eng
set_option autoImplicit false
set_option linter.unusedVariables false
set_option linter.unusedSimpArgs false
namespace Go.Eng
open Go Go.RowKit
variable {P : Program}

/-! ## Code -/
def AW [Trk] (P : Program) (c : Code) (Q : Exit → AState → Prop) (st : AState) : Prop :=
  ∀ (Γ : Ctx) (ρ : Rho) (a : Act) (w : World), Ok Γ st ρ a w → c.wp P (fun e a' w' => ∃ st' ρ', Q e st' ∧ Ok Γ st' ρ' a' w') a w

def thenQ [Trk] (P : Program) (c : Code) (Q : Exit → AState → Prop) : Exit → AState → Prop
  | .normal, st => AW P c Q st
  | e, st => Q e st
def blockQ (id : Nat) (Q : Exit → AState → Prop) : Exit → AState → Prop
  | .exit i, st => if i = id then Q .normal st else Q (.exit i) st
  | e, st => Q e st

theorem AW.mono [Trk] {c : Code} {Q Q' : Exit → AState → Prop} {st : AState} (h : AW P c Q st) (hq : ∀ e s, Q e s → Q' e s) : AW P c Q' st :=
  fun Γ ρ a w hok => wp_mono (h Γ ρ a w hok) fun e a' w' ⟨st', ρ', h1, h2⟩ => ⟨st', ρ', hq _ _ h1, h2⟩
theorem aw_seq [Trk] {x y : Code} {Q : Exit → AState → Prop} {st : AState} (h : AW P x (thenQ P y Q) st) : AW P (.seq x y) Q st := by
  intro Γ ρ a w hok
  refine wp_seq (wp_mono (h Γ ρ a w hok) ?_)
  rintro e a' w' ⟨st', ρ', h1, h2⟩
  cases e <;> first | exact h1 Γ ρ' a' w' h2 | exact ⟨st', ρ', h1, h2⟩
theorem aw_skip [Trk] {Q : Exit → AState → Prop} {st : AState} (h : Q .normal st) : AW P .skip Q st := fun Γ ρ a w hok => wp_skip ⟨st, ρ, h, hok⟩
theorem aw_exit [Trk] {id : Nat} {Q : Exit → AState → Prop} {st : AState} (h : Q (.exit id) st) : AW P (.exit id) Q st := fun Γ ρ a w hok => wp_exit ⟨st, ρ, h, hok⟩
theorem aw_ret [Trk] {Q : Exit → AState → Prop} {st : AState} (h : Q .ret st) : AW P .ret Q st := fun Γ ρ a w hok => wp_ret ⟨st, ρ, h, hok⟩
theorem aw_block [Trk] {id : Nat} {c : Code} {Q : Exit → AState → Prop} {st : AState} (h : AW P c (blockQ id Q) st) : AW P (.block id c) Q st := by
  intro Γ ρ a w hok
  refine wp_block (wp_mono (h Γ ρ a w hok) ?_)
  rintro e a' w' ⟨st', ρ', h1, h2⟩
  cases e with
  | exit i =>
    simp only [blockQ, Exit.inBlock] at h1 ⊢
    split <;> rename_i hi
    · rw [if_pos hi] at h1; exact ⟨st', ρ', h1, h2⟩
    · rw [if_neg hi] at h1; exact ⟨st', ρ', h1, h2⟩
  | _ => exact ⟨st', ρ', h1, h2⟩
theorem aw_cond [Trk] {c : Operand} {x y : Code} {b : Bool} {Q : Exit → AState → Prop} {st : AState} (hc : ev st c = .pv (.v (.bool b))) (ht : b = true → AW P x Q st) (hf : b = false → AW P y Q st) : AW P (.cond c x y) Q st := by
  intro Γ ρ a w hok
  have h1 := ev_rel hok c
  rw [hc] at h1
  exact wp_cond_split (pv_inv h1) (fun h => ht h Γ ρ a w hok) (fun h => hf h Γ ρ a w hok)

/-! ### Less is known -/
def Sub [Trk] (st st' : AState) : Prop := ∀ (Γ : Ctx) (ρ : Rho) (a : Act) (w : World), Ok Γ st ρ a w → ∃ ρ', Ok Γ st' ρ' a w
theorem Sub.refl [Trk] (st : AState) : Sub st st := fun Γ ρ a w h => ⟨ρ, h⟩
theorem Sub.trans [Trk] {a b c : AState} (h : Sub a b) (k : Sub b c) : Sub a c := fun Γ ρ x w hok => let ⟨ρ', h'⟩ := h Γ ρ x w hok; k Γ ρ' x w h'
theorem aw_sub [Trk] {c : Code} {Q : Exit → AState → Prop} {st st' : AState} (h : Sub st st') (k : AW P c Q st') : AW P c Q st := fun Γ ρ a w hok => let ⟨ρ', h'⟩ := h Γ ρ a w hok; k Γ ρ' a w h'

theorem tget_mem [Trk] : ∀ {l : List (Nat × AV)} {t : Nat}, tget l t = .dead ∨ (t, tget l t) ∈ l
  | [], _ => .inl rfl
  | (k, v) :: r, t => by
    simp only [tget]
    split
    · rename_i h; subst h; exact .inr (by simp)
    · rcases tget_mem (l := r) (t := t) with h | h
      · exact .inl h
      · exact .inr (by simp [h])
theorem sget_mem [Trk] : ∀ {l : SMap} {n : Name}, sget l n = none ∨ (n, sget l n) ∈ l
  | [], _ => .inl rfl
  | (k, v) :: r, n => by
    simp only [sget]
    split
    · rename_i h; subst h; exact .inr (by simp)
    · rcases sget_mem (l := r) (n := n) with h | h
      · exact .inl h
      · exact .inr (by simp [h])
/-- What is kept of the temporaries and of the slots is what is listed. -/
theorem Sub.of [Trk] {st st' : AState} (hn : st'.n = st.n) (ht : ∀ p ∈ st'.t, p.2 = tget st.t p.1) (hs : ∀ p ∈ st'.s, p.2 = sget st.s p.1) : Sub st st' := by
  intro Γ ρ a w hok
  refine ⟨ρ, hok.defers, by rw [hn]; exact hok.size, fun t => ?_, hok.sok.sub ⟨fun n s' h => ?_⟩⟩
  · rcases tget_mem (l := st'.t) (t := t) with h | h
    · rw [h]; trivial
    · have := ht _ h
      simp only at this
      rw [this]; exact hok.tmps t
  · rcases sget_mem (l := st'.s) (n := n) with h1 | h1
    · rw [h1] at h; cases h
    · have := hs _ h1
      simp only at this
      rw [h] at this
      exact ⟨s', this.symm, fun _ _ k => k, fun _ => rfl⟩

/-! ### Loops -/
def loopQ [Trk] {ι : Type} (head : ι → AState) (μ : ι → Nat) (i : ι) (Q : Exit → AState → Prop) : Exit → AState → Prop
  | .normal, st => ∃ j, μ j < μ i ∧ Sub st (head j)
  | e, st => Q e st
theorem exists_least [Trk] (p : Nat → Prop) : ∀ n, p n → ∃ m, p m ∧ ∀ q, p q → m ≤ q := by
  intro n
  induction n using Nat.strongRecOn with
  | _ n ih =>
    intro h
    by_cases hq : ∃ q, q < n ∧ p q
    · obtain ⟨q, h1, h2⟩ := hq; exact ih q h1 h2
    · exact ⟨n, h, fun q h2 => Nat.le_of_not_lt fun h3 => hq ⟨q, h3, h2⟩⟩
theorem aw_loop [Trk] {ι : Type} {c : Code} {Q : Exit → AState → Prop} {st : AState} (head : ι → AState) (μ : ι → Nat) (i0 : ι) (h0 : Sub st (head i0)) (hr : ∀ i, AW P c (loopQ head μ i Q) (head i)) : AW P (.loop c) Q st := by
  intro Γ ρ a w hok
  obtain ⟨ρ0, hok0⟩ := h0 Γ ρ a w hok
  classical
  let meas : Act → World → Nat → Prop := fun a w n => ∃ i ρ, Ok Γ (head i) ρ a w ∧ μ i = n
  let μ' : Act → World → Nat := fun a w => if h : ∃ n, meas a w n ∧ ∀ q, meas a w q → n ≤ q then Classical.choose h else 0
  refine wp_loop (fun a w => ∃ i ρ, Ok Γ (head i) ρ a w) μ' ⟨i0, ρ0, hok0⟩ ?_
  intro a w hI
  have hex : ∃ n, meas a w n ∧ ∀ q, meas a w q → n ≤ q := by obtain ⟨i, ρ, h⟩ := hI; exact exists_least _ (μ i) ⟨i, ρ, h, rfl⟩
  obtain ⟨i, ρ1, h1, h2⟩ := (Classical.choose_spec hex).1
  have hμ : μ' a w = μ i := by simp only [μ', dif_pos hex]; exact h2.symm
  refine wp_mono (hr i Γ ρ1 a w h1) ?_
  rintro e a' w' ⟨st', ρ', h3, h4⟩
  cases e with
  | normal =>
    obtain ⟨j, h5, h6⟩ := h3
    obtain ⟨ρ2, h7⟩ := h6 Γ ρ' a' w' h4
    have hex' : ∃ n, meas a' w' n ∧ ∀ q, meas a' w' q → n ≤ q := exists_least _ (μ j) ⟨j, ρ2, h7, rfl⟩
    refine ⟨⟨j, ρ2, h7⟩, ?_⟩
    have : μ' a' w' ≤ μ j := by simp only [μ', dif_pos hex']; exact (Classical.choose_spec hex').2 _ ⟨j, ρ2, h7, rfl⟩
    omega
  | _ => exact ⟨st', ρ', h3, h4⟩

/-! ### Regions -/
def AR [Trk] (P : Program) (ops : Array Oper) (draw : Bool) (st0 : AState) (Q : Exit → AState → Prop) (r : Nat × AState × List Eff) : Prop :=
  ∃ tr st', Run P ops r.1 r.2.1 tr st' ∧ (draw = true → checkTr ops st0 (r.2.2 ++ tr) = true) ∧ Q .normal st'
theorem aw_region [Trk] {id : Nat} {ops : Array Oper} {Q : Exit → AState → Prop} {st : AState} (h : AR P ops false st Q (0, st, [])) : AW P (.region id ops false) Q st := by
  obtain ⟨tr, st', h1, _, h2⟩ := h
  intro Γ ρ a w hok
  refine wp_region ?_
  have := h1.sound (Γ := Γ) (Q := fun e a' w' => ∃ st' ρ', Q e st' ∧ Ok Γ st' ρ' a' w') (fun ρ' a' w' h => ⟨st', ρ', h2, h⟩) ρ a w hok
  rwa [List.range_eq_range']
theorem aw_region_draw [Trk] {id : Nat} {ops : Array Oper} {Q : Exit → AState → Prop} {st : AState} (hm : P.follows .mixedOrders = true) (h : AR P ops true st Q (0, st, [])) : AW P (.region id ops true) Q st := by
  obtain ⟨tr, st', h1, h3, h2⟩ := h
  intro Γ ρ a w hok
  refine wp_region_any hm ?_
  exact h1.any (by simpa using h3 rfl) (Γ := Γ) (Q := fun e a' w' => ∃ st' ρ', Q e st' ∧ Ok Γ st' ρ' a' w') (fun ρ' a' w' h => ⟨st', ρ', h2, h⟩) (hok.world (w' := { w with drawn := w.drawn + 1 }) rfl rfl rfl rfl (fun _ => Nat.le_succ _))
theorem ar_done [Trk] {ops : Array Oper} {draw : Bool} {st0 st : AState} {Q : Exit → AState → Prop} {i : Nat} {acc : List Eff} (hi : ops.size = i) (hc : draw = true → checkTr ops st0 acc = true) (h : Q .normal st) : AR P ops draw st0 Q (i, st, acc) :=
  ⟨[], st, .nil hi, by simpa using hc, h⟩
theorem ar_at [Trk] {ops : Array Oper} {draw : Bool} {st0 st : AState} {Q : Exit → AState → Prop} {i : Nat} {acc acc' : List Eff} {E : Eff} (hi : i < ops.size) (hl : LocalAt P ops i (st.killAll E.c) E) (hacc : draw = true → acc' = acc ++ [E])
    (h : AR P ops draw st0 Q (i + 1, (st.killAll E.c).app E.u, acc')) : AR P ops draw st0 Q (i, st, acc) := by
  obtain ⟨tr, st', h1, h2, h3⟩ := h
  refine ⟨E :: tr, st', .cons hi hl h1, fun hd => ?_, h3⟩
  have := h2 hd
  rw [hacc hd] at this
  simpa using this
/-- One operation whose effect is known. -/
theorem ar_local [Trk] {ops : Array Oper} {draw : Bool} {st0 st : AState} {Q : Exit → AState → Prop} {i : Nat} {acc : List Eff} {E : Eff} {o : Oper} (ho : ops[i]? = some o) (hg : o.guard = none) (hl : Local P o (st.killAll E.c) E)
    (h : AR P ops draw st0 Q (i + 1, (st.killAll E.c).app E.u, acc ++ [E])) : AR P ops draw st0 Q (i, st, acc) :=
  ar_at (Array.getElem?_eq_some_iff.1 ho).1 (LocalAt.plain ho hg hl) (fun _ => rfl) h
theorem ar_local_if [Trk] {ops : Array Oper} {draw : Bool} {st0 st : AState} {Q : Exit → AState → Prop} {i j d : Nat} {b : Bool} {acc : List Eff} {E : Eff} {o : Oper} (ho : ops[i]? = some o) (hg : o.guard = some (j, b)) (hj : (ops[j]?).bind (·.dst) = some d)
    (hv : tget (st.killAll E.c).t d = .pv (.v (.bool b))) (hl : Local P o (st.killAll E.c) E) (h : AR P ops draw st0 Q (i + 1, (st.killAll E.c).app E.u, acc ++ [{ E with r := .tmp d :: E.r }])) : AR P ops draw st0 Q (i, st, acc) :=
  ar_at (E := { E with r := .tmp d :: E.r }) (Array.getElem?_eq_some_iff.1 ho).1 (LocalAt.guarded ho hg hj hv hl) (fun _ => rfl) h

def creates (o : Oper) : List Name :=
  match o.op, o.dst with
  | .alloc _, some d | .box _ _, some d | .buildSlice _ _ _, some d => [.loc d]
  | _, _ => []
/-- One operation, if it can be done here. -/
def stepK (P : Program) (o : Oper) (st : AState) : Option (Eff × AState) :=
  match step P o (st.killAll (creates o)) with
  | some E => if E.c = creates o then some (E, (st.killAll (creates o)).app E.u) else none
  | none => none
def stepG (P : Program) (ops : Array Oper) (o : Oper) (st : AState) : Option (Eff × AState) :=
  match o.guard with
  | none => stepK P o st
  | some (j, b) => match (ops[j]?).bind (·.dst) with
    | some d => match tget st.t d with
      | .pv (.v (.bool c)) =>
        if c = b then (match stepK P o st with
          | some (E, st') => some ({ E with r := .tmp d :: E.r }, st')
          | none => none)
        else (match o.dst with
          | some q => if q < st.n then some (⟨[.tmp d], ⟨[(q, .tup [])], []⟩, []⟩, st.app ⟨[(q, .tup [])], []⟩) else none
          | none => some (⟨[.tmp d], ⟨[], []⟩, []⟩, st))
      | .tup [] => (match o.dst with
          | some q => if q < st.n then some (⟨[.tmp d], ⟨[(q, .tup [])], []⟩, []⟩, st.app ⟨[(q, .tup [])], []⟩) else none
          | none => some (⟨[.tmp d], ⟨[], []⟩, []⟩, st))
      | _ => none
    | none => none
def runs (P : Program) (ops : Array Oper) (draw : Bool) : List Oper → Nat → AState → List Eff → Nat × AState × List Eff
  | [], i, st, acc => (i, st, acc)
  | o :: l, i, st, acc => match stepG P ops o st with
    | some (E, st') => runs P ops draw l (i + 1) st' (if draw = true then acc ++ [E] else acc)
    | none => (i, st, acc)

theorem tget_killAll_pv [Trk] {d : Nat} {p : PV} : ∀ (l : List Name) {st : AState}, tget st.t d = .pv p → tget (st.killAll l).t d = .pv p
  | [], _, h => h
  | n :: l, st, h => tget_killAll_pv l (by simp only [AState.kill, tget_kill, h]; rfl)
theorem stepK_ok [Trk] {o : Oper} {st st' : AState} {E : Eff} (h : stepK P o st = some (E, st')) : Local P o (st.killAll E.c) E ∧ st' = (st.killAll E.c).app E.u := by
  unfold stepK at h
  split at h
  · rename_i E' hE
    split at h
    · rename_i hc
      cases h
      rw [hc]
      exact ⟨step_local hE, rfl⟩
    · cases h
  · cases h
theorem stepG_ok [Trk] {ops : Array Oper} {i : Nat} {o : Oper} {st st' : AState} {E : Eff} (ho : ops[i]? = some o) (h : stepG P ops o st = some (E, st')) : LocalAt P ops i (st.killAll E.c) E ∧ st' = (st.killAll E.c).app E.u := by
  unfold stepG at h
  split at h
  · rename_i hg
    obtain ⟨h1, h2⟩ := stepK_ok h
    exact ⟨LocalAt.plain ho hg h1, h2⟩
  · rename_i j b hg
    split at h
    · rename_i d hd
      split at h
      · rename_i c hv
        split at h
        · rename_i hcb
          subst hcb
          split at h
          · rename_i E' st2 hE
            cases h
            obtain ⟨h1, h2⟩ := stepK_ok hE
            exact ⟨LocalAt.guarded (E := E') ho hg hd (tget_killAll_pv _ hv) h1, h2⟩
          · cases h
        · rename_i hcb
          have hcb' : c = !b := by cases c <;> cases b <;> simp_all
          subst hcb'
          split at h
          · rename_i q hq
            split at h
            · rename_i hlt
              cases h
              have := LocalAt.skipped (P := P) (st := st) ho hg hd hv (.inl rfl) (fun q' hq' => by rw [hq] at hq'; cases hq'; exact hlt)
              rw [hq] at this
              exact ⟨this, rfl⟩
            · cases h
          · rename_i hq
            cases h
            have := LocalAt.skipped (P := P) (st := st) ho hg hd hv (.inl rfl) (fun q' hq' => by rw [hq] at hq'; cases hq')
            rw [hq] at this
            exact ⟨this, rfl⟩
      · rename_i hv
        split at h
        · rename_i q hq
          split at h
          · rename_i hlt
            cases h
            have := LocalAt.skipped (P := P) (st := st) ho hg hd hv (.inr rfl) (fun q' hq' => by rw [hq] at hq'; cases hq'; exact hlt)
            rw [hq] at this
            exact ⟨this, rfl⟩
          · cases h
        · rename_i hq
          cases h
          have := LocalAt.skipped (P := P) (st := st) ho hg hd hv (.inr rfl) (fun q' hq' => by rw [hq] at hq'; cases hq')
          rw [hq] at this
          exact ⟨this, rfl⟩
      · cases h
    · cases h
theorem ar_runs [Trk] {ops : Array Oper} {draw : Bool} {st0 : AState} {Q : Exit → AState → Prop} : ∀ (l : List Oper) (i : Nat) (st : AState) (acc : List Eff), ops.toList.drop i = l → AR P ops draw st0 Q (runs P ops draw l i st acc) → AR P ops draw st0 Q (i, st, acc)
  | [], _, _, _, _, h => h
  | o :: l, i, st, acc, hl, h => by
    simp only [runs] at h
    have ho : ops[i]? = some o := by
      have : (ops.toList.drop i)[0]? = some o := by rw [hl]; rfl
      simpa [List.getElem?_drop] using this
    split at h
    · rename_i E st' hs
      obtain ⟨h1, rfl⟩ := stepG_ok ho hs
      refine ar_at (acc' := if draw = true then acc ++ [E] else acc) (Array.getElem?_eq_some_iff.1 ho).1 h1 (fun hd => by rw [if_pos hd]) ?_
      exact ar_runs l (i + 1) _ _ (by rw [← List.tail_drop, hl]; rfl) h
    · exact h

end Go.Eng
set_option autoImplicit false
set_option linter.unusedVariables false
set_option linter.unusedSimpArgs false
namespace Go.Eng
open Go Go.RowKit
variable {P : Program}

/-! ## Ghost steps -/
/-- An own slice's value, read as any slice is. -/
theorem own_pv [Trk] {ρ : Rho} {w : World} {n : Name} {e es : Nat} {xs : List (List PV)} (h : SlotOK ρ w n (.own e es xs)) {F : Nat → Prop} (hF : ∀ b, ρ.F b → F b) (hn : ∀ b, ownBlk (ρ.ov n) = some b → F b) : PRel F w (.sl es xs) (ρ.ov n) := by
  obtain ⟨a, cap, h1, h2, h3⟩ := own_shape h
  by_cases h0 : 0 < xs.length
  · obtain ⟨g, cap', cur, vs, k1, k2, k3, k4, k5, k6, k7⟩ := own_form h h0
    refine ⟨some ⟨g, 0, none⟩, cap', vs, k1, k3, k4, PElems.keep ⟨hF, fun _ _ => rfl⟩ _ _ k7, .inr ⟨_, rfl, hn g (by rw [k1]; simp [ownBlk]; omega), fun j u hu => ?_⟩⟩
    rw [Addr.add_lit, cell_of_row w _ _ cur _ _ k2, ← Array.getElem?_toList]
    rw [← k6, List.getElem?_take] at hu
    split at hu
    · simpa using hu
    · cases hu
  · have hx : xs = [] := List.eq_nil_of_length_eq_zero (by omega)
    subst hx
    exact ⟨a, cap, [], h1, h2, h3, rfl, .inl rfl⟩

def AV.frz (n : Name) (es : Nat) (xs : List (List PV)) (a : AV) : AV :=
  match a with
  | .own m => if m = n then .pv (.sl es xs) else .own m
  | a => if a.has n = true then .dead else a
def Slot.map (f : AV → AV) : Slot → Slot
  | .box T cells => .box T (cells.map f)
  | .own e es xs => .own e es xs
def tmap (f : AV → AV) : List (Nat × AV) → List (Nat × AV)
  | [] => []
  | (k, v) :: r => (k, f v) :: tmap f r
def smap (f : AV → AV) : SMap → SMap
  | [] => []
  | (k, v) :: r => (k, v.map (Slot.map f)) :: smap f r
theorem tget_tmap [Trk] {f : AV → AV} (hf : f .dead = .dead) : ∀ (l : List (Nat × AV)) (t : Nat), tget (tmap f l) t = f (tget l t)
  | [], t => hf.symm
  | (k, v) :: r, t => by
    simp only [tmap, tget]; split
    · rfl
    · exact tget_tmap hf r t
theorem sget_smap [Trk] {f : AV → AV} : ∀ (l : SMap) (m : Name), sget (smap f l) m = (sget l m).map (Slot.map f)
  | [], m => rfl
  | (k, v) :: r, m => by
    simp only [smap, sget]; split
    · rfl
    · exact sget_smap r m
theorem ARels.map [Trk] {ρ ρ' : Rho} {w w' : World} {f : AV → AV} (h : ∀ a v, ARel ρ w a v → ARel ρ' w' (f a) v) : ∀ {l : List AV} {vs : List Value}, ARels ρ w l vs → ARels ρ' w' (l.map f) vs
  | [], vs, h => by simpa only [ARels, List.map_nil] using h
  | a :: l, vs, k => by
    obtain ⟨v, vs', h1, h2, h3⟩ := k
    exact ⟨v, vs', h1, h a v h2, ARels.map h h3⟩

/-- Everything is read by other roles; one slot is gone. -/
theorem Ok.turn [Trk] {Γ : Ctx} {st : AState} {ρ ρ' : Rho} {a : Act} {w : World} (h : Ok Γ st ρ a w) (n : Name) {f : AV → AV} (hf : f .dead = .dead) (hb : ρ'.blk = ρ.blk) (ho : ρ'.ov = ρ.ov) {s : Slot} {b0 : Option Nat} (hn : sget st.s n = some s) (hs : slotBlk ρ n s = b0)
    (hF : ∀ b, ρ'.F b ↔ ρ.F b ∨ b0 = some b) (hrel : ∀ x v, ARel ρ w x v → ARel ρ' w (f x) v) : Ok Γ ⟨st.n, tmap f st.t, (n, none) :: smap f st.s⟩ ρ' a w := by
  have k : Keep ρ.F w ρ'.F w := ⟨fun b hb => (hF b).2 (.inl hb), fun _ _ => rfl⟩
  have hget : ∀ m t, sget ((n, none) :: smap f st.s) m = some t → m ≠ n ∧ ∃ t0, sget st.s m = some t0 ∧ t = Slot.map f t0 := by
    intro m t hm
    simp only [sget] at hm
    split at hm
    · cases hm
    · rename_i hne
      rw [sget_smap] at hm
      cases hq : sget st.s m with
      | none => rw [hq] at hm; cases hm
      | some t0 => rw [hq] at hm; simp at hm; exact ⟨hne, t0, rfl, hm.symm⟩
  have hblk : ∀ m t, slotBlk ρ' m (Slot.map f t) = slotBlk ρ m t := by
    intro m t
    cases t <;> simp [slotBlk, Slot.map, hb, ho]
  have hlt : ∀ b, b0 = some b → b < w.heap.size := by
    intro b hb
    rw [← hs] at hb
    have := h.sok.slots n s hn
    cases s with
    | box T cells => obtain ⟨cs, h1, _⟩ := this; simp [slotBlk] at hb; subst hb; exact (Array.getElem?_eq_some_iff.1 h1).1
    | own e es xs => obtain ⟨vs, h1, _⟩ := this; exact h1.lt hb
  refine ⟨h.defers, h.size, fun t => by rw [tget_tmap hf]; exact hrel _ _ (h.tmps t), { h.sok with slots := ?_, disj := ?_, sep := ?_, flt := ?_, fmono := ?_, fnew := ?_, home := ?_, xblk := fun i => by rw [hb]; exact h.sok.xblk i, glob := h.sok.glob.keep k }⟩
  · intro m t hm
    obtain ⟨hne, t0, h1, rfl⟩ := hget m t hm
    have := h.sok.slots m t0 h1
    cases t0 with
    | box T cells =>
      obtain ⟨cs, k1, k2, k3⟩ := this
      exact ⟨cs, by rw [hb]; exact k1, k2.map hrel, k3⟩
    | own e es xs =>
      obtain ⟨vs, k1, k2⟩ := this
      exact ⟨vs, by rw [ho]; exact k1, PElems.keep k _ _ k2⟩
  · intro m m' t t' b h1 h2 h3 h4
    obtain ⟨_, t0, k1, rfl⟩ := hget m t h1
    obtain ⟨_, t1, l1, rfl⟩ := hget m' t' h2
    rw [hblk] at h3 h4
    exact h.sok.disj m m' _ _ b k1 l1 h3 h4
  · intro m t b h1 h2 h3
    obtain ⟨hne, t0, k1, rfl⟩ := hget m t h1
    rw [hblk] at h2
    rcases (hF b).1 h3 with h4 | h4
    · exact h.sok.sep m t0 b k1 h2 h4
    · exact hne (h.sok.disj m n t0 s b k1 hn h2 (by rw [hs, h4]))
  · intro b hb'
    rcases (hF b).1 hb' with h4 | h4
    · exact h.sok.flt b h4
    · exact hlt b h4
  · intro b hb'; exact (hF b).2 (.inl (h.sok.fmono b hb'))
  · intro b hb'
    rcases (hF b).1 hb' with h4 | h4
    · exact h.sok.fnew b h4
    · exact .inr (h.sok.home n s b hn (by rw [hs, h4]))
  · intro m t b h1 h2
    obtain ⟨_, t0, k1, rfl⟩ := hget m t h1
    rw [hblk] at h2
    exact h.sok.home m t0 b k1 h2

theorem Ok.mapf [Trk] {Γ : Ctx} {st : AState} {ρ : Rho} {a : Act} {w : World} (h : Ok Γ st ρ a w) {f : AV → AV} (hf : f .dead = .dead) (hrel : ∀ x v, ARel ρ w x v → ARel ρ w (f x) v) : Ok Γ ⟨st.n, tmap f st.t, smap f st.s⟩ ρ a w := by
  have hget : ∀ m t, sget (smap f st.s) m = some t → ∃ t0, sget st.s m = some t0 ∧ t = Slot.map f t0 := by
    intro m t hm
    rw [sget_smap] at hm
    cases hq : sget st.s m with
    | none => rw [hq] at hm; cases hm
    | some t0 => rw [hq] at hm; simp at hm; exact ⟨t0, rfl, hm.symm⟩
  have hblk : ∀ m t, slotBlk ρ m (Slot.map f t) = slotBlk ρ m t := by intro m t; cases t <;> rfl
  refine ⟨h.defers, h.size, fun t => by rw [tget_tmap hf]; exact hrel _ _ (h.tmps t), { h.sok with slots := ?_, disj := ?_, sep := ?_, home := ?_ }⟩
  · intro m t hm
    obtain ⟨t0, h1, rfl⟩ := hget m t hm
    have := h.sok.slots m t0 h1
    cases t0 with
    | box T cells => obtain ⟨cs, k1, k2, k3⟩ := this; exact ⟨cs, k1, k2.map hrel, k3⟩
    | own e es xs => exact this
  · intro m m' t t' b h1 h2 h3 h4
    obtain ⟨t0, k1, rfl⟩ := hget m t h1
    obtain ⟨t1, l1, rfl⟩ := hget m' t' h2
    rw [hblk] at h3 h4
    exact h.sok.disj m m' _ _ b k1 l1 h3 h4
  · intro m t b h1 h2
    obtain ⟨t0, k1, rfl⟩ := hget m t h1
    rw [hblk] at h2
    exact h.sok.sep m t0 b k1 h2
  · intro m t b h1 h2
    obtain ⟨t0, k1, rfl⟩ := hget m t h1
    rw [hblk] at h2
    exact h.sok.home m t0 b k1 h2

def AState.freeze (st : AState) (n : Name) : AState :=
  match sget st.s n with
  | some (.own _ es xs) => ⟨st.n, tmap (AV.frz n es xs) st.t, (n, none) :: smap (AV.frz n es xs) st.s⟩
  | _ => st
theorem Sub.freeze [Trk] (st : AState) (n : Name) : Sub st (st.freeze n) := by
  intro Γ ρ a w hok
  unfold AState.freeze
  split
  · rename_i e es xs hn
    refine ⟨⟨ρ.blk, ρ.ov, fun b => ρ.F b ∨ ownBlk (ρ.ov n) = some b⟩, hok.turn n (by simp [AV.frz, AV.has]) rfl rfl hn rfl (fun b => Iff.rfl) fun x v hx => ?_⟩
    have k : Keep ρ.F w (fun b => ρ.F b ∨ ownBlk (ρ.ov n) = some b) w := ⟨fun b hb => .inl hb, fun _ _ => rfl⟩
    have hgen : ∀ x : AV, ARel ρ w x v → ARel ⟨ρ.blk, ρ.ov, fun b => ρ.F b ∨ ownBlk (ρ.ov n) = some b⟩ w (if x.has n = true then .dead else x) v := by
      intro x hx
      split
      · trivial
      · exact ARel.keep' (ρ := ρ) (ρ' := ⟨ρ.blk, ρ.ov, _⟩) k rfl rfl hx
    cases x with
    | own m =>
      simp only [AV.frz]
      split
      · rename_i hm
        subst hm
        have hv : v = ρ.ov m := hx
        rw [hv]
        exact own_pv (hok.sok.slots m _ hn) (fun b hb => .inl hb) (fun b hb => .inr hb)
      · exact hx
    | _ => exact hgen _ hx
  · exact ⟨ρ, hok⟩

def AV.frzB (n : Name) (ps : List PV) (a : AV) : AV :=
  match a with
  | .ptr m off => if m = n then .rptr (ps.drop off) else .ptr m off
  | a => if a.has n = true then .dead else a
def AState.freezeB (st : AState) (n : Name) : AState :=
  match sget st.s n with
  | some (.box _ cells) => match allPV cells with
    | some ps => ⟨st.n, tmap (AV.frzB n ps) st.t, (n, none) :: smap (AV.frzB n ps) st.s⟩
    | none => st
  | _ => st
theorem Sub.freezeB [Trk] (st : AState) (n : Name) : Sub st (st.freezeB n) := by
  intro Γ ρ a w hok
  unfold AState.freezeB
  split
  rotate_left
  · exact ⟨ρ, hok⟩
  rename_i T cells hn
  split
  rotate_left
  · exact ⟨ρ, hok⟩
  rename_i ps hps
  obtain ⟨cs, h1, h2, h3⟩ := hok.sok.slots n _ hn
  refine ⟨⟨ρ.blk, ρ.ov, fun b => ρ.F b ∨ some (ρ.blk n) = some b⟩, hok.turn n (by simp [AV.frzB, AV.has]) rfl rfl hn rfl (fun b => Iff.rfl) fun x v hx => ?_⟩
  have k : Keep ρ.F w (fun b => ρ.F b ∨ some (ρ.blk n) = some b) w := ⟨fun b hb => .inl hb, fun _ _ => rfl⟩
  have hgen : ∀ x : AV, ARel ρ w x v → ARel ⟨ρ.blk, ρ.ov, fun b => ρ.F b ∨ some (ρ.blk n) = some b⟩ w (if x.has n = true then .dead else x) v := by
    intro x hx
    split
    · trivial
    · exact ARel.keep' (ρ := ρ) (ρ' := ⟨ρ.blk, ρ.ov, _⟩) k rfl rfl hx
  cases x with
  | ptr m off =>
    simp only [AV.frzB]
    split
    · rename_i hm
      subst hm
      have hv : v = .pointer (some ⟨ρ.blk m, off, none⟩) := hx
      have hrel := allPV_rel hps h2
      refine ⟨⟨ρ.blk m, off, none⟩, cs.toList.drop off, hv, (PVs.keep k _ _ hrel).drop off, .inr (.inr rfl), fun j u hu => ?_⟩
      rw [Addr.add_lit, cell_of_row w _ _ cs _ _ h1, ← Array.getElem?_toList]
      rwa [List.getElem?_drop] at hu
    · exact hx
  | _ => exact hgen _ hx

/-- A slice called otherwise, wherever it is held. -/
def AV.renN (n m : Name) (a : AV) : AV :=
  match a with
  | .own q => if q = n then .own m else .own q
  | a => a
def AState.ren (st : AState) (n m : Name) : AState :=
  match sget st.s n with
  | some (.own e es xs) => if m = n then st else ⟨st.n, tmap (AV.renN n m) (st.kill m).t, (m, some (.own e es xs)) :: (n, none) :: smap (AV.renN n m) (st.kill m).s⟩
  | _ => st
theorem Sub.ren [Trk] (st : AState) (n m : Name) : Sub st (st.ren n m) := by
  intro Γ ρ a w hok
  unfold AState.ren
  split
  rotate_left
  · exact ⟨ρ, hok⟩
  rename_i e es xs hn
  split
  · exact ⟨ρ, hok⟩
  rename_i hne
  have hok1 := hok.kill m
  have hn1 : sget (st.kill m).s n = some (.own e es xs) := by simp only [AState.kill, sget_kill, hn]; rfl
  have hok2 := hok1.ren hne hn1 (st.kill_free m)
  refine ⟨ρ.ren n m, hok2.mapf (f := AV.renN n m) rfl fun x v h => ?_⟩
  cases x with
  | own q =>
    simp only [AV.renN]
    split
    · rename_i hq
      subst hq
      have h' : v = (ρ.ren q m).ov q := h
      show v = (ρ.ren q m).ov m
      rw [h']; simp [Rho.ren]
    · exact h
  | _ => exact h

/-- A nil slice in a temporary is called an own one that is empty. -/
def isNilV : AV → Bool
  | .pv (.v (.slice none 0 0)) => true
  | _ => false
theorem isNilV_rel [Trk] {ρ : Rho} {w : World} {a : AV} {v : Value} (h : isNilV a = true) (k : ARel ρ w a v) : v = .slice none 0 0 := by
  unfold isNilV at h
  split at h
  · exact pv_inv k
  · cases h
def AState.ownNil (st : AState) (t : Nat) (n : Name) (e : TypeId) (es : Nat) : AState :=
  if isNilV (tget st.t t) = true then (st.kill n).app ⟨[(t, .own n)], [(n, some (.own e es []))]⟩ else st
theorem ownNil_ok [Trk] {Γ : Ctx} {st : AState} {ρ : Rho} {a : Act} {w : World} (h : Ok Γ st ρ a w) (n : Name) (e : TypeId) (es : Nat) : Ok Γ ((st.kill n).app ⟨[], [(n, some (.own e es []))]⟩) (ρ.slice n (.slice none 0 0)) a w :=
  (h.kill n).slot n (some (.own e es [])) rfl (fun _ => rfl) (fun m hm => Rho.slice_same _ _ _ hm) (.inr (st.kill_free n)) none ⟨rfl, rfl, rfl, Nat.le_refl _, fun _ _ _ => rfl⟩ (fun _ => Nat.le_refl _) (by simp)
    (fun s hs => by cases hs; exact ⟨[], .inl ⟨by simp, .inl ⟨by simp [Rho.slice], rfl⟩⟩, rfl⟩)
    (fun s b hs hb => by cases hs; simp [slotBlk, Rho.slice, ownBlk] at hb)
theorem Sub.ownNil [Trk] (st : AState) (t : Nat) (n : Name) (e : TypeId) (es : Nat) : Sub st (st.ownNil t n e es) := by
  intro Γ ρ a w hok
  unfold AState.ownNil
  split
  rotate_left
  · exact ⟨ρ, hok⟩
  rename_i hnil
  have h1 := ownNil_ok hok n e es
  refine ⟨_, h1.defers, h1.size, fun q => ?_, h1.sok⟩
  simp only [AState.app, List.cons_append, List.nil_append, tget]
  split
  · rename_i hq
    subst hq
    show a.tmps.getD q undef = _
    rw [isNilV_rel hnil (hok.tmps q)]
    simp [Rho.slice]
  · exact h1.tmps q
/-- The same, of a cell of a variable. -/
def AState.ownNilC (st : AState) (q : Name) (off : Nat) (n : Name) (e : TypeId) (es : Nat) : AState :=
  match sget (st.kill n).s q with
  | some (.box T cells) => match cells[off]? with
    | some c => if isNilV c = true ∧ q ≠ n then (st.kill n).app ⟨[], [(q, some (.box T (cells.set off (.own n)))), (n, some (.own e es []))]⟩ else st
    | none => st
  | _ => st
theorem ARels.set [Trk] {ρ : Rho} {w : World} {ps : List AV} {vs : List Value} (h : ARels ρ w ps vs) {i : Nat} {p : AV} (hp : ∀ v, vs[i]? = some v → ARel ρ w p v) : ARels ρ w (ps.set i p) vs := by
  rw [ARels_iff] at h ⊢
  refine ⟨by simp [h.1], fun j q v hq hv => ?_⟩
  rw [List.getElem?_set] at hq
  split at hq
  · rename_i hij; subst hij
    split at hq
    · cases hq; exact hp v hv
    · cases hq
  · exact h.2 j q v hq hv
theorem Sub.ownNilC [Trk] (st : AState) (q : Name) (off : Nat) (n : Name) (e : TypeId) (es : Nat) : Sub st (st.ownNilC q off n e es) := by
  intro Γ ρ a w hok
  unfold AState.ownNilC
  split
  rotate_left
  · exact ⟨ρ, hok⟩
  rename_i T cells hq
  split
  rotate_left
  · exact ⟨ρ, hok⟩
  rename_i c hc
  split
  rotate_left
  · exact ⟨ρ, hok⟩
  rename_i hcn
  obtain ⟨hnil, hne⟩ := hcn
  have h1 := ownNil_ok hok n e es
  refine ⟨ρ.slice n (.slice none 0 0), h1.defers, h1.size, h1.tmps, ?_⟩
  have hsl := h1.sok.slots q (.box T cells) (by simp only [AState.app, List.cons_append, List.nil_append, sget]; rw [if_neg hne]; exact hq)
  obtain ⟨cs, k1, k2, k3⟩ := hsl
  have hcs : SlotOK (ρ.slice n (.slice none 0 0)) w q (.box T (cells.set off (.own n))) := ⟨cs, k1, k2.set fun v hv => by
    obtain ⟨v', h4, h5⟩ := k2.get hc
    rw [hv] at h4; cases h4
    show v = _
    rw [isNilV_rel hnil h5]; simp [Rho.slice], k3⟩
  have hq1 : sget ((st.kill n).app ⟨[], [(n, some (.own e es []))]⟩).s q = some (.box T cells) := by simp only [AState.app, List.cons_append, List.nil_append, sget]; rw [if_neg hne]; exact hq
  have h2 := h1.sok.slot (ρ' := ρ.slice n (.slice none 0 0)) (w' := w) q (some (.box T (cells.set off (.own n)))) rfl (fun _ => rfl) (fun _ _ => ⟨rfl, rfl⟩) (.inl ⟨rfl, rfl⟩) (some ((ρ.slice n (.slice none 0 0)).blk q)) ⟨rfl, rfl, rfl, Nat.le_refl _, fun _ _ _ => rfl⟩ (fun _ => Nat.le_refl _)
    (fun b hb => by cases hb; exact ⟨_, hq1, rfl⟩) (fun s hs => by cases hs; exact hcs) (fun s b hs hb => by cases hs; exact .inr hb)
  exact h2

end Go.Eng
set_option autoImplicit false
set_option linter.unusedVariables false
set_option linter.unusedSimpArgs false
namespace Go.Eng
open Go Go.RowKit
variable {P : Program}

/-! ## Functions -/
/-- A call with these arguments and these variables of the caller's comes back with this result and these variables. -/
def SCX [Trk] (P : Program) (f : FuncId) (args : List AV) (X : SMap) (res : AV) (Y : SMap) : Prop :=
  ∀ (Γ : Ctx) (ρ : Rho) (w : World) (vals : Array Value), Γ.w0 = w → SOk Γ X ρ w → ARels ρ w args vals.toList →
    Calls P f vals w (fun e w' => ∃ v ρ', e = .returned v ∧ ARel ρ' w' res v ∧ SOk Γ Y ρ' w')
/-- Nothing of the caller's: a value. -/
abbrev SC [Trk] (P : Program) (f : FuncId) (args : List AV) (res : AV) : Prop := SCX P f args [] res []
/-- Nothing of the caller's: a new slice. -/
abbrev SCO [Trk] (P : Program) (f : FuncId) (args : List AV) (e : TypeId) (es : Nat) (xs : List (List PV)) : Prop := SCX P f args [] (.own (.ext 0)) [(.ext 0, some (.own e es xs))]

def resA (P : Program) (st : AState) : List ResultVar → Option (List AV)
  | [] => some []
  | .tmp t :: l => match resA P st l with | some r => some (tget st.t t :: r) | none => none
  | .cell a T :: l => match tget st.t a with
    | .ptr m off => match sget st.s m, aggOf P T, szOf P T with
      | some (.box _ cells), some b, some n => match cutA b n off cells, resA P st l with
        | some av, some r => some (av :: r)
        | _, _ => none
      | _, _, _ => none
    | _ => none
def resV : List AV → AV
  | [a] => a
  | l => .tup l
theorem cutA_run [Trk] {T T' n off : Nat} {b : Bool} {m : Name} {cells : List AV} {av : AV} {ρ : Rho} {w : World} (hg : aggOf P T = some b) (hs : szOf P T = some n) (hm : SlotOK ρ w m (.box T' cells)) (hr : cutA b n off cells = some av) :
    ∃ v, ARel ρ w av v ∧ (loadVar T ⟨ρ.blk m, off, none⟩).run P w = .ok v w := by
  obtain ⟨cs, h2, h3, h9⟩ := hm
  have hcell : ∀ j, w.cell? ((⟨ρ.blk m, off, none⟩ : Addr).add j) = cs.toList[off + j]? := fun j => by
    rw [Addr.add_lit, cell_of_row w _ _ cs _ _ h2]; simp
  unfold cutA at hr
  cases b with
  | true =>
    simp only [if_true] at hr
    split at hr
    · rename_i ps hps
      split at hr
      · rename_i hl
        cases hr
        have hrel := allPV_rel hps ((h3.drop off).take n)
        refine ⟨.agg ((cs.toList.drop off).take n).toArray, ⟨_, rfl, by simpa using hrel⟩, ?_⟩
        exact run_loadVar_agg (P := P) hg hs ⟨ρ.blk m, off, none⟩ ((cs.toList.drop off).take n) (by rw [hrel.length, hl]) w (fun j u hu => by
          rw [hcell]
          rw [List.getElem?_take] at hu
          split at hu
          · rw [List.getElem?_drop] at hu; exact hu
          · cases hu)
      · cases hr
    · split at hr
      · rename_i hl
        cases hr
        have hrel := (h3.drop off).take n
        refine ⟨.agg ((cs.toList.drop off).take n).toArray, ⟨_, rfl, by simpa using hrel, fun u hu => h9 u (List.mem_of_mem_drop (List.mem_of_mem_take (by simpa using hu)))⟩, ?_⟩
        exact run_loadVar_agg (P := P) hg hs ⟨ρ.blk m, off, none⟩ ((cs.toList.drop off).take n) (by rw [hrel.length, hl]) w (fun j u hu => by
          rw [hcell]
          rw [List.getElem?_take] at hu
          split at hu
          · rw [List.getElem?_drop] at hu; exact hu
          · cases hu)
      · cases hr
  | false =>
    simp at hr
    obtain ⟨v, h5, h6⟩ := h3.get hr
    exact ⟨v, h6, run_loadVar_one (P := P) hg ⟨ρ.blk m, off, none⟩ v w (by have := hcell 0; simp only [Addr.add_zero', Nat.add_zero] at this; rw [this]; exact h5)⟩
def rdV (a : Act) : ResultVar → Sem Value
  | .tmp t => pure (a.tmps.getD t undef)
  | .cell b t => do loadVar t (← asAddr (a.tmps.getD b undef))
theorem run_asAddr [Trk] (a : Addr) (w : World) : (asAddr (.pointer (some a))).run P w = .ok a w := rfl
theorem resA_run [Trk] {Γ : Ctx} {st : AState} {ρ : Rho} {a : Act} {w : World} (h : Ok Γ st ρ a w) : ∀ {l : List ResultVar} {r : List AV}, resA P st l = some r →
    ∃ vs, (l.mapM (m := Sem) (rdV a)).run P w = .ok vs w ∧ ARels ρ w r vs
  | [], r, hr => by simp [resA] at hr; subst hr; exact ⟨[], by simp, rfl⟩
  | .tmp t :: l, r, hr => by
    simp only [resA] at hr
    split at hr
    · rename_i r' hr'
      cases hr
      obtain ⟨vs, h1, h2⟩ := resA_run h hr'
      refine ⟨a.tmps.getD t undef :: vs, ?_, _, _, rfl, h.tmps t, h2⟩
      simp only [List.mapM_cons, rdV, Sem.run_bind, Sem.run_pure, Result.andThen_ok, h1]
    · cases hr
  | .cell b T :: l, r, hr => by
    simp only [resA] at hr
    split at hr
    · rename_i m off hb
      split at hr
      · rename_i T' cells bb n hm hg hs
        split at hr
        · rename_i av r' hav hr'
          cases hr
          obtain ⟨vs, h1, h2⟩ := resA_run h hr'
          obtain ⟨v, h3, h4⟩ := cutA_run (P := P) hg hs (h.sok.slots m _ hm) hav
          have h5 := h.tmps b
          rw [hb] at h5
          have h5' : a.tmps.getD b undef = .pointer (some ⟨ρ.blk m, off, none⟩) := h5
          refine ⟨v :: vs, ?_, _, _, rfl, h3, h2⟩
          simp only [List.mapM_cons, rdV, Sem.run_bind, Sem.run_pure, Result.andThen_ok, h1, h5', run_asAddr, h4]
        · cases hr
      · cases hr
    · cases hr
theorem results_run [Trk] {Γ : Ctx} {st : AState} {ρ : Rho} {a : Act} {w : World} (h : Ok Γ st ρ a w) {fn : Func} {r : List AV} (hr : resA P st fn.results.toList = some r) : ∃ v, (results fn a.tmps).run P w = .ok v w ∧ ARel ρ w (resV r) v := by
  obtain ⟨vs, h1, h2⟩ := resA_run h hr
  have hm : (fn.results.mapM (m := Sem) (rdV a)).run P w = .ok vs.toArray w := by
    rw [Array.mapM_eq_mapM_toList, Sem.run_map, h1]; rfl
  have hres : (results fn a.tmps).run P w = .ok (if h : vs.toArray.size = 1 then vs.toArray[0] else .tuple vs.toArray) w := by
    have e : results fn a.tmps = (do let vs ← fn.results.mapM (rdV a); pure (if h : vs.size = 1 then vs[0] else .tuple vs)) := by
      unfold results
      congr 1
    rw [e, Sem.run_bind, hm]; rfl
  refine ⟨_, hres, ?_⟩
  have hl := h2.length
  match r, vs, h2, hl with
  | [], [], h2, _ => exact ⟨#[], by simp, rfl⟩
  | [x], [v], h2, _ => obtain ⟨_, _, e, h3, _⟩ := h2; cases e; simpa [resV] using h3
  | x :: y :: r, v :: u :: vs, h2, _ => exact ⟨(v :: u :: vs).toArray, by simp, by simpa using h2⟩

def retQ [Trk] (P : Program) (fn : Func) (res : AV) (Y : SMap) : Exit → AState → Prop
  | .normal, st | .ret, st => ∃ st' r, Sub st st' ∧ resA P st' fn.results.toList = some r ∧ resV r = res ∧ ∀ p ∈ Y, p.2 = sget st'.s p.1
  | _, _ => False
theorem ret_done [Trk] {fn : Func} {res : AV} {Y : SMap} {st : AState} {r : List AV} {e : Exit} (he : e = .normal ∨ e = .ret) (h1 : resA P st fn.results.toList = some r) (h2 : resV r = res) (h3 : ∀ p ∈ Y, p.2 = sget st.s p.1) : retQ P fn res Y e st := by
  rcases he with rfl | rfl <;> exact ⟨st, r, Sub.refl st, h1, h2, h3⟩
theorem ret_sub [Trk] {fn : Func} {res : AV} {Y : SMap} {st st' : AState} {e : Exit} (hs : Sub st st') (h : retQ P fn res Y e st') : retQ P fn res Y e st := by
  cases e <;> first | exact h.elim | (obtain ⟨s, r, h1, h2⟩ := h; exact ⟨s, r, hs.trans h1, h2⟩)

def enumT : Nat → List AV → List (Nat × AV)
  | _, [] => []
  | i, a :: l => (i, a) :: enumT (i + 1) l
theorem enumT_get [Trk] : ∀ (l : List AV) (i t : Nat), tget (enumT i l) t = if i ≤ t ∧ t < i + l.length then l.getD (t - i) .dead else .dead
  | [], i, t => by simp [enumT, tget]
  | a :: l, i, t => by
    simp only [enumT, tget, enumT_get l (i + 1) t, List.length_cons]
    by_cases h : t = i
    · subst h; simp
    · rw [if_neg h]
      by_cases h2 : i + 1 ≤ t ∧ t < i + 1 + l.length
      · rw [if_pos h2, if_pos (by omega)]
        obtain ⟨k, rfl⟩ : ∃ k, t = i + 1 + k := ⟨t - (i + 1), by omega⟩
        have e1 : i + 1 + k - (i + 1) = k := by omega
        have e2 : i + 1 + k - i = k + 1 := by omega
        rw [e1, e2]; simp
      · rw [if_neg h2, if_neg (by omega)]

theorem scx_fn [Trk] {f : FuncId} {fn : Func} {c : Code} {args : List AV} {X Y : SMap} {res : AV} (hf : P.funcs[f]? = some fn) (hb : fn.body = some c) (hn : args.length ≤ fn.ntmps)
    (h : AW P c (retQ P fn res Y) ⟨fn.ntmps, enumT 0 args, X⟩) : SCX P f args X res Y := by
  intro Γ ρ w vals hw hX hargs
  refine calls_of_wp hf hb ?_
  have hlen : vals.size = args.length := by rw [← Array.length_toList, hargs.length]
  have hok : Ok Γ ⟨fn.ntmps, enumT 0 args, X⟩ ρ { tmps := vals ++ Array.replicate (fn.ntmps - vals.size) undef, defers := [] } w := by
    refine ⟨rfl, by simp; omega, fun t => ?_, hX⟩
    rw [enumT_get]
    split
    · rename_i ht
      simp only [Nat.sub_zero, Nat.zero_add] at ht ⊢
      have h1 : args[t]? = some (args.getD t .dead) := by simp [List.getD, List.getElem?_eq_getElem ht.2]
      obtain ⟨v, h2, h3⟩ := hargs.get h1
      have : (vals ++ Array.replicate (fn.ntmps - vals.size) undef).getD t undef = v := by
        have h4 : vals[t]? = some v := by simpa using h2
        rw [Array.getD_eq_getD_getElem?, Array.getElem?_append, if_pos (show t < vals.size by omega), h4]; rfl
      rw [this]; exact h3
    · trivial
  refine wp_mono (h Γ ρ _ w hok) ?_
  rintro e a' w' ⟨st', ρ', h1, h2⟩
  have fin : ∀ st', (∃ st2 r, Sub st' st2 ∧ resA P st2 fn.results.toList = some r ∧ resV r = res ∧ ∀ p ∈ Y, p.2 = sget st2.s p.1) → Ok Γ st' ρ' a' w' →
      a'.defers = [] ∧ ∃ v, (results fn a'.tmps).run P w' = .ok v w' ∧ ∃ v' ρ'', Ending.returned v = .returned v' ∧ ARel ρ'' w' res v' ∧ SOk Γ Y ρ'' w' := by
    rintro st' ⟨st2, r, k1, k2, rfl, k4⟩ hok'
    obtain ⟨ρ2, hok2⟩ := k1 Γ ρ' a' w' hok'
    obtain ⟨v, k5, k6⟩ := results_run (P := P) hok2 k2
    refine ⟨hok2.defers, v, k5, v, ρ2, rfl, k6, hok2.sok.sub ⟨fun n s' hs => ?_⟩⟩
    rcases sget_mem (l := Y) (n := n) with hq | hq
    · rw [hq] at hs; cases hs
    · have := k4 _ hq
      simp only at this
      rw [hs] at this
      exact ⟨s', this.symm, fun _ _ k => k, fun _ => rfl⟩
  cases e with
  | normal => exact fin st' h1 h2
  | ret => exact fin st' h1 h2
  | _ => exact h1.elim

end Go.Eng
set_option autoImplicit false
set_option linter.unusedVariables false
set_option linter.unusedSimpArgs false
namespace Go.Eng
open Go Go.RowKit
variable {P : Program}

/-! ## Calls -/
def nmR (r : List Name) : Name → Name
  | .ext i => r.getD i (.loc 0)
  | n => n
mutual
def AV.ren (r : List Name) : AV → AV
  | .own n => .own (nmR r n)
  | .ptr n off => .ptr (nmR r n) off
  | .eptr n es i j => .eptr (nmR r n) es i j
  | .tup l => .tup (AV.renL r l)
  | .aggA l => .aggA (AV.renL r l)
  | .fn f a b => .fn f (AV.renL r a) (AV.renL r b)
  | .pv p => .pv p
  | .agg cs => .agg cs
  | .tight es xs => .tight es xs
  | .rptr cs => .rptr cs
  | .dead => .dead
def AV.renL (r : List Name) : List AV → List AV
  | [] => []
  | a :: l => AV.ren r a :: AV.renL r l
end
def Slot.ren (r : List Name) : Slot → Slot
  | .box T cells => .box T (AV.renL r cells)
  | .own e es xs => .own e es xs

structure RenOf (r : List Name) (ρ ρc : Rho) : Prop where
  blk : ∀ n, ρc.blk n = ρ.blk (nmR r n)
  ov : ∀ n, ρc.ov n = ρ.ov (nmR r n)
  F : ρc.F = ρ.F
mutual
theorem ARel.renIff [Trk] {r : List Name} {ρ ρc : Rho} (h : RenOf r ρ ρc) {w : World} : ∀ (a : AV) (v : Value), ARel ρc w a v ↔ ARel ρ w (a.ren r) v
  | .own n, v => by simp only [ARel, AV.ren, h.ov]
  | .ptr n off, v => by simp only [ARel, AV.ren, h.blk]
  | .eptr n es i j, v => by simp only [ARel, AV.ren, h.ov]
  | .tup l, v => by simp only [ARel, AV.ren, ARels.renIff h l]
  | .aggA l, v => by simp only [ARel, AV.ren, ARels.renIff h l]
  | .fn f a b, v => by simp only [ARel, AV.ren, ARels.renIff h a, ARels.renIff h b]
  | .pv p, v => by simp only [ARel, AV.ren, h.F]
  | .agg cs, v => by simp only [ARel, AV.ren, h.F]
  | .tight es xs, v => by simp only [ARel, AV.ren, h.F]
  | .rptr cs, v => by simp only [ARel, AV.ren, h.F]
  | .dead, v => by simp only [ARel, AV.ren]
theorem ARels.renIff [Trk] {r : List Name} {ρ ρc : Rho} (h : RenOf r ρ ρc) {w : World} : ∀ (l : List AV) (vs : List Value), ARels ρc w l vs ↔ ARels ρ w (AV.renL r l) vs
  | [], vs => by simp only [ARels, AV.renL]
  | a :: l, vs => by simp only [ARels, AV.renL, ARel.renIff h a, ARels.renIff h l]
end

/-- May a name of the other side be told here? 'b': as a slice. -/
def okName (r r2 C : List Name) (b : Bool) : Name → Bool
  | .ext i => decide (i < r2.length) && (C.contains (r2.getD i (.loc 0)) || (!b && decide (i < r.length) && decide (r2.getD i (.loc 0) = r.getD i (.loc 0)) && !C.contains (r.getD i (.loc 0))))
  | .loc _ => false
mutual
def AV.okN (r r2 C : List Name) : AV → Bool
  | .own n => okName r r2 C true n
  | .eptr n _ _ _ => okName r r2 C true n
  | .ptr n _ => okName r r2 C false n
  | .tup l => AV.okL r r2 C l
  | .aggA l => AV.okL r r2 C l
  | .fn _ a b => AV.okL r r2 C a && AV.okL r r2 C b
  | _ => true
def AV.okL (r r2 C : List Name) : List AV → Bool
  | [] => true
  | a :: l => AV.okN r r2 C a && AV.okL r r2 C l
end
/-- The roles behind a call. -/
noncomputable def Rho.behind (ρ ρc : Rho) (r2 C : List Name) : Rho where
  blk := fun n => if n ∈ C then ρc.blk (.ext (r2.idxOf n)) else ρ.blk n
  ov := fun n => if n ∈ C then ρc.ov (.ext (r2.idxOf n)) else ρ.ov n
  F := ρc.F
theorem idxOf_getD [Trk] {r2 : List Name} (hnd : r2.Nodup) {i : Nat} (hi : i < r2.length) : r2.idxOf (r2.getD i (.loc 0)) = i := by
  have : r2.getD i (.loc 0) = r2[i] := by simp [List.getD, List.getElem?_eq_getElem hi]
  rw [this]; exact hnd.idxOf_getElem i hi
structure Behind (r r2 C : List Name) (ρ ρc : Rho) : Prop where
  nd : r2.Nodup
  same : ∀ i, i < r.length → ρc.blk (.ext i) = ρ.blk (r.getD i (.loc 0))
theorem behind_own [Trk] {r r2 C : List Name} {ρ ρc : Rho} (h : Behind r r2 C ρ ρc) {b : Bool} {n : Name} (hn : okName r r2 C b n = true) (hb : b = true) : (ρ.behind ρc r2 C).ov (nmR r2 n) = ρc.ov n := by
  cases n with
  | loc d => simp [okName] at hn
  | ext i =>
    subst hb
    simp only [okName, Bool.and_eq_true, decide_eq_true_eq, Bool.or_eq_true, Bool.not_true, Bool.false_and, Bool.false_eq_true, or_false] at hn
    obtain ⟨h1, h2⟩ := hn
    simp only [Rho.behind, nmR]
    rw [if_pos (by simpa using h2), idxOf_getD h.nd h1]
theorem behind_blk [Trk] {r r2 C : List Name} {ρ ρc : Rho} (h : Behind r r2 C ρ ρc) {b : Bool} {n : Name} (hn : okName r r2 C b n = true) : (ρ.behind ρc r2 C).blk (nmR r2 n) = ρc.blk n := by
  cases n with
  | loc d => simp [okName] at hn
  | ext i =>
    simp only [okName, Bool.and_eq_true, decide_eq_true_eq, Bool.or_eq_true, Bool.not_eq_true'] at hn
    obtain ⟨h1, h2⟩ := hn
    simp only [Rho.behind, nmR]
    rcases h2 with h2 | ⟨⟨⟨_, h3⟩, h4⟩, h5⟩
    · rw [if_pos (by simpa using h2), idxOf_getD h.nd h1]
    · rw [h4, if_neg (by simpa using h5), h.same i h3]
mutual
theorem ARel.behind [Trk] {r r2 C : List Name} {ρ ρc : Rho} (h : Behind r r2 C ρ ρc) {w : World} : ∀ (a : AV) (v : Value), a.okN r r2 C = true → ARel ρc w a v → ARel (ρ.behind ρc r2 C) w (a.ren r2) v
  | .own n, v, hn, hv => by
    have hv' : v = ρc.ov n := hv
    show v = (ρ.behind ρc r2 C).ov (nmR r2 n)
    rw [behind_own h hn rfl]; exact hv'
  | .ptr n off, v, hn, hv => by
    have hv' : v = .pointer (some ⟨ρc.blk n, off, none⟩) := hv
    show v = .pointer (some ⟨(ρ.behind ρc r2 C).blk (nmR r2 n), off, none⟩)
    rw [behind_blk h hn]; exact hv'
  | .eptr n es i j, v, hn, hv => by
    obtain ⟨b, h1, h2⟩ := hv
    exact ⟨b, by rw [behind_own h hn rfl]; exact h1, h2⟩
  | .tup l, v, hn, hv => by
    obtain ⟨a, h1, h2⟩ := hv
    exact ⟨a, h1, ARels.behind h l _ hn h2⟩
  | .aggA l, v, hn, hv => by
    obtain ⟨a, h1, h2, h3⟩ := hv
    exact ⟨a, h1, ARels.behind h l _ hn h2, h3⟩
  | .fn f a b, v, hn, hv => by
    simp only [AV.okN, Bool.and_eq_true] at hn
    obtain ⟨x, y, h1, h2, h3⟩ := hv
    exact ⟨x, y, h1, ARels.behind h a _ hn.1 h2, ARels.behind h b _ hn.2 h3⟩
  | .pv p, v, _, hv => hv
  | .agg cs, v, _, hv => hv
  | .tight es xs, v, _, hv => hv
  | .rptr cs, v, _, hv => hv
  | .dead, v, _, hv => trivial
theorem ARels.behind [Trk] {r r2 C : List Name} {ρ ρc : Rho} (h : Behind r r2 C ρ ρc) {w : World} : ∀ (l : List AV) (vs : List Value), AV.okL r r2 C l = true → ARels ρc w l vs → ARels (ρ.behind ρc r2 C) w (AV.renL r2 l) vs
  | [], vs, _, hv => hv
  | a :: l, vs, hn, hv => by
    simp only [AV.okL, Bool.and_eq_true] at hn
    obtain ⟨v, vs', h1, h2, h3⟩ := hv
    exact ⟨v, vs', h1, ARel.behind h a v hn.1 h2, ARels.behind h l vs' hn.2 h3⟩
end
def Slot.okN (r r2 C : List Name) (n : Name) : Slot → Bool
  | .box _ cells => okName r r2 C false n && AV.okL r r2 C cells
  | .own _ _ _ => okName r r2 C true n
def renS (r2 : List Name) : SMap → SMap
  | [] => []
  | (n, s) :: l => (nmR r2 n, s.map (Slot.ren r2)) :: renS r2 l
def noneS : List Name → SMap
  | [] => []
  | n :: l => (n, none) :: noneS l
def okY (r r2 C : List Name) : SMap → Bool
  | [] => true
  | (n, some s) :: l => s.okN r r2 C n && okY r r2 C l
  | (_, none) :: _ => false
theorem okY_mem [Trk] {r r2 C : List Name} : ∀ {Y : SMap}, okY r r2 C Y = true → ∀ p ∈ Y, ∃ s, p.2 = some s ∧ s.okN r r2 C p.1 = true
  | [], _, _, hp => by cases hp
  | (n, some s) :: l, h, p, hp => by
    simp only [okY, Bool.and_eq_true] at h
    cases hp with
    | head => exact ⟨s, rfl, h.1⟩
    | tail _ hp => exact okY_mem h.2 p hp
theorem okN_name [Trk] {r r2 C : List Name} {n : Name} {s : Slot} (h : s.okN r r2 C n = true) : ∃ b, okName r r2 C b n = true := by
  cases s with
  | box T cells => simp only [Slot.okN, Bool.and_eq_true] at h; exact ⟨_, h.1⟩
  | own e es xs => exact ⟨_, h⟩
theorem okName_lt [Trk] {r r2 C : List Name} {b : Bool} {n : Name} (h : okName r r2 C b n = true) : ∃ i, n = .ext i ∧ i < r2.length := by
  cases n with
  | loc d => simp [okName] at h
  | ext i => simp only [okName, Bool.and_eq_true, decide_eq_true_eq] at h; exact ⟨i, rfl, h.1⟩
theorem nmR_inj [Trk] {r2 : List Name} (hnd : r2.Nodup) {i j : Nat} (hi : i < r2.length) (hj : j < r2.length) (h : nmR r2 (.ext i) = nmR r2 (.ext j)) : i = j := by
  simp only [nmR] at h
  rw [← idxOf_getD hnd hi, ← idxOf_getD hnd hj, h]
theorem sget_renS [Trk] {r r2 C : List Name} (hnd : r2.Nodup) : ∀ {Y : SMap}, okY r r2 C Y = true → ∀ {m : Name} {t : Slot}, sget (renS r2 Y) m = some t →
    ∃ n s, sget Y n = some s ∧ nmR r2 n = m ∧ t = s.ren r2 ∧ s.okN r r2 C n = true
  | [], _, m, t, h => by simp [renS, sget] at h
  | (n, some s) :: l, hy, m, t, h => by
    simp only [okY, Bool.and_eq_true] at hy
    simp only [renS, sget] at h
    split at h
    · rename_i hm
      simp at h
      exact ⟨n, s, by simp [sget], hm.symm, h.symm, hy.1⟩
    · rename_i hm
      obtain ⟨n', s', h1, h2, h3, h4⟩ := sget_renS hnd hy.2 h
      refine ⟨n', s', ?_, h2, h3, h4⟩
      simp only [sget]
      rw [if_neg]
      · exact h1
      · intro e; subst e; exact hm h2.symm
theorem sget_noneS [Trk] : ∀ {l : List Name} {n : Name}, sget (noneS l) n = none
  | [], _ => rfl
  | m :: l, n => by simp only [noneS, sget]; split; · rfl
                    · exact sget_noneS
theorem noneS_keys [Trk] : ∀ l : List Name, (noneS l).map (·.1) = l
  | [] => rfl
  | n :: l => by simp [noneS, noneS_keys l]
theorem renS_keys [Trk] (r2 : List Name) : ∀ Y : SMap, (renS r2 Y).map (·.1) = Y.map (fun p => nmR r2 p.1)
  | [] => rfl
  | (n, s) :: l => by simp [renS, renS_keys r2 l]

end Go.Eng
set_option autoImplicit false
set_option linter.unusedVariables false
set_option linter.unusedSimpArgs false
namespace Go.Eng
open Go Go.RowKit
variable {P : Program}

theorem slotBlk_lt [Trk] {Γ : Ctx} {S : SMap} {ρ : Rho} {w : World} (h : SOk Γ S ρ w) {n : Name} {s : Slot} {b : Nat} (hn : sget S n = some s) (hb : slotBlk ρ n s = some b) : b < w.heap.size := by
  have := h.slots n s hn
  cases s with
  | box T cells => obtain ⟨cs, h1, _⟩ := this; simp [slotBlk] at hb; subst hb; exact (Array.getElem?_eq_some_iff.1 h1).1
  | own e es xs => obtain ⟨vs, h1, _⟩ := this; exact h1.lt hb

/-- The other side's roles at the call. -/
def Rho.at (ρ : Rho) (r : List Name) : Rho := ⟨fun n => ρ.blk (nmR r n), fun n => ρ.ov (nmR r n), ρ.F⟩
theorem Rho.at_ren [Trk] (ρ : Rho) (r : List Name) : RenOf r ρ (ρ.at r) := ⟨fun _ => rfl, fun _ => rfl, rfl⟩
def X0of (ρc : Rho) (X : SMap) : Nat → Prop := fun b => ∃ n s, sget X n = some s ∧ slotBlk ρc n s = some b
def ctxAt (w : World) (ρc : Rho) (X : SMap) : Ctx := ⟨w, ρc.F, X0of ρc X, fun i => ρc.blk (.ext i)⟩
/-- Each variable that is handed on, and where it is. -/
def OkX (r : List Name) (st : AState) (X : SMap) : Prop := ∀ p ∈ X, ∃ i s, p.1 = .ext i ∧ i < r.length ∧ p.2 = some s ∧ sget st.s (r.getD i (.loc 0)) = some (s.ren r)
theorem slotBlk_at [Trk] (ρ : Rho) (r : List Name) (n : Name) (s : Slot) : slotBlk (ρ.at r) n s = slotBlk ρ (nmR r n) (s.ren r) := by cases s <;> rfl
theorem SlotOK_at [Trk] {ρ : Rho} {r : List Name} {w : World} {n : Name} {s : Slot} (h : SlotOK ρ w (nmR r n) (s.ren r)) : SlotOK (ρ.at r) w n s := by
  cases s with
  | box T cells => obtain ⟨cs, h1, h2, h3⟩ := h; exact ⟨cs, h1, (ARels.renIff (ρ.at_ren r) cells _).2 h2, h3⟩
  | own e es xs => exact h
theorem getX [Trk] {r : List Name} {st : AState} {X : SMap} (h : OkX r st X) {n : Name} {s : Slot} (hn : sget X n = some s) : ∃ i, n = .ext i ∧ i < r.length ∧ sget st.s (nmR r n) = some (s.ren r) := by
  rcases sget_mem (l := X) (n := n) with hq | hq
  · rw [hq] at hn; cases hn
  · obtain ⟨i, s', h1, h2, h3, h4⟩ := h _ hq
    simp only at h1 h3
    rw [hn] at h3; cases h3
    subst h1
    exact ⟨i, rfl, h2, h4⟩
theorem SOk.at [Trk] {Γ : Ctx} {st : AState} {ρ : Rho} {w : World} (h : SOk Γ st.s ρ w) {r : List Name} (hnd : r.Nodup) {X : SMap} (hX : OkX r st X) : SOk (ctxAt w (ρ.at r) X) X (ρ.at r) w where
  slots n s hn := by obtain ⟨i, _, _, h1⟩ := getX hX hn; exact SlotOK_at (h.slots _ _ h1)
  disj n m s s' b h1 h2 h3 h4 := by
    obtain ⟨i, rfl, hi, k1⟩ := getX hX h1
    obtain ⟨j, rfl, hj, k2⟩ := getX hX h2
    rw [slotBlk_at] at h3 h4
    have := h.disj _ _ _ _ b k1 k2 h3 h4
    rw [nmR_inj hnd hi hj this]
  sep n s b h1 h2 := by
    obtain ⟨i, _, _, k1⟩ := getX hX h1
    rw [slotBlk_at] at h2
    exact h.sep _ _ b k1 h2
  flt := h.flt
  os := rfl
  tape := rfl
  output := rfl
  size := Nat.le_refl _
  below _ _ _ := rfl
  fmono _ hb := hb
  fnew _ hb := .inl hb
  home n s b h1 h2 := .inl ⟨n, s, h1, h2⟩
  xblk _ := rfl
  glob := h.glob
  drawn := fun _ => Nat.le_refl _

/-- What the call's result, and the variables that were handed on, are behind it. -/
structure CallOk (r r2 C : List Name) (Y : SMap) : Prop where
  nd : r.Nodup
  nd2 : r2.Nodup
  y : okY r r2 C Y = true
  loc : ∀ n ∈ C, ∃ d, n = .loc d
  cov : ∀ n ∈ C, n ∈ Y.map (fun p => nmR r2 p.1)
theorem SOk.behind [Trk] {Γ : Ctx} {st : AState} {ρ ρc : Rho} {w w' : World} (h : SOk Γ st.s ρ w) {r r2 C : List Name} {X Y : SMap} (hX : OkX r st X) (hc : CallOk r r2 C Y) (hfree : ∀ n ∈ C, st.free n)
    (hrX : ∀ i, i < r.length → ∃ s, sget X (.ext i) = some s) (h' : SOk (ctxAt w (ρ.at r) X) Y ρc w') : SOk Γ (renS r2 Y ++ (noneS r ++ st.s)) (ρ.behind ρc r2 C) w' := by
  have hB : Behind r r2 C ρ ρc := ⟨hc.nd2, fun i _ => by rw [h'.xblk i]; rfl⟩
  -- blocks of what was handed on
  have hx0 : ∀ b, X0of (ρ.at r) X b → ∃ m s, m ∈ r ∧ sget st.s m = some s ∧ slotBlk ρ m s = some b := by
    rintro b ⟨n, s, h1, h2⟩
    obtain ⟨i, rfl, hi, k1⟩ := getX hX h1
    rw [slotBlk_at] at h2
    refine ⟨_, _, ?_, k1, h2⟩
    simp only [nmR, List.getD, List.getElem?_eq_getElem hi, Option.getD_some]
    exact List.getElem_mem hi
  have hget : ∀ m t, sget (renS r2 Y ++ (noneS r ++ st.s)) m = some t →
      (∃ n s, sget Y n = some s ∧ nmR r2 n = m ∧ t = s.ren r2 ∧ s.okN r r2 C n = true) ∨ (m ∉ r ∧ m ∉ C ∧ sget st.s m = some t) := by
    intro m t hm
    rw [sget_append] at hm
    split at hm
    · exact .inl (sget_renS hc.nd2 hc.y hm)
    · rename_i hk
      rw [sget_append] at hm
      split at hm
      · rw [sget_noneS] at hm; cases hm
      · rename_i hk2
        rw [noneS_keys] at hk2
        rw [renS_keys] at hk
        exact .inr ⟨hk2, fun hC => hk (hc.cov m hC), hm⟩
  have hother : ∀ m t b, m ∉ r → sget st.s m = some t → slotBlk ρ m t = some b → ¬X0of (ρ.at r) X b := by
    intro m t b hm h1 h2 hx
    obtain ⟨m', s, h3, h4, h5⟩ := hx0 b hx
    exact hm (by rw [h.disj m m' t s b h1 h4 h2 h5]; exact h3)
  have hheap : ∀ b, b < w.heap.size → ¬X0of (ρ.at r) X b → w'.heap[b]? = w.heap[b]? := h'.below
  have hFx : ∀ b, ρ.F b → ¬X0of (ρ.at r) X b := by
    intro b hb hx
    obtain ⟨m', s, h3, h4, h5⟩ := hx0 b hx
    exact h.sep m' s b h4 h5 hb
  have hk : Keep ρ.F w (ρ.behind ρc r2 C).F w' := ⟨fun b hb => h'.fmono b hb, fun b hb => hheap b (h.flt b hb) (hFx b hb)⟩
  have hblkC : ∀ m t, m ∉ C → slotBlk (ρ.behind ρc r2 C) m t = slotBlk ρ m t := by
    intro m t hm
    cases t <;> simp [slotBlk, Rho.behind, hm]
  have hblkY : ∀ n s, s.okN r r2 C n = true → slotBlk (ρ.behind ρc r2 C) (nmR r2 n) (s.ren r2) = slotBlk ρc n s := by
    intro n s hs
    cases s with
    | box T cells => simp only [Slot.okN, Bool.and_eq_true] at hs; simp only [slotBlk, Slot.ren]; rw [behind_blk hB hs.1]
    | own e es xs => simp only [slotBlk, Slot.ren]; rw [behind_own hB hs rfl]
  have hnot : ∀ m t b, m ∉ r → sget st.s m = some t → slotBlk ρ m t = some b → ∀ n s, sget Y n = some s → slotBlk ρc n s ≠ some b := by
    intro m t b hm h1 h2 n s h3 h4
    rcases h'.home n s b h3 h4 with hx | hx
    · exact hother m t b hm h1 h2 hx
    · have := slotBlk_lt h h1 h2
      have hx' : w.heap.size ≤ b := hx
      omega
  have hX0 : ∀ b, X0of (ρ.at r) X b → Γ.X0 b ∨ Γ.w0.heap.size ≤ b := by
    intro b hx
    obtain ⟨m', s, h3, h4, h5⟩ := hx0 b hx
    exact h.home m' s b h4 h5
  have hw : w.heap.size ≤ w'.heap.size := h'.size
  refine { slots := ?_, disj := ?_, sep := ?_, flt := h'.flt, os := ?_, tape := ?_, output := ?_, size := ?_, below := ?_, fmono := ?_, fnew := ?_, home := ?_, xblk := ?_, glob := h'.glob, drawn := fun t => Nat.le_trans (h.drawn t) (h'.drawn t) }
  · intro m t hm
    rcases hget m t hm with ⟨n, s, h1, rfl, rfl, h4⟩ | ⟨h1, h2, h3⟩
    · have := h'.slots n s h1
      cases s with
      | box T cells =>
        simp only [Slot.okN, Bool.and_eq_true] at h4
        obtain ⟨cs, k1, k2, k3⟩ := this
        exact ⟨cs, by rw [behind_blk hB h4.1]; exact k1, ARels.behind hB cells _ h4.2 k2, k3⟩
      | own e es xs =>
        obtain ⟨vs, k1, k2⟩ := this
        exact ⟨vs, by rw [behind_own hB h4 rfl]; exact k1, k2⟩
    · have := h.slots m t h3
      have hsame : ∀ x, t.has x = true → Same ρ (ρ.behind ρc r2 C) x := by
        intro x hx
        have : x ∉ C := fun hC => by have := (hfree x hC).2 m t h3; rw [this] at hx; cases hx
        exact ⟨by simp [Rho.behind, this], by simp [Rho.behind, this]⟩
      cases t with
      | box T cells =>
        obtain ⟨cs, k1, k2, k3⟩ := this
        refine ⟨cs, ?_, ARels.keep hk _ _ hsame k2, k3⟩
        have hb : slotBlk ρ m (.box T cells) = some (ρ.blk m) := rfl
        have e : (ρ.behind ρc r2 C).blk m = ρ.blk m := by simp [Rho.behind, h2]
        rw [e, hheap _ (slotBlk_lt h h3 hb) (hother m _ _ h1 h3 hb)]; exact k1
      | own e es xs =>
        obtain ⟨vs, k1, k2⟩ := this
        have ee : (ρ.behind ρc r2 C).ov m = ρ.ov m := by simp [Rho.behind, h2]
        refine ⟨vs, ?_, PElems.keep hk _ _ k2⟩
        rw [ee]
        refine k1.keepB (fun b hb => ?_)
        have hb' : slotBlk ρ m (.own e es xs) = some b := hb
        exact hheap _ (slotBlk_lt h h3 hb') (hother m _ _ h1 h3 hb')
  · intro m m' t t' b h1 h2 h3 h4
    rcases hget m t h1 with ⟨n, s, k1, rfl, rfl, k4⟩ | ⟨k1, k2, k3⟩
    · rw [hblkY n s k4] at h3
      rcases hget m' t' h2 with ⟨n', s', l1, rfl, rfl, l4⟩ | ⟨l1, l2, l3⟩
      · rw [hblkY n' s' l4] at h4
        rw [h'.disj n n' s s' b k1 l1 h3 h4]
      · rw [hblkC _ _ l2] at h4
        exact absurd h3 (hnot m' t' b l1 l3 h4 n s k1)
    · rw [hblkC _ _ k2] at h3
      rcases hget m' t' h2 with ⟨n', s', l1, rfl, rfl, l4⟩ | ⟨l1, l2, l3⟩
      · rw [hblkY n' s' l4] at h4
        exact absurd h4 (hnot m t b k1 k3 h3 n' s' l1)
      · rw [hblkC _ _ l2] at h4
        exact h.disj m m' t t' b k3 l3 h3 h4
  · intro m t b h1 h2 h3
    have h3' : ρc.F b := h3
    rcases hget m t h1 with ⟨n, s, k1, rfl, rfl, k4⟩ | ⟨k1, k2, k3⟩
    · rw [hblkY n s k4] at h2
      exact h'.sep n s b k1 h2 h3'
    · rw [hblkC _ _ k2] at h2
      rcases h'.fnew b h3' with hx | hx | hx
      · exact h.sep m t b k3 h2 hx
      · exact hother m t b k1 k3 h2 hx
      · have := slotBlk_lt h k3 h2
        have hx' : w.heap.size ≤ b := hx
        omega
  · exact h'.os.trans h.os
  · exact h'.tape.trans h.tape
  · exact h'.output.trans h.output
  · exact Nat.le_trans h.size hw
  · intro b hb1 hb2
    rw [hheap b (Nat.lt_of_lt_of_le hb1 h.size) (fun hx => by
      rcases hX0 b hx with h1 | h1
      · exact hb2 h1
      · omega)]
    exact h.below b hb1 hb2
  · intro b hb; exact h'.fmono b (h.fmono b hb)
  · intro b hb
    rcases h'.fnew b hb with hx | hx | hx
    · exact h.fnew b hx
    · exact .inr (hX0 b hx)
    · exact .inr (.inr (Nat.le_trans h.size hx))
  · intro m t b h1 h2
    rcases hget m t h1 with ⟨n, s, k1, rfl, rfl, k4⟩ | ⟨k1, k2, k3⟩
    · rw [hblkY n s k4] at h2
      rcases h'.home n s b k1 h2 with hx | hx
      · exact hX0 b hx
      · exact .inr (Nat.le_trans h.size hx)
    · rw [hblkC _ _ k2] at h2; exact h.home m t b k3 h2
  · intro i
    have : Name.ext i ∉ C := fun hC => by obtain ⟨d, hd⟩ := hc.loc _ hC; cases hd
    simp only [Rho.behind]
    rw [if_neg this]; exact h.xblk i

end Go.Eng
set_option autoImplicit false
set_option linter.unusedVariables false
set_option linter.unusedSimpArgs false
namespace Go.Eng
open Go Go.RowKit
variable {P : Program}

theorem run_callFunc_body [Trk] {f : FuncId} {fn : Func} (hf : P.funcs[f]? = some fn) (hname : (fn.name == "runtime.NumGoroutine") = false) (hb : fn.body.isNone = false) (args : Array Value) (w : World) : (callFunc f args).run P w = .ok (.enter f args) w := by
  have h1 : ¬ fn.name = "runtime.NumGoroutine" := by simpa using hname
  have h2 : ¬ fn.body = none := by cases hx : fn.body <;> simp_all
  simp [callFunc, hf, h1, h2]
def Enters (P : Program) (f : FuncId) : Prop := ∀ (args : Array Value) (w : World), (callFunc f args).run P w = .ok (.enter f args) w

def dstU (d : Option Nat) (a : AV) : List (Nat × AV) := match d with | some d => [(d, a)] | none => []

theorem behind_keep [Trk] {Γ : Ctx} {st : AState} {ρ ρc : Rho} {w w' : World} (h : SOk Γ st.s ρ w) {r : List Name} {X Y : SMap} (hX : OkX r st X) (h' : SOk (ctxAt w (ρ.at r) X) Y ρc w') (r2 C : List Name) : Keep ρ.F w (ρ.behind ρc r2 C).F w' := by
  refine ⟨fun b hb => h'.fmono b hb, fun b hb => h'.below b (h.flt b hb) ?_⟩
  rintro ⟨n, s, h1, h2⟩
  obtain ⟨i, rfl, hi, k1⟩ := getX hX h1
  rw [slotBlk_at] at h2
  exact h.sep _ _ b k1 h2 hb

theorem Ok.behind [Trk] {Γ : Ctx} {st : AState} {ρ ρc : Rho} {a : Act} {w w' : World} (h : Ok Γ st ρ a w) {r r2 C : List Name} {X Y : SMap} {res : AV} {v : Value} (hX : OkX r st X) (hc : CallOk r r2 C Y) (hfree : ∀ n ∈ C, st.free n)
    (hrX : ∀ i, i < r.length → ∃ s, sget X (.ext i) = some s) (hres : res.okN r r2 C = true) (h' : SOk (ctxAt w (ρ.at r) X) Y ρc w') (hv : ARel ρc w' res v) (dst : Option Nat) (hd : ∀ d, dst = some d → d < st.n) :
    Ok Γ (st.app ⟨dstU dst (res.ren r2), renS r2 Y ++ noneS r⟩) (ρ.behind ρc r2 C) (a.put dst v) w' := by
  have hB : Behind r r2 C ρ ρc := ⟨hc.nd2, fun i _ => by rw [h'.xblk i]; rfl⟩
  have hk := behind_keep h.sok hX h' r2 C
  have hsame : ∀ n, n ∉ C → Same ρ (ρ.behind ρc r2 C) n := fun n hn => ⟨by simp [Rho.behind, hn], by simp [Rho.behind, hn]⟩
  have htm : ∀ t, ARel (ρ.behind ρc r2 C) w' (tget st.t t) (a.tmps.getD t undef) := fun t =>
    ARel.keep (ρ := ρ) (ρ' := ρ.behind ρc r2 C) hk _ _ (fun n hn => hsame n fun hC => by rw [(hfree n hC).1 t] at hn; cases hn) (h.tmps t)
  have hsok := h.sok.behind hX hc hfree hrX h'
  have hsok' : SOk Γ ((renS r2 Y ++ noneS r) ++ st.s) (ρ.behind ρc r2 C) w' := by rw [List.append_assoc]; exact hsok
  cases dst with
  | none => exact ⟨h.defers, h.size, htm, hsok'⟩
  | some d =>
    have hlt := hd d rfl
    have h0 : Ok Γ { st with s := (renS r2 Y ++ noneS r) ++ st.s } (ρ.behind ρc r2 C) a w' := ⟨h.defers, h.size, htm, hsok'⟩
    exact h0.setT hlt (ARel.behind hB _ _ hres hv)

/-- The call's arguments, as the other side has them. -/
structure Args (st : AState) (x : Operand) (args : Array Operand) (f : FuncId) (r : List Name) (cargs : List AV) : Prop where
  callee : ∃ fi ca, ev st x = .fn f fi ca ∧ AV.renL r cargs = fi ++ args.toList.map (ev st) ++ ca
theorem ARels.ev [Trk] {Γ : Ctx} {st : AState} {ρ : Rho} {a : Act} {w : World} (h : Ok Γ st ρ a w) : ∀ l : List Operand, ARels ρ w (l.map (ev st)) (l.map a.eval)
  | [] => rfl
  | x :: l => ⟨_, _, rfl, ev_rel h x, ARels.ev h l⟩
theorem map_ev_agree [Trk] {st st2 : AState} {r : List Key} (h : ∀ k ∈ r, st2.get k = st.get k) : ∀ (l : List Operand), (∀ k ∈ keysL l, k ∈ r) → l.map (ev st2) = l.map (ev st)
  | [], _ => rfl
  | x :: l, hk => by
    simp only [List.map_cons]
    rw [ev_agree h (fun k hx => hk k (by simp [keysL, hx])), map_ev_agree h l (fun k hx => hk k (by
      simp only [keysL, List.flatMap_cons, List.mem_append]; exact .inr hx))]

theorem l_call [Trk] {o : Oper} {st : AState} {x : Operand} {args : Array Operand} {ats : Array TypeId} {f : FuncId} {fi ca : List AV} {r r2 C : List Name} {X Y : SMap} {cargs : List AV} {res : AV}
    (ho : o.op = .call { callee := .value x, args, argTypes := ats }) (hx : ev st x = .fn f fi ca) (hargs : AV.renL r cargs = fi ++ (args.toList.map (ev st) ++ ca)) (hent : Enters P f) (hsc : SCX P f cargs X res Y)
    (hX : OkX r st X) (hc : CallOk r r2 C Y) (hrX : ∀ i, i < r.length → ∃ s, sget X (.ext i) = some s) (hres : res.okN r r2 C = true) (hd : ∀ d, o.dst = some d → d < st.n) :
    Local P o st ⟨keyO x ++ keysL args.toList ++ r.map .slot, ⟨dstU o.dst (res.ren r2), renS r2 Y ++ noneS r⟩, C⟩ := by
  intro st2 hn hr Γ ρ a w K Q hok hfree hk
  have hx2 : ev st2 x = .fn f fi ca := by rw [ev_agree hr (fun k h => by simp [h]), hx]
  have ha2 : args.toList.map (ev st2) = args.toList.map (ev st) := map_ev_agree hr _ (fun k h => by simp [h])
  have hX2 : OkX r st2 X := by
    intro p hp
    obtain ⟨i, s, h1, h2, h3, h4⟩ := hX p hp
    refine ⟨i, s, h1, h2, h3, ?_⟩
    rw [sget_agree hr, h4]
    simp only [List.mem_append, List.mem_map]
    refine .inr ⟨_, ?_, rfl⟩
    simp only [List.getD, List.getElem?_eq_getElem h2, Option.getD_some]
    exact List.getElem_mem h2
  have hf := ev_rel hok x
  rw [hx2] at hf
  obtain ⟨af, ac, h1, h2, h3⟩ := hf
  have hvals : ARels ρ w (AV.renL r cargs) (af ++ (args.map a.eval) ++ ac).toList := by
    rw [hargs, ← ha2]
    simp only [Array.toList_append, Array.toList_map, List.append_assoc]
    exact h2.append ((ARels.ev hok _).append h3)
  have hcall := hsc (ctxAt w (ρ.at r) X) (ρ.at r) w (af ++ (args.map a.eval) ++ ac) rfl (hok.sok.at hc.nd hX2) ((ARels.renIff (ρ.at_ren r) _ _).2 hvals)
  unfold Oper.wp
  have hrun : (execOp a.eval o).run P w = .ok (.enter f (af ++ (args.map a.eval) ++ ac)) w := by
    unfold execOp
    simp only [ho, resolve, h1, Deferred.ofValue, Sem.run_bind, Sem.run_pure, Result.andThen_ok, invoke]
    rw [hent]
  rw [hrun, Oper.upon_enter]
  refine hcall.mono ?_
  rintro e w' ⟨v, ρc, rfl, hv, h'⟩
  exact hk _ _ _ (hok.behind hX2 hc hfree hrX hres h' hv o.dst (fun d hd' => by rw [hn]; exact hd d hd'))

end Go.Eng
set_option autoImplicit false
set_option linter.unusedVariables false
set_option linter.unusedSimpArgs false
namespace Go.Eng
open Go Go.RowKit
variable {P : Program}

/-! ## Regions, ahead of what follows -/
def AS [Trk] (P : Program) (ops : Array Oper) (draw : Bool) (r r' : Nat × AState × List Eff) : Prop :=
  ∀ (st0 : AState) (Q : Exit → AState → Prop), AR P ops draw st0 Q r' → AR P ops draw st0 Q r
theorem AS.trans [Trk] {ops : Array Oper} {draw : Bool} {r r' r'' : Nat × AState × List Eff} (h : AS P ops draw r r') (k : AS P ops draw r' r'') : AS P ops draw r r'' := fun st0 Q x => h st0 Q (k st0 Q x)
theorem as_runs [Trk] {ops : Array Oper} {draw : Bool} {i : Nat} {st : AState} {acc : List Eff} {r : Nat × AState × List Eff} (l : List Oper) (hl : ops.toList.drop i = l) (h : runs P ops draw l i st acc = r) : AS P ops draw (i, st, acc) r :=
  fun st0 Q hr => ar_runs l i st acc hl (by rw [h]; exact hr)
theorem as_local [Trk] {ops : Array Oper} {draw : Bool} {i : Nat} {st st' : AState} {acc acc' : List Eff} {E : Eff} {o : Oper} (ho : ops[i]? = some o) (hg : o.guard = none) (hl : Local P o (st.killAll E.c) E) (hst : (st.killAll E.c).app E.u = st') (hacc : (if draw = true then acc ++ [E] else acc) = acc') :
    AS P ops draw (i, st, acc) (i + 1, st', acc') := by
  intro st0 Q h
  subst hst; subst hacc
  exact ar_at (Array.getElem?_eq_some_iff.1 ho).1 (LocalAt.plain ho hg hl) (fun hd => by rw [if_pos hd]) h
theorem as_local_if [Trk] {ops : Array Oper} {draw : Bool} {i j d : Nat} {b : Bool} {st st' : AState} {acc acc' : List Eff} {E : Eff} {o : Oper} (ho : ops[i]? = some o) (hg : o.guard = some (j, b)) (hj : (ops[j]?).bind (·.dst) = some d) (hv : tget st.t d = .pv (.v (.bool b)))
    (hl : Local P o (st.killAll E.c) E) (hst : (st.killAll E.c).app E.u = st') (hacc : (if draw = true then acc ++ [{ E with r := .tmp d :: E.r }] else acc) = acc') :
    AS P ops draw (i, st, acc) (i + 1, st', acc') := by
  intro st0 Q h
  subst hst; subst hacc
  exact ar_at (E := { E with r := .tmp d :: E.r }) (Array.getElem?_eq_some_iff.1 ho).1 (LocalAt.guarded ho hg hj (tget_killAll_pv _ hv) hl) (fun hd => by rw [if_pos hd]) h
theorem aw_reg [Trk] {id : Nat} {ops : Array Oper} {y : Code} {Q : Exit → AState → Prop} {st st' : AState} {acc : List Eff} (hr : AS P ops false (0, st, []) (ops.size, st', acc)) (h : AW P y Q st') : AW P (.seq (.region id ops false) y) Q st :=
  aw_seq (aw_region (hr _ _ (ar_done rfl (fun h => by cases h) h)))
theorem aw_regD [Trk] {id : Nat} {ops : Array Oper} {y : Code} {Q : Exit → AState → Prop} {st st' : AState} {acc : List Eff} (hm : P.follows .mixedOrders = true) (hr : AS P ops true (0, st, []) (ops.size, st', acc)) (hc : checkTr ops st acc = true) (h : AW P y Q st') : AW P (.seq (.region id ops true) y) Q st :=
  aw_seq (aw_region_draw hm (hr _ _ (ar_done rfl (fun _ => hc) h)))
theorem aw_reg1 [Trk] {id : Nat} {ops : Array Oper} {Q : Exit → AState → Prop} {st st' : AState} {acc : List Eff} (hr : AS P ops false (0, st, []) (ops.size, st', acc)) (h : Q .normal st') : AW P (.region id ops false) Q st :=
  aw_region (hr _ _ (ar_done rfl (fun h => by cases h) h))
theorem aw_reg1D [Trk] {id : Nat} {ops : Array Oper} {Q : Exit → AState → Prop} {st st' : AState} {acc : List Eff} (hm : P.follows .mixedOrders = true) (hr : AS P ops true (0, st, []) (ops.size, st', acc)) (hc : checkTr ops st acc = true) (h : Q .normal st') : AW P (.region id ops true) Q st :=
  aw_region_draw hm (hr _ _ (ar_done rfl (fun _ => hc) h))
theorem aw_seq_cond [Trk] {c : Operand} {x y z : Code} {b : Bool} {Q : Exit → AState → Prop} {st : AState} (hc : ev st c = .pv (.v (.bool b))) (ht : b = true → AW P x (thenQ P z Q) st) (hf : b = false → AW P y (thenQ P z Q) st) : AW P (.seq (.cond c x y) z) Q st :=
  aw_seq (aw_cond hc ht hf)
/-- The condition is known. -/
theorem aw_if [Trk] {c : Operand} {x y : Code} {b : Bool} {Q : Exit → AState → Prop} {st : AState} (hc : ev st c = .pv (.v (.bool b))) (h : AW P (bif b then x else y) Q st) : AW P (.cond c x y) Q st :=
  aw_cond hc (fun hb => by subst hb; exact h) (fun hb => by subst hb; exact h)

/-! ## The function rule, its parts told -/
def retL [Trk] (P : Program) (rs : List ResultVar) (res : AV) (Y : SMap) : Exit → AState → Prop
  | .normal, st | .ret, st => ∃ st' r, Sub st st' ∧ resA P st' rs = some r ∧ resV r = res ∧ ∀ p ∈ Y, p.2 = sget st'.s p.1
  | _, _ => False
theorem retL_Q [Trk] {fn : Func} {res : AV} {Y : SMap} {rs : List ResultVar} (h : fn.results.toList = rs) : retL P rs res Y = retQ P fn res Y := by
  subst h; funext e st; cases e <;> rfl
theorem scx_of [Trk] {f : FuncId} {fn : Func} {c : Code} {args : List AV} {X Y : SMap} {res : AV} {n : Nat} {rs : List ResultVar} (hf : P.funcs[f]? = some fn) (hb : fn.body = some c) (hm : fn.ntmps = n) (hrs : fn.results.toList = rs) (hn : args.length ≤ n)
    (h : AW P c (retL P rs res Y) ⟨n, enumT 0 args, X⟩) : SCX P f args X res Y := by
  subst hm
  rw [retL_Q hrs] at h
  exact scx_fn hf hb hn h
theorem ret_of [Trk] {rs : List ResultVar} {res : AV} {Y : SMap} {st : AState} {r : List AV} (h1 : resA P st rs = some r) (h2 : resV r = res) (h3 : ∀ p ∈ Y, p.2 = sget st.s p.1) : retL P rs res Y .ret st :=
  ⟨st, r, Sub.refl st, h1, h2, h3⟩
/-- The value is what the temporary holds. -/
theorem ret_one [Trk] {t : Nat} {res : AV} {st : AState} (h : tget st.t t = res) : retL P [.tmp t] res [] .ret st :=
  ret_of (r := [res]) (by simp only [resA]; rw [h]) rfl (by simp)
/-- Values, out of temporaries or variables. -/
theorem ret_vals [Trk] {rs : List ResultVar} {res : AV} {st : AState} {r : List AV} (h1 : resA P st rs = some r) (h2 : resV r = res) : retL P rs res [] .ret st :=
  ret_of h1 h2 (by simp)

/-- A call of a function that makes a value of values. -/
theorem callOk_nil [Trk] : CallOk [] [] [] [] := ⟨List.nodup_nil, List.nodup_nil, rfl, by simp, by simp⟩
theorem l_callV [Trk] {o : Oper} {st : AState} {x : Operand} {args : Array Operand} {ats : Array TypeId} {f : FuncId} {fi ca : List AV} {cargs : List AV} {res : AV}
    (ho : o.op = .call { callee := .value x, args, argTypes := ats }) (hx : ev st x = .fn f fi ca) (hargs : AV.renL [] cargs = fi ++ (args.toList.map (ev st) ++ ca)) (hent : Enters P f) (hsc : SC P f cargs res)
    (hres : res.okN [] [] [] = true) (hd : ∀ d, o.dst = some d → d < st.n) :
    Local P o st ⟨keyO x ++ keysL args.toList, ⟨dstU o.dst (res.ren []), []⟩, []⟩ := by
  have := l_call (P := P) (r := []) (r2 := []) (C := []) (X := []) (Y := []) ho hx hargs hent hsc (by intro p hp; cases hp) callOk_nil (by simp) hres hd
  simpa [renS, noneS] using this
theorem as_callV [Trk] {ops : Array Oper} {draw : Bool} {i : Nat} {st : AState} {acc : List Eff} {o : Oper} {x : Operand} {args : Array Operand} {ats : Array TypeId} {f : FuncId} {fi ca : List AV} {cargs : List AV} {res : AV} {d : Nat}
    (hent : Enters P f) (hsc : SC P f cargs res) (ho : ops[i]? = some o) (hg : o.guard = none) (hop : o.op = .call { callee := .value x, args, argTypes := ats }) (hd : o.dst = some d) (hx : ev st x = .fn f fi ca) (hlt : d < st.n)
    (hargs : fi ++ (args.toList.map (ev st) ++ ca) = cargs) (hp : AV.renL [] cargs = cargs ∧ res.okN [] [] [] = true ∧ res.ren [] = res) :
    AS P ops draw (i, st, acc) (i + 1, { st with t := (d, res) :: st.t }, if draw = true then acc ++ [⟨keyO x ++ keysL args.toList, ⟨[(d, res)], []⟩, []⟩] else acc) := by
  have h := l_callV (st := st) hop hx (cargs := cargs) (by rw [hp.1, hargs]) hent hsc hp.2.1 (fun d' h' => by rw [hd] at h'; cases h'; exact hlt)
  rw [hp.2.2, hd] at h
  exact as_local ho hg (E := ⟨keyO x ++ keysL args.toList, ⟨[(d, res)], []⟩, []⟩) h rfl rfl
theorem as_callV_if [Trk] {ops : Array Oper} {draw : Bool} {i j dj : Nat} {b : Bool} {st : AState} {acc : List Eff} {o : Oper} {x : Operand} {args : Array Operand} {ats : Array TypeId} {f : FuncId} {fi ca : List AV} {cargs : List AV} {res : AV} {d : Nat}
    (hent : Enters P f) (hsc : SC P f cargs res) (ho : ops[i]? = some o) (hg : o.guard = some (j, b)) (hj : (ops[j]?).bind (·.dst) = some dj) (hop : o.op = .call { callee := .value x, args, argTypes := ats }) (hd : o.dst = some d) (hx : ev st x = .fn f fi ca) (hlt : d < st.n)
    (hv : tget st.t dj = .pv (.v (.bool b))) (hargs : fi ++ (args.toList.map (ev st) ++ ca) = cargs) (hp : AV.renL [] cargs = cargs ∧ res.okN [] [] [] = true ∧ res.ren [] = res) :
    AS P ops draw (i, st, acc) (i + 1, { st with t := (d, res) :: st.t }, if draw = true then acc ++ [⟨.tmp dj :: (keyO x ++ keysL args.toList), ⟨[(d, res)], []⟩, []⟩] else acc) := by
  have h := l_callV (st := st) hop hx (cargs := cargs) (by rw [hp.1, hargs]) hent hsc hp.2.1 (fun d' h' => by rw [hd] at h'; cases h'; exact hlt)
  rw [hp.2.2, hd] at h
  exact as_local_if ho hg hj hv (E := ⟨keyO x ++ keysL args.toList, ⟨[(d, res)], []⟩, []⟩) h rfl rfl
/-! ### One after the other, the goal in sight -/
theorem ar_go [Trk] {ops : Array Oper} {draw : Bool} {st0 : AState} {Q : Exit → AState → Prop} {i j : Nat} {st st' : AState} {acc acc' : List Eff} (l : List Oper) (hl : ops.toList.drop i = l) (h : runs P ops draw l i st acc = (j, st', acc')) (k : AR P ops draw st0 Q (j, st', acc')) : AR P ops draw st0 Q (i, st, acc) :=
  as_runs l hl h st0 Q k
theorem ar_callV [Trk] {ops : Array Oper} {draw : Bool} {st0 : AState} {Q : Exit → AState → Prop} {i : Nat} {st : AState} {acc : List Eff} {o : Oper} {x : Operand} {args : Array Operand} {ats : Array TypeId} {f : FuncId} {fi ca : List AV} {cargs : List AV} {res : AV} {d : Nat}
    (hent : Enters P f) (hsc : SC P f cargs res) (ho : ops[i]? = some o) (hg : o.guard = none) (hop : o.op = .call { callee := .value x, args, argTypes := ats }) (hd : o.dst = some d) (hx : ev st x = .fn f fi ca) (hlt : d < st.n)
    (hargs : fi ++ (args.toList.map (ev st) ++ ca) = cargs) (hp : AV.renL [] cargs = cargs ∧ res.okN [] [] [] = true ∧ res.ren [] = res)
    (k : AR P ops draw st0 Q (i + 1, { st with t := (d, res) :: st.t }, if draw = true then acc ++ [⟨keyO x ++ keysL args.toList, ⟨[(d, res)], []⟩, []⟩] else acc)) : AR P ops draw st0 Q (i, st, acc) :=
  as_callV hent hsc ho hg hop hd hx hlt hargs hp st0 Q k
theorem ar_callV_if [Trk] {ops : Array Oper} {draw : Bool} {st0 : AState} {Q : Exit → AState → Prop} {i j dj : Nat} {b : Bool} {st : AState} {acc : List Eff} {o : Oper} {x : Operand} {args : Array Operand} {ats : Array TypeId} {f : FuncId} {fi ca : List AV} {cargs : List AV} {res : AV} {d : Nat}
    (hent : Enters P f) (hsc : SC P f cargs res) (ho : ops[i]? = some o) (hg : o.guard = some (j, b)) (hj : (ops[j]?).bind (·.dst) = some dj) (hop : o.op = .call { callee := .value x, args, argTypes := ats }) (hd : o.dst = some d) (hx : ev st x = .fn f fi ca) (hlt : d < st.n)
    (hv : tget st.t dj = .pv (.v (.bool b))) (hargs : fi ++ (args.toList.map (ev st) ++ ca) = cargs) (hp : AV.renL [] cargs = cargs ∧ res.okN [] [] [] = true ∧ res.ren [] = res)
    (k : AR P ops draw st0 Q (i + 1, { st with t := (d, res) :: st.t }, if draw = true then acc ++ [⟨.tmp dj :: (keyO x ++ keysL args.toList), ⟨[(d, res)], []⟩, []⟩] else acc)) : AR P ops draw st0 Q (i, st, acc) :=
  as_callV_if hent hsc ho hg hj hop hd hx hlt hv hargs hp st0 Q k
theorem ar_end [Trk] {ops : Array Oper} {st0 st : AState} {y : Code} {Q : Exit → AState → Prop} {i : Nat} {acc : List Eff} (hi : ops.size = i) (h : AW P y Q st) : AR P ops false st0 (thenQ P y Q) (i, st, acc) := ar_done hi (fun h => by cases h) h
theorem ar_endD [Trk] {ops : Array Oper} {st0 st : AState} {y : Code} {Q : Exit → AState → Prop} {i : Nat} {acc : List Eff} (hi : ops.size = i) (hc : checkTr ops st0 acc = true) (h : AW P y Q st) : AR P ops true st0 (thenQ P y Q) (i, st, acc) := ar_done hi (fun _ => hc) h
theorem ar_fin [Trk] {ops : Array Oper} {st0 st : AState} {Q : Exit → AState → Prop} {i : Nat} {acc : List Eff} (hi : ops.size = i) (h : Q .normal st) : AR P ops false st0 Q (i, st, acc) := ar_done hi (fun h => by cases h) h
theorem ar_finD [Trk] {ops : Array Oper} {st0 st : AState} {Q : Exit → AState → Prop} {i : Nat} {acc : List Eff} (hi : ops.size = i) (hc : checkTr ops st0 acc = true) (h : Q .normal st) : AR P ops true st0 Q (i, st, acc) := ar_done hi (fun _ => hc) h
theorem ret_vals2 [Trk] {rs : List ResultVar} {res res' : AV} {st : AState} {r : List AV} (h1 : resA P st rs = some r) (h2 : resV r = res') (h3 : res' = res) : retL P rs res [] .ret st := ret_vals h1 (h2.trans h3)
theorem aw_sreg [Trk] {id : Nat} {ops : Array Oper} {y : Code} {Q : Exit → AState → Prop} {st : AState} (h : AR P ops false st (thenQ P y Q) (0, st, [])) : AW P (.seq (.region id ops false) y) Q st := aw_seq (aw_region h)
theorem aw_sregD [Trk] {id : Nat} {ops : Array Oper} {y : Code} {Q : Exit → AState → Prop} {st : AState} (hm : P.follows .mixedOrders = true) (h : AR P ops true st (thenQ P y Q) (0, st, [])) : AW P (.seq (.region id ops true) y) Q st := aw_seq (aw_region_draw hm h)
theorem blockQ_hit [Trk] {id : Nat} {Q : Exit → AState → Prop} {st : AState} (h : Q .normal st) : blockQ id Q (.exit id) st := by simpa [blockQ] using h
theorem blockQ_miss [Trk] {id i : Nat} {Q : Exit → AState → Prop} {st : AState} (hi : i ≠ id) (h : Q (.exit i) st) : blockQ id Q (.exit i) st := by simpa [blockQ, hi] using h
/-- As 'ar_go', and it goes on. -/
theorem ar_go2 [Trk] {ops : Array Oper} {draw : Bool} {st0 : AState} {Q : Exit → AState → Prop} {i j : Nat} {st st' : AState} {acc acc' : List Eff} (l : List Oper) (hl : ops.toList.drop i = l) (h : runs P ops draw l i st acc = (j, st', acc')) (hj : Nat.blt i j = true) (k : AR P ops draw st0 Q (j, st', acc')) : AR P ops draw st0 Q (i, st, acc) :=
  as_runs l hl h st0 Q k
abbrev I (k : IntKind) (n : Int) : AV := .pv (.v (.int k n))
abbrev C (k : IntKind) (n : Int) : PV := .v (.int k n)
abbrev B (b : Bool) : AV := .pv (.v (.bool b))
theorem aw_ifT [Trk] {c : Operand} {x y : Code} {b : Bool} {Q : Exit → AState → Prop} {st : AState} (hc : ev st c = .pv (.v (.bool b))) (hb : b = true) (h : AW P x Q st) : AW P (.cond c x y) Q st := aw_cond hc (fun _ => h) (fun h' => by rw [hb] at h'; cases h')
theorem aw_ifF [Trk] {c : Operand} {x y : Code} {b : Bool} {Q : Exit → AState → Prop} {st : AState} (hc : ev st c = .pv (.v (.bool b))) (hb : b = false) (h : AW P y Q st) : AW P (.cond c x y) Q st := aw_cond hc (fun h' => by rw [hb] at h'; cases h') (fun _ => h)
attribute [simp] pickA runs stepG stepK step stepD stepN creates AState.killAll AState.kill enumT ef ev evC AState.app tget sget sBin sPick sNot sConv sExtract sNil sFunc sFAddr sField sIAddr sIndex sLoad sAlloc sBox sBuild sBuildS sSlice sLen sMM sBuiltin
  tkill skill AV.kill Slot.kill AV.has AV.hasL Slot.has abin keyO keysL slotK moveP cutP cutA cellsA cellsP spliceA spliceP allPV fillP partsP srcP bnd esOf List.drop_succ_cons Value.cells
  Value.oneCell' AV.ren AV.renL Slot.ren nmR renS noneS AV.okN AV.okL Slot.okN okName okY dstU resA resV
end Go.Eng
