import Derived.Test.YtamjcdfjkekdjaaEb2
set_option autoImplicit false
set_option linter.unusedVariables false
set_option linter.unusedSimpArgs false
namespace Go.Eng
open Go Go.RowKit
variable {P : Program}

/-! ## Code -/
def AW (P : Program) (c : Code) (Q : Exit → AState → Prop) (st : AState) : Prop :=
  ∀ (Γ : Ctx) (ρ : Rho) (a : Act) (w : World), Ok Γ st ρ a w → c.wp P (fun e a' w' => ∃ st' ρ', Q e st' ∧ Ok Γ st' ρ' a' w') a w

def thenQ (P : Program) (c : Code) (Q : Exit → AState → Prop) : Exit → AState → Prop
  | .normal, st => AW P c Q st
  | e, st => Q e st
def blockQ (id : Nat) (Q : Exit → AState → Prop) : Exit → AState → Prop
  | .exit i, st => if i = id then Q .normal st else Q (.exit i) st
  | e, st => Q e st

theorem AW.mono {c : Code} {Q Q' : Exit → AState → Prop} {st : AState} (h : AW P c Q st) (hq : ∀ e s, Q e s → Q' e s) : AW P c Q' st :=
  fun Γ ρ a w hok => wp_mono (h Γ ρ a w hok) fun e a' w' ⟨st', ρ', h1, h2⟩ => ⟨st', ρ', hq _ _ h1, h2⟩
theorem aw_seq {x y : Code} {Q : Exit → AState → Prop} {st : AState} (h : AW P x (thenQ P y Q) st) : AW P (.seq x y) Q st := by
  intro Γ ρ a w hok
  refine wp_seq (wp_mono (h Γ ρ a w hok) ?_)
  rintro e a' w' ⟨st', ρ', h1, h2⟩
  cases e <;> first | exact h1 Γ ρ' a' w' h2 | exact ⟨st', ρ', h1, h2⟩
theorem aw_skip {Q : Exit → AState → Prop} {st : AState} (h : Q .normal st) : AW P .skip Q st := fun Γ ρ a w hok => wp_skip ⟨st, ρ, h, hok⟩
theorem aw_exit {id : Nat} {Q : Exit → AState → Prop} {st : AState} (h : Q (.exit id) st) : AW P (.exit id) Q st := fun Γ ρ a w hok => wp_exit ⟨st, ρ, h, hok⟩
theorem aw_ret {Q : Exit → AState → Prop} {st : AState} (h : Q .ret st) : AW P .ret Q st := fun Γ ρ a w hok => wp_ret ⟨st, ρ, h, hok⟩
theorem aw_block {id : Nat} {c : Code} {Q : Exit → AState → Prop} {st : AState} (h : AW P c (blockQ id Q) st) : AW P (.block id c) Q st := by
  intro Γ ρ a w hok
  refine wp_block (wp_mono (h Γ ρ a w hok) ?_)
  rintro e a' w' ⟨st', ρ', h1, h2⟩
  cases e with
  | exit i =>
    simp only [blockQ, Exit.inBlock] at h1 ⊢
    split <;> rename_i hi
    · rw [if_pos hi] at h1; exact ⟨st', ρ', h1, h2⟩
    · rw [if_neg hi] at h1; exact ⟨st', ρ', h1, h2⟩
  | _ => exact ⟨st', ρ', h1, h2⟩
theorem aw_cond {c : Operand} {x y : Code} {b : Bool} {Q : Exit → AState → Prop} {st : AState} (hc : ev st c = .pv (.v (.bool b))) (ht : b = true → AW P x Q st) (hf : b = false → AW P y Q st) : AW P (.cond c x y) Q st := by
  intro Γ ρ a w hok
  have h1 := ev_rel hok c
  rw [hc] at h1
  exact wp_cond_split (pv_inv h1) (fun h => ht h Γ ρ a w hok) (fun h => hf h Γ ρ a w hok)

/-! ### Less is known -/
def Sub (st st' : AState) : Prop := ∀ (Γ : Ctx) (ρ : Rho) (a : Act) (w : World), Ok Γ st ρ a w → ∃ ρ', Ok Γ st' ρ' a w
theorem Sub.refl (st : AState) : Sub st st := fun Γ ρ a w h => ⟨ρ, h⟩
theorem Sub.trans {a b c : AState} (h : Sub a b) (k : Sub b c) : Sub a c := fun Γ ρ x w hok => let ⟨ρ', h'⟩ := h Γ ρ x w hok; k Γ ρ' x w h'
theorem aw_sub {c : Code} {Q : Exit → AState → Prop} {st st' : AState} (h : Sub st st') (k : AW P c Q st') : AW P c Q st := fun Γ ρ a w hok => let ⟨ρ', h'⟩ := h Γ ρ a w hok; k Γ ρ' a w h'

theorem tget_mem : ∀ {l : List (Nat × AV)} {t : Nat}, tget l t = .dead ∨ (t, tget l t) ∈ l
  | [], _ => .inl rfl
  | (k, v) :: r, t => by
    simp only [tget]
    split
    · rename_i h; subst h; exact .inr (by simp)
    · rcases tget_mem (l := r) (t := t) with h | h
      · exact .inl h
      · exact .inr (by simp [h])
theorem sget_mem : ∀ {l : SMap} {n : Name}, sget l n = none ∨ (n, sget l n) ∈ l
  | [], _ => .inl rfl
  | (k, v) :: r, n => by
    simp only [sget]
    split
    · rename_i h; subst h; exact .inr (by simp)
    · rcases sget_mem (l := r) (n := n) with h | h
      · exact .inl h
      · exact .inr (by simp [h])
/-- What is kept of the temporaries and of the slots is what is listed. -/
theorem Sub.of {st st' : AState} (hn : st'.n = st.n) (ht : ∀ p ∈ st'.t, p.2 = tget st.t p.1) (hs : ∀ p ∈ st'.s, p.2 = sget st.s p.1) : Sub st st' := by
  intro Γ ρ a w hok
  refine ⟨ρ, hok.defers, by rw [hn]; exact hok.size, fun t => ?_, hok.sok.sub ⟨fun n s' h => ?_⟩⟩
  · rcases tget_mem (l := st'.t) (t := t) with h | h
    · rw [h]; trivial
    · have := ht _ h
      simp only at this
      rw [this]; exact hok.tmps t
  · rcases sget_mem (l := st'.s) (n := n) with h1 | h1
    · rw [h1] at h; cases h
    · have := hs _ h1
      simp only at this
      rw [h] at this
      exact ⟨s', this.symm, fun _ _ k => k, fun _ => rfl⟩

/-! ### Loops -/
def loopQ {ι : Type} (head : ι → AState) (μ : ι → Nat) (i : ι) (Q : Exit → AState → Prop) : Exit → AState → Prop
  | .normal, st => ∃ j, μ j < μ i ∧ Sub st (head j)
  | e, st => Q e st
theorem exists_least (p : Nat → Prop) : ∀ n, p n → ∃ m, p m ∧ ∀ q, p q → m ≤ q := by
  intro n
  induction n using Nat.strongRecOn with
  | _ n ih =>
    intro h
    by_cases hq : ∃ q, q < n ∧ p q
    · obtain ⟨q, h1, h2⟩ := hq; exact ih q h1 h2
    · exact ⟨n, h, fun q h2 => Nat.le_of_not_lt fun h3 => hq ⟨q, h3, h2⟩⟩
theorem aw_loop {ι : Type} {c : Code} {Q : Exit → AState → Prop} {st : AState} (head : ι → AState) (μ : ι → Nat) (i0 : ι) (h0 : Sub st (head i0)) (hr : ∀ i, AW P c (loopQ head μ i Q) (head i)) : AW P (.loop c) Q st := by
  intro Γ ρ a w hok
  obtain ⟨ρ0, hok0⟩ := h0 Γ ρ a w hok
  classical
  let meas : Act → World → Nat → Prop := fun a w n => ∃ i ρ, Ok Γ (head i) ρ a w ∧ μ i = n
  let μ' : Act → World → Nat := fun a w => if h : ∃ n, meas a w n ∧ ∀ q, meas a w q → n ≤ q then Classical.choose h else 0
  refine wp_loop (fun a w => ∃ i ρ, Ok Γ (head i) ρ a w) μ' ⟨i0, ρ0, hok0⟩ ?_
  intro a w hI
  have hex : ∃ n, meas a w n ∧ ∀ q, meas a w q → n ≤ q := by obtain ⟨i, ρ, h⟩ := hI; exact exists_least _ (μ i) ⟨i, ρ, h, rfl⟩
  obtain ⟨i, ρ1, h1, h2⟩ := (Classical.choose_spec hex).1
  have hμ : μ' a w = μ i := by simp only [μ', dif_pos hex]; exact h2.symm
  refine wp_mono (hr i Γ ρ1 a w h1) ?_
  rintro e a' w' ⟨st', ρ', h3, h4⟩
  cases e with
  | normal =>
    obtain ⟨j, h5, h6⟩ := h3
    obtain ⟨ρ2, h7⟩ := h6 Γ ρ' a' w' h4
    have hex' : ∃ n, meas a' w' n ∧ ∀ q, meas a' w' q → n ≤ q := exists_least _ (μ j) ⟨j, ρ2, h7, rfl⟩
    refine ⟨⟨j, ρ2, h7⟩, ?_⟩
    have : μ' a' w' ≤ μ j := by simp only [μ', dif_pos hex']; exact (Classical.choose_spec hex').2 _ ⟨j, ρ2, h7, rfl⟩
    omega
  | _ => exact ⟨st', ρ', h3, h4⟩

/-! ### Regions -/
def AR (P : Program) (ops : Array Oper) (draw : Bool) (st0 : AState) (Q : Exit → AState → Prop) (r : Nat × AState × List Eff) : Prop :=
  ∃ tr st', Run P ops r.1 r.2.1 tr st' ∧ (draw = true → checkTr ops st0 (r.2.2 ++ tr) = true) ∧ Q .normal st'
theorem aw_region {id : Nat} {ops : Array Oper} {Q : Exit → AState → Prop} {st : AState} (h : AR P ops false st Q (0, st, [])) : AW P (.region id ops false) Q st := by
  obtain ⟨tr, st', h1, _, h2⟩ := h
  intro Γ ρ a w hok
  refine wp_region ?_
  have := h1.sound (Γ := Γ) (Q := fun e a' w' => ∃ st' ρ', Q e st' ∧ Ok Γ st' ρ' a' w') (fun ρ' a' w' h => ⟨st', ρ', h2, h⟩) ρ a w hok
  rwa [List.range_eq_range']
theorem aw_region_draw {id : Nat} {ops : Array Oper} {Q : Exit → AState → Prop} {st : AState} (hm : P.follows .mixedOrders = true) (h : AR P ops true st Q (0, st, [])) : AW P (.region id ops true) Q st := by
  obtain ⟨tr, st', h1, h3, h2⟩ := h
  intro Γ ρ a w hok
  refine wp_region_any hm ?_
  exact h1.any (by simpa using h3 rfl) (Γ := Γ) (Q := fun e a' w' => ∃ st' ρ', Q e st' ∧ Ok Γ st' ρ' a' w') (fun ρ' a' w' h => ⟨st', ρ', h2, h⟩) (hok.world (w' := { w with drawn := w.drawn + 1 }) rfl rfl rfl rfl)
theorem ar_done {ops : Array Oper} {draw : Bool} {st0 st : AState} {Q : Exit → AState → Prop} {i : Nat} {acc : List Eff} (hi : ops.size = i) (hc : draw = true → checkTr ops st0 acc = true) (h : Q .normal st) : AR P ops draw st0 Q (i, st, acc) :=
  ⟨[], st, .nil hi, by simpa using hc, h⟩
theorem ar_at {ops : Array Oper} {draw : Bool} {st0 st : AState} {Q : Exit → AState → Prop} {i : Nat} {acc acc' : List Eff} {E : Eff} (hi : i < ops.size) (hl : LocalAt P ops i (st.killAll E.c) E) (hacc : draw = true → acc' = acc ++ [E])
    (h : AR P ops draw st0 Q (i + 1, (st.killAll E.c).app E.u, acc')) : AR P ops draw st0 Q (i, st, acc) := by
  obtain ⟨tr, st', h1, h2, h3⟩ := h
  refine ⟨E :: tr, st', .cons hi hl h1, fun hd => ?_, h3⟩
  have := h2 hd
  rw [hacc hd] at this
  simpa using this
/-- One operation whose effect is known. -/
theorem ar_local {ops : Array Oper} {draw : Bool} {st0 st : AState} {Q : Exit → AState → Prop} {i : Nat} {acc : List Eff} {E : Eff} {o : Oper} (ho : ops[i]? = some o) (hg : o.guard = none) (hl : Local P o (st.killAll E.c) E)
    (h : AR P ops draw st0 Q (i + 1, (st.killAll E.c).app E.u, acc ++ [E])) : AR P ops draw st0 Q (i, st, acc) :=
  ar_at (Array.getElem?_eq_some_iff.1 ho).1 (LocalAt.plain ho hg hl) (fun _ => rfl) h
theorem ar_local_if {ops : Array Oper} {draw : Bool} {st0 st : AState} {Q : Exit → AState → Prop} {i j d : Nat} {b : Bool} {acc : List Eff} {E : Eff} {o : Oper} (ho : ops[i]? = some o) (hg : o.guard = some (j, b)) (hj : (ops[j]?).bind (·.dst) = some d)
    (hv : tget (st.killAll E.c).t d = .pv (.v (.bool b))) (hl : Local P o (st.killAll E.c) E) (h : AR P ops draw st0 Q (i + 1, (st.killAll E.c).app E.u, acc ++ [{ E with r := .tmp d :: E.r }])) : AR P ops draw st0 Q (i, st, acc) :=
  ar_at (E := { E with r := .tmp d :: E.r }) (Array.getElem?_eq_some_iff.1 ho).1 (LocalAt.guarded ho hg hj hv hl) (fun _ => rfl) h

def creates (o : Oper) : List Name :=
  match o.op, o.dst with
  | .alloc _, some d | .box _ _, some d | .buildSlice _ _ _, some d => [.loc d]
  | _, _ => []
/-- One operation, if it can be done here. -/
def stepK (P : Program) (o : Oper) (st : AState) : Option (Eff × AState) :=
  match step P o (st.killAll (creates o)) with
  | some E => if E.c = creates o then some (E, (st.killAll (creates o)).app E.u) else none
  | none => none
def stepG (P : Program) (ops : Array Oper) (o : Oper) (st : AState) : Option (Eff × AState) :=
  match o.guard with
  | none => stepK P o st
  | some (j, b) => match (ops[j]?).bind (·.dst) with
    | some d => match tget st.t d with
      | .pv (.v (.bool c)) =>
        if c = b then (match stepK P o st with
          | some (E, st') => some ({ E with r := .tmp d :: E.r }, st')
          | none => none)
        else (match o.dst with
          | some q => if q < st.n then some (⟨[.tmp d], ⟨[(q, .tup [])], []⟩, []⟩, st.app ⟨[(q, .tup [])], []⟩) else none
          | none => some (⟨[.tmp d], ⟨[], []⟩, []⟩, st))
      | .tup [] => (match o.dst with
          | some q => if q < st.n then some (⟨[.tmp d], ⟨[(q, .tup [])], []⟩, []⟩, st.app ⟨[(q, .tup [])], []⟩) else none
          | none => some (⟨[.tmp d], ⟨[], []⟩, []⟩, st))
      | _ => none
    | none => none
def runs (P : Program) (ops : Array Oper) (draw : Bool) : List Oper → Nat → AState → List Eff → Nat × AState × List Eff
  | [], i, st, acc => (i, st, acc)
  | o :: l, i, st, acc => match stepG P ops o st with
    | some (E, st') => runs P ops draw l (i + 1) st' (if draw = true then acc ++ [E] else acc)
    | none => (i, st, acc)

theorem tget_killAll_pv {d : Nat} {p : PV} : ∀ (l : List Name) {st : AState}, tget st.t d = .pv p → tget (st.killAll l).t d = .pv p
  | [], _, h => h
  | n :: l, st, h => tget_killAll_pv l (by simp only [AState.kill, tget_kill, h]; rfl)
theorem stepK_ok {o : Oper} {st st' : AState} {E : Eff} (h : stepK P o st = some (E, st')) : Local P o (st.killAll E.c) E ∧ st' = (st.killAll E.c).app E.u := by
  unfold stepK at h
  split at h
  · rename_i E' hE
    split at h
    · rename_i hc
      cases h
      rw [hc]
      exact ⟨step_local hE, rfl⟩
    · cases h
  · cases h
theorem stepG_ok {ops : Array Oper} {i : Nat} {o : Oper} {st st' : AState} {E : Eff} (ho : ops[i]? = some o) (h : stepG P ops o st = some (E, st')) : LocalAt P ops i (st.killAll E.c) E ∧ st' = (st.killAll E.c).app E.u := by
  unfold stepG at h
  split at h
  · rename_i hg
    obtain ⟨h1, h2⟩ := stepK_ok h
    exact ⟨LocalAt.plain ho hg h1, h2⟩
  · rename_i j b hg
    split at h
    · rename_i d hd
      split at h
      · rename_i c hv
        split at h
        · rename_i hcb
          subst hcb
          split at h
          · rename_i E' st2 hE
            cases h
            obtain ⟨h1, h2⟩ := stepK_ok hE
            exact ⟨LocalAt.guarded (E := E') ho hg hd (tget_killAll_pv _ hv) h1, h2⟩
          · cases h
        · rename_i hcb
          have hcb' : c = !b := by cases c <;> cases b <;> simp_all
          subst hcb'
          split at h
          · rename_i q hq
            split at h
            · rename_i hlt
              cases h
              have := LocalAt.skipped (P := P) (st := st) ho hg hd hv (.inl rfl) (fun q' hq' => by rw [hq] at hq'; cases hq'; exact hlt)
              rw [hq] at this
              exact ⟨this, rfl⟩
            · cases h
          · rename_i hq
            cases h
            have := LocalAt.skipped (P := P) (st := st) ho hg hd hv (.inl rfl) (fun q' hq' => by rw [hq] at hq'; cases hq')
            rw [hq] at this
            exact ⟨this, rfl⟩
      · rename_i hv
        split at h
        · rename_i q hq
          split at h
          · rename_i hlt
            cases h
            have := LocalAt.skipped (P := P) (st := st) ho hg hd hv (.inr rfl) (fun q' hq' => by rw [hq] at hq'; cases hq'; exact hlt)
            rw [hq] at this
            exact ⟨this, rfl⟩
          · cases h
        · rename_i hq
          cases h
          have := LocalAt.skipped (P := P) (st := st) ho hg hd hv (.inr rfl) (fun q' hq' => by rw [hq] at hq'; cases hq')
          rw [hq] at this
          exact ⟨this, rfl⟩
      · cases h
    · cases h
theorem ar_runs {ops : Array Oper} {draw : Bool} {st0 : AState} {Q : Exit → AState → Prop} : ∀ (l : List Oper) (i : Nat) (st : AState) (acc : List Eff), ops.toList.drop i = l → AR P ops draw st0 Q (runs P ops draw l i st acc) → AR P ops draw st0 Q (i, st, acc)
  | [], _, _, _, _, h => h
  | o :: l, i, st, acc, hl, h => by
    simp only [runs] at h
    have ho : ops[i]? = some o := by
      have : (ops.toList.drop i)[0]? = some o := by rw [hl]; rfl
      simpa [List.getElem?_drop] using this
    split at h
    · rename_i E st' hs
      obtain ⟨h1, rfl⟩ := stepG_ok ho hs
      refine ar_at (acc' := if draw = true then acc ++ [E] else acc) (Array.getElem?_eq_some_iff.1 ho).1 h1 (fun hd => by rw [if_pos hd]) ?_
      exact ar_runs l (i + 1) _ _ (by rw [← List.tail_drop, hl]; rfl) h
    · exact h

end Go.Eng
