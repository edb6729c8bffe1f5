import Derived.Test.YtamjcdfjkekdjaaEa1
set_option autoImplicit false
set_option linter.unusedVariables false
set_option linter.unusedSimpArgs false
namespace Go.Eng
open Go Go.RowKit

/-! ## Mentions, kills -/
def Slot.has (n : Name) : Slot → Bool
  | .box _ cells => AV.hasL n cells
  | .own _ _ _ => false
def AV.kill (n : Name) (a : AV) : AV := if a.has n = true then .dead else a
def Slot.kill (n : Name) : Slot → Slot
  | .box T cells => .box T (cells.map (AV.kill n))
  | .own e es xs => .own e es xs
def tkill (n : Name) : List (Nat × AV) → List (Nat × AV)
  | [] => []
  | (k, v) :: r => (k, AV.kill n v) :: tkill n r
def skill (n : Name) : SMap → SMap
  | [] => []
  | (k, v) :: r => (k, v.map (Slot.kill n)) :: skill n r
def AState.kill (st : AState) (n : Name) : AState := { st with t := tkill n st.t, s := skill n st.s }
def AState.free (st : AState) (n : Name) : Prop := (∀ t, (tget st.t t).has n = false) ∧ ∀ m s, sget st.s m = some s → s.has n = false

theorem AV.kill_has (n : Name) (a : AV) : (AV.kill n a).has n = false := by
  unfold AV.kill; split
  · rfl
  · rename_i h; simpa using h
theorem hasL_mapKill (n : Name) : ∀ l : List AV, AV.hasL n (l.map (AV.kill n)) = false
  | [] => rfl
  | a :: l => by simp [AV.hasL, AV.kill_has, hasL_mapKill n l]
theorem Slot.kill_has (n : Name) (s : Slot) : (Slot.kill n s).has n = false := by
  cases s with
  | box T cells => exact hasL_mapKill n cells
  | own e es xs => rfl
theorem tget_kill (n : Name) : ∀ (l : List (Nat × AV)) (t : Nat), tget (tkill n l) t = AV.kill n (tget l t)
  | [], t => rfl
  | (k, v) :: r, t => by
                     simp only [tkill, tget]; split
                     · rfl
                     · exact tget_kill n r t
theorem sget_kill (n : Name) : ∀ (l : SMap) (m : Name), sget (skill n l) m = (sget l m).map (Slot.kill n)
  | [], m => rfl
  | (k, v) :: r, m => by
                     simp only [skill, sget]; split
                     · rfl
                     · exact sget_kill n r m
theorem AState.kill_free (st : AState) (n : Name) : (st.kill n).free n := by
  refine ⟨fun t => by simp only [AState.kill, tget_kill]; exact AV.kill_has n _, fun m s h => ?_⟩
  simp only [AState.kill, sget_kill] at h
  cases hs : sget st.s m with
  | none => rw [hs] at h; cases h
  | some s0 => rw [hs] at h; simp at h; subst h; exact Slot.kill_has n s0
theorem AV.kill_eq {n : Name} {a : AV} (h : a.has n = false) : AV.kill n a = a := by simp [AV.kill, h]
theorem ARel.kill {ρ : Rho} {w : World} (n : Name) {a : AV} {v : Value} (h : ARel ρ w a v) : ARel ρ w (AV.kill n a) v := by
  unfold AV.kill; split
  · trivial
  · exact h
theorem ARels.kill {ρ : Rho} {w : World} (n : Name) : ∀ {l : List AV} {vs : List Value}, ARels ρ w l vs → ARels ρ w (l.map (AV.kill n)) vs
  | [], vs, h => by simpa only [ARels, List.map_nil] using h
  | a :: l, vs, h => by
    obtain ⟨v, vs', h1, h2, h3⟩ := h
    exact ⟨v, vs', h1, h2.kill n, ARels.kill n h3⟩
theorem SlotOK.kill {ρ : Rho} {w : World} {m : Name} (n : Name) {s : Slot} (h : SlotOK ρ w m s) : SlotOK ρ w m (Slot.kill n s) := by
  cases s with
  | box T cells => obtain ⟨cs, h1, h2, h3⟩ := h; exact ⟨cs, h1, h2.kill n, h3⟩
  | own e es xs => exact h
theorem slotBlk_kill (ρ : Rho) (n m : Name) (s : Slot) : slotBlk ρ m (Slot.kill n s) = slotBlk ρ m s := by cases s <;> rfl

theorem sget_kill_some {n m : Name} {S : SMap} {s : Slot} (h : sget (skill n S) m = some s) : ∃ s0, sget S m = some s0 ∧ s = Slot.kill n s0 := by
  rw [sget_kill] at h
  cases hs : sget S m with
  | none => rw [hs] at h; cases h
  | some s0 => rw [hs] at h; simp at h; exact ⟨s0, rfl, h.symm⟩

/-- Slots that are forgotten, or of which less is known. -/
structure SSub (S S' : SMap) : Prop where
  out : ∀ n s', sget S' n = some s' → ∃ s, sget S n = some s ∧ (∀ ρ w, SlotOK ρ w n s → SlotOK ρ w n s') ∧ ∀ ρ, slotBlk ρ n s' = slotBlk ρ n s
theorem SOk.sub {Γ : Ctx} {S S' : SMap} {ρ : Rho} {w : World} (h : SOk Γ S ρ w) (hs : SSub S S') : SOk Γ S' ρ w := by
  refine { h with slots := fun n s' h' => ?_, disj := fun n m s s' b h1 h2 h3 h4 => ?_, sep := fun n s b h1 h2 => ?_, home := fun n s b h1 h2 => ?_ }
  · obtain ⟨s, h1, h2, _⟩ := hs.out n s' h'; exact h2 _ _ (h.slots n s h1)
  · obtain ⟨t, k1, _, k3⟩ := hs.out n s h1
    obtain ⟨t', l1, _, l3⟩ := hs.out m s' h2
    exact h.disj n m t t' b k1 l1 (by rw [← k3]; exact h3) (by rw [← l3]; exact h4)
  · obtain ⟨t, k1, _, k3⟩ := hs.out n s h1; exact h.sep n t b k1 (by rw [← k3]; exact h2)
  · obtain ⟨t, k1, _, k3⟩ := hs.out n s h1; exact h.home n t b k1 (by rw [← k3]; exact h2)
theorem SOk.kill {Γ : Ctx} {S : SMap} {ρ : Rho} {w : World} (h : SOk Γ S ρ w) (n : Name) : SOk Γ (skill n S) ρ w :=
  h.sub ⟨fun m s' hm => by
    obtain ⟨s0, h1, rfl⟩ := sget_kill_some hm
    exact ⟨s0, h1, fun _ _ k => k.kill n, fun ρ => slotBlk_kill ρ n m s0⟩⟩
theorem Ok.kill {Γ : Ctx} {st : AState} {ρ : Rho} {a : Act} {w : World} (h : Ok Γ st ρ a w) (n : Name) : Ok Γ (st.kill n) ρ a w :=
  ⟨h.defers, h.size, fun t => by simp only [AState.kill, tget_kill]; exact (h.tmps t).kill n, h.sok.kill n⟩

/-! ## Updates -/
structure Upd where
  t : List (Nat × AV)
  s : SMap
def AState.app (st : AState) (U : Upd) : AState := { st with t := U.t ++ st.t, s := U.s ++ st.s }

theorem tget_append (l r : List (Nat × AV)) (t : Nat) : tget (l ++ r) t = if t ∈ l.map (·.1) then tget l t else tget r t := by
  induction l with
  | nil => simp
  | cons kv l ih =>
    obtain ⟨k, v⟩ := kv
    simp only [List.cons_append, tget, ih, List.map_cons, List.mem_cons]
    by_cases h : t = k
    · simp [h]
    · simp only [h, false_or, if_false]; first | done | (split <;> rfl)
theorem sget_append (l r : SMap) (n : Name) : sget (l ++ r) n = if n ∈ l.map (·.1) then sget l n else sget r n := by
  induction l with
  | nil => simp
  | cons kv l ih =>
    obtain ⟨k, v⟩ := kv
    simp only [List.cons_append, sget, ih, List.map_cons, List.mem_cons]
    by_cases h : n = k
    · simp [h]
    · simp only [h, false_or, if_false]; first | done | (split <;> rfl)

theorem getD_put (a : Act) (d t : Nat) (v : Value) (hd : d < a.tmps.size) : (a.put (some d) v).tmps.getD t undef = if t = d then v else a.tmps.getD t undef := by
  simp only [Act.put, Array.getD_eq_getD_getElem?, Array.getElem?_setIfInBounds]
  by_cases h : d = t
  · subst h; simp [hd]
  · rw [if_neg h, if_neg (fun e => h e.symm)]
theorem put_size (a : Act) (d : Option Tmp) (v : Value) : (a.put d v).tmps.size = a.tmps.size := by cases d <;> simp [Act.put]
theorem put_defers (a : Act) (d : Option Tmp) (v : Value) : (a.put d v).defers = a.defers := by cases d <;> rfl

/-- The slots after something has turned. -/
theorem Ok.setT {Γ : Ctx} {st : AState} {ρ : Rho} {a : Act} {w : World} (h : Ok Γ st ρ a w) {d : Nat} (hd : d < st.n) {av : AV} {v : Value} (hv : ARel ρ w av v) :
    Ok Γ (st.app ⟨[(d, av)], []⟩) ρ (a.put (some d) v) w :=
  ⟨by rw [put_defers]; exact h.defers, by rw [put_size]; exact h.size, fun t => by
    rw [getD_put _ _ _ _ (by rw [h.size]; exact hd)]
    simp only [AState.app, List.cons_append, List.nil_append, tget]
    split
    · exact hv
    · exact h.tmps t, h.sok⟩

/-- Nothing of memory has turned but what was drawn. -/
theorem SOk.world {Γ : Ctx} {S : SMap} {ρ : Rho} {w w' : World} (h : SOk Γ S ρ w) (hh : w'.heap = w.heap) (ho : w'.os = w.os) (ht : w'.tape = w.tape) (hp : w'.output = w.output) : SOk Γ S ρ w' := by
  have k : Keep ρ.F w ρ.F w' := ⟨fun _ h => h, fun b _ => by rw [hh]⟩
  refine { h with slots := fun n s hs => ?_, flt := fun b hb => by rw [hh]; exact h.flt b hb, os := by rw [ho]; exact h.os, tape := by rw [ht]; exact h.tape, output := by rw [hp]; exact h.output, size := by rw [hh]; exact h.size, below := fun b h1 h2 => by rw [hh]; exact h.below b h1 h2 }
  have := h.slots n s hs
  cases s with
  | box T cells => obtain ⟨cs, h1, h2, h3⟩ := this; exact ⟨cs, by rw [hh]; exact h1, ARels.keep' k rfl rfl h2, h3⟩
  | own e es xs => obtain ⟨vs, h1, h2⟩ := this; exact ⟨vs, h1.kept (row := none) ⟨ho, ht, hp, by rw [hh]; exact Nat.le_refl _, fun b _ _ => by rw [hh]⟩ (fun _ _ => by simp), PElems.keep k _ _ h2⟩
theorem Ok.world {Γ : Ctx} {st : AState} {ρ : Rho} {a : Act} {w w' : World} (h : Ok Γ st ρ a w) (hh : w'.heap = w.heap) (ho : w'.os = w.os) (ht : w'.tape = w.tape) (hp : w'.output = w.output) : Ok Γ st ρ a w' :=
  ⟨h.defers, h.size, fun t => ARel.keep' ⟨fun _ h => h, fun b _ => by rw [hh]⟩ rfl rfl (h.tmps t), h.sok.world hh ho ht hp⟩

/-- One slot is new, or has turned; the block that turned is its own, or a new one. -/
theorem SOk.slot {Γ : Ctx} {S : SMap} {ρ ρ' : Rho} {w w' : World} (h : SOk Γ S ρ w) (n : Name) (s' : Option Slot)
    (hF : ρ'.F = ρ.F) (hxb : ∀ i, ρ'.blk (.ext i) = ρ.blk (.ext i)) (hρ : ∀ m, m ≠ n → Same ρ ρ' m) (hn : Same ρ ρ' n ∨ ∀ m s, sget S m = some s → s.has n = false)
    (row : Option Nat) (hg : w.grownBy w' row) (hrow : ∀ b, row = some b → ∃ s, sget S n = some s ∧ slotBlk ρ n s = some b)
    (hs : ∀ s, s' = some s → SlotOK ρ' w' n s) (hb : ∀ s b, s' = some s → slotBlk ρ' n s = some b → w.heap.size ≤ b ∨ row = some b) :
    SOk Γ ((n, s') :: S) ρ' w' := by
  have hFrow : ∀ b, ρ.F b → some b ≠ row := fun b hb e => by
    obtain ⟨s, h1, h2⟩ := hrow b e.symm
    exact h.sep n s b h1 h2 hb
  have k : Keep ρ.F w ρ'.F w' := ⟨fun b hb => by rw [hF]; exact hb, fun b hb => hg.block b (h.flt b hb) (hFrow b hb)⟩
  have hlt : ∀ m s b, sget S m = some s → slotBlk ρ m s = some b → b < w.heap.size := by
    intro m s b hm hb
    have := h.slots m s hm
    cases s with
    | box T cells => obtain ⟨cs, h1, _⟩ := this; simp [slotBlk] at hb; subst hb; exact (Array.getElem?_eq_some_iff.1 h1).1
    | own e es xs => obtain ⟨vs, h1, _⟩ := this; exact h1.lt hb
  have hblk : ∀ m s, m ≠ n → slotBlk ρ' m s = slotBlk ρ m s := by
    intro m s hm
    cases s with
    | box T cells => simp [slotBlk, (hρ m hm).blk]
    | own e es xs => simp [slotBlk, (hρ m hm).ov]
  have hother : ∀ m s b, m ≠ n → sget S m = some s → slotBlk ρ m s = some b → some b ≠ row := by
    intro m s b hm h1 h2 e
    obtain ⟨s0, k1, k2⟩ := hrow b e.symm
    exact hm (h.disj m n s s0 b h1 k1 h2 k2)
  have hsame : ∀ m s, m ≠ n → sget S m = some s → ∀ x, s.has x = true → Same ρ ρ' x := by
    intro m s hm h1 x hx
    by_cases hxn : x = n
    · subst hxn
      rcases hn with hn | hn
      · exact hn
      · rw [hn m s h1] at hx; cases hx
    · exact hρ x hxn
  have hget : ∀ m s, sget ((n, s') :: S) m = some s → (m = n ∧ s' = some s) ∨ (m ≠ n ∧ sget S m = some s) := by
    intro m s hm
    simp only [sget] at hm
    split at hm
    · exact .inl ⟨‹_›, hm⟩
    · exact .inr ⟨‹_›, hm⟩
  refine { slots := ?_, disj := ?_, sep := ?_, flt := ?_, os := ?_, tape := ?_, output := ?_, size := ?_, below := ?_, fmono := ?_, fnew := ?_, home := ?_, xblk := fun i => by rw [hxb]; exact h.xblk i }
  · intro m s hm
    rcases hget m s hm with ⟨rfl, rfl⟩ | ⟨hne, h1⟩
    · exact hs s rfl
    · have := h.slots m s h1
      cases s with
      | box T cells =>
        obtain ⟨cs, k1, k2, k3⟩ := this
        refine ⟨cs, ?_, ARels.keep k _ _ (fun x hx => hsame m _ hne h1 x hx) k2, k3⟩
        rw [(hρ m hne).blk, hg.block _ (hlt m _ _ h1 rfl) (hother m _ _ hne h1 rfl)]; exact k1
      | own e es xs =>
        obtain ⟨vs, k1, k2⟩ := this
        refine ⟨vs, ?_, PElems.keep k _ _ k2⟩
        rw [(hρ m hne).ov]
        exact k1.kept hg (fun b hb => hother m _ b hne h1 hb)
  · intro m m' s t b h1 h2 h3 h4
    rcases hget m s h1 with ⟨rfl, rfl⟩ | ⟨hne, k1⟩
    · rcases hget m' t h2 with ⟨rfl, e⟩ | ⟨hne', l1⟩
      · rfl
      · rw [hblk m' t hne'] at h4
        rcases hb s b rfl h3 with hb' | hb'
        · exact absurd (hlt m' t b l1 h4) (by omega)
        · exact absurd hb'.symm (hother m' t b hne' l1 h4)
    · rw [hblk m s hne] at h3
      rcases hget m' t h2 with ⟨rfl, rfl⟩ | ⟨hne', l1⟩
      · rcases hb t b rfl h4 with hb' | hb'
        · exact absurd (hlt m s b k1 h3) (by omega)
        · exact absurd hb'.symm (hother m s b hne k1 h3)
      · rw [hblk m' t hne'] at h4; exact h.disj m m' s t b k1 l1 h3 h4
  · intro m s b h1 h2 hfb
    rw [hF] at hfb
    rcases hget m s h1 with ⟨rfl, rfl⟩ | ⟨hne, k1⟩
    · rcases hb s b rfl h2 with hb' | hb'
      · exact absurd (h.flt b hfb) (by omega)
      · exact hFrow b hfb hb'.symm
    · rw [hblk m s hne] at h2; exact h.sep m s b k1 h2 hfb
  · intro b hb'; rw [hF] at hb'; exact Nat.lt_of_lt_of_le (h.flt b hb') hg.size
  · rw [hg.os]; exact h.os
  · rw [hg.tape]; exact h.tape
  · rw [hg.output]; exact h.output
  · exact Nat.le_trans h.size hg.size
  · intro b hb1 hb2
    rw [hg.block b (Nat.lt_of_lt_of_le hb1 h.size) ?_]
    · exact h.below b hb1 hb2
    · intro e
      obtain ⟨s, k1, k2⟩ := hrow b e.symm
      rcases h.home n s b k1 k2 with hx | hx
      · exact hb2 hx
      · omega
  · intro b hb'; rw [hF]; exact h.fmono b hb'
  · intro b hb'; rw [hF] at hb'; exact h.fnew b hb'
  · intro m s b h1 h2
    rcases hget m s h1 with ⟨rfl, rfl⟩ | ⟨hne, k1⟩
    · rcases hb s b rfl h2 with hb' | hb'
      · exact .inr (Nat.le_trans h.size hb')
      · obtain ⟨s0, k1, k2⟩ := hrow b hb'; exact h.home m s0 b k1 k2
    · rw [hblk m s hne] at h2; exact h.home m s b k1 h2

/-- The same with the frame beside it. -/
theorem Ok.slot {Γ : Ctx} {st : AState} {ρ ρ' : Rho} {a : Act} {w w' : World} (h : Ok Γ st ρ a w) (n : Name) (s' : Option Slot)
    (hF : ρ'.F = ρ.F) (hxb : ∀ i, ρ'.blk (.ext i) = ρ.blk (.ext i)) (hρ : ∀ m, m ≠ n → Same ρ ρ' m) (hn : Same ρ ρ' n ∨ st.free n)
    (row : Option Nat) (hg : w.grownBy w' row) (hrow : ∀ b, row = some b → ∃ s, sget st.s n = some s ∧ slotBlk ρ n s = some b)
    (hs : ∀ s, s' = some s → SlotOK ρ' w' n s) (hb : ∀ s b, s' = some s → slotBlk ρ' n s = some b → w.heap.size ≤ b ∨ row = some b) :
    Ok Γ (st.app ⟨[], [(n, s')]⟩) ρ' a w' := by
  have hFrow : ∀ b, ρ.F b → some b ≠ row := fun b hb e => by
    obtain ⟨s, h1, h2⟩ := hrow b e.symm
    exact h.sok.sep n s b h1 h2 hb
  have k : Keep ρ.F w ρ'.F w' := ⟨fun b hb => by rw [hF]; exact hb, fun b hb => hg.block b (h.sok.flt b hb) (hFrow b hb)⟩
  refine ⟨h.defers, h.size, fun t => ?_, h.sok.slot n s' hF hxb hρ (hn.imp id (fun x => x.2)) row hg hrow hs hb⟩
  refine ARel.keep k _ _ (fun x hx => ?_) (h.tmps t)
  by_cases hxn : x = n
  · subst hxn
    rcases hn with hn | hn
    · exact hn
    · have := hn.1 t; simp only [AState.app, List.nil_append] at hx; rw [this] at hx; cases hx
  · exact hρ x hxn

theorem AState.app_app (st : AState) (U V : Upd) : (st.app U).app V = st.app ⟨V.t ++ U.t, V.s ++ U.s⟩ := by simp [AState.app]

/-- The role of one name turned. -/
def Rho.box (ρ : Rho) (n : Name) (b : Nat) : Rho := { ρ with blk := fun m => if m = n then b else ρ.blk m }
def Rho.slice (ρ : Rho) (n : Name) (v : Value) : Rho := { ρ with ov := fun m => if m = n then v else ρ.ov m }
theorem Rho.box_same (ρ : Rho) (n : Name) (b : Nat) {m : Name} (h : m ≠ n) : Same ρ (ρ.box n b) m := ⟨by simp [Rho.box, h], rfl⟩
theorem Rho.slice_same (ρ : Rho) (n : Name) (v : Value) {m : Name} (h : m ≠ n) : Same ρ (ρ.slice n v) m := ⟨rfl, by simp [Rho.slice, h]⟩


/-- Only what is looked up counts. -/
theorem SOk.ext {Γ : Ctx} {S S' : SMap} {ρ : Rho} {w : World} (h : SOk Γ S ρ w) (hs : ∀ n, sget S' n = sget S n) : SOk Γ S' ρ w :=
  h.sub ⟨fun n s' h' => ⟨s', by rw [← hs]; exact h', fun _ _ k => k, fun _ => rfl⟩⟩
theorem Ok.ext {Γ : Ctx} {st st' : AState} {ρ : Rho} {a : Act} {w : World} (h : Ok Γ st ρ a w) (hn : st'.n = st.n) (ht : ∀ t, tget st'.t t = tget st.t t) (hs : ∀ n, sget st'.s n = sget st.s n) : Ok Γ st' ρ a w :=
  ⟨h.defers, by rw [hn]; exact h.size, fun t => by rw [ht]; exact h.tmps t, h.sok.ext hs⟩

/-- A slice is called otherwise. -/
def Rho.ren (ρ : Rho) (n m : Name) : Rho := { ρ with ov := fun q => if q = m then ρ.ov n else ρ.ov q }
theorem Rho.ren_same (ρ : Rho) (n m : Name) {q : Name} (h : q ≠ m) : Same ρ (ρ.ren n m) q := ⟨rfl, by simp [Rho.ren, h]⟩
theorem slotBlk_ren_ne (ρ : Rho) (n m : Name) {q : Name} (h : q ≠ m) (s : Slot) : slotBlk (ρ.ren n m) q s = slotBlk ρ q s := by cases s <;> simp [slotBlk, Rho.ren, h]
theorem SOk.ren {Γ : Ctx} {S : SMap} {ρ : Rho} {w : World} (h : SOk Γ S ρ w) {n m : Name} (hne : m ≠ n) {e es : Nat} {xs : List (List PV)} (hn : sget S n = some (.own e es xs)) (hf : ∀ q t, sget S q = some t → t.has m = false) :
    SOk Γ ((m, some (.own e es xs)) :: (n, none) :: S) (ρ.ren n m) w := by
  have hget : ∀ q t, sget ((m, some (.own e es xs)) :: (n, none) :: S) q = some t → (q = m ∧ t = .own e es xs) ∨ (q ≠ m ∧ q ≠ n ∧ sget S q = some t) := by
    intro q t hq
    simp only [sget] at hq
    split at hq
    · cases hq; exact .inl ⟨‹_›, rfl⟩
    · split at hq
      · cases hq
      · exact .inr ⟨‹_›, ‹_›, hq⟩
  have hb : slotBlk (ρ.ren n m) m (.own e es xs) = slotBlk ρ n (.own e es xs) := by simp [slotBlk, Rho.ren]
  refine { h with slots := ?_, disj := ?_, sep := ?_, home := ?_ }
  · intro q t hq
    rcases hget q t hq with ⟨rfl, rfl⟩ | ⟨h1, h2, h3⟩
    · obtain ⟨vs, h1, h2⟩ := h.slots n _ hn
      exact ⟨vs, by simpa [Rho.ren] using h1, h2⟩
    · have := h.slots q t h3
      cases t with
      | box T cells =>
        obtain ⟨cs, k1, k2, k3⟩ := this
        refine ⟨cs, by rw [(ρ.ren_same n m h1).blk]; exact k1, ARels.keep (ρ := ρ) (ρ' := ρ.ren n m) (Keep.refl _ _) _ _ (fun x hx => ρ.ren_same n m (fun e => ?_)) k2, k3⟩
        subst e; have := hf q _ h3; simp only [Slot.has] at this; rw [this] at hx; cases hx
      | own e es xs =>
        obtain ⟨vs, k1, k2⟩ := this
        exact ⟨vs, by rw [(ρ.ren_same n m h1).ov]; exact k1, k2⟩
  · intro q r t u b h1 h2 h3 h4
    rcases hget q t h1 with ⟨rfl, rfl⟩ | ⟨k1, k2, k3⟩
    · rcases hget r u h2 with ⟨rfl, rfl⟩ | ⟨l1, l2, l3⟩
      · rfl
      · rw [hb] at h3; rw [slotBlk_ren_ne _ _ _ l1] at h4
        exact absurd (h.disj n r _ _ b hn l3 h3 h4).symm l2
    · rw [slotBlk_ren_ne _ _ _ k1] at h3
      rcases hget r u h2 with ⟨rfl, rfl⟩ | ⟨l1, l2, l3⟩
      · rw [hb] at h4
        exact absurd (h.disj n q _ _ b hn k3 h4 h3).symm k2
      · rw [slotBlk_ren_ne _ _ _ l1] at h4
        exact h.disj q r t u b k3 l3 h3 h4
  · intro q t b h1 h2
    rcases hget q t h1 with ⟨rfl, rfl⟩ | ⟨k1, k2, k3⟩
    · rw [hb] at h2; exact h.sep n _ b hn h2
    · rw [slotBlk_ren_ne _ _ _ k1] at h2; exact h.sep q t b k3 h2
  · intro q t b h1 h2
    rcases hget q t h1 with ⟨rfl, rfl⟩ | ⟨k1, k2, k3⟩
    · rw [hb] at h2; exact h.home n _ b hn h2
    · rw [slotBlk_ren_ne _ _ _ k1] at h2; exact h.home q t b k3 h2
theorem Ok.ren {Γ : Ctx} {st : AState} {ρ : Rho} {a : Act} {w : World} (h : Ok Γ st ρ a w) {n m : Name} (hne : m ≠ n) {e es : Nat} {xs : List (List PV)} (hn : sget st.s n = some (.own e es xs)) (hf : st.free m) :
    Ok Γ (st.app ⟨[], [(m, some (.own e es xs)), (n, none)]⟩) (ρ.ren n m) a w :=
  ⟨h.defers, h.size, fun t => ARel.keep (ρ := ρ) (ρ' := ρ.ren n m) (Keep.refl _ _) _ _ (fun x hx => ρ.ren_same n m (fun e => by
    subst e; have := hf.1 t; simp only [AState.app, List.nil_append] at hx; rw [this] at hx; cases hx)) (h.tmps t), h.sok.ren hne hn hf.2⟩

end Go.Eng
