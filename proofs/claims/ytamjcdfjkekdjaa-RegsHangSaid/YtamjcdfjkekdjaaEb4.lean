import Derived.Test.YtamjcdfjkekdjaaEb3
set_option autoImplicit false
set_option linter.unusedVariables false
set_option linter.unusedSimpArgs false
namespace Go.Eng
open Go Go.RowKit
variable {P : Program}

/-! ## Ghost steps -/
/-- An own slice's value, read as any slice is. -/
theorem own_pv {ρ : Rho} {w : World} {n : Name} {e es : Nat} {xs : List (List PV)} (h : SlotOK ρ w n (.own e es xs)) {F : Nat → Prop} (hF : ∀ b, ρ.F b → F b) (hn : ∀ b, ownBlk (ρ.ov n) = some b → F b) : PRel F w (.sl es xs) (ρ.ov n) := by
  obtain ⟨a, cap, h1, h2, h3⟩ := own_shape h
  by_cases h0 : 0 < xs.length
  · obtain ⟨g, cap', cur, vs, k1, k2, k3, k4, k5, k6, k7⟩ := own_form h h0
    refine ⟨some ⟨g, 0, none⟩, cap', vs, k1, k3, k4, PElems.keep ⟨hF, fun _ _ => rfl⟩ _ _ k7, .inr ⟨_, rfl, hn g (by rw [k1]; simp [ownBlk]; omega), fun j u hu => ?_⟩⟩
    rw [Addr.add_lit, cell_of_row w _ _ cur _ _ k2, ← Array.getElem?_toList]
    rw [← k6, List.getElem?_take] at hu
    split at hu
    · simpa using hu
    · cases hu
  · have hx : xs = [] := List.eq_nil_of_length_eq_zero (by omega)
    subst hx
    exact ⟨a, cap, [], h1, h2, h3, rfl, .inl rfl⟩

def AV.frz (n : Name) (es : Nat) (xs : List (List PV)) (a : AV) : AV :=
  match a with
  | .own m => if m = n then .pv (.sl es xs) else .own m
  | a => if a.has n = true then .dead else a
def Slot.map (f : AV → AV) : Slot → Slot
  | .box T cells => .box T (cells.map f)
  | .own e es xs => .own e es xs
def tmap (f : AV → AV) : List (Nat × AV) → List (Nat × AV)
  | [] => []
  | (k, v) :: r => (k, f v) :: tmap f r
def smap (f : AV → AV) : SMap → SMap
  | [] => []
  | (k, v) :: r => (k, v.map (Slot.map f)) :: smap f r
theorem tget_tmap {f : AV → AV} (hf : f .dead = .dead) : ∀ (l : List (Nat × AV)) (t : Nat), tget (tmap f l) t = f (tget l t)
  | [], t => hf.symm
  | (k, v) :: r, t => by
    simp only [tmap, tget]; split
    · rfl
    · exact tget_tmap hf r t
theorem sget_smap {f : AV → AV} : ∀ (l : SMap) (m : Name), sget (smap f l) m = (sget l m).map (Slot.map f)
  | [], m => rfl
  | (k, v) :: r, m => by
    simp only [smap, sget]; split
    · rfl
    · exact sget_smap r m
theorem ARels.map {ρ ρ' : Rho} {w w' : World} {f : AV → AV} (h : ∀ a v, ARel ρ w a v → ARel ρ' w' (f a) v) : ∀ {l : List AV} {vs : List Value}, ARels ρ w l vs → ARels ρ' w' (l.map f) vs
  | [], vs, h => by simpa only [ARels, List.map_nil] using h
  | a :: l, vs, k => by
    obtain ⟨v, vs', h1, h2, h3⟩ := k
    exact ⟨v, vs', h1, h a v h2, ARels.map h h3⟩

/-- Everything is read by other roles; one slot is gone. -/
theorem Ok.turn {Γ : Ctx} {st : AState} {ρ ρ' : Rho} {a : Act} {w : World} (h : Ok Γ st ρ a w) (n : Name) {f : AV → AV} (hf : f .dead = .dead) (hb : ρ'.blk = ρ.blk) (ho : ρ'.ov = ρ.ov) {s : Slot} {b0 : Option Nat} (hn : sget st.s n = some s) (hs : slotBlk ρ n s = b0)
    (hF : ∀ b, ρ'.F b ↔ ρ.F b ∨ b0 = some b) (hrel : ∀ x v, ARel ρ w x v → ARel ρ' w (f x) v) : Ok Γ ⟨st.n, tmap f st.t, (n, none) :: smap f st.s⟩ ρ' a w := by
  have k : Keep ρ.F w ρ'.F w := ⟨fun b hb => (hF b).2 (.inl hb), fun _ _ => rfl⟩
  have hget : ∀ m t, sget ((n, none) :: smap f st.s) m = some t → m ≠ n ∧ ∃ t0, sget st.s m = some t0 ∧ t = Slot.map f t0 := by
    intro m t hm
    simp only [sget] at hm
    split at hm
    · cases hm
    · rename_i hne
      rw [sget_smap] at hm
      cases hq : sget st.s m with
      | none => rw [hq] at hm; cases hm
      | some t0 => rw [hq] at hm; simp at hm; exact ⟨hne, t0, rfl, hm.symm⟩
  have hblk : ∀ m t, slotBlk ρ' m (Slot.map f t) = slotBlk ρ m t := by
    intro m t
    cases t <;> simp [slotBlk, Slot.map, hb, ho]
  have hlt : ∀ b, b0 = some b → b < w.heap.size := by
    intro b hb
    rw [← hs] at hb
    have := h.sok.slots n s hn
    cases s with
    | box T cells => obtain ⟨cs, h1, _⟩ := this; simp [slotBlk] at hb; subst hb; exact (Array.getElem?_eq_some_iff.1 h1).1
    | own e es xs => obtain ⟨vs, h1, _⟩ := this; exact h1.lt hb
  refine ⟨h.defers, h.size, fun t => by rw [tget_tmap hf]; exact hrel _ _ (h.tmps t), { h.sok with slots := ?_, disj := ?_, sep := ?_, flt := ?_, fmono := ?_, fnew := ?_, home := ?_, xblk := fun i => by rw [hb]; exact h.sok.xblk i }⟩
  · intro m t hm
    obtain ⟨hne, t0, h1, rfl⟩ := hget m t hm
    have := h.sok.slots m t0 h1
    cases t0 with
    | box T cells =>
      obtain ⟨cs, k1, k2, k3⟩ := this
      exact ⟨cs, by rw [hb]; exact k1, k2.map hrel, k3⟩
    | own e es xs =>
      obtain ⟨vs, k1, k2⟩ := this
      exact ⟨vs, by rw [ho]; exact k1, PElems.keep k _ _ k2⟩
  · intro m m' t t' b h1 h2 h3 h4
    obtain ⟨_, t0, k1, rfl⟩ := hget m t h1
    obtain ⟨_, t1, l1, rfl⟩ := hget m' t' h2
    rw [hblk] at h3 h4
    exact h.sok.disj m m' _ _ b k1 l1 h3 h4
  · intro m t b h1 h2 h3
    obtain ⟨hne, t0, k1, rfl⟩ := hget m t h1
    rw [hblk] at h2
    rcases (hF b).1 h3 with h4 | h4
    · exact h.sok.sep m t0 b k1 h2 h4
    · exact hne (h.sok.disj m n t0 s b k1 hn h2 (by rw [hs, h4]))
  · intro b hb'
    rcases (hF b).1 hb' with h4 | h4
    · exact h.sok.flt b h4
    · exact hlt b h4
  · intro b hb'; exact (hF b).2 (.inl (h.sok.fmono b hb'))
  · intro b hb'
    rcases (hF b).1 hb' with h4 | h4
    · exact h.sok.fnew b h4
    · exact .inr (h.sok.home n s b hn (by rw [hs, h4]))
  · intro m t b h1 h2
    obtain ⟨_, t0, k1, rfl⟩ := hget m t h1
    rw [hblk] at h2
    exact h.sok.home m t0 b k1 h2

theorem Ok.mapf {Γ : Ctx} {st : AState} {ρ : Rho} {a : Act} {w : World} (h : Ok Γ st ρ a w) {f : AV → AV} (hf : f .dead = .dead) (hrel : ∀ x v, ARel ρ w x v → ARel ρ w (f x) v) : Ok Γ ⟨st.n, tmap f st.t, smap f st.s⟩ ρ a w := by
  have hget : ∀ m t, sget (smap f st.s) m = some t → ∃ t0, sget st.s m = some t0 ∧ t = Slot.map f t0 := by
    intro m t hm
    rw [sget_smap] at hm
    cases hq : sget st.s m with
    | none => rw [hq] at hm; cases hm
    | some t0 => rw [hq] at hm; simp at hm; exact ⟨t0, rfl, hm.symm⟩
  have hblk : ∀ m t, slotBlk ρ m (Slot.map f t) = slotBlk ρ m t := by intro m t; cases t <;> rfl
  refine ⟨h.defers, h.size, fun t => by rw [tget_tmap hf]; exact hrel _ _ (h.tmps t), { h.sok with slots := ?_, disj := ?_, sep := ?_, home := ?_ }⟩
  · intro m t hm
    obtain ⟨t0, h1, rfl⟩ := hget m t hm
    have := h.sok.slots m t0 h1
    cases t0 with
    | box T cells => obtain ⟨cs, k1, k2, k3⟩ := this; exact ⟨cs, k1, k2.map hrel, k3⟩
    | own e es xs => exact this
  · intro m m' t t' b h1 h2 h3 h4
    obtain ⟨t0, k1, rfl⟩ := hget m t h1
    obtain ⟨t1, l1, rfl⟩ := hget m' t' h2
    rw [hblk] at h3 h4
    exact h.sok.disj m m' _ _ b k1 l1 h3 h4
  · intro m t b h1 h2
    obtain ⟨t0, k1, rfl⟩ := hget m t h1
    rw [hblk] at h2
    exact h.sok.sep m t0 b k1 h2
  · intro m t b h1 h2
    obtain ⟨t0, k1, rfl⟩ := hget m t h1
    rw [hblk] at h2
    exact h.sok.home m t0 b k1 h2

def AState.freeze (st : AState) (n : Name) : AState :=
  match sget st.s n with
  | some (.own _ es xs) => ⟨st.n, tmap (AV.frz n es xs) st.t, (n, none) :: smap (AV.frz n es xs) st.s⟩
  | _ => st
theorem Sub.freeze (st : AState) (n : Name) : Sub st (st.freeze n) := by
  intro Γ ρ a w hok
  unfold AState.freeze
  split
  · rename_i e es xs hn
    refine ⟨⟨ρ.blk, ρ.ov, fun b => ρ.F b ∨ ownBlk (ρ.ov n) = some b⟩, hok.turn n (by simp [AV.frz, AV.has]) rfl rfl hn rfl (fun b => Iff.rfl) fun x v hx => ?_⟩
    have k : Keep ρ.F w (fun b => ρ.F b ∨ ownBlk (ρ.ov n) = some b) w := ⟨fun b hb => .inl hb, fun _ _ => rfl⟩
    have hgen : ∀ x : AV, ARel ρ w x v → ARel ⟨ρ.blk, ρ.ov, fun b => ρ.F b ∨ ownBlk (ρ.ov n) = some b⟩ w (if x.has n = true then .dead else x) v := by
      intro x hx
      split
      · trivial
      · exact ARel.keep' (ρ := ρ) (ρ' := ⟨ρ.blk, ρ.ov, _⟩) k rfl rfl hx
    cases x with
    | own m =>
      simp only [AV.frz]
      split
      · rename_i hm
        subst hm
        have hv : v = ρ.ov m := hx
        rw [hv]
        exact own_pv (hok.sok.slots m _ hn) (fun b hb => .inl hb) (fun b hb => .inr hb)
      · exact hx
    | _ => exact hgen _ hx
  · exact ⟨ρ, hok⟩

def AV.frzB (n : Name) (ps : List PV) (a : AV) : AV :=
  match a with
  | .ptr m off => if m = n then .rptr (ps.drop off) else .ptr m off
  | a => if a.has n = true then .dead else a
def AState.freezeB (st : AState) (n : Name) : AState :=
  match sget st.s n with
  | some (.box _ cells) => match allPV cells with
    | some ps => ⟨st.n, tmap (AV.frzB n ps) st.t, (n, none) :: smap (AV.frzB n ps) st.s⟩
    | none => st
  | _ => st
theorem Sub.freezeB (st : AState) (n : Name) : Sub st (st.freezeB n) := by
  intro Γ ρ a w hok
  unfold AState.freezeB
  split
  rotate_left
  · exact ⟨ρ, hok⟩
  rename_i T cells hn
  split
  rotate_left
  · exact ⟨ρ, hok⟩
  rename_i ps hps
  obtain ⟨cs, h1, h2, h3⟩ := hok.sok.slots n _ hn
  refine ⟨⟨ρ.blk, ρ.ov, fun b => ρ.F b ∨ some (ρ.blk n) = some b⟩, hok.turn n (by simp [AV.frzB, AV.has]) rfl rfl hn rfl (fun b => Iff.rfl) fun x v hx => ?_⟩
  have k : Keep ρ.F w (fun b => ρ.F b ∨ some (ρ.blk n) = some b) w := ⟨fun b hb => .inl hb, fun _ _ => rfl⟩
  have hgen : ∀ x : AV, ARel ρ w x v → ARel ⟨ρ.blk, ρ.ov, fun b => ρ.F b ∨ some (ρ.blk n) = some b⟩ w (if x.has n = true then .dead else x) v := by
    intro x hx
    split
    · trivial
    · exact ARel.keep' (ρ := ρ) (ρ' := ⟨ρ.blk, ρ.ov, _⟩) k rfl rfl hx
  cases x with
  | ptr m off =>
    simp only [AV.frzB]
    split
    · rename_i hm
      subst hm
      have hv : v = .pointer (some ⟨ρ.blk m, off, none⟩) := hx
      have hrel := allPV_rel hps h2
      refine ⟨⟨ρ.blk m, off, none⟩, cs.toList.drop off, hv, (PVs.keep k _ _ hrel).drop off, .inr (.inr rfl), fun j u hu => ?_⟩
      rw [Addr.add_lit, cell_of_row w _ _ cs _ _ h1, ← Array.getElem?_toList]
      rwa [List.getElem?_drop] at hu
    · exact hx
  | _ => exact hgen _ hx

/-- A slice called otherwise, wherever it is held. -/
def AV.renN (n m : Name) (a : AV) : AV :=
  match a with
  | .own q => if q = n then .own m else .own q
  | a => a
def AState.ren (st : AState) (n m : Name) : AState :=
  match sget st.s n with
  | some (.own e es xs) => if m = n then st else ⟨st.n, tmap (AV.renN n m) (st.kill m).t, (m, some (.own e es xs)) :: (n, none) :: smap (AV.renN n m) (st.kill m).s⟩
  | _ => st
theorem Sub.ren (st : AState) (n m : Name) : Sub st (st.ren n m) := by
  intro Γ ρ a w hok
  unfold AState.ren
  split
  rotate_left
  · exact ⟨ρ, hok⟩
  rename_i e es xs hn
  split
  · exact ⟨ρ, hok⟩
  rename_i hne
  have hok1 := hok.kill m
  have hn1 : sget (st.kill m).s n = some (.own e es xs) := by simp only [AState.kill, sget_kill, hn]; rfl
  have hok2 := hok1.ren hne hn1 (st.kill_free m)
  refine ⟨ρ.ren n m, hok2.mapf (f := AV.renN n m) rfl fun x v h => ?_⟩
  cases x with
  | own q =>
    simp only [AV.renN]
    split
    · rename_i hq
      subst hq
      have h' : v = (ρ.ren q m).ov q := h
      show v = (ρ.ren q m).ov m
      rw [h']; simp [Rho.ren]
    · exact h
  | _ => exact h

/-- A nil slice in a temporary is called an own one that is empty. -/
def isNilV : AV → Bool
  | .pv (.v (.slice none 0 0)) => true
  | _ => false
theorem isNilV_rel {ρ : Rho} {w : World} {a : AV} {v : Value} (h : isNilV a = true) (k : ARel ρ w a v) : v = .slice none 0 0 := by
  unfold isNilV at h
  split at h
  · exact pv_inv k
  · cases h
def AState.ownNil (st : AState) (t : Nat) (n : Name) (e : TypeId) (es : Nat) : AState :=
  if isNilV (tget st.t t) = true then (st.kill n).app ⟨[(t, .own n)], [(n, some (.own e es []))]⟩ else st
theorem ownNil_ok {Γ : Ctx} {st : AState} {ρ : Rho} {a : Act} {w : World} (h : Ok Γ st ρ a w) (n : Name) (e : TypeId) (es : Nat) : Ok Γ ((st.kill n).app ⟨[], [(n, some (.own e es []))]⟩) (ρ.slice n (.slice none 0 0)) a w :=
  (h.kill n).slot n (some (.own e es [])) rfl (fun _ => rfl) (fun m hm => Rho.slice_same _ _ _ hm) (.inr (st.kill_free n)) none ⟨rfl, rfl, rfl, Nat.le_refl _, fun _ _ _ => rfl⟩ (by simp)
    (fun s hs => by cases hs; exact ⟨[], .inl ⟨by simp, .inl ⟨by simp [Rho.slice], rfl⟩⟩, rfl⟩)
    (fun s b hs hb => by cases hs; simp [slotBlk, Rho.slice, ownBlk] at hb)
theorem Sub.ownNil (st : AState) (t : Nat) (n : Name) (e : TypeId) (es : Nat) : Sub st (st.ownNil t n e es) := by
  intro Γ ρ a w hok
  unfold AState.ownNil
  split
  rotate_left
  · exact ⟨ρ, hok⟩
  rename_i hnil
  have h1 := ownNil_ok hok n e es
  refine ⟨_, h1.defers, h1.size, fun q => ?_, h1.sok⟩
  simp only [AState.app, List.cons_append, List.nil_append, tget]
  split
  · rename_i hq
    subst hq
    show a.tmps.getD q undef = _
    rw [isNilV_rel hnil (hok.tmps q)]
    simp [Rho.slice]
  · exact h1.tmps q
/-- The same, of a cell of a variable. -/
def AState.ownNilC (st : AState) (q : Name) (off : Nat) (n : Name) (e : TypeId) (es : Nat) : AState :=
  match sget (st.kill n).s q with
  | some (.box T cells) => match cells[off]? with
    | some c => if isNilV c = true ∧ q ≠ n then (st.kill n).app ⟨[], [(q, some (.box T (cells.set off (.own n)))), (n, some (.own e es []))]⟩ else st
    | none => st
  | _ => st
theorem ARels.set {ρ : Rho} {w : World} {ps : List AV} {vs : List Value} (h : ARels ρ w ps vs) {i : Nat} {p : AV} (hp : ∀ v, vs[i]? = some v → ARel ρ w p v) : ARels ρ w (ps.set i p) vs := by
  rw [ARels_iff] at h ⊢
  refine ⟨by simp [h.1], fun j q v hq hv => ?_⟩
  rw [List.getElem?_set] at hq
  split at hq
  · rename_i hij; subst hij
    split at hq
    · cases hq; exact hp v hv
    · cases hq
  · exact h.2 j q v hq hv
theorem Sub.ownNilC (st : AState) (q : Name) (off : Nat) (n : Name) (e : TypeId) (es : Nat) : Sub st (st.ownNilC q off n e es) := by
  intro Γ ρ a w hok
  unfold AState.ownNilC
  split
  rotate_left
  · exact ⟨ρ, hok⟩
  rename_i T cells hq
  split
  rotate_left
  · exact ⟨ρ, hok⟩
  rename_i c hc
  split
  rotate_left
  · exact ⟨ρ, hok⟩
  rename_i hcn
  obtain ⟨hnil, hne⟩ := hcn
  have h1 := ownNil_ok hok n e es
  refine ⟨ρ.slice n (.slice none 0 0), h1.defers, h1.size, h1.tmps, ?_⟩
  have hsl := h1.sok.slots q (.box T cells) (by simp only [AState.app, List.cons_append, List.nil_append, sget]; rw [if_neg hne]; exact hq)
  obtain ⟨cs, k1, k2, k3⟩ := hsl
  have hcs : SlotOK (ρ.slice n (.slice none 0 0)) w q (.box T (cells.set off (.own n))) := ⟨cs, k1, k2.set fun v hv => by
    obtain ⟨v', h4, h5⟩ := k2.get hc
    rw [hv] at h4; cases h4
    show v = _
    rw [isNilV_rel hnil h5]; simp [Rho.slice], k3⟩
  have hq1 : sget ((st.kill n).app ⟨[], [(n, some (.own e es []))]⟩).s q = some (.box T cells) := by simp only [AState.app, List.cons_append, List.nil_append, sget]; rw [if_neg hne]; exact hq
  have h2 := h1.sok.slot (ρ' := ρ.slice n (.slice none 0 0)) (w' := w) q (some (.box T (cells.set off (.own n)))) rfl (fun _ => rfl) (fun _ _ => ⟨rfl, rfl⟩) (.inl ⟨rfl, rfl⟩) (some ((ρ.slice n (.slice none 0 0)).blk q)) ⟨rfl, rfl, rfl, Nat.le_refl _, fun _ _ _ => rfl⟩
    (fun b hb => by cases hb; exact ⟨_, hq1, rfl⟩) (fun s hs => by cases hs; exact hcs) (fun s b hs hb => by cases hs; exact .inr hb)
  exact h2

end Go.Eng
