import Derived.Laws.AppendOwn
import Derived.Laws.MakeOwn
import Derived.Laws.Rows
import Derived.Below
import Derived.Tactics
import Derived.Orders
set_option autoImplicit false
set_option linter.unusedVariables false
set_option linter.unusedSimpArgs false
namespace Go.Eng
open Go Go.RowKit

/-! ## Pure values -/
/-- One cell's content as a value: a scalar, or a slice with its elements, each a list of cells. -/
inductive PV where
  | v (x : Value)
  | sl (es : Nat) (xs : List (List PV))

inductive Name where
  | loc (d : Nat)
  | ext (i : Nat)
  deriving DecidableEq

/-- What a temporary, or a cell of a variable, holds. -/
inductive AV where
  | pv (p : PV)
  | agg (cs : List PV)
  | tup (l : List AV)
  | own (n : Name)
  | tight (es : Nat) (xs : List (List PV))
  | ptr (n : Name) (off : Nat)
  | eptr (n : Name) (es i j : Nat)
  | rptr (cs : List PV)
  | fn (f : FuncId) (first captured : List AV)
  | dead

inductive Slot where
  | box (T : TypeId) (cells : List AV)
  | own (e : TypeId) (es : Nat) (xs : List (List PV))

abbrev SMap := List (Name × Option Slot)

structure AState where
  n : Nat
  t : List (Nat × AV)
  s : SMap

def tget : List (Nat × AV) → Nat → AV
  | [], _ => .dead
  | (k, v) :: r, n => if n = k then v else tget r n
def sget : SMap → Name → Option Slot
  | [], _ => none
  | (k, v) :: r, n => if n = k then v else sget r n

/-! ## Relations -/
mutual
def PRel (F : Nat → Prop) (w : World) : PV → Value → Prop
  | .v x, v => v = x ∧ x.oneCell' = true
  | .sl es xs, v => ∃ a cap vs, v = .slice a xs.length cap ∧ xs.length ≤ cap ∧ cap ≤ maxLen ∧ PElems F w es xs vs ∧
      (vs = [] ∨ ∃ ad, a = some ad ∧ F ad.block ∧ ∀ j u, vs[j]? = some u → w.cell? (ad.add j) = some u)
def PElems (F : Nat → Prop) (w : World) (es : Nat) : List (List PV) → List Value → Prop
  | [], vs => vs = []
  | x :: xs, vs => ∃ v1 v2, vs = v1 ++ v2 ∧ v1.length = es ∧ PVs F w x v1 ∧ PElems F w es xs v2
def PVs (F : Nat → Prop) (w : World) : List PV → List Value → Prop
  | [], vs => vs = []
  | p :: ps, vs => ∃ v vs', vs = v :: vs' ∧ PRel F w p v ∧ PVs F w ps vs'
end

structure Rho where
  blk : Name → Nat
  ov : Name → Value
  F : Nat → Prop

mutual
def ARel (ρ : Rho) (w : World) : AV → Value → Prop
  | .pv p, v => PRel ρ.F w p v
  | .agg cs, v => ∃ a, v = .agg a ∧ PVs ρ.F w cs a.toList
  | .tup l, v => ∃ a, v = .tuple a ∧ ARels ρ w l a.toList
  | .own n, v => v = ρ.ov n
  | .tight es xs, v => ∃ a vs, v = .slice a xs.length xs.length ∧ xs.length ≤ maxLen ∧ PElems ρ.F w es xs vs ∧
      (vs = [] ∨ ∃ ad, a = some ad ∧ ρ.F ad.block ∧ ∀ j u, vs[j]? = some u → w.cell? (ad.add j) = some u)
  | .ptr n off, v => v = .pointer (some ⟨ρ.blk n, off, none⟩)
  | .eptr n es i j, v => ∃ b, (ρ.ov n).ownBlock = some b ∧ v = .pointer (some ⟨b, i * es + j, none⟩)
  | .rptr cs, v => ∃ ad vs, v = .pointer (some ad) ∧ PVs ρ.F w cs vs ∧ (vs = [] ∨ ρ.F ad.block) ∧ ∀ j u, vs[j]? = some u → w.cell? (ad.add j) = some u
  | .fn f fi ca, v => ∃ a b, v = .func (.func f) a b ∧ ARels ρ w fi a.toList ∧ ARels ρ w ca b.toList
  | .dead, _ => True
def ARels (ρ : Rho) (w : World) : List AV → List Value → Prop
  | [], vs => vs = []
  | p :: ps, vs => ∃ v vs', vs = v :: vs' ∧ ARel ρ w p v ∧ ARels ρ w ps vs'
end

/-- The block that a slice value may write to: none, if it holds no cell. -/
def ownBlk : Value → Option Nat
  | .slice (some a) _ cap => if cap = 0 then none else some a.block
  | _ => none
def OwnV (w : World) (e : TypeId) (es : Nat) (v : Value) (n : Nat) (vs : List Value) : Prop :=
  w.ownsRow 0 e es v n vs ∨ (n = 0 ∧ vs = [] ∧ ∃ a, v = .slice a 0 0)
def slotBlk (ρ : Rho) (n : Name) : Slot → Option Nat
  | .box _ _ => some (ρ.blk n)
  | .own _ _ _ => ownBlk (ρ.ov n)
theorem ownBlk_some {v : Value} {b : Nat} (h : ownBlk v = some b) : v.ownBlock = some b := by
  unfold ownBlk at h
  split at h
  · split at h
    · cases h
    · exact h
  · cases h
theorem OwnV.lt {w : World} {e : TypeId} {es n : Nat} {v : Value} {vs : List Value} (h : OwnV w e es v n vs) {b : Nat} (hb : ownBlk v = some b) : b < w.heap.size := by
  rcases h with h | ⟨_, _, a, rfl⟩
  · exact (h.lt b (ownBlk_some hb)).2
  · cases a <;> simp [ownBlk] at hb
theorem OwnV.keepB {w w' : World} {e : TypeId} {es n : Nat} {v : Value} {vs : List Value} (h : OwnV w e es v n vs) (hk : ∀ b, ownBlk v = some b → w'.heap[b]? = w.heap[b]?) : OwnV w' e es v n vs := by
  rcases h with h | ⟨h1, h2, a, rfl⟩
  · rcases h with ⟨h1, h2⟩
    rcases h2 with h2 | ⟨g, cap, cur, rfl, h3, h4, h5, h6, h7, h8⟩
    · exact .inl ⟨h1, .inl h2⟩
    · by_cases hc : cap = 0
      · subst hc
        have hn : n = 0 := by omega
        subst hn
        refine .inr ⟨rfl, ?_, _, rfl⟩
        simpa using h8.symm
      · refine .inl ⟨h1, .inr ⟨g, cap, cur, rfl, h3, ?_, h5, h6, h7, h8⟩⟩
        rw [hk g (by simp [ownBlk, hc])]
        exact h4
  · exact .inr ⟨h1, h2, a, rfl⟩
theorem OwnV.kept {w w' : World} {e : TypeId} {es n : Nat} {v : Value} {vs : List Value} {row : Option Nat} (h : OwnV w e es v n vs) (hg : w.grownBy w' row) (hne : ∀ b, ownBlk v = some b → some b ≠ row) : OwnV w' e es v n vs := by
  rcases h with h | ⟨h1, h2, a, rfl⟩
  · rcases h with ⟨h1, h2⟩
    rcases h2 with h2 | ⟨g, cap, cur, rfl, h3, h4, h5, h6, h7, h8⟩
    · exact .inl ⟨h1, .inl h2⟩
    · by_cases hc : cap = 0
      · subst hc
        have hn : n = 0 := by omega
        subst hn
        refine .inr ⟨rfl, ?_, _, rfl⟩
        simpa using h8.symm
      · refine .inl ⟨h1, .inr ⟨g, cap, cur, rfl, h3, ?_, h5, h6, h7, h8⟩⟩
        rw [hg.block g (Array.getElem?_eq_some_iff.1 h4).1 (hne g (by simp [ownBlk, hc]))]
        exact h4
  · exact .inr ⟨h1, h2, a, rfl⟩

def SlotOK (ρ : Rho) (w : World) (n : Name) : Slot → Prop
  | .box T cells => ∃ cs, w.heap[ρ.blk n]? = some (.cells cs T (0, 0)) ∧ ARels ρ w cells cs.toList ∧ ∀ u ∈ cs.toList, u.oneCell' = true
  | .own e es xs => ∃ vs, OwnV w e es (ρ.ov n) xs.length vs ∧ PElems ρ.F w es xs vs

structure Ctx where
  w0 : World
  F0 : Nat → Prop
  X0 : Nat → Prop
  B0 : Nat → Nat

structure SOk (Γ : Ctx) (S : SMap) (ρ : Rho) (w : World) : Prop where
  slots : ∀ n s, sget S n = some s → SlotOK ρ w n s
  disj : ∀ n m s s' b, sget S n = some s → sget S m = some s' → slotBlk ρ n s = some b → slotBlk ρ m s' = some b → n = m
  sep : ∀ n s b, sget S n = some s → slotBlk ρ n s = some b → ¬ρ.F b
  flt : ∀ b, ρ.F b → b < w.heap.size
  os : w.os = Γ.w0.os
  tape : w.tape = Γ.w0.tape
  output : w.output = Γ.w0.output
  size : Γ.w0.heap.size ≤ w.heap.size
  below : ∀ b, b < Γ.w0.heap.size → ¬Γ.X0 b → w.heap[b]? = Γ.w0.heap[b]?
  fmono : ∀ b, Γ.F0 b → ρ.F b
  fnew : ∀ b, ρ.F b → Γ.F0 b ∨ Γ.X0 b ∨ Γ.w0.heap.size ≤ b
  home : ∀ n s b, sget S n = some s → slotBlk ρ n s = some b → Γ.X0 b ∨ Γ.w0.heap.size ≤ b
  xblk : ∀ i, ρ.blk (.ext i) = Γ.B0 i

structure Ok (Γ : Ctx) (st : AState) (ρ : Rho) (a : Act) (w : World) : Prop where
  defers : a.defers = []
  size : a.tmps.size = st.n
  tmps : ∀ t, ARel ρ w (tget st.t t) (a.tmps.getD t undef)
  sok : SOk Γ st.s ρ w

/-! ## Lists of related values -/
theorem PVs_iff {F : Nat → Prop} {w : World} : ∀ (ps : List PV) (vs : List Value), PVs F w ps vs ↔ ps.length = vs.length ∧ ∀ (j : Nat) p v, ps[j]? = some p → vs[j]? = some v → PRel F w p v
  | [], vs => by
    simp only [PVs]
    constructor
    · rintro rfl; simp
    · rintro ⟨h, _⟩; exact List.eq_nil_of_length_eq_zero (by simpa using h.symm)
  | p :: ps, vs => by
    simp only [PVs]
    constructor
    · rintro ⟨v, vs', rfl, h, hs⟩
      obtain ⟨hl, hj⟩ := (PVs_iff ps vs').1 hs
      refine ⟨by simp [hl], fun j q u hq hu => ?_⟩
      cases j with
      | zero => simp at hq hu; subst hq; subst hu; exact h
      | succ j => simp at hq hu; exact hj j q u hq hu
    · rintro ⟨hl, hj⟩
      cases vs with
      | nil => simp at hl
      | cons v vs' =>
        refine ⟨v, vs', rfl, hj 0 p v (by simp) (by simp), (PVs_iff ps vs').2 ⟨by simpa using hl, fun j q u hq hu => hj (j + 1) q u (by simpa using hq) (by simpa using hu)⟩⟩
theorem ARels_iff {ρ : Rho} {w : World} : ∀ (ps : List AV) (vs : List Value), ARels ρ w ps vs ↔ ps.length = vs.length ∧ ∀ (j : Nat) p v, ps[j]? = some p → vs[j]? = some v → ARel ρ w p v
  | [], vs => by
    simp only [ARels]
    constructor
    · rintro rfl; simp
    · rintro ⟨h, _⟩; exact List.eq_nil_of_length_eq_zero (by simpa using h.symm)
  | p :: ps, vs => by
    simp only [ARels]
    constructor
    · rintro ⟨v, vs', rfl, h, hs⟩
      obtain ⟨hl, hj⟩ := (ARels_iff ps vs').1 hs
      refine ⟨by simp [hl], fun j q u hq hu => ?_⟩
      cases j with
      | zero => simp at hq hu; subst hq; subst hu; exact h
      | succ j => simp at hq hu; exact hj j q u hq hu
    · rintro ⟨hl, hj⟩
      cases vs with
      | nil => simp at hl
      | cons v vs' =>
        refine ⟨v, vs', rfl, hj 0 p v (by simp) (by simp), (ARels_iff ps vs').2 ⟨by simpa using hl, fun j q u hq hu => hj (j + 1) q u (by simpa using hq) (by simpa using hu)⟩⟩

theorem PVs.length {F : Nat → Prop} {w : World} {ps : List PV} {vs : List Value} (h : PVs F w ps vs) : vs.length = ps.length := ((PVs_iff _ _).1 h).1.symm
theorem ARels.length {ρ : Rho} {w : World} {ps : List AV} {vs : List Value} (h : ARels ρ w ps vs) : vs.length = ps.length := ((ARels_iff _ _).1 h).1.symm

theorem PVs.append {F : Nat → Prop} {w : World} : ∀ {ps qs : List PV} {vs us : List Value}, PVs F w ps vs → PVs F w qs us → PVs F w (ps ++ qs) (vs ++ us)
  | [], _, _, _, h, k => by simp only [PVs] at h; subst h; simpa using k
  | p :: ps, _, _, _, h, k => by
    obtain ⟨v, vs', rfl, h1, h2⟩ := h
    exact ⟨v, vs' ++ _, rfl, h1, PVs.append h2 k⟩
theorem PVs.take {F : Nat → Prop} {w : World} {ps : List PV} {vs : List Value} (h : PVs F w ps vs) (n : Nat) : PVs F w (ps.take n) (vs.take n) := by
  rw [PVs_iff] at h ⊢
  refine ⟨by simp [h.1], fun j p v hp hv => ?_⟩
  rw [List.getElem?_take] at hp hv
  split at hp
  · rename_i hj; rw [if_pos hj] at hv; exact h.2 j p v hp hv
  · cases hp
theorem PVs.drop {F : Nat → Prop} {w : World} {ps : List PV} {vs : List Value} (h : PVs F w ps vs) (n : Nat) : PVs F w (ps.drop n) (vs.drop n) := by
  rw [PVs_iff] at h ⊢
  refine ⟨by simp [h.1], fun j p v hp hv => ?_⟩
  rw [List.getElem?_drop] at hp hv
  exact h.2 _ p v hp hv
theorem PVs.get {F : Nat → Prop} {w : World} {ps : List PV} {vs : List Value} (h : PVs F w ps vs) {j : Nat} {p : PV} (hp : ps[j]? = some p) : ∃ v, vs[j]? = some v ∧ PRel F w p v := by
  obtain ⟨hl, hj⟩ := (PVs_iff _ _).1 h
  have hlt : j < ps.length := (List.getElem?_eq_some_iff.1 hp).1
  exact ⟨vs[j]'(by omega), List.getElem?_eq_getElem (by omega), hj j p _ hp (List.getElem?_eq_getElem (by omega))⟩
theorem ARels.get {ρ : Rho} {w : World} {ps : List AV} {vs : List Value} (h : ARels ρ w ps vs) {j : Nat} {p : AV} (hp : ps[j]? = some p) : ∃ v, vs[j]? = some v ∧ ARel ρ w p v := by
  obtain ⟨hl, hj⟩ := (ARels_iff _ _).1 h
  have hlt : j < ps.length := (List.getElem?_eq_some_iff.1 hp).1
  exact ⟨vs[j]'(by omega), List.getElem?_eq_getElem (by omega), hj j p _ hp (List.getElem?_eq_getElem (by omega))⟩
theorem ARels.append {ρ : Rho} {w : World} : ∀ {ps qs : List AV} {vs us : List Value}, ARels ρ w ps vs → ARels ρ w qs us → ARels ρ w (ps ++ qs) (vs ++ us)
  | [], _, _, _, h, k => by simp only [ARels] at h; subst h; simpa using k
  | p :: ps, _, _, _, h, k => by
    obtain ⟨v, vs', rfl, h1, h2⟩ := h
    exact ⟨v, vs' ++ _, rfl, h1, ARels.append h2 k⟩
theorem ARels.take {ρ : Rho} {w : World} {ps : List AV} {vs : List Value} (h : ARels ρ w ps vs) (n : Nat) : ARels ρ w (ps.take n) (vs.take n) := by
  rw [ARels_iff] at h ⊢
  refine ⟨by simp [h.1], fun j p v hp hv => ?_⟩
  rw [List.getElem?_take] at hp hv
  split at hp
  · rename_i hj; rw [if_pos hj] at hv; exact h.2 j p v hp hv
  · cases hp
theorem ARels.drop {ρ : Rho} {w : World} {ps : List AV} {vs : List Value} (h : ARels ρ w ps vs) (n : Nat) : ARels ρ w (ps.drop n) (vs.drop n) := by
  rw [ARels_iff] at h ⊢
  refine ⟨by simp [h.1], fun j p v hp hv => ?_⟩
  rw [List.getElem?_drop] at hp hv
  exact h.2 _ p v hp hv

theorem PElems.length {F : Nat → Prop} {w : World} {es : Nat} : ∀ {xs : List (List PV)} {vs : List Value}, PElems F w es xs vs → vs.length = xs.length * es
  | [], vs, h => by simp only [PElems] at h; simp [h]
  | x :: xs, vs, h => by
    obtain ⟨v1, v2, rfl, h1, _, h3⟩ := h
    have := PElems.length h3
    simp only [List.length_append, List.length_cons, this, h1, Nat.succ_mul]; omega
theorem PElems.append {F : Nat → Prop} {w : World} {es : Nat} : ∀ {xs ys : List (List PV)} {vs us : List Value}, PElems F w es xs vs → PElems F w es ys us → PElems F w es (xs ++ ys) (vs ++ us)
  | [], _, _, _, h, k => by simp only [PElems] at h; subst h; simpa using k
  | x :: xs, _, _, _, h, k => by
    obtain ⟨v1, v2, rfl, h1, h2, h3⟩ := h
    exact ⟨v1, v2 ++ _, by simp, h1, h2, PElems.append h3 k⟩
theorem PElems.split {F : Nat → Prop} {w : World} {es : Nat} : ∀ {xs : List (List PV)} {vs : List Value} (n : Nat), PElems F w es xs vs → PElems F w es (xs.take n) (vs.take (n * es)) ∧ PElems F w es (xs.drop n) (vs.drop (n * es))
  | xs, vs, 0, h => by simpa [PElems] using h
  | [], vs, n + 1, h => by simp only [PElems] at h; subst h; simp [PElems]
  | x :: xs, vs, n + 1, h => by
    obtain ⟨v1, v2, rfl, h1, h2, h3⟩ := h
    obtain ⟨h4, h5⟩ := PElems.split n h3
    have e : (n + 1) * es = v1.length + n * es := by rw [Nat.succ_mul, h1]; omega
    refine ⟨⟨v1, v2.take (n * es), ?_, h1, h2, h4⟩, ?_⟩
    · rw [e, List.take_length_add_append]
    · rw [e, List.drop_length_add_append]; exact h5
theorem PElems.get {F : Nat → Prop} {w : World} {es : Nat} {xs : List (List PV)} {vs : List Value} (h : PElems F w es xs vs) {i : Nat} {x : List PV} (hx : xs[i]? = some x) :
    x.length = es ∧ PVs F w x ((vs.drop (i * es)).take es) := by
  obtain ⟨_, h2⟩ := h.split i
  have e : xs.drop i = x :: xs.drop (i + 1) := by
    have hlt := (List.getElem?_eq_some_iff.1 hx).1
    rw [List.drop_eq_getElem_cons hlt]; congr 1
    exact (List.getElem?_eq_some_iff.1 hx).2
  rw [e] at h2
  obtain ⟨v1, v2, h3, h4, h5, _⟩ := h2
  have : (v1 ++ v2).take es = v1 := by rw [← h4]; exact List.take_left
  rw [h3, this]
  exact ⟨by rw [← h5.length, h4], h5⟩
theorem PElems.one {F : Nat → Prop} {w : World} {es : Nat} {x : List PV} {vs : List Value} (h : PVs F w x vs) (hl : x.length = es) : PElems F w es [x] vs :=
  ⟨vs, [], by simp, by rw [h.length, hl], h, rfl⟩
theorem PElems.set {F : Nat → Prop} {w : World} {es : Nat} {xs : List (List PV)} {vs us : List Value} (h : PElems F w es xs vs) {i : Nat} {x : List PV} (hi : i < xs.length) (hx : PVs F w x us) (hl : x.length = es) :
    PElems F w es (xs.set i x) (vs.take (i * es) ++ us ++ vs.drop ((i + 1) * es)) := by
  obtain ⟨h1, _⟩ := h.split i
  obtain ⟨_, h3⟩ := h.split (i + 1)
  rw [List.set_eq_take_append_cons_drop, if_pos hi]
  have := (h1.append (PElems.one hx hl)).append h3
  simpa using this

/-! ## What is kept when the world turns -/
structure Keep (F : Nat → Prop) (w : World) (F' : Nat → Prop) (w' : World) : Prop where
  mono : ∀ b, F b → F' b
  heap : ∀ b, F b → w'.heap[b]? = w.heap[b]?

theorem Keep.refl (F : Nat → Prop) (w : World) : Keep F w F w := ⟨fun _ h => h, fun _ _ => rfl⟩
theorem Keep.cell {F F' : Nat → Prop} {w w' : World} (k : Keep F w F' w') {a : Addr} {n : Nat} {u : Value} (hF : F a.block) (h : w.cell? (a.add n) = some u) : w'.cell? (a.add n) = some u := by
  have hb : (a.add n).block = a.block := by unfold Addr.add; split <;> rfl
  rw [World.cell?_of_block (w := w) (by rw [hb]; exact k.heap _ hF)]; exact h

mutual
theorem PRel.keep {F F' : Nat → Prop} {w w' : World} (k : Keep F w F' w') : ∀ (p : PV) (v : Value), PRel F w p v → PRel F' w' p v
  | .v x, v, h => by simpa only [PRel] using h
  | .sl es xs, v, h => by
    obtain ⟨a, cap, vs, h1, h2, h3, h4, h5⟩ := h
    refine ⟨a, cap, vs, h1, h2, h3, PElems.keep k xs vs h4, ?_⟩
    rcases h5 with h5 | ⟨ad, rfl, hF, hc⟩
    · exact .inl h5
    · exact .inr ⟨ad, rfl, k.mono _ hF, fun j u hu => k.cell hF (hc j u hu)⟩
theorem PElems.keep {F F' : Nat → Prop} {w w' : World} (k : Keep F w F' w') {es : Nat} : ∀ (xs : List (List PV)) (vs : List Value), PElems F w es xs vs → PElems F' w' es xs vs
  | [], vs, h => by simpa only [PElems] using h
  | x :: xs, vs, h => by
    obtain ⟨v1, v2, h1, h2, h3, h4⟩ := h
    exact ⟨v1, v2, h1, h2, PVs.keep k x v1 h3, PElems.keep k xs v2 h4⟩
theorem PVs.keep {F F' : Nat → Prop} {w w' : World} (k : Keep F w F' w') : ∀ (ps : List PV) (vs : List Value), PVs F w ps vs → PVs F' w' ps vs
  | [], vs, h => by simpa only [PVs] using h
  | p :: ps, vs, h => by
    obtain ⟨v, vs', h1, h2, h3⟩ := h
    exact ⟨v, vs', h1, PRel.keep k p v h2, PVs.keep k ps vs' h3⟩
end


mutual
def AV.has (n : Name) : AV → Bool
  | .own m => decide (m = n)
  | .ptr m _ => decide (m = n)
  | .eptr m _ _ _ => decide (m = n)
  | .tup l => AV.hasL n l
  | .fn _ a b => AV.hasL n a || AV.hasL n b
  | _ => false
def AV.hasL (n : Name) : List AV → Bool
  | [] => false
  | a :: l => AV.has n a || AV.hasL n l
end

structure Same (ρ ρ' : Rho) (n : Name) : Prop where
  blk : ρ'.blk n = ρ.blk n
  ov : ρ'.ov n = ρ.ov n

mutual
theorem ARel.keep {ρ ρ' : Rho} {w w' : World} (k : Keep ρ.F w ρ'.F w') : ∀ (p : AV) (v : Value), (∀ n, p.has n = true → Same ρ ρ' n) → ARel ρ w p v → ARel ρ' w' p v
  | .pv p, v, _, h => PRel.keep k p v h
  | .agg cs, v, _, h => by
    obtain ⟨a, h1, h2⟩ := h
    exact ⟨a, h1, PVs.keep k _ _ h2⟩
  | .tup l, v, hn, h => by
    obtain ⟨a, h1, h2⟩ := h
    exact ⟨a, h1, ARels.keep k l _ (fun n hh => hn n (by simpa [AV.has] using hh)) h2⟩
  | .own m, v, hn, h => by
    have hs := (hn m (by simp [AV.has])).ov
    simp only [ARel] at h ⊢
    rw [hs]; exact h
  | .tight es xs, v, _, h => by
    obtain ⟨a, vs, h1, h2, h3, h4⟩ := h
    refine ⟨a, vs, h1, h2, PElems.keep k _ _ h3, ?_⟩
    rcases h4 with h4 | ⟨ad, rfl, hF, hc⟩
    · exact .inl h4
    · exact .inr ⟨ad, rfl, k.mono _ hF, fun j u hu => k.cell hF (hc j u hu)⟩
  | .ptr m off, v, hn, h => by
    have hs := (hn m (by simp [AV.has])).blk
    simp only [ARel] at h ⊢
    rw [hs]; exact h
  | .eptr m es i j, v, hn, h => by
    have hs := (hn m (by simp [AV.has])).ov
    simp only [ARel] at h ⊢
    rw [hs]; exact h
  | .rptr cs, v, _, h => by
    obtain ⟨ad, vs, h1, h2, h3, h4⟩ := h
    rcases h3 with rfl | hF
    · exact ⟨ad, [], h1, PVs.keep k _ _ h2, .inl rfl, by simp⟩
    · exact ⟨ad, vs, h1, PVs.keep k _ _ h2, .inr (k.mono _ hF), fun j u hu => k.cell hF (h4 j u hu)⟩
  | .fn f a b, v, hn, h => by
    obtain ⟨x, y, h1, h2, h3⟩ := h
    exact ⟨x, y, h1, ARels.keep k a _ (fun n hh => hn n (by simp [AV.has, hh])) h2, ARels.keep k b _ (fun n hh => hn n (by simp [AV.has, hh])) h3⟩
  | .dead, v, _, h => trivial
theorem ARels.keep {ρ ρ' : Rho} {w w' : World} (k : Keep ρ.F w ρ'.F w') : ∀ (ps : List AV) (vs : List Value), (∀ n, AV.hasL n ps = true → Same ρ ρ' n) → ARels ρ w ps vs → ARels ρ' w' ps vs
  | [], vs, _, h => by simpa only [ARels] using h
  | p :: ps, vs, hn, h => by
    obtain ⟨v, vs', h1, h2, h3⟩ := h
    exact ⟨v, vs', h1, ARel.keep k p v (fun n hh => hn n (by simp [AV.hasL, hh])) h2, ARels.keep k ps vs' (fun n hh => hn n (by simp [AV.hasL, hh])) h3⟩
end
/-- Names' meaning as it was: everything is kept. -/
theorem ARel.keep' {ρ ρ' : Rho} {w w' : World} (k : Keep ρ.F w ρ'.F w') (hb : ρ'.blk = ρ.blk) (ho : ρ'.ov = ρ.ov) {p : AV} {v : Value} (h : ARel ρ w p v) : ARel ρ' w' p v :=
  ARel.keep k p v (fun n _ => ⟨by rw [hb], by rw [ho]⟩) h
theorem ARels.keep' {ρ ρ' : Rho} {w w' : World} (k : Keep ρ.F w ρ'.F w') (hb : ρ'.blk = ρ.blk) (ho : ρ'.ov = ρ.ov) {p : List AV} {v : List Value} (h : ARels ρ w p v) : ARels ρ' w' p v :=
  ARels.keep k p v (fun n _ => ⟨by rw [hb], by rw [ho]⟩) h

end Go.Eng
