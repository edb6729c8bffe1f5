import Derived.Lib.ItoaNum
import Derived.Laws.AppendOwn
import Derived.Laws.MakeOwn
import Derived.Laws.Rows
import Derived.Below
import Derived.Tactics
import Derived.Orders
set_option autoImplicit false
namespace Go.Eng
open Go
/-- What the tables among the package-level variables hold: internal/strconv.uint64pow10 is the first one. -/
def tabB : Nat → Option (Array Value) := fun b => if b = 0 then some ((Lib.pow10Tab.map fun z => Value.int .u64 z).toArray) else none
structure TrkOn where
  on : Prop
/-- Is it told how often the tape was asked? -/
abbrev Trk := Inhabited TrkOn
def Trk.on [Trk] : Prop := (default : TrkOn).on
end Go.Eng
set_option autoImplicit false
set_option linter.unusedVariables false
set_option linter.unusedSimpArgs false
namespace Go.Eng
open Go Go.RowKit

/-! ## Pure values -/
/-- One cell's content as a value: a scalar, or a slice with its elements, each a list of cells. -/
inductive PV where
  | v (x : Value)
  | sl (es : Nat) (xs : List (List PV))

inductive Name where
  | loc (d : Nat)
  | ext (i : Nat)
  deriving DecidableEq

/-- What a temporary, or a cell of a variable, holds. -/
inductive AV where
  | pv (p : PV)
  | agg (cs : List PV)
  | aggA (l : List AV)
  | tup (l : List AV)
  | own (n : Name)
  | tight (es : Nat) (xs : List (List PV))
  | ptr (n : Name) (off : Nat)
  | eptr (n : Name) (es i j : Nat)
  | rptr (cs : List PV)
  | fn (f : FuncId) (first captured : List AV)
  | dead

inductive Slot where
  | box (T : TypeId) (cells : List AV)
  | own (e : TypeId) (es : Nat) (xs : List (List PV))

abbrev SMap := List (Name × Option Slot)

structure AState where
  n : Nat
  t : List (Nat × AV)
  s : SMap

def tget : List (Nat × AV) → Nat → AV
  | [], _ => .dead
  | (k, v) :: r, n => if n = k then v else tget r n
def sget : SMap → Name → Option Slot
  | [], _ => none
  | (k, v) :: r, n => if n = k then v else sget r n

/-! ## Relations -/
mutual
def PRel (F : Nat → Prop) (w : World) : PV → Value → Prop
  | .v x, v => v = x ∧ x.oneCell' = true
  | .sl es xs, v => ∃ a cap vs, v = .slice a xs.length cap ∧ xs.length ≤ cap ∧ cap ≤ maxLen ∧ PElems F w es xs vs ∧
      (vs = [] ∨ ∃ ad, a = some ad ∧ F ad.block ∧ ∀ j u, vs[j]? = some u → w.cell? (ad.add j) = some u)
def PElems (F : Nat → Prop) (w : World) (es : Nat) : List (List PV) → List Value → Prop
  | [], vs => vs = []
  | x :: xs, vs => ∃ v1 v2, vs = v1 ++ v2 ∧ v1.length = es ∧ PVs F w x v1 ∧ PElems F w es xs v2
def PVs (F : Nat → Prop) (w : World) : List PV → List Value → Prop
  | [], vs => vs = []
  | p :: ps, vs => ∃ v vs', vs = v :: vs' ∧ PRel F w p v ∧ PVs F w ps vs'
end

structure Rho where
  blk : Name → Nat
  ov : Name → Value
  F : Nat → Prop

mutual
def ARel (ρ : Rho) (w : World) : AV → Value → Prop
  | .pv p, v => PRel ρ.F w p v
  | .agg cs, v => ∃ a, v = .agg a ∧ PVs ρ.F w cs a.toList
  | .aggA l, v => ∃ a, v = .agg a ∧ ARels ρ w l a.toList ∧ ∀ u ∈ a.toList, u.oneCell' = true
  | .tup l, v => ∃ a, v = .tuple a ∧ ARels ρ w l a.toList
  | .own n, v => v = ρ.ov n
  | .tight es xs, v => ∃ a vs, v = .slice a xs.length xs.length ∧ xs.length ≤ maxLen ∧ PElems ρ.F w es xs vs ∧
      (vs = [] ∨ ∃ ad, a = some ad ∧ ρ.F ad.block ∧ ∀ j u, vs[j]? = some u → w.cell? (ad.add j) = some u)
  | .ptr n off, v => v = .pointer (some ⟨ρ.blk n, off, none⟩)
  | .eptr n es i j, v => ∃ b, (ρ.ov n).ownBlock = some b ∧ v = .pointer (some ⟨b, i * es + j, none⟩)
  | .rptr cs, v => ∃ ad vs, v = .pointer (some ad) ∧ PVs ρ.F w cs vs ∧ (vs = [] ∨ ρ.F ad.block) ∧ ∀ j u, vs[j]? = some u → w.cell? (ad.add j) = some u
  | .fn f fi ca, v => ∃ a b, v = .func (.func f) a b ∧ ARels ρ w fi a.toList ∧ ARels ρ w ca b.toList
  | .dead, _ => True
def ARels (ρ : Rho) (w : World) : List AV → List Value → Prop
  | [], vs => vs = []
  | p :: ps, vs => ∃ v vs', vs = v :: vs' ∧ ARel ρ w p v ∧ ARels ρ w ps vs'
end

/-- The block that a slice value may write to: none, if it holds no cell. -/
def ownBlk : Value → Option Nat
  | .slice (some a) _ cap => if cap = 0 then none else some a.block
  | _ => none
def OwnV (w : World) (e : TypeId) (es : Nat) (v : Value) (n : Nat) (vs : List Value) : Prop :=
  w.ownsRow 0 e es v n vs ∨ (n = 0 ∧ vs = [] ∧ ∃ a, v = .slice a 0 0)
def slotBlk (ρ : Rho) (n : Name) : Slot → Option Nat
  | .box _ _ => some (ρ.blk n)
  | .own _ _ _ => ownBlk (ρ.ov n)
theorem ownBlk_some {v : Value} {b : Nat} (h : ownBlk v = some b) : v.ownBlock = some b := by
  unfold ownBlk at h
  split at h
  · split at h
    · cases h
    · exact h
  · cases h
theorem OwnV.lt {w : World} {e : TypeId} {es n : Nat} {v : Value} {vs : List Value} (h : OwnV w e es v n vs) {b : Nat} (hb : ownBlk v = some b) : b < w.heap.size := by
  rcases h with h | ⟨_, _, a, rfl⟩
  · exact (h.lt b (ownBlk_some hb)).2
  · cases a <;> simp [ownBlk] at hb
theorem OwnV.keepB {w w' : World} {e : TypeId} {es n : Nat} {v : Value} {vs : List Value} (h : OwnV w e es v n vs) (hk : ∀ b, ownBlk v = some b → w'.heap[b]? = w.heap[b]?) : OwnV w' e es v n vs := by
  rcases h with h | ⟨h1, h2, a, rfl⟩
  · rcases h with ⟨h1, h2⟩
    rcases h2 with h2 | ⟨g, cap, cur, rfl, h3, h4, h5, h6, h7, h8⟩
    · exact .inl ⟨h1, .inl h2⟩
    · by_cases hc : cap = 0
      · subst hc
        have hn : n = 0 := by omega
        subst hn
        refine .inr ⟨rfl, ?_, _, rfl⟩
        simpa using h8.symm
      · refine .inl ⟨h1, .inr ⟨g, cap, cur, rfl, h3, ?_, h5, h6, h7, h8⟩⟩
        rw [hk g (by simp [ownBlk, hc])]
        exact h4
  · exact .inr ⟨h1, h2, a, rfl⟩
theorem OwnV.kept {w w' : World} {e : TypeId} {es n : Nat} {v : Value} {vs : List Value} {row : Option Nat} (h : OwnV w e es v n vs) (hg : w.grownBy w' row) (hne : ∀ b, ownBlk v = some b → some b ≠ row) : OwnV w' e es v n vs := by
  rcases h with h | ⟨h1, h2, a, rfl⟩
  · rcases h with ⟨h1, h2⟩
    rcases h2 with h2 | ⟨g, cap, cur, rfl, h3, h4, h5, h6, h7, h8⟩
    · exact .inl ⟨h1, .inl h2⟩
    · by_cases hc : cap = 0
      · subst hc
        have hn : n = 0 := by omega
        subst hn
        refine .inr ⟨rfl, ?_, _, rfl⟩
        simpa using h8.symm
      · refine .inl ⟨h1, .inr ⟨g, cap, cur, rfl, h3, ?_, h5, h6, h7, h8⟩⟩
        rw [hg.block g (Array.getElem?_eq_some_iff.1 h4).1 (hne g (by simp [ownBlk, hc]))]
        exact h4
  · exact .inr ⟨h1, h2, a, rfl⟩

def SlotOK (ρ : Rho) (w : World) (n : Name) : Slot → Prop
  | .box T cells => ∃ cs, w.heap[ρ.blk n]? = some (.cells cs T (0, 0)) ∧ ARels ρ w cells cs.toList ∧ ∀ u ∈ cs.toList, u.oneCell' = true
  | .own e es xs => ∃ vs, OwnV w e es (ρ.ov n) xs.length vs ∧ PElems ρ.F w es xs vs

structure Ctx where
  w0 : World
  F0 : Nat → Prop
  X0 : Nat → Prop
  B0 : Nat → Nat

/-- The tables among the package-level variables are read, and never turn. -/
def GlobOK (F : Nat → Prop) (w : World) : Prop := ∀ b cs, tabB b = some cs → F b ∧ ∃ ty fr, w.heap[b]? = some (.cells cs ty fr)
structure SOk [Trk] (Γ : Ctx) (S : SMap) (ρ : Rho) (w : World) : Prop where
  slots : ∀ n s, sget S n = some s → SlotOK ρ w n s
  disj : ∀ n m s s' b, sget S n = some s → sget S m = some s' → slotBlk ρ n s = some b → slotBlk ρ m s' = some b → n = m
  sep : ∀ n s b, sget S n = some s → slotBlk ρ n s = some b → ¬ρ.F b
  flt : ∀ b, ρ.F b → b < w.heap.size
  os : w.os = Γ.w0.os
  tape : w.tape = Γ.w0.tape
  output : w.output = Γ.w0.output
  size : Γ.w0.heap.size ≤ w.heap.size
  below : ∀ b, b < Γ.w0.heap.size → ¬Γ.X0 b → w.heap[b]? = Γ.w0.heap[b]?
  fmono : ∀ b, Γ.F0 b → ρ.F b
  fnew : ∀ b, ρ.F b → Γ.F0 b ∨ Γ.X0 b ∨ Γ.w0.heap.size ≤ b
  home : ∀ n s b, sget S n = some s → slotBlk ρ n s = some b → Γ.X0 b ∨ Γ.w0.heap.size ≤ b
  xblk : ∀ i, ρ.blk (.ext i) = Γ.B0 i
  glob : GlobOK ρ.F w
  drawn : Trk.on → Γ.w0.drawn ≤ w.drawn

structure Ok [Trk] (Γ : Ctx) (st : AState) (ρ : Rho) (a : Act) (w : World) : Prop where
  defers : a.defers = []
  size : a.tmps.size = st.n
  tmps : ∀ t, ARel ρ w (tget st.t t) (a.tmps.getD t undef)
  sok : SOk Γ st.s ρ w

/-! ## Lists of related values -/
theorem PVs_iff [Trk] {F : Nat → Prop} {w : World} : ∀ (ps : List PV) (vs : List Value), PVs F w ps vs ↔ ps.length = vs.length ∧ ∀ (j : Nat) p v, ps[j]? = some p → vs[j]? = some v → PRel F w p v
  | [], vs => by
    simp only [PVs]
    constructor
    · rintro rfl; simp
    · rintro ⟨h, _⟩; exact List.eq_nil_of_length_eq_zero (by simpa using h.symm)
  | p :: ps, vs => by
    simp only [PVs]
    constructor
    · rintro ⟨v, vs', rfl, h, hs⟩
      obtain ⟨hl, hj⟩ := (PVs_iff ps vs').1 hs
      refine ⟨by simp [hl], fun j q u hq hu => ?_⟩
      cases j with
      | zero => simp at hq hu; subst hq; subst hu; exact h
      | succ j => simp at hq hu; exact hj j q u hq hu
    · rintro ⟨hl, hj⟩
      cases vs with
      | nil => simp at hl
      | cons v vs' =>
        refine ⟨v, vs', rfl, hj 0 p v (by simp) (by simp), (PVs_iff ps vs').2 ⟨by simpa using hl, fun j q u hq hu => hj (j + 1) q u (by simpa using hq) (by simpa using hu)⟩⟩
theorem ARels_iff [Trk] {ρ : Rho} {w : World} : ∀ (ps : List AV) (vs : List Value), ARels ρ w ps vs ↔ ps.length = vs.length ∧ ∀ (j : Nat) p v, ps[j]? = some p → vs[j]? = some v → ARel ρ w p v
  | [], vs => by
    simp only [ARels]
    constructor
    · rintro rfl; simp
    · rintro ⟨h, _⟩; exact List.eq_nil_of_length_eq_zero (by simpa using h.symm)
  | p :: ps, vs => by
    simp only [ARels]
    constructor
    · rintro ⟨v, vs', rfl, h, hs⟩
      obtain ⟨hl, hj⟩ := (ARels_iff ps vs').1 hs
      refine ⟨by simp [hl], fun j q u hq hu => ?_⟩
      cases j with
      | zero => simp at hq hu; subst hq; subst hu; exact h
      | succ j => simp at hq hu; exact hj j q u hq hu
    · rintro ⟨hl, hj⟩
      cases vs with
      | nil => simp at hl
      | cons v vs' =>
        refine ⟨v, vs', rfl, hj 0 p v (by simp) (by simp), (ARels_iff ps vs').2 ⟨by simpa using hl, fun j q u hq hu => hj (j + 1) q u (by simpa using hq) (by simpa using hu)⟩⟩

theorem PVs.length [Trk] {F : Nat → Prop} {w : World} {ps : List PV} {vs : List Value} (h : PVs F w ps vs) : vs.length = ps.length := ((PVs_iff _ _).1 h).1.symm
theorem ARels.length [Trk] {ρ : Rho} {w : World} {ps : List AV} {vs : List Value} (h : ARels ρ w ps vs) : vs.length = ps.length := ((ARels_iff _ _).1 h).1.symm

theorem PVs.append [Trk] {F : Nat → Prop} {w : World} : ∀ {ps qs : List PV} {vs us : List Value}, PVs F w ps vs → PVs F w qs us → PVs F w (ps ++ qs) (vs ++ us)
  | [], _, _, _, h, k => by simp only [PVs] at h; subst h; simpa using k
  | p :: ps, _, _, _, h, k => by
    obtain ⟨v, vs', rfl, h1, h2⟩ := h
    exact ⟨v, vs' ++ _, rfl, h1, PVs.append h2 k⟩
theorem PVs.take [Trk] {F : Nat → Prop} {w : World} {ps : List PV} {vs : List Value} (h : PVs F w ps vs) (n : Nat) : PVs F w (ps.take n) (vs.take n) := by
  rw [PVs_iff] at h ⊢
  refine ⟨by simp [h.1], fun j p v hp hv => ?_⟩
  rw [List.getElem?_take] at hp hv
  split at hp
  · rename_i hj; rw [if_pos hj] at hv; exact h.2 j p v hp hv
  · cases hp
theorem PVs.drop [Trk] {F : Nat → Prop} {w : World} {ps : List PV} {vs : List Value} (h : PVs F w ps vs) (n : Nat) : PVs F w (ps.drop n) (vs.drop n) := by
  rw [PVs_iff] at h ⊢
  refine ⟨by simp [h.1], fun j p v hp hv => ?_⟩
  rw [List.getElem?_drop] at hp hv
  exact h.2 _ p v hp hv
theorem PVs.get [Trk] {F : Nat → Prop} {w : World} {ps : List PV} {vs : List Value} (h : PVs F w ps vs) {j : Nat} {p : PV} (hp : ps[j]? = some p) : ∃ v, vs[j]? = some v ∧ PRel F w p v := by
  obtain ⟨hl, hj⟩ := (PVs_iff _ _).1 h
  have hlt : j < ps.length := (List.getElem?_eq_some_iff.1 hp).1
  exact ⟨vs[j]'(by omega), List.getElem?_eq_getElem (by omega), hj j p _ hp (List.getElem?_eq_getElem (by omega))⟩
theorem ARels.get [Trk] {ρ : Rho} {w : World} {ps : List AV} {vs : List Value} (h : ARels ρ w ps vs) {j : Nat} {p : AV} (hp : ps[j]? = some p) : ∃ v, vs[j]? = some v ∧ ARel ρ w p v := by
  obtain ⟨hl, hj⟩ := (ARels_iff _ _).1 h
  have hlt : j < ps.length := (List.getElem?_eq_some_iff.1 hp).1
  exact ⟨vs[j]'(by omega), List.getElem?_eq_getElem (by omega), hj j p _ hp (List.getElem?_eq_getElem (by omega))⟩
theorem ARels.append [Trk] {ρ : Rho} {w : World} : ∀ {ps qs : List AV} {vs us : List Value}, ARels ρ w ps vs → ARels ρ w qs us → ARels ρ w (ps ++ qs) (vs ++ us)
  | [], _, _, _, h, k => by simp only [ARels] at h; subst h; simpa using k
  | p :: ps, _, _, _, h, k => by
    obtain ⟨v, vs', rfl, h1, h2⟩ := h
    exact ⟨v, vs' ++ _, rfl, h1, ARels.append h2 k⟩
theorem ARels.take [Trk] {ρ : Rho} {w : World} {ps : List AV} {vs : List Value} (h : ARels ρ w ps vs) (n : Nat) : ARels ρ w (ps.take n) (vs.take n) := by
  rw [ARels_iff] at h ⊢
  refine ⟨by simp [h.1], fun j p v hp hv => ?_⟩
  rw [List.getElem?_take] at hp hv
  split at hp
  · rename_i hj; rw [if_pos hj] at hv; exact h.2 j p v hp hv
  · cases hp
theorem ARels.drop [Trk] {ρ : Rho} {w : World} {ps : List AV} {vs : List Value} (h : ARels ρ w ps vs) (n : Nat) : ARels ρ w (ps.drop n) (vs.drop n) := by
  rw [ARels_iff] at h ⊢
  refine ⟨by simp [h.1], fun j p v hp hv => ?_⟩
  rw [List.getElem?_drop] at hp hv
  exact h.2 _ p v hp hv

theorem PElems.length [Trk] {F : Nat → Prop} {w : World} {es : Nat} : ∀ {xs : List (List PV)} {vs : List Value}, PElems F w es xs vs → vs.length = xs.length * es
  | [], vs, h => by simp only [PElems] at h; simp [h]
  | x :: xs, vs, h => by
    obtain ⟨v1, v2, rfl, h1, _, h3⟩ := h
    have := PElems.length h3
    simp only [List.length_append, List.length_cons, this, h1, Nat.succ_mul]; omega
theorem PElems.append [Trk] {F : Nat → Prop} {w : World} {es : Nat} : ∀ {xs ys : List (List PV)} {vs us : List Value}, PElems F w es xs vs → PElems F w es ys us → PElems F w es (xs ++ ys) (vs ++ us)
  | [], _, _, _, h, k => by simp only [PElems] at h; subst h; simpa using k
  | x :: xs, _, _, _, h, k => by
    obtain ⟨v1, v2, rfl, h1, h2, h3⟩ := h
    exact ⟨v1, v2 ++ _, by simp, h1, h2, PElems.append h3 k⟩
theorem PElems.split [Trk] {F : Nat → Prop} {w : World} {es : Nat} : ∀ {xs : List (List PV)} {vs : List Value} (n : Nat), PElems F w es xs vs → PElems F w es (xs.take n) (vs.take (n * es)) ∧ PElems F w es (xs.drop n) (vs.drop (n * es))
  | xs, vs, 0, h => by simpa [PElems] using h
  | [], vs, n + 1, h => by simp only [PElems] at h; subst h; simp [PElems]
  | x :: xs, vs, n + 1, h => by
    obtain ⟨v1, v2, rfl, h1, h2, h3⟩ := h
    obtain ⟨h4, h5⟩ := PElems.split n h3
    have e : (n + 1) * es = v1.length + n * es := by rw [Nat.succ_mul, h1]; omega
    refine ⟨⟨v1, v2.take (n * es), ?_, h1, h2, h4⟩, ?_⟩
    · rw [e, List.take_length_add_append]
    · rw [e, List.drop_length_add_append]; exact h5
theorem PElems.get [Trk] {F : Nat → Prop} {w : World} {es : Nat} {xs : List (List PV)} {vs : List Value} (h : PElems F w es xs vs) {i : Nat} {x : List PV} (hx : xs[i]? = some x) :
    x.length = es ∧ PVs F w x ((vs.drop (i * es)).take es) := by
  obtain ⟨_, h2⟩ := h.split i
  have e : xs.drop i = x :: xs.drop (i + 1) := by
    have hlt := (List.getElem?_eq_some_iff.1 hx).1
    rw [List.drop_eq_getElem_cons hlt]; congr 1
    exact (List.getElem?_eq_some_iff.1 hx).2
  rw [e] at h2
  obtain ⟨v1, v2, h3, h4, h5, _⟩ := h2
  have : (v1 ++ v2).take es = v1 := by rw [← h4]; exact List.take_left
  rw [h3, this]
  exact ⟨by rw [← h5.length, h4], h5⟩
theorem PElems.one [Trk] {F : Nat → Prop} {w : World} {es : Nat} {x : List PV} {vs : List Value} (h : PVs F w x vs) (hl : x.length = es) : PElems F w es [x] vs :=
  ⟨vs, [], by simp, by rw [h.length, hl], h, rfl⟩
theorem PElems.set [Trk] {F : Nat → Prop} {w : World} {es : Nat} {xs : List (List PV)} {vs us : List Value} (h : PElems F w es xs vs) {i : Nat} {x : List PV} (hi : i < xs.length) (hx : PVs F w x us) (hl : x.length = es) :
    PElems F w es (xs.set i x) (vs.take (i * es) ++ us ++ vs.drop ((i + 1) * es)) := by
  obtain ⟨h1, _⟩ := h.split i
  obtain ⟨_, h3⟩ := h.split (i + 1)
  rw [List.set_eq_take_append_cons_drop, if_pos hi]
  have := (h1.append (PElems.one hx hl)).append h3
  simpa using this

/-! ## What is kept when the world turns -/
structure Keep (F : Nat → Prop) (w : World) (F' : Nat → Prop) (w' : World) : Prop where
  mono : ∀ b, F b → F' b
  heap : ∀ b, F b → w'.heap[b]? = w.heap[b]?

theorem Keep.refl [Trk] (F : Nat → Prop) (w : World) : Keep F w F w := ⟨fun _ h => h, fun _ _ => rfl⟩
theorem Keep.cell [Trk] {F F' : Nat → Prop} {w w' : World} (k : Keep F w F' w') {a : Addr} {n : Nat} {u : Value} (hF : F a.block) (h : w.cell? (a.add n) = some u) : w'.cell? (a.add n) = some u := by
  have hb : (a.add n).block = a.block := by unfold Addr.add; split <;> rfl
  rw [World.cell?_of_block (w := w) (by rw [hb]; exact k.heap _ hF)]; exact h

theorem GlobOK.keep [Trk] {F F' : Nat → Prop} {w w' : World} (k : Keep F w F' w') (h : GlobOK F w) : GlobOK F' w' := fun b cs ht => by
  obtain ⟨h1, h2⟩ := h b cs ht
  exact ⟨k.mono _ h1, by rw [k.heap _ h1]; exact h2⟩
mutual
theorem PRel.keep [Trk] {F F' : Nat → Prop} {w w' : World} (k : Keep F w F' w') : ∀ (p : PV) (v : Value), PRel F w p v → PRel F' w' p v
  | .v x, v, h => by simpa only [PRel] using h
  | .sl es xs, v, h => by
    obtain ⟨a, cap, vs, h1, h2, h3, h4, h5⟩ := h
    refine ⟨a, cap, vs, h1, h2, h3, PElems.keep k xs vs h4, ?_⟩
    rcases h5 with h5 | ⟨ad, rfl, hF, hc⟩
    · exact .inl h5
    · exact .inr ⟨ad, rfl, k.mono _ hF, fun j u hu => k.cell hF (hc j u hu)⟩
theorem PElems.keep [Trk] {F F' : Nat → Prop} {w w' : World} (k : Keep F w F' w') {es : Nat} : ∀ (xs : List (List PV)) (vs : List Value), PElems F w es xs vs → PElems F' w' es xs vs
  | [], vs, h => by simpa only [PElems] using h
  | x :: xs, vs, h => by
    obtain ⟨v1, v2, h1, h2, h3, h4⟩ := h
    exact ⟨v1, v2, h1, h2, PVs.keep k x v1 h3, PElems.keep k xs v2 h4⟩
theorem PVs.keep [Trk] {F F' : Nat → Prop} {w w' : World} (k : Keep F w F' w') : ∀ (ps : List PV) (vs : List Value), PVs F w ps vs → PVs F' w' ps vs
  | [], vs, h => by simpa only [PVs] using h
  | p :: ps, vs, h => by
    obtain ⟨v, vs', h1, h2, h3⟩ := h
    exact ⟨v, vs', h1, PRel.keep k p v h2, PVs.keep k ps vs' h3⟩
end


mutual
def AV.has (n : Name) : AV → Bool
  | .own m => decide (m = n)
  | .ptr m _ => decide (m = n)
  | .eptr m _ _ _ => decide (m = n)
  | .aggA l => AV.hasL n l
  | .tup l => AV.hasL n l
  | .fn _ a b => AV.hasL n a || AV.hasL n b
  | _ => false
def AV.hasL (n : Name) : List AV → Bool
  | [] => false
  | a :: l => AV.has n a || AV.hasL n l
end

structure Same (ρ ρ' : Rho) (n : Name) : Prop where
  blk : ρ'.blk n = ρ.blk n
  ov : ρ'.ov n = ρ.ov n

mutual
theorem ARel.keep [Trk] {ρ ρ' : Rho} {w w' : World} (k : Keep ρ.F w ρ'.F w') : ∀ (p : AV) (v : Value), (∀ n, p.has n = true → Same ρ ρ' n) → ARel ρ w p v → ARel ρ' w' p v
  | .pv p, v, _, h => PRel.keep k p v h
  | .agg cs, v, _, h => by
    obtain ⟨a, h1, h2⟩ := h
    exact ⟨a, h1, PVs.keep k _ _ h2⟩
  | .aggA l, v, hn, h => by
    obtain ⟨a, h1, h2, h3⟩ := h
    exact ⟨a, h1, ARels.keep k l _ (fun n hh => hn n (by simpa [AV.has] using hh)) h2, h3⟩
  | .tup l, v, hn, h => by
    obtain ⟨a, h1, h2⟩ := h
    exact ⟨a, h1, ARels.keep k l _ (fun n hh => hn n (by simpa [AV.has] using hh)) h2⟩
  | .own m, v, hn, h => by
    have hs := (hn m (by simp [AV.has])).ov
    simp only [ARel] at h ⊢
    rw [hs]; exact h
  | .tight es xs, v, _, h => by
    obtain ⟨a, vs, h1, h2, h3, h4⟩ := h
    refine ⟨a, vs, h1, h2, PElems.keep k _ _ h3, ?_⟩
    rcases h4 with h4 | ⟨ad, rfl, hF, hc⟩
    · exact .inl h4
    · exact .inr ⟨ad, rfl, k.mono _ hF, fun j u hu => k.cell hF (hc j u hu)⟩
  | .ptr m off, v, hn, h => by
    have hs := (hn m (by simp [AV.has])).blk
    simp only [ARel] at h ⊢
    rw [hs]; exact h
  | .eptr m es i j, v, hn, h => by
    have hs := (hn m (by simp [AV.has])).ov
    simp only [ARel] at h ⊢
    rw [hs]; exact h
  | .rptr cs, v, _, h => by
    obtain ⟨ad, vs, h1, h2, h3, h4⟩ := h
    rcases h3 with rfl | hF
    · exact ⟨ad, [], h1, PVs.keep k _ _ h2, .inl rfl, by simp⟩
    · exact ⟨ad, vs, h1, PVs.keep k _ _ h2, .inr (k.mono _ hF), fun j u hu => k.cell hF (h4 j u hu)⟩
  | .fn f a b, v, hn, h => by
    obtain ⟨x, y, h1, h2, h3⟩ := h
    exact ⟨x, y, h1, ARels.keep k a _ (fun n hh => hn n (by simp [AV.has, hh])) h2, ARels.keep k b _ (fun n hh => hn n (by simp [AV.has, hh])) h3⟩
  | .dead, v, _, h => trivial
theorem ARels.keep [Trk] {ρ ρ' : Rho} {w w' : World} (k : Keep ρ.F w ρ'.F w') : ∀ (ps : List AV) (vs : List Value), (∀ n, AV.hasL n ps = true → Same ρ ρ' n) → ARels ρ w ps vs → ARels ρ' w' ps vs
  | [], vs, _, h => by simpa only [ARels] using h
  | p :: ps, vs, hn, h => by
    obtain ⟨v, vs', h1, h2, h3⟩ := h
    exact ⟨v, vs', h1, ARel.keep k p v (fun n hh => hn n (by simp [AV.hasL, hh])) h2, ARels.keep k ps vs' (fun n hh => hn n (by simp [AV.hasL, hh])) h3⟩
end
/-- Names' meaning as it was: everything is kept. -/
theorem ARel.keep' [Trk] {ρ ρ' : Rho} {w w' : World} (k : Keep ρ.F w ρ'.F w') (hb : ρ'.blk = ρ.blk) (ho : ρ'.ov = ρ.ov) {p : AV} {v : Value} (h : ARel ρ w p v) : ARel ρ' w' p v :=
  ARel.keep k p v (fun n _ => ⟨by rw [hb], by rw [ho]⟩) h
theorem ARels.keep' [Trk] {ρ ρ' : Rho} {w w' : World} (k : Keep ρ.F w ρ'.F w') (hb : ρ'.blk = ρ.blk) (ho : ρ'.ov = ρ.ov) {p : List AV} {v : List Value} (h : ARels ρ w p v) : ARels ρ' w' p v :=
  ARels.keep k p v (fun n _ => ⟨by rw [hb], by rw [ho]⟩) h

end Go.Eng
set_option autoImplicit false
set_option linter.unusedVariables false
set_option linter.unusedSimpArgs false
namespace Go.Eng
open Go Go.RowKit

/-! ## Mentions, kills -/
def Slot.has (n : Name) : Slot → Bool
  | .box _ cells => AV.hasL n cells
  | .own _ _ _ => false
def AV.kill (n : Name) (a : AV) : AV := if a.has n = true then .dead else a
def Slot.kill (n : Name) : Slot → Slot
  | .box T cells => .box T (cells.map (AV.kill n))
  | .own e es xs => .own e es xs
def tkill (n : Name) : List (Nat × AV) → List (Nat × AV)
  | [] => []
  | (k, v) :: r => (k, AV.kill n v) :: tkill n r
def skill (n : Name) : SMap → SMap
  | [] => []
  | (k, v) :: r => (k, v.map (Slot.kill n)) :: skill n r
def AState.kill (st : AState) (n : Name) : AState := { st with t := tkill n st.t, s := skill n st.s }
def AState.free (st : AState) (n : Name) : Prop := (∀ t, (tget st.t t).has n = false) ∧ ∀ m s, sget st.s m = some s → s.has n = false

theorem AV.kill_has [Trk] (n : Name) (a : AV) : (AV.kill n a).has n = false := by
  unfold AV.kill; split
  · rfl
  · rename_i h; simpa using h
theorem hasL_mapKill [Trk] (n : Name) : ∀ l : List AV, AV.hasL n (l.map (AV.kill n)) = false
  | [] => rfl
  | a :: l => by simp [AV.hasL, AV.kill_has, hasL_mapKill n l]
theorem Slot.kill_has [Trk] (n : Name) (s : Slot) : (Slot.kill n s).has n = false := by
  cases s with
  | box T cells => exact hasL_mapKill n cells
  | own e es xs => rfl
theorem tget_kill [Trk] (n : Name) : ∀ (l : List (Nat × AV)) (t : Nat), tget (tkill n l) t = AV.kill n (tget l t)
  | [], t => rfl
  | (k, v) :: r, t => by
                     simp only [tkill, tget]; split
                     · rfl
                     · exact tget_kill n r t
theorem sget_kill [Trk] (n : Name) : ∀ (l : SMap) (m : Name), sget (skill n l) m = (sget l m).map (Slot.kill n)
  | [], m => rfl
  | (k, v) :: r, m => by
                     simp only [skill, sget]; split
                     · rfl
                     · exact sget_kill n r m
theorem AState.kill_free [Trk] (st : AState) (n : Name) : (st.kill n).free n := by
  refine ⟨fun t => by simp only [AState.kill, tget_kill]; exact AV.kill_has n _, fun m s h => ?_⟩
  simp only [AState.kill, sget_kill] at h
  cases hs : sget st.s m with
  | none => rw [hs] at h; cases h
  | some s0 => rw [hs] at h; simp at h; subst h; exact Slot.kill_has n s0
theorem AV.kill_eq [Trk] {n : Name} {a : AV} (h : a.has n = false) : AV.kill n a = a := by simp [AV.kill, h]
theorem ARel.kill [Trk] {ρ : Rho} {w : World} (n : Name) {a : AV} {v : Value} (h : ARel ρ w a v) : ARel ρ w (AV.kill n a) v := by
  unfold AV.kill; split
  · trivial
  · exact h
theorem ARels.kill [Trk] {ρ : Rho} {w : World} (n : Name) : ∀ {l : List AV} {vs : List Value}, ARels ρ w l vs → ARels ρ w (l.map (AV.kill n)) vs
  | [], vs, h => by simpa only [ARels, List.map_nil] using h
  | a :: l, vs, h => by
    obtain ⟨v, vs', h1, h2, h3⟩ := h
    exact ⟨v, vs', h1, h2.kill n, ARels.kill n h3⟩
theorem SlotOK.kill [Trk] {ρ : Rho} {w : World} {m : Name} (n : Name) {s : Slot} (h : SlotOK ρ w m s) : SlotOK ρ w m (Slot.kill n s) := by
  cases s with
  | box T cells => obtain ⟨cs, h1, h2, h3⟩ := h; exact ⟨cs, h1, h2.kill n, h3⟩
  | own e es xs => exact h
theorem slotBlk_kill [Trk] (ρ : Rho) (n m : Name) (s : Slot) : slotBlk ρ m (Slot.kill n s) = slotBlk ρ m s := by cases s <;> rfl

theorem sget_kill_some [Trk] {n m : Name} {S : SMap} {s : Slot} (h : sget (skill n S) m = some s) : ∃ s0, sget S m = some s0 ∧ s = Slot.kill n s0 := by
  rw [sget_kill] at h
  cases hs : sget S m with
  | none => rw [hs] at h; cases h
  | some s0 => rw [hs] at h; simp at h; exact ⟨s0, rfl, h.symm⟩

/-- Slots that are forgotten, or of which less is known. -/
structure SSub (S S' : SMap) : Prop where
  out : ∀ n s', sget S' n = some s' → ∃ s, sget S n = some s ∧ (∀ ρ w, SlotOK ρ w n s → SlotOK ρ w n s') ∧ ∀ ρ, slotBlk ρ n s' = slotBlk ρ n s
theorem SOk.sub [Trk] {Γ : Ctx} {S S' : SMap} {ρ : Rho} {w : World} (h : SOk Γ S ρ w) (hs : SSub S S') : SOk Γ S' ρ w := by
  refine { h with slots := fun n s' h' => ?_, disj := fun n m s s' b h1 h2 h3 h4 => ?_, sep := fun n s b h1 h2 => ?_, home := fun n s b h1 h2 => ?_ }
  · obtain ⟨s, h1, h2, _⟩ := hs.out n s' h'; exact h2 _ _ (h.slots n s h1)
  · obtain ⟨t, k1, _, k3⟩ := hs.out n s h1
    obtain ⟨t', l1, _, l3⟩ := hs.out m s' h2
    exact h.disj n m t t' b k1 l1 (by rw [← k3]; exact h3) (by rw [← l3]; exact h4)
  · obtain ⟨t, k1, _, k3⟩ := hs.out n s h1; exact h.sep n t b k1 (by rw [← k3]; exact h2)
  · obtain ⟨t, k1, _, k3⟩ := hs.out n s h1; exact h.home n t b k1 (by rw [← k3]; exact h2)
theorem SOk.kill [Trk] {Γ : Ctx} {S : SMap} {ρ : Rho} {w : World} (h : SOk Γ S ρ w) (n : Name) : SOk Γ (skill n S) ρ w :=
  h.sub ⟨fun m s' hm => by
    obtain ⟨s0, h1, rfl⟩ := sget_kill_some hm
    exact ⟨s0, h1, fun _ _ k => k.kill n, fun ρ => slotBlk_kill ρ n m s0⟩⟩
theorem Ok.kill [Trk] {Γ : Ctx} {st : AState} {ρ : Rho} {a : Act} {w : World} (h : Ok Γ st ρ a w) (n : Name) : Ok Γ (st.kill n) ρ a w :=
  ⟨h.defers, h.size, fun t => by simp only [AState.kill, tget_kill]; exact (h.tmps t).kill n, h.sok.kill n⟩

/-! ## Updates -/
structure Upd where
  t : List (Nat × AV)
  s : SMap
def AState.app (st : AState) (U : Upd) : AState := { st with t := U.t ++ st.t, s := U.s ++ st.s }

theorem tget_append [Trk] (l r : List (Nat × AV)) (t : Nat) : tget (l ++ r) t = if t ∈ l.map (·.1) then tget l t else tget r t := by
  induction l with
  | nil => simp
  | cons kv l ih =>
    obtain ⟨k, v⟩ := kv
    simp only [List.cons_append, tget, ih, List.map_cons, List.mem_cons]
    by_cases h : t = k
    · simp [h]
    · simp only [h, false_or, if_false]; first | done | (split <;> rfl)
theorem sget_append [Trk] (l r : SMap) (n : Name) : sget (l ++ r) n = if n ∈ l.map (·.1) then sget l n else sget r n := by
  induction l with
  | nil => simp
  | cons kv l ih =>
    obtain ⟨k, v⟩ := kv
    simp only [List.cons_append, sget, ih, List.map_cons, List.mem_cons]
    by_cases h : n = k
    · simp [h]
    · simp only [h, false_or, if_false]; first | done | (split <;> rfl)

theorem getD_put [Trk] (a : Act) (d t : Nat) (v : Value) (hd : d < a.tmps.size) : (a.put (some d) v).tmps.getD t undef = if t = d then v else a.tmps.getD t undef := by
  simp only [Act.put, Array.getD_eq_getD_getElem?, Array.getElem?_setIfInBounds]
  by_cases h : d = t
  · subst h; simp [hd]
  · rw [if_neg h, if_neg (fun e => h e.symm)]
theorem put_size [Trk] (a : Act) (d : Option Tmp) (v : Value) : (a.put d v).tmps.size = a.tmps.size := by cases d <;> simp [Act.put]
theorem put_defers [Trk] (a : Act) (d : Option Tmp) (v : Value) : (a.put d v).defers = a.defers := by cases d <;> rfl

/-- The slots after something has turned. -/
theorem Ok.setT [Trk] {Γ : Ctx} {st : AState} {ρ : Rho} {a : Act} {w : World} (h : Ok Γ st ρ a w) {d : Nat} (hd : d < st.n) {av : AV} {v : Value} (hv : ARel ρ w av v) :
    Ok Γ (st.app ⟨[(d, av)], []⟩) ρ (a.put (some d) v) w :=
  ⟨by rw [put_defers]; exact h.defers, by rw [put_size]; exact h.size, fun t => by
    rw [getD_put _ _ _ _ (by rw [h.size]; exact hd)]
    simp only [AState.app, List.cons_append, List.nil_append, tget]
    split
    · exact hv
    · exact h.tmps t, h.sok⟩

/-- Nothing of memory has turned but what was drawn. -/
theorem SOk.world [Trk] {Γ : Ctx} {S : SMap} {ρ : Rho} {w w' : World} (h : SOk Γ S ρ w) (hh : w'.heap = w.heap) (ho : w'.os = w.os) (ht : w'.tape = w.tape) (hp : w'.output = w.output) (hd : Trk.on → w.drawn ≤ w'.drawn) : SOk Γ S ρ w' := by
  have k : Keep ρ.F w ρ.F w' := ⟨fun _ h => h, fun b _ => by rw [hh]⟩
  refine { h with slots := fun n s hs => ?_, flt := fun b hb => by rw [hh]; exact h.flt b hb, os := by rw [ho]; exact h.os, tape := by rw [ht]; exact h.tape, output := by rw [hp]; exact h.output, size := by rw [hh]; exact h.size, below := fun b h1 h2 => by rw [hh]; exact h.below b h1 h2, glob := h.glob.keep k, drawn := fun t => Nat.le_trans (h.drawn t) (hd t) }
  have := h.slots n s hs
  cases s with
  | box T cells => obtain ⟨cs, h1, h2, h3⟩ := this; exact ⟨cs, by rw [hh]; exact h1, ARels.keep' k rfl rfl h2, h3⟩
  | own e es xs => obtain ⟨vs, h1, h2⟩ := this; exact ⟨vs, h1.kept (row := none) ⟨ho, ht, hp, by rw [hh]; exact Nat.le_refl _, fun b _ _ => by rw [hh]⟩ (fun _ _ => by simp), PElems.keep k _ _ h2⟩
theorem Ok.world [Trk] {Γ : Ctx} {st : AState} {ρ : Rho} {a : Act} {w w' : World} (h : Ok Γ st ρ a w) (hh : w'.heap = w.heap) (ho : w'.os = w.os) (ht : w'.tape = w.tape) (hp : w'.output = w.output) (hd : Trk.on → w.drawn ≤ w'.drawn) : Ok Γ st ρ a w' :=
  ⟨h.defers, h.size, fun t => ARel.keep' ⟨fun _ h => h, fun b _ => by rw [hh]⟩ rfl rfl (h.tmps t), h.sok.world hh ho ht hp hd⟩

/-- One slot is new, or has turned; the block that turned is its own, or a new one. -/
theorem SOk.slot [Trk] {Γ : Ctx} {S : SMap} {ρ ρ' : Rho} {w w' : World} (h : SOk Γ S ρ w) (n : Name) (s' : Option Slot)
    (hF : ρ'.F = ρ.F) (hxb : ∀ i, ρ'.blk (.ext i) = ρ.blk (.ext i)) (hρ : ∀ m, m ≠ n → Same ρ ρ' m) (hn : Same ρ ρ' n ∨ ∀ m s, sget S m = some s → s.has n = false)
    (row : Option Nat) (hg : w.grownBy w' row) (hd : Trk.on → w.drawn ≤ w'.drawn) (hrow : ∀ b, row = some b → ∃ s, sget S n = some s ∧ slotBlk ρ n s = some b)
    (hs : ∀ s, s' = some s → SlotOK ρ' w' n s) (hb : ∀ s b, s' = some s → slotBlk ρ' n s = some b → w.heap.size ≤ b ∨ row = some b) :
    SOk Γ ((n, s') :: S) ρ' w' := by
  have hFrow : ∀ b, ρ.F b → some b ≠ row := fun b hb e => by
    obtain ⟨s, h1, h2⟩ := hrow b e.symm
    exact h.sep n s b h1 h2 hb
  have k : Keep ρ.F w ρ'.F w' := ⟨fun b hb => by rw [hF]; exact hb, fun b hb => hg.block b (h.flt b hb) (hFrow b hb)⟩
  have hlt : ∀ m s b, sget S m = some s → slotBlk ρ m s = some b → b < w.heap.size := by
    intro m s b hm hb
    have := h.slots m s hm
    cases s with
    | box T cells => obtain ⟨cs, h1, _⟩ := this; simp [slotBlk] at hb; subst hb; exact (Array.getElem?_eq_some_iff.1 h1).1
    | own e es xs => obtain ⟨vs, h1, _⟩ := this; exact h1.lt hb
  have hblk : ∀ m s, m ≠ n → slotBlk ρ' m s = slotBlk ρ m s := by
    intro m s hm
    cases s with
    | box T cells => simp [slotBlk, (hρ m hm).blk]
    | own e es xs => simp [slotBlk, (hρ m hm).ov]
  have hother : ∀ m s b, m ≠ n → sget S m = some s → slotBlk ρ m s = some b → some b ≠ row := by
    intro m s b hm h1 h2 e
    obtain ⟨s0, k1, k2⟩ := hrow b e.symm
    exact hm (h.disj m n s s0 b h1 k1 h2 k2)
  have hsame : ∀ m s, m ≠ n → sget S m = some s → ∀ x, s.has x = true → Same ρ ρ' x := by
    intro m s hm h1 x hx
    by_cases hxn : x = n
    · subst hxn
      rcases hn with hn | hn
      · exact hn
      · rw [hn m s h1] at hx; cases hx
    · exact hρ x hxn
  have hget : ∀ m s, sget ((n, s') :: S) m = some s → (m = n ∧ s' = some s) ∨ (m ≠ n ∧ sget S m = some s) := by
    intro m s hm
    simp only [sget] at hm
    split at hm
    · exact .inl ⟨‹_›, hm⟩
    · exact .inr ⟨‹_›, hm⟩
  refine { slots := ?_, disj := ?_, sep := ?_, flt := ?_, os := ?_, tape := ?_, output := ?_, size := ?_, below := ?_, fmono := ?_, fnew := ?_, home := ?_, xblk := fun i => by rw [hxb]; exact h.xblk i, glob := h.glob.keep k, drawn := fun t => Nat.le_trans (h.drawn t) (hd t) }
  · intro m s hm
    rcases hget m s hm with ⟨rfl, rfl⟩ | ⟨hne, h1⟩
    · exact hs s rfl
    · have := h.slots m s h1
      cases s with
      | box T cells =>
        obtain ⟨cs, k1, k2, k3⟩ := this
        refine ⟨cs, ?_, ARels.keep k _ _ (fun x hx => hsame m _ hne h1 x hx) k2, k3⟩
        rw [(hρ m hne).blk, hg.block _ (hlt m _ _ h1 rfl) (hother m _ _ hne h1 rfl)]; exact k1
      | own e es xs =>
        obtain ⟨vs, k1, k2⟩ := this
        refine ⟨vs, ?_, PElems.keep k _ _ k2⟩
        rw [(hρ m hne).ov]
        exact k1.kept hg (fun b hb => hother m _ b hne h1 hb)
  · intro m m' s t b h1 h2 h3 h4
    rcases hget m s h1 with ⟨rfl, rfl⟩ | ⟨hne, k1⟩
    · rcases hget m' t h2 with ⟨rfl, e⟩ | ⟨hne', l1⟩
      · rfl
      · rw [hblk m' t hne'] at h4
        rcases hb s b rfl h3 with hb' | hb'
        · exact absurd (hlt m' t b l1 h4) (by omega)
        · exact absurd hb'.symm (hother m' t b hne' l1 h4)
    · rw [hblk m s hne] at h3
      rcases hget m' t h2 with ⟨rfl, rfl⟩ | ⟨hne', l1⟩
      · rcases hb t b rfl h4 with hb' | hb'
        · exact absurd (hlt m s b k1 h3) (by omega)
        · exact absurd hb'.symm (hother m s b hne k1 h3)
      · rw [hblk m' t hne'] at h4; exact h.disj m m' s t b k1 l1 h3 h4
  · intro m s b h1 h2 hfb
    rw [hF] at hfb
    rcases hget m s h1 with ⟨rfl, rfl⟩ | ⟨hne, k1⟩
    · rcases hb s b rfl h2 with hb' | hb'
      · exact absurd (h.flt b hfb) (by omega)
      · exact hFrow b hfb hb'.symm
    · rw [hblk m s hne] at h2; exact h.sep m s b k1 h2 hfb
  · intro b hb'; rw [hF] at hb'; exact Nat.lt_of_lt_of_le (h.flt b hb') hg.size
  · rw [hg.os]; exact h.os
  · rw [hg.tape]; exact h.tape
  · rw [hg.output]; exact h.output
  · exact Nat.le_trans h.size hg.size
  · intro b hb1 hb2
    rw [hg.block b (Nat.lt_of_lt_of_le hb1 h.size) ?_]
    · exact h.below b hb1 hb2
    · intro e
      obtain ⟨s, k1, k2⟩ := hrow b e.symm
      rcases h.home n s b k1 k2 with hx | hx
      · exact hb2 hx
      · omega
  · intro b hb'; rw [hF]; exact h.fmono b hb'
  · intro b hb'; rw [hF] at hb'; exact h.fnew b hb'
  · intro m s b h1 h2
    rcases hget m s h1 with ⟨rfl, rfl⟩ | ⟨hne, k1⟩
    · rcases hb s b rfl h2 with hb' | hb'
      · exact .inr (Nat.le_trans h.size hb')
      · obtain ⟨s0, k1, k2⟩ := hrow b hb'; exact h.home m s0 b k1 k2
    · rw [hblk m s hne] at h2; exact h.home m s b k1 h2

/-- The same with the frame beside it. -/
theorem Ok.slot [Trk] {Γ : Ctx} {st : AState} {ρ ρ' : Rho} {a : Act} {w w' : World} (h : Ok Γ st ρ a w) (n : Name) (s' : Option Slot)
    (hF : ρ'.F = ρ.F) (hxb : ∀ i, ρ'.blk (.ext i) = ρ.blk (.ext i)) (hρ : ∀ m, m ≠ n → Same ρ ρ' m) (hn : Same ρ ρ' n ∨ st.free n)
    (row : Option Nat) (hg : w.grownBy w' row) (hd : Trk.on → w.drawn ≤ w'.drawn) (hrow : ∀ b, row = some b → ∃ s, sget st.s n = some s ∧ slotBlk ρ n s = some b)
    (hs : ∀ s, s' = some s → SlotOK ρ' w' n s) (hb : ∀ s b, s' = some s → slotBlk ρ' n s = some b → w.heap.size ≤ b ∨ row = some b) :
    Ok Γ (st.app ⟨[], [(n, s')]⟩) ρ' a w' := by
  have hFrow : ∀ b, ρ.F b → some b ≠ row := fun b hb e => by
    obtain ⟨s, h1, h2⟩ := hrow b e.symm
    exact h.sok.sep n s b h1 h2 hb
  have k : Keep ρ.F w ρ'.F w' := ⟨fun b hb => by rw [hF]; exact hb, fun b hb => hg.block b (h.sok.flt b hb) (hFrow b hb)⟩
  refine ⟨h.defers, h.size, fun t => ?_, h.sok.slot n s' hF hxb hρ (hn.imp id (fun x => x.2)) row hg hd hrow hs hb⟩
  refine ARel.keep k _ _ (fun x hx => ?_) (h.tmps t)
  by_cases hxn : x = n
  · subst hxn
    rcases hn with hn | hn
    · exact hn
    · have := hn.1 t; simp only [AState.app, List.nil_append] at hx; rw [this] at hx; cases hx
  · exact hρ x hxn

theorem AState.app_app [Trk] (st : AState) (U V : Upd) : (st.app U).app V = st.app ⟨V.t ++ U.t, V.s ++ U.s⟩ := by simp [AState.app]

/-- The role of one name turned. -/
def Rho.box (ρ : Rho) (n : Name) (b : Nat) : Rho := { ρ with blk := fun m => if m = n then b else ρ.blk m }
def Rho.slice (ρ : Rho) (n : Name) (v : Value) : Rho := { ρ with ov := fun m => if m = n then v else ρ.ov m }
theorem Rho.box_same [Trk] (ρ : Rho) (n : Name) (b : Nat) {m : Name} (h : m ≠ n) : Same ρ (ρ.box n b) m := ⟨by simp [Rho.box, h], rfl⟩
theorem Rho.slice_same [Trk] (ρ : Rho) (n : Name) (v : Value) {m : Name} (h : m ≠ n) : Same ρ (ρ.slice n v) m := ⟨rfl, by simp [Rho.slice, h]⟩


/-- Only what is looked up counts. -/
theorem SOk.ext [Trk] {Γ : Ctx} {S S' : SMap} {ρ : Rho} {w : World} (h : SOk Γ S ρ w) (hs : ∀ n, sget S' n = sget S n) : SOk Γ S' ρ w :=
  h.sub ⟨fun n s' h' => ⟨s', by rw [← hs]; exact h', fun _ _ k => k, fun _ => rfl⟩⟩
theorem Ok.ext [Trk] {Γ : Ctx} {st st' : AState} {ρ : Rho} {a : Act} {w : World} (h : Ok Γ st ρ a w) (hn : st'.n = st.n) (ht : ∀ t, tget st'.t t = tget st.t t) (hs : ∀ n, sget st'.s n = sget st.s n) : Ok Γ st' ρ a w :=
  ⟨h.defers, by rw [hn]; exact h.size, fun t => by rw [ht]; exact h.tmps t, h.sok.ext hs⟩

/-- A slice is called otherwise. -/
def Rho.ren (ρ : Rho) (n m : Name) : Rho := { ρ with ov := fun q => if q = m then ρ.ov n else ρ.ov q }
theorem Rho.ren_same [Trk] (ρ : Rho) (n m : Name) {q : Name} (h : q ≠ m) : Same ρ (ρ.ren n m) q := ⟨rfl, by simp [Rho.ren, h]⟩
theorem slotBlk_ren_ne [Trk] (ρ : Rho) (n m : Name) {q : Name} (h : q ≠ m) (s : Slot) : slotBlk (ρ.ren n m) q s = slotBlk ρ q s := by cases s <;> simp [slotBlk, Rho.ren, h]
theorem SOk.ren [Trk] {Γ : Ctx} {S : SMap} {ρ : Rho} {w : World} (h : SOk Γ S ρ w) {n m : Name} (hne : m ≠ n) {e es : Nat} {xs : List (List PV)} (hn : sget S n = some (.own e es xs)) (hf : ∀ q t, sget S q = some t → t.has m = false) :
    SOk Γ ((m, some (.own e es xs)) :: (n, none) :: S) (ρ.ren n m) w := by
  have hget : ∀ q t, sget ((m, some (.own e es xs)) :: (n, none) :: S) q = some t → (q = m ∧ t = .own e es xs) ∨ (q ≠ m ∧ q ≠ n ∧ sget S q = some t) := by
    intro q t hq
    simp only [sget] at hq
    split at hq
    · cases hq; exact .inl ⟨‹_›, rfl⟩
    · split at hq
      · cases hq
      · exact .inr ⟨‹_›, ‹_›, hq⟩
  have hb : slotBlk (ρ.ren n m) m (.own e es xs) = slotBlk ρ n (.own e es xs) := by simp [slotBlk, Rho.ren]
  refine { h with slots := ?_, disj := ?_, sep := ?_, home := ?_ }
  · intro q t hq
    rcases hget q t hq with ⟨rfl, rfl⟩ | ⟨h1, h2, h3⟩
    · obtain ⟨vs, h1, h2⟩ := h.slots n _ hn
      exact ⟨vs, by simpa [Rho.ren] using h1, h2⟩
    · have := h.slots q t h3
      cases t with
      | box T cells =>
        obtain ⟨cs, k1, k2, k3⟩ := this
        refine ⟨cs, by rw [(ρ.ren_same n m h1).blk]; exact k1, ARels.keep (ρ := ρ) (ρ' := ρ.ren n m) (Keep.refl _ _) _ _ (fun x hx => ρ.ren_same n m (fun e => ?_)) k2, k3⟩
        subst e; have := hf q _ h3; simp only [Slot.has] at this; rw [this] at hx; cases hx
      | own e es xs =>
        obtain ⟨vs, k1, k2⟩ := this
        exact ⟨vs, by rw [(ρ.ren_same n m h1).ov]; exact k1, k2⟩
  · intro q r t u b h1 h2 h3 h4
    rcases hget q t h1 with ⟨rfl, rfl⟩ | ⟨k1, k2, k3⟩
    · rcases hget r u h2 with ⟨rfl, rfl⟩ | ⟨l1, l2, l3⟩
      · rfl
      · rw [hb] at h3; rw [slotBlk_ren_ne _ _ _ l1] at h4
        exact absurd (h.disj n r _ _ b hn l3 h3 h4).symm l2
    · rw [slotBlk_ren_ne _ _ _ k1] at h3
      rcases hget r u h2 with ⟨rfl, rfl⟩ | ⟨l1, l2, l3⟩
      · rw [hb] at h4
        exact absurd (h.disj n q _ _ b hn k3 h4 h3).symm k2
      · rw [slotBlk_ren_ne _ _ _ l1] at h4
        exact h.disj q r t u b k3 l3 h3 h4
  · intro q t b h1 h2
    rcases hget q t h1 with ⟨rfl, rfl⟩ | ⟨k1, k2, k3⟩
    · rw [hb] at h2; exact h.sep n _ b hn h2
    · rw [slotBlk_ren_ne _ _ _ k1] at h2; exact h.sep q t b k3 h2
  · intro q t b h1 h2
    rcases hget q t h1 with ⟨rfl, rfl⟩ | ⟨k1, k2, k3⟩
    · rw [hb] at h2; exact h.home n _ b hn h2
    · rw [slotBlk_ren_ne _ _ _ k1] at h2; exact h.home q t b k3 h2
theorem Ok.ren [Trk] {Γ : Ctx} {st : AState} {ρ : Rho} {a : Act} {w : World} (h : Ok Γ st ρ a w) {n m : Name} (hne : m ≠ n) {e es : Nat} {xs : List (List PV)} (hn : sget st.s n = some (.own e es xs)) (hf : st.free m) :
    Ok Γ (st.app ⟨[], [(m, some (.own e es xs)), (n, none)]⟩) (ρ.ren n m) a w :=
  ⟨h.defers, h.size, fun t => ARel.keep (ρ := ρ) (ρ' := ρ.ren n m) (Keep.refl _ _) _ _ (fun x hx => ρ.ren_same n m (fun e => by
    subst e; have := hf.1 t; simp only [AState.app, List.nil_append] at hx; rw [this] at hx; cases hx)) (h.tmps t), h.sok.ren hne hn hf.2⟩

end Go.Eng
set_option autoImplicit false
set_option linter.unusedVariables false
set_option linter.unusedSimpArgs false
namespace Go.Eng
open Go Go.RowKit
variable {P : Program}

/-! ## What the table of types says -/
def aggOf (P : Program) (t : TypeId) : Option Bool := (P.underlying t).map fun d => match d with | .struct _ | .array _ _ => true | _ => false
def szOf (P : Program) (t : TypeId) : Option Nat := (P.info? t).map (·.size)
def byOf (P : Program) (t : TypeId) : Option Nat := (P.info? t).map (·.bytes)
def zeroOf (P : Program) (t : TypeId) : Option Value := (P.info? t).bind (·.zero)
def elemS (P : Program) (t : TypeId) : Option TypeId := match P.underlying t with | some (.slice e) => some e | _ => none
def arrOf (P : Program) (t : TypeId) : Option (Nat × TypeId) := match P.underlying t with | some (.array n e) => some (n, e) | _ => none
/-- A field's offset and size. -/
def fldOf (P : Program) (t : TypeId) (i : Nat) : Option (Nat × TypeId) := match P.underlying t with
  | some (.struct fs) => (fs[i]?).map fun f => (f.offset, f.type)
  | _ => none
def intOf? (P : Program) (t : TypeId) : Option IntKind := match P.underlying t with | some (.int k) => some k | _ => none
def isBoolT (P : Program) (t : TypeId) : Bool := match P.underlying t with | some .bool => true | _ => false
def isStr (P : Program) (t : TypeId) : Bool := match P.underlying t with | some .string => true | _ => false

theorem run_isAgg [Trk] {t : TypeId} {b : Bool} (h : aggOf P t = some b) (w : World) : (isAgg t).run P w = .ok b w := by
  unfold aggOf at h
  cases hu : P.underlying t with
  | none => rw [hu] at h; cases h
  | some d =>
    rw [hu] at h; simp only [Option.map_some, Option.some.injEq] at h
    unfold isAgg
    rw [Sem.run_bind, run_underlying hu w]
    cases d <;> simp_all
theorem run_size [Trk] {t : TypeId} {n : Nat} (h : szOf P t = some n) (w : World) : (sizeOf t).run P w = .ok n w := by
  unfold szOf at h
  cases hq : P.info? t with
  | none => rw [hq] at h; cases h
  | some i => rw [hq] at h; simp at h; simp [sizeOf, typeInfo, hq, h]
theorem run_zero [Trk] {t : TypeId} {v : Value} (h : zeroOf P t = some v) (w : World) : (zeroValue t).run P w = .ok v w := by
  unfold zeroOf at h
  cases hq : P.info? t with
  | none => rw [hq] at h; cases h
  | some i => rw [hq] at h; simp at h; simp [zeroValue, typeInfo, hq, h]
theorem und_slice [Trk] {t e : TypeId} (h : elemS P t = some e) : P.underlying t = some (.slice e) := by
  unfold elemS at h; split at h
  · rename_i h'; rw [h']; simp at h; rw [h]
  · cases h
theorem und_arr [Trk] {t e : TypeId} {n : Nat} (h : arrOf P t = some (n, e)) : P.underlying t = some (.array n e) := by
  unfold arrOf at h; split at h
  · rename_i h'; rw [h']; simp at h; rw [h.1, h.2]
  · cases h

/-! ## Operands -/
def evC (v : Value) : AV := match v with
  | .agg cs => if cs.toList.all (·.oneCell') then .agg (cs.toList.map .v) else .dead
  | .tuple _ => .dead
  | v => .pv (.v v)
def ev (st : AState) : Operand → AV
  | .tmp t => tget st.t t
  | .const v => evC v
  | .func f => .fn f [] []
  | .global _ => .dead
theorem PVs_map_v [Trk] {F : Nat → Prop} {w : World} : ∀ {l : List Value}, l.all (·.oneCell') = true → PVs F w (l.map .v) l
  | [], _ => rfl
  | a :: l, h => by
    simp only [List.all_cons, Bool.and_eq_true] at h
    exact ⟨a, l, rfl, ⟨rfl, h.1⟩, PVs_map_v h.2⟩
theorem evC_rel [Trk] (ρ : Rho) (w : World) (v : Value) : ARel ρ w (evC v) v := by
  unfold evC
  cases v with
  | agg cs =>
    dsimp only
    split
    · exact ⟨cs, rfl, PVs_map_v ‹_›⟩
    · trivial
  | tuple vs => trivial
  | _ => exact ⟨rfl, rfl⟩
theorem ev_rel [Trk] {Γ : Ctx} {st : AState} {ρ : Rho} {a : Act} {w : World} (h : Ok Γ st ρ a w) (x : Operand) : ARel ρ w (ev st x) (a.eval x) := by
  cases x with
  | tmp t => exact h.tmps t
  | const v => exact evC_rel _ _ v
  | func f => exact ⟨#[], #[], rfl, rfl, rfl⟩
  | global g => trivial

/-! ## One operation -/
def OpOK [Trk] (P : Program) (o : Oper) (st : AState) (U : Upd) (C : List Name) : Prop :=
  ∀ (Γ : Ctx) (ρ : Rho) (a : Act) (w : World) (K : Act → World → Prop) (Q : Exit → Act → World → Prop), Ok Γ st ρ a w → (∀ n ∈ C, st.free n) →
    (∀ ρ' a' w', Ok Γ (st.app U) ρ' a' w' → K a' w') → o.wp P a w K Q

theorem ok_value [Trk] {o : Oper} {st : AState} {d : Nat} {av : AV} (hd : o.dst = some d) (hlt : d < st.n)
    (h : ∀ Γ ρ a w, Ok Γ st ρ a w → ∃ v, ARel ρ w av v ∧ (execOp a.eval o).run P w = .ok (.value v) w) : OpOK P o st ⟨[(d, av)], []⟩ [] := by
  intro Γ ρ a w K Q hok _ hk
  obtain ⟨v, hv, hr⟩ := h Γ ρ a w hok
  unfold Oper.wp
  rw [hr, Oper.upon_value, hd]
  exact hk ρ _ _ (hok.setT hlt hv)

theorem ok_move [Trk] {o : Oper} {st : AState} {d : Nat} {x : Operand} (ho : o.op = .move x ∨ o.op = .assign x) (hd : o.dst = some d) (hlt : d < st.n) : OpOK P o st ⟨[(d, ev st x)], []⟩ [] :=
  ok_value hd hlt fun Γ ρ a w h => ⟨a.eval x, ev_rel h x, by rcases ho with ho | ho <;> simp [execOp, ho]⟩

theorem pv_inv [Trk] {ρ : Rho} {w : World} {x v : Value} (h : ARel ρ w (.pv (.v x)) v) : v = x := h.1

theorem ok_pick [Trk] {o : Oper} {st : AState} {d : Nat} {c x y : Operand} {b : Bool} (ho : o.op = .pick c x y) (hd : o.dst = some d) (hlt : d < st.n) (hc : ev st c = .pv (.v (.bool b))) :
    OpOK P o st ⟨[(d, if b then ev st x else ev st y)], []⟩ [] :=
  ok_value hd hlt fun Γ ρ a w h => by
    have h1 := ev_rel h c
    rw [hc] at h1
    have h2 := pv_inv h1
    refine ⟨if b then a.eval x else a.eval y, ?_, ?_⟩
    · cases b
      · exact ev_rel h y
      · exact ev_rel h x
    · simp [execOp, ho, h2, asBool]

/-- Two scalars, and an operation on them. -/
def abin (P : Program) (op : BinOp) (t : TypeId) (a b : Value) : Option Value :=
  match op, a, b with
  | .add, .int k x, .int k' y => if k = k' then some (.int k (k.wrap (x + y))) else none
  | .sub, .int k x, .int k' y => if k = k' then some (.int k (k.wrap (x - y))) else none
  | .mul, .int k x, .int k' y => if k = k' then some (.int k (k.wrap (x * y))) else none
  | .quo, .int k x, .int k' y => if k = k' ∧ y ≠ 0 then some (.int k (k.wrap (x.tdiv y))) else none
  | .rem, .int k x, .int k' y => if k = k' ∧ y ≠ 0 then some (.int k (x.tmod y)) else none
  | .and, .int k x, .int k' y => if k = k' then some (.int k (bits .and k x y)) else none
  | .or, .int k x, .int k' y => if k = k' then some (.int k (bits .or k x y)) else none
  | .xor, .int k x, .int k' y => if k = k' then some (.int k (bits .xor k x y)) else none
  | .andNot, .int k x, .int k' y => if k = k' then some (.int k (bits .andNot k x y)) else none
  | .shl, .int k x, .int _ y => if 0 ≤ y then some (.int k (k.wrap (x * 2 ^ (min y.toNat k.bits)))) else none
  | .shr, .int k x, .int _ y => if 0 ≤ y then some (.int k (x.fdiv (2 ^ (min y.toNat k.bits)))) else none
  | .eql, .int k x, .int k' y => if k = k' then some (.bool (decide (x = y))) else none
  | .neq, .int k x, .int k' y => if k = k' then some (.bool (!decide (x = y))) else none
  | .lss, .int k x, .int k' y => if k = k' then some (.bool (decide (x < y))) else none
  | .leq, .int k x, .int k' y => if k = k' then some (.bool (decide (x ≤ y))) else none
  | .gtr, .int k x, .int k' y => if k = k' then some (.bool (decide (y < x))) else none
  | .geq, .int k x, .int k' y => if k = k' then some (.bool (decide (y ≤ x))) else none
  | .eql, .bool x, .bool y => if isBoolT P t = true then some (.bool (x == y)) else none
  | .neq, .bool x, .bool y => if isBoolT P t = true then some (.bool (x != y)) else none
  | .eql, .string x, .string y => some (.bool (x.toList == y.toList))
  | .neq, .string x, .string y => some (.bool (!(x.toList == y.toList)))
  | .add, .string x, .string y => if x.size + y.size ≤ 9223372036854775807 then some (.string (x ++ y)) else none
  | _, _, _ => none

theorem und_bool [Trk] {t : TypeId} (h : isBoolT P t = true) : P.underlying t = some .bool := by
  unfold isBoolT at h; split at h
  · assumption
  · cases h
theorem run_equal_bool [Trk] {t : TypeId} (h : P.underlying t = some .bool) (a b : Bool) (w : World) : (Op.equal t (.bool a) (.bool b)).run P w = .ok (a == b) w := by
  have hd : ∀ d : Nat, (Op.equalIn (d + 1) t (.bool a) (.bool b)).run P w = .ok (a == b) w := fun d => by
    simp [Op.equalIn, run_underlying h]
  exact hd 9999
theorem abin_run [Trk] {op : BinOp} {t : TypeId} {x y : Operand} {a b r : Value} (h : abin P op t a b = some r) (w : World) :
    (do eqGuard op t x y a b; binOp op t a b : Sem Value).run P w = .ok r w ∧ r.oneCell' = true := by
  unfold abin at h
  split at h
  all_goals first
    | (cases h; done)
    | (split at h
       rotate_left
       · cases h
       rename_i hc
       cases h
       refine ⟨?_, rfl⟩
       first
        | (subst hc; simp [go_sem, Op.intArith]; done)
        | (obtain ⟨hc, h0⟩ := hc; subst hc; simp [go_sem, Op.intDiv, h0]; done)
        | (have := Int.not_lt.2 hc; simp [go_sem, Op.shift, this]; done)
        | (subst hc; simp only [eqGuard_at_int, binOp_eql, binOp_neq, Sem.run_bind, Sem.run_pure, Result.andThen_ok, pure_bind]; rfl; done)
        | (simp only [eqGuard_at_bool, binOp, Sem.run_bind, Sem.run_pure, Result.andThen_ok, pure_bind, run_equal_bool (und_bool hc)]; try rfl; done)
        | (have hc' : ¬ ((_ : Int) < _) := Int.not_lt.2 (Int.ofNat_le.2 hc)
           simp [go_sem, binOp, Op.stringOp]; omega))
    | (cases h
       refine ⟨?_, rfl⟩
       simp [go_sem, binOp, Op.stringOp]; done)

end Go.Eng
set_option autoImplicit false
set_option linter.unusedVariables false
set_option linter.unusedSimpArgs false
namespace Go.Eng
open Go Go.RowKit
variable {P : Program} {o : Oper} {st : AState} {d : Nat}

theorem add_add [Trk] (a : Addr) (i j : Nat) : (a.add i).add j = a.add (i + j) := by
  unfold Addr.add
  by_cases hi : i = 0 <;> by_cases hj : j = 0 <;> simp [hi, hj, Nat.add_assoc]
theorem add_block [Trk] (a : Addr) (n : Nat) : (a.add n).block = a.block := by unfold Addr.add; split <;> rfl
theorem arr_of [Trk] (a : Value) (cs : List PV) : True := trivial

theorem pvs_cells [Trk] {F : Nat → Prop} {w : World} {p : PV} {v : Value} (h : PRel F w p v) : v.oneCell' = true := by
  cases p with
  | v x => obtain ⟨rfl, h⟩ := h; exact h
  | sl es xs => obtain ⟨a, cap, vs, rfl, _⟩ := h; rfl
theorem PVs.one [Trk] {F : Nat → Prop} {w : World} : ∀ {ps : List PV} {vs : List Value}, PVs F w ps vs → ∀ u ∈ vs, u.oneCell' = true
  | [], vs, h, u, hu => by simp only [PVs] at h; subst h; cases hu
  | p :: ps, vs, h, u, hu => by
    obtain ⟨v, vs', rfl, h1, h2⟩ := h
    cases hu with
    | head => exact pvs_cells h1
    | tail _ hu => exact PVs.one h2 u hu
theorem PElems.one' [Trk] {F : Nat → Prop} {w : World} {es : Nat} : ∀ {xs : List (List PV)} {vs : List Value}, PElems F w es xs vs → ∀ u ∈ vs, u.oneCell' = true
  | [], vs, h, u, hu => by simp only [PElems] at h; subst h; cases hu
  | x :: xs, vs, h, u, hu => by
    obtain ⟨v1, v2, rfl, _, h2, h3⟩ := h
    rcases List.mem_append.1 hu with hu | hu
    · exact h2.one u hu
    · exact PElems.one' h3 u hu
theorem PVs.toARels [Trk] {ρ : Rho} {w : World} : ∀ {ps : List PV} {vs : List Value}, PVs ρ.F w ps vs → ARels ρ w (ps.map .pv) vs
  | [], vs, h => by simpa only [ARels, PVs, List.map_nil] using h
  | p :: ps, vs, h => by
    obtain ⟨v, vs', h1, h2, h3⟩ := h
    exact ⟨v, vs', h1, h2, PVs.toARels h3⟩
def allPV : List AV → Option (List PV)
  | [] => some []
  | .pv p :: l => match allPV l with | some r => some (p :: r) | none => none
  | _ => none
theorem allPV_rel [Trk] {ρ : Rho} {w : World} : ∀ {l : List AV} {ps : List PV} {vs : List Value}, allPV l = some ps → ARels ρ w l vs → PVs ρ.F w ps vs
  | [], ps, vs, h, k => by simp [allPV] at h; subst h; simpa only [ARels, PVs] using k
  | .pv p :: l, ps, vs, h, k => by
    simp only [allPV] at h
    split at h
    · rename_i r hr
      cases h
      obtain ⟨v, vs', rfl, h1, h2⟩ := k
      exact ⟨v, vs', rfl, h1, allPV_rel hr h2⟩
    · cases h
  | .agg _ :: l, _, _, h, _ | .aggA _ :: l, _, _, h, _ | .tup _ :: l, _, _, h, _ | .own _ :: l, _, _, h, _ | .tight _ _ :: l, _, _, h, _ | .ptr _ _ :: l, _, _, h, _ | .eptr _ _ _ _ :: l, _, _, h, _
  | .rptr _ :: l, _, _, h, _ | .fn _ _ _ :: l, _, _, h, _ | .dead :: l, _, _, h, _ => by simp [allPV] at h
theorem allPV_map [Trk] : ∀ l : List PV, allPV (l.map .pv) = some l
  | [] => rfl
  | p :: l => by simp [allPV, allPV_map l]

/-! ### Addresses -/
theorem run_sureAddr [Trk] (a : Addr) (w : World) : (Instr.sureAddr (.pointer (some a))).run P w = .ok a w := rfl

/-- A pointer to cells, in whatever place. -/
def moveP (k : Nat) : AV → Option AV
  | .ptr n o => some (.ptr n (o + k))
  | .eptr n es i j => some (.eptr n es i (j + k))
  | .rptr cs => some (.rptr (cs.drop k))
  | _ => none
theorem moveP_rel [Trk] {ρ : Rho} {w : World} {k : Nat} {av av' : AV} {v : Value} (h : moveP k av = some av') (hv : ARel ρ w av v) : ∃ a, v = .pointer (some a) ∧ ARel ρ w av' (.pointer (some (a.add k))) := by
  cases av with
  | ptr n o => simp [moveP] at h; subst h; exact ⟨_, hv, by simp [ARel, Addr.add_lit]⟩
  | eptr n es i j =>
    simp [moveP] at h; subst h
    obtain ⟨b, hb, rfl⟩ := hv
    exact ⟨_, rfl, b, hb, by simp [Addr.add_lit, Nat.add_assoc]⟩
  | rptr cs =>
    simp [moveP] at h; subst h
    obtain ⟨ad, vs, rfl, h1, h2, h3⟩ := hv
    refine ⟨ad, rfl, ad.add k, vs.drop k, rfl, h1.drop k, ?_, fun j u hu => ?_⟩
    · rcases h2 with rfl | h2
      · exact .inl (by simp)
      · exact .inr (by rw [add_block]; exact h2)
    · rw [add_add]; rw [List.getElem?_drop] at hu; exact h3 _ u hu
  | _ => simp [moveP] at h

theorem ok_fieldAddr [Trk] {T i off ft k : Nat} {x : Operand} {av : AV} (ho : o.op = .fieldAddr T x i) (hd : o.dst = some d) (hlt : d < st.n)
    (hf : fldOf P T i = some (off, ft)) (hs : szOf P ft = some (k + 1)) (hm : moveP off (ev st x) = some av) : OpOK P o st ⟨[(d, av)], []⟩ [] :=
  ok_value hd hlt fun Γ ρ a w h => by
    obtain ⟨ad, h1, h2⟩ := moveP_rel hm (ev_rel h x)
    refine ⟨_, h2, ?_⟩
    unfold fldOf at hf
    split at hf
    · rename_i fs hu
      cases hq : fs[i]? with
      | none => rw [hq] at hf; cases hf
      | some f =>
        rw [hq] at hf; simp at hf
        obtain ⟨rfl, rfl⟩ := hf
        simp [execOp, ho, Instr.fieldAt, run_underlying hu, hq, h1, Instr.sureAddr, fieldPlace, run_size hs]
    · cases hf

theorem PVs.extract [Trk] {F : Nat → Prop} {w : World} {cs : List PV} {a : Array Value} (h : PVs F w cs a.toList) (off n : Nat) : PVs F w ((cs.drop off).take n) (a.extract off (off + n)).toList := by
  have := (h.drop off).take n
  simpa [Array.toList_extract, List.extract_eq_take_drop] using this

theorem ok_field [Trk] {T i off ft n : Nat} {x : Operand} {cs : List PV} {av : AV} {b : Bool} (ho : o.op = .field T x i) (hd : o.dst = some d) (hlt : d < st.n)
    (hf : fldOf P T i = some (off, ft)) (hs : szOf P ft = some n) (hg : aggOf P ft = some b) (hx : ev st x = .agg cs)
    (hr : (if b then some (AV.agg ((cs.drop off).take n)) else (cs[off]?).map .pv) = some av) : OpOK P o st ⟨[(d, av)], []⟩ [] :=
  ok_value hd hlt fun Γ ρ a w h => by
    have h1 := ev_rel h x
    rw [hx] at h1
    obtain ⟨arr, h2, h3⟩ := h1
    unfold fldOf at hf
    split at hf
    · rename_i fs hu
      cases hq : fs[i]? with
      | none => rw [hq] at hf; cases hf
      | some f =>
        rw [hq] at hf; simp at hf
        obtain ⟨rfl, rfl⟩ := hf
        cases b with
        | true =>
          simp at hr; subst hr
          refine ⟨.agg (arr.extract f.offset (f.offset + n)), ⟨_, rfl, h3.extract _ _⟩, ?_⟩
          simp [execOp, ho, Instr.field, run_underlying hu, hq, h2, asAgg, part, run_isAgg hg, run_size hs]
        | false =>
          simp at hr
          obtain ⟨p, hp, rfl⟩ := hr
          obtain ⟨v, hv, hrel⟩ := h3.get hp
          have hv' : arr[f.offset]? = some v := by simpa using hv
          refine ⟨v, hrel, ?_⟩
          simp [execOp, ho, Instr.field, run_underlying hu, hq, h2, asAgg, part, run_isAgg hg, hv']
    · cases hf

theorem run_indexAt_sl [Trk] {t e : TypeId} {sz : Nat} (hu : P.underlying t = some (.slice e)) (hs : szOf P e = some sz) (a : Addr) (len cap : Nat) (k : IntKind) (i : Int) (h0 : 0 ≤ i) (h1 : i.toNat < len) (w : World) :
    (Instr.indexAt t (.slice (some a) len cap) (.int k i)).run P w = .ok (.pointer (some (a.add (i.toNat * sz)))) w := by
  have h2 : i < (len : Int) := by omega
  simp [Instr.indexAt, asIntOf, run_underlying hu, h0, h2, run_size hs]
theorem run_indexAt_arr [Trk] {t e : TypeId} {sz n : Nat} (hu : P.underlying t = some (.array n e)) (hs : szOf P e = some sz) (a : Addr) (k : IntKind) (i : Int) (h0 : 0 ≤ i) (h1 : i.toNat < n) (w : World) :
    (Instr.indexAt t (.pointer (some a)) (.int k i)).run P w = .ok (.pointer (some (a.add (i.toNat * sz)))) w := by
  have h2 : i < (n : Int) := by omega
  simp [Instr.indexAt, asIntOf, run_underlying hu, Instr.sureAddr, h0, h2, run_size hs]

theorem sl_elem [Trk] {F : Nat → Prop} {w : World} {es : Nat} {xs : List (List PV)} {i : Nat} {c : List PV} {a : Option Addr} {vs : List Value} (h4 : PElems F w es xs vs)
    (h5 : vs = [] ∨ ∃ ad, a = some ad ∧ F ad.block ∧ ∀ j u, vs[j]? = some u → w.cell? (ad.add j) = some u) (hc : xs[i]? = some c) (hes : 0 < es) :
    ∃ ad, a = some ad ∧ ∃ us, PVs F w c us ∧ F ad.block ∧ ∀ j u, us[j]? = some u → w.cell? ((ad.add (i * es)).add j) = some u := by
  obtain ⟨hl, hp⟩ := h4.get hc
  have hlen := h4.length
  have hi := (List.getElem?_eq_some_iff.1 hc).1
  have hpos : 0 < vs.length := by rw [hlen]; exact Nat.mul_pos (by omega) hes
  rcases h5 with rfl | ⟨ad, rfl, hF, hcell⟩
  · simp at hpos
  · refine ⟨ad, rfl, _, hp, hF, fun j u hu => ?_⟩
    rw [add_add]
    rw [List.getElem?_take] at hu
    split at hu
    · rw [List.getElem?_drop] at hu; exact hcell _ u hu
    · cases hu

theorem ok_index_sl [Trk] {T e es : Nat} {x ix : Operand} {k : IntKind} {i : Int} {xs : List (List PV)} {c : List PV} (ho : o.op = .indexAddr T x ix) (hd : o.dst = some d) (hlt : d < st.n)
    (hT : elemS P T = some e) (hs : szOf P e = some es) (hes : 0 < es) (hx : ev st x = .pv (.sl es xs)) (hi : ev st ix = .pv (.v (.int k i))) (h0 : 0 ≤ i) (hc : xs[i.toNat]? = some c) :
    OpOK P o st ⟨[(d, .rptr c)], []⟩ [] :=
  ok_value hd hlt fun Γ ρ a w h => by
    have h1 := ev_rel h x
    have h2 := ev_rel h ix
    rw [hx] at h1; rw [hi] at h2
    have h2' := pv_inv h2
    obtain ⟨ao, cap, vs, h3, h4, h5, h6, h7⟩ := h1
    obtain ⟨ad, rfl, us, h8, h9, h10⟩ := sl_elem h6 h7 hc hes
    have hl := (List.getElem?_eq_some_iff.1 hc).1
    refine ⟨.pointer (some (ad.add (i.toNat * es))), ⟨_, us, rfl, h8, .inr (by rw [add_block]; exact h9), h10⟩, ?_⟩
    simp [execOp, ho, h3, h2', run_indexAt_sl (und_slice hT) hs ad _ _ k i h0 hl]
theorem ok_index_tight [Trk] {T e es : Nat} {x ix : Operand} {k : IntKind} {i : Int} {xs : List (List PV)} {c : List PV} (ho : o.op = .indexAddr T x ix) (hd : o.dst = some d) (hlt : d < st.n)
    (hT : elemS P T = some e) (hs : szOf P e = some es) (hes : 0 < es) (hx : ev st x = .tight es xs) (hi : ev st ix = .pv (.v (.int k i))) (h0 : 0 ≤ i) (hc : xs[i.toNat]? = some c) :
    OpOK P o st ⟨[(d, .rptr c)], []⟩ [] :=
  ok_value hd hlt fun Γ ρ a w h => by
    have h1 := ev_rel h x
    have h2 := ev_rel h ix
    rw [hx] at h1; rw [hi] at h2
    have h2' := pv_inv h2
    obtain ⟨ao, vs, h3, h5, h6, h7⟩ := h1
    obtain ⟨ad, rfl, us, h8, h9, h10⟩ := sl_elem h6 h7 hc hes
    have hl := (List.getElem?_eq_some_iff.1 hc).1
    refine ⟨.pointer (some (ad.add (i.toNat * es))), ⟨_, us, rfl, h8, .inr (by rw [add_block]; exact h9), h10⟩, ?_⟩
    simp [execOp, ho, h3, h2', run_indexAt_sl (und_slice hT) hs ad _ _ k i h0 hl]

/-- An own slice that isn't empty: where it lies. -/
theorem own_form [Trk] {ρ : Rho} {w : World} {n : Name} {e es : Nat} {xs : List (List PV)} (h : SlotOK ρ w n (.own e es xs)) (hx : 0 < xs.length) :
    ∃ g cap cur vs, ρ.ov n = .slice (some ⟨g, 0, none⟩) xs.length cap ∧ w.heap[g]? = some (.cells cur e (0, 0)) ∧ xs.length ≤ cap ∧ cap ≤ maxLen ∧ cur.size = cap * es ∧ cur.toList.take (xs.length * es) = vs ∧ PElems ρ.F w es xs vs := by
  obtain ⟨vs, h0, h3⟩ := h
  rcases h0 with ⟨h1, h2⟩ | ⟨h0, _⟩
  rotate_left
  · omega
  rcases h2 with ⟨_, h2⟩ | ⟨g, cap, cur, h4, _, h5, h6, h7, h8, h9⟩
  · omega
  · exact ⟨g, cap, cur, vs, h4, h5, h6, h7, h8, h9, h3⟩
theorem own_shape [Trk] {ρ : Rho} {w : World} {n : Name} {e es : Nat} {xs : List (List PV)} (h : SlotOK ρ w n (.own e es xs)) : ∃ a cap, ρ.ov n = .slice a xs.length cap ∧ xs.length ≤ cap ∧ cap ≤ maxLen := by
  obtain ⟨vs, h0, h3⟩ := h
  rcases h0 with ⟨h1, h2⟩ | ⟨h0, _, a, h2⟩
  rotate_left
  · exact ⟨a, 0, by rw [h2, h0], by omega, by simp [maxLen]⟩
  rcases h2 with ⟨h2, h4⟩ | ⟨g, cap, cur, h4, _, h5, h6, h7, h8, h9⟩
  · exact ⟨none, 0, by rw [h2, h4], by omega, by simp [maxLen]⟩
  · exact ⟨_, cap, h4, h6, h7⟩
theorem ok_index_own [Trk] {T e e' es : Nat} {x ix : Operand} {k : IntKind} {i : Int} {n : Name} {xs : List (List PV)} (ho : o.op = .indexAddr T x ix) (hd : o.dst = some d) (hlt : d < st.n)
    (hT : elemS P T = some e) (hs : szOf P e = some es) (hx : ev st x = .own n) (hn : sget st.s n = some (.own e' es xs)) (hi : ev st ix = .pv (.v (.int k i))) (h0 : 0 ≤ i) (hl : i.toNat < xs.length) :
    OpOK P o st ⟨[(d, .eptr n es i.toNat 0)], []⟩ [] :=
  ok_value hd hlt fun Γ ρ a w h => by
    have h1 := ev_rel h x
    have h2 := ev_rel h ix
    rw [hx] at h1; rw [hi] at h2
    have h2' := pv_inv h2
    obtain ⟨g, cap, cur, vs, h3, _⟩ := own_form (h.sok.slots n _ hn) (by omega)
    have h1' : a.eval x = ρ.ov n := h1
    refine ⟨.pointer (some ⟨g, i.toNat * es, none⟩), ⟨g, by rw [h3]; rfl, by simp⟩, ?_⟩
    simp [execOp, ho, h1', h3, h2', run_indexAt_sl (und_slice hT) hs _ _ _ k i h0 hl, Addr.add_lit]
theorem ok_index_arr [Trk] {T e sz n : Nat} {x ix : Operand} {k : IntKind} {i : Int} {av : AV} (ho : o.op = .indexAddr T x ix) (hd : o.dst = some d) (hlt : d < st.n)
    (hT : arrOf P T = some (n, e)) (hs : szOf P e = some sz) (hi : ev st ix = .pv (.v (.int k i))) (h0 : 0 ≤ i) (hl : i.toNat < n) (hm : moveP (i.toNat * sz) (ev st x) = some av) :
    OpOK P o st ⟨[(d, av)], []⟩ [] :=
  ok_value hd hlt fun Γ ρ a w h => by
    have h2 := ev_rel h ix
    rw [hi] at h2
    have h2' := pv_inv h2
    obtain ⟨ad, h3, h4⟩ := moveP_rel hm (ev_rel h x)
    exact ⟨_, h4, by simp [execOp, ho, h3, h2', run_indexAt_arr (und_arr hT) hs ad k i h0 hl]⟩

/-! ### Loads -/
theorem run_loadVar_agg [Trk] {T n : Nat} (hg : aggOf P T = some true) (hs : szOf P T = some n) (ad : Addr) (vs : List Value) (hl : vs.length = n) (w : World) (h : ∀ j u, vs[j]? = some u → w.cell? (ad.add j) = some u) :
    (loadVar T ad).run P w = .ok (.agg vs.toArray) w := by
  subst hl
  simp [loadVar, run_isAgg hg, run_size hs, run_loadCells_list (P := P) w ad vs h]
theorem run_loadVar_one [Trk] {T : Nat} (hg : aggOf P T = some false) (ad : Addr) (v : Value) (w : World) (h : w.cell? ad = some v) : (loadVar T ad).run P w = .ok v w := by
  simp [loadVar, run_isAgg hg, h]

/-- What is loaded of cells. -/
def cutP (b : Bool) (n : Nat) (cs : List PV) : Option AV :=
  if b then (if cs.length = n then some (.agg cs) else if n < cs.length then some (.agg (cs.take n)) else none) else (cs[0]?).map .pv
theorem cutP_rel [Trk] {T n : Nat} {b : Bool} (hg : aggOf P T = some b) (hs : szOf P T = some n) {ρ : Rho} {w : World} {cs : List PV} {av : AV} (h : cutP b n cs = some av) {ad : Addr} {vs : List Value} (hv : PVs ρ.F w cs vs)
    (hc : ∀ j u, vs[j]? = some u → w.cell? (ad.add j) = some u) : ∃ v, ARel ρ w av v ∧ (loadVar T ad).run P w = .ok v w := by
  unfold cutP at h
  cases b with
  | true =>
    simp only [if_true] at h
    split at h
    · rename_i hl
      cases h
      exact ⟨.agg vs.toArray, ⟨_, rfl, by simpa using hv⟩, run_loadVar_agg hg hs ad vs (by rw [hv.length, hl]) w hc⟩
    · split at h
      · rename_i hl
        cases h
        refine ⟨.agg (vs.take n).toArray, ⟨_, rfl, by simpa using hv.take n⟩, run_loadVar_agg hg hs ad (vs.take n) (by rw [List.length_take, hv.length]; omega) w fun j u hu => hc j u ?_⟩
        rw [List.getElem?_take] at hu
        split at hu
        · exact hu
        · cases hu
      · cases h
  | false =>
    simp at h
    obtain ⟨p, hp, rfl⟩ := h
    obtain ⟨v, h1, h2⟩ := hv.get hp
    exact ⟨v, h2, run_loadVar_one hg ad v w (by have := hc 0 v h1; rwa [Addr.add_zero'] at this)⟩

theorem ok_load_r [Trk] {T n : Nat} {b : Bool} {x : Operand} {cs : List PV} {av : AV} (ho : o.op = .load T x) (hd : o.dst = some d) (hlt : d < st.n)
    (hg : aggOf P T = some b) (hs : szOf P T = some n) (hx : ev st x = .rptr cs) (hr : cutP b n cs = some av) : OpOK P o st ⟨[(d, av)], []⟩ [] :=
  ok_value hd hlt fun Γ ρ a w h => by
    have h1 := ev_rel h x
    rw [hx] at h1
    obtain ⟨ad, vs, h2, h3, _, h4⟩ := h1
    obtain ⟨v, h5, h6⟩ := cutP_rel hg hs hr h3 h4
    exact ⟨v, h5, by simp [execOp, ho, h2, Instr.loadAt, Instr.sureAddr, h6]⟩

/-- What is loaded of a variable's cells. -/
def cutA (b : Bool) (n off : Nat) (cells : List AV) : Option AV :=
  if b then (match allPV ((cells.drop off).take n) with | some ps => if ps.length = n then some (.agg ps) else none | none => if ((cells.drop off).take n).length = n then some (.aggA ((cells.drop off).take n)) else none) else cells[off]?
theorem ok_load_box [Trk] {T T' n off : Nat} {b : Bool} {x : Operand} {m : Name} {cells : List AV} {av : AV} (ho : o.op = .load T x) (hd : o.dst = some d) (hlt : d < st.n)
    (hg : aggOf P T = some b) (hs : szOf P T = some n) (hx : ev st x = .ptr m off) (hm : sget st.s m = some (.box T' cells)) (hr : cutA b n off cells = some av) : OpOK P o st ⟨[(d, av)], []⟩ [] :=
  ok_value hd hlt fun Γ ρ a w h => by
    have h1 := ev_rel h x
    rw [hx] at h1
    have h1' : a.eval x = .pointer (some ⟨ρ.blk m, off, none⟩) := h1
    obtain ⟨cs, h2, h3, h9⟩ := h.sok.slots m _ hm
    have hcell : ∀ j, w.cell? ((⟨ρ.blk m, off, none⟩ : Addr).add j) = cs.toList[off + j]? := fun j => by
      rw [Addr.add_lit, cell_of_row w _ _ cs _ _ h2]; simp
    unfold cutA at hr
    cases b with
    | true =>
      simp only [if_true] at hr
      split at hr
      · rename_i ps hps
        split at hr
        · rename_i hl
          cases hr
          have hrel := allPV_rel hps ((h3.drop off).take n)
          refine ⟨.agg ((cs.toList.drop off).take n).toArray, ⟨_, rfl, by simpa using hrel⟩, ?_⟩
          have := run_loadVar_agg (P := P) hg hs ⟨ρ.blk m, off, none⟩ ((cs.toList.drop off).take n) (by rw [hrel.length, hl]) w (fun j u hu => by
            rw [hcell]
            rw [List.getElem?_take] at hu
            split at hu
            · rw [List.getElem?_drop] at hu; exact hu
            · cases hu)
          simp [execOp, ho, h1', Instr.loadAt, Instr.sureAddr, this]
        · cases hr
      · split at hr
        · rename_i hl
          cases hr
          have hrel := (h3.drop off).take n
          refine ⟨.agg ((cs.toList.drop off).take n).toArray, ⟨_, rfl, by simpa using hrel, fun u hu => h9 u (List.mem_of_mem_drop (List.mem_of_mem_take (by simpa using hu)))⟩, ?_⟩
          have := run_loadVar_agg (P := P) hg hs ⟨ρ.blk m, off, none⟩ ((cs.toList.drop off).take n) (by rw [hrel.length, hl]) w (fun j u hu => by
            rw [hcell]
            rw [List.getElem?_take] at hu
            split at hu
            · rw [List.getElem?_drop] at hu; exact hu
            · cases hu)
          simp [execOp, ho, h1', Instr.loadAt, Instr.sureAddr, this]
        · cases hr
    | false =>
      simp at hr
      obtain ⟨v, h5, h6⟩ := h3.get hr
      refine ⟨v, h6, ?_⟩
      have := run_loadVar_one (P := P) hg ⟨ρ.blk m, off, none⟩ v w (by have := hcell 0; simp only [Addr.add_zero', Nat.add_zero] at this; rw [this]; exact h5)
      simp [execOp, ho, h1', Instr.loadAt, Instr.sureAddr, this]

/-- Cells of an own slice. -/
theorem own_cell [Trk] {ρ : Rho} {w : World} {m : Name} {e es : Nat} {xs : List (List PV)} (h : SlotOK ρ w m (.own e es xs)) {i : Nat} {x : List PV} (hx : xs[i]? = some x) :
    ∃ g cap cur us, ρ.ov m = .slice (some ⟨g, 0, none⟩) xs.length cap ∧ w.heap[g]? = some (.cells cur e (0, 0)) ∧ xs.length * es ≤ cur.size ∧ x.length = es ∧ PVs ρ.F w x us ∧ us = (cur.toList.drop (i * es)).take es := by
  have hl := (List.getElem?_eq_some_iff.1 hx).1
  obtain ⟨g, cap, cur, vs, h1, h2, h3, _, h4, h5, h6⟩ := own_form h (by omega)
  obtain ⟨h7, h8⟩ := h6.get hx
  refine ⟨g, cap, cur, _, h1, h2, by rw [h4]; exact Nat.mul_le_mul_right _ h3, h7, h8, ?_⟩
  rw [← h5, List.drop_take, List.take_take]
  congr 1
  have : (i + 1) * es ≤ xs.length * es := Nat.mul_le_mul_right _ hl
  rw [Nat.succ_mul] at this
  omega
theorem ok_load_own [Trk] {T n e es i j : Nat} {b : Bool} {x : Operand} {m : Name} {xs : List (List PV)} {c : List PV} {av : AV} (ho : o.op = .load T x) (hd : o.dst = some d) (hlt : d < st.n)
    (hg : aggOf P T = some b) (hs : szOf P T = some n) (hx : ev st x = .eptr m es i j) (hm : sget st.s m = some (.own e es xs)) (hc : xs[i]? = some c) (hr : cutP b n (c.drop j) = some av) : OpOK P o st ⟨[(d, av)], []⟩ [] :=
  ok_value hd hlt fun Γ ρ a w h => by
    have h1 := ev_rel h x
    rw [hx] at h1
    obtain ⟨g, cap, cur, us, h2, h3, h4, h5, h6, h7⟩ := own_cell (h.sok.slots m _ hm) hc
    obtain ⟨b', hb, hv⟩ := h1
    rw [h2] at hb; simp [Value.ownBlock] at hb; subst hb
    obtain ⟨v, h8, h9⟩ := cutP_rel (P := P) hg hs hr (h6.drop j) (ad := ⟨g, i * es + j, none⟩) (fun q u hu => by
      rw [Addr.add_lit, cell_of_row w _ _ cur _ _ h3, ← Array.getElem?_toList]
      rw [h7, List.getElem?_drop, List.getElem?_take] at hu
      split at hu
      · rw [List.getElem?_drop] at hu; rw [← hu]; congr 1; omega
      · cases hu)
    exact ⟨v, h8, by simp [execOp, ho, hv, Instr.loadAt, Instr.sureAddr, h9]⟩

end Go.Eng
set_option autoImplicit false
set_option linter.unusedVariables false
set_option linter.unusedSimpArgs false
namespace Go.Eng
open Go Go.RowKit
variable {P : Program} {o : Oper} {st : AState} {d : Nat}

/-! ### Cells of values -/
def cellsA (st : AState) : AV → Option (List AV)
  | .pv p => some [.pv p]
  | .agg cs => some (cs.map .pv)
  | .aggA l => some l
  | .own n => match sget st.s n with | some (.own _ _ _) => some [.own n] | _ => none
  | .ptr n off => some [.ptr n off]
  | .fn f a b => some [.fn f a b]
  | _ => none
theorem cellsA_rel [Trk] {Γ : Ctx} {ρ : Rho} {a : Act} {w : World} (h : Ok Γ st ρ a w) {av : AV} {cs : List AV} {v : Value} (hc : cellsA st av = some cs) (hv : ARel ρ w av v) :
    ARels ρ w cs v.cells.toList ∧ ∀ u ∈ v.cells.toList, u.oneCell' = true := by
  have one : ∀ {v : Value} {x : AV}, v.oneCell' = true → ARel ρ w x v → ARels ρ w [x] v.cells.toList ∧ ∀ u ∈ v.cells.toList, u.oneCell' = true := by
    intro v x h1 h2
    have : v.cells = #[v] := by cases v <;> first | rfl | (simp [Value.oneCell'] at h1)
    rw [this]
    exact ⟨⟨v, [], rfl, h2, rfl⟩, by simpa using h1⟩
  cases av with
  | pv p => simp [cellsA] at hc; subst hc; exact one (pvs_cells hv) hv
  | agg ps =>
    simp [cellsA] at hc; subst hc
    obtain ⟨arr, rfl, h2⟩ := hv
    exact ⟨h2.toARels, h2.one⟩
  | aggA l =>
    simp [cellsA] at hc; subst hc
    obtain ⟨arr, rfl, h2, h3⟩ := hv
    exact ⟨h2, h3⟩
  | own n =>
    simp only [cellsA] at hc
    split at hc
    · rename_i e es xs hs
      cases hc
      refine one ?_ hv
      obtain ⟨x, c, h1, _⟩ := own_shape (h.sok.slots n _ hs)
      have : v = ρ.ov n := hv
      rw [this, h1]; rfl
    · cases hc
  | ptr n off => simp [cellsA] at hc; subst hc; have : v = _ := hv; exact one (by rw [this]; rfl) hv
  | fn f x y => simp [cellsA] at hc; subst hc; obtain ⟨p, q, h1, _⟩ := id hv; exact one (by rw [h1]; rfl) hv
  | _ => simp [cellsA] at hc
def cellsP : AV → Option (List PV)
  | .pv p => some [p]
  | .agg cs => some cs
  | .tight es xs => some [.sl es xs]
  | _ => none
theorem cellsP_rel [Trk] {ρ : Rho} {w : World} {av : AV} {cs : List PV} {v : Value} (hc : cellsP av = some cs) (hv : ARel ρ w av v) : PVs ρ.F w cs v.cells.toList := by
  have one : ∀ {v : Value} {x : PV}, PRel ρ.F w x v → PVs ρ.F w [x] v.cells.toList := by
    intro v x h1
    have : v.cells = #[v] := by have h2 := pvs_cells h1; cases v <;> first | rfl | (simp [Value.oneCell'] at h2)
    rw [this]
    exact ⟨v, [], rfl, h1, rfl⟩
  cases av with
  | pv p => simp [cellsP] at hc; subst hc; exact one hv
  | agg ps => simp [cellsP] at hc; subst hc; obtain ⟨arr, rfl, h2⟩ := hv; exact h2
  | tight es xs =>
    simp [cellsP] at hc; subst hc
    obtain ⟨x, vs, h1, h2, h3, h4⟩ := hv
    exact one ⟨x, xs.length, vs, h1, Nat.le_refl _, h2, h3, h4⟩
  | _ => simp [cellsP] at hc

/-! ### New variables -/
theorem run_newVar [Trk] (T : TypeId) (v : Value) (w : World) : (newVar T v).run P w = .ok ⟨w.heap.size, 0, none⟩ (w.alloc (.cells v.cells T)) := rfl
theorem ok_new [Trk] {n' : Nat} {T : TypeId} {cells : List AV} (hd : o.dst = some d) (hlt : d < st.n)
    (h : ∀ Γ ρ a w, Ok Γ st ρ a w → ∃ v : Value, ARels ρ w cells v.cells.toList ∧ (∀ u ∈ v.cells.toList, u.oneCell' = true) ∧ (execOp a.eval o).run P w = .ok (.value (.pointer (some ⟨w.heap.size, 0, none⟩))) (w.alloc (.cells v.cells T)))
    (hfree : AV.hasL (.loc n') cells = false) :
    OpOK P o st ⟨[(d, .ptr (.loc n') 0)], [(.loc n', some (.box T cells))]⟩ [.loc n'] := by
  generalize hnn : Name.loc n' = n at *
  have hxb : ∀ (ρ : Rho) (b : Nat) (i : Nat), (ρ.box n b).blk (.ext i) = ρ.blk (.ext i) := fun ρ b i => by subst hnn; simp [Rho.box]
  intro Γ ρ a w K Q hok hfr hk
  obtain ⟨v, h1, h2, h3⟩ := h Γ ρ a w hok
  have hfr' := hfr n (by simp)
  unfold Oper.wp
  rw [h3, Oper.upon_value, hd]
  have hg := World.grownBy_alloc w (.cells v.cells T) none
  have hok1 := hok.slot (ρ' := ρ.box n w.heap.size) (w' := w.alloc (.cells v.cells T)) n (some (.box T cells)) rfl (hxb ρ _) (fun m hm => ρ.box_same n _ hm) (.inr hfr') none hg (fun _ => Nat.le_refl _) (by simp)
    (fun s hs => by
      cases hs
      refine ⟨v.cells, ?_, ARels.keep (ρ := ρ) (ρ' := ρ.box n w.heap.size) (w' := w.alloc (.cells v.cells T)) ⟨fun b hb => hb, fun b hb => heap_alloc_old w _ b (hok.sok.flt b hb)⟩ _ _ (fun m hm => ?_) h1, h2⟩
      · have hb : (ρ.box n w.heap.size).blk n = w.heap.size := by simp [Rho.box]
        rw [hb]
        exact heap_alloc_new w _
      · refine ρ.box_same n _ (fun e => ?_)
        subst e; rw [hfree] at hm; cases hm)
    (fun s b hs hb => by
      cases hs
      simp [slotBlk, Rho.box] at hb
      exact .inl (by omega))
  have hok2 := hok1.setT (d := d) (av := .ptr n 0) (v := .pointer (some ⟨w.heap.size, 0, none⟩)) hlt (by simp [ARel, Rho.box])
  rw [AState.app_app] at hok2
  exact hk _ _ _ hok2

theorem ok_alloc [Trk] {T : TypeId} {z : Value} (ho : o.op = .alloc T) (hd : o.dst = some d) (hlt : d < st.n) (hz : zeroOf P T = some z) (hz1 : z.cells.toList.all (·.oneCell') = true) :
    OpOK P o st ⟨[(d, .ptr (.loc d) 0)], [(.loc d, some (.box T (z.cells.toList.map fun u => .pv (.v u))))]⟩ [.loc d] :=
  ok_new hd hlt (fun Γ ρ a w h => ⟨z, by
      have := (PVs_map_v (F := ρ.F) (w := w) hz1).toARels
      simpa [Function.comp_def] using this, fun u hu => List.all_eq_true.1 hz1 u hu, by
      simp [execOp, ho, Instr.alloc, run_zero hz, run_newVar]⟩) (by
    have : ∀ l : List Value, AV.hasL (.loc d) (l.map fun u => .pv (.v u)) = false := fun l => by induction l with
      | nil => rfl
      | cons a l ih => simp [AV.hasL, AV.has, ih]
    exact this _)
theorem ok_box [Trk] {T : TypeId} {x : Operand} {cells : List AV} (ho : o.op = .box T x) (hd : o.dst = some d) (hlt : d < st.n) (hc : cellsA st (ev st x) = some cells) (hf : AV.hasL (.loc d) cells = false) :
    OpOK P o st ⟨[(d, .ptr (.loc d) 0)], [(.loc d, some (.box T cells))]⟩ [.loc d] :=
  ok_new hd hlt (fun Γ ρ a w h => by
    obtain ⟨h1, h2⟩ := cellsA_rel h hc (ev_rel h x)
    exact ⟨a.eval x, h1, h2, by simp [execOp, ho, Instr.box, run_newVar]⟩) hf

/-! ### Stores -/
def spliceA (cells : List AV) (off : Nat) (vs : List AV) : Option (List AV) :=
  if off + vs.length ≤ cells.length then some (cells.take off ++ vs ++ cells.drop (off + vs.length)) else none
def spliceP (cells : List PV) (off : Nat) (vs : List PV) : Option (List PV) :=
  if off + vs.length ≤ cells.length then some (cells.take off ++ vs ++ cells.drop (off + vs.length)) else none

theorem run_storeVar [Trk] {T n g off : Nat} {t : TypeId} {v : Value} {cur : Array Value} {w : World} (hs : szOf P T = some n) (hl : v.cells.size = n) (hg : w.heap[g]? = some (.cells cur t (0, 0)))
    (hfit : off + n ≤ cur.size) (h1 : ∀ u ∈ v.cells.toList, u.oneCell' = true) :
    (storeVar T ⟨g, off, none⟩ v).run P w = .ok () (w.setRow g (cur.toList.take off ++ v.cells.toList ++ cur.toList.drop (off + n)).toArray) := by
  subst hl
  have := run_storeCells_at P g off t v.cells.toList 0 cur w hg (by simpa using hfit) h1
  simp only [Nat.add_zero, Array.length_toList] at this
  simp [storeVar, run_size hs, this]

theorem setRow_grown [Trk] (w : World) (g : Nat) (cs : Array Value) : w.grownBy (w.setRow g cs) (some g) :=
  ⟨rfl, rfl, rfl, by simp, fun k _ hk => setRow_other w g k cs (fun e => hk (by rw [e]))⟩

theorem ok_store_box [Trk] {T T' n off : Nat} {x y : Operand} {m : Name} {cells vs cells' : List AV} (ho : o.op = .store T x y) (hd : o.dst = none)
    (hs : szOf P T = some n) (hx : ev st x = .ptr m off) (hm : sget st.s m = some (.box T' cells)) (hv : cellsA st (ev st y) = some vs) (hl : vs.length = n) (hsp : spliceA cells off vs = some cells') :
    OpOK P o st ⟨[], [(m, some (.box T' cells'))]⟩ [] := by
  intro Γ ρ a w K Q hok _ hk
  have h1 := ev_rel hok x
  rw [hx] at h1
  have h1' : a.eval x = .pointer (some ⟨ρ.blk m, off, none⟩) := h1
  obtain ⟨cs, h2, h3, h4⟩ := hok.sok.slots m _ hm
  obtain ⟨h5, h6⟩ := cellsA_rel hok hv (ev_rel hok y)
  unfold spliceA at hsp
  split at hsp
  rotate_left
  · cases hsp
  rename_i hfit
  cases hsp
  have hsz : (a.eval y).cells.size = n := by rw [← Array.length_toList, h5.length, hl]
  have hcs : cs.size = cells.length := by rw [← Array.length_toList, h3.length]
  have hrun := run_storeVar (P := P) (v := a.eval y) (off := off) hs hsz h2 (by omega) h6
  unfold Oper.wp
  have he : (execOp a.eval o).run P w = .ok .skip (w.setRow (ρ.blk m) (cs.toList.take off ++ (a.eval y).cells.toList ++ cs.toList.drop (off + n)).toArray) := by
    simp only [execOp, ho, h1', Instr.storeAt, Instr.sureAddr, Sem.run_bind, Sem.run_pure, Result.andThen_ok, hrun]
  rw [he, Oper.upon_skip, hd]
  have hnF : ¬ρ.F (ρ.blk m) := hok.sok.sep m _ _ hm rfl
  have hrel := ((h3.take off).append h5).append (h3.drop (off + n))
  have hone : ∀ u ∈ cs.toList.take off ++ (a.eval y).cells.toList ++ cs.toList.drop (off + n), u.oneCell' = true := by
    intro u hu
    simp only [List.mem_append] at hu
    rcases hu with (hu | hu) | hu
    · exact h4 u (List.mem_of_mem_take hu)
    · exact h6 u hu
    · exact h4 u (List.mem_of_mem_drop hu)
  generalize cs.toList.take off ++ (a.eval y).cells.toList ++ cs.toList.drop (off + n) = new at *
  have k : Keep ρ.F w ρ.F (w.setRow (ρ.blk m) new.toArray) := ⟨fun _ h => h, fun b hb => setRow_other w _ b _ (fun e => hnF (by rw [← e]; exact hb))⟩
  have hfin := hok.slot (ρ' := ρ) (w' := w.setRow (ρ.blk m) new.toArray) m (some (.box T' (cells.take off ++ vs ++ cells.drop (off + vs.length)))) rfl (fun _ => rfl) (fun _ _ => ⟨rfl, rfl⟩) (.inl ⟨rfl, rfl⟩) (some (ρ.blk m)) (setRow_grown w _ _) (fun _ => Nat.le_refl _)
    (fun b hb => by cases hb; exact ⟨_, hm, rfl⟩)
    (fun s hs' => by
      cases hs'
      refine ⟨new.toArray, setRow_heap w _ cs _ _ _ h2, ?_, by simpa using hone⟩
      rw [hl]
      exact ARels.keep' k rfl rfl (by simpa using hrel))
    (fun s b hs' hb => by cases hs'; exact .inr (by simpa [slotBlk] using hb))
  exact hk _ _ _ hfin

theorem splice_elem [Trk] (l ys : List Value) (a es j L k : Nat) (hk : ys.length = k) (hj : j + k ≤ es) (h1 : True) (hL : a + es ≤ L ∧ L ≤ l.length) (n : Nat) (hn : k = n) (b : Nat) (hb : b = a + es) :
    (l.take (a + j) ++ ys ++ l.drop (a + j + n)).take L = (l.take L).take a ++ ((((l.take L).drop a).take es).take j ++ ys ++ (((l.take L).drop a).take es).drop (j + k)) ++ (l.take L).drop b := by
  subst hn; subst hb
  apply List.ext_getElem?
  intro q
  simp only [List.getElem?_append, List.getElem?_take, List.getElem?_drop, List.length_append, List.length_take, List.length_drop, hk]
  (repeat' split) <;> first | rfl | omega | (congr 1; omega)
theorem take_mul_set [Trk] {α : Type} (l : List α) (i es : Nat) : (l.take ((i + 1) * es)).drop (i * es) = (l.drop (i * es)).take es := by
  rw [List.drop_take, Nat.succ_mul]; congr 1; omega

theorem ok_store_own [Trk] {T n e es i j : Nat} {x y : Operand} {m : Name} {xs : List (List PV)} {c vs c' : List PV} (ho : o.op = .store T x y) (hd : o.dst = none)
    (hs : szOf P T = some n) (hx : ev st x = .eptr m es i j) (hm : sget st.s m = some (.own e es xs)) (hc : xs[i]? = some c) (hv : cellsP (ev st y) = some vs) (hl : vs.length = n) (hsp : spliceP c j vs = some c') :
    OpOK P o st ⟨[], [(m, some (.own e es (xs.set i c')))]⟩ [] := by
  intro Γ ρ a w K Q hok _ hk
  have h1 := ev_rel hok x
  rw [hx] at h1
  obtain ⟨b0, hb0, h1'⟩ := h1
  have hlt := (List.getElem?_eq_some_iff.1 hc).1
  have hslot := hok.sok.slots m _ hm
  obtain ⟨g, cap, cur, us, h2, h3, h4, h5, h6, rfl, h6'⟩ := own_form hslot (by omega)
  have hcl := h6'.get hc
  have hvs := cellsP_rel hv (ev_rel hok y)
  unfold spliceP at hsp
  split at hsp
  rotate_left
  · cases hsp
  rename_i hfit
  cases hsp
  rw [h2] at hb0; simp [Value.ownBlock] at hb0; subst hb0
  have hsz : (a.eval y).cells.size = n := by rw [← Array.length_toList, hvs.length, hl]
  have hi1 : (i + 1) * es ≤ xs.length * es := Nat.mul_le_mul_right _ hlt
  have hcap : xs.length * es ≤ cap * es := Nat.mul_le_mul_right _ h4
  have hi2 : (i + 1) * es = i * es + es := Nat.succ_mul i es
  rw [hcl.1] at hfit
  have hrun := run_storeVar (P := P) (v := a.eval y) (off := i * es + j) hs hsz h3 (by omega) hvs.one
  unfold Oper.wp
  have he : (execOp a.eval o).run P w = .ok .skip (w.setRow g (cur.toList.take (i * es + j) ++ (a.eval y).cells.toList ++ cur.toList.drop (i * es + j + n)).toArray) := by
    simp only [execOp, ho, h1', Instr.storeAt, Instr.sureAddr, Sem.run_bind, Sem.run_pure, Result.andThen_ok, hrun]
  rw [he, Oper.upon_skip, hd]
  have hc0 : cap ≠ 0 := by omega
  have hblk : slotBlk ρ m (.own e es xs) = some g := by simp [slotBlk, h2, ownBlk, hc0]
  have hnF : ¬ρ.F g := hok.sok.sep m _ _ hm hblk
  generalize hnew : (cur.toList.take (i * es + j) ++ (a.eval y).cells.toList ++ cur.toList.drop (i * es + j + n)) = new at *
  have k : Keep ρ.F w ρ.F (w.setRow g new.toArray) := ⟨fun _ h => h, fun b hb => setRow_other w _ b _ (fun e => hnF (by rw [← e]; exact hb))⟩
  have hcells : (a.eval y).cells.toList.length = n := by simpa using hsz
  have hnl : new.length = cur.size := by
    rw [← hnew]; simp only [List.length_append, List.length_take, List.length_drop, Array.length_toList]; rw [hsz]; omega
  have hfin := hok.slot (ρ' := ρ) m (some (.own e es (xs.set i (c.take j ++ vs ++ c.drop (j + vs.length))))) rfl (fun _ => rfl) (fun _ _ => ⟨rfl, rfl⟩) (.inl ⟨rfl, rfl⟩) (some g) (setRow_grown w _ _) (fun _ => Nat.le_refl _)
    (fun b hb => by cases hb; exact ⟨_, hm, hblk⟩)
    (fun s hs' => by
      cases hs'
      have hset := h6'.set hlt (x := c.take j ++ vs ++ c.drop (j + vs.length)) (((hcl.2.take j).append hvs).append (hcl.2.drop (j + vs.length)))
        (by simp only [List.length_append, List.length_take, List.length_drop]; omega)
      refine ⟨new.take (xs.length * es), .inl ⟨by rw [List.length_take, hnl, h6, List.length_set]; exact Nat.min_eq_left hcap, .inr ⟨g, cap, new.toArray, by rw [h2]; simp, by omega, setRow_heap w _ cur _ _ _ h3, by simpa using h4, h5, by simpa [h6] using hnl, by simp⟩⟩, ?_⟩
      refine PElems.keep k _ _ ?_
      have key : new.take (xs.length * es) = (cur.toList.take (xs.length * es)).take (i * es) ++ ((((cur.toList.take (xs.length * es)).drop (i * es)).take es).take j ++ (a.eval y).cells.toList ++ (((cur.toList.take (xs.length * es)).drop (i * es)).take es).drop (j + vs.length)) ++ (cur.toList.take (xs.length * es)).drop ((i + 1) * es) := by
        rw [← hnew]
        exact splice_elem cur.toList (a.eval y).cells.toList (i * es) es j (xs.length * es) vs.length (by simpa using hcells.trans hl.symm) (by omega) trivial (by simp only [Array.length_toList, h6]; omega) n hl ((i + 1) * es) hi2
      rw [key]; exact hset)
    (fun s b hs' hb => by cases hs'; exact .inr (by simpa [slotBlk, h2, ownBlk, hc0, eq_comm] using hb))
  exact hk _ _ _ hfin

end Go.Eng
set_option autoImplicit false
set_option linter.unusedVariables false
set_option linter.unusedSimpArgs false
namespace Go.Eng
open Go Go.RowKit
variable {P : Program} {o : Oper} {st : AState} {d : Nat}

/-! ### Small pure operations -/
theorem ok_not [Trk] {x : Operand} {b : Bool} {t : TypeId} (ho : o.op = .unOp .not t x) (hd : o.dst = some d) (hlt : d < st.n) (hx : ev st x = .pv (.v (.bool b))) : OpOK P o st ⟨[(d, .pv (.v (.bool (!b))))], []⟩ [] :=
  ok_value hd hlt fun Γ ρ a w h => by
    have h1 := ev_rel h x; rw [hx] at h1
    exact ⟨_, ⟨rfl, rfl⟩, by simp [execOp, ho, pv_inv h1, Op.unary]⟩
theorem ok_bin [Trk] {x y : Operand} {op : BinOp} {t t' : TypeId} {u v r : Value} (ho : o.op = .binOp op t x y t') (hd : o.dst = some d) (hlt : d < st.n) (hx : ev st x = .pv (.v u)) (hy : ev st y = .pv (.v v)) (hr : abin P op t u v = some r) :
    OpOK P o st ⟨[(d, .pv (.v r))], []⟩ [] :=
  ok_value hd hlt fun Γ ρ a w h => by
    have h1 := ev_rel h x; rw [hx] at h1
    have h2 := ev_rel h y; rw [hy] at h2
    obtain ⟨h3, h4⟩ := abin_run (x := x) (y := y) hr w
    refine ⟨r, ⟨rfl, h4⟩, ?_⟩
    simp only [execOp, ho, pv_inv h1, pv_inv h2]
    rw [Sem.run_bind, h3]; rfl
theorem ok_conv [Trk] {x : Operand} {t t' : TypeId} {k k' : IntKind} {n : Int} (ho : o.op = .convert t t' x) (hd : o.dst = some d) (hlt : d < st.n) (hx : ev st x = .pv (.v (.int k n))) (hk : intOf? P t' = some k') (hs : (intOf? P t).isSome = true) :
    OpOK P o st ⟨[(d, .pv (.v (.int k' (k'.wrap n))))], []⟩ [] :=
  ok_value hd hlt fun Γ ρ a w h => by
    have h1 := ev_rel h x; rw [hx] at h1
    refine ⟨_, ⟨rfl, rfl⟩, ?_⟩
    unfold intOf? at hk hs
    split at hk
    · rename_i kk hu
      cases hk
      split at hs
      · rename_i k2 hu2
        simp [execOp, ho, pv_inv h1, convert, run_underlying hu, run_underlying hu2, Conv.intToInt]
      · cases hs
    · cases hk
theorem ok_extract [Trk] {x : Operand} {i : Nat} {l : List AV} {av : AV} (ho : o.op = .extract x i) (hd : o.dst = some d) (hlt : d < st.n) (hx : ev st x = .tup l) (hi : l[i]? = some av) : OpOK P o st ⟨[(d, av)], []⟩ [] :=
  ok_value hd hlt fun Γ ρ a w h => by
    have h1 := ev_rel h x; rw [hx] at h1
    obtain ⟨arr, h2, h3⟩ := h1
    obtain ⟨v, h4, h5⟩ := h3.get hi
    have h4' : arr[i]? = some v := by simpa using h4
    exact ⟨v, h5, by simp [execOp, ho, h2, Instr.extract, h4']⟩
theorem ok_nilCheck [Trk] {x : Operand} {av : AV} (ho : o.op = .nilCheck x) (hd : o.dst = some d) (hlt : d < st.n) (hx : moveP 0 (ev st x) = some av) : OpOK P o st ⟨[(d, ev st x)], []⟩ [] :=
  ok_value hd hlt fun Γ ρ a w h => by
    obtain ⟨ad, h1, _⟩ := moveP_rel hx (ev_rel h x)
    exact ⟨a.eval x, ev_rel h x, by simp [execOp, ho, h1]⟩
theorem ARels_map [Trk] {Γ : Ctx} {ρ : Rho} {a : Act} {w : World} (h : Ok Γ st ρ a w) : ∀ l : List Operand, ARels ρ w (l.map (ev st)) (l.map a.eval)
  | [] => rfl
  | x :: l => ⟨_, _, rfl, ev_rel h x, ARels_map h l⟩
theorem ok_makeFunc [Trk] {f : FuncId} {fi ca : Array Operand} (ho : o.op = .makeFunc (.func f) fi ca) (hd : o.dst = some d) (hlt : d < st.n) : OpOK P o st ⟨[(d, .fn f (fi.toList.map (ev st)) (ca.toList.map (ev st)))], []⟩ [] :=
  ok_value hd hlt fun Γ ρ a w h => ⟨.func (.func f) (fi.map a.eval) (ca.map a.eval), ⟨_, _, rfl, by simpa using ARels_map h fi.toList, by simpa using ARels_map h ca.toList⟩, by simp [execOp, ho, Instr.makeFunc]⟩

/-! ### Slices that are read -/
/-- A slice's elements, its size, and (for what appends read) where they lie. -/
def srcV (es : Nat) : AV → Option (List (List PV))
  | .pv (.sl es' xs) => if es' = es then some xs else none
  | .pv (.v (.slice none 0 0)) => some []
  | .tight es' xs => if es' = es then some xs else none
  | _ => none
def srcP (st : AState) (es : Nat) (a : AV) : Option (List (List PV)) :=
  match a with
  | .own n => match sget st.s n with | some (.own _ es' xs) => if es' = es then some xs else none | _ => none
  | a => srcV es a
theorem srcP_rel [Trk] {Γ : Ctx} {ρ : Rho} {a : Act} {w : World} (h : Ok Γ st ρ a w) {es : Nat} {av : AV} {xs : List (List PV)} {v : Value} (hs : srcP st es av = some xs) (hv : ARel ρ w av v) :
    ∃ ao cap vs, v = .slice ao xs.length cap ∧ xs.length ≤ cap ∧ cap ≤ maxLen ∧ PElems ρ.F w es xs vs ∧ (vs = [] ∨ ∃ ad, ao = some ad ∧ ∀ j u, vs[j]? = some u → w.cell? (ad.add j) = some u) := by
  unfold srcP at hs
  split at hs
  · split at hs
    · rename_i n x e es' ys hn
      split at hs
      · rename_i he; subst he; cases hs
        have hsl := h.sok.slots n _ hn
        have hv' : v = ρ.ov n := hv
        obtain ⟨ao, cap, h1, h2, h3⟩ := own_shape hsl
        by_cases h0 : 0 < xs.length
        · obtain ⟨g, cap', cur, vs, k1, k2, k3, k4, k5, k6, k7⟩ := own_form hsl h0
          refine ⟨some ⟨g, 0, none⟩, cap', vs, by rw [hv', k1], k3, k4, k7, .inr ⟨_, rfl, fun j u hu => ?_⟩⟩
          rw [Addr.add_lit, cell_of_row w _ _ cur _ _ k2, ← Array.getElem?_toList]
          rw [← k6, List.getElem?_take] at hu
          split at hu
          · simpa using hu
          · cases hu
        · have hx : xs = [] := List.eq_nil_of_length_eq_zero (by omega)
          subst hx
          exact ⟨ao, cap, [], by rw [hv', h1], h2, h3, rfl, .inl rfl⟩
      · cases hs
    · cases hs
  · unfold srcV at hs
    split at hs
    · split at hs
      · rename_i he; subst he; cases hs
        obtain ⟨ao, cap, vs, h1, h2, h3, h4, h5⟩ := hv
        refine ⟨ao, cap, vs, h1, h2, h3, h4, h5.imp id ?_⟩
        rintro ⟨ad, rfl, _, h6⟩; exact ⟨ad, rfl, h6⟩
      · cases hs
    · cases hs
      have := pv_inv hv
      exact ⟨none, 0, [], this, Nat.le_refl _, by simp [maxLen], rfl, .inl rfl⟩
    · split at hs
      · rename_i he; subst he; cases hs
        obtain ⟨ao, vs, h1, h2, h4, h5⟩ := hv
        refine ⟨ao, xs.length, vs, h1, Nat.le_refl _, h2, h4, h5.imp id ?_⟩
        rintro ⟨ad, rfl, _, h6⟩; exact ⟨ad, rfl, h6⟩
      · cases hs
    · cases hs

theorem ok_len [Trk] {x : Operand} {T es e : Nat} {xs : List (List PV)} (ho : o.op = .call { callee := .builtin .len, args := #[x], argTypes := #[T] }) (hd : o.dst = some d) (hlt : d < st.n) (hT : elemS P T = some e)
    (hx : srcP st es (ev st x) = some xs) : OpOK P o st ⟨[(d, .pv (.v (.int .i64 xs.length)))], []⟩ [] :=
  ok_value hd hlt fun Γ ρ a w h => by
    obtain ⟨ao, cap, vs, h1, _⟩ := srcP_rel h hx (ev_rel h x)
    refine ⟨_, ⟨rfl, rfl⟩, ?_⟩
    simp [execOp, ho, resolve, invoke, builtin, Builtin.len_, run_underlying (und_slice hT), h1, goInt]
theorem ok_len_str [Trk] {x : Operand} {T : Nat} {s : ByteArray} (ho : o.op = .call { callee := .builtin .len, args := #[x], argTypes := #[T] }) (hd : o.dst = some d) (hlt : d < st.n) (hT : isStr P T = true)
    (hx : ev st x = .pv (.v (.string s))) : OpOK P o st ⟨[(d, .pv (.v (.int .i64 s.size)))], []⟩ [] :=
  ok_value hd hlt fun Γ ρ a w h => by
    have h1 := ev_rel h x; rw [hx] at h1
    refine ⟨_, ⟨rfl, rfl⟩, ?_⟩
    unfold isStr at hT
    split at hT
    · rename_i hu
      simp [execOp, ho, resolve, invoke, builtin, Builtin.len_, run_underlying hu, pv_inv h1, goInt]
    · cases hT
/-- A byte of a string. -/
theorem ok_index_str [Trk] {x ix : Operand} {T : Nat} {s : ByteArray} {k : IntKind} {i : Int} {b : UInt8} (ho : o.op = .index T x ix) (hd : o.dst = some d) (hlt : d < st.n) (hT : isStr P T = true)
    (hx : ev st x = .pv (.v (.string s))) (hi : ev st ix = .pv (.v (.int k i))) (h0 : 0 ≤ i) (hb : s[i.toNat]? = some b) : OpOK P o st ⟨[(d, .pv (.v (.int .u8 b.toNat)))], []⟩ [] :=
  ok_value hd hlt fun Γ ρ a w h => by
    have h1 := ev_rel h x; rw [hx] at h1
    have h2 := ev_rel h ix; rw [hi] at h2
    refine ⟨_, ⟨rfl, rfl⟩, ?_⟩
    unfold isStr at hT
    split at hT
    · rename_i hu
      simp [execOp, ho, Instr.index, asIntOf, run_underlying hu, pv_inv h1, pv_inv h2, h0, hb]
    · cases hT

def mm (mx : Bool) (x y : Int) : Int := if mx then (if x < y then y else x) else (if y < x then y else x)
theorem ok_max2 [Trk] {x y : Operand} {k k' : IntKind} {T : Array TypeId} {m n : Int} (ho : o.op = .call { callee := .builtin .max, args := #[x, y], argTypes := T }) (hd : o.dst = some d) (hlt : d < st.n)
    (hx : ev st x = .pv (.v (.int k m))) (hy : ev st y = .pv (.v (.int k' n))) : OpOK P o st ⟨[(d, .pv (.v (.int k (mm true m n))))], []⟩ [] :=
  ok_value hd hlt fun Γ ρ a w h => by
    have h1 := ev_rel h x; rw [hx] at h1
    have h2 := ev_rel h y; rw [hy] at h2
    refine ⟨_, ⟨rfl, rfl⟩, ?_⟩
    simp [execOp, ho, resolve, invoke, builtin, Builtin.max_, Builtin.max2, pv_inv h1, pv_inv h2, mm]
theorem ok_min2 [Trk] {x y : Operand} {k k' : IntKind} {T : Array TypeId} {m n : Int} (ho : o.op = .call { callee := .builtin .min, args := #[x, y], argTypes := T }) (hd : o.dst = some d) (hlt : d < st.n)
    (hx : ev st x = .pv (.v (.int k m))) (hy : ev st y = .pv (.v (.int k' n))) : OpOK P o st ⟨[(d, .pv (.v (.int k (mm false m n))))], []⟩ [] :=
  ok_value hd hlt fun Γ ρ a w h => by
    have h1 := ev_rel h x; rw [hx] at h1
    have h2 := ev_rel h y; rw [hy] at h2
    refine ⟨_, ⟨rfl, rfl⟩, ?_⟩
    simp [execOp, ho, resolve, invoke, builtin, Builtin.min_, Builtin.min2, pv_inv h1, pv_inv h2, mm]

/-! ### A piece of a slice -/
def bnd (st : AState) (dflt : Nat) : Option Operand → Option Nat
  | none => some dflt
  | some x => match ev st x with | .pv (.v (.int _ i)) => if 0 ≤ i then some i.toNat else none | _ => none
theorem run_sliceBound [Trk] {k : IntKind} {i : Int} {y : Nat} {c : BoundsCode} (h0 : 0 ≤ i) (h1 : i.toNat ≤ y) (w : World) : (Instr.sliceBound (.int k i) y c).run P w = .ok i.toNat w := by
  have h2 : i ≤ (y : Int) := by omega
  simp [Instr.sliceBound, asIntOf, h0, h2]
theorem bnd_some [Trk] {Γ : Ctx} {ρ : Rho} {a : Act} {w : World} (h : Ok Γ st ρ a w) {df l : Nat} {x : Option Operand} (hb : bnd st df x = some l) : (x = none ∧ l = df) ∨ ∃ y k i, x = some y ∧ a.eval y = .int k i ∧ 0 ≤ i ∧ l = i.toNat := by
  cases x with
  | none => simp [bnd] at hb; exact .inl ⟨rfl, hb.symm⟩
  | some y =>
    simp only [bnd] at hb
    split at hb
    · rename_i k i hy
      split at hb
      · cases hb
        have h1 := ev_rel h y; rw [hy] at h1
        exact .inr ⟨y, k, i, rfl, pv_inv h1, ‹_›, rfl⟩
      · cases hb
    · cases hb
/-- x[lo:hi] of a slice that is read, hi no more than its length. -/
theorem ok_slice2 [Trk] {x : Operand} {lo hi : Option Operand} {T e es l h' : Nat} {xs : List (List PV)} (ho : o.op = .slice T x lo hi none) (hd : o.dst = some d) (hlt : d < st.n) (hT : elemS P T = some e) (hs : szOf P e = some es)
    (hx : ev st x = .pv (.sl es xs)) (hl : bnd st 0 lo = some l) (hh : bnd st xs.length hi = some h') (h1 : l ≤ h') (h2 : h' ≤ xs.length) :
    OpOK P o st ⟨[(d, .pv (.sl es ((xs.take h').drop l)))], []⟩ [] :=
  ok_value hd hlt fun Γ ρ a w hok => by
    have k1 := ev_rel hok x; rw [hx] at k1
    obtain ⟨ao, cap, vs, k2, k3, k4, k5, k6⟩ := k1
    have hrun : (Instr.sliceBounds true xs.length cap (lo.map a.eval) (hi.map a.eval) none).run P w = .ok (l, h', cap) w := by
      rcases bnd_some hok hl with ⟨rfl, rfl⟩ | ⟨y, k, i, rfl, q1, q2, rfl⟩ <;> rcases bnd_some hok hh with ⟨rfl, rfl⟩ | ⟨y', k', i', rfl, r1, r2, rfl⟩
      · simp [Instr.sliceBounds]
      · simp [Instr.sliceBounds, r1, run_sliceBound (P := P) (k := k') (c := .sliceAcap) r2 (show i'.toNat ≤ cap by omega)]
      · simp [Instr.sliceBounds, q1, run_sliceBound (P := P) (k := k) (c := .sliceB) q2 h1]
      · simp [Instr.sliceBounds, q1, r1, run_sliceBound (P := P) (k := k') (c := .sliceAcap) r2 (show i'.toNat ≤ cap by omega), run_sliceBound (P := P) (k := k) (c := .sliceB) q2 h1]
    have hrel := (k5.split h').1.split l |>.2
    have hlen : ((xs.take h').drop l).length = h' - l := by simp; omega
    refine ⟨.slice (if cap = l then ao else ao.map (·.add (l * es))) (h' - l) (cap - l), ⟨_, cap - l, _, by rw [hlen], by rw [hlen]; omega, by omega, hrel, ?_⟩, ?_⟩
    · by_cases he : (vs.take (h' * es)).drop (l * es) = []
      · exact .inl he
      · right
        rcases k6 with rfl | ⟨ad, rfl, hF, hc⟩
        · simp at he
        · by_cases hcl : cap = l
          · exfalso
            apply he
            have := k5.length
            apply List.drop_eq_nil_of_le
            rw [List.length_take, this]
            have : h' * es ≤ l * es := Nat.mul_le_mul_right _ (by omega)
            omega
          · rw [if_neg hcl]
            refine ⟨_, rfl, by rw [add_block]; exact hF, fun j u hu => ?_⟩
            rw [add_add]
            rw [List.getElem?_drop, List.getElem?_take] at hu
            split at hu
            · exact hc _ u hu
            · cases hu
    · simp [execOp, ho, Instr.sliceAt, Instr.slice, run_underlying (und_slice hT), k2, hrun, run_size hs]
/-- x[lo:hi:mx], hi and mx alike, and no more than its length. -/
theorem ok_slice3 [Trk] {x y : Operand} {lo hi : Option Operand} {T e es l h' m' : Nat} {xs : List (List PV)} (ho : o.op = .slice T x lo hi (some y)) (hd : o.dst = some d) (hlt : d < st.n) (hT : elemS P T = some e) (hs : szOf P e = some es)
    (hx : ev st x = .pv (.sl es xs)) (hl : bnd st 0 lo = some l) (hh : bnd st xs.length hi = some h') (hm : bnd st 0 (some y) = some m') (he : h' = m') (h1 : l ≤ h') (h2 : h' ≤ xs.length) (h3 : hi.isSome = true) :
    OpOK P o st ⟨[(d, .tight es ((xs.take h').drop l))], []⟩ [] :=
  ok_value hd hlt fun Γ ρ a w hok => by
    subst he
    have k1 := ev_rel hok x; rw [hx] at k1
    obtain ⟨ao, cap, vs, k2, k3, k4, k5, k6⟩ := k1
    have hrun : (Instr.sliceBounds true xs.length cap (lo.map a.eval) (hi.map a.eval) (some (a.eval y))).run P w = .ok (l, h', h') w := by
      rcases bnd_some hok hm with ⟨hh', _⟩ | ⟨y2, k2, i2, hy2, p1, p2, rfl⟩
      · cases hh'
      cases hy2
      rcases bnd_some hok hh with ⟨rfl, _⟩ | ⟨y', k', i', rfl, r1, r2, r3⟩
      · cases h3
      rcases bnd_some hok hl with ⟨rfl, rfl⟩ | ⟨y, k, i, rfl, q1, q2, rfl⟩
      · simp [Instr.sliceBounds, p1, r1, run_sliceBound (P := P) (k := k2) (c := .slice3Acap) p2 (show i2.toNat ≤ cap by omega), run_sliceBound (P := P) (k := k') (y := i'.toNat) (c := .slice3B) r2 (Nat.le_refl _), r3]
      · simp [Instr.sliceBounds, p1, q1, r1, run_sliceBound (P := P) (k := k2) (c := .slice3Acap) p2 (show i2.toNat ≤ cap by omega), run_sliceBound (P := P) (k := k') (y := i'.toNat) (c := .slice3B) r2 (Nat.le_refl _), r3, run_sliceBound (P := P) (k := k) (c := .slice3C) (y := i'.toNat) q2 (by omega)]
    have hrel := (k5.split h').1.split l |>.2
    have hlen : ((xs.take h').drop l).length = h' - l := by simp; omega
    refine ⟨.slice (if h' = l then ao else ao.map (·.add (l * es))) (h' - l) (h' - l), ⟨_, _, by rw [hlen], by rw [hlen]; omega, hrel, ?_⟩, ?_⟩
    · by_cases he : (vs.take (h' * es)).drop (l * es) = []
      · exact .inl he
      · right
        rcases k6 with rfl | ⟨ad, rfl, hF, hc⟩
        · simp at he
        · by_cases hcl : h' = l
          · exfalso
            apply he
            apply List.drop_eq_nil_of_le
            rw [List.length_take, hcl]
            omega
          · rw [if_neg hcl]
            refine ⟨_, rfl, by rw [add_block]; exact hF, fun j u hu => ?_⟩
            rw [add_add]
            rw [List.getElem?_drop, List.getElem?_take] at hu
            split at hu
            · exact hc _ u hu
            · cases hu
    · simp [execOp, ho, Instr.sliceAt, Instr.slice, run_underlying (und_slice hT), k2, hrun, run_size hs]

end Go.Eng
set_option autoImplicit false
set_option linter.unusedVariables false
set_option linter.unusedSimpArgs false
namespace Go.Eng
open Go Go.RowKit
variable {P : Program} {o : Oper} {st : AState} {d : Nat}

/-! ### append -/
theorem append_types [Trk] {t t' e e' ty : TypeId} (ht : P.underlying t = some (.slice e)) (ht' : P.underlying t' = some (.slice e')) (s x : Value) (w : World) :
    (Builtin.append_ #[t, t'] ty #[s, x]).run P w = (Builtin.append_ #[t, t] ty #[s, x]).run P w := by
  cases s <;> first | (simp [Builtin.append_, run_underlying ht]; done) | (cases hq : P.info? e <;> simp [Builtin.append_, run_underlying ht, run_underlying ht', sizeOf, typeInfo, hq])

theorem grown_new [Trk] (w : World) (c : Array Value) (e : TypeId) (row : Option Nat) : w.grownBy (w.drew.alloc (.cells c e)) row :=
  ⟨rfl, rfl, rfl, by simp, fun k hk _ => heap_alloc_old w.drew _ k hk⟩
theorem own_new [Trk] {w : World} {e : TypeId} {size n : Nat} {z : Value} {old news : List Value} (hzs : z.cells.size = size) (hlen : (old ++ news).length = n * size) (hm : n ≤ maxLen) (need cap : Nat) (hn : n = need) :
    (w.drew.alloc (.cells (old.toArray ++ news.toArray ++ Builtin.zeroCells z.cells (grownCap w need cap e - need)) e)).ownsRow 0 e size (.slice (some ⟨w.heap.size, 0, none⟩) n (grownCap w need cap e)) n (old ++ news) := by
  subst hn
  have hge := grownCap_ge w n cap e
  refine ⟨hlen, .inr ⟨w.heap.size, _, _, rfl, Nat.zero_le _, heap_alloc_new w.drew _, hge, grownCap_le_maxLen w n cap e hm, ?_, ?_⟩⟩
  · simp only [Array.size_append, List.size_toArray, size_zeroCells, hzs]
    have : old.length + news.length = n * size := by rw [← List.length_append]; exact hlen
    rw [this, ← Nat.add_mul]; congr 1; omega
  · simp only [Array.toList_append, List.append_assoc]
    rw [← List.append_assoc, ← hlen]
    exact List.take_left

/-- Onto what lies at an address, when it doesn't fit: a new row. -/
theorem run_append_new [Trk] {t ty e : TypeId} {i : TypeInfo} {z : Value} {size bytes : Nat} (ht : P.underlying t = some (.slice e)) (hi : P.info? e = some i) (hz : i.zero = some z) (hsize : i.size = size) (hby : i.bytes = bytes) (hzs : z.cells.size = size)
    (w : World) (b : Option Addr) (n cap : Nat) (olds : List Value) (hlo : olds.length = n * size) (holds : olds = [] ∨ ∃ ad, b = some ad ∧ ∀ j v, olds[j]? = some v → w.cell? (ad.add j) = some v) (hn0 : b = none → n = 0 ∧ cap = 0)
    (a : Addr) (m c : Nat) (news : List Value) (hl : news.length = m * size) (hnews : ∀ j u, news[j]? = some u → w.cell? (a.add j) = some u) (hg : cap < n + m) (hcap : n ≤ cap) (h63 : n + m ≤ maxLen) (hbytes : (n + m) * bytes ≤ 140737488355328) :
    ∃ v' w', (Builtin.append_ #[t, t] ty #[.slice b n cap, .slice (some a) m c]).run P w = .ok v' w' ∧ w'.ownsRow 0 e size v' (n + m) (olds ++ news) ∧ (∀ row, w.grownBy w' row) ∧ (∀ b, ownBlk v' = some b → w.heap.size ≤ b) ∧ w.drawn ≤ w'.drawn := by
  subst hsize; subst hby
  have h63' : n + m ≤ 9223372036854775807 := by simp only [maxLen] at h63; omega
  have hlen : (olds ++ news).length = (n + m) * i.size := by rw [List.length_append, hlo, hl, Nat.add_mul]
  cases b with
  | none =>
    obtain ⟨rfl, rfl⟩ := hn0 rfl
    have ho : olds = [] := List.eq_nil_of_length_eq_zero (by simpa using hlo)
    subst ho
    have hr := run_append_nil (P := P) w t ty e i z ht hi hz a m c news hl hnews (by omega) (by omega) (by have hb := hbytes; simp only [Nat.zero_add] at hb; omega)
    have := own_new (w := w) (e := e) (old := []) (news := news) hzs (by simpa using hl) (by omega : m ≤ maxLen) m 0 rfl
    refine ⟨_, _, hr, by simpa using this, fun row => grown_new w _ e row, fun b hb => ?_, Nat.le_succ _⟩
    have := ownBlk_some hb; simp [Value.ownBlock] at this; omega
  | some ad =>
    have holds' : ∀ j v, olds[j]? = some v → w.cell? (ad.add j) = some v := by
      rcases holds with rfl | ⟨ad', h1, h2⟩
      · intro j v h; simp at h
      · cases h1; exact h2
    have hr := run_append_grow (P := P) w t ty e i z ht hi hz ad n cap olds hlo holds' a m c news hl hnews hg (by omega) (growslice_fits (by omega) hbytes)
    have := own_new (w := w) (e := e) (old := olds) (news := news) hzs hlen h63 (n + m) cap rfl
    refine ⟨_, _, hr, this, fun row => grown_new w _ e row, fun b hb => ?_, Nat.le_succ _⟩
    have := ownBlk_some hb; simp [Value.ownBlock] at this; omega

theorem run_append_none [Trk] {t ty e : TypeId} {size : Nat} (ht : P.underlying t = some (.slice e)) (hs : szOf P e = some size) (w : World) (b : Option Addr) (n cap : Nat) (hcap : n ≤ cap) (x : Option Addr) (c : Nat) :
    (Builtin.append_ #[t, t] ty #[.slice b n cap, .slice x 0 c]).run P w = .ok (.slice b n cap) w := by
  have h1 : (Builtin.firstCells size 0 (.slice x 0 c)).run P w = .ok #[] w := by
    cases x <;> simp [Builtin.firstCells, loadCells, loadCellsFrom]
  cases b <;> simp [Builtin.append_, run_underlying ht, run_size hs, Builtin.lenOf, hcap, h1, storeCells]

structure ElemT (P : Program) (e : TypeId) (size bytes : Nat) : Prop where
  ex : ∃ i z, P.info? e = some i ∧ i.zero = some z ∧ i.size = size ∧ i.bytes = bytes ∧ z.cells.size = size
def elemT? (P : Program) (e : TypeId) : Option (Nat × Nat) :=
  match P.info? e with
  | some i => match i.zero with
    | some z => if z.cells.size = i.size then some (i.size, i.bytes) else none
    | none => none
  | none => none
theorem elemT_of [Trk] {e size bytes : Nat} (h : elemT? P e = some (size, bytes)) : ElemT P e size bytes := by
  unfold elemT? at h
  split at h
  · rename_i i hi
    split at h
    · rename_i z hz
      split at h
      · cases h; exact ⟨i, z, hi, hz, rfl, rfl, ‹_›⟩
      · cases h
    · cases h
  · cases h

/-- Onto a slice of the call's own. -/
theorem run_append_ownV [Trk] {t ty e size bytes : Nat} (ht : P.underlying t = some (.slice e)) (he : ElemT P e size bytes) (hsz : 0 < size) {w : World} {v : Value} {n : Nat} {vs : List Value} (hv : OwnV w e size v n vs)
    {x : Option Addr} {m c : Nat} {news : List Value} (hl : news.length = m * size) (hnews : news = [] ∨ ∃ a, x = some a ∧ ∀ j u, news[j]? = some u → w.cell? (a.add j) = some u) (h1 : ∀ u ∈ news, u.oneCell' = true)
    (h63 : n + m ≤ maxLen) (hbytes : (n + m) * bytes ≤ 140737488355328) :
    ∃ v' w', (Builtin.append_ #[t, t] ty #[v, .slice x m c]).run P w = .ok v' w' ∧ OwnV w' e size v' (n + m) (vs ++ news) ∧ w.grownBy w' (ownBlk v) ∧ (∀ b, ownBlk v' = some b → w.heap.size ≤ b ∨ ownBlk v = some b) ∧ w.drawn ≤ w'.drawn := by
  obtain ⟨i, z, hi, hz, hs, hb, hzs⟩ := he
  have hszP : szOf P e = some size := by simp [szOf, hi, hs]
  by_cases hm : m = 0
  · subst hm
    have hn : news = [] := List.eq_nil_of_length_eq_zero (by simpa using hl)
    subst hn
    have hrefl : ∀ row, w.grownBy w row := fun row => ⟨rfl, rfl, rfl, Nat.le_refl _, fun _ _ _ => rfl⟩
    rcases id hv with ⟨h2, h3⟩ | ⟨h2, h3, a, h4⟩
    · rcases h3 with ⟨h3, h4⟩ | ⟨g, cap, cur, h3, _, h5, h6, _⟩
      · subst h3; subst h4
        exact ⟨_, w, run_append_none ht hszP w none 0 0 (Nat.le_refl _) x c, by simpa using hv, hrefl _, fun b hb => .inr hb, Nat.le_refl _⟩
      · subst h3
        exact ⟨_, w, run_append_none ht hszP w _ n cap h6 x c, by simpa using hv, hrefl _, fun b hb => .inr hb, Nat.le_refl _⟩
    · subst h4; subst h2
      exact ⟨_, w, run_append_none ht hszP w a 0 0 (Nat.le_refl _) x c, by simpa using hv, hrefl _, fun b hb => .inr hb, Nat.le_refl _⟩
  · have hpos : 0 < news.length := by rw [hl]; exact Nat.mul_pos (by omega) hsz
    obtain ⟨a, rfl, hcell⟩ : ∃ a, x = some a ∧ ∀ j u, news[j]? = some u → w.cell? (a.add j) = some u := by
      rcases hnews with rfl | h
      · simp at hpos
      · exact h
    rcases id hv with ⟨h2, h3⟩ | ⟨h2, h3, b, h4⟩
    · rcases h3 with ⟨h3, h4⟩ | ⟨g, cap, cur, h3, h4, h5, h6, h7, h8, h9⟩
      · subst h3; subst h4
        have hvs : vs = [] := List.eq_nil_of_length_eq_zero (by simpa using h2)
        subst hvs
        obtain ⟨v', w', k1, k2, k3, k4, k5⟩ := run_append_new (ty := ty) ht hi hz hs hb hzs w none 0 0 [] (by simp) (.inl rfl) (fun _ => ⟨rfl, rfl⟩) a m c news hl hcell (by omega) (Nat.le_refl _) h63 hbytes
        exact ⟨v', w', k1, .inl k2, k3 _, fun b hb => .inl (k4 b hb), k5⟩
      · by_cases hcap : n + m ≤ cap
        · subst h3
          have hfit : n * i.size + news.length ≤ cur.size := by rw [hl, h8, hs, ← Nat.add_mul]; exact Nat.mul_le_mul_right _ hcap
          have hr := run_append_room (P := P) w t ty e i ht hi g n cap cur h5 a m c news (by rw [hs]; exact hl) hcell h1 hcap hfit
          have hc0 : cap ≠ 0 := by omega
          refine ⟨_, _, hr, .inl ⟨by rw [List.length_append, h2, hl, Nat.add_mul], .inr ⟨g, cap, _, rfl, h4, setRow_heap w g cur _ e _ h5, hcap, h7, ?_, ?_⟩⟩, ?_, fun b hb => .inr ?_, Nat.le_refl _⟩
          · simp only [List.size_toArray, List.length_append, List.length_take, List.length_drop, Array.length_toList]
            omega
          · rw [hs, h9]
            have : (n + m) * size = (vs ++ news).length := by rw [List.length_append, h2, hl, Nat.add_mul]
            rw [this]
            exact List.take_left
          · simpa [ownBlk, hc0] using setRow_grown w g _
          · simpa [ownBlk] using hb
        · subst h3
          obtain ⟨v', w', k1, k2, k3, k4, k5⟩ := run_append_new (ty := ty) ht hi hz hs hb hzs w (some ⟨g, 0, none⟩) n cap vs h2 (.inr ⟨_, rfl, fun j u hu => by
            rw [Addr.add_lit, cell_of_row w _ _ cur _ _ h5, ← Array.getElem?_toList]
            rw [← h9, List.getElem?_take] at hu
            split at hu
            · simpa using hu
            · cases hu⟩) (by simp) a m c news hl hcell (by omega) h6 h63 hbytes
          exact ⟨v', w', k1, .inl k2, k3 _, fun b hb => .inl (k4 b hb), k5⟩
    · subst h4; subst h3; subst h2
      cases b with
      | none =>
        obtain ⟨v', w', k1, k2, k3, k4, k5⟩ := run_append_new (ty := ty) ht hi hz hs hb hzs w none 0 0 [] (by simp) (.inl rfl) (fun _ => ⟨rfl, rfl⟩) a m c news hl hcell (by omega) (Nat.le_refl _) h63 hbytes
        exact ⟨v', w', k1, .inl k2, k3 _, fun b hb => .inl (k4 b hb), k5⟩
      | some ad =>
        obtain ⟨v', w', k1, k2, k3, k4, k5⟩ := run_append_new (ty := ty) ht hi hz hs hb hzs w (some ad) 0 0 [] (by simp) (.inl rfl) (by simp) a m c news hl hcell (by omega) (Nat.le_refl _) h63 hbytes
        exact ⟨v', w', k1, .inl k2, k3 _, fun b hb => .inl (k4 b hb), k5⟩

theorem append_exec [Trk] {s x : Operand} {t t' e e' : TypeId} (ho : o.op = .call { callee := .builtin .append, args := #[s, x], argTypes := #[t, t'] }) (ht : P.underlying t = some (.slice e)) (ht' : P.underlying t' = some (.slice e'))
    {a : Act} {w w' : World} {v' : Value} (h : (Builtin.append_ #[t, t] o.type #[a.eval s, a.eval x]).run P w = .ok v' w') : (execOp a.eval o).run P w = .ok (.value v') w' := by
  unfold execOp
  simp only [ho, resolve, invoke, builtin, Sem.run_bind, Sem.run_pure, Result.andThen_ok, List.map_toArray, List.map_cons, List.map_nil, append_types ht ht', h]

def freshN (n : Name) (d : Nat) : Name := if n = .loc d then .loc (d + 10000) else .loc d
theorem freshN_ne [Trk] (n : Name) (d : Nat) : freshN n d ≠ n := by
  unfold freshN
  split
  · rename_i h; rw [h]; intro e; injection e; omega
  · rename_i h; exact fun e => h e.symm

/-- The slot of what was appended to is left, and a new one is there. -/
theorem ok_append_own [Trk] {s x : Operand} {t t' e e' size bytes : Nat} {n : Name} {xs ys : List (List PV)} (ho : o.op = .call { callee := .builtin .append, args := #[s, x], argTypes := #[t, t'] }) (hd : o.dst = some d) (hlt : d < st.n)
    (hT : elemS P t = some e) (hT' : elemS P t' = some e') (he : elemT? P e = some (size, bytes)) (hsz : 0 < size) (hs : ev st s = .own n) (hn : sget st.s n = some (.own e size xs)) (hx : srcP st size (ev st x) = some ys)
    (hb : (xs.length + ys.length) * bytes ≤ 140737488355328) (h63 : xs.length + ys.length ≤ maxLen) :
    OpOK P o st ⟨[(d, .own (freshN n d))], [(freshN n d, some (.own e size (xs ++ ys))), (n, none)]⟩ [freshN n d] := by
  intro Γ ρ a w K Q hok hfr hk
  have h1 := ev_rel hok s
  rw [hs] at h1
  have h1' : a.eval s = ρ.ov n := h1
  obtain ⟨vs, h2, h3⟩ := hok.sok.slots n _ hn
  obtain ⟨xa, c, news, k1, _, _, k4, k5⟩ := srcP_rel hok hx (ev_rel hok x)
  obtain ⟨v', w', r1, r2, r3, r4, r5⟩ := run_append_ownV (P := P) (ty := o.type) (und_slice hT) (elemT_of he) hsz h2 (x := xa) (m := ys.length) (c := c) k4.length k5 k4.one' h63 hb
  have hfree := hfr (freshN n d) (by simp)
  unfold Oper.wp
  rw [append_exec ho (und_slice hT) (und_slice hT') (by rw [h1', k1]; exact r1), Oper.upon_value, hd]
  have hrowF : ∀ b, ownBlk (ρ.ov n) = some b → ¬ρ.F b := fun b hb' => hok.sok.sep n _ b hn hb'
  have hne := freshN_ne n d
  generalize freshN n d = m at *
  have hok1 := hok.ren hne hn hfree
  have hm1 : sget (st.app ⟨[], [(m, some (.own e size xs)), (n, none)]⟩).s m = some (.own e size xs) := by simp [AState.app, sget]
  have hov : (ρ.ren n m).ov m = ρ.ov n := by simp [Rho.ren]
  have hok2 := hok1.slot (ρ' := (ρ.ren n m).slice m v') (w' := w') m (some (.own e size (xs ++ ys))) rfl (fun _ => rfl) (fun q hq => Rho.slice_same _ m v' hq)
    (.inr ⟨fun t => by have := hfree.1 t; simpa [AState.app] using this, fun q s hq => by
      simp only [AState.app, List.cons_append, List.nil_append, sget] at hq
      split at hq
      · cases hq; rfl
      · split at hq
        · cases hq
        · exact hfree.2 q s hq⟩)
    (ownBlk (ρ.ov n)) r3 (fun _ => r5) (fun b hb' => ⟨_, hm1, by simpa [slotBlk, hov] using hb'⟩)
    (fun s hs => by
      cases hs
      refine ⟨vs ++ news, by simpa [Rho.slice] using r2, ?_⟩
      have k : Keep ρ.F w ρ.F w' := ⟨fun _ h => h, fun b hb' => r3.block b (hok.sok.flt b hb') (fun e => hrowF b e.symm hb')⟩
      exact (PElems.keep k _ _ h3).append (PElems.keep k _ _ k4))
    (fun s b hs hb' => by
      cases hs
      simp [slotBlk, Rho.slice] at hb'
      exact (r4 b hb').imp id id)
  have hok3 := hok2.setT (d := d) (av := .own m) (v := v') hlt (by simp [ARel, Rho.slice])
  refine hk _ _ _ (hok3.ext rfl (fun t => rfl) fun q => ?_)
  simp only [AState.app, List.cons_append, List.nil_append, sget]
  by_cases hq : q = m <;> simp [hq]

/-- Onto nil, or onto what lies in read memory and has no room. -/
theorem ok_append_new [Trk] {s x : Operand} {t t' e e' size bytes : Nat} {xs ys : List (List PV)} (ho : o.op = .call { callee := .builtin .append, args := #[s, x], argTypes := #[t, t'] }) (hd : o.dst = some d) (hlt : d < st.n)
    (hT : elemS P t = some e) (hT' : elemS P t' = some e') (he : elemT? P e = some (size, bytes)) (hsz : 0 < size) (hs : ev st s = .tight size xs ∨ (ev st s = .pv (.v (.slice none 0 0)) ∧ xs = [])) (hx : srcP st size (ev st x) = some ys)
    (hne : xs = [] ∨ 0 < ys.length) (hb : (xs.length + ys.length) * bytes ≤ 140737488355328) (h63 : xs.length + ys.length ≤ maxLen) :
    OpOK P o st ⟨[(d, .own (.loc d))], [(.loc d, some (.own e size (xs ++ ys)))]⟩ [.loc d] := by
  intro Γ ρ a w K Q hok hfr hk
  obtain ⟨sa, vs, h1, h2, h3⟩ : ∃ sa vs, a.eval s = .slice sa xs.length xs.length ∧ PElems ρ.F w size xs vs ∧ (vs = [] ∨ ∃ ad, sa = some ad ∧ ∀ j u, vs[j]? = some u → w.cell? (ad.add j) = some u) := by
    have := ev_rel hok s
    rcases hs with hs | ⟨hs, rfl⟩
    · rw [hs] at this
      obtain ⟨sa, vs, h1, _, h2, h3⟩ := this
      refine ⟨sa, vs, h1, h2, h3.imp id ?_⟩
      rintro ⟨ad, h4, _, h5⟩; exact ⟨ad, h4, h5⟩
    · rw [hs] at this
      exact ⟨none, [], pv_inv this, rfl, .inl rfl⟩
  obtain ⟨xa, c, news, k1, _, _, k4, k5⟩ := srcP_rel hok hx (ev_rel hok x)
  have hfree := hfr (.loc d) (by simp)
  obtain ⟨v', w', r1, r2, r3, r4, r5⟩ : ∃ v' w', (Builtin.append_ #[t, t] o.type #[.slice sa xs.length xs.length, .slice xa ys.length c]).run P w = .ok v' w' ∧ OwnV w' e size v' (xs.length + ys.length) (vs ++ news) ∧ (∀ row, w.grownBy w' row) ∧ (∀ b, ownBlk v' = some b → w.heap.size ≤ b) ∧ w.drawn ≤ w'.drawn := by
    by_cases hm : ys.length = 0
    · have hx0 : xs = [] := hne.resolve_right (by omega)
      subst hx0
      simp only [PElems] at h2; subst h2
      have hnews : news = [] := List.eq_nil_of_length_eq_zero (by rw [k4.length, hm]; simp)
      subst hnews
      obtain ⟨i, z, hi, hz, hs', hb', hzs⟩ := elemT_of he
      rw [hm]
      refine ⟨_, w, run_append_none (und_slice hT) (by simp [szOf, hi, hs'] : szOf P e = some size) w sa 0 0 (Nat.le_refl _) xa c, .inr ⟨rfl, rfl, sa, rfl⟩, fun row => ⟨rfl, rfl, rfl, Nat.le_refl _, fun _ _ _ => rfl⟩, fun b hb' => ?_, Nat.le_refl _⟩
      cases sa <;> simp [ownBlk] at hb'
    · have hpos : 0 < news.length := by rw [k4.length]; exact Nat.mul_pos (by omega) hsz
      obtain ⟨ad, rfl, hcell⟩ : ∃ a, xa = some a ∧ ∀ j u, news[j]? = some u → w.cell? (a.add j) = some u := by
        rcases k5 with rfl | h
        · simp at hpos
        · exact h
      obtain ⟨i, z, hi, hz, hs', hb', hzs⟩ := elemT_of he
      by_cases hx0 : xs = []
      · subst hx0
        simp only [PElems] at h2; subst h2
        obtain ⟨v', w', q1, q2, q3, q4, q5⟩ := run_append_new (ty := o.type) (und_slice hT) hi hz hs' hb' hzs w sa 0 0 [] (by simp) (.inl rfl) (fun _ => ⟨rfl, rfl⟩) ad ys.length c news k4.length hcell (by omega) (Nat.le_refl _) (by simpa using h63) (by simpa using hb)
        exact ⟨v', w', by simpa using q1, .inl (by simpa using q2), q3, q4, q5⟩
      · have hsa : sa ≠ none := by
          intro e; subst e
          have := h2.length
          rcases h3 with rfl | ⟨_, h, _⟩
          · have : 0 < xs.length * size := Nat.mul_pos (List.length_pos_iff.2 hx0) hsz
            simp at *; omega
          · cases h
        obtain ⟨v', w', q1, q2, q3, q4, q5⟩ := run_append_new (ty := o.type) (und_slice hT) hi hz hs' hb' hzs w sa xs.length xs.length vs h2.length h3 (fun e => absurd e hsa) ad ys.length c news k4.length hcell (by omega) (Nat.le_refl _) h63 hb
        exact ⟨v', w', q1, .inl q2, q3, q4, q5⟩
  unfold Oper.wp
  rw [append_exec ho (und_slice hT) (und_slice hT') (by rw [h1, k1]; exact r1), Oper.upon_value, hd]
  have hok1 := hok.slot (ρ' := ρ.slice (.loc d) v') (w' := w') (.loc d) (some (.own e size (xs ++ ys))) rfl (fun _ => rfl) (fun q hq => Rho.slice_same _ _ v' hq) (.inr hfree) none (r3 none) (fun _ => r5) (by simp)
    (fun s hs => by
      cases hs
      have k : Keep ρ.F w ρ.F w' := ⟨fun _ h => h, fun b hb' => (r3 none).block b (hok.sok.flt b hb') (by simp)⟩
      exact ⟨vs ++ news, by simpa [Rho.slice] using r2, (PElems.keep k _ _ h2).append (PElems.keep k _ _ k4)⟩)
    (fun s b hs hb' => by
      cases hs
      simp [slotBlk, Rho.slice] at hb'
      exact .inl (r4 b hb'))
  have hok2 := hok1.setT (d := d) (av := .own (.loc d)) (v := v') hlt (by simp [ARel, Rho.slice])
  exact hk _ _ _ hok2

end Go.Eng
set_option autoImplicit false
set_option linter.unusedVariables false
set_option linter.unusedSimpArgs false
namespace Go.Eng
open Go Go.RowKit
variable {P : Program} {o : Oper} {st : AState} {d : Nat}

/-! ### Filling cells -/
def fillP (place : Nat → Option (Nat × Nat)) (cells : List PV) : List (Nat × List PV) → Option (List PV)
  | [] => some cells
  | (i, ps) :: rest => match place i with
    | none => none
    | some (off, size) => if ps.length = size then (match spliceP cells off ps with | some c => fillP place c rest | none => none) else none

theorem foldl_set [Trk] (off : Nat) : ∀ (l : List Value) (k : Nat) (cells : Array Value), off + k + l.length ≤ cells.size →
    ((l.zipIdx k).foldl (fun (cs : Array Value) (p : Value × Nat) => cs.setIfInBounds (off + p.2) p.1) cells).toList = cells.toList.take (off + k) ++ l ++ cells.toList.drop (off + k + l.length)
  | [], k, cells, h => by simp
  | v :: l, k, cells, h => by
    simp only [List.length_cons] at h
    have ih := foldl_set off l (k + 1) (cells.setIfInBounds (off + k) v) (by simp; omega)
    simp only [List.zipIdx_cons, List.foldl_cons]
    rw [ih]
    have e := list_seg_step cells.toList (off + k) v l (by simp; omega)
    simpa [Array.toList_setIfInBounds, Nat.add_assoc] using e

inductive Parts (F : Nat → Prop) (w : World) : List (Nat × List PV) → List (Nat × Value) → Prop
  | nil : Parts F w [] []
  | cons {i : Nat} {ps : List PV} {v : Value} {l : List (Nat × List PV)} {r : List (Nat × Value)} : PVs F w ps v.cells.toList → Parts F w l r → Parts F w ((i, ps) :: l) ((i, v) :: r)

theorem fill_rel [Trk] {F : Nat → Prop} {w : World} {place place' : Nat → Option (Nat × Nat)} (hp : ∀ i q, place i = some q → place' i = some q) : ∀ {l : List (Nat × List PV)} {r : List (Nat × Value)} {cells cells' : List PV} {arr : Array Value},
    Parts F w l r → fillP place cells l = some cells' → PVs F w cells arr.toList → ∃ arr', Instr.fill place' arr r = some arr' ∧ PVs F w cells' arr'.toList := by
  intro l r cells cells' arr hpt
  induction hpt generalizing cells arr with
  | nil => intro h hc; simp [fillP] at h; subst h; exact ⟨arr, rfl, hc⟩
  | @cons i ps v l r h1 h2 ih =>
    intro h hc
    simp only [fillP] at h
    split at h
    · cases h
    · rename_i off size hpl
      split at h
      · rename_i hl
        split at h
        · rename_i c hsp
          unfold spliceP at hsp
          split at hsp
          · rename_i hfit
            cases hsp
            have hsz : v.cells.size = ps.length := by rw [← Array.length_toList, h1.length]
            have hlen : arr.size = cells.length := by rw [← Array.length_toList, hc.length]
            have hfold := foldl_set off v.cells.toList 0 arr (by simp [hsz]; omega)
            obtain ⟨arr', k1, k2⟩ := ih (arr := v.cells.zipIdx.foldl (fun cs (c, j) => cs.setIfInBounds (off + j) c) arr) h (by
              have : (v.cells.zipIdx.foldl (fun cs (c, j) => cs.setIfInBounds (off + j) c) arr).toList = arr.toList.take off ++ v.cells.toList ++ arr.toList.drop (off + ps.length) := by
                rw [← Array.foldl_toList, Array.toList_zipIdx]
                simpa [hsz] using hfold
              rw [this]
              exact ((hc.take off).append h1).append (hc.drop (off + ps.length)))
            refine ⟨arr', ?_, k2⟩
            simp only [Instr.fill, hp _ _ hpl]
            rw [if_neg]
            · exact k1
            · simp [hsz, hl]; omega
          · cases hsp
        · cases h
      · cases h

def partsP (st : AState) : List (Nat × Operand) → Option (List (Nat × List PV))
  | [] => some []
  | (i, x) :: l => match cellsP (ev st x), partsP st l with
    | some ps, some r => some ((i, ps) :: r)
    | _, _ => none
theorem parts_rel [Trk] {Γ : Ctx} {ρ : Rho} {a : Act} {w : World} (h : Ok Γ st ρ a w) : ∀ {l : List (Nat × Operand)} {r : List (Nat × List PV)}, partsP st l = some r → Parts ρ.F w r (l.map fun p => (p.1, a.eval p.2))
  | [], r, hr => by simp [partsP] at hr; subst hr; exact .nil
  | (i, x) :: l, r, hr => by
    simp only [partsP] at hr
    split at hr
    · rename_i ps r' h1 h2
      cases hr
      exact .cons (cellsP_rel h1 (ev_rel h x)) (parts_rel h h2)
    · cases hr

/-- A struct's fields' places. -/
def placesL (P : Program) : List Field → Option (List (Nat × Nat))
  | [] => some []
  | f :: l => match szOf P f.type, placesL P l with
    | some n, some r => some ((f.offset, n) :: r)
    | _, _ => none
def placesOf (P : Program) (t : TypeId) : Option (List (Nat × Nat)) := match P.underlying t with
  | some (.struct fs) => placesL P fs.toList
  | _ => none
theorem run_places [Trk] (w : World) : ∀ {l : List Field} {r : List (Nat × Nat)}, placesL P l = some r →
    (l.mapM (m := Sem) fun f => do pure (f.offset, ← sizeOf f.type)).run P w = .ok r w
  | [], r, h => by simp [placesL] at h; subst h; simp
  | f :: l, r, h => by
    simp only [placesL] at h
    split at h
    · rename_i n r' h1 h2
      cases h
      have ih := run_places w h2
      simp only [List.mapM_cons, Sem.run_bind, run_size h1, Result.andThen_ok, Sem.run_pure, ih]
    · cases h
theorem zero_cells [Trk] {F : Nat → Prop} {w : World} {z : Value} (h : z.cells.toList.all (·.oneCell') = true) : PVs F w (z.cells.toList.map .v) z.cells.toList := PVs_map_v h

theorem ok_build_struct [Trk] {T : TypeId} {parts : Array (Nat × Operand)} {z : Value} {pl : List (Nat × Nat)} {ps : List (Nat × List PV)} {cells : List PV} (ho : o.op = .build T parts) (hd : o.dst = some d) (hlt : d < st.n)
    (hz : zeroOf P T = some z) (hz1 : z.cells.toList.all (·.oneCell') = true) (hpl : placesOf P T = some pl) (hps : partsP st parts.toList = some ps) (hf : fillP (fun i => pl[i]?) (z.cells.toList.map .v) ps = some cells) :
    OpOK P o st ⟨[(d, .agg cells)], []⟩ [] :=
  ok_value hd hlt fun Γ ρ a w h => by
    obtain ⟨arr, h1, h2⟩ := fill_rel (w := w) (F := ρ.F) (place' := fun i => pl.toArray[i]?) (fun i q hq => by simpa using hq) (parts_rel h hps) hf (zero_cells hz1)
    refine ⟨.agg arr, ⟨arr, rfl, h2⟩, ?_⟩
    unfold placesOf at hpl
    split at hpl
    · rename_i fs hu
      have hr := run_places (P := P) w hpl
      have hm : (fs.mapM (m := Sem) fun f => do pure (f.offset, ← sizeOf f.type)).run P w = .ok pl.toArray w := by
        rw [Array.mapM_eq_mapM_toList, Sem.run_map, hr]; rfl
      have hparts : (parts.map fun (i, x) => (i, a.eval x)).toList = parts.toList.map fun p => (p.1, a.eval p.2) := by simp
      simp only [execOp, ho, Instr.build, Sem.run_bind, run_zero hz, Result.andThen_ok, run_underlying hu, hm, hparts, h1, Sem.run_pure]
    · cases hpl
theorem ok_build_arr [Trk] {T e n sz : Nat} {parts : Array (Nat × Operand)} {z : Value} {ps : List (Nat × List PV)} {cells : List PV} (ho : o.op = .build T parts) (hd : o.dst = some d) (hlt : d < st.n)
    (hz : zeroOf P T = some z) (hz1 : z.cells.toList.all (·.oneCell') = true) (hT : arrOf P T = some (n, e)) (hs : szOf P e = some sz) (hps : partsP st parts.toList = some ps) (hf : fillP (fun i => some (i * sz, sz)) (z.cells.toList.map .v) ps = some cells) :
    OpOK P o st ⟨[(d, .agg cells)], []⟩ [] :=
  ok_value hd hlt fun Γ ρ a w h => by
    obtain ⟨arr, h1, h2⟩ := fill_rel (w := w) (F := ρ.F) (place' := fun i => some (i * sz, sz)) (fun i q hq => hq) (parts_rel h hps) hf (zero_cells hz1)
    refine ⟨.agg arr, ⟨arr, rfl, h2⟩, ?_⟩
    have hparts : (parts.map fun (i, x) => (i, a.eval x)).toList = parts.toList.map fun p => (p.1, a.eval p.2) := by simp
    simp only [execOp, ho, Instr.build, Sem.run_bind, run_zero hz, Result.andThen_ok, run_underlying (und_arr hT), run_size hs, hparts, h1, Sem.run_pure]

/-! ### New slices -/
theorem range_cells [Trk] (z : Array Value) (n : Nat) : ((Array.range (n * z.size)).map (z[· % z.size]!)).toList = (List.replicate n z.toList).flatten := by
  induction n with
  | zero => simp
  | succ n ih =>
    rw [List.replicate_succ', List.flatten_append]
    have h1 : (Array.range ((n + 1) * z.size)).toList = (Array.range (n * z.size)).toList ++ (List.range z.size).map (n * z.size + ·) := by
      rw [Nat.succ_mul]; simp [List.range_add]
    rw [Array.toList_map, h1, List.map_append, ← Array.toList_map, ih]
    congr 1
    simp only [List.map_map, List.flatten_cons, List.flatten_nil, List.append_nil]
    apply List.ext_getElem
    · simp
    · intro j hj1 hj2
      simp only [List.length_map, List.length_range] at hj1
      have : (n * z.size + j) % z.size = j := by rw [Nat.mul_comm, Nat.mul_add_mod]; exact Nat.mod_eq_of_lt hj1
      simp [this, hj1]
theorem PElems.replicate [Trk] {F : Nat → Prop} {w : World} {ps : List PV} {vs : List Value} (h : PVs F w ps vs) : ∀ n : Nat, PElems F w vs.length (List.replicate n ps) (List.replicate n vs).flatten
  | 0 => rfl
  | n + 1 => by
    rw [List.replicate_succ, List.replicate_succ, List.flatten_cons]
    exact ⟨vs, _, rfl, rfl, h, PElems.replicate h n⟩

theorem ok_newSlice [Trk] {e es n : Nat} {xs : List (List PV)} (hd : o.dst = some d) (hlt : d < st.n) (hm : n ≤ maxLen)
    (h : ∀ Γ ρ a w, Ok Γ st ρ a w → ∃ cur : Array Value, cur.size = n * es ∧ PElems ρ.F w es xs cur.toList ∧ (execOp a.eval o).run P w = .ok (.value (.slice (some ⟨w.heap.size, 0, none⟩) n n)) (w.alloc (.cells cur e))) (hx : xs.length = n) :
    OpOK P o st ⟨[(d, .own (.loc d))], [(.loc d, some (.own e es xs))]⟩ [.loc d] := by
  intro Γ ρ a w K Q hok hfr hk
  obtain ⟨cur, h1, h2, h3⟩ := h Γ ρ a w hok
  have hfree := hfr (.loc d) (by simp)
  unfold Oper.wp
  rw [h3, Oper.upon_value, hd]
  have hg := World.grownBy_alloc w (.cells cur e) none
  have hok1 := hok.slot (ρ' := ρ.slice (.loc d) (.slice (some ⟨w.heap.size, 0, none⟩) n n)) (w' := w.alloc (.cells cur e)) (.loc d) (some (.own e es xs)) rfl (fun _ => rfl) (fun q hq => Rho.slice_same _ _ _ hq) (.inr hfree) none hg (fun _ => Nat.le_refl _) (by simp)
    (fun s hs => by
      cases hs
      have k : Keep ρ.F w ρ.F (w.alloc (.cells cur e)) := ⟨fun _ h => h, fun b hb => heap_alloc_old w _ b (hok.sok.flt b hb)⟩
      refine ⟨cur.toList, .inl ⟨by simp [h1, hx], .inr ⟨w.heap.size, n, cur, by simp [Rho.slice, hx], by omega, heap_alloc_new w _, by omega, hm, h1, ?_⟩⟩, PElems.keep k _ _ h2⟩
      rw [hx, ← h1]; exact List.take_of_length_le (by simp))
    (fun s b hs hb => by
      cases hs
      have := ownBlk_some (show ownBlk _ = some b from hb)
      simp [Rho.slice, Value.ownBlock] at this
      exact .inl (by omega))
  have hok2 := hok1.setT (d := d) (av := .own (.loc d)) (v := .slice (some ⟨w.heap.size, 0, none⟩) n n) hlt (by simp [ARel, Rho.slice])
  exact hk _ _ _ hok2

theorem ok_make [Trk] {T e size bytes : Nat} {x y : Operand} {z : Value} {k k' : IntKind} {i : Int} (ho : o.op = .makeSlice T x y) (hd : o.dst = some d) (hlt : d < st.n) (hT : elemS P T = some e) (he : elemT? P e = some (size, bytes))
    (hz : zeroOf P e = some z) (hz1 : z.cells.toList.all (·.oneCell') = true) (hsz : 0 < size) (hx : ev st x = .pv (.v (.int k i))) (hy : ev st y = .pv (.v (.int k' i))) (h0 : 0 ≤ i) (hb : bytes * i.toNat ≤ 281474976710656) (h63 : i.toNat ≤ maxLen) :
    OpOK P o st ⟨[(d, .own (.loc d))], [(.loc d, some (.own e size (List.replicate i.toNat (z.cells.toList.map .v))))]⟩ [.loc d] :=
  ok_newSlice (n := i.toNat) hd hlt h63 (fun Γ ρ a w h => by
    obtain ⟨inf, z', hi, hz', hs', hb', hzs⟩ := elemT_of he
    have hzz : z' = z := by have : zeroOf P e = some z' := by simp [zeroOf, hi, hz']
                            rw [hz] at this; cases this; rfl
    subst hzz
    have h1 := ev_rel h x; rw [hx] at h1
    have h2 := ev_rel h y; rw [hy] at h2
    have h63' : i ≤ 9223372036854775807 := by simp only [maxLen] at h63; omega
    have hbb : (inf.bytes : Int) * i ≤ 281474976710656 := by
      rw [hb']
      have h3 : ((bytes * i.toNat : Nat) : Int) ≤ 281474976710656 := by omega
      rwa [Int.natCast_mul, Int.toNat_of_nonneg h0] at h3
    have hr := run_make (P := P) w T e inf z' (und_slice hT) hi hz' k k' i i h0 (Int.le_refl _) hbb h63'
    refine ⟨madeCells z'.cells (i.toNat * inf.size), by rw [size_madeCells, hs'], ?_, ?_⟩
    · have : (madeCells z'.cells (i.toNat * inf.size)).toList = (List.replicate i.toNat z'.cells.toList).flatten := by
        unfold madeCells; rw [hs', ← hzs]; exact range_cells _ _
      rw [this]
      have hp := PElems.replicate (zero_cells (F := ρ.F) (w := w) hz1) i.toNat
      rwa [Array.length_toList, hzs] at hp
    · simp only [execOp, ho, pv_inv h1, pv_inv h2, Sem.run_bind, hr, Result.andThen_ok, Sem.run_pure]) (by simp)

theorem fillP_len [Trk] {place : Nat → Option (Nat × Nat)} : ∀ {l : List (Nat × List PV)} {cells cells' : List PV}, fillP place cells l = some cells' → cells'.length = cells.length
  | [], cells, cells', h => by simp [fillP] at h; rw [h]
  | (i, ps) :: l, cells, cells', h => by
    simp only [fillP] at h
    split at h
    · cases h
    · split at h
      · split at h
        · rename_i c hsp
          have := fillP_len h
          unfold spliceP at hsp
          split at hsp
          · cases hsp
            rw [this]; simp; omega
          · cases hsp
        · cases h
      · cases h
def chunk (es : Nat) : Nat → List PV → List (List PV)
  | 0, _ => []
  | n + 1, l => l.take es :: chunk es n (l.drop es)
theorem chunk_rel [Trk] {F : Nat → Prop} {w : World} {es : Nat} : ∀ {n : Nat} {l : List PV} {vs : List Value}, PVs F w l vs → l.length = n * es → PElems F w es (chunk es n l) vs
  | 0, l, vs, h, hl => by
    have := h.length
    simp [hl] at this
    simp [chunk, PElems, this]
  | n + 1, l, vs, h, hl => by
    have hlen := h.length
    rw [Nat.succ_mul] at hl
    exact ⟨vs.take es, vs.drop es, by simp, by rw [List.length_take]; omega, h.take es, chunk_rel (h.drop es) (by rw [List.length_drop]; omega)⟩
theorem chunk_length [Trk] {es : Nat} : ∀ {n : Nat} {l : List PV}, (chunk es n l).length = n
  | 0, _ => rfl
  | n + 1, l => by simp [chunk, chunk_length]

theorem replicate_pvs [Trk] {F : Nat → Prop} {w : World} {ps : List PV} {vs : List Value} (h : PVs F w ps vs) : ∀ n : Nat, PVs F w (List.replicate n ps).flatten (List.replicate n vs).flatten
  | 0 => rfl
  | n + 1 => by rw [List.replicate_succ, List.replicate_succ, List.flatten_cons, List.flatten_cons]; exact h.append (replicate_pvs h n)
theorem ok_buildSlice [Trk] {T e size bytes n : Nat} {parts : Array (Nat × Operand)} {z : Value} {ps : List (Nat × List PV)} {cells : List PV} (ho : o.op = .buildSlice T n parts) (hd : o.dst = some d) (hlt : d < st.n) (hT : elemS P T = some e) (he : elemT? P e = some (size, bytes))
    (hz : zeroOf P e = some z) (hz1 : z.cells.toList.all (·.oneCell') = true) (hsz : 0 < size) (hsmall : n * size ≤ 2 ^ 24) (hps : partsP st parts.toList = some ps)
    (hf : fillP (fun i => some (i * size, size)) (List.replicate n (z.cells.toList.map PV.v)).flatten ps = some cells) :
    OpOK P o st ⟨[(d, .own (.loc d))], [(.loc d, some (.own e size (chunk size n cells)))]⟩ [.loc d] := by
  have hn : n ≤ maxLen := by
    have := Nat.le_mul_of_pos_right n hsz
    simp only [maxLen]; omega
  refine ok_newSlice (n := n) hd hlt hn (fun Γ ρ a w h => ?_) chunk_length
  obtain ⟨inf, z', hi, hz', hs', hb', hzs⟩ := elemT_of he
  have hzz : z' = z := by have : zeroOf P e = some z' := by simp [zeroOf, hi, hz']
                          rw [hz] at this; cases this; rfl
  subst hzz
  have hszP : szOf P e = some size := by simp [szOf, hi, hs']
  have hflat : PVs ρ.F w (List.replicate n (z'.cells.toList.map PV.v)).flatten ((Array.range (n * size)).map (z'.cells[· % z'.cells.size]!)).toList := by
    rw [← hzs, range_cells]
    exact replicate_pvs (zero_cells (F := ρ.F) (w := w) hz1) n
  obtain ⟨arr, h1, h2⟩ := fill_rel (w := w) (F := ρ.F) (place' := fun i => some (i * size, size)) (fun i q hq => hq) (parts_rel h hps) hf hflat
  have hcl : cells.length = n * size := by
    rw [fillP_len hf, ← hflat.length]; simp
  refine ⟨arr, by rw [← Array.length_toList, h2.length, hcl], chunk_rel h2 hcl, ?_⟩
  have hparts : (parts.map fun (i, x) => (i, a.eval x)).toList = parts.toList.map fun p => (p.1, a.eval p.2) := by simp
  have hs24 : ¬ n * size > 2 ^ 24 := by omega
  by_cases h0 : n * size = 0
  · have hn0 : n = 0 := by
      rcases Nat.eq_zero_or_pos n with h | h
      · exact h
      · have := Nat.mul_pos h hsz; omega
    subst hn0
    have hs24' : ¬ ((0 : Nat) > 2 ^ 24) := by omega
    have h1' : Instr.fill (fun i => some (i * size, size)) #[] (parts.toList.map fun p => (p.1, a.eval p.2)) = some arr := by
      rw [← h1, Nat.zero_mul, Array.range_zero', Array.map_empty]
    simp only [execOp, ho, Instr.buildSlice, Sem.run_bind, run_underlying (und_slice hT), Result.andThen_ok, run_size hszP, Nat.zero_mul, hs24', if_false, if_true, Sem.run_pure, hparts, Array.range_zero', Array.map_empty]
    rw [h1']
    rfl
  · simp only [execOp, ho, Instr.buildSlice, Sem.run_bind, run_underlying (und_slice hT), Result.andThen_ok, run_size hszP, hs24, if_false, h0, run_zero hz, Sem.run_pure, hparts, h1, newRow, run_newObj]
    rfl
end Go.Eng
