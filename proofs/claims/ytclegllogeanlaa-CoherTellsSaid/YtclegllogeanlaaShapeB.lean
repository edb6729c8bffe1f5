import Derived.Test.YtclegllogeanlaaRelD
import Derived.Test.YtclegllogeanlaaEngC
set_option linter.unusedSimpArgs false
set_option linter.unusedVariables false
set_option linter.constructorNameAsVariable false
set_option autoImplicit false
namespace Go.Eng
open Go Go.RowKit Go.Proofs
theorem list_inv {α : Type} {R : List PV → Prop} {f : α → List PV} {W : α → Prop} (h : ∀ p, R p → ∃ a, p = f a ∧ W a) : ∀ {xs : List (List PV)}, (∀ x ∈ xs, R x) → ∃ l : List α, xs = l.map f ∧ ∀ a ∈ l, W a
  | [], _ => ⟨[], rfl, by simp⟩
  | x :: xs, hx => by
    obtain ⟨a, rfl, ha⟩ := h x (hx x (by simp))
    obtain ⟨l, rfl, hl⟩ := list_inv h (xs := xs) (fun y hy => hx y (by simp [hy]))
    exact ⟨a :: l, rfl, by simp; exact ⟨ha, hl⟩⟩
/-- A shape, not to be looked into by accident. -/
structure Sh (P : Program) (m : Nat) (t : TypeId) (p : List PV) : Prop where
  s : Shape P m t p
theorem sh_sl {P : Program} {m : Nat} {t e : TypeId} {p : List PV} (ht : P.underlying t = some (.slice e)) (h : Sh P (m + 1) t p) : ∃ xs, p = [.sl (P.cellsOf e) xs] ∧ xs.length ≤ maxLen ∧ ∀ x ∈ xs, Sh P m e x := by
  obtain ⟨h⟩ := h
  simp only [Shape, ht] at h
  obtain ⟨xs, h1, h2, h3⟩ := h
  exact ⟨xs, h1, h2, fun x hx => ⟨h3 x hx⟩⟩
theorem shapeF_mono {P : Program} {R S : TypeId → List PV → Prop} (h : ∀ t p, R t p → S t p) : ∀ {fs : List Field} {ps : List PV}, shapeF P R fs ps → shapeF P S fs ps
  | [], _, hp => hp
  | f :: fs, ps, ⟨q, r, e, h1, h2⟩ => ⟨q, r, e, h _ _ h1, shapeF_mono h h2⟩
theorem sh_st {P : Program} {m : Nat} {t : TypeId} {fs : Array Field} {p : List PV} (ht : P.underlying t = some (.struct fs)) (h : Sh P (m + 1) t p) : shapeF P (Sh P m) fs.toList p := by
  obtain ⟨h⟩ := h
  simp only [Shape, ht] at h
  exact shapeF_mono (fun t p h => ⟨h⟩) h
theorem sh_in {P : Program} {m : Nat} {t : TypeId} {k : IntKind} {p : List PV} (ht : P.underlying t = some (.int k)) (h : Sh P (m + 1) t p) : ∃ n, p = [C k n] ∧ (Lit.int k n).wf = true := by
  obtain ⟨h⟩ := h
  simp only [Shape, ht] at h; exact h
theorem sh_bool {P : Program} {m : Nat} {t : TypeId} {p : List PV} (ht : P.underlying t = some .bool) (h : Sh P (m + 1) t p) : ∃ b, p = [.v (.bool b)] := by
  obtain ⟨h⟩ := h
  simp only [Shape, ht] at h; exact h
theorem sa_agg {P : Program} {m : Nat} {t : TypeId} {a : AV} (hg : aggOf P t = some true) (h : ShapeA P m t a) : ∃ ps, a = .agg ps ∧ Sh P m t ps := by
  rcases h with ⟨_, ps, e, h⟩ | ⟨h, _⟩
  · exact ⟨ps, e, ⟨h⟩⟩
  · rw [hg] at h; cases h
theorem sa_one {P : Program} {m : Nat} {t : TypeId} {a : AV} (hg : aggOf P t = some false) (h : ShapeA P m t a) : ∃ p, a = .pv p ∧ Sh P m t [p] := by
  rcases h with ⟨h, _⟩ | ⟨_, p, e, h⟩
  · rw [hg] at h; cases h
  · exact ⟨p, e, ⟨h⟩⟩
theorem sa_int {m : Nat} {t : TypeId} {k : IntKind} {a : AV} (ht : Try.prog.underlying t = some (.int k)) (hg : aggOf Try.prog t = some false) (h : ShapeA Try.prog (m + 1) t a) : ∃ n, a = I k n ∧ (Lit.int k n).wf = true := by
  obtain ⟨p, rfl, hs⟩ := sa_one hg h
  obtain ⟨n, e, hw⟩ := sh_in ht hs
  cases e
  exact ⟨n, rfl, hw⟩
abbrev W64 (n : Int) : Prop := (Lit.int .i64 n).wf = true
def wfE (e : Ev) : Prop := W64 e.th ∧ W64 e.k ∧ W64 e.l ∧ W64 e.v
theorem sh_ev {m : Nat} {p : List PV} (h : Sh Try.prog (m + 2) 50 p) : ∃ e : Ev, p = evL e ∧ wfE e := by
  obtain ⟨_, _, rfl, h0, _, _, rfl, h1, _, _, rfl, h2, _, _, rfl, h3, _, _, rfl, h4, _, _, rfl, h5, _, _, rfl, h6, rfl⟩ := sh_st Try.underlying50 h
  obtain ⟨v0, rfl, w0⟩ := sh_in Try.underlying3 h0
  obtain ⟨v1, rfl, w1⟩ := sh_in Try.underlying3 h1
  obtain ⟨v2, rfl, w2⟩ := sh_in Try.underlying3 h2
  obtain ⟨v3, rfl, w3⟩ := sh_in Try.underlying2 h3
  obtain ⟨b4, rfl⟩ := sh_bool Try.underlying4 h4
  obtain ⟨b5, rfl⟩ := sh_bool Try.underlying4 h5
  obtain ⟨b6, rfl⟩ := sh_bool Try.underlying4 h6
  exact ⟨⟨v0, v1, v2, v3, b4, b5, b6⟩, rfl, w0, w1, w2, w3⟩
theorem co50 : Try.prog.cellsOf 50 = 7 := by kernel_rfl
theorem co33 : Try.prog.cellsOf 33 = 1 := by kernel_rfl
theorem co2 : Try.prog.cellsOf 2 = 1 := by kernel_rfl
theorem one_eq {p q : PV} (h : [p] = [q]) : p = q := by injection h
set_option maxRecDepth 4000 in
theorem sa_events {a : AV} (h : ShapeA Try.prog 8 22 a) : ∃ l : List Ev, a = .pv (.sl 7 (evsL l)) ∧ l.length ≤ maxLen ∧ ∀ e ∈ l, wfE e := by
  obtain ⟨p, rfl, hs⟩ := sa_one (by simp) h
  obtain ⟨xs, e, hl, hx⟩ := sh_sl Try.underlying22 hs
  obtain ⟨l, rfl, hw⟩ := list_inv (f := evL) (W := wfE) (fun p hp => sh_ev hp) hx
  rw [co50] at e
  exact ⟨l, by rw [one_eq e]; rfl, by simpa using hl, hw⟩
set_option maxRecDepth 4000 in
theorem sa_rel {a : AV} (h : ShapeA Try.prog 8 23 a) : ∃ r : RL, a = .pv (.sl 1 (rl r)) ∧ r.length ≤ maxLen := by
  obtain ⟨p, rfl, hs⟩ := sa_one (by simp) h
  obtain ⟨xs, e, hl, hx⟩ := sh_sl Try.underlying23 hs
  obtain ⟨l, rfl, _⟩ := list_inv (f := fun b : Wd => [C .u32 (ub b)]) (W := fun _ => True) (fun p hp => by
    obtain ⟨n, rfl, hw⟩ := sh_in Try.underlying33 hp
    refine ⟨BitVec.ofInt 32 n, ?_, trivial⟩
    have : ub (BitVec.ofInt 32 n) = n := by
      simp only [Lit.wf, IntKind.min, IntKind.max, IntKind.bits, IntKind.signed, decide_eq_true_eq, Bool.and_eq_true] at hw
      unfold ub
      rw [BitVec.toNat_ofInt]
      simp at hw
      omega
    rw [this]) hx
  rw [co33] at e
  exact ⟨l, by rw [one_eq e]; rfl, by simpa using hl⟩
set_option maxRecDepth 4000 in
theorem sa_nums {a : AV} (h : ShapeA Try.prog 8 56 a) : ∃ l : List Int, a = .pv (.sl 1 (ints l)) ∧ l.length ≤ maxLen ∧ ∀ n ∈ l, W64 n := by
  obtain ⟨p, rfl, hs⟩ := sa_one (by simp) h
  obtain ⟨xs, e, hl, hx⟩ := sh_sl Try.underlying56 hs
  obtain ⟨l, rfl, hw⟩ := list_inv (f := fun n => [C .i64 n]) (W := W64) (fun p hp => sh_in Try.underlying2 hp) hx
  rw [co2] at e
  exact ⟨l, by rw [one_eq e]; rfl, by simpa using hl, hw⟩
end Go.Eng
