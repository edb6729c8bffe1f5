import Derived.Test.YtpohlijehadklaaGreatTestC
import Derived.Test.YtpohlijehadklaaGreatKitRow
set_option linter.unusedSimpArgs false
set_option linter.unusedVariables false
set_option linter.constructorNameAsVariable false
set_option autoImplicit false
namespace Go.Eng
open Go Go.RowKit Go.Proofs
theorem Ins.ext' (x : In) : x = ⟨x.op, x.d, x.a, x.b, x.l, x.m⟩ := rfl
def wfIn (x : In) : Prop := (Lit.int .i64 x.op).wf = true ∧ (Lit.int .i64 x.d).wf = true ∧ (Lit.int .i64 x.a).wf = true ∧ (Lit.int .i64 x.b).wf = true ∧ (Lit.int .i64 x.l).wf = true ∧ (Lit.int .i64 x.m).wf = true
theorem list_inv {α : Type} {R : List PV → Prop} {f : α → List PV} {W : α → Prop} (h : ∀ p, R p → ∃ a, p = f a ∧ W a) : ∀ {xs : List (List PV)}, (∀ x ∈ xs, R x) → ∃ l : List α, xs = l.map f ∧ ∀ a ∈ l, W a
  | [], _ => ⟨[], rfl, by simp⟩
  | x :: xs, hx => by
    obtain ⟨a, rfl, ha⟩ := h x (hx x (by simp))
    obtain ⟨l, rfl, hl⟩ := list_inv h (xs := xs) (fun y hy => hx y (by simp [hy]))
    exact ⟨a :: l, rfl, by simp; exact ⟨ha, hl⟩⟩
/-- A shape, not to be looked into by accident. -/
structure Sh (P : Program) (m : Nat) (t : TypeId) (p : List PV) : Prop where
  s : Shape P m t p
theorem sh_sl {P : Program} {m : Nat} {t e : TypeId} {p : List PV} (ht : P.underlying t = some (.slice e)) (h : Sh P (m + 1) t p) : ∃ xs, p = [.sl (P.cellsOf e) xs] ∧ xs.length ≤ maxLen ∧ ∀ x ∈ xs, Sh P m e x := by
  obtain ⟨h⟩ := h
  simp only [Shape, ht] at h
  obtain ⟨xs, h1, h2, h3⟩ := h
  exact ⟨xs, h1, h2, fun x hx => ⟨h3 x hx⟩⟩
theorem shapeF_mono {P : Program} {R S : TypeId → List PV → Prop} (h : ∀ t p, R t p → S t p) : ∀ {fs : List Field} {ps : List PV}, shapeF P R fs ps → shapeF P S fs ps
  | [], _, hp => hp
  | f :: fs, ps, ⟨q, r, e, h1, h2⟩ => ⟨q, r, e, h _ _ h1, shapeF_mono h h2⟩
theorem sh_st {P : Program} {m : Nat} {t : TypeId} {fs : Array Field} {p : List PV} (ht : P.underlying t = some (.struct fs)) (h : Sh P (m + 1) t p) : shapeF P (Sh P m) fs.toList p := by
  obtain ⟨h⟩ := h
  simp only [Shape, ht] at h
  exact shapeF_mono (fun t p h => ⟨h⟩) h
theorem sh_in {P : Program} {m : Nat} {t : TypeId} {k : IntKind} {p : List PV} (ht : P.underlying t = some (.int k)) (h : Sh P (m + 1) t p) : ∃ n, p = [C k n] ∧ (Lit.int k n).wf = true := by
  obtain ⟨h⟩ := h
  simp only [Shape, ht] at h; exact h
theorem sh_bool {P : Program} {m : Nat} {t : TypeId} {p : List PV} (ht : P.underlying t = some .bool) (h : Sh P (m + 1) t p) : ∃ b, p = [.v (.bool b)] := by
  obtain ⟨h⟩ := h
  simp only [Shape, ht] at h; exact h
theorem sa_agg {P : Program} {m : Nat} {t : TypeId} {a : AV} (hg : aggOf P t = some true) (h : ShapeA P m t a) : ∃ ps, a = .agg ps ∧ Sh P m t ps := by
  rcases h with ⟨_, ps, e, h⟩ | ⟨h, _⟩
  · exact ⟨ps, e, ⟨h⟩⟩
  · rw [hg] at h; cases h
theorem sa_one {P : Program} {m : Nat} {t : TypeId} {a : AV} (hg : aggOf P t = some false) (h : ShapeA P m t a) : ∃ p, a = .pv p ∧ Sh P m t [p] := by
  rcases h with ⟨h, _⟩ | ⟨_, p, e, h⟩
  · rw [hg] at h; cases h
  · exact ⟨p, e, ⟨h⟩⟩
theorem sh_ins {m : Nat} {p : List PV} (h : Sh Tryz.prog (m + 2) 46 p) : ∃ x : In, p = inL x ∧ wfIn x := by
  obtain ⟨_, _, rfl, h0, _, _, rfl, h1, _, _, rfl, h2, _, _, rfl, h3, _, _, rfl, h4, _, _, rfl, h5, rfl⟩ := sh_st Tryz.underlying46 h
  obtain ⟨v0, rfl, w0⟩ := sh_in Tryz.underlying3 h0
  obtain ⟨v1, rfl, w1⟩ := sh_in Tryz.underlying3 h1
  obtain ⟨v2, rfl, w2⟩ := sh_in Tryz.underlying3 h2
  obtain ⟨v3, rfl, w3⟩ := sh_in Tryz.underlying3 h3
  obtain ⟨v4, rfl, w4⟩ := sh_in Tryz.underlying3 h4
  obtain ⟨v5, rfl, w5⟩ := sh_in Tryz.underlying2 h5
  exact ⟨⟨v0, v1, v2, v3, v4, v5⟩, rfl, w0, w1, w2, w3, w4, w5⟩
theorem co2 : Tryz.prog.cellsOf 2 = 1 := by kernel_rfl
theorem co31 : Tryz.prog.cellsOf 46 = 6 := by kernel_rfl
theorem co64 : Tryz.prog.cellsOf 47 = 1 := by kernel_rfl
theorem sh_nums {m : Nat} {p : List PV} (h : Sh Tryz.prog (m + 2) 22 p) : ∃ l : List Int, p = [.sl 1 (ints l)] ∧ l.length ≤ maxLen ∧ ∀ n ∈ l, (Lit.int .i64 n).wf = true := by
  obtain ⟨xs, rfl, hl, hx⟩ := sh_sl Tryz.underlying22 h
  obtain ⟨l, rfl, hw⟩ := list_inv (f := fun n => [C .i64 n]) (W := fun n => (Lit.int .i64 n).wf = true) (fun p hp => sh_in Tryz.underlying2 hp) hx
  exact ⟨l, by rw [co2]; rfl, by simpa using hl, hw⟩
theorem sh_thread {m : Nat} {p : List PV} (h : Sh Tryz.prog (m + 3) 47 p) : ∃ l : List In, p = [.sl 6 (insL l)] ∧ l.length ≤ maxLen ∧ ∀ x ∈ l, wfIn x := by
  obtain ⟨xs, rfl, hl, hx⟩ := sh_sl Tryz.underlying47 h
  obtain ⟨l, rfl, hw⟩ := list_inv (f := inL) (W := wfIn) (fun p hp => sh_ins hp) hx
  exact ⟨l, by rw [co31]; rfl, by simpa using hl, hw⟩
theorem sh_threads {m : Nat} {p : List PV} (h : Sh Tryz.prog (m + 4) 23 p) : ∃ t : List (List In), p = [.sl 1 (thsL t)] ∧ t.length ≤ maxLen ∧ ∀ l ∈ t, l.length ≤ maxLen ∧ ∀ x ∈ l, wfIn x := by
  obtain ⟨xs, rfl, hl, hx⟩ := sh_sl Tryz.underlying23 h
  obtain ⟨l, rfl, hw⟩ := list_inv (f := fun l => [PV.sl 6 (insL l)]) (W := fun l => l.length ≤ maxLen ∧ ∀ x ∈ l, wfIn x) (fun p hp => sh_thread hp) hx
  exact ⟨l, by rw [co64]; rfl, by simpa using hl, hw⟩
theorem sa_test {a : AV} (h : ShapeA Tryz.prog 8 25 a) : ∃ i t, a = .agg (testL i t) ∧ i.length ≤ maxLen ∧ t.length ≤ maxLen ∧ (∀ l ∈ t, l.length ≤ maxLen ∧ ∀ x ∈ l, wfIn x) := by
  obtain ⟨ps, rfl, hs⟩ := sa_agg (by simp) h
  obtain ⟨q, r, rfl, h1, q2, r2, rfl, h2, rfl⟩ := sh_st Tryz.underlying25 hs
  obtain ⟨i, rfl, hi, _⟩ := sh_nums h1
  obtain ⟨t, rfl, ht, hw⟩ := sh_threads h2
  exact ⟨i, t, rfl, hi, ht, hw⟩
end Go.Eng
