import Derived.Test.YtjijfghchcnbnaaDoorCondD
import Derived.Test.YtjijfghchcnbnaaDoorCondG
import Derived.Test.YtjijfghchcnbnaaDoorEngC
import Derived.Test.YtjijfghchcnbnaaDoorEngE
import Derived.Test.YtjijfghchcnbnaaDoorRows
set_option linter.unusedSimpArgs false
set_option linter.unusedVariables false
set_option linter.constructorNameAsVariable false
set_option autoImplicit false
namespace Go.Eng
open Go Go.RowKit Go.Proofs
theorem list_inv {α : Type} {R : List PV → Prop} {f : α → List PV} {W : α → Prop} (h : ∀ p, R p → ∃ a, p = f a ∧ W a) : ∀ {xs : List (List PV)}, (∀ x ∈ xs, R x) → ∃ l : List α, xs = l.map f ∧ ∀ a ∈ l, W a
  | [], _ => ⟨[], rfl, by simp⟩
  | x :: xs, hx => by
    obtain ⟨a, rfl, ha⟩ := h x (hx x (by simp))
    obtain ⟨l, rfl, hl⟩ := list_inv h (xs := xs) (fun y hy => hx y (by simp [hy]))
    exact ⟨a :: l, rfl, by simp; exact ⟨ha, hl⟩⟩
/-- A shape, not to be looked into by accident. -/
structure Sh (P : Program) (m : Nat) (t : TypeId) (p : List PV) : Prop where
  s : Shape P m t p
theorem sh_sl {P : Program} {m : Nat} {t e : TypeId} {p : List PV} (ht : P.underlying t = some (.slice e)) (h : Sh P (m + 1) t p) : ∃ xs, p = [.sl (P.cellsOf e) xs] ∧ xs.length ≤ maxLen ∧ ∀ x ∈ xs, Sh P m e x := by
  obtain ⟨h⟩ := h
  simp only [Shape, ht] at h
  obtain ⟨xs, h1, h2, h3⟩ := h
  exact ⟨xs, h1, h2, fun x hx => ⟨h3 x hx⟩⟩
theorem shapeF_mono {P : Program} {R S : TypeId → List PV → Prop} (h : ∀ t p, R t p → S t p) : ∀ {fs : List Field} {ps : List PV}, shapeF P R fs ps → shapeF P S fs ps
  | [], _, hp => hp
  | f :: fs, ps, ⟨q, r, e, h1, h2⟩ => ⟨q, r, e, h _ _ h1, shapeF_mono h h2⟩
theorem sh_st {P : Program} {m : Nat} {t : TypeId} {fs : Array Field} {p : List PV} (ht : P.underlying t = some (.struct fs)) (h : Sh P (m + 1) t p) : shapeF P (Sh P m) fs.toList p := by
  obtain ⟨h⟩ := h
  simp only [Shape, ht] at h
  exact shapeF_mono (fun t p h => ⟨h⟩) h
theorem sh_in {P : Program} {m : Nat} {t : TypeId} {k : IntKind} {p : List PV} (ht : P.underlying t = some (.int k)) (h : Sh P (m + 1) t p) : ∃ n, p = [C k n] ∧ (Lit.int k n).wf = true := by
  obtain ⟨h⟩ := h
  simp only [Shape, ht] at h; exact h
theorem sh_bool {P : Program} {m : Nat} {t : TypeId} {p : List PV} (ht : P.underlying t = some .bool) (h : Sh P (m + 1) t p) : ∃ b, p = [.v (.bool b)] := by
  obtain ⟨h⟩ := h
  simp only [Shape, ht] at h; exact h
theorem sa_agg {P : Program} {m : Nat} {t : TypeId} {a : AV} (hg : aggOf P t = some true) (h : ShapeA P m t a) : ∃ ps, a = .agg ps ∧ Sh P m t ps := by
  rcases h with ⟨_, ps, e, h⟩ | ⟨h, _⟩
  · exact ⟨ps, e, ⟨h⟩⟩
  · rw [hg] at h; cases h
theorem sa_one {P : Program} {m : Nat} {t : TypeId} {a : AV} (hg : aggOf P t = some false) (h : ShapeA P m t a) : ∃ p, a = .pv p ∧ Sh P m t [p] := by
  rcases h with ⟨h, _⟩ | ⟨_, p, e, h⟩
  · rw [hg] at h; cases h
  · exact ⟨p, e, ⟨h⟩⟩
theorem co2 : Tryd.prog.cellsOf 2 = 1 := by kernel_rfl
theorem co26 : Tryd.prog.cellsOf 26 = 4 := by kernel_rfl
theorem co28 : Tryd.prog.cellsOf 28 = 1 := by kernel_rfl
theorem co30 : Tryd.prog.cellsOf 30 = 2 := by kernel_rfl
theorem co54 : Tryd.prog.cellsOf 54 = 1 := by kernel_rfl
theorem sh_nums {m : Nat} {p : List PV} (h : Sh Tryd.prog (m + 2) 28 p) : ∃ l : List Int, p = [.sl 1 (ints l)] ∧ l.length ≤ maxLen := by
  obtain ⟨xs, rfl, hl, hx⟩ := sh_sl Tryd.underlying28 h
  obtain ⟨l, rfl, hw⟩ := list_inv (f := fun n => [C .i64 n]) (W := fun n => (Lit.int .i64 n).wf = true) (fun p hp => sh_in Tryd.underlying2 hp) hx
  exact ⟨l, by rw [co2]; rfl, by simpa using hl⟩
theorem sh_rg {m : Nat} {p : List PV} (h : Sh Tryd.prog (m + 3) 27 p) : ∃ l : List (List Int), p = [.sl 1 (rgL l)] ∧ l.length ≤ maxLen ∧ ∀ x ∈ l, x.length ≤ maxLen := by
  obtain ⟨xs, rfl, hl, hx⟩ := sh_sl Tryd.underlying27 h
  obtain ⟨l, rfl, hw⟩ := list_inv (f := fun x => [PV.sl 1 (ints x)]) (W := fun x => x.length ≤ maxLen) (fun p hp => sh_nums hp) hx
  exact ⟨l, by rw [co28]; rfl, by simpa using hl, hw⟩
theorem sh_ou {m : Nat} {p : List PV} (h : Sh Tryd.prog (m + 4) 30 p) : ∃ o : Ou, p = ouC o ∧ OuOk o := by
  obtain ⟨q, r, rfl, h1, q2, r2, rfl, h2, rfl⟩ := sh_st Tryd.underlying30 h
  obtain ⟨rg, rfl, a1, a2⟩ := sh_rg h1
  obtain ⟨mem, rfl, b1⟩ := sh_nums h2
  exact ⟨⟨rg, mem⟩, rfl, a1, a2, b1⟩
theorem sh_ous {m : Nat} {p : List PV} (h : Sh Tryd.prog (m + 5) 42 p) : ∃ l : List Ou, p = [.sl 2 (ousL l)] ∧ l.length ≤ maxLen ∧ ∀ o ∈ l, OuOk o := by
  obtain ⟨xs, rfl, hl, hx⟩ := sh_sl Tryd.underlying42 h
  obtain ⟨l, rfl, hw⟩ := list_inv (f := ouC) (W := OuOk) (fun p hp => sh_ou hp) hx
  exact ⟨l, by rw [co30]; rfl, by simpa using hl, hw⟩
theorem sh_at {m : Nat} {p : List PV} (h : Sh Tryd.prog (m + 2) 26 p) : ∃ a : At, p = atC a ∧ AtOk a := by
  obtain ⟨_, _, rfl, h0, _, _, rfl, h1, _, _, rfl, h2, _, _, rfl, h3, rfl⟩ := sh_st Tryd.underlying26 h
  obtain ⟨v0, rfl, w0⟩ := sh_in Tryd.underlying3 h0
  obtain ⟨v1, rfl, w1⟩ := sh_in Tryd.underlying3 h1
  obtain ⟨v2, rfl, w2⟩ := sh_in Tryd.underlying2 h2
  obtain ⟨b, rfl⟩ := sh_bool Tryd.underlying4 h3
  exact ⟨⟨v0, v1, v2, b⟩, rfl, w0, w1, w2⟩
theorem sh_ats {m : Nat} {p : List PV} (h : Sh Tryd.prog (m + 3) 54 p) : ∃ l : List At, p = [.sl 4 (atsL l)] ∧ l.length ≤ maxLen ∧ ∀ a ∈ l, AtOk a := by
  obtain ⟨xs, rfl, hl, hx⟩ := sh_sl Tryd.underlying54 h
  obtain ⟨l, rfl, hw⟩ := list_inv (f := atC) (W := AtOk) (fun p hp => sh_at hp) hx
  exact ⟨l, by rw [co26]; rfl, by simpa using hl, hw⟩
theorem sh_co {m : Nat} {p : List PV} (h : Sh Tryd.prog (m + 5) 24 p) : ∃ c : Co, p = coC c ∧ CoOk c ∧ ∀ l ∈ c.any, ∀ a ∈ l, AtOk a := by
  obtain ⟨_, _, rfl, h0, _, _, rfl, h1, rfl⟩ := sh_st Tryd.underlying24 h
  obtain ⟨b, rfl⟩ := sh_bool Tryd.underlying4 h0
  obtain ⟨xs, rfl, hl, hx⟩ := sh_sl Tryd.underlying22 h1
  obtain ⟨l, rfl, hw⟩ := list_inv (f := fun x => [PV.sl 4 (atsL x)]) (W := fun x => x.length ≤ maxLen ∧ ∀ a ∈ x, AtOk a) (fun p hp => sh_ats hp) hx
  exact ⟨⟨b, l⟩, by rw [co54]; rfl, ⟨by simpa using hl, fun x h => (hw x h).1⟩, fun x h => (hw x h).2⟩
theorem sa_co {a : AV} (h : ShapeA Tryd.prog 8 24 a) : ∃ c, a = .agg (coC c) ∧ CoOk c ∧ ∀ l ∈ c.any, ∀ a ∈ l, AtOk a := by
  obtain ⟨ps, rfl, hs⟩ := sa_agg (by simp) h
  obtain ⟨c, rfl, h1, h2⟩ := sh_co hs
  exact ⟨c, rfl, h1, h2⟩
theorem sa_at {a : AV} (h : ShapeA Tryd.prog 8 26 a) : ∃ x, a = .agg (atC x) ∧ AtOk x := by
  obtain ⟨ps, rfl, hs⟩ := sa_agg (by simp) h
  obtain ⟨c, rfl, h1⟩ := sh_at hs
  exact ⟨c, rfl, h1⟩
theorem sa_ou {a : AV} (h : ShapeA Tryd.prog 8 30 a) : ∃ o, a = .agg (ouC o) ∧ OuOk o := by
  obtain ⟨ps, rfl, hs⟩ := sa_agg (by simp) h
  obtain ⟨c, rfl, h1⟩ := sh_ou hs
  exact ⟨c, rfl, h1⟩
theorem sa_ous {a : AV} (h : ShapeA Tryd.prog 8 42 a) : ∃ l, a = .pv (.sl 2 (ousL l)) ∧ l.length ≤ maxLen ∧ ∀ o ∈ l, OuOk o := by
  obtain ⟨p, rfl, hs⟩ := sa_one (by simp) h
  obtain ⟨l, e, h1, h2⟩ := sh_ous hs
  cases e
  exact ⟨l, rfl, h1, h2⟩
/-- What the rows list, as the engine asks for it. -/
theorem glob_of {w : World} (h : laidMetH Tryd.prog Go.Proofs.YtjijfghchcnbnaaDoor.Rows.condAtomsRow.laid w) : GlobOK (fun b => b < w.heap.size) w := by
  rw [MakeChecks.laidMetH_plain _ _ _ (by kernel_rfl)] at h
  have e : (Go.Proofs.YtjijfghchcnbnaaDoor.Rows.laid_internal_strconv_uint64pow10 : DataW Unit) = Lib.tabData .u64 Lib.pow10Tab := by rfl
  exact glob_of_laid (t := 128) (e := 108) (by kernel_rfl) (by kernel_rfl) (by kernel_rfl) (by kernel_rfl) (by kernel_rfl) (by kernel_rfl) (by rw [← e]; exact .tail _ (.tail _ (.head _))) h
end Go.Eng
