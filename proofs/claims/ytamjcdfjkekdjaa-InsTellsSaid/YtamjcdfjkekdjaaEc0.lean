import Derived.Test.YtamjcdfjkekdjaaEb9
import Derived.ProofKit
import Derived.OpenShut
import Derived.Deep.Slices
import Derived.ChangeOld
import Derived.SizedLaws
set_option autoImplicit false
set_option linter.unusedVariables false
set_option linter.unusedSimpArgs false
namespace Go.Eng
open Go Go.RowKit Go.ChangeShapes
variable {P : Program}

/-! ## What an argument reads as -/
def shapeF (P : Program) (R : TypeId → List PV → Prop) : List Field → List PV → Prop
  | [], ps => ps = []
  | f :: fs, ps => ∃ q r, ps = q ++ r ∧ R f.type q ∧ shapeF P R fs r
def shapeN (R : List PV → Prop) : Nat → List PV → Prop
  | 0, ps => ps = []
  | m + 1, ps => ∃ q r, ps = q ++ r ∧ R q ∧ shapeN R m r
def Shape (P : Program) : Nat → TypeId → List PV → Prop
  | 0, _, _ => False
  | m + 1, t, ps => match P.underlying t with
    | some .bool => ∃ b, ps = [.v (.bool b)]
    | some (.int k) => ∃ n, ps = [.v (.int k n)] ∧ (Lit.int k n).wf = true
    | some .string => ∃ s, ps = [.v (.string s)]
    | some (.slice e) => ∃ xs, ps = [.sl (P.cellsOf e) xs] ∧ xs.length ≤ maxLen ∧ ∀ x ∈ xs, Shape P m e x
    | some (.struct fs) => shapeF P (Shape P m) fs.toList ps
    | some (.array n e) => shapeN (Shape P m e) n ps
    | _ => False
def tilesF (P : Program) : List Field → Nat → Nat → Bool
  | [], off, n => off == n
  | f :: fs, off, n => f.offset == off && tilesF P fs (off + P.cellsOf f.type) n
def flatT (P : Program) : Nat → TypeId → Bool
  | 0, _ => false
  | m + 1, t => match P.underlying t with
    | some .bool | some (.int _) | some .string => true
    | some (.slice e) => flatT P m e
    | some (.struct fs) => tilesF P fs.toList 0 (P.cellsOf t) && fs.toList.all (fun f => flatT P m f.type)
    | some (.array n e) => n * P.cellsOf e == P.cellsOf t && flatT P m e
    | _ => false

section
variable {H : Type} {enc : TypeId × Value → H} {w : World} {base : Nat} {spare : Nat → Bool} {held : Bool}
theorem array_shape {R : List PV → Prop} {F : Nat → Prop} {es : Nat} {cs : List Value} : ∀ (m i : Nat), cs.length = (i + m) * es → (∀ j, j < i + m → ∃ ps, PVs F w ps ((cs.drop (j * es)).take es) ∧ R ps) → ∃ ps, PVs F w ps (cs.drop (i * es)) ∧ shapeN R m ps
  | 0, i, hl, _ => ⟨[], by rw [List.drop_eq_nil_of_le (by simp at hl; omega)]; rfl, rfl⟩
  | m + 1, i, hl, hx => by
    obtain ⟨q, h2, h3⟩ := hx i (by omega)
    obtain ⟨r, h4, h5⟩ := array_shape m (i + 1) (by rw [hl]; congr 1; omega) (fun j hj => hx j (by omega))
    refine ⟨q ++ r, ?_, q, r, rfl, h3, h5⟩
    have := h2.append h4
    rw [Nat.succ_mul, ← List.drop_drop, List.take_append_drop] at this
    exact this
theorem slice_elems {R : List PV → Prop} {F : Nat → Prop} {es : Nat} {a : Addr} : ∀ (n : Nat), (∀ i, i < n → ∃ ps us, PVs F w ps us ∧ us.length = es ∧ R ps ∧ ∀ k u, us[k]? = some u → w.cell? ((a.add (i * es)).add k) = some u) →
    ∃ xs vs, xs.length = n ∧ PElems F w es xs vs ∧ (∀ x ∈ xs, R x) ∧ ∀ j u, vs[j]? = some u → w.cell? (a.add j) = some u
  | 0, _ => ⟨[], [], rfl, rfl, by simp, by simp⟩
  | n + 1, h => by
    obtain ⟨xs, vs, h1, h2, h3, h4⟩ := slice_elems n (fun i hi => h i (by omega))
    obtain ⟨ps, us, k1, k2, k3, k4⟩ := h n (by omega)
    have hl := h2.length
    refine ⟨xs ++ [ps], vs ++ us, by simp [h1], h2.append (PElems.one k1 (by rw [← k1.length, k2])), ?_, ?_⟩
    · intro x hx
      rcases List.mem_append.1 hx with hx | hx
      · exact h3 x hx
      · rw [List.mem_singleton.1 hx]; exact k3
    · intro j u hj
      rw [List.getElem?_append] at hj
      split at hj
      · exact h4 j u hj
      · rename_i hlt
        have := k4 _ _ hj
        rw [Go.Deep.add_add] at this
        rw [hl, h1] at this
        rw [← this]
        congr 2
        rw [hl, h1] at hlt
        omega
theorem trod_shape : ∀ (m : Nat) (t : TypeId), flatT P m t = true → ∀ (fuel : Nat) (cs : List Value) (x : DataW H × List MemPlace), DataW.trod enc P w base spare held fuel t cs = some x →
    ∃ ps, PVs (fun b => b < w.heap.size) w ps cs ∧ Shape P m t ps
  | 0, t, ht, _, _, _, _ => by simp [flatT] at ht
  | m + 1, t, ht, fuel, cs, x, h => by
    have one : ∀ {v : Value}, v.oneCell' = true → PVs (fun b => b < w.heap.size) w [.v v] [v] := fun hv => ⟨_, _, rfl, ⟨rfl, hv⟩, rfl⟩
    unfold flatT at ht
    cases hu : P.underlying t with
    | none => rw [hu] at ht; simp at ht
    | some d =>
      rw [hu] at ht
      cases d with
      | bool =>
        obtain ⟨b, rfl, _⟩ := DataW.trod_bool hu h
        exact ⟨_, one rfl, by simp only [Shape, hu]; exact ⟨b, rfl⟩⟩
      | int k =>
        obtain ⟨n, rfl, _, hw⟩ := DataW.trod_int hu h
        exact ⟨_, one rfl, by simp only [Shape, hu]; exact ⟨n, rfl, hw⟩⟩
      | string =>
        obtain ⟨s, rfl, _⟩ := DataW.trod_string hu h
        exact ⟨_, one rfl, by simp only [Shape, hu]; exact ⟨s, rfl⟩⟩
      | slice e =>
        simp only at ht
        rcases DataW.trod_slice hu h with ⟨rfl, _⟩ | ⟨a, len, cap, elems, rest, n, rfl, rfl, _, hb, hlc, hcm, hel, hi, _, _⟩
        · refine ⟨[.sl (P.cellsOf e) []], ⟨_, _, rfl, ⟨none, 0, [], rfl, by simp, by simp [maxLen], rfl, .inl rfl⟩, rfl⟩, ?_⟩
          simp only [Shape, hu]
          exact ⟨[], rfl, by simp, by simp⟩
        · obtain ⟨xs, vs, h1, h2, h3, h4⟩ := slice_elems (w := w) (F := fun b => b < w.heap.size) (R := Shape P m e) (es := P.cellsOf e) (a := a) len (fun i hil => by
            have h5 := hi i hil
            have h6 : elems[i]? = some (elems[i]'(by omega)) := List.getElem?_eq_getElem (by omega)
            rw [h6] at h5
            obtain ⟨us, h7, h8⟩ := Option.bind_eq_some_iff.1 h5
            obtain ⟨ps, h9, h10⟩ := trod_shape m e ht n us _ h8
            obtain ⟨_, hl, hc⟩ := World.cells?_some h7
            exact ⟨ps, us, h9, hl, h10, fun k u hk => by
              have : k < us.length := (List.getElem?_eq_some_iff.1 hk).1
              rw [hc k (by omega)]; exact hk⟩)
          refine ⟨[.sl (P.cellsOf e) xs], ⟨_, _, rfl, ⟨some a, cap, vs, by rw [h1], by omega, hcm, h2, ?_⟩, rfl⟩, ?_⟩
          · cases vs with
            | nil => exact .inl rfl
            | cons u us =>
              refine .inr ⟨a, rfl, ?_, h4⟩
              have := h4 0 u rfl
              rw [Addr.add_zero'] at this
              unfold World.cell? at this
              split at this
              · rename_i hh; exact (Array.getElem?_eq_some_iff.1 hh).1
              · cases this
          · simp only [Shape, hu]
            exact ⟨xs, rfl, by omega, h3⟩
      | struct fs =>
        simp only [Bool.and_eq_true, List.all_eq_true] at ht
        obtain ⟨xs, n, rfl, _, hl, hxl, hf⟩ := DataW.trod_struct hu h
        have hR : ∀ f ∈ fs.toList, ∀ x, DataW.trod enc P w base spare held n f.type ((cs.drop f.offset).take (P.cellsOf f.type)) = some x → ∃ ps, PVs (fun b => b < w.heap.size) w ps ((cs.drop f.offset).take (P.cellsOf f.type)) ∧ Shape P m f.type ps :=
          fun f hfm x hx => trod_shape m f.type (ht.2 f hfm) n _ _ hx
        have key : ∀ (l : List Field) (off : Nat), (∀ f ∈ l, f ∈ fs.toList) → tilesF P l off cs.length = true → ∃ ps, PVs (fun b => b < w.heap.size) w ps (cs.drop off) ∧ shapeF P (Shape P m) l ps := by
          intro l
          induction l with
          | nil => intro off _ h0; simp only [tilesF, beq_iff_eq] at h0; exact ⟨[], by rw [h0, List.drop_length]; rfl, rfl⟩
          | cons f l ih =>
            intro off hsub h0
            simp only [tilesF, Bool.and_eq_true, beq_iff_eq] at h0
            have hfm := hsub f (by simp)
            obtain ⟨i, hil, hfi⟩ := List.getElem_of_mem hfm
            have hfi' : fs[i]? = some f := by rw [← Array.getElem?_toList, List.getElem?_eq_getElem hil, hfi]
            have h1 := hf i f hfi'
            have hi2 : i < xs.length := by rw [hxl]; simpa using hil
            rw [List.getElem?_eq_getElem hi2] at h1
            obtain ⟨q, h2, h3⟩ := hR f hfm _ h1
            obtain ⟨r, h4, h5⟩ := ih _ (fun g hg => hsub g (by simp [hg])) h0.2
            refine ⟨q ++ r, ?_, q, r, rfl, h3, h5⟩
            have := h2.append h4
            rw [h0.1] at this
            rwa [← List.drop_drop, List.take_append_drop] at this
        obtain ⟨ps, h1, h2⟩ := key fs.toList 0 (fun _ h => h) (by rw [hl]; exact ht.1)
        exact ⟨ps, by simpa using h1, by simp only [Shape, hu]; exact h2⟩
      | array n e =>
        simp only [Bool.and_eq_true, beq_iff_eq] at ht
        obtain ⟨xs, k, rfl, _, hl, hxl, hf⟩ := DataW.trod_array hu h
        obtain ⟨ps, h1, h2⟩ := array_shape (w := w) (R := Shape P m e) (F := fun b => b < w.heap.size) (es := P.cellsOf e) (cs := cs) n 0 (by rw [hl, ← ht.1]; simp) (fun j hj => by
          have h1 := hf j (by omega)
          rw [List.getElem?_eq_getElem (show j < xs.length by omega)] at h1
          exact trod_shape m e ht.2 k _ _ h1)
        exact ⟨ps, by simpa using h1, by simp only [Shape, hu]; exact h2⟩
      | _ => simp at ht
end
end Go.Eng
