import Derived.Test.YtamjcdfjkekdjaaGreatValsM
import Derived.Test.YtamjcdfjkekdjaaGreatValsG
set_option linter.unusedSimpArgs false
set_option linter.unusedVariables false
set_option linter.constructorNameAsVariable false
set_option autoImplicit false
namespace Go.Eng
open Go Go.RowKit Go.Proofs
theorem row_mono {L : Int} {a c : List Int} {th : List In} (h : ∀ n ∈ a, n ∈ c) : ∀ x ∈ rowF L a th, x ∈ rowF L c th := by
  intro x hx
  refine (sortU_mem _ x).2 ?_
  have hx := (sortU_mem _ x).1 hx
  obtain ⟨R, hR, hx⟩ := List.mem_flatMap.1 hx
  refine List.mem_flatMap.2 ⟨R, ?_, hx⟩
  unfold tracesF at hR ⊢
  split at hR
  · cases hR
  · rename_i h4; rw [if_neg h4]; exact tell_mono h 13 [] [] R hR
theorem ofN_res {L : Int} {t : List (List In)} : ∀ (n : Nat) (l : List Int), Asc l → l.length ≤ 8 → (ofN L t n l).2 = 0 → Asc (ofN L t n l).1 ∧ (ofN L t n l).1.length ≤ 8 ∧ ∀ x ∈ l, x ∈ (ofN L t n l).1
  | 0, l, ha, h8, _ => ⟨ha, h8, fun x hx => hx⟩
  | n + 1, l, ha, h8, h => by
    rw [ofN] at h ⊢
    split at h
    · cases h
    rename_i h9
    rw [if_neg h9]
    obtain ⟨r1, r2, r3⟩ := ofN_res n (roundF L t l) (sortU_asc _) (by omega) h
    exact ⟨r1, r2, fun x hx => r3 x ((sortU_mem _ x).2 (List.mem_append.2 (.inl hx)))⟩
theorem ofN_row {L : Int} {t : List (List In)} {n : Nat} {l : List Int} (hn : 0 < n) (h : (ofN L t n l).2 = 0) : ∀ th ∈ t, ∀ x ∈ rowF L l th, x ∈ (ofN L t n l).1 := by
  obtain ⟨n, rfl⟩ : ∃ m, n = m + 1 := ⟨n - 1, by omega⟩
  intro th ht x hx
  rw [ofN] at h ⊢
  split at h
  · cases h
  rename_i h9
  rw [if_neg h9]
  exact (ofN_res n (roundF L t l) (sortU_asc _) (by omega) h).2.2 x ((sortU_mem _ x).2 (List.mem_append.2 (.inr (List.mem_flatMap.2 ⟨th, ht, hx⟩))))
theorem of_ok {i : List Int} {t : List (List In)} (h : (ofF i t).2 = 0) : okTest i t = true := by
  unfold ofF at h
  split at h
  · assumption
  · rename_i ho
    unfold okTest at ho
    exact absurd h (by simpa using ho)
structure ClosedQ (i : List Int) (t : List (List In)) (l : List Int) : Prop where
  init : ∀ x ∈ i, x ∈ l
  asc : Asc l
  le : l.length ≤ 8
  pos : 1 ≤ l.length
  rows : 0 < kcT 2 t → ∀ th ∈ t, ∀ x ∈ rowF i.length i th, x ∈ l
theorem of_closed {i : List Int} {t : List (List In)} (h : (ofF i t).2 = 0) : ClosedQ i t (ofF i t).1 := by
  have hok := of_ok h
  obtain ⟨hi3, ht3, hi1, _, hts⟩ := ok_facts hok
  have h8 : (sortU i).length ≤ 8 := Nat.le_trans (sortU_le i) (by omega)
  unfold ofF at h ⊢
  rw [if_pos hok] at h ⊢
  obtain ⟨r1, r2, r3⟩ := ofN_res _ _ (sortU_asc i) h8 h
  have r4 : ∀ x ∈ i, x ∈ (ofN i.length t (kcT 2 t).toNat (sortU i)).1 := fun x hx => r3 x ((sortU_mem i x).2 hx)
  refine ⟨r4, r1, r2, ?_, fun hs th ht x hx => ofN_row (by omega) h th ht x (row_mono (fun n hn => (sortU_mem i n).2 hn) x hx)⟩
  cases i with
  | nil => simp at hi1
  | cons a i => exact List.length_pos_of_mem (r4 a (by simp))
theorem kcT_nn (k : Int) : ∀ t : List (List In), 0 ≤ kcT k t
  | [] => by simp [kcT]
  | l :: t => by
    have h1 := (kc_bnd k l).1
    have h2 := kcT_nn k t
    rw [kcT]; omega
end Go.Eng
