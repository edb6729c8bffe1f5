import Derived.Test.YtamjcdfjkekdjaaValsM
import Derived.Test.YtamjcdfjkekdjaaValsG
set_option linter.unusedSimpArgs false
set_option linter.unusedVariables false
set_option linter.constructorNameAsVariable false
set_option autoImplicit false
namespace Go.Eng
open Go Go.RowKit Go.Proofs
theorem row_mono {L : Int} {a c : List Int} {th : List In} (h : ∀ n ∈ a, n ∈ c) : ∀ x ∈ rowF L a th, x ∈ rowF L c th := by
  intro x hx
  refine (sortU_mem _ x).2 ?_
  have hx := (sortU_mem _ x).1 hx
  obtain ⟨R, hR, hx⟩ := List.mem_flatMap.1 hx
  refine List.mem_flatMap.2 ⟨R, ?_, hx⟩
  unfold tracesF at hR ⊢
  split at hR
  · cases hR
  · rename_i h4; rw [if_neg h4]; exact tell_mono h 13 [] [] R hR
theorem ofN_res {L : Int} {t : List (List In)} : ∀ (n : Nat) (l : List Int), Asc l → l.length ≤ 8 → (ofN L t n l).2 = 0 → Asc (ofN L t n l).1 ∧ (ofN L t n l).1.length ≤ 8 ∧ ∀ x ∈ l, x ∈ (ofN L t n l).1
  | 0, l, ha, h8, _ => ⟨ha, h8, fun x hx => hx⟩
  | n + 1, l, ha, h8, h => by
    rw [ofN] at h ⊢
    split at h
    · cases h
    rename_i h9
    rw [if_neg h9]
    obtain ⟨r1, r2, r3⟩ := ofN_res n (roundF L t l) (sortU_asc _) (by omega) h
    exact ⟨r1, r2, fun x hx => r3 x ((sortU_mem _ x).2 (List.mem_append.2 (.inl hx)))⟩
theorem ofN_row {L : Int} {t : List (List In)} {n : Nat} {l : List Int} (hn : 0 < n) (h : (ofN L t n l).2 = 0) : ∀ th ∈ t, ∀ x ∈ rowF L l th, x ∈ (ofN L t n l).1 := by
  obtain ⟨n, rfl⟩ : ∃ m, n = m + 1 := ⟨n - 1, by omega⟩
  intro th ht x hx
  rw [ofN] at h ⊢
  split at h
  · cases h
  rename_i h9
  rw [if_neg h9]
  exact (ofN_res n (roundF L t l) (sortU_asc _) (by omega) h).2.2 x ((sortU_mem _ x).2 (List.mem_append.2 (.inr (List.mem_flatMap.2 ⟨th, ht, hx⟩))))
theorem ofN_bad {L : Int} {t : List (List In)} : ∀ (n : Nat) (l : List Int), ¬(ofN L t n l).2 = 0 → (ofN L t n l).1 = []
  | 0, l, h => absurd rfl h
  | n + 1, l, h => by
    rw [ofN] at h ⊢
    split at h
    · rename_i h9; rw [if_pos h9]
    · rename_i h9; rw [if_neg h9]; exact ofN_bad n _ h
theorem of_bad {i : List Int} {t : List (List In)} (h : ¬(ofF i t).2 = 0) : (ofF i t).1 = [] := by
  unfold ofF at h ⊢
  split
  · rename_i ho; rw [if_pos ho] at h; exact ofN_bad _ _ h
  · rfl
theorem of_ok {i : List Int} {t : List (List In)} (h : (ofF i t).2 = 0) : okTest i t = true := by
  unfold ofF at h
  split at h
  · assumption
  · rename_i ho
    unfold okTest at ho
    exact absurd h (by simpa using ho)
structure ClosedQ (i : List Int) (t : List (List In)) (l : List Int) : Prop where
  init : ∀ x ∈ i, x ∈ l
  asc : Asc l
  le : l.length ≤ 8
  pos : 1 ≤ l.length
  rows : 0 < kcT 2 t → ∀ th ∈ t, ∀ x ∈ rowF i.length i th, x ∈ l
theorem of_closed {i : List Int} {t : List (List In)} (h : (ofF i t).2 = 0) : ClosedQ i t (ofF i t).1 := by
  have hok := of_ok h
  obtain ⟨hi3, ht3, hi1, _, hts⟩ := ok_facts hok
  have h8 : (sortU i).length ≤ 8 := Nat.le_trans (sortU_le i) (by omega)
  unfold ofF at h ⊢
  rw [if_pos hok] at h ⊢
  obtain ⟨r1, r2, r3⟩ := ofN_res _ _ (sortU_asc i) h8 h
  have r4 : ∀ x ∈ i, x ∈ (ofN i.length t (kcT 2 t).toNat (sortU i)).1 := fun x hx => r3 x ((sortU_mem i x).2 hx)
  refine ⟨r4, r1, r2, ?_, fun hs th ht x hx => ofN_row (by omega) h th ht x (row_mono (fun n hn => (sortU_mem i n).2 hn) x hx)⟩
  cases i with
  | nil => simp at hi1
  | cons a i => exact List.length_pos_of_mem (r4 a (by simp))
theorem kcT_nn (k : Int) : ∀ t : List (List In), 0 ≤ kcT k t
  | [] => by simp [kcT]
  | l :: t => by
    have h1 := (kc_bnd k l).1
    have h2 := kcT_nn k t
    rw [kcT]; omega
theorem kc_ld {t : List (List In)} (h : kcT 1 t = 0) : ∀ th ∈ t, ldN th = 0 := by
  induction t with
  | nil => simp
  | cons a t ih =>
    rw [kcT] at h
    have h1 := (kc_bnd 1 a).1
    have h2 : 0 ≤ kcT 1 t := kcT_nn 1 t
    intro th ht
    rcases List.mem_cons.1 ht with rfl | ht
    · have h3 : kc 1 th = 0 := by omega
      unfold kc at h3
      unfold ldN
      omega
    · exact ih (by omega) th ht
theorem row_noload {L : Int} {a c : List Int} {th : List In} (h : ldN th = 0) : rowF L a th = rowF L c th := by
  unfold rowF
  rw [traces_noload (c := c) h]
theorem flat_congr {α β : Type} {g k : α → List β} : ∀ (l : List α), (∀ x ∈ l, g x = k x) → l.flatMap g = l.flatMap k
  | [], _ => rfl
  | x :: l, h => by rw [List.flatMap_cons, List.flatMap_cons, h x (by simp), flat_congr l fun y hy => h y (by simp [hy])]
theorem round_idem {L : Int} {t : List (List In)} {l : List Int} (hl : ∀ th ∈ t, ldN th = 0) : roundF L t (roundF L t l) = roundF L t l := by
  refine sortU_eq (sortU_asc _) fun x => ?_
  have e : t.flatMap (rowF L (roundF L t l)) = t.flatMap (rowF L l) := flat_congr t fun th ht => row_noload (hl th ht)
  rw [e]
  unfold roundF
  simp only [sortU_mem, List.mem_append]
  constructor
  · intro h; exact .inl h
  · rintro (h | h)
    · exact h
    · exact .inr h
theorem ofN_noload {L : Int} {t : List (List In)} (hl : ∀ th ∈ t, ldN th = 0) : ∀ (n : Nat) (l : List Int), roundF L t l = l → (ofN L t n l).2 = 0 → (ofN L t n l).1 = l
  | 0, l, _, _ => rfl
  | n + 1, l, hr, h => by
    rw [ofN, hr] at h ⊢
    split at h
    · cases h
    rename_i h9
    rw [if_neg h9]
    exact ofN_noload hl n l hr h
theorem of_quiet {i : List Int} {t : List (List In)} (hok : okTest i t = true) (h : (ofF i t).2 = 0) (hs : 0 < kcT 2 t) (hl : kcT 1 t = 0) : (ofF i t).1 = sortU (sortU i ++ t.flatMap (rowF i.length [])) := by
  have hl := kc_ld hl
  have e : roundF i.length t (sortU i) = sortU (sortU i ++ t.flatMap (rowF i.length [])) := by
    unfold roundF
    rw [flat_congr t fun th ht => row_noload (c := []) (hl th ht)]
  unfold ofF at h ⊢
  rw [if_pos hok] at h ⊢
  obtain ⟨n, hn⟩ : ∃ n, (kcT 2 t).toNat = n + 1 := ⟨(kcT 2 t).toNat - 1, by omega⟩
  rw [hn, ofN] at h ⊢
  split at h
  · cases h
  rename_i h9
  rw [if_neg h9, ← e]
  exact ofN_noload hl n _ (round_idem hl) h
theorem of_still {i : List Int} {t : List (List In)} (hok : okTest i t = true) (hs : kcT 2 t = 0) : ofF i t = (sortU i, 0) := by
  unfold ofF
  rw [if_pos hok, hs]
  rfl
end Go.Eng
