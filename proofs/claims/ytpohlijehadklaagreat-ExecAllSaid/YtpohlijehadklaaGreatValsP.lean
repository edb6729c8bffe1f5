import Derived.Lib.SlicesCompact
set_option autoImplicit false
namespace Go.Eng
def putF : List Int → Int → List Int
  | [], n => [n]
  | x :: l, n => if x < n then x :: putF l n else if x = n then x :: l else n :: x :: l
abbrev Asc (l : List Int) : Prop := l.Pairwise (· < ·)
theorem putF_mem : ∀ (l : List Int) (n m : Int), m ∈ putF l n ↔ m ∈ l ∨ m = n
  | [], n, m => by simp [putF]
  | x :: l, n, m => by
    unfold putF
    split
    · simp only [List.mem_cons, putF_mem l n m, or_assoc]
    · split
      · rename_i h; subst h
        simp only [List.mem_cons]
        constructor
        · exact .inl
        · rintro (h | h)
          · exact h
          · exact .inl h
      · simp only [List.mem_cons]
        constructor
        · rintro (h | h)
          · exact .inr h
          · exact .inl h
        · rintro (h | h)
          · exact .inr h
          · exact .inl h
theorem putF_asc : ∀ (l : List Int) (n : Int), Asc l → Asc (putF l n)
  | [], n, _ => by simp [putF]
  | x :: l, n, h => by
    obtain ⟨h1, h2⟩ := List.pairwise_cons.1 h
    unfold putF
    split
    · rename_i hx
      refine List.pairwise_cons.2 ⟨fun y hy => ?_, putF_asc l n h2⟩
      rcases (putF_mem l n y).1 hy with hy | rfl
      · exact h1 y hy
      · exact hx
    · split
      · exact h
      · refine List.pairwise_cons.2 ⟨fun y hy => ?_, h⟩
        rcases List.mem_cons.1 hy with rfl | hy
        · omega
        · have := h1 y hy; omega
theorem foldl_putF : ∀ (l s : List Int), Asc s → Asc (l.foldl putF s) ∧ ∀ x, x ∈ l.foldl putF s ↔ x ∈ s ∨ x ∈ l
  | [], s, h => ⟨h, by simp⟩
  | n :: l, s, h => by
    obtain ⟨h1, h2⟩ := foldl_putF l (putF s n) (putF_asc s n h)
    refine ⟨h1, fun x => ?_⟩
    rw [List.foldl_cons, h2 x, putF_mem, List.mem_cons, or_assoc]
theorem asc_nodup {l : List Int} (h : Asc l) : l.Nodup := h.imp fun h => by omega
theorem asc_ext {a b : List Int} (ha : Asc a) (hb : Asc b) (h : ∀ x, x ∈ a ↔ x ∈ b) : a = b :=
  List.Perm.eq_of_pairwise (le := (· < ·)) (fun x y _ _ h1 h2 => by omega) ha hb ((List.perm_ext_iff_of_nodup (asc_nodup ha) (asc_nodup hb)).2 h)
def sortU (l : List Int) : List Int := l.foldl putF []
theorem sortU_asc (l : List Int) : Asc (sortU l) := (foldl_putF l [] List.Pairwise.nil).1
theorem sortU_mem (l : List Int) (x : Int) : x ∈ sortU l ↔ x ∈ l := by
  have := (foldl_putF l [] List.Pairwise.nil).2 x
  simpa [sortU] using this
theorem sortU_eq {l a : List Int} (ha : Asc a) (h : ∀ x, x ∈ a ↔ x ∈ l) : sortU l = a := asc_ext (sortU_asc l) ha fun x => (sortU_mem l x).trans (h x).symm
theorem sortU_id {l : List Int} (h : Asc l) : sortU l = l := sortU_eq h fun _ => Iff.rfl
theorem foldl_sortU {s l : List Int} (h : Asc s) : l.foldl putF s = sortU (s ++ l) := (sortU_eq (foldl_putF l s h).1 fun x => by rw [(foldl_putF l s h).2 x, List.mem_append]).symm
theorem sortU_congr {a b : List Int} (h : ∀ x, x ∈ a ↔ x ∈ b) : sortU a = sortU b := sortU_eq (sortU_asc b) fun x => (sortU_mem b x).trans (h x).symm
theorem msort_pair (l : List Int) : (l.mergeSort (fun x y => decide (x ≤ y))).Pairwise (· ≤ ·) := by
  have tr : ∀ a b c : Int, decide (a ≤ b) = true → decide (b ≤ c) = true → decide (a ≤ c) = true := fun a b c h1 h2 => by simp only [decide_eq_true_eq] at *; omega
  have to : ∀ a b : Int, (decide (a ≤ b) || decide (b ≤ a)) = true := fun a b => by simp only [Bool.or_eq_true, decide_eq_true_eq]; omega
  exact (List.pairwise_mergeSort tr to l).imp fun h => by simpa using h
theorem msort_sortU {l : List Int} (h : l.Nodup) : l.mergeSort (fun x y => decide (x ≤ y)) = sortU l := by
  refine (sortU_eq ?_ fun x => (List.mergeSort_perm l _).mem_iff).symm
  have hn : (l.mergeSort (fun x y => decide (x ≤ y))).Nodup := (List.mergeSort_perm l _).nodup_iff.2 h
  exact ((msort_pair l).and hn).imp fun ⟨h1, h2⟩ => by omega
end Go.Eng
set_option linter.unusedSimpArgs false
set_option autoImplicit false
namespace Go.Eng
open Go
theorem vcu_mem (d : Array Int) : ∀ m x, x ∈ Lib.compactUpTo d m ↔ ∃ j, j < m ∧ d[j]! = x
  | 0, x => by simp [Lib.compactUpTo]
  | m + 1, x => by
    rw [Lib.compactUpTo_succ, List.mem_append, vcu_mem d m x]
    constructor
    · rintro (⟨j, h1, h2⟩ | h)
      · exact ⟨j, by omega, h2⟩
      · split at h
        · exact ⟨m, by omega, by rw [List.mem_singleton] at h; exact h.symm⟩
        · cases h
    · rintro ⟨j, h1, h2⟩
      by_cases hj : j < m
      · exact .inl ⟨j, hj, h2⟩
      · have hjm : j = m := by omega
        subst hjm
        by_cases hk : Lib.keeps d j = true
        · right; rw [if_pos hk]; simp [h2]
        · left
          have hm : ¬(j = 0 ∨ d[j]! ≠ d[j - 1]!) := by
            unfold Lib.keeps at hk
            exact fun h => hk (decide_eq_true h)
          have h0 : ¬j = 0 := fun h => hm (.inl h)
          have h3 : d[j]! = d[j - 1]! := Classical.not_not.1 fun h => hm (.inr h)
          exact ⟨j - 1, by omega, by rw [← h3]; exact h2⟩
theorem vcu_lt (d : Array Int) (n : Nat) (hs : ∀ i j, i ≤ j → j < n → d[i]! ≤ d[j]!) : ∀ m, m ≤ n → (Lib.compactUpTo d m).Pairwise (· < ·)
  | 0, _ => by simp [Lib.compactUpTo]
  | m + 1, h => by
    rw [Lib.compactUpTo_succ, List.pairwise_append]
    refine ⟨vcu_lt d n hs m (by omega), by split <;> simp, fun x hx y hy => ?_⟩
    split at hy
    · rename_i hk
      rw [List.mem_singleton] at hy
      subst hy
      obtain ⟨j, h1, rfl⟩ := (vcu_mem d m x).1 hx
      unfold Lib.keeps at hk
      have hk := of_decide_eq_true hk
      have h4 := hs j (m - 1) (by omega) (by omega)
      have h5 := hs (m - 1) m (by omega) (by omega)
      rcases hk with hk | hk
      · omega
      · omega
    · cases hy
theorem vcompact_le (l : List Int) : (Lib.compact l).length ≤ l.length := by
  unfold Lib.compact Lib.compactUpTo
  exact Nat.le_trans (by simp; exact List.length_filter_le _ _) (by simp)
/-- 'slices.Compact(slices.Sorted(..))' -/
theorem compact_msort (l : List Int) : Lib.compact (l.mergeSort fun x y => decide (x ≤ y)) = sortU l := by
  have hp := msort_pair l
  have hm : ∀ x, x ∈ l.mergeSort (fun x y => decide (x ≤ y)) ↔ x ∈ l := fun x => (List.mergeSort_perm l _).mem_iff
  generalize l.mergeSort (fun x y => decide (x ≤ y)) = s at *
  refine (sortU_eq ?_ fun x => ?_).symm
  · unfold Lib.compact
    refine vcu_lt s.toArray s.length (fun i j hij hj => ?_) _ (Nat.le_refl _)
    have := List.pairwise_iff_getElem.1 hp
    have hi : i < s.length := by omega
    simp [hi, hj]
    by_cases h : i = j
    · subst h; omega
    · exact this i j hi hj (by omega)
  · rw [← hm x]
    unfold Lib.compact
    rw [vcu_mem, List.mem_iff_getElem]
    constructor
    · rintro ⟨j, h1, h2⟩
      exact ⟨j, h1, by rw [← h2]; simp [h1]⟩
    · rintro ⟨j, h1, h2⟩
      exact ⟨j, h1, by rw [← h2]; simp [h1]⟩
end Go.Eng
