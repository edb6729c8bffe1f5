import Derived.Test.YtpohlijehadklaaGreatValsQ
import Derived.Test.YtpohlijehadklaaGreatFlowE
import Derived.Test.YtpohlijehadklaaGreatValsG
set_option linter.unusedSimpArgs false
set_option linter.unusedVariables false
set_option linter.constructorNameAsVariable false
set_option autoImplicit false
namespace Go.Eng
open Go Go.RowKit Go.Proofs
theorem tell_run {th : List In} {locs : Int} {vals : List Int} : ∀ (f : Nat) (v : List Int) (b : List Bool), (∀ n ∈ v, n ∈ vals) → ∀ R ∈ tellF th locs vals f v b, ∃ v' b', R = runF th locs v' b' ∧ (∀ n ∈ v', n ∈ vals) ∧ R.more = 0
  | 0, v, b, _, R, h => by simp [tellF] at h
  | f + 1, v, b, hv, R, h => by
    rw [tellF] at h
    split at h
    · rename_i h0
      simp only [List.mem_singleton] at h
      subst h
      exact ⟨v, b, rfl, hv, h0⟩
    split at h
    · obtain ⟨n, hn, h⟩ := List.mem_flatMap.1 h
      exact tell_run f (v ++ [n]) b (fun m hm => by
        rcases List.mem_append.1 hm with hm | hm
        · exact hv m hm
        · rw [List.mem_singleton] at hm; rw [hm]; exact hn) R h
    · rcases List.mem_append.1 h with h | h
      · exact tell_run f v _ hv R h
      · exact tell_run f v _ hv R h
theorem traces_run {th : List In} {locs : Int} {vals : List Int} : ∀ R ∈ tracesF th locs vals, ∃ v' b', R = runF th locs v' b' ∧ (∀ n ∈ v', n ∈ vals) ∧ R.more = 0 := by
  unfold tracesF
  split
  · simp
  · exact tell_run 13 [] [] (by simp)
structure TrOk (R : Rn) : Prop where
  w : RnW R
  es : R.es.length ≤ 8
  ad : R.ad.length = R.es.length
  da : R.da.length = R.es.length
  ct : R.ct.length = R.es.length
  pa : R.pa.length = R.es.length
  more : R.more = 0
theorem traces_ok {th : List In} {locs : Int} {vals : List Int} (hth : ∀ x ∈ th, wfIn x) (hv : ∀ n ∈ vals, W64 n) : ∀ R ∈ tracesF th locs vals, TrOk R := by
  intro R hR
  obtain ⟨v, b, rfl, h1, h2⟩ := traces_run R hR
  obtain ⟨w, k, hk, hI⟩ := run_wf (locs := locs) (lucks := b) hth (fun n hn => hv n (h1 n hn))
  exact ⟨w, Nat.le_trans hI.es hk, hI.ad, hI.da, hI.ct, hI.pa, h2⟩
theorem tell_mono {th : List In} {locs : Int} {a c : List Int} (h : ∀ n ∈ a, n ∈ c) : ∀ (f : Nat) (v : List Int) (b : List Bool), ∀ R ∈ tellF th locs a f v b, R ∈ tellF th locs c f v b
  | 0, v, b, R, hR => by simp [tellF] at hR
  | f + 1, v, b, R, hR => by
    rw [tellF] at hR ⊢
    split at hR
    · rename_i h0; rw [if_pos h0]; exact hR
    rename_i h0
    rw [if_neg h0]
    split at hR
    · rename_i h1
      rw [if_pos h1]
      obtain ⟨n, hn, hR⟩ := List.mem_flatMap.1 hR
      exact List.mem_flatMap.2 ⟨n, h n hn, tell_mono h f _ _ R hR⟩
    · rename_i h1
      rw [if_neg h1]
      rcases List.mem_append.1 hR with hR | hR
      · exact List.mem_append.2 (.inl (tell_mono h f _ _ R hR))
      · exact List.mem_append.2 (.inr (tell_mono h f _ _ R hR))
end Go.Eng
set_option linter.unusedSimpArgs false
set_option linter.unusedVariables false
set_option linter.constructorNameAsVariable false
set_option autoImplicit false
namespace Go.Eng
open Go Go.RowKit Go.Proofs
theorem row_mono {L : Int} {a c : List Int} {th : List In} (h : ∀ n ∈ a, n ∈ c) : ∀ x ∈ rowF L a th, x ∈ rowF L c th := by
  intro x hx
  refine (sortU_mem _ x).2 ?_
  have hx := (sortU_mem _ x).1 hx
  obtain ⟨R, hR, hx⟩ := List.mem_flatMap.1 hx
  refine List.mem_flatMap.2 ⟨R, ?_, hx⟩
  unfold tracesF at hR ⊢
  split at hR
  · cases hR
  · rename_i h4; rw [if_neg h4]; exact tell_mono h 13 [] [] R hR
theorem ofN_res {L : Int} {t : List (List In)} : ∀ (n : Nat) (l : List Int), Asc l → l.length ≤ 8 → (ofN L t n l).2 = 0 → Asc (ofN L t n l).1 ∧ (ofN L t n l).1.length ≤ 8 ∧ ∀ x ∈ l, x ∈ (ofN L t n l).1
  | 0, l, ha, h8, _ => ⟨ha, h8, fun x hx => hx⟩
  | n + 1, l, ha, h8, h => by
    rw [ofN] at h ⊢
    split at h
    · cases h
    rename_i h9
    rw [if_neg h9]
    obtain ⟨r1, r2, r3⟩ := ofN_res n (roundF L t l) (sortU_asc _) (by omega) h
    exact ⟨r1, r2, fun x hx => r3 x ((sortU_mem _ x).2 (List.mem_append.2 (.inl hx)))⟩
theorem ofN_row {L : Int} {t : List (List In)} {n : Nat} {l : List Int} (hn : 0 < n) (h : (ofN L t n l).2 = 0) : ∀ th ∈ t, ∀ x ∈ rowF L l th, x ∈ (ofN L t n l).1 := by
  obtain ⟨n, rfl⟩ : ∃ m, n = m + 1 := ⟨n - 1, by omega⟩
  intro th ht x hx
  rw [ofN] at h ⊢
  split at h
  · cases h
  rename_i h9
  rw [if_neg h9]
  exact (ofN_res n (roundF L t l) (sortU_asc _) (by omega) h).2.2 x ((sortU_mem _ x).2 (List.mem_append.2 (.inr (List.mem_flatMap.2 ⟨th, ht, hx⟩))))
theorem of_ok {i : List Int} {t : List (List In)} (h : (ofF i t).2 = 0) : okTest i t = true := by
  unfold ofF at h
  split at h
  · assumption
  · rename_i ho
    unfold okTest at ho
    exact absurd h (by simpa using ho)
structure ClosedQ (i : List Int) (t : List (List In)) (l : List Int) : Prop where
  init : ∀ x ∈ i, x ∈ l
  asc : Asc l
  le : l.length ≤ 8
  pos : 1 ≤ l.length
  rows : 0 < kcT 2 t → ∀ th ∈ t, ∀ x ∈ rowF i.length i th, x ∈ l
theorem of_closed {i : List Int} {t : List (List In)} (h : (ofF i t).2 = 0) : ClosedQ i t (ofF i t).1 := by
  have hok := of_ok h
  obtain ⟨hi3, ht3, hi1, _, hts⟩ := ok_facts hok
  have h8 : (sortU i).length ≤ 8 := Nat.le_trans (sortU_le i) (by omega)
  unfold ofF at h ⊢
  rw [if_pos hok] at h ⊢
  obtain ⟨r1, r2, r3⟩ := ofN_res _ _ (sortU_asc i) h8 h
  have r4 : ∀ x ∈ i, x ∈ (ofN i.length t (kcT 2 t).toNat (sortU i)).1 := fun x hx => r3 x ((sortU_mem i x).2 hx)
  refine ⟨r4, r1, r2, ?_, fun hs th ht x hx => ofN_row (by omega) h th ht x (row_mono (fun n hn => (sortU_mem i n).2 hn) x hx)⟩
  cases i with
  | nil => simp at hi1
  | cons a i => exact List.length_pos_of_mem (r4 a (by simp))
theorem kcT_nn (k : Int) : ∀ t : List (List In), 0 ≤ kcT k t
  | [] => by simp [kcT]
  | l :: t => by
    have h1 := (kc_bnd k l).1
    have h2 := kcT_nn k t
    rw [kcT]; omega
end Go.Eng
