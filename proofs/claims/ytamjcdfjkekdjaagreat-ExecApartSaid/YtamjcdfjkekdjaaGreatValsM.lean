import Derived.Test.YtamjcdfjkekdjaaGreatValsQ
import Derived.Test.YtamjcdfjkekdjaaGreatFlowE
set_option linter.unusedSimpArgs false
set_option linter.unusedVariables false
set_option linter.constructorNameAsVariable false
set_option autoImplicit false
namespace Go.Eng
open Go Go.RowKit Go.Proofs
theorem tell_run {th : List In} {locs : Int} {vals : List Int} : ∀ (f : Nat) (v : List Int) (b : List Bool), (∀ n ∈ v, n ∈ vals) → ∀ R ∈ tellF th locs vals f v b, ∃ v' b', R = runF th locs v' b' ∧ (∀ n ∈ v', n ∈ vals) ∧ R.more = 0
  | 0, v, b, _, R, h => by simp [tellF] at h
  | f + 1, v, b, hv, R, h => by
    rw [tellF] at h
    split at h
    · rename_i h0
      simp only [List.mem_singleton] at h
      subst h
      exact ⟨v, b, rfl, hv, h0⟩
    split at h
    · obtain ⟨n, hn, h⟩ := List.mem_flatMap.1 h
      exact tell_run f (v ++ [n]) b (fun m hm => by
        rcases List.mem_append.1 hm with hm | hm
        · exact hv m hm
        · rw [List.mem_singleton] at hm; rw [hm]; exact hn) R h
    · rcases List.mem_append.1 h with h | h
      · exact tell_run f v _ hv R h
      · exact tell_run f v _ hv R h
theorem traces_run {th : List In} {locs : Int} {vals : List Int} : ∀ R ∈ tracesF th locs vals, ∃ v' b', R = runF th locs v' b' ∧ (∀ n ∈ v', n ∈ vals) ∧ R.more = 0 := by
  unfold tracesF
  split
  · simp
  · exact tell_run 13 [] [] (by simp)
structure TrOk (R : Rn) : Prop where
  w : RnW R
  es : R.es.length ≤ 8
  ad : R.ad.length = R.es.length
  da : R.da.length = R.es.length
  ct : R.ct.length = R.es.length
  pa : R.pa.length = R.es.length
  more : R.more = 0
theorem traces_ok {th : List In} {locs : Int} {vals : List Int} (hth : ∀ x ∈ th, wfIn x) (hv : ∀ n ∈ vals, W64 n) : ∀ R ∈ tracesF th locs vals, TrOk R := by
  intro R hR
  obtain ⟨v, b, rfl, h1, h2⟩ := traces_run R hR
  obtain ⟨w, k, hk, hI⟩ := run_wf (locs := locs) (lucks := b) hth (fun n hn => hv n (h1 n hn))
  exact ⟨w, Nat.le_trans hI.es hk, hI.ad, hI.da, hI.ct, hI.pa, h2⟩
theorem tell_mono {th : List In} {locs : Int} {a c : List Int} (h : ∀ n ∈ a, n ∈ c) : ∀ (f : Nat) (v : List Int) (b : List Bool), ∀ R ∈ tellF th locs a f v b, R ∈ tellF th locs c f v b
  | 0, v, b, R, hR => by simp [tellF] at hR
  | f + 1, v, b, R, hR => by
    rw [tellF] at hR ⊢
    split at hR
    · rename_i h0; rw [if_pos h0]; exact hR
    rename_i h0
    rw [if_neg h0]
    split at hR
    · rename_i h1
      rw [if_pos h1]
      obtain ⟨n, hn, hR⟩ := List.mem_flatMap.1 hR
      exact List.mem_flatMap.2 ⟨n, h n hn, tell_mono h f _ _ R hR⟩
    · rename_i h1
      rw [if_neg h1]
      rcases List.mem_append.1 hR with hR | hR
      · exact List.mem_append.2 (.inl (tell_mono h f _ _ R hR))
      · exact List.mem_append.2 (.inr (tell_mono h f _ _ R hR))
end Go.Eng
