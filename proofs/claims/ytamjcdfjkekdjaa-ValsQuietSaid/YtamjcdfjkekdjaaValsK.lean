import Derived.Test.YtamjcdfjkekdjaaValsJ
import Derived.Test.YtamjcdfjkekdjaaValsI
import Derived.Test.YtamjcdfjkekdjaaEngF
set_option linter.unusedSimpArgs false
set_option linter.unusedVariables false
set_option linter.constructorNameAsVariable false
set_option autoImplicit false
namespace Go.Eng
open Go Go.RowKit Go.Proofs
set_option maxHeartbeats 16000000 in
theorem c_real9 {R : Rn} : SC Try.prog 75 [.agg (trL R)] (.agg (trL R)) := by
  refine scx_of Try.func75 rfl rfl rfl (Nat.le_of_ble_eq_true rfl) ?_
  repeat' (first
 | exact aw_ret (ret_vals (by simp; exact rfl) (by simp [*]; fail_if_success (show _)))
 | refine ar_end rfl ?_
 | refine ar_go3 _ rfl (by simp [*]; exact ⟨rfl, rfl, rfl⟩) rfl ?_
 | refine aw_sregK 0 [0] ?_
 | refine aw_sregK 1 [1, 2] ?_
 | refine aw_sregK 2 [1, 2, 3] ?_)
theorem wvals_len {ts : List Rn} (h : ∀ R ∈ ts, R.es.length ≤ 8) : (wvals ts).length ≤ ts.length * 8 :=
  flatMap_len fun R hR => Nat.le_trans (by unfold wvalR; rw [List.length_map]; exact List.length_filter_le _ _) (h R hR)
set_option maxHeartbeats 16000000 in
theorem c_WroteV {ts : List Rn} (hn : ts.length ≤ 1048576) (hok : ∀ R ∈ ts, TrOk R) : SC Try.prog 77 [.pv (.sl 16 (trsL ts))] (.pv (.sl 1 (ints (sortU (wvals ts))))) ∧ (sortU (wvals ts)).length ≤ 8388608 :=
  ⟨sco_sc (c_Wrote (by omega) (fun R h => Nat.le_trans (hok R h).es (by decide)) (fun R h e he => ((hok R h).w.es e he).2.2.2)), by
    have h1 := sortU_le (wvals ts)
    have h2 := wvals_len (ts := ts) fun R h => (hok R h).es
    omega⟩
set_option maxHeartbeats 16000000 in
theorem c_r9Wrote0 {ts : List Rn} (hn : ts.length ≤ 1048576) (hok : ∀ R ∈ ts, TrOk R) : SC Try.prog 78 [.pv (.v (.slice none 0 0)), .pv (.sl 16 (trsL ts))] (.pv (.sl 1 (ints (sortU (wvals ts))))) := by
  have h := c_r9Wrote (out := []) (ts := ts) (by omega) (fun R h => Nat.le_trans (hok R h).es (by decide)) (by simp)
  refine SCX.pre (args' := [.pv (.sl 1 (ints [])), .pv (.sl 16 (trsL ts))]) ?_ rfl h
  refine (Sub.nilSl _ 0 1).trans (Sub.of ?_ (fun p hp => ?_) (fun p hp => ?_))
  · simp [AState.nilSl, isNilV, ints]
  · simp [AState.nilSl, isNilV, ints] at hp ⊢
    rcases hp with rfl | rfl <;> simp
  · cases hp
theorem asc_next {w : List Int} (ha : Asc w) {i : Nat} (h : i + 1 < w.length) : ¬w[i + 1] ≤ w[i] := by
  have := List.pairwise_iff_getElem.1 ha i (i + 1) (by omega) h (by omega)
  omega
end Go.Eng
