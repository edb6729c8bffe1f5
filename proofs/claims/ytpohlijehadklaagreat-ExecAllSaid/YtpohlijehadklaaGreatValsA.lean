import Derived.Test.YtpohlijehadklaaGreatValsQ
import Derived.Test.YtpohlijehadklaaGreatFlowD
import Derived.Test.YtpohlijehadklaaGreatEngF
set_option linter.unusedSimpArgs false
set_option linter.unusedVariables false
set_option linter.constructorNameAsVariable false
set_option autoImplicit false
namespace Go.Eng
open Go Go.RowKit Go.Proofs
theorem filter_take_succ' {α : Type} {p : α → Bool} {l : List α} {n : Nat} (h : n < l.length) : (l.take (n + 1)).filter p = (l.take n).filter p ++ (if p l[n] = true then [l[n]] else []) := by
  rw [List.take_add_one, List.getElem?_eq_getElem h, List.filter_append]
  cases hp : p l[n] <;> simp [hp]
set_option maxHeartbeats 16000000 in
theorem c_loads {th : List In} (hl : th.length ≤ maxLen) : SC Tryz.prog 26 [.pv (.sl 6 (insL th))] (I .i64 (ldN th)) := by
  refine scx_of Tryz.func26 rfl rfl rfl (Nat.le_of_ble_eq_true rfl) ?_
  repeat' (first
 | refine ar_end rfl ?_
 | refine ar_go3 _ rfl (by simp [insL_len, insL_getE, inL, ints_len, ints_getE, bls_len, bls_getE]; exact ⟨rfl, rfl, rfl⟩) rfl ?_
 | refine aw_sregK 0 [0] ?_
 | refine aw_sregK 1 [0] ?_
 | refine aw_sregK 2 [0, 3] ?_
 | refine aw_seq ?_
 | refine aw_block ?_)
  refine aw_loopN [3, 6, 7, 8] [] (by simp; exact rfl) (ι := {i : Nat // i ≤ th.length}) (fun i => ⟨19, [(3, I .i64 (ldN (th.take i.1))), (6, .pv (.sl 6 (insL th))), (7, I .i64 th.length), (8, I .i64 i.1)], []⟩) (fun i => th.length - i.1) ⟨0, by omega⟩ (by simp [ldN]) ?_
  rintro ⟨i, hi⟩
  by_cases hlt : i < th.length
  · have hw := wrap_succ hlt hl
    have hc : (i : Int) < (th.length : Int) := by omega
    have hs : ldN (th.take (i + 1)) = ldN (th.take i) + (if kindF th[i].op = 1 then 1 else 0) := by
      unfold ldN; rw [filter_take_succ' hlt, List.length_append]
      by_cases h : kindF th[i].op = 1 <;> simp [h]
    have hb : ldN (th.take i) ≤ i := by unfold ldN; exact Nat.le_trans (List.length_filter_le _ _) (by simp; omega)
    have hM : maxLen = 9223372036854775807 := rfl
    generalize hx : th[i] = x at hs
    by_cases hk : kindF x.op = 1
    · rw [if_pos hk] at hs
      have hw2 : IntKind.wrap .i64 ((ldN (th.take i) : Int) + 1) = (ldN (th.take i) : Int) + 1 := wrap64s (by omega) (by omega)
      repeat' (first
 | refine ar_end rfl ?_
 | refine ar_fin rfl ?_
 | refine ar_callV Tryz.call48 c_ins_Kind rfl rfl rfl rfl rfl (by simp; done) (by rfl) (by simp; done) ?_
 | refine lq_normN [3, 6, 7, 8] [] (by simp; exact rfl) ⟨i + 1, by omega⟩ (by dsimp only; omega) (by simp [hs])
 | refine ar_go3 _ rfl (by simp [insL_len, insL_getE, inL, ints_len, ints_getE, bls_len, bls_getE, hlt, hw, hc, hx, hk, hw2]; exact ⟨rfl, rfl, rfl⟩) rfl ?_
 | refine aw_sregK 3 [3, 6, 7, 8] ?_
 | refine aw_sregK 4 [3, 6, 7, 8] ?_
 | refine aw_sregK 5 [3, 5, 6, 7, 8] ?_
 | refine aw_regK 6 [3, 6, 7, 8] ?_
 | refine aw_regK 7 [3, 6, 7, 8] ?_
 | refine aw_ifT (b := true) rfl rfl ?_
 | refine aw_seq ?_
 | refine aw_block ?_
 | refine aw_skip ?_)
    · rw [if_neg hk] at hs
      repeat' (first
 | refine ar_end rfl ?_
 | refine ar_fin rfl ?_
 | refine ar_callV Tryz.call48 c_ins_Kind rfl rfl rfl rfl rfl (by simp; done) (by rfl) (by simp; done) ?_
 | refine bq_norm ?_
 | refine lq_normN [3, 6, 7, 8] [] (by simp; exact rfl) ⟨i + 1, by omega⟩ (by dsimp only; omega) (by simp [hs])
 | refine ar_go3 _ rfl (by simp [insL_len, insL_getE, inL, ints_len, ints_getE, bls_len, bls_getE, hlt, hw, hc, hx, hk]; exact ⟨rfl, rfl, rfl⟩) rfl ?_
 | refine aw_sregK 3 [3, 6, 7, 8] ?_
 | refine aw_sregK 4 [3, 6, 7, 8] ?_
 | refine aw_sregK 5 [3, 5, 6, 7, 8] ?_
 | refine aw_regK 7 [3, 6, 7, 8] ?_
 | refine aw_ifT (b := true) rfl rfl ?_
 | refine aw_ifF (b := false) rfl rfl ?_
 | refine aw_seq ?_
 | refine aw_block ?_
 | refine aw_skip ?_)
  · have hc : ¬(i : Int) < (th.length : Int) := by omega
    have et : th.take i = th := List.take_of_length_le (by omega)
    repeat' (first
 | exact aw_ret (ret_vals (by simp; exact rfl) (by simp [et]; fail_if_success (show _)))
 | refine ar_end rfl ?_
 | refine ar_go3 _ rfl (by simp [insL_len, insL_getE, inL, ints_len, ints_getE, bls_len, bls_getE, hc, et]; exact ⟨rfl, rfl, rfl⟩) rfl ?_
 | refine aw_sregK 3 [3, 6, 7, 8] ?_
 | refine aw_sregK 8 [3] ?_
 | refine aw_ifF (b := false) rfl rfl ?_
 | refine aw_seq ?_
 | refine aw_exit ?_)
set_option maxHeartbeats 16000000 in
theorem c_CloneI {l : List Int} (hl : l.length ≤ 1000) : SCO Tryz.prog 24 [.pv (.sl 1 (ints l))] 2 1 (ints l) := by
  refine scx_of Tryz.func24 rfl rfl rfl (Nat.le_of_ble_eq_true rfl) ?_
  cases l with
  | nil =>
    refine aw_nilCase 0 1 rfl ?_
    intro a cap hcap
    cases a with
    | none =>
      refine aw_sregK 0 [0] ?_
      refine ar_go3 _ rfl (by simp; exact ⟨rfl, rfl, rfl⟩) rfl ?_
      refine ar_end rfl ?_
      refine aw_seq ?_
      refine aw_sregK 1 [0] ?_
      refine ar_go3 _ rfl (by simp; exact ⟨rfl, rfl, rfl⟩) rfl ?_
      refine ar_eqNilS rfl rfl rfl rfl (by simp; done) (by simp [isSliceT]; done) (by simp [isNilS]; exact rfl) ?_
      refine ar_end rfl ?_
      refine aw_ifT (b := true) rfl rfl ?_
      refine aw_sregK 2 [] ?_
      refine ar_go3 _ rfl (by simp; exact ⟨rfl, rfl, rfl⟩) rfl ?_
      refine ar_end rfl ?_
      refine aw_ret (tq_ret ?_)
      exact ret_ownNil 2 (by simp; exact rfl) (by simp) (by simp [ints])
    | some a =>
      refine aw_sregK 0 [0] ?_
      refine ar_go3 _ rfl (by simp; exact ⟨rfl, rfl, rfl⟩) rfl ?_
      refine ar_end rfl ?_
      refine aw_seq ?_
      refine aw_sregK 1 [0] ?_
      refine ar_go3 _ rfl (by simp; exact ⟨rfl, rfl, rfl⟩) rfl ?_
      refine ar_eqNilS rfl rfl rfl rfl (by simp; done) (by simp [isSliceT]; done) (by simp [isNilS]; exact rfl) ?_
      refine ar_end rfl ?_
      refine aw_ifF (b := false) rfl rfl ?_
      refine aw_skip ?_
      refine tq_norm ?_
      refine aw_empSl 0 1 (some a) cap hcap (by simp; done) ?_
      repeat' (first
 | refine ar_end rfl ?_
 | refine ar_appO rfl rfl rfl rfl rfl (by simp; exact rfl) rfl (by simp; exact rfl) (by simp; exact rfl) (by simp; exact ⟨rfl, rfl⟩) rfl (by simp; exact rfl) (by simp; done) (by decide) (by simp [ints_len, maxLen]; try omega) ?_
 | exact aw_ret (ret_own (.loc 7) (by simp; exact rfl) (by simp) (by simp [ints]))
 | refine ar_go3 _ rfl (by simp [*]; exact ⟨rfl, rfl, rfl⟩) rfl ?_
 | refine aw_sregK 3 [0] ?_)
  | cons x l =>
    have hl2 : l.length ≤ 1000 := by simp at hl; omega
    simp only [ints, List.map_cons] at *
    refine aw_sregK 0 [0] ?_
    refine ar_go3 _ rfl (by simp; exact ⟨rfl, rfl, rfl⟩) rfl ?_
    refine ar_end rfl ?_
    refine aw_seq ?_
    refine aw_sregK 1 [0] ?_
    refine ar_go3 _ rfl (by simp; exact ⟨rfl, rfl, rfl⟩) rfl ?_
    refine ar_eqNilS rfl rfl rfl rfl (by simp; done) (by simp [isSliceT]; done) (by simp [isNilS]; exact rfl) ?_
    refine ar_end rfl ?_
    refine aw_ifF (b := false) rfl rfl ?_
    refine aw_skip ?_
    refine tq_norm ?_
    repeat' (first
 | refine ar_end rfl ?_
 | refine ar_appO rfl rfl rfl rfl rfl (by simp; exact rfl) rfl (by simp; exact rfl) (by simp; exact rfl) (by simp; exact ⟨rfl, rfl⟩) rfl (by simp; exact rfl) (by simp; done) (by decide) (by simp [ints_len, maxLen]; try omega) ?_
 | exact aw_ret (ret_own (.loc 7) (by simp; exact rfl) (by simp) (by simp [ints]))
 | refine ar_go3 _ rfl (by simp [*]; exact ⟨rfl, rfl, rfl⟩) rfl ?_
 | refine aw_sregK 3 [0] ?_)
set_option maxHeartbeats 16000000 in
theorem c_CloneB {l : List Bool} (hl : l.length ≤ 1000) : SCO Tryz.prog 29 [.pv (.sl 1 (bls l))] 4 1 (bls l) := by
  refine scx_of Tryz.func29 rfl rfl rfl (Nat.le_of_ble_eq_true rfl) ?_
  cases l with
  | nil =>
    refine aw_nilCase 0 1 rfl ?_
    intro a cap hcap
    cases a with
    | none =>
      refine aw_sregK 0 [0] ?_
      refine ar_go3 _ rfl (by simp; exact ⟨rfl, rfl, rfl⟩) rfl ?_
      refine ar_end rfl ?_
      refine aw_seq ?_
      refine aw_sregK 1 [0] ?_
      refine ar_go3 _ rfl (by simp; exact ⟨rfl, rfl, rfl⟩) rfl ?_
      refine ar_eqNilS rfl rfl rfl rfl (by simp; done) (by simp [isSliceT]; done) (by simp [isNilS]; exact rfl) ?_
      refine ar_end rfl ?_
      refine aw_ifT (b := true) rfl rfl ?_
      refine aw_sregK 2 [] ?_
      refine ar_go3 _ rfl (by simp; exact ⟨rfl, rfl, rfl⟩) rfl ?_
      refine ar_end rfl ?_
      refine aw_ret (tq_ret ?_)
      exact ret_ownNil 2 (by simp; exact rfl) (by simp) (by simp [bls])
    | some a =>
      refine aw_sregK 0 [0] ?_
      refine ar_go3 _ rfl (by simp; exact ⟨rfl, rfl, rfl⟩) rfl ?_
      refine ar_end rfl ?_
      refine aw_seq ?_
      refine aw_sregK 1 [0] ?_
      refine ar_go3 _ rfl (by simp; exact ⟨rfl, rfl, rfl⟩) rfl ?_
      refine ar_eqNilS rfl rfl rfl rfl (by simp; done) (by simp [isSliceT]; done) (by simp [isNilS]; exact rfl) ?_
      refine ar_end rfl ?_
      refine aw_ifF (b := false) rfl rfl ?_
      refine aw_skip ?_
      refine tq_norm ?_
      refine aw_empSl 0 1 (some a) cap hcap (by simp; done) ?_
      repeat' (first
 | refine ar_end rfl ?_
 | refine ar_appO rfl rfl rfl rfl rfl (by simp; exact rfl) rfl (by simp; exact rfl) (by simp; exact rfl) (by simp; exact ⟨rfl, rfl⟩) rfl (by simp; exact rfl) (by simp; done) (by decide) (by simp [bls_len, maxLen]; try omega) ?_
 | exact aw_ret (ret_own (.loc 7) (by simp; exact rfl) (by simp) (by simp [bls]))
 | refine ar_go3 _ rfl (by simp [*]; exact ⟨rfl, rfl, rfl⟩) rfl ?_
 | refine aw_sregK 3 [0] ?_)
  | cons x l =>
    have hl2 : l.length ≤ 1000 := by simp at hl; omega
    simp only [bls, List.map_cons] at *
    refine aw_sregK 0 [0] ?_
    refine ar_go3 _ rfl (by simp; exact ⟨rfl, rfl, rfl⟩) rfl ?_
    refine ar_end rfl ?_
    refine aw_seq ?_
    refine aw_sregK 1 [0] ?_
    refine ar_go3 _ rfl (by simp; exact ⟨rfl, rfl, rfl⟩) rfl ?_
    refine ar_eqNilS rfl rfl rfl rfl (by simp; done) (by simp [isSliceT]; done) (by simp [isNilS]; exact rfl) ?_
    refine ar_end rfl ?_
    refine aw_ifF (b := false) rfl rfl ?_
    refine aw_skip ?_
    refine tq_norm ?_
    repeat' (first
 | refine ar_end rfl ?_
 | refine ar_appO rfl rfl rfl rfl rfl (by simp; exact rfl) rfl (by simp; exact rfl) (by simp; exact rfl) (by simp; exact ⟨rfl, rfl⟩) rfl (by simp; exact rfl) (by simp; done) (by decide) (by simp [bls_len, maxLen]; try omega) ?_
 | exact aw_ret (ret_own (.loc 7) (by simp; exact rfl) (by simp) (by simp [bls]))
 | refine ar_go3 _ rfl (by simp [*]; exact ⟨rfl, rfl, rfl⟩) rfl ?_
 | refine aw_sregK 3 [0] ?_)
end Go.Eng
