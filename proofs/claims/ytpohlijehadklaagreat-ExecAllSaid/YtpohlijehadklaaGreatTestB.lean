import Derived.Test.YtpohlijehadklaaGreatTestA
import Derived.Test.YtpohlijehadklaaGreatEngC
set_option linter.unusedSimpArgs false
set_option linter.unusedVariables false
set_option linter.constructorNameAsVariable false
set_option autoImplicit false
namespace Go.Eng
open Go Go.RowKit Go.Proofs
theorem badT_cons {L : Int} {n : Nat} {th : List In} {t : List (List In)} (h1 : ¬(th.length : Int) < 1) (h2 : ¬8 < (th.length : Int)) : badT L n (th :: t) = (match badI L th.length 0 th with | some k => some (n, k, 2) | none => badT L (n + 1) t) := by
  rw [badT, if_neg (by omega)]
  rfl
theorem badT_len {L : Int} {n : Nat} {th : List In} {t : List (List In)} (h : (th.length : Int) < 1 ∨ 8 < (th.length : Int)) : badT L n (th :: t) = some ((n : Int), 0, 1) := by
  rw [badT, if_pos h]
theorem checkF_bad {i : List Int} {t : List (List In)} {p : Int × Int × Int} (hs : sizedF i t = true) (h : badT i.length 0 t = some p) : checkF i t = p := by simp [checkF, hs, h]
theorem checkF_none {i : List Int} {t : List (List In)} (hs : sizedF i t = true) (h : badT i.length 0 t = none) : checkF i t = if fullF t = true then (0, 0, 3) else (0, 0, 0) := by
  simp [checkF, hs, h]; try (cases fullF t <;> rfl)
theorem checkF_sz {i : List Int} {t : List (List In)} (hs : sizedF i t = false) : checkF i t = (0, 0, 1) := by simp [checkF, hs]
theorem few_of {i : List Int} {t : List (List In)} (hs : sizedF i t = true) (h : badT i.length 0 t = none) : Few i t := by
  simp [sizedF] at hs
  refine ⟨by omega, by omega, fun l hl => ?_⟩
  have := badT_none h l hl
  omega
set_option maxHeartbeats 16000000 in
theorem c_Check_f {i : List Int} {t : List (List In)} (hl : i.length ≤ maxLen) (hs : sizedF i t = false) : SC Tryz.prog 21 [.agg (testL i t)] (tri (checkF i t)) := by
  refine scx_of Tryz.func21 rfl rfl rfl (Nat.le_of_ble_eq_true rfl) ?_
  repeat' (first
 | exact aw_ret (ret_vals (by simp; exact rfl) (by simp [checkF_sz hs]; fail_if_success (show _)))
 | refine ar_end rfl ?_
 | refine ar_callV Tryz.call46 (c_sized hl) rfl rfl rfl rfl rfl (by simp; done) (by rfl) (by simp; done) ?_
 | refine ar_go3 _ rfl (by simp [insL_len, thsL_len, insL_getE, thsL_getE, inL, ints_len, hs]; exact ⟨rfl, rfl, rfl⟩) rfl ?_
 | refine aw_sregK 0 [0] ?_
 | refine aw_sregK 1 [1] ?_
 | refine aw_sregK 2 [] ?_
 | refine aw_ifT (b := true) rfl rfl ?_
 | refine aw_seq ?_)
set_option maxHeartbeats 16000000 in
theorem c_Check_t {i : List Int} {t : List (List In)} (hl : i.length ≤ maxLen) (hs : sizedF i t = true) : SC Tryz.prog 21 [.agg (testL i t)] (tri (checkF i t)) := by
  refine scx_of Tryz.func21 rfl rfl rfl (Nat.le_of_ble_eq_true rfl) ?_
  have hsz : (i.length : Int) ≤ 3 ∧ (t.length : Int) ≤ 3 := by simp [sizedF] at hs; omega
  repeat' (first
 | refine ar_end rfl ?_
 | refine ar_callV Tryz.call46 (c_sized hl) rfl rfl rfl rfl rfl (by simp; done) (by rfl) (by simp; done) ?_
 | refine ar_go3 _ rfl (by simp [insL_len, thsL_len, insL_getE, thsL_getE, inL, ints_len, hs]; exact ⟨rfl, rfl, rfl⟩) rfl ?_
 | refine aw_sregK 0 [0] ?_
 | refine aw_sregK 1 [1] ?_
 | refine aw_sregK 3 [1] ?_
 | refine aw_ifF (b := false) rfl rfl ?_
 | refine aw_seq ?_
 | refine aw_block ?_
 | refine aw_skip ?_)
  refine aw_loopN [1, 15, 16, 17] [.loc 1] (by simp; exact rfl) (ι := {n : Nat // n ≤ t.length ∧ badT i.length 0 t = badT i.length n (t.drop n)}) (fun n => ⟨66, [(1, .ptr (.loc 1) 0), (15, .pv (.sl 1 (thsL t))), (16, I .i64 t.length), (17, I .i64 n.1)], [(.loc 1, some (.box 25 [.pv (.sl 1 (ints i)), .pv (.sl 1 (thsL t))]))]⟩) (fun n => t.length - n.1) ⟨0, by omega, rfl⟩ (by simp [thsL_len]) ?_
  rintro ⟨n, hn, hp⟩
  by_cases hlt : n < t.length
  · have hc : (n : Int) < (t.length : Int) := by omega
    have hw : IntKind.wrap .i64 ((n : Int) + 1) = (n : Int) + 1 := wrap64s (by omega) (by omega)
    rw [List.drop_eq_getElem_cons hlt] at hp
    generalize hth : t[n] = th at hp
    by_cases q1 : (th.length : Int) < 1
    · have hr := checkF_bad hs (hp.trans (badT_len (.inl q1)))
      repeat' (first
 | exact aw_ret (ret_vals (by simp; exact rfl) (by simp [hr]; fail_if_success (show _)))
 | refine ar_end rfl ?_
 | refine ar_go3 _ rfl (by simp [insL_len, thsL_len, insL_getE, thsL_getE, inL, ints_len, hc, hlt, hth, q1]; exact ⟨rfl, rfl, rfl⟩) rfl ?_
 | refine aw_sregK 4 [1, 15, 16, 17] ?_
 | refine aw_sregK 5 [1, 15, 16, 17] ?_
 | refine aw_sregK 6 [1, 5, 6, 15, 16, 17] ?_
 | refine aw_sregK 7 [5] ?_
 | refine aw_ifT (b := true) rfl rfl ?_
 | refine aw_seq ?_
 | refine aw_block ?_
 | refine aw_skip ?_)
    by_cases q2 : 8 < (th.length : Int)
    · have hr := checkF_bad hs (hp.trans (badT_len (.inr q2)))
      repeat' (first
 | exact aw_ret (ret_vals (by simp; exact rfl) (by simp [hr]; fail_if_success (show _)))
 | refine ar_end rfl ?_
 | refine ar_go3 _ rfl (by simp [insL_len, thsL_len, insL_getE, thsL_getE, inL, ints_len, hc, hlt, hth, q1, q2]; exact ⟨rfl, rfl, rfl⟩) rfl ?_
 | refine aw_sregK 4 [1, 15, 16, 17] ?_
 | refine aw_sregK 5 [1, 15, 16, 17] ?_
 | refine aw_sregK 6 [1, 5, 6, 15, 16, 17] ?_
 | refine aw_sregK 7 [5] ?_
 | refine aw_ifT (b := true) rfl rfl ?_
 | refine aw_seq ?_
 | refine aw_block ?_
 | refine aw_skip ?_)
    rw [badT_cons q1 q2] at hp
    repeat' (first
 | refine ar_end rfl ?_
 | refine ar_go3 _ rfl (by simp [insL_len, thsL_len, insL_getE, thsL_getE, inL, ints_len, hc, hlt, hth, q1, q2]; exact ⟨rfl, rfl, rfl⟩) rfl ?_
 | refine aw_sregK 4 [1, 15, 16, 17] ?_
 | refine aw_sregK 5 [1, 15, 16, 17] ?_
 | refine aw_sregK 6 [1, 5, 6, 15, 16, 17] ?_
 | refine aw_sregK 8 [1, 5, 6, 15, 16, 17] ?_
 | refine aw_ifT (b := true) rfl rfl ?_
 | refine aw_ifF (b := false) rfl rfl ?_
 | refine aw_seq ?_
 | refine aw_block ?_
 | refine aw_skip ?_)
    refine aw_loopN [1, 5, 6, 15, 16, 17, 31, 32, 33] [.loc 1] (by simp; exact rfl) (ι := {j : Nat // j ≤ th.length ∧ badI i.length th.length 0 th = badI i.length th.length j (th.drop j)}) (fun j => ⟨66, [(1, .ptr (.loc 1) 0), (5, I .i64 n), (6, .pv (.sl 6 (insL th))), (15, .pv (.sl 1 (thsL t))), (16, I .i64 t.length), (17, I .i64 n), (31, .pv (.sl 6 (insL th))), (32, I .i64 th.length), (33, I .i64 j.1)], [(.loc 1, some (.box 25 [.pv (.sl 1 (ints i)), .pv (.sl 1 (thsL t))]))]⟩) (fun j => th.length - j.1) ⟨0, by omega, rfl⟩ (by simp [insL_len]) ?_
    rintro ⟨j, hj, hq⟩
    by_cases hjl : j < th.length
    · have hd : (j : Int) < (th.length : Int) := by omega
      have w1 : IntKind.wrap .i64 ((th.length : Int) - 1) = (th.length : Int) - 1 := wrap64s (by omega) (by omega)
      have w2 : IntKind.wrap .i64 ((th.length : Int) - 1 - (j : Int)) = (th.length : Int) - 1 - (j : Int) := wrap64s (by omega) (by omega)
      have w3 : IntKind.wrap .i64 ((j : Int) + 1) = (j : Int) + 1 := wrap64s (by omega) (by omega)
      rw [List.drop_eq_getElem_cons hjl] at hq
      generalize hx : th[j] = x at hq
      cases hm : mayI x ((th.length : Int) - 1 - (j : Int)) i.length
      · have hq1 : badI i.length th.length 0 th = some (j : Int) := by rw [hq, badI, hm]; rfl
        rw [hq1] at hp
        have hr := checkF_bad hs hp
        unfold mayI at hm
        repeat' (first
 | exact aw_ret (ret_vals (by simp; exact rfl) (by simp [hr]; fail_if_success (show _)))
 | refine ar_end rfl ?_
 | refine ar_callV Tryz.call47 c_May rfl rfl rfl rfl rfl (by simp; done) (by rfl) (by simp; done) ?_
 | refine ar_go3 _ rfl (by simp [insL_len, thsL_len, insL_getE, thsL_getE, inL, ints_len, hc, hlt, hth, hd, hjl, hx, w1, w2, hm]; exact ⟨rfl, rfl, rfl⟩) rfl ?_
 | refine aw_sregK 9 [1, 5, 6, 15, 16, 17, 31, 32, 33] ?_
 | refine aw_sregK 10 [1, 5, 6, 15, 16, 17, 31, 32, 33] ?_
 | refine aw_sregK 11 [1, 5, 6, 7, 8, 15, 16, 17, 31, 32, 33] ?_
 | refine aw_sregK 12 [5, 7] ?_
 | refine aw_ifT (b := true) rfl rfl ?_
 | refine aw_seq ?_
 | refine aw_block ?_
 | refine aw_skip ?_)
      · have hq1 : badI i.length th.length 0 th = badI i.length th.length (j + 1) (th.drop (j + 1)) := by rw [hq, badI, hm]; rfl
        unfold mayI at hm
        repeat' (first
 | refine ar_end rfl ?_
 | refine ar_fin rfl ?_
 | refine ar_callV Tryz.call47 c_May rfl rfl rfl rfl rfl (by simp; done) (by rfl) (by simp; done) ?_
 | refine lq_normN [1, 5, 6, 15, 16, 17, 31, 32, 33] [.loc 1] (by simp; exact rfl) ⟨j + 1, by omega, hq1⟩ (by dsimp only; omega) (by simp)
 | refine ar_go3 _ rfl (by simp [insL_len, thsL_len, insL_getE, thsL_getE, inL, ints_len, hc, hlt, hth, hd, hjl, hx, w1, w2, w3, hm]; exact ⟨rfl, rfl, rfl⟩) rfl ?_
 | refine aw_sregK 9 [1, 5, 6, 15, 16, 17, 31, 32, 33] ?_
 | refine aw_sregK 10 [1, 5, 6, 15, 16, 17, 31, 32, 33] ?_
 | refine aw_sregK 11 [1, 5, 6, 7, 8, 15, 16, 17, 31, 32, 33] ?_
 | refine aw_regK 13 [1, 5, 6, 15, 16, 17, 31, 32, 33] ?_
 | refine aw_ifT (b := true) rfl rfl ?_
 | refine aw_ifF (b := false) rfl rfl ?_
 | refine aw_seq ?_
 | refine aw_block ?_
 | refine aw_skip ?_)
    · have hd : ¬(j : Int) < (th.length : Int) := by omega
      rw [List.drop_eq_nil_of_le (by omega), badI] at hq
      rw [hq] at hp
      repeat' (first
 | refine ar_end rfl ?_
 | refine ar_fin rfl ?_
 | refine lq_normN [1, 15, 16, 17] [.loc 1] (by simp; exact rfl) ⟨n + 1, by omega, hp⟩ (by dsimp only; omega) (by simp)
 | refine ar_go3 _ rfl (by simp [insL_len, thsL_len, insL_getE, thsL_getE, inL, ints_len, hd, hw]; exact ⟨rfl, rfl, rfl⟩) rfl ?_
 | refine aw_sregK 9 [1, 5, 6, 15, 16, 17, 31, 32, 33] ?_
 | refine aw_regK 14 [1, 15, 16, 17] ?_
 | refine aw_ifF (b := false) rfl rfl ?_
 | refine aw_seq ?_
 | refine aw_exit ?_)
  · have hc : ¬(n : Int) < (t.length : Int) := by omega
    rw [List.drop_eq_nil_of_le (by omega), badT] at hp
    have hf := few_of hs hp
    have b1 := hf.kcT 1 t.length
    have b2 := hf.kcT 2 t.length
    rw [List.take_length] at b1 b2
    have hw : IntKind.wrap .i64 (kcT 1 t + kcT 2 t) = kcT 1 t + kcT 2 t := wrap64s (by omega) (by omega)
    have hr := checkF_none hs hp
    unfold fullF at hr
    by_cases g1 : 4 < kcT 1 t
    · rw [decide_eq_true g1] at hr
      repeat' (first
 | exact aw_ret (ret_vals (by simp; exact rfl) (by simp [hr]; fail_if_success (show _)))
 | refine ar_end rfl ?_
 | refine ar_callV Tryz.call22 (c_Count hf) rfl rfl rfl rfl rfl (by simp; done) (by rfl) (by simp; done) ?_
 | refine ar_go3 _ rfl (by simp [insL_len, thsL_len, insL_getE, thsL_getE, inL, ints_len, hc, hw, g1]; exact ⟨rfl, rfl, rfl⟩) rfl ?_
 | refine aw_sregK 4 [1, 15, 16, 17] ?_
 | refine aw_sregK 15 [1] ?_
 | refine aw_sregK 16 [9, 10] ?_
 | refine aw_sregK 17 [] ?_
 | refine aw_ifT (b := true) rfl rfl ?_
 | refine aw_ifF (b := false) rfl rfl ?_
 | refine aw_seq ?_
 | refine aw_exit ?_)
    · rw [decide_eq_false g1] at hr
      by_cases g2 : 6 < kcT 1 t + kcT 2 t
      · rw [decide_eq_true g2] at hr
        repeat' (first
 | exact aw_ret (ret_vals (by simp; exact rfl) (by simp [hr]; fail_if_success (show _)))
 | refine ar_end rfl ?_
 | refine ar_callV Tryz.call22 (c_Count hf) rfl rfl rfl rfl rfl (by simp; done) (by rfl) (by simp; done) ?_
 | refine ar_go3 _ rfl (by simp [insL_len, thsL_len, insL_getE, thsL_getE, inL, ints_len, hc, hw, g1, g2]; exact ⟨rfl, rfl, rfl⟩) rfl ?_
 | refine aw_sregK 4 [1, 15, 16, 17] ?_
 | refine aw_sregK 15 [1] ?_
 | refine aw_sregK 16 [9, 10] ?_
 | refine aw_sregK 17 [] ?_
 | refine aw_ifT (b := true) rfl rfl ?_
 | refine aw_ifF (b := false) rfl rfl ?_
 | refine aw_seq ?_
 | refine aw_exit ?_)
      · rw [decide_eq_false g2] at hr
        repeat' (first
 | exact aw_ret (ret_vals (by simp; exact rfl) (by simp [hr]; fail_if_success (show _)))
 | refine ar_end rfl ?_
 | refine ar_callV Tryz.call22 (c_Count hf) rfl rfl rfl rfl rfl (by simp; done) (by rfl) (by simp; done) ?_
 | refine ar_go3 _ rfl (by simp [insL_len, thsL_len, insL_getE, thsL_getE, inL, ints_len, hc, hw, g1, g2]; exact ⟨rfl, rfl, rfl⟩) rfl ?_
 | refine aw_sregK 4 [1, 15, 16, 17] ?_
 | refine aw_sregK 15 [1] ?_
 | refine aw_sregK 16 [9, 10] ?_
 | refine aw_sregK 18 [] ?_
 | refine aw_ifF (b := false) rfl rfl ?_
 | refine aw_seq ?_
 | refine aw_skip ?_
 | refine aw_exit ?_)
set_option maxHeartbeats 16000000 in
theorem c_Check {i : List Int} {t : List (List In)} (hl : i.length ≤ maxLen) : SC Tryz.prog 21 [.agg (testL i t)] (tri (checkF i t)) := by
  cases hs : sizedF i t
  · exact c_Check_f hl hs
  · exact c_Check_t hl hs
end Go.Eng
set_option linter.unusedSimpArgs false
set_option linter.unusedVariables false
set_option linter.constructorNameAsVariable false
set_option autoImplicit false
namespace Go.Eng
open Go Go.RowKit Go.Proofs
set_option maxHeartbeats 16000000 in
theorem c_refCheck_len {i : List Int} {t : List (List In)} (hz : (i.length : Int) = 0 ∨ 3 < (i.length : Int) ∨ (t.length : Int) = 0 ∨ 3 < (t.length : Int)) : SC Tryz.prog 35 [.agg (testL i t)] (tri (checkF i t)) := by
  have hr : checkF i t = (0, 0, 1) := checkF_sz (by simp only [sizedF, Bool.and_eq_false_iff, decide_eq_false_iff_not]; omega)
  refine scx_of Tryz.func35 rfl rfl rfl (Nat.le_of_ble_eq_true rfl) ?_
  by_cases z1 : (i.length : Int) = 0
  ·
    repeat' (first
 | exact aw_ret (ret_vals (by simp; exact rfl) (by simp [hr]; fail_if_success (show _)))
 | refine ar_end rfl ?_
 | refine ar_go3 _ rfl (by simp [insL_len, thsL_len, insL_getE, thsL_getE, inL, ints_len, z1]; exact ⟨rfl, rfl, rfl⟩) rfl ?_
 | refine aw_sregK 0 [0] ?_
 | refine aw_sregK 1 [1] ?_
 | refine aw_sregK 2 [] ?_
 | refine aw_ifT (b := true) rfl rfl ?_
 | refine aw_seq ?_)
  by_cases z2 : 3 < (i.length : Int)
  ·
    repeat' (first
 | exact aw_ret (ret_vals (by simp; exact rfl) (by simp [hr]; fail_if_success (show _)))
 | refine ar_end rfl ?_
 | refine ar_go3 _ rfl (by simp [insL_len, thsL_len, insL_getE, thsL_getE, inL, ints_len, z1, z2]; exact ⟨rfl, rfl, rfl⟩) rfl ?_
 | refine aw_sregK 0 [0] ?_
 | refine aw_sregK 1 [1] ?_
 | refine aw_sregK 2 [] ?_
 | refine aw_ifT (b := true) rfl rfl ?_
 | refine aw_seq ?_
 | (refine ar_guard rfl rfl rfl rfl (fun h => ?_) (fun h => ?_) <;> (fail_if_success (cases h; done)) <;> (try simp at h) <;> (try subst h)))
  by_cases z3 : (t.length : Int) = 0
  ·
    repeat' (first
 | exact aw_ret (ret_vals (by simp; exact rfl) (by simp [hr]; fail_if_success (show _)))
 | refine ar_end rfl ?_
 | refine ar_go3 _ rfl (by simp [insL_len, thsL_len, insL_getE, thsL_getE, inL, ints_len, z1, z2, z3]; exact ⟨rfl, rfl, rfl⟩) rfl ?_
 | refine aw_sregK 0 [0] ?_
 | refine aw_sregK 1 [1] ?_
 | refine aw_sregK 2 [] ?_
 | refine aw_ifT (b := true) rfl rfl ?_
 | refine aw_seq ?_
 | (refine ar_guard rfl rfl rfl rfl (fun h => ?_) (fun h => ?_) <;> (fail_if_success (cases h; done)) <;> (try simp at h) <;> (try subst h)))
  have z4 : 3 < (t.length : Int) := by omega
  repeat' (first
 | exact aw_ret (ret_vals (by simp; exact rfl) (by simp [hr]; fail_if_success (show _)))
 | refine ar_end rfl ?_
 | refine ar_go3 _ rfl (by simp [insL_len, thsL_len, insL_getE, thsL_getE, inL, ints_len, z1, z2, z3, z4]; exact ⟨rfl, rfl, rfl⟩) rfl ?_
 | refine aw_sregK 0 [0] ?_
 | refine aw_sregK 1 [1] ?_
 | refine aw_sregK 2 [] ?_
 | refine aw_ifT (b := true) rfl rfl ?_
 | refine aw_seq ?_
 | (refine ar_guard rfl rfl rfl rfl (fun h => ?_) (fun h => ?_) <;> (fail_if_success (cases h; done)) <;> (try simp at h) <;> (try subst h)))
set_option maxHeartbeats 16000000 in
theorem c_refCheck_t {i : List Int} {t : List (List In)} (z1 : ¬(i.length : Int) = 0) (z2 : ¬3 < (i.length : Int)) (z3 : ¬(t.length : Int) = 0) (z4 : ¬3 < (t.length : Int)) : SC Tryz.prog 35 [.agg (testL i t)] (tri (checkF i t)) := by
  refine scx_of Tryz.func35 rfl rfl rfl (Nat.le_of_ble_eq_true rfl) ?_
  have z1' : ¬i.length = 0 := by omega
  have z3' : ¬t.length = 0 := by omega
  have y1 : ¬i = [] := by intro e; subst e; exact z1' rfl
  have y3 : ¬t = [] := by intro e; subst e; exact z3' rfl
  repeat' (first
 | refine ar_end rfl ?_
 | refine ar_go3 _ rfl (by simp [insL_len, thsL_len, insL_getE, thsL_getE, inL, ints_len, z1, z2, z3, z4, y1, y3]; exact ⟨rfl, rfl, rfl⟩) rfl ?_
 | refine aw_sregK 0 [0] ?_
 | refine aw_sregK 1 [1] ?_
 | refine aw_sregK 3 [1] ?_
 | refine aw_ifF (b := false) rfl rfl ?_
 | refine aw_seq ?_
 | refine aw_block ?_
 | refine aw_skip ?_)
  refine aw_loopN [1, 5] [.loc 1] (by simp; exact rfl) (ι := {n : Nat // n ≤ i.length ∧ initOk (i.take n) = true}) (fun n => ⟨111, [(1, .ptr (.loc 1) 0), (5, I .i64 n.1)], [(.loc 1, some (.box 25 [.pv (.sl 1 (ints i)), .pv (.sl 1 (thsL t))]))]⟩) (fun n => i.length - n.1) ⟨0, by omega, rfl⟩ (by simp) ?_
  rintro ⟨n, hn, hp⟩
  by_cases hlt : n < i.length
  · have hc : (n : Int) < (i.length : Int) := by omega
    have hw : IntKind.wrap .i64 ((n : Int) + 1) = (n : Int) + 1 := wrap64s (by omega) (by omega)
    have hbad := initOk_bad hlt
    have hgood := initOk_take hlt hp
    generalize hx : i[n] = x at hbad hgood
    repeat' (first
 | refine ar_end rfl ?_
 | refine ar_fin rfl ?_
 | refine lq_normN [1, 5] [.loc 1] (by simp; exact rfl) ⟨n + 1, by omega, hgood (by constructor <;> omega)⟩ (by dsimp only; omega) (by simp)
 | exact aw_ret (ret_vals (by simp; exact rfl) (by rw [checkF_sz (by rw [sizedF, hbad (by omega)]; rfl)]; rfl))
 | refine ar_go3 _ rfl (by simp [insL_len, thsL_len, insL_getE, thsL_getE, inL, ints_len, ints_getE, hc, hlt, hx, hw, *]; exact ⟨rfl, rfl, rfl⟩) rfl ?_
 | refine aw_sregK 4 [1, 5] ?_
 | refine aw_regK 5 [1, 5] ?_
 | refine aw_sregK 6 [1, 5] ?_
 | refine aw_sregK 7 [] ?_
 | refine aw_ifT (b := true) rfl rfl ?_
 | refine aw_seq ?_
 | refine aw_block ?_
 | refine aw_skip ?_
 | (refine ar_guard rfl rfl rfl rfl (fun h => ?_) (fun h => ?_) <;> (fail_if_success (cases h; done)) <;> (try simp at h) <;> (try subst h))
 | (refine aw_both rfl (fun h => ?_) (fun h => ?_) <;> (fail_if_success (cases h; done)) <;> (try simp at h) <;> (try subst h)))
  have hc : ¬(n : Int) < (i.length : Int) := by omega
  have et : i.take n = i := List.take_of_length_le (by omega)
  rw [et] at hp
  have hs : sizedF i t = true := by simp only [sizedF, hp, Bool.true_and, Bool.and_eq_true, decide_eq_true_eq]; omega
  have hwf : (Lit.int .i64 (i.length : Int)).wf = true := wf_small (by omega)
  clear hp et
  repeat' (first
 | refine ar_end rfl ?_
 | refine ar_go3 _ rfl (by simp [insL_len, thsL_len, insL_getE, thsL_getE, inL, ints_len, hc]; exact ⟨rfl, rfl, rfl⟩) rfl ?_
 | refine aw_sregK 4 [1, 5] ?_
 | refine aw_sregK 8 [1] ?_
 | refine aw_ifF (b := false) rfl rfl ?_
 | refine aw_seq ?_
 | refine aw_block ?_
 | refine aw_exit ?_)
  refine aw_loopN [1, 6] [.loc 1] (by simp; exact rfl) (ι := {n : Nat // n ≤ t.length ∧ badT i.length 0 t = badT i.length n (t.drop n)}) (fun n => ⟨111, [(1, .ptr (.loc 1) 0), (6, I .i64 n.1)], [(.loc 1, some (.box 25 [.pv (.sl 1 (ints i)), .pv (.sl 1 (thsL t))]))]⟩) (fun n => t.length - n.1) ⟨0, by omega, rfl⟩ (by simp) ?_
  rintro ⟨n, hn, hp⟩
  by_cases hlt : n < t.length
  · have hc : (n : Int) < (t.length : Int) := by omega
    have hw : IntKind.wrap .i64 ((n : Int) + 1) = (n : Int) + 1 := wrap64s (by omega) (by omega)
    rw [List.drop_eq_getElem_cons hlt] at hp
    generalize hth : t[n] = th at hp
    by_cases q1 : (th.length : Int) = 0
    · have hr := checkF_bad hs (hp.trans (badT_len (.inl (by omega))))
      have q0 : th = [] := List.eq_nil_of_length_eq_zero (by omega)
      repeat' (first
 | exact aw_ret (ret_vals (by simp; exact rfl) (by simp [hr]; fail_if_success (show _)))
 | refine ar_end rfl ?_
 | refine ar_go3 _ rfl (by simp [insL_len, thsL_len, insL_getE, thsL_getE, inL, ints_len, hc, hlt, hth, q1, q0]; exact ⟨rfl, rfl, rfl⟩) rfl ?_
 | refine aw_sregK 9 [1, 6] ?_
 | refine aw_sregK 11 [1, 6] ?_
 | refine aw_sregK 12 [1, 6, 7] ?_
 | refine aw_sregK 13 [6] ?_
 | refine aw_ifT (b := true) rfl rfl ?_
 | refine aw_seq ?_
 | refine aw_block ?_
 | refine aw_skip ?_)
    have q0 : ¬th = [] := by intro e; subst e; exact q1 rfl
    by_cases q2 : 8 < (th.length : Int)
    · have hr := checkF_bad hs (hp.trans (badT_len (.inr q2)))
      repeat' (first
 | exact aw_ret (ret_vals (by simp; exact rfl) (by simp [hr]; fail_if_success (show _)))
 | refine ar_end rfl ?_
 | refine ar_go3 _ rfl (by simp [insL_len, thsL_len, insL_getE, thsL_getE, inL, ints_len, hc, hlt, hth, q0, q1, q2]; exact ⟨rfl, rfl, rfl⟩) rfl ?_
 | refine aw_sregK 9 [1, 6] ?_
 | refine aw_sregK 11 [1, 6] ?_
 | refine aw_sregK 12 [1, 6, 7] ?_
 | refine aw_sregK 13 [6] ?_
 | refine aw_ifT (b := true) rfl rfl ?_
 | refine aw_seq ?_
 | refine aw_block ?_
 | refine aw_skip ?_)
    rw [badT_cons (by omega) q2] at hp
    repeat' (first
 | refine ar_end rfl ?_
 | refine ar_go3 _ rfl (by simp [insL_len, thsL_len, insL_getE, thsL_getE, inL, ints_len, hc, hlt, hth, q0, q1, q2]; exact ⟨rfl, rfl, rfl⟩) rfl ?_
 | refine aw_sregK 9 [1, 6] ?_
 | refine aw_sregK 11 [1, 6] ?_
 | refine aw_sregK 12 [1, 6, 7] ?_
 | refine aw_sregK 14 [1, 6, 7] ?_
 | refine aw_ifT (b := true) rfl rfl ?_
 | refine aw_ifF (b := false) rfl rfl ?_
 | refine aw_seq ?_
 | refine aw_block ?_
 | refine aw_skip ?_)
    refine aw_loopN [1, 6, 7, 8] [.loc 1] (by simp; exact rfl) (ι := {j : Nat // j ≤ th.length ∧ badI i.length th.length 0 th = badI i.length th.length j (th.drop j)}) (fun j => ⟨111, [(1, .ptr (.loc 1) 0), (6, I .i64 n), (7, I .i64 th.length), (8, I .i64 j.1)], [(.loc 1, some (.box 25 [.pv (.sl 1 (ints i)), .pv (.sl 1 (thsL t))]))]⟩) (fun j => th.length - j.1) ⟨0, by omega, rfl⟩ (by simp) ?_
    rintro ⟨j, hj, hq⟩
    by_cases hjl : j < th.length
    · have hd : (j : Int) < (th.length : Int) := by omega
      have w1 : IntKind.wrap .i64 ((th.length : Int) - (j : Int)) = (th.length : Int) - (j : Int) := wrap64s (by omega) (by omega)
      have w2 : IntKind.wrap .i64 ((th.length : Int) - (j : Int) - 1) = (th.length : Int) - 1 - (j : Int) := by rw [wrap64s (by omega) (by omega)]; omega
      have w3 : IntKind.wrap .i64 ((j : Int) + 1) = (j : Int) + 1 := wrap64s (by omega) (by omega)
      rw [List.drop_eq_getElem_cons hjl] at hq
      generalize hx : th[j] = x at hq
      cases hm : mayI x ((th.length : Int) - 1 - (j : Int)) i.length
      · have hq1 : badI i.length th.length 0 th = some (j : Int) := by rw [hq, badI, hm]; rfl
        rw [hq1] at hp
        have hr := checkF_bad hs hp
        unfold mayI at hm
        repeat' (first
 | exact aw_ret (ret_vals (by simp; exact rfl) (by simp [hr]; fail_if_success (show _)))
 | refine ar_end rfl ?_
 | refine ar_endD rfl (by kernel_rfl) ?_
 | refine ar_callV Tryz.call58 (c_refMay hwf) rfl rfl rfl rfl rfl (by simp; done) (by rfl) (by simp; done) ?_
 | refine ar_go3 _ rfl (by simp [insL_len, thsL_len, insL_getE, thsL_getE, inL, ints_len, hc, hlt, hth, hd, hjl, hx, w1, w2, hm]; exact ⟨rfl, rfl, rfl⟩) rfl ?_
 | refine aw_sregK 15 [1, 6, 7, 8] ?_
 | refine aw_sregKD mixed 17 [1, 6, 7, 8] (by simp; exact rfl) ?_
 | refine aw_sregK 18 [6, 8] ?_
 | refine aw_ifT (b := true) rfl rfl ?_
 | refine aw_seq ?_
 | refine aw_block ?_
 | refine aw_skip ?_)
      · have hq1 : badI i.length th.length 0 th = badI i.length th.length (j + 1) (th.drop (j + 1)) := by rw [hq, badI, hm]; rfl
        unfold mayI at hm
        repeat' (first
 | refine ar_end rfl ?_
 | refine ar_endD rfl (by kernel_rfl) ?_
 | refine ar_fin rfl ?_
 | refine ar_callV Tryz.call58 (c_refMay hwf) rfl rfl rfl rfl rfl (by simp; done) (by rfl) (by simp; done) ?_
 | refine lq_normN [1, 6, 7, 8] [.loc 1] (by simp; exact rfl) ⟨j + 1, by omega, hq1⟩ (by dsimp only; omega) (by simp)
 | refine ar_go3 _ rfl (by simp [insL_len, thsL_len, insL_getE, thsL_getE, inL, ints_len, hc, hlt, hth, hd, hjl, hx, w1, w2, w3, hm]; exact ⟨rfl, rfl, rfl⟩) rfl ?_
 | refine aw_sregK 15 [1, 6, 7, 8] ?_
 | refine aw_regK 16 [1, 6, 7, 8] ?_
 | refine aw_sregKD mixed 17 [1, 6, 7, 8] (by simp; exact rfl) ?_
 | refine aw_ifT (b := true) rfl rfl ?_
 | refine aw_ifF (b := false) rfl rfl ?_
 | refine aw_seq ?_
 | refine aw_block ?_
 | refine aw_skip ?_)
    · have hd : ¬(j : Int) < (th.length : Int) := by omega
      rw [List.drop_eq_nil_of_le (by omega), badI] at hq
      rw [hq] at hp
      repeat' (first
 | refine ar_end rfl ?_
 | refine ar_fin rfl ?_
 | refine lq_normN [1, 6] [.loc 1] (by simp; exact rfl) ⟨n + 1, by omega, hp⟩ (by dsimp only; omega) (by simp)
 | refine ar_go3 _ rfl (by simp [insL_len, thsL_len, insL_getE, thsL_getE, inL, ints_len, hd, hw]; exact ⟨rfl, rfl, rfl⟩) rfl ?_
 | refine aw_regK 10 [1, 6] ?_
 | refine aw_sregK 15 [1, 6, 7, 8] ?_
 | refine aw_ifF (b := false) rfl rfl ?_
 | refine aw_seq ?_
 | refine aw_exit ?_)
  · have hc : ¬(n : Int) < (t.length : Int) := by omega
    rw [List.drop_eq_nil_of_le (by omega), badT] at hp
    have hf := few_of hs hp
    have b1 := hf.kcT 1 t.length
    have b2 := hf.kcT 2 t.length
    rw [List.take_length] at b1 b2
    have hw : IntKind.wrap .i64 (kcT 1 t + kcT 2 t) = kcT 1 t + kcT 2 t := wrap64s (by omega) (by omega)
    have hr := checkF_none hs hp
    unfold fullF at hr
    by_cases g1 : 4 < kcT 1 t
    · rw [decide_eq_true g1] at hr
      repeat' (first
 | exact aw_ret (ret_vals (by simp; exact rfl) (by simp [hr]; fail_if_success (show _)))
 | refine ar_end rfl ?_
 | refine ar_callV Tryz.call37 (c_refCount hf) rfl rfl rfl rfl rfl (by simp; done) (by rfl) (by simp; done) ?_
 | refine ar_go3 _ rfl (by simp [insL_len, thsL_len, insL_getE, thsL_getE, inL, ints_len, hc, hw, g1]; exact ⟨rfl, rfl, rfl⟩) rfl ?_
 | refine aw_sregK 9 [1, 6] ?_
 | refine aw_sregK 19 [1] ?_
 | refine aw_sregK 20 [9, 10] ?_
 | refine aw_sregK 21 [] ?_
 | refine aw_ifT (b := true) rfl rfl ?_
 | refine aw_ifF (b := false) rfl rfl ?_
 | refine aw_seq ?_
 | refine aw_exit ?_)
    · rw [decide_eq_false g1] at hr
      by_cases g2 : 6 < kcT 1 t + kcT 2 t
      · rw [decide_eq_true g2] at hr
        repeat' (first
 | exact aw_ret (ret_vals (by simp; exact rfl) (by simp [hr]; fail_if_success (show _)))
 | refine ar_end rfl ?_
 | refine ar_callV Tryz.call37 (c_refCount hf) rfl rfl rfl rfl rfl (by simp; done) (by rfl) (by simp; done) ?_
 | refine ar_go3 _ rfl (by simp [insL_len, thsL_len, insL_getE, thsL_getE, inL, ints_len, hc, hw, g1, g2]; exact ⟨rfl, rfl, rfl⟩) rfl ?_
 | refine aw_sregK 9 [1, 6] ?_
 | refine aw_sregK 19 [1] ?_
 | refine aw_sregK 20 [9, 10] ?_
 | refine aw_sregK 21 [] ?_
 | refine aw_ifT (b := true) rfl rfl ?_
 | refine aw_ifF (b := false) rfl rfl ?_
 | refine aw_seq ?_
 | refine aw_exit ?_)
      · rw [decide_eq_false g2] at hr
        repeat' (first
 | exact aw_ret (ret_vals (by simp; exact rfl) (by simp [hr]; fail_if_success (show _)))
 | refine ar_end rfl ?_
 | refine ar_callV Tryz.call37 (c_refCount hf) rfl rfl rfl rfl rfl (by simp; done) (by rfl) (by simp; done) ?_
 | refine ar_go3 _ rfl (by simp [insL_len, thsL_len, insL_getE, thsL_getE, inL, ints_len, hc, hw, g1, g2]; exact ⟨rfl, rfl, rfl⟩) rfl ?_
 | refine aw_sregK 9 [1, 6] ?_
 | refine aw_sregK 19 [1] ?_
 | refine aw_sregK 20 [9, 10] ?_
 | refine aw_sregK 22 [] ?_
 | refine aw_ifF (b := false) rfl rfl ?_
 | refine aw_seq ?_
 | refine aw_skip ?_
 | refine aw_exit ?_)
set_option maxHeartbeats 16000000 in
theorem c_refCheck {i : List Int} {t : List (List In)} : SC Tryz.prog 35 [.agg (testL i t)] (tri (checkF i t)) := by
  by_cases hz : (i.length : Int) = 0 ∨ 3 < (i.length : Int) ∨ (t.length : Int) = 0 ∨ 3 < (t.length : Int)
  · exact c_refCheck_len hz
  · simp only [not_or] at hz
    exact c_refCheck_t hz.1 hz.2.1 hz.2.2.1 hz.2.2.2
end Go.Eng
set_option linter.unusedSimpArgs false
set_option linter.unusedVariables false
set_option linter.constructorNameAsVariable false
set_option autoImplicit false
namespace Go.Eng
open Go Go.RowKit Go.Proofs
def fewB (i : List Int) (t : List (List In)) : Bool := decide ((i.length : Int) ≤ 10) && (decide ((t.length : Int) ≤ 10) && t.all fun l => decide ((l.length : Int) ≤ 40))
theorem fewB_iff {i : List Int} {t : List (List In)} : fewB i t = true ↔ Few i t := by
  unfold fewB Few
  simp only [Bool.and_eq_true, decide_eq_true_eq, List.all_eq_true]
  constructor <;> rintro ⟨x, y, z⟩ <;> refine ⟨by omega, by omega, fun l hl => ?_⟩ <;> have := z l hl <;> omega
set_option maxHeartbeats 16000000 in
theorem c_Few {i : List Int} {t : List (List In)} : SC Tryz.prog 5 [.agg (testL i t)] (B (fewB i t)) := by
  refine scx_of Tryz.func5 rfl rfl rfl (Nat.le_of_ble_eq_true rfl) ?_
  by_cases z1 : 10 < (i.length : Int)
  · have hr : fewB i t = false := by unfold fewB; rw [decide_eq_false (by omega)]; rfl
    repeat' (first
 | exact aw_ret (ret_vals (by simp; exact rfl) (by simp [hr]; fail_if_success (show _)))
 | refine ar_end rfl ?_
 | refine ar_go3 _ rfl (by simp [insL_len, thsL_len, insL_getE, thsL_getE, inL, ints_len, z1]; exact ⟨rfl, rfl, rfl⟩) rfl ?_
 | refine aw_sregK 0 [0] ?_
 | refine aw_sregK 1 [1] ?_
 | refine aw_sregK 2 [] ?_
 | refine aw_ifT (b := true) rfl rfl ?_
 | refine aw_seq ?_)
  by_cases z2 : 10 < (t.length : Int)
  · have hr : fewB i t = false := by unfold fewB; rw [decide_eq_false (p := (t.length : Int) ≤ 10) (by omega)]; simp
    repeat' (first
 | exact aw_ret (ret_vals (by simp; exact rfl) (by simp [hr]; fail_if_success (show _)))
 | refine ar_end rfl ?_
 | refine ar_go3 _ rfl (by simp [insL_len, thsL_len, insL_getE, thsL_getE, inL, ints_len, z1, z2]; exact ⟨rfl, rfl, rfl⟩) rfl ?_
 | refine aw_sregK 0 [0] ?_
 | refine aw_sregK 1 [1] ?_
 | refine aw_sregK 2 [] ?_
 | refine aw_ifT (b := true) rfl rfl ?_
 | refine aw_seq ?_)
  repeat' (first
 | refine ar_end rfl ?_
 | refine ar_go3 _ rfl (by simp [insL_len, thsL_len, insL_getE, thsL_getE, inL, ints_len, z1, z2]; exact ⟨rfl, rfl, rfl⟩) rfl ?_
 | refine aw_sregK 0 [0] ?_
 | refine aw_sregK 1 [1] ?_
 | refine aw_sregK 3 [1] ?_
 | refine aw_ifF (b := false) rfl rfl ?_
 | refine aw_seq ?_
 | refine aw_block ?_
 | refine aw_skip ?_)
  refine aw_loopN [1, 3] [.loc 1] (by simp; exact rfl) (ι := {n : Nat // n ≤ t.length ∧ ∀ l ∈ t.take n, l.length ≤ 40}) (fun n => ⟨28, [(1, .ptr (.loc 1) 0), (3, I .i64 n.1)], [(.loc 1, some (.box 25 [.pv (.sl 1 (ints i)), .pv (.sl 1 (thsL t))]))]⟩) (fun n => t.length - n.1) ⟨0, by omega, by simp⟩ (by simp) ?_
  rintro ⟨n, hn, hp⟩
  by_cases hlt : n < t.length
  · have hc : (n : Int) < (t.length : Int) := by omega
    have hw : IntKind.wrap .i64 ((n : Int) + 1) = (n : Int) + 1 := wrap64s (by omega) (by omega)
    have hmem : t[n] ∈ t := List.getElem_mem hlt
    have htk : t.take (n + 1) = t.take n ++ [t[n]] := by rw [List.take_add_one, List.getElem?_eq_getElem hlt]; rfl
    generalize hth : t[n] = th at hmem htk
    by_cases q : 40 < (th.length : Int)
    · have hr : fewB i t = false := by
        cases h : fewB i t with
        | false => rfl
        | true => have := (fewB_iff.1 h).2.2 th hmem; omega
      repeat' (first
 | exact aw_ret (ret_vals (by simp; exact rfl) (by simp [hr]; fail_if_success (show _)))
 | refine ar_end rfl ?_
 | refine ar_go3 _ rfl (by simp [insL_len, thsL_len, insL_getE, thsL_getE, inL, ints_len, hc, hlt, hth, q]; exact ⟨rfl, rfl, rfl⟩) rfl ?_
 | refine aw_sregK 4 [1, 3] ?_
 | refine aw_sregK 6 [1, 3] ?_
 | refine aw_sregK 7 [] ?_
 | refine aw_ifT (b := true) rfl rfl ?_
 | refine aw_seq ?_
 | refine aw_block ?_
 | refine aw_skip ?_)
    · have hp' : ∀ l ∈ t.take (n + 1), l.length ≤ 40 := by
        intro l hl
        rw [htk] at hl
        rcases List.mem_append.1 hl with h | h
        · exact hp l h
        · rw [List.mem_singleton.1 h]; omega
      repeat' (first
 | refine ar_end rfl ?_
 | refine ar_fin rfl ?_
 | refine lq_normN [1, 3] [.loc 1] (by simp; exact rfl) ⟨n + 1, by omega, hp'⟩ (by dsimp only; omega) (by simp)
 | refine ar_go3 _ rfl (by simp [insL_len, thsL_len, insL_getE, thsL_getE, inL, ints_len, hc, hlt, hth, hw, q]; exact ⟨rfl, rfl, rfl⟩) rfl ?_
 | refine aw_sregK 4 [1, 3] ?_
 | refine aw_regK 5 [1, 3] ?_
 | refine aw_sregK 6 [1, 3] ?_
 | refine aw_ifT (b := true) rfl rfl ?_
 | refine aw_ifF (b := false) rfl rfl ?_
 | refine aw_seq ?_
 | refine aw_block ?_
 | refine aw_skip ?_)
  · have hc : ¬(n : Int) < (t.length : Int) := by omega
    rw [List.take_of_length_le (by omega)] at hp
    have hr : fewB i t = true := fewB_iff.2 ⟨by omega, by omega, hp⟩
    repeat' (first
 | exact aw_ret (ret_vals (by simp; exact rfl) (by simp [hr]; fail_if_success (show _)))
 | refine ar_end rfl ?_
 | refine ar_go3 _ rfl (by simp [insL_len, thsL_len, insL_getE, thsL_getE, inL, ints_len, hc]; exact ⟨rfl, rfl, rfl⟩) rfl ?_
 | refine aw_sregK 4 [1, 3] ?_
 | refine aw_sregK 8 [] ?_
 | refine aw_ifF (b := false) rfl rfl ?_
 | refine aw_seq ?_
 | refine aw_exit ?_)
end Go.Eng
