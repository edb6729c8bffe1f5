import Derived.Test.YtamjcdfjkekdjaaValsK
import Derived.Test.YtamjcdfjkekdjaaValsF
set_option linter.unusedSimpArgs false
set_option linter.unusedVariables false
set_option linter.constructorNameAsVariable false
set_option autoImplicit false
namespace Go.Eng
open Go Go.RowKit Go.Proofs
def powN (a b : Nat) : Nat := a ^ b
theorem ld_take {th : List In} {k : Nat} (h : k < th.length) : ldN (th.take (k + 1)) = ldN (th.take k) + (if kindF th[k].op = 1 then 1 else 0) := by
  unfold ldN
  rw [filter_take_succ' h, List.length_append]
  by_cases h : kindF th[k].op = 1 <;> simp [h]
def plF (th : List In) (k : Nat) : Bool := mayB 2 th && (th.take k).all plainX
theorem plF_succ {th : List In} {k : Nat} (h : k < th.length) : plF th (k + 1) = (plF th k && plainX th[k]) := by
  unfold plF
  rw [List.take_add_one, List.getElem?_eq_getElem h, List.all_append, Bool.and_assoc]
  simp
theorem plF_all {th : List In} {k : Nat} (h : th.take k = th) : plF th k = (mayB 2 th && th.all plainX) := by unfold plF; rw [h]
set_option maxHeartbeats 16000000 in
theorem law_ValsMany {th : List In} {l : List Int} {n : Int} (hth : ∀ x ∈ th, wfIn x) (hl : ∀ n ∈ l, W64 n) (hnw : W64 n) : SC Try.prog 27 [.pv (.sl 6 (insL th)), .pv (.sl 1 (ints l)), I .i64 n] (B true) := by
  by_cases h40 : 8 < (th.length : Int)
  · refine scx_of Try.func27 rfl rfl rfl (Nat.le_of_ble_eq_true rfl) ?_
    repeat' (first
 | exact aw_ret (ret_vals (by simp; exact rfl) (by simp [*]; fail_if_success (show _)))
 | refine ar_end rfl ?_
 | refine ar_callV Try.call72 c_shown9 rfl rfl rfl rfl rfl (by simp; done) (by rfl) (by simp; done) ?_
 | refine ar_go3 _ rfl (by simp [trsL_len, trsL_getE, evsL_len, evsL_getE, trL, evL, insL_len, insL_getE, inL, ints_len, ints_getE, thsL_len, thsL_getE, h40]; exact ⟨rfl, rfl, rfl⟩) rfl ?_
 | refine aw_sregK 0 [0, 1, 2] ?_
 | refine aw_sregK 1 [0, 1, 2] ?_
 | refine aw_sregK 2 [0, 1, 2, 7] ?_
 | refine aw_sregK 3 [7] ?_
 | refine aw_ifT (b := true) rfl rfl ?_
 | refine aw_seq ?_)
  by_cases h8 : 6 < (l.length : Int)
  · refine scx_of Try.func27 rfl rfl rfl (Nat.le_of_ble_eq_true rfl) ?_
    repeat' (first
 | exact aw_ret (ret_vals (by simp; exact rfl) (by simp [*]; fail_if_success (show _)))
 | refine ar_end rfl ?_
 | refine ar_callV Try.call72 c_shown9 rfl rfl rfl rfl rfl (by simp; done) (by rfl) (by simp; done) ?_
 | refine ar_go3 _ rfl (by simp [trsL_len, trsL_getE, evsL_len, evsL_getE, trL, evL, insL_len, insL_getE, inL, ints_len, ints_getE, thsL_len, thsL_getE, h40, h8]; exact ⟨rfl, rfl, rfl⟩) rfl ?_
 | refine aw_sregK 0 [0, 1, 2] ?_
 | refine aw_sregK 1 [0, 1, 2] ?_
 | refine aw_sregK 2 [0, 1, 2, 7] ?_
 | refine aw_sregK 3 [7] ?_
 | refine aw_ifT (b := true) rfl rfl ?_
 | refine aw_seq ?_)
  have hM : maxLen = 9223372036854775807 := rfl
  have hT := c_Traces (th := th) (locs := 2) (vals := l) (by omega) (by omega)
  have hT2 := c_Traces (th := th) (locs := 2) (vals := l ++ [n]) (by omega) (by simp; omega)
  have e : ints (l ++ [n]) = ints l ++ [[C .i64 n]] := by simp [ints]
  rw [e] at hT2
  have hm := c_mayR (th := th) (locs := 2) w2
  have hmore := traces_more (th := th) (locs := 2) (a := l) (n := n)
  have hcnt := fun h1 h2 h3 => traces_count (th := th) (locs := 2) (vals := l) h1 h2 h3
  have hmany := fun a h => traces_many (th := th) (locs := 2) (a := a) h
  have hma := hmany l
  have hmb := hmany (l ++ [n])
  clear hmany
  generalize tracesF th 2 l = A at *
  generalize tracesF th 2 (l ++ [n]) = C at *
  have hmore' : (A.length : Int) ≤ (C.length : Int) := by omega
  refine scx_of Try.func27 rfl rfl rfl (Nat.le_of_ble_eq_true rfl) ?_
  repeat' (first
 | refine ar_end rfl ?_
 | refine ar_callV Try.call72 c_shown9 rfl rfl rfl rfl rfl (by simp; done) (by rfl) (by simp; done) ?_
 | refine ar_callV Try.call73 hT rfl rfl rfl rfl rfl (by simp; done) (by rfl) (by simp; done) ?_
 | refine ar_callV Try.call71 hm rfl rfl rfl rfl rfl (by simp; done) (by rfl) (by simp; done) ?_
 | refine ar_frzE [34] [] [] [] Try.call73 hT2 rfl rfl rfl rfl (by simp; exact rfl) (by simp; exact rfl) rfl (by simp; done) (by rfl) (by simp; fail_if_success (show _)) rfl ⟨by simp, by simp, (by simp [okY]; fail_if_success (show _)), by simp, by simp⟩ (by simp; fail_if_success (show _)) (by simp; done) ?_
 | refine ar_appO rfl rfl rfl rfl rfl (by simp; exact rfl) rfl (by simp; exact rfl) (by simp; exact rfl) (by simp; exact ⟨rfl, rfl⟩) rfl (by simp; exact rfl) (by simp; done) (by decide) (by simp [ints_len, maxLen]; try omega) ?_
 | refine ar_go3 _ rfl (by simp [trsL_len, trsL_getE, evsL_len, evsL_getE, trL, evL, insL_len, insL_getE, inL, ints_len, ints_getE, thsL_len, thsL_getE, h40, h8]; exact ⟨rfl, rfl, rfl⟩) rfl ?_
 | refine aw_sregK 0 [0, 1, 2] ?_
 | refine aw_sregK 1 [0, 1, 2] ?_
 | refine aw_sregK 2 [0, 1, 2, 7] ?_
 | refine aw_sregK 4 [0, 1, 2, 7] ?_
 | refine aw_sregK 5 [0, 1, 2, 7, 8] ?_
 | refine aw_sregK 6 [0, 1, 7, 8, 9] ?_
 | refine aw_sregK 7 [0, 1, 7, 8, 9, 10] ?_
 | refine aw_sregK 8 [0, 1, 7, 8, 9, 10, 11] ?_
 | refine aw_sregK 9 [0, 1, 7, 8, 9, 10, 11, 12] ?_
 | refine aw_ifF (b := false) rfl rfl ?_
 | refine aw_seq ?_
 | refine aw_block ?_
 | refine aw_skip ?_)
  refine aw_loopN [0, 1, 7, 8, 9, 10, 11, 12, 13] [] (by simp; exact rfl) (ι := {k : Nat // k ≤ th.length}) (fun k => ⟨109, [(0, .pv (.sl 6 (insL th))), (1, .pv (.sl 1 (ints l))), (7, B true), (8, .pv (.sl 16 (trsL A))), (9, .pv (.sl 16 (trsL C))), (10, I .i64 (powN l.length (ldN (th.take k.1)))), (11, I .i64 (ldN (th.take k.1))), (12, B (plF th k.1)), (13, I .i64 k.1)], []⟩) (fun k => th.length - k.1) ⟨0, by omega⟩ (by simp [ldN, powN, plF]) ?_
  rintro ⟨k, hk⟩
  by_cases hlt : k < th.length
  · have hc : (k : Int) < (th.length : Int) := by omega
    have hw : IntKind.wrap .i64 ((k : Int) + 1) = (k : Int) + 1 := wrap64s (by omega) (by omega)
    have hs := ld_take hlt
    have ha := plF_succ hlt
    have hb : ldN (th.take k) ≤ k := by unfold ldN; exact Nat.le_trans (List.length_filter_le _ _) (by simp; omega)
    have hpw : powN l.length (ldN (th.take k) + 1) ≤ 6 ^ 8 := Nat.le_trans (Nat.pow_le_pow_left (by omega) _) (Nat.pow_le_pow_right (by decide) (by omega))
    have hpe : powN l.length (ldN (th.take k) + 1) = powN l.length (ldN (th.take k)) * l.length := Nat.pow_succ ..
    generalize hx : th[k] = x at *
    generalize plF th k = pl at *
    generalize ldN (th.take k) = q at *
    by_cases hk1 : kindF x.op = 1
    · rw [if_pos hk1] at hs
      have h579 : x.op = 5 ∨ x.op = 7 ∨ x.op = 9 := by rw [kind1] at hk1; exact hk1
      have hpx : plainX x = true := by simp [plainX]; omega
      have hpc : (6 : Nat) ^ 8 = 1679616 := by decide
      have hm1 : (powN l.length q : Int) * (l.length : Int) = (powN l.length (q + 1) : Int) := by rw [hpe]; exact (Int.natCast_mul _ _).symm
      have hw3 : IntKind.wrap .i64 (powN l.length (q + 1) : Int) = (powN l.length (q + 1) : Int) := wrap64s (by omega) (by omega)
      have hw4 : IntKind.wrap .i64 ((q : Int) + 1) = (q : Int) + 1 := wrap64s (by omega) (by omega)
      cases pl
      · rcases h579 with h | h | h
        ·
          repeat' (first
 | refine ar_end rfl ?_
 | refine ar_fin rfl ?_
 | refine lq_normN [0, 1, 7, 8, 9, 10, 11, 12, 13] [] (by simp; exact rfl) ⟨k + 1, by omega⟩ (by dsimp only; omega) (by simp [hs, ha, hpx])
 | refine ar_go3 _ rfl (by simp [trsL_len, trsL_getE, evsL_len, evsL_getE, trL, evL, insL_len, insL_getE, inL, ints_len, ints_getE, thsL_len, thsL_getE, hlt, hc, hx, hw, h, hm1, hw3, hw4]; exact ⟨rfl, rfl, rfl⟩) rfl ?_
 | refine aw_sregK 10 [0, 1, 7, 8, 9, 10, 11, 12, 13] ?_
 | refine aw_regK 11 [0, 1, 7, 8, 9, 10, 11, 12, 13] ?_
 | refine aw_sregK 12 [0, 1, 7, 8, 9, 10, 11, 12, 13] ?_
 | refine aw_sregK 13 [0, 1, 7, 8, 9, 10, 11, 12, 13, 14] ?_
 | refine aw_sregK 14 [0, 1, 7, 8, 9, 10, 11, 12, 13, 14] ?_
 | refine aw_regK 15 [0, 1, 7, 8, 9, 10, 11, 12, 13, 14] ?_
 | refine aw_regK 16 [0, 1, 7, 8, 9, 10, 11, 12, 13, 14] ?_
 | refine aw_ifT (b := true) rfl rfl ?_
 | refine aw_seq ?_
 | refine aw_block ?_
 | refine aw_skip ?_)
        ·
          repeat' (first
 | refine ar_end rfl ?_
 | refine ar_fin rfl ?_
 | refine lq_normN [0, 1, 7, 8, 9, 10, 11, 12, 13] [] (by simp; exact rfl) ⟨k + 1, by omega⟩ (by dsimp only; omega) (by simp [hs, ha, hpx])
 | refine ar_go3 _ rfl (by simp [trsL_len, trsL_getE, evsL_len, evsL_getE, trL, evL, insL_len, insL_getE, inL, ints_len, ints_getE, thsL_len, thsL_getE, hlt, hc, hx, hw, h, hm1, hw3, hw4]; exact ⟨rfl, rfl, rfl⟩) rfl ?_
 | refine aw_sregK 10 [0, 1, 7, 8, 9, 10, 11, 12, 13] ?_
 | refine aw_regK 11 [0, 1, 7, 8, 9, 10, 11, 12, 13] ?_
 | refine aw_sregK 12 [0, 1, 7, 8, 9, 10, 11, 12, 13] ?_
 | refine aw_sregK 13 [0, 1, 7, 8, 9, 10, 11, 12, 13, 14] ?_
 | refine aw_sregK 14 [0, 1, 7, 8, 9, 10, 11, 12, 13, 14] ?_
 | refine aw_regK 15 [0, 1, 7, 8, 9, 10, 11, 12, 13, 14] ?_
 | refine aw_regK 16 [0, 1, 7, 8, 9, 10, 11, 12, 13, 14] ?_
 | refine aw_ifT (b := true) rfl rfl ?_
 | refine aw_seq ?_
 | refine aw_block ?_
 | refine aw_skip ?_)
        ·
          repeat' (first
 | refine ar_end rfl ?_
 | refine ar_fin rfl ?_
 | refine lq_normN [0, 1, 7, 8, 9, 10, 11, 12, 13] [] (by simp; exact rfl) ⟨k + 1, by omega⟩ (by dsimp only; omega) (by simp [hs, ha, hpx])
 | refine ar_go3 _ rfl (by simp [trsL_len, trsL_getE, evsL_len, evsL_getE, trL, evL, insL_len, insL_getE, inL, ints_len, ints_getE, thsL_len, thsL_getE, hlt, hc, hx, hw, h, hm1, hw3, hw4]; exact ⟨rfl, rfl, rfl⟩) rfl ?_
 | refine aw_sregK 10 [0, 1, 7, 8, 9, 10, 11, 12, 13] ?_
 | refine aw_regK 11 [0, 1, 7, 8, 9, 10, 11, 12, 13] ?_
 | refine aw_sregK 12 [0, 1, 7, 8, 9, 10, 11, 12, 13] ?_
 | refine aw_sregK 13 [0, 1, 7, 8, 9, 10, 11, 12, 13, 14] ?_
 | refine aw_sregK 14 [0, 1, 7, 8, 9, 10, 11, 12, 13, 14] ?_
 | refine aw_regK 15 [0, 1, 7, 8, 9, 10, 11, 12, 13, 14] ?_
 | refine aw_regK 16 [0, 1, 7, 8, 9, 10, 11, 12, 13, 14] ?_
 | refine aw_ifT (b := true) rfl rfl ?_
 | refine aw_seq ?_
 | refine aw_block ?_
 | refine aw_skip ?_)
      · rcases h579 with h | h | h
        ·
          repeat' (first
 | refine ar_end rfl ?_
 | refine ar_fin rfl ?_
 | refine lq_normN [0, 1, 7, 8, 9, 10, 11, 12, 13] [] (by simp; exact rfl) ⟨k + 1, by omega⟩ (by dsimp only; omega) (by simp [hs, ha, hpx])
 | refine ar_go3 _ rfl (by simp [trsL_len, trsL_getE, evsL_len, evsL_getE, trL, evL, insL_len, insL_getE, inL, ints_len, ints_getE, thsL_len, thsL_getE, hlt, hc, hx, hw, h, hm1, hw3, hw4]; exact ⟨rfl, rfl, rfl⟩) rfl ?_
 | refine aw_sregK 10 [0, 1, 7, 8, 9, 10, 11, 12, 13] ?_
 | refine aw_regK 11 [0, 1, 7, 8, 9, 10, 11, 12, 13] ?_
 | refine aw_sregK 12 [0, 1, 7, 8, 9, 10, 11, 12, 13] ?_
 | refine aw_sregK 13 [0, 1, 7, 8, 9, 10, 11, 12, 13, 14] ?_
 | refine aw_sregK 14 [0, 1, 7, 8, 9, 10, 11, 12, 13, 14] ?_
 | refine aw_regK 15 [0, 1, 7, 8, 9, 10, 11, 12, 13, 14] ?_
 | refine aw_regK 16 [0, 1, 7, 8, 9, 10, 11, 12, 13, 14] ?_
 | refine aw_ifT (b := true) rfl rfl ?_
 | refine aw_seq ?_
 | refine aw_block ?_
 | refine aw_skip ?_)
        ·
          repeat' (first
 | refine ar_end rfl ?_
 | refine ar_fin rfl ?_
 | refine lq_normN [0, 1, 7, 8, 9, 10, 11, 12, 13] [] (by simp; exact rfl) ⟨k + 1, by omega⟩ (by dsimp only; omega) (by simp [hs, ha, hpx])
 | refine ar_go3 _ rfl (by simp [trsL_len, trsL_getE, evsL_len, evsL_getE, trL, evL, insL_len, insL_getE, inL, ints_len, ints_getE, thsL_len, thsL_getE, hlt, hc, hx, hw, h, hm1, hw3, hw4]; exact ⟨rfl, rfl, rfl⟩) rfl ?_
 | refine aw_sregK 10 [0, 1, 7, 8, 9, 10, 11, 12, 13] ?_
 | refine aw_regK 11 [0, 1, 7, 8, 9, 10, 11, 12, 13] ?_
 | refine aw_sregK 12 [0, 1, 7, 8, 9, 10, 11, 12, 13] ?_
 | refine aw_sregK 13 [0, 1, 7, 8, 9, 10, 11, 12, 13, 14] ?_
 | refine aw_sregK 14 [0, 1, 7, 8, 9, 10, 11, 12, 13, 14] ?_
 | refine aw_regK 15 [0, 1, 7, 8, 9, 10, 11, 12, 13, 14] ?_
 | refine aw_regK 16 [0, 1, 7, 8, 9, 10, 11, 12, 13, 14] ?_
 | refine aw_ifT (b := true) rfl rfl ?_
 | refine aw_seq ?_
 | refine aw_block ?_
 | refine aw_skip ?_)
        ·
          repeat' (first
 | refine ar_end rfl ?_
 | refine ar_fin rfl ?_
 | refine lq_normN [0, 1, 7, 8, 9, 10, 11, 12, 13] [] (by simp; exact rfl) ⟨k + 1, by omega⟩ (by dsimp only; omega) (by simp [hs, ha, hpx])
 | refine ar_go3 _ rfl (by simp [trsL_len, trsL_getE, evsL_len, evsL_getE, trL, evL, insL_len, insL_getE, inL, ints_len, ints_getE, thsL_len, thsL_getE, hlt, hc, hx, hw, h, hm1, hw3, hw4]; exact ⟨rfl, rfl, rfl⟩) rfl ?_
 | refine aw_sregK 10 [0, 1, 7, 8, 9, 10, 11, 12, 13] ?_
 | refine aw_regK 11 [0, 1, 7, 8, 9, 10, 11, 12, 13] ?_
 | refine aw_sregK 12 [0, 1, 7, 8, 9, 10, 11, 12, 13] ?_
 | refine aw_sregK 13 [0, 1, 7, 8, 9, 10, 11, 12, 13, 14] ?_
 | refine aw_sregK 14 [0, 1, 7, 8, 9, 10, 11, 12, 13, 14] ?_
 | refine aw_regK 15 [0, 1, 7, 8, 9, 10, 11, 12, 13, 14] ?_
 | refine aw_regK 16 [0, 1, 7, 8, 9, 10, 11, 12, 13, 14] ?_
 | refine aw_ifT (b := true) rfl rfl ?_
 | refine aw_seq ?_
 | refine aw_block ?_
 | refine aw_skip ?_)
    · rw [if_neg hk1] at hs
      rw [Nat.add_zero] at hs
      have n579 : ¬(x.op = 5 ∨ x.op = 7 ∨ x.op = 9) := fun h => hk1 (by rw [kind1]; exact h)
      have n5 : ¬x.op = 5 := fun h => n579 (.inl h)
      have n7 : ¬x.op = 7 := fun h => n579 (.inr (.inl h))
      have n9 : ¬x.op = 9 := fun h => n579 (.inr (.inr h))
      have hpx : plainX x = ((decide (¬x.op = 10) && decide (¬x.op = 13)) && decide (¬x.op = 14)) := rfl
      cases pl
      ·
        repeat' (first
 | refine ar_end rfl ?_
 | refine ar_fin rfl ?_
 | refine lq_normN [0, 1, 7, 8, 9, 10, 11, 12, 13] [] (by simp; exact rfl) ⟨k + 1, by omega⟩ (by dsimp only; omega) (by simp [hs, ha, hpx])
 | refine ar_go3 _ rfl (by simp [trsL_len, trsL_getE, evsL_len, evsL_getE, trL, evL, insL_len, insL_getE, inL, ints_len, ints_getE, thsL_len, thsL_getE, hlt, hc, hx, hw, n5, n7, n9]; exact ⟨rfl, rfl, rfl⟩) rfl ?_
 | refine aw_sregK 10 [0, 1, 7, 8, 9, 10, 11, 12, 13] ?_
 | refine aw_regK 11 [0, 1, 7, 8, 9, 10, 11, 12, 13] ?_
 | refine aw_sregK 12 [0, 1, 7, 8, 9, 10, 11, 12, 13] ?_
 | refine aw_sregK 13 [0, 1, 7, 8, 9, 10, 11, 12, 13, 14] ?_
 | refine aw_regK 16 [0, 1, 7, 8, 9, 10, 11, 12, 13, 14] ?_
 | refine aw_ifT (b := true) rfl rfl ?_
 | refine aw_ifF (b := false) rfl rfl ?_
 | refine aw_seq ?_
 | refine aw_block ?_
 | refine aw_skip ?_)
      by_cases h10 : x.op = 10
      ·
        repeat' (first
 | refine ar_end rfl ?_
 | refine ar_fin rfl ?_
 | refine lq_normN [0, 1, 7, 8, 9, 10, 11, 12, 13] [] (by simp; exact rfl) ⟨k + 1, by omega⟩ (by dsimp only; omega) (by simp [hs, ha, hpx, h10])
 | refine ar_go3 _ rfl (by simp [trsL_len, trsL_getE, evsL_len, evsL_getE, trL, evL, insL_len, insL_getE, inL, ints_len, ints_getE, thsL_len, thsL_getE, hlt, hc, hx, hw, h10]; exact ⟨rfl, rfl, rfl⟩) rfl ?_
 | refine aw_sregK 10 [0, 1, 7, 8, 9, 10, 11, 12, 13] ?_
 | refine aw_regK 11 [0, 1, 7, 8, 9, 10, 11, 12, 13] ?_
 | refine aw_sregK 12 [0, 1, 7, 8, 9, 10, 11, 12, 13] ?_
 | refine aw_sregK 13 [0, 1, 7, 8, 9, 10, 11, 12, 13, 14] ?_
 | refine aw_regK 16 [0, 1, 7, 8, 9, 10, 11, 12, 13, 14] ?_
 | refine aw_ifT (b := true) rfl rfl ?_
 | refine aw_ifF (b := false) rfl rfl ?_
 | refine aw_seq ?_
 | refine aw_block ?_
 | refine aw_skip ?_)
      by_cases h13 : x.op = 13
      ·
        repeat' (first
 | refine ar_end rfl ?_
 | refine ar_fin rfl ?_
 | refine lq_normN [0, 1, 7, 8, 9, 10, 11, 12, 13] [] (by simp; exact rfl) ⟨k + 1, by omega⟩ (by dsimp only; omega) (by simp [hs, ha, hpx, h13])
 | refine ar_go3 _ rfl (by simp [trsL_len, trsL_getE, evsL_len, evsL_getE, trL, evL, insL_len, insL_getE, inL, ints_len, ints_getE, thsL_len, thsL_getE, hlt, hc, hx, hw, h13]; exact ⟨rfl, rfl, rfl⟩) rfl ?_
 | refine aw_sregK 10 [0, 1, 7, 8, 9, 10, 11, 12, 13] ?_
 | refine aw_regK 11 [0, 1, 7, 8, 9, 10, 11, 12, 13] ?_
 | refine aw_sregK 12 [0, 1, 7, 8, 9, 10, 11, 12, 13] ?_
 | refine aw_sregK 13 [0, 1, 7, 8, 9, 10, 11, 12, 13, 14] ?_
 | refine aw_regK 16 [0, 1, 7, 8, 9, 10, 11, 12, 13, 14] ?_
 | refine aw_ifT (b := true) rfl rfl ?_
 | refine aw_ifF (b := false) rfl rfl ?_
 | refine aw_seq ?_
 | refine aw_block ?_
 | refine aw_skip ?_)
      by_cases h14 : x.op = 14
      ·
        repeat' (first
 | refine ar_end rfl ?_
 | refine ar_fin rfl ?_
 | refine lq_normN [0, 1, 7, 8, 9, 10, 11, 12, 13] [] (by simp; exact rfl) ⟨k + 1, by omega⟩ (by dsimp only; omega) (by simp [hs, ha, hpx, h14])
 | refine ar_go3 _ rfl (by simp [trsL_len, trsL_getE, evsL_len, evsL_getE, trL, evL, insL_len, insL_getE, inL, ints_len, ints_getE, thsL_len, thsL_getE, hlt, hc, hx, hw, h14]; exact ⟨rfl, rfl, rfl⟩) rfl ?_
 | refine aw_sregK 10 [0, 1, 7, 8, 9, 10, 11, 12, 13] ?_
 | refine aw_regK 11 [0, 1, 7, 8, 9, 10, 11, 12, 13] ?_
 | refine aw_sregK 12 [0, 1, 7, 8, 9, 10, 11, 12, 13] ?_
 | refine aw_sregK 13 [0, 1, 7, 8, 9, 10, 11, 12, 13, 14] ?_
 | refine aw_regK 16 [0, 1, 7, 8, 9, 10, 11, 12, 13, 14] ?_
 | refine aw_ifT (b := true) rfl rfl ?_
 | refine aw_ifF (b := false) rfl rfl ?_
 | refine aw_seq ?_
 | refine aw_block ?_
 | refine aw_skip ?_)
      ·
        repeat' (first
 | refine ar_end rfl ?_
 | refine ar_fin rfl ?_
 | refine lq_normN [0, 1, 7, 8, 9, 10, 11, 12, 13] [] (by simp; exact rfl) ⟨k + 1, by omega⟩ (by dsimp only; omega) (by simp [hs, ha, hpx, h10, h13, h14])
 | refine ar_go3 _ rfl (by simp [trsL_len, trsL_getE, evsL_len, evsL_getE, trL, evL, insL_len, insL_getE, inL, ints_len, ints_getE, thsL_len, thsL_getE, hlt, hc, hx, hw, n5, n7, n9, h10, h13, h14]; exact ⟨rfl, rfl, rfl⟩) rfl ?_
 | refine aw_sregK 10 [0, 1, 7, 8, 9, 10, 11, 12, 13] ?_
 | refine aw_regK 11 [0, 1, 7, 8, 9, 10, 11, 12, 13] ?_
 | refine aw_sregK 12 [0, 1, 7, 8, 9, 10, 11, 12, 13] ?_
 | refine aw_sregK 13 [0, 1, 7, 8, 9, 10, 11, 12, 13, 14] ?_
 | refine aw_regK 16 [0, 1, 7, 8, 9, 10, 11, 12, 13, 14] ?_
 | refine aw_ifT (b := true) rfl rfl ?_
 | refine aw_ifF (b := false) rfl rfl ?_
 | refine aw_seq ?_
 | refine aw_block ?_
 | refine aw_skip ?_)
  have hc : ¬(k : Int) < (th.length : Int) := by omega
  have hke : th.take k = th := List.take_of_length_le (by omega)
  rw [hke, plF_all hke]
  have hall : th.all plainX = true → ∀ x ∈ th, plainX x = true := fun h => List.all_eq_true.1 h
  generalize hg : ldN th = q at *
  by_cases h4 : 4 < q
  · have h4' : (4 : Int) < (q : Int) := by omega
    have a0 := hma h4
    have c0 := hmb h4
    subst a0
    subst c0
    generalize (mayB 2 th && th.all plainX) = mp at *
    repeat' (first
 | exact aw_ret (ret_vals (by simp; exact rfl) (by simp [*]; fail_if_success (show _)))
 | refine ar_end rfl ?_
 | refine ar_go3 _ rfl (by simp [trsL_len, trsL_getE, evsL_len, evsL_getE, trL, evL, insL_len, insL_getE, inL, ints_len, ints_getE, thsL_len, thsL_getE, hc, h4', trsL]; exact ⟨rfl, rfl, rfl⟩) rfl ?_
 | refine aw_sregK 10 [0, 1, 7, 8, 9, 10, 11, 12, 13] ?_
 | refine aw_sregK 17 [7, 8, 9, 10, 11, 12] ?_
 | refine aw_sregK 18 [7, 8, 9] ?_
 | refine aw_ifT (b := true) rfl rfl ?_
 | refine aw_ifF (b := false) rfl rfl ?_
 | refine aw_seq ?_
 | refine aw_exit ?_)
  · have h4' : ¬(4 : Int) < (q : Int) := by omega
    cases hmp : (mayB 2 th && th.all plainX)
    ·
      repeat' (first
 | exact aw_ret (ret_vals (by simp; exact rfl) (by simp [*]; fail_if_success (show _)))
 | refine ar_end rfl ?_
 | refine ar_go3 _ rfl (by simp [trsL_len, trsL_getE, evsL_len, evsL_getE, trL, evL, insL_len, insL_getE, inL, ints_len, ints_getE, thsL_len, thsL_getE, hc, h4', hmore', hmp]; exact ⟨rfl, rfl, rfl⟩) rfl ?_
 | refine aw_sregK 10 [0, 1, 7, 8, 9, 10, 11, 12, 13] ?_
 | refine aw_sregK 17 [7, 8, 9, 10, 11, 12] ?_
 | refine aw_sregK 19 [7, 8, 9, 10, 12] ?_
 | refine aw_ifF (b := false) rfl rfl ?_
 | refine aw_seq ?_
 | refine aw_skip ?_
 | refine aw_exit ?_)
    · rw [Bool.and_eq_true] at hmp
      have hca := hcnt hmp.1 (hall hmp.2) (by omega)
      have hca' : (A.length : Int) = (powN l.length q : Int) := by rw [hca]; rfl
      repeat' (first
 | exact aw_ret (ret_vals (by simp; exact rfl) (by simp [*]; fail_if_success (show _)))
 | exact aw_ret (ret_vals (by simp; exact rfl) (by simp [*]; omega))
 | refine ar_end rfl ?_
 | refine ar_go3 _ rfl (by simp [trsL_len, trsL_getE, evsL_len, evsL_getE, trL, evL, insL_len, insL_getE, inL, ints_len, ints_getE, thsL_len, thsL_getE, hc, h4', hmore', hca']; exact ⟨rfl, rfl, rfl⟩) rfl ?_
 | refine aw_sregK 10 [0, 1, 7, 8, 9, 10, 11, 12, 13] ?_
 | refine aw_sregK 17 [7, 8, 9, 10, 11, 12] ?_
 | refine aw_sregK 19 [7, 8, 9, 10, 12] ?_
 | refine aw_ifF (b := false) rfl rfl ?_
 | refine aw_seq ?_
 | refine aw_skip ?_
 | refine aw_exit ?_
 | (refine ar_guard rfl rfl rfl rfl (fun h => ?_) (fun h => ?_) <;> (fail_if_success (cases h; done)) <;> (try simp at h) <;> (try subst h)))
end Go.Eng
