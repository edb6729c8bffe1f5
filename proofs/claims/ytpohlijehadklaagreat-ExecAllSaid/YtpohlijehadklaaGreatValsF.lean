import Derived.Test.YtpohlijehadklaaGreatValsE
import Derived.Test.YtpohlijehadklaaGreatFlowJ8
set_option linter.unusedSimpArgs false
set_option linter.unusedVariables false
set_option linter.constructorNameAsVariable false
set_option autoImplicit false
namespace Go.Eng
open Go Go.RowKit Go.Proofs
theorem tell_le {th : List In} {locs : Int} {vals : List Int} (h4 : ldN th ≤ 4) (h8 : vals.length ≤ 8) (f : Nat) (v : List Int) (b : List Bool) : (tellF th locs vals f v b).length ≤ 1048576 :=
  Nat.le_trans (tell_len h4 h8 f v b) (Nat.le_trans (Nat.mul_le_mul (Nat.pow_le_pow_right (by decide) (Nat.sub_le 4 _)) (Nat.pow_le_pow_right (by decide) (Nat.sub_le 8 _))) (by decide))
set_option maxHeartbeats 16000000 in
theorem c_on {th : List In} {locs : Int} {vals : List Int} (hw : W64 locs) (h4 : ldN th ≤ 4) (h8 : vals.length ≤ 8) : ∀ (f : Nat) (v : List Int) (b : List Bool), v.length ≤ 4 → b.length ≤ 8 → meas v b < f → SC Tryz.prog 40 [.pv (.sl 6 (insL th)), I .i64 locs, .pv (.sl 1 (ints vals)), .pv (.sl 1 (ints v)), .pv (.sl 1 (bls b))] (.pv (.sl 16 (trsL (tellF th locs vals f v b))))
  | 0, v, b, _, _, hm => by omega
  | f + 1, v, b, hv, hb, hm => by
    have hR := c_r8Run (th := th) (vals := v) (lucks := b) hw (by omega) (by omega)
    obtain ⟨w1, w2, w3⟩ := run_wants (th := th) (locs := locs) (vals := v) (lucks := b)
    have hle := tell_le (locs := locs) h4 h8 (f + 1) v b
    have hIV : ∀ n, ldN th > v.length → SC Tryz.prog 40 [.pv (.sl 6 (insL th)), I .i64 locs, .pv (.sl 1 (ints vals)), .pv (.sl 1 (ints v ++ [[C .i64 n]])), .pv (.sl 1 (bls b))] (.pv (.sl 16 (trsL (tellF th locs vals f (v ++ [n]) b)))) := fun n h => by
      have h1 := c_on hw h4 h8 f (v ++ [n]) b (by simp; omega) hb (by unfold meas at hm ⊢; simp; omega)
      have e : ints (v ++ [n]) = ints v ++ [[C .i64 n]] := by simp [ints]
      rw [e] at h1; exact h1
    have hIB : ∀ q, b.length < 8 → SC Tryz.prog 40 [.pv (.sl 6 (insL th)), I .i64 locs, .pv (.sl 1 (ints vals)), .pv (.sl 1 (ints v)), .pv (.sl 1 (bls b ++ [[bo q]]))] (.pv (.sl 16 (trsL (tellF th locs vals f v (b ++ [q]))))) := fun q h => by
      have h1 := c_on hw h4 h8 f v (b ++ [q]) hv (by simp; omega) (by unfold meas at hm ⊢; simp; omega)
      have e : bls (b ++ [q]) = bls b ++ [[bo q]] := by simp [bls]
      rw [e] at h1; exact h1
    rw [tellF] at hle ⊢
    generalize runF th locs v b = R at *
    refine scx_of Tryz.func40 rfl rfl rfl (Nat.le_of_ble_eq_true rfl) ?_
    by_cases m0 : R.more = 0
    · rw [if_pos m0]
      repeat' (first
 | refine ar_end rfl ?_
 | refine ar_callV Tryz.call59 hR rfl rfl rfl rfl rfl (by simp; done) (by rfl) (by simp; done) ?_
 | exact aw_ret (ret_frz (.loc 23) (by simp; exact rfl) (by simp [trsL, m0]; fail_if_success (show _)))
 | refine ar_go3 _ rfl (by simp [insL_len, insL_getE, inL, ints_len, ints_getE, bls_len, bls_getE, trsL_len, m0]; exact ⟨rfl, rfl, rfl⟩) rfl ?_
 | refine aw_sregK 0 [0, 1, 2, 3, 4] ?_
 | refine aw_sregK 1 [0, 1, 2, 3, 4] ?_
 | refine aw_sregK 2 [0, 1, 2, 3, 4, 11] ?_
 | refine aw_sregK 3 [11] ?_
 | refine aw_ifT (b := true) rfl rfl ?_
 | refine aw_seq ?_)
    rw [if_neg m0] at hle ⊢
    by_cases m1 : R.more = 1
    · rw [if_pos m1] at hle ⊢
      have hlt := (w1 m1).1
      generalize hg : (fun n => tellF th locs vals f (v ++ [n]) b) = g at *
      have hgn : ∀ n, tellF th locs vals f (v ++ [n]) b = g n := fun n => by rw [← hg]
      simp only [hgn] at hIV
      clear hgn hg
      repeat' (first
 | refine ar_end rfl ?_
 | refine ar_callV Tryz.call59 hR rfl rfl rfl rfl rfl (by simp; done) (by rfl) (by simp; done) ?_
 | refine ar_go3 _ rfl (by simp [insL_len, insL_getE, inL, ints_len, ints_getE, bls_len, bls_getE, trsL_len, m0, m1]; exact ⟨rfl, rfl, rfl⟩) rfl ?_
 | refine aw_sregK 0 [0, 1, 2, 3, 4] ?_
 | refine aw_sregK 1 [0, 1, 2, 3, 4] ?_
 | refine aw_sregK 2 [0, 1, 2, 3, 4, 11] ?_
 | refine aw_sregK 4 [0, 1, 2, 3, 4, 11] ?_
 | refine aw_sregK 5 [0, 1, 2, 3, 4, 11, 12] ?_
 | refine aw_sregK 8 [0, 1, 2, 3, 4, 12] ?_
 | refine aw_ifF (b := false) rfl rfl ?_
 | refine aw_seq ?_
 | refine aw_block ?_
 | refine aw_skip ?_)
      refine aw_nil 12 (.loc 1000) 72 16 (by simp; exact rfl) ?_
      refine aw_loopN [0, 1, 2, 3, 4, 12, 13] [.loc 1000] (by simp; exact rfl) (ι := {i : Nat // i ≤ vals.length}) (fun i => ⟨74, [(0, .pv (.sl 6 (insL th))), (1, I .i64 locs), (2, .pv (.sl 1 (ints vals))), (3, .pv (.sl 1 (ints v))), (4, .pv (.sl 1 (bls b))), (12, .own (.loc 1000)), (13, I .i64 i.1)], [(.loc 1000, some (.own 72 16 (trsL ((vals.take i.1).flatMap g))))]⟩) (fun i => vals.length - i.1) ⟨0, by omega⟩ (by simp [trsL]) ?_
      rintro ⟨i, hi⟩
      by_cases hil : i < vals.length
      · have hw : IntKind.wrap .i64 ((i : Int) + 1) = (i : Int) + 1 := wrap64s (by omega) (by omega)
        have hd : (i : Int) < (vals.length : Int) := by omega
        obtain ⟨hft, hfl⟩ := flat_take g hil
        generalize (vals.take i).flatMap g = F at *
        generalize hx : vals[i] = x at *
        have hT2 := hIV x hlt
        generalize g x = G at *
        have hft : trsL ((vals.take (i + 1)).flatMap g) = trsL F ++ trsL G := by rw [hft, trsL_app]
        repeat' (first
 | refine ar_end rfl ?_
 | refine ar_endD rfl (by kernel_rfl) ?_
 | refine ar_fin rfl ?_
 | refine ar_frzE [69] [] [] [] Tryz.call40 hT2 rfl rfl rfl rfl (by simp; exact rfl) (by simp; exact rfl) rfl (by simp; done) (by rfl) (by simp; fail_if_success (show _)) rfl ⟨by simp, by simp, (by simp [okY]; fail_if_success (show _)), by simp, by simp⟩ (by simp; fail_if_success (show _)) (by simp; done) ?_
 | refine ar_appO rfl rfl rfl rfl rfl (by simp; exact rfl) rfl (by simp; exact rfl) (by simp; exact rfl) (by simp; exact ⟨rfl, rfl⟩) rfl (by simp; exact rfl) (by simp; done) (by decide) (by simp [ints_len, trsL_len, maxLen]; try omega) ?_
 | refine lq_normR (.loc 72) (.loc 1000) [0, 1, 2, 3, 4, 12, 13] [.loc 1000] (by simp; exact rfl) ⟨i + 1, by omega⟩ (by dsimp only; omega) (by simp [hft])
 | refine ar_go3 _ rfl (by simp [insL_len, insL_getE, inL, ints_len, ints_getE, bls_len, bls_getE, trsL_len, hil, hd, hx, hw]; exact ⟨rfl, rfl, rfl⟩) rfl ?_
 | refine aw_sregK 9 [0, 1, 2, 3, 4, 12, 13] ?_
 | refine aw_regK 10 [0, 1, 2, 3, 4, 12, 13] ?_
 | refine aw_regKD mixed 11 [0, 1, 2, 3, 4, 12, 13] (by simp; exact rfl) ?_
 | refine aw_ifT (b := true) rfl rfl ?_
 | refine aw_seq ?_
 | refine aw_block ?_
 | refine aw_skip ?_)
      · have hd : ¬(i : Int) < (vals.length : Int) := by omega
        have hie : vals.take i = vals := List.take_of_length_le (by omega)
        rw [hie]
        repeat' (first
 | refine ar_end rfl ?_
 | exact aw_ret (ret_frz (.loc 1000) (by simp; exact rfl) (by simp []; fail_if_success (show _)))
 | refine ar_go3 _ rfl (by simp [insL_len, insL_getE, inL, ints_len, ints_getE, bls_len, bls_getE, trsL_len, hd]; exact ⟨rfl, rfl, rfl⟩) rfl ?_
 | refine aw_sregK 9 [0, 1, 2, 3, 4, 12, 13] ?_
 | refine aw_sregK 12 [12] ?_
 | refine aw_ifF (b := false) rfl rfl ?_
 | refine aw_seq ?_
 | refine aw_exit ?_)
    · rw [if_neg m1] at hle ⊢
      have m2 : R.more = 2 := by omega
      have hlt := w2 m2
      have hT := hIB true hlt
      have hF := hIB false hlt
      generalize tellF th locs vals f v (b ++ [true]) = G1 at *
      generalize tellF th locs vals f v (b ++ [false]) = G2 at *
      have hla : G1.length + G2.length ≤ 1048576 := by rw [List.length_append] at hle; exact hle
      repeat' (first
 | refine ar_end rfl ?_
 | refine ar_callV Tryz.call59 hR rfl rfl rfl rfl rfl (by simp; done) (by rfl) (by simp; done) ?_
 | refine ar_frzE [36] [] [] [] Tryz.call40 hT rfl rfl rfl rfl (by simp; exact rfl) (by simp; exact rfl) rfl (by simp; done) (by rfl) (by simp; fail_if_success (show _)) rfl ⟨by simp, by simp, (by simp [okY]; fail_if_success (show _)), by simp, by simp⟩ (by simp; fail_if_success (show _)) (by simp; done) ?_
 | refine ar_frzE [48] [] [] [] Tryz.call40 hF rfl rfl rfl rfl (by simp; exact rfl) (by simp; exact rfl) rfl (by simp; done) (by rfl) (by simp; fail_if_success (show _)) rfl ⟨by simp, by simp, (by simp [okY]; fail_if_success (show _)), by simp, by simp⟩ (by simp; fail_if_success (show _)) (by simp; done) ?_
 | refine ar_appO rfl rfl rfl rfl rfl (by simp; exact rfl) rfl (by simp; exact rfl) (by simp; exact rfl) (by simp; exact ⟨rfl, rfl⟩) rfl (by simp; exact rfl) (by simp; done) (by decide) (by simp [bls_len, trsL_len, maxLen]; try omega) ?_
 | refine ar_appN rfl rfl rfl rfl (by simp; exact rfl) (by simp; fail_if_success (show _)) (by simp; exact rfl) (by simp; exact rfl) (by simp; exact ⟨rfl, rfl⟩) (by simp; exact rfl) (by simp; done) (by decide) (by simp [trsL_len, maxLen]; try omega) ?_
 | exact aw_ret (ret_frz (.loc 50) (by simp; exact rfl) (by simp [trsL_app]; fail_if_success (show _)))
 | refine ar_go3 _ rfl (by simp [insL_len, insL_getE, inL, ints_len, ints_getE, bls_len, bls_getE, trsL_len, m0, m1, m2]; exact ⟨rfl, rfl, rfl⟩) rfl ?_
 | refine aw_sregK 0 [0, 1, 2, 3, 4] ?_
 | refine aw_sregK 1 [0, 1, 2, 3, 4] ?_
 | refine aw_sregK 2 [0, 1, 2, 3, 4, 11] ?_
 | refine aw_sregK 4 [0, 1, 2, 3, 4, 11] ?_
 | refine aw_sregK 5 [0, 1, 2, 3, 4, 11, 12] ?_
 | refine aw_sregK 6 [0, 1, 2, 3, 4, 12] ?_
 | refine aw_sregK 7 [0, 1, 2, 3, 4, 12] ?_
 | refine aw_ifT (b := true) rfl rfl ?_
 | refine aw_ifF (b := false) rfl rfl ?_
 | refine aw_seq ?_
 | refine aw_skip ?_)
set_option maxHeartbeats 16000000 in
theorem c_on0 {th : List In} {locs : Int} {vals : List Int} (hw : W64 locs) (h4 : ldN th ≤ 4) (h8 : vals.length ≤ 8) : SC Tryz.prog 40 [.pv (.sl 6 (insL th)), I .i64 locs, .pv (.sl 1 (ints vals)), .pv (.v (.slice none 0 0)), .pv (.v (.slice none 0 0))] (.pv (.sl 16 (trsL (tellF th locs vals 13 [] [])))) := by
  have h := c_on hw h4 h8 13 [] [] (by simp) (by simp) (by decide)
  refine SCX.pre (args' := [.pv (.sl 6 (insL th)), I .i64 locs, .pv (.sl 1 (ints vals)), .pv (.sl 1 (ints [])), .pv (.sl 1 (bls []))]) ?_ rfl h
  refine (Sub.nilSl _ 3 1).trans ((Sub.nilSl _ 4 1).trans (Sub.of ?_ (fun p hp => ?_) (fun p hp => ?_)))
  · simp [AState.nilSl, isNilV, ints, bls]
  · simp [AState.nilSl, isNilV, ints, bls] at hp ⊢
    rcases hp with rfl | rfl | rfl | rfl | rfl <;> simp
  · cases hp
set_option maxHeartbeats 16000000 in
theorem c_r9Traces {th : List In} {locs : Int} {vals : List Int} (hl : th.length ≤ maxLen) (hw : W64 locs) (h8 : vals.length ≤ 8) : SC Tryz.prog 15 [.pv (.sl 6 (insL th)), I .i64 locs, .pv (.sl 1 (ints vals))] (.pv (.sl 16 (trsL (tracesF th locs vals)))) := by
  have hon := fun h4 => c_on0 (th := th) hw h4 h8
  refine scx_of Tryz.func15 rfl rfl rfl (Nat.le_of_ble_eq_true rfl) ?_
  repeat' (first
 | refine ar_end rfl ?_
 | refine ar_go3 _ rfl (by simp [insL_len, insL_getE, inL, ints_len, ints_getE, bls_len, bls_getE, trsL_len]; exact ⟨rfl, rfl, rfl⟩) rfl ?_
 | refine aw_sregK 0 [0, 1, 2] ?_
 | refine aw_sregK 1 [0, 1, 2] ?_
 | refine aw_sregK 2 [0, 1, 2, 7] ?_
 | refine aw_seq ?_
 | refine aw_block ?_)
  refine aw_loopN [0, 1, 2, 7, 8] [] (by simp; exact rfl) (ι := {i : Nat // i ≤ th.length}) (fun i => ⟨29, [(0, .pv (.sl 6 (insL th))), (1, I .i64 locs), (2, .pv (.sl 1 (ints vals))), (7, I .i64 (ldN (th.take i.1))), (8, I .i64 i.1)], []⟩) (fun i => th.length - i.1) ⟨0, by omega⟩ (by simp [ldN]) ?_
  rintro ⟨i, hi⟩
  have hM : maxLen = 9223372036854775807 := rfl
  by_cases hlt : i < th.length
  · have hw1 := wrap_succ hlt hl
    have hc : (i : Int) < (th.length : Int) := by omega
    have hs : ldN (th.take (i + 1)) = ldN (th.take i) + (if kindF th[i].op = 1 then 1 else 0) := by
      unfold ldN; rw [filter_take_succ' hlt, List.length_append]
      by_cases h : kindF th[i].op = 1 <;> simp [h]
    have hb : ldN (th.take i) ≤ i := by unfold ldN; exact Nat.le_trans (List.length_filter_le _ _) (by simp; omega)
    generalize hx : th[i] = x at hs
    by_cases hk : kindF x.op = 1
    · rw [if_pos hk] at hs
      have hw2 : IntKind.wrap .i64 ((ldN (th.take i) : Int) + 1) = (ldN (th.take i) : Int) + 1 := wrap64s (by omega) (by omega)
      repeat' (first
 | refine ar_end rfl ?_
 | refine ar_fin rfl ?_
 | refine ar_callV Tryz.call39 c_refKind rfl rfl rfl rfl rfl (by simp; done) (by rfl) (by simp; done) ?_
 | refine lq_normN [0, 1, 2, 7, 8] [] (by simp; exact rfl) ⟨i + 1, by omega⟩ (by dsimp only; omega) (by simp [hs])
 | refine ar_go3 _ rfl (by simp [insL_len, insL_getE, inL, ints_len, ints_getE, bls_len, bls_getE, trsL_len, hlt, hw1, hc, hx, hk, hw2]; exact ⟨rfl, rfl, rfl⟩) rfl ?_
 | refine aw_sregK 3 [0, 1, 2, 7, 8] ?_
 | refine aw_regK 4 [0, 1, 2, 7, 8] ?_
 | refine aw_sregK 5 [0, 1, 2, 7, 8] ?_
 | refine aw_regK 6 [0, 1, 2, 7, 8] ?_
 | refine aw_ifT (b := true) rfl rfl ?_
 | refine aw_seq ?_
 | refine aw_block ?_
 | refine aw_skip ?_)
    · rw [if_neg hk] at hs
      repeat' (first
 | refine ar_end rfl ?_
 | refine ar_fin rfl ?_
 | refine ar_callV Tryz.call39 c_refKind rfl rfl rfl rfl rfl (by simp; done) (by rfl) (by simp; done) ?_
 | refine bq_norm ?_
 | refine lq_normN [0, 1, 2, 7, 8] [] (by simp; exact rfl) ⟨i + 1, by omega⟩ (by dsimp only; omega) (by simp [hs])
 | refine ar_go3 _ rfl (by simp [insL_len, insL_getE, inL, ints_len, ints_getE, bls_len, bls_getE, trsL_len, hlt, hw1, hc, hx, hk]; exact ⟨rfl, rfl, rfl⟩) rfl ?_
 | refine aw_sregK 3 [0, 1, 2, 7, 8] ?_
 | refine aw_regK 4 [0, 1, 2, 7, 8] ?_
 | refine aw_sregK 5 [0, 1, 2, 7, 8] ?_
 | refine aw_ifT (b := true) rfl rfl ?_
 | refine aw_ifF (b := false) rfl rfl ?_
 | refine aw_seq ?_
 | refine aw_block ?_
 | refine aw_skip ?_)
  · have hc : ¬(i : Int) < (th.length : Int) := by omega
    have et : th.take i = th := List.take_of_length_le (by omega)
    rw [et]
    unfold tracesF
    by_cases h4 : 4 < ldN th
    · rw [if_pos h4]
      have h4' : (4 : Int) < (ldN th : Int) := by omega
      repeat' (first
 | refine ar_end rfl ?_
 | exact aw_ret (ret_nil 6 16 (by simp; exact rfl) (by simp [trsL]; fail_if_success (show _)))
 | refine ar_go3 _ rfl (by simp [insL_len, insL_getE, inL, ints_len, ints_getE, bls_len, bls_getE, trsL_len, hc, h4']; exact ⟨rfl, rfl, rfl⟩) rfl ?_
 | refine aw_sregK 3 [0, 1, 2, 7, 8] ?_
 | refine aw_sregK 7 [0, 1, 2, 7] ?_
 | refine aw_sregK 8 [] ?_
 | refine aw_ifT (b := true) rfl rfl ?_
 | refine aw_ifF (b := false) rfl rfl ?_
 | refine aw_seq ?_
 | refine aw_exit ?_)
    · rw [if_neg h4]
      have h4' : ¬(4 : Int) < (ldN th : Int) := by omega
      have hon := hon (by omega)
      generalize tellF th locs vals 13 [] [] = W at *
      repeat' (first
 | refine ar_end rfl ?_
 | refine ar_callV Tryz.call40 hon rfl rfl rfl rfl rfl (by simp; done) (by rfl) (by simp; done) ?_
 | exact aw_ret (ret_vals (by simp; exact rfl) rfl)
 | refine ar_go3 _ rfl (by simp [insL_len, insL_getE, inL, ints_len, ints_getE, bls_len, bls_getE, trsL_len, hc, h4']; exact ⟨rfl, rfl, rfl⟩) rfl ?_
 | refine aw_sregK 3 [0, 1, 2, 7, 8] ?_
 | refine aw_sregK 7 [0, 1, 2, 7] ?_
 | refine aw_sregK 9 [0, 1, 2] ?_
 | refine aw_ifF (b := false) rfl rfl ?_
 | refine aw_seq ?_
 | refine aw_skip ?_
 | refine aw_exit ?_)
end Go.Eng
