import Derived.Test.YtamjcdfjkekdjaaExecF
set_option linter.unusedSimpArgs false
set_option linter.unusedVariables false
set_option linter.constructorNameAsVariable false
set_option autoImplicit false
namespace Go.Eng
open Go Go.RowKit Go.Proofs
set_option maxHeartbeats 16000000 in
theorem law_ExecEnds {i : List Int} {t : List (List In)} {w : Int} (hw0 : 0 ≤ w ∧ w < 65536) (hth : ∀ th ∈ t, ∀ x ∈ th, wfIn x) : SC Try.prog 31 [.agg (testL i t), I .u16 w] (B true) := by
  cases hfb : fewB i t
  · refine scx_of Try.func31 rfl rfl rfl (Nat.le_of_ble_eq_true rfl) ?_
    repeat' (first
 | exact aw_ret (ret_vals (by simp; exact rfl) (by simp [*]; fail_if_success (show _)))
 | refine ar_end rfl ?_
 | refine ar_callV Try.call83 c_shown10 rfl rfl rfl rfl rfl (by simp; done) (by rfl) (by simp; done) ?_
 | refine ar_callV Try.call54 c_Few rfl rfl rfl rfl rfl (by simp; done) (by rfl) (by simp; done) ?_
 | refine ar_go3 _ rfl (by simp [hfb]; exact ⟨rfl, rfl, rfl⟩) rfl ?_
 | refine aw_sregK 0 [0, 1] ?_
 | refine aw_sregK 1 [1, 2] ?_
 | refine aw_sregK 2 [1, 2, 5] ?_
 | refine aw_sregK 3 [5] ?_
 | refine aw_ifT (b := true) rfl rfl ?_
 | refine aw_seq ?_)
  have hM : maxLen = 9223372036854775807 := rfl
  have hf := fewB_iff.1 hfb
  have hA := c_All hf hth
  have hq := all_q (i := i) hth
  have herr := @all_err i t
  have hmanyQ : (allF i t).2 = 0 → 0 < (allF i t).1.length := fun h => by
    by_cases ho : (ofF i t).2 = 0
    · rcases all_many ho with ⟨_, h1⟩ | ⟨_, _, h2, h3⟩
      · rw [h1] at h; cases h
      · omega
    · rw [all_bad ho] at h; exact absurd h ho
  have hlenQ : (allF i t).1.length ≤ 20000 := by
    by_cases ho : (ofF i t).2 = 0
    · rcases all_many ho with ⟨_, h1⟩ | ⟨h0, _, h2, h3⟩
      · rw [h1]; simp
      · omega
    · rw [all_bad ho]; simp
  generalize allF i t = q at *
  obtain ⟨xs, f⟩ := q
  dsimp only at hA hq herr hmanyQ hlenQ
  by_cases he : f = 0
  · subst he
    have hpos := hmanyQ rfl
    have hne : ¬(xs.length : Int) = 0 := by omega
    have hnn : ¬xs = [] := by intro h; rw [h] at hpos; simp at hpos
    have hrem0 : 0 ≤ w.tmod (xs.length : Int) ∧ w.tmod (xs.length : Int) < (xs.length : Int) := by
      rw [Int.tmod_eq_emod_of_nonneg hw0.1]
      exact ⟨Int.emod_nonneg _ hne, Int.emod_lt_of_pos _ (by omega)⟩
    have hwr : IntKind.wrap .i64 (w.tmod (xs.length : Int)) = w.tmod (xs.length : Int) := wrap64s (by omega) (by omega)
    have hww : IntKind.wrap .i64 w = w := wrap64s (by omega) (by omega)
    obtain ⟨k, hk⟩ := Int.eq_ofNat_of_zero_le hrem0.1
    have hkl : k < xs.length := by omega
    have hkd : (k : Int) < (xs.length : Int) := by omega
    obtain ⟨q1, q2, q3, q4, q5⟩ := hq _ (List.getElem_mem hkl)
    generalize hx : xs[k] = x at *
    have q1' : (x.rg.length : Int) = (t.length : Int) := by omega
    refine scx_of Try.func31 rfl rfl rfl (Nat.le_of_ble_eq_true rfl) ?_
    repeat' (first
 | refine ar_end rfl ?_
 | refine ar_callV Try.call83 c_shown10 rfl rfl rfl rfl rfl (by simp; done) (by rfl) (by simp; done) ?_
 | refine ar_callV Try.call54 c_Few rfl rfl rfl rfl rfl (by simp; done) (by rfl) (by simp; done) ?_
 | refine ar_callV Try.call84 hA rfl rfl rfl rfl rfl (by simp; done) (by rfl) (by simp; done) ?_
 | refine ar_go3 _ rfl (by simp [hfb, exsL_len, exsL_getE, hne, hnn, hww, hk, hwr, hkl, hkd, hx]; exact ⟨rfl, rfl, rfl⟩) rfl ?_
 | refine aw_sregK 0 [0, 1] ?_
 | refine aw_sregK 1 [1, 2] ?_
 | refine aw_sregK 2 [1, 2, 5] ?_
 | refine aw_sregK 4 [1, 2, 5] ?_
 | refine aw_sregK 5 [1, 2, 5, 6, 7] ?_
 | refine aw_sregK 7 [1, 2, 5, 6] ?_
 | refine aw_sregK 8 [2, 5, 8] ?_
 | refine aw_ifF (b := false) rfl rfl ?_
 | refine aw_seq ?_
 | refine aw_block ?_
 | refine aw_skip ?_)
    refine aw_loopN [2, 5, 8, 9] [.loc 2, .loc 8] (by simp; exact rfl) (ι := {j : Nat // j ≤ x.es.length}) (fun j => ⟨129, [(2, .ptr (.loc 2) 0), (5, B true), (8, .ptr (.loc 8) 0), (9, I .i64 j.1)], [(.loc 2, some (.box 55 [.pv (.sl 1 (ints i)), .pv (.sl 1 (thsL t))])), (.loc 8, some (.box 109 [.pv (.sl 7 (evsL x.es)), .pv (.sl 1 (rl x.po)), .pv (.sl 1 (rl x.ad)), .pv (.sl 1 (rl x.da)), .pv (.sl 1 (rl x.ct)), .pv (.sl 1 (rl x.rm)), .pv (.sl 1 (rgL x.rg))]))]⟩) (fun j => x.es.length - j.1) ⟨0, by omega⟩ (by simp) ?_
    rintro ⟨j, hj⟩
    by_cases hlt : j < x.es.length
    · have hd : (j : Int) < (x.es.length : Int) := by omega
      have hw : IntKind.wrap .i64 ((j : Int) + 1) = (j : Int) + 1 := wrap64s (by omega) (by omega)
      obtain ⟨e1, e2, e3, e4⟩ := q3 _ (List.getElem_mem hlt)
      have e5 := q4 _ (List.getElem_mem hlt)
      generalize hy : x.es[j] = y at *
      have l0 : ¬y.l < 0 := by omega
      have l1 : ¬(i.length : Int) ≤ y.l := by omega
      have t0 : ¬y.th < 0 := by omega
      have t1 : ¬(t.length : Int) ≤ y.th := by omega
      by_cases k1 : y.k = 1
      · have r := e4 (by omega)
        repeat' (first
 | refine ar_end rfl ?_
 | refine ar_fin rfl ?_
 | refine bq_norm ?_
 | refine lq_normN [2, 5, 8, 9] [.loc 2, .loc 8] (by simp; exact rfl) ⟨j + 1, by omega⟩ (by dsimp only; omega) (by simp [])
 | refine ar_go3 _ rfl (by simp [exsL_len, exsL_getE, evsL_len, evsL_getE, evL, rgL_len, ints_len, thsL_len, thsL_getE, trsL_len, hd, hlt, hy, hw, l0, l1, t0, t1, k1, r]; exact ⟨rfl, rfl, rfl⟩) rfl ?_
 | refine aw_sregK 9 [2, 5, 8, 9] ?_
 | refine aw_sregK 11 [2, 5, 8, 9] ?_
 | refine aw_sregK 12 [2, 5, 8, 9, 10] ?_
 | refine aw_sregK 13 [2, 5, 8, 9, 10, 11] ?_
 | refine aw_ifT (b := true) rfl rfl ?_
 | refine aw_ifF (b := false) rfl rfl ?_
 | refine aw_seq ?_
 | refine aw_block ?_
 | refine aw_skip ?_
 | refine aw_region ?_)
      by_cases k2 : y.k = 2
      · have a := e3 k1
        repeat' (first
 | refine ar_end rfl ?_
 | refine ar_fin rfl ?_
 | refine bq_norm ?_
 | refine lq_normN [2, 5, 8, 9] [.loc 2, .loc 8] (by simp; exact rfl) ⟨j + 1, by omega⟩ (by dsimp only; omega) (by simp [])
 | refine ar_go3 _ rfl (by simp [exsL_len, exsL_getE, evsL_len, evsL_getE, evL, rgL_len, ints_len, thsL_len, thsL_getE, trsL_len, hd, hlt, hy, hw, l0, l1, t0, t1, k1, k2, a]; exact ⟨rfl, rfl, rfl⟩) rfl ?_
 | refine aw_sregK 9 [2, 5, 8, 9] ?_
 | refine aw_sregK 11 [2, 5, 8, 9] ?_
 | refine aw_sregK 12 [2, 5, 8, 9, 10] ?_
 | refine aw_sregK 13 [2, 5, 8, 9, 10, 11] ?_
 | refine aw_ifT (b := true) rfl rfl ?_
 | refine aw_ifF (b := false) rfl rfl ?_
 | refine aw_seq ?_
 | refine aw_block ?_
 | refine aw_skip ?_
 | refine aw_region ?_)
      · have r := e4 k2
        have a := e3 k1
        obtain ⟨z1, z2⟩ := e2 (by omega)
        have hin : ¬i = [] := by intro h; rw [h] at e1; simp at e1; omega
        have hin2 : ¬(i.length : Int) ≤ 0 := by omega
        repeat' (first
 | refine ar_end rfl ?_
 | refine ar_fin rfl ?_
 | refine bq_norm ?_
 | refine lq_normN [2, 5, 8, 9] [.loc 2, .loc 8] (by simp; exact rfl) ⟨j + 1, by omega⟩ (by dsimp only; omega) (by simp [])
 | refine ar_go3 _ rfl (by simp [exsL_len, exsL_getE, evsL_len, evsL_getE, evL, rgL_len, ints_len, thsL_len, thsL_getE, trsL_len, hd, hlt, hy, hw, l0, l1, t0, t1, k1, k2, r, a, z1, z2, hin, hin2]; exact ⟨rfl, rfl, rfl⟩) rfl ?_
 | refine aw_sregK 9 [2, 5, 8, 9] ?_
 | refine aw_sregK 11 [2, 5, 8, 9] ?_
 | refine aw_sregK 12 [2, 5, 8, 9, 10] ?_
 | refine aw_sregK 13 [2, 5, 8, 9, 10, 11] ?_
 | refine aw_ifT (b := true) rfl rfl ?_
 | refine aw_ifF (b := false) rfl rfl ?_
 | refine aw_seq ?_
 | refine aw_block ?_
 | refine aw_skip ?_
 | refine aw_region ?_)
    have hd : ¬(j : Int) < (x.es.length : Int) := by omega
    repeat' (first
 | exact aw_ret (ret_vals (by simp; exact rfl) (by simp [*]; fail_if_success (show _)))
 | refine ar_end rfl ?_
 | refine ar_go3 _ rfl (by simp [exsL_len, exsL_getE, evsL_len, evsL_getE, evL, rgL_len, ints_len, thsL_len, thsL_getE, trsL_len, hd, q1']; exact ⟨rfl, rfl, rfl⟩) rfl ?_
 | refine aw_sregK 9 [2, 5, 8, 9] ?_
 | refine aw_sregK 15 [2, 5, 8] ?_
 | refine aw_ifF (b := false) rfl rfl ?_
 | refine aw_seq ?_
 | refine aw_exit ?_)
  · have h := herr he
    subst h
    refine scx_of Try.func31 rfl rfl rfl (Nat.le_of_ble_eq_true rfl) ?_
    repeat' (first
 | exact aw_ret (ret_vals (by simp; exact rfl) (by simp [*]; fail_if_success (show _)))
 | refine ar_end rfl ?_
 | refine ar_callV Try.call83 c_shown10 rfl rfl rfl rfl rfl (by simp; done) (by rfl) (by simp; done) ?_
 | refine ar_callV Try.call54 c_Few rfl rfl rfl rfl rfl (by simp; done) (by rfl) (by simp; done) ?_
 | refine ar_callV Try.call84 hA rfl rfl rfl rfl rfl (by simp; done) (by rfl) (by simp; done) ?_
 | refine ar_go3 _ rfl (by simp [hfb, exsL, he]; exact ⟨rfl, rfl, rfl⟩) rfl ?_
 | refine aw_sregK 0 [0, 1] ?_
 | refine aw_sregK 1 [1, 2] ?_
 | refine aw_sregK 2 [1, 2, 5] ?_
 | refine aw_sregK 4 [1, 2, 5] ?_
 | refine aw_sregK 5 [1, 2, 5, 6, 7] ?_
 | refine aw_sregK 6 [5, 6] ?_
 | refine aw_ifT (b := true) rfl rfl ?_
 | refine aw_ifF (b := false) rfl rfl ?_
 | refine aw_seq ?_
 | refine aw_skip ?_)
end Go.Eng
