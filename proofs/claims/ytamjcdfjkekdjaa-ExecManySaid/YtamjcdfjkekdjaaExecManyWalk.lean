import Derived.Test.YtamjcdfjkekdjaaExecF
set_option linter.unusedSimpArgs false
set_option linter.unusedVariables false
set_option linter.constructorNameAsVariable false
set_option autoImplicit false
namespace Go.Eng
open Go Go.RowKit Go.Proofs
set_option maxHeartbeats 16000000 in
theorem law_ExecMany {i : List Int} {t : List (List In)} (hth : ∀ th ∈ t, ∀ x ∈ th, wfIn x) : SC Try.prog 32 [.agg (testL i t)] (B true) := by
  cases hfb : fewB i t
  · refine scx_of Try.func32 rfl rfl rfl (Nat.le_of_ble_eq_true rfl) ?_
    repeat' (first
 | exact aw_ret (ret_vals (by simp; exact rfl) (by simp [*]; fail_if_success (show _)))
 | refine ar_end rfl ?_
 | refine ar_callV Try.call83 c_shown10 rfl rfl rfl rfl rfl (by simp; done) (by rfl) (by simp; done) ?_
 | refine ar_callV Try.call54 c_Few rfl rfl rfl rfl rfl (by simp; done) (by rfl) (by simp; done) ?_
 | refine ar_go3 _ rfl (by simp [hfb]; exact ⟨rfl, rfl, rfl⟩) rfl ?_
 | refine aw_sregK 0 [0] ?_
 | refine aw_sregK 1 [1] ?_
 | refine aw_sregK 2 [1, 3] ?_
 | refine aw_sregK 3 [3] ?_
 | refine aw_ifT (b := true) rfl rfl ?_
 | refine aw_seq ?_)
  have hM : maxLen = 9223372036854775807 := rfl
  have hf := fewB_iff.1 hfb
  have hA := c_All hf hth
  have hO := c_Of hf hth
  have hbad := @all_bad i t
  have hmany := @all_many i t
  have hw64 := of_ok64 (i := i) hth
  have hok := @of_ok i t
  generalize allF i t = q at *
  obtain ⟨xs, f⟩ := q
  generalize ofF i t = p at *
  obtain ⟨l, e⟩ := p
  dsimp only at hA hO hbad hmany hw64 hok
  by_cases he : e = 0
  · subst he
    have hok := hok rfl
    have hmany := hmany rfl
    obtain ⟨hlw, hl8⟩ := hw64 rfl
    obtain ⟨hi3, ht3, hi1, _, hts⟩ := ok_facts hok
    have hp60 : ∀ k, prodF i.length l (t.take k) ≤ 1152921504606846976 := fun k => by
      have h1 := prod_le (L := i.length) hl8 (t.take k)
      have h2 : (t.take k).length ≤ 3 := by rw [List.length_take]; omega
      exact Nat.le_trans h1 (Nat.le_trans (Nat.pow_le_pow_right (by decide) h2) (by decide))
    have hpt := fun k h => prod_take (L := i.length) (l := l) (t := t) (k := k) h
    refine scx_of Try.func32 rfl rfl rfl (Nat.le_of_ble_eq_true rfl) ?_
    repeat' (first
 | refine ar_end rfl ?_
 | refine ar_callV Try.call83 c_shown10 rfl rfl rfl rfl rfl (by simp; done) (by rfl) (by simp; done) ?_
 | refine ar_callV Try.call54 c_Few rfl rfl rfl rfl rfl (by simp; done) (by rfl) (by simp; done) ?_
 | refine ar_callV Try.call79 hO rfl rfl rfl rfl rfl (by simp; done) (by rfl) (by simp; done) ?_
 | refine ar_callV Try.call84 hA rfl rfl rfl rfl rfl (by simp; done) (by rfl) (by simp; done) ?_
 | refine ar_go3 _ rfl (by simp [hfb, exsL_len]; exact ⟨rfl, rfl, rfl⟩) rfl ?_
 | refine aw_sregK 0 [0] ?_
 | refine aw_sregK 1 [1] ?_
 | refine aw_sregK 2 [1, 3] ?_
 | refine aw_sregK 4 [1, 3] ?_
 | refine aw_sregK 5 [1, 3, 4, 5] ?_
 | refine aw_sregK 6 [1, 3, 4, 5, 6, 7] ?_
 | refine aw_sregK 8 [1, 3, 4, 6, 7] ?_
 | refine aw_sregK 9 [1, 3, 4, 6, 7, 8] ?_
 | refine aw_ifF (b := false) rfl rfl ?_
 | refine aw_seq ?_
 | refine aw_block ?_
 | refine aw_skip ?_)
    refine aw_loopN [1, 3, 4, 6, 7, 8, 9] [.loc 1] (by simp; exact rfl) (ι := {k : Nat // k ≤ t.length}) (fun k => ⟨86, [(1, .ptr (.loc 1) 0), (3, B true), (4, .pv (.sl 1 (ints l))), (6, .pv (.sl 7 (exsL xs))), (7, I .i64 f), (8, I .i64 (prodF i.length l (t.take k.1))), (9, I .i64 k.1)], [(.loc 1, some (.box 55 [.pv (.sl 1 (ints i)), .pv (.sl 1 (thsL t))]))]⟩) (fun k => t.length - k.1) ⟨0, by omega⟩ (by simp [prodF]) ?_
    rintro ⟨k, hk⟩
    by_cases hlt : k < t.length
    · have hd : (k : Int) < (t.length : Int) := by omega
      have hw : IntKind.wrap .i64 ((k : Int) + 1) = (k : Int) + 1 := wrap64s (by omega) (by omega)
      have hlenk := (hts _ (List.getElem_mem hlt)).1.2
      have hT := c_Traces (th := t[k]) (locs := (i.length : Int)) (vals := l) (by omega) hl8
      have h1 := hpt k hlt
      have h2 := hp60 (k + 1)
      generalize prodF i.length l (t.take k) = P1 at *
      generalize hx : t[k] = th at *
      generalize tracesF th i.length l = ts at *
      have hwm : IntKind.wrap .i64 ((P1 : Int) * (ts.length : Int)) = ((prodF i.length l (t.take (k + 1)) : Nat) : Int) := by
        rw [← Int.natCast_mul, ← h1]
        exact wrap64s (by omega) (by omega)
      repeat' (first
 | refine ar_end rfl ?_
 | refine ar_endD rfl (by kernel_rfl) ?_
 | refine ar_fin rfl ?_
 | refine ar_callV Try.call73 hT rfl rfl rfl rfl rfl (by simp; done) (by rfl) (by simp; done) ?_
 | refine lq_normN [1, 3, 4, 6, 7, 8, 9] [.loc 1] (by simp; exact rfl) ⟨k + 1, by omega⟩ (by dsimp only; omega) (by simp [])
 | refine ar_go3 _ rfl (by simp [exsL_len, exsL_getE, evsL_len, evsL_getE, evL, rgL_len, ints_len, thsL_len, thsL_getE, trsL_len, hd, hlt, hx, hw, hwm]; exact ⟨rfl, rfl, rfl⟩) rfl ?_
 | refine aw_sregK 10 [1, 3, 4, 6, 7, 8, 9] ?_
 | refine aw_regK 11 [1, 3, 4, 6, 7, 8, 9] ?_
 | refine aw_regKD mixed 12 [1, 3, 4, 6, 7, 8, 9] (by simp; exact rfl) ?_
 | refine aw_ifT (b := true) rfl rfl ?_
 | refine aw_seq ?_
 | refine aw_block ?_
 | refine aw_skip ?_)
    have hd : ¬(k : Int) < (t.length : Int) := by omega
    have hke : t.take k = t := List.take_of_length_le (by omega)
    rw [hke]
    rcases hmany with ⟨m1, m2⟩ | ⟨m1, m2, m3, _⟩
    · rw [Prod.mk.injEq] at m2
      obtain ⟨rfl, rfl⟩ := m2
      generalize prodF i.length l t = P at *
      have m1' : (20000 : Int) < (P : Int) := by omega
      repeat' (first
 | exact aw_ret (ret_vals (by simp; exact rfl) (by simp [*]; fail_if_success (show _)))
 | refine ar_end rfl ?_
 | refine ar_go3 _ rfl (by simp [exsL_len, exsL_getE, evsL_len, evsL_getE, evL, rgL_len, ints_len, thsL_len, thsL_getE, trsL_len, exsL, hd, m1']; exact ⟨rfl, rfl, rfl⟩) rfl ?_
 | refine aw_sregK 10 [1, 3, 4, 6, 7, 8, 9] ?_
 | refine aw_sregK 13 [3, 6, 7, 8] ?_
 | refine aw_ifF (b := false) rfl rfl ?_
 | refine aw_seq ?_
 | refine aw_exit ?_)
    · subst m2
      generalize prodF i.length l t = P at *
      have m1' : (P : Int) ≤ 20000 := by omega
      have m4 : ¬(20000 : Int) < (P : Int) := by omega
      have m3' : (xs.length : Int) = (P : Int) := by omega
      repeat' (first
 | exact aw_ret (ret_vals (by simp; exact rfl) (by simp [*]; fail_if_success (show _)))
 | refine ar_end rfl ?_
 | refine ar_go3 _ rfl (by simp [exsL_len, exsL_getE, evsL_len, evsL_getE, evL, rgL_len, ints_len, thsL_len, thsL_getE, trsL_len, hd, m1', m4, m3']; exact ⟨rfl, rfl, rfl⟩) rfl ?_
 | refine aw_sregK 10 [1, 3, 4, 6, 7, 8, 9] ?_
 | refine aw_sregK 13 [3, 6, 7, 8] ?_
 | refine aw_ifF (b := false) rfl rfl ?_
 | refine aw_seq ?_
 | refine aw_exit ?_)
  · have h := hbad he
    rw [Prod.mk.injEq] at h
    obtain ⟨rfl, rfl⟩ := h
    refine scx_of Try.func32 rfl rfl rfl (Nat.le_of_ble_eq_true rfl) ?_
    repeat' (first
 | exact aw_ret (ret_vals (by simp; exact rfl) (by simp [*]; fail_if_success (show _)))
 | refine ar_end rfl ?_
 | refine ar_callV Try.call83 c_shown10 rfl rfl rfl rfl rfl (by simp; done) (by rfl) (by simp; done) ?_
 | refine ar_callV Try.call54 c_Few rfl rfl rfl rfl rfl (by simp; done) (by rfl) (by simp; done) ?_
 | refine ar_callV Try.call79 hO rfl rfl rfl rfl rfl (by simp; done) (by rfl) (by simp; done) ?_
 | refine ar_callV Try.call84 hA rfl rfl rfl rfl rfl (by simp; done) (by rfl) (by simp; done) ?_
 | refine ar_go3 _ rfl (by simp [hfb, exsL, he]; exact ⟨rfl, rfl, rfl⟩) rfl ?_
 | refine aw_sregK 0 [0] ?_
 | refine aw_sregK 1 [1] ?_
 | refine aw_sregK 2 [1, 3] ?_
 | refine aw_sregK 4 [1, 3] ?_
 | refine aw_sregK 5 [1, 3, 4, 5] ?_
 | refine aw_sregK 6 [1, 3, 4, 5, 6, 7] ?_
 | refine aw_sregK 7 [3, 5, 6, 7] ?_
 | refine aw_ifT (b := true) rfl rfl ?_
 | refine aw_ifF (b := false) rfl rfl ?_
 | refine aw_seq ?_
 | refine aw_skip ?_)
end Go.Eng
