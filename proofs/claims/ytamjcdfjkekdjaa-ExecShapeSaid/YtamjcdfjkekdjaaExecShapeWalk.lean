import Derived.Test.YtamjcdfjkekdjaaExecEndsWalk
set_option linter.unusedSimpArgs false
set_option linter.unusedVariables false
set_option linter.constructorNameAsVariable false
set_option autoImplicit false
namespace Go.Eng
open Go Go.RowKit Go.Proofs
theorem alike_sym (x y : Ev) : alikeQ x y = alikeQ y x := by
  unfold alikeQ
  rw [Bool.and_comm (memE x) (memE y), show decide (x.l = y.l) = decide (y.l = x.l) from decide_eq_decide.2 ⟨Eq.symm, Eq.symm⟩]
theorem alike_inv {es : List Ev} (h32 : es.length ≤ 32) : sameR (invR (eventsR alikeQ es)) (eventsR alikeQ es) = true := by
  have hc := events_cl (q := alikeQ) h32
  obtain ⟨h1, h2⟩ := inv_cl hc
  have e : invR (eventsR alikeQ es) = eventsR alikeQ es := Cl.ext h1 hc fun i k hi hk => by
    rw [h2 i k hi hk, events_bit h32 hk hi, events_bit h32 hi hk, alike_sym, show decide (¬k = i) = decide (¬i = k) from decide_eq_decide.2 ⟨fun h e => h e.symm, fun h e => h e.symm⟩]
  unfold sameR
  rw [e]; exact decide_eq_true rfl
theorem sorted_next {l : List Ev} (h : (l.map (·.th)).Pairwise (· ≤ ·)) {k : Nat} (hk : k + 1 < l.length) : ¬l[k + 1].th < l[k].th := by
  have := List.pairwise_iff_getElem.1 h k (k + 1) (by simp; omega) (by simpa using hk) (by omega)
  simp only [List.getElem_map] at this
  omega
set_option maxHeartbeats 16000000 in
theorem law_ExecShape {i : List Int} {t : List (List In)} (hth : ∀ th ∈ t, ∀ x ∈ th, wfIn x) : SC Try.prog 33 [.agg (testL i t)] (B true) := by
  cases hfb : fewB i t
  · refine scx_of Try.func33 rfl rfl rfl (Nat.le_of_ble_eq_true rfl) ?_
    repeat' (first
 | exact aw_ret (ret_vals (by simp; exact rfl) (by simp [*]; fail_if_success (show _)))
 | refine ar_end rfl ?_
 | refine ar_callV Try.call83 c_shown10 rfl rfl rfl rfl rfl (by simp; done) (by rfl) (by simp; done) ?_
 | refine ar_callV Try.call54 c_Few rfl rfl rfl rfl rfl (by simp; done) (by rfl) (by simp; done) ?_
 | refine ar_go3 _ rfl (by simp [hfb]; exact ⟨rfl, rfl, rfl⟩) rfl ?_
 | refine aw_sregK 0 [0] ?_
 | refine aw_sregK 1 [1] ?_
 | refine aw_sregK 2 [1, 3] ?_
 | refine aw_sregK 3 [3] ?_
 | refine aw_ifT (b := true) rfl rfl ?_
 | refine aw_seq ?_)
  have hM : maxLen = 9223372036854775807 := rfl
  have hf := fewB_iff.1 hfb
  have hA := c_All hf hth
  have hq := all_q (i := i) hth
  have herr := @all_err i t
  have hmanyQ : (allF i t).2 = 0 → 0 < (allF i t).1.length := fun h => by
    by_cases ho : (ofF i t).2 = 0
    · rcases all_many ho with ⟨_, h1⟩ | ⟨_, _, h2, h3⟩
      · rw [h1] at h; cases h
      · omega
    · rw [all_bad ho] at h; exact absurd h ho
  have hlenQ : (allF i t).1.length ≤ 20000 := by
    by_cases ho : (ofF i t).2 = 0
    · rcases all_many ho with ⟨_, h1⟩ | ⟨h0, _, h2, h3⟩
      · rw [h1]; simp
      · omega
    · rw [all_bad ho]; simp
  generalize allF i t = q at *
  obtain ⟨xs, f⟩ := q
  dsimp only at hA hq herr hmanyQ hlenQ
  by_cases he : f = 0
  · subst he
    have hpos := hmanyQ rfl
    have hge : (1 : Int) ≤ (xs.length : Int) := by omega
    refine scx_of Try.func33 rfl rfl rfl (Nat.le_of_ble_eq_true rfl) ?_
    repeat' (first
 | refine ar_end rfl ?_
 | refine ar_callV Try.call83 c_shown10 rfl rfl rfl rfl rfl (by simp; done) (by rfl) (by simp; done) ?_
 | refine ar_callV Try.call54 c_Few rfl rfl rfl rfl rfl (by simp; done) (by rfl) (by simp; done) ?_
 | refine ar_callV Try.call84 hA rfl rfl rfl rfl rfl (by simp; done) (by rfl) (by simp; done) ?_
 | refine ar_go3 _ rfl (by simp [hfb]; exact ⟨rfl, rfl, rfl⟩) rfl ?_
 | refine aw_sregK 0 [0] ?_
 | refine aw_sregK 1 [1] ?_
 | refine aw_sregK 2 [1, 3] ?_
 | refine aw_sregK 4 [1, 3] ?_
 | refine aw_sregK 5 [1, 3, 4, 5] ?_
 | refine aw_sregK 7 [1, 3, 4] ?_
 | refine aw_ifF (b := false) rfl rfl ?_
 | refine aw_seq ?_
 | refine aw_block ?_
 | refine aw_skip ?_)
    refine aw_loopN [1, 3, 4, 6] [.loc 1] (by simp; exact rfl) (ι := {k : Nat // k ≤ xs.length}) (fun k => ⟨91, [(1, .ptr (.loc 1) 0), (3, B true), (4, .pv (.sl 7 (exsL xs))), (6, I .i64 k.1)], [(.loc 1, some (.box 55 [.pv (.sl 1 (ints i)), .pv (.sl 1 (thsL t))]))]⟩) (fun k => xs.length - k.1) ⟨0, by omega⟩ (by simp) ?_
    rintro ⟨k, hk⟩
    by_cases hlt : k < xs.length
    · have hd : (k : Int) < (xs.length : Int) := by omega
      by_cases h50 : (k : Int) < 50
      · have hw : IntKind.wrap .i64 ((k : Int) + 1) = (k : Int) + 1 := wrap64s (by omega) (by omega)
        obtain ⟨q1, q2, q3, q4, q5⟩ := hq _ (List.getElem_mem hlt)
        generalize hx : xs[k] = x at *
        have q1' : (x.rg.length : Int) = (t.length : Int) := by omega
        have q2' : ¬(24 : Int) < (x.es.length : Int) := by omega
        have hAl := c_alike (e := x) (by omega)
        have hcl := events_cl (q := alikeQ) (es := x.es) (by omega)
        have hsm := alike_inv (es := x.es) (by omega)
        generalize hE : eventsR alikeQ x.es = E at *
        have hel : E.length ≤ maxLen := by rw [hcl.len]; omega
        have hI := c_invV (a := E) hel
        have hil : (invR E).length ≤ maxLen := by rw [(inv_cl hcl).1.len]; omega
        have hS := c_same (a := invR E) (b := E) hil hel
        rw [hsm] at hS
        generalize invR E = E2 at *
        repeat' (first
 | refine ar_end rfl ?_
 | refine ar_endD rfl (by kernel_rfl) ?_
 | refine ar_callV_if Try.call87 hAl rfl rfl rfl rfl rfl rfl (by simp; done) rfl (by rfl) (by simp; done) ?_
 | refine ar_callV_if Try.call86 hI rfl rfl rfl rfl rfl rfl (by simp; done) rfl (by rfl) (by simp; done) ?_
 | refine ar_callV_if Try.call85 hS rfl rfl rfl rfl rfl rfl (by simp; done) rfl (by rfl) (by simp; done) ?_
 | refine ar_go3 _ rfl (by simp [exsL_len, exsL_getE, evsL_len, evsL_getE, evL, rgL_len, ints_len, thsL_len, thsL_getE, trsL_len, hd, hlt, h50, hx, q1, q1', q2']; exact ⟨rfl, rfl, rfl⟩) rfl ?_
 | refine aw_sregK 8 [1, 3, 4, 6] ?_
 | refine aw_sregK 10 [1, 3, 4, 6] ?_
 | refine aw_sregKD mixed 11 [1, 3, 4, 6, 7] (by simp; exact rfl) ?_
 | refine aw_sregK 13 [1, 3, 4, 6, 7] ?_
 | refine aw_ifT (b := true) rfl rfl ?_
 | refine aw_ifF (b := false) rfl rfl ?_
 | refine aw_seq ?_
 | refine aw_block ?_
 | refine aw_skip ?_)
        refine aw_loopN [1, 3, 4, 6, 7, 8] [.loc 1, .loc 7] (by simp; exact rfl) (ι := {j : Nat // j ≤ x.es.length}) (fun j => ⟨91, [(1, .ptr (.loc 1) 0), (3, B true), (4, .pv (.sl 7 (exsL xs))), (6, I .i64 k), (7, .ptr (.loc 7) 0), (8, I .i64 j.1)], [(.loc 1, some (.box 55 [.pv (.sl 1 (ints i)), .pv (.sl 1 (thsL t))])), (.loc 7, some (.box 109 [.pv (.sl 7 (evsL x.es)), .pv (.sl 1 (rl x.po)), .pv (.sl 1 (rl x.ad)), .pv (.sl 1 (rl x.da)), .pv (.sl 1 (rl x.ct)), .pv (.sl 1 (rl x.rm)), .pv (.sl 1 (rgL x.rg))]))]⟩) (fun j => x.es.length - j.1) ⟨0, by omega⟩ (by simp) ?_
        rintro ⟨j, hj⟩
        have hw2 : IntKind.wrap .i64 ((j : Int) + 1) = (j : Int) + 1 := wrap64s (by omega) (by omega)
        by_cases hjl : j + 1 < x.es.length
        · have hd2 : (j : Int) + 1 < (x.es.length : Int) := by omega
          have hj0 : j < x.es.length := by omega
          have hd0 : (j : Int) < (x.es.length : Int) := by omega
          have hle := sorted_next q5 hjl
          have ht1 : ((j : Int) + 1).toNat = j + 1 := by omega
          have h01 : (0 : Int) ≤ (j : Int) + 1 := by omega
          generalize hp : x.es[j] = p at *
          generalize hq2 : x.es[j + 1] = p2 at *
          repeat' (first
 | refine ar_end rfl ?_
 | refine ar_endD rfl (by kernel_rfl) ?_
 | refine ar_fin rfl ?_
 | refine bq_norm ?_
 | refine lq_normN [1, 3, 4, 6, 7, 8] [.loc 1, .loc 7] (by simp; exact rfl) ⟨j + 1, by omega⟩ (by dsimp only; omega) (by simp [])
 | refine ar_go3 _ rfl (by simp [exsL_len, exsL_getE, evsL_len, evsL_getE, evL, rgL_len, ints_len, thsL_len, thsL_getE, trsL_len, hd2, hd0, hj0, hjl, hp, hq2, hle, hw2, ht1, h01]; exact ⟨rfl, rfl, rfl⟩) rfl ?_
 | refine aw_sregK 14 [1, 3, 4, 6, 7, 8] ?_
 | refine aw_regK 15 [1, 3, 4, 6, 7, 8] ?_
 | refine aw_sregKD mixed 16 [1, 3, 4, 6, 7, 8] (by simp; exact rfl) ?_
 | refine aw_ifT (b := true) rfl rfl ?_
 | refine aw_ifF (b := false) rfl rfl ?_
 | refine aw_seq ?_
 | refine aw_block ?_
 | refine aw_skip ?_)
        have hd2 : ¬(j : Int) + 1 < (x.es.length : Int) := by omega
        repeat' (first
 | refine ar_end rfl ?_
 | refine ar_fin rfl ?_
 | refine lq_normN [1, 3, 4, 6] [.loc 1] (by simp; exact rfl) ⟨k + 1, by omega⟩ (by dsimp only; omega) (by simp [])
 | refine ar_go3 _ rfl (by simp [exsL_len, exsL_getE, evsL_len, evsL_getE, evL, rgL_len, ints_len, thsL_len, thsL_getE, trsL_len, hd2, hw2, hw]; exact ⟨rfl, rfl, rfl⟩) rfl ?_
 | refine aw_regK 9 [1, 3, 4, 6] ?_
 | refine aw_sregK 14 [1, 3, 4, 6, 7, 8] ?_
 | refine aw_ifF (b := false) rfl rfl ?_
 | refine aw_seq ?_
 | refine aw_exit ?_)
      repeat' (first
 | exact aw_ret (ret_vals (by simp; exact rfl) (by simp [*]; fail_if_success (show _)))
 | refine ar_end rfl ?_
 | refine ar_go3 _ rfl (by simp [exsL_len, exsL_getE, evsL_len, evsL_getE, evL, rgL_len, ints_len, thsL_len, thsL_getE, trsL_len, hd, h50, hge]; exact ⟨rfl, rfl, rfl⟩) rfl ?_
 | refine aw_sregK 8 [1, 3, 4, 6] ?_
 | refine aw_sregK 18 [3, 4] ?_
 | refine aw_ifF (b := false) rfl rfl ?_
 | refine aw_seq ?_
 | refine aw_exit ?_)
    have hd : ¬(k : Int) < (xs.length : Int) := by omega
    repeat' (first
 | exact aw_ret (ret_vals (by simp; exact rfl) (by simp [*]; fail_if_success (show _)))
 | refine ar_end rfl ?_
 | refine ar_go3 _ rfl (by simp [exsL_len, exsL_getE, evsL_len, evsL_getE, evL, rgL_len, ints_len, thsL_len, thsL_getE, trsL_len, hd, hge]; exact ⟨rfl, rfl, rfl⟩) rfl ?_
 | refine aw_sregK 8 [1, 3, 4, 6] ?_
 | refine aw_sregK 18 [3, 4] ?_
 | refine aw_ifF (b := false) rfl rfl ?_
 | refine aw_seq ?_
 | refine aw_exit ?_)
  · have h := herr he
    subst h
    refine scx_of Try.func33 rfl rfl rfl (Nat.le_of_ble_eq_true rfl) ?_
    repeat' (first
 | exact aw_ret (ret_vals (by simp; exact rfl) (by simp [*]; fail_if_success (show _)))
 | refine ar_end rfl ?_
 | refine ar_callV Try.call83 c_shown10 rfl rfl rfl rfl rfl (by simp; done) (by rfl) (by simp; done) ?_
 | refine ar_callV Try.call54 c_Few rfl rfl rfl rfl rfl (by simp; done) (by rfl) (by simp; done) ?_
 | refine ar_callV Try.call84 hA rfl rfl rfl rfl rfl (by simp; done) (by rfl) (by simp; done) ?_
 | refine ar_go3 _ rfl (by simp [hfb, exsL, he]; exact ⟨rfl, rfl, rfl⟩) rfl ?_
 | refine aw_sregK 0 [0] ?_
 | refine aw_sregK 1 [1] ?_
 | refine aw_sregK 2 [1, 3] ?_
 | refine aw_sregK 4 [1, 3] ?_
 | refine aw_sregK 5 [1, 3, 4, 5] ?_
 | refine aw_sregK 6 [3, 4] ?_
 | refine aw_ifT (b := true) rfl rfl ?_
 | refine aw_ifF (b := false) rfl rfl ?_
 | refine aw_seq ?_
 | refine aw_skip ?_)
end Go.Eng
