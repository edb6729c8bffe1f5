import Derived.Test.YtamjcdfjkekdjaaValsK
import Derived.Test.YtamjcdfjkekdjaaTestA
set_option linter.unusedSimpArgs false
set_option linter.unusedVariables false
set_option linter.constructorNameAsVariable false
set_option autoImplicit false
namespace Go.Eng
open Go Go.RowKit Go.Proofs
set_option maxHeartbeats 16000000 in
theorem law_ValsClosed {i : List Int} {t : List (List In)} (hth : ∀ th ∈ t, ∀ x ∈ th, wfIn x) : SC Try.prog 29 [.agg (testL i t)] (B true) := by
  cases hfb : fewB i t
  · refine scx_of Try.func29 rfl rfl rfl (Nat.le_of_ble_eq_true rfl) ?_
    repeat' (first
 | exact aw_ret (ret_vals (by simp; exact rfl) (by simp [*]; fail_if_success (show _)))
 | refine ar_end rfl ?_
 | refine ar_callV Try.call72 c_shown9 rfl rfl rfl rfl rfl (by simp; done) (by rfl) (by simp; done) ?_
 | refine ar_callV Try.call54 c_Few rfl rfl rfl rfl rfl (by simp; done) (by rfl) (by simp; done) ?_
 | refine ar_go3 _ rfl (by simp [hfb]; exact ⟨rfl, rfl, rfl⟩) rfl ?_
 | refine aw_sregK 0 [0] ?_
 | refine aw_sregK 1 [1] ?_
 | refine aw_sregK 2 [1, 3] ?_
 | refine aw_sregK 3 [3] ?_
 | refine aw_ifT (b := true) rfl rfl ?_
 | refine aw_seq ?_)
  have hM : maxLen = 9223372036854775807 := rfl
  have hf := fewB_iff.1 hfb
  have hO := c_Of hf hth
  have hC := c_refCount hf
  have hbad := @of_bad i t
  have hcl := @of_closed i t
  have hok := @of_ok i t
  generalize ofF i t = p at *
  obtain ⟨l, e⟩ := p
  dsimp only at hO hbad hcl hok
  by_cases he : e = 0
  · subst he
    have hok := hok rfl
    obtain ⟨hi3, ht3, hi1, _, hts⟩ := ok_facts hok
    have hiw := ok_init hok
    obtain ⟨q1, q2, q3, q4, q5⟩ := hcl rfl
    have q3' : (l.length : Int) ≤ 8 := by omega
    have q4' : (1 : Int) ≤ (l.length : Int) := by omega
    generalize kcT 1 t = c1 at *
    generalize kcT 2 t = c2 at *
    refine scx_of Try.func29 rfl rfl rfl (Nat.le_of_ble_eq_true rfl) ?_
    repeat' (first
 | refine ar_end rfl ?_
 | refine ar_callV Try.call72 c_shown9 rfl rfl rfl rfl rfl (by simp; done) (by rfl) (by simp; done) ?_
 | refine ar_callV Try.call54 c_Few rfl rfl rfl rfl rfl (by simp; done) (by rfl) (by simp; done) ?_
 | refine ar_callV Try.call79 hO rfl rfl rfl rfl rfl (by simp; done) (by rfl) (by simp; done) ?_
 | refine ar_go3 _ rfl (by simp [hfb]; exact ⟨rfl, rfl, rfl⟩) rfl ?_
 | refine aw_sregK 0 [0] ?_
 | refine aw_sregK 1 [1] ?_
 | refine aw_sregK 2 [1, 3] ?_
 | refine aw_sregK 4 [1, 3] ?_
 | refine aw_sregK 5 [1, 3, 4, 5] ?_
 | refine aw_sregK 7 [1, 3, 4] ?_
 | refine aw_ifF (b := false) rfl rfl ?_
 | refine aw_seq ?_
 | refine aw_block ?_
 | refine aw_skip ?_)
    refine aw_loopN [1, 3, 4, 6] [.loc 1] (by simp; exact rfl) (ι := {k : Nat // k ≤ i.length}) (fun k => ⟨115, [(1, .ptr (.loc 1) 0), (3, B true), (4, .pv (.sl 1 (ints l))), (6, I .i64 k.1)], [(.loc 1, some (.box 55 [.pv (.sl 1 (ints i)), .pv (.sl 1 (thsL t))]))]⟩) (fun k => i.length - k.1) ⟨0, by omega⟩ (by simp) ?_
    rintro ⟨k, hk⟩
    by_cases hlt : k < i.length
    · have hc : (k : Int) < (i.length : Int) := by omega
      have hw : IntKind.wrap .i64 ((k : Int) + 1) = (k : Int) + 1 := wrap64s (by omega) (by omega)
      have hin := q1 _ (List.getElem_mem hlt)
      generalize hx : i[k] = x at *
      have hI := c_r9In (l := l) (n := x) (by omega)
      repeat' (first
 | refine ar_end rfl ?_
 | refine ar_fin rfl ?_
 | refine ar_callV Try.call81 hI rfl rfl rfl rfl rfl (by simp; done) (by rfl) (by simp; done) ?_
 | refine bq_norm ?_
 | refine lq_normN [1, 3, 4, 6] [.loc 1] (by simp; exact rfl) ⟨k + 1, by omega⟩ (by dsimp only; omega) (by simp [])
 | refine ar_go3 _ rfl (by simp [trsL_len, trsL_getE, evsL_len, evsL_getE, trL, evL, insL_len, insL_getE, inL, ints_len, ints_getE, thsL_len, thsL_getE, hlt, hc, hx, hin, hw]; exact ⟨rfl, rfl, rfl⟩) rfl ?_
 | refine aw_sregK 8 [1, 3, 4, 6] ?_
 | refine aw_regK 9 [1, 3, 4, 6] ?_
 | refine aw_sregK 10 [1, 3, 4, 6] ?_
 | refine aw_ifT (b := true) rfl rfl ?_
 | refine aw_ifF (b := false) rfl rfl ?_
 | refine aw_seq ?_
 | refine aw_block ?_
 | refine aw_skip ?_)
    have hc : ¬(k : Int) < (i.length : Int) := by omega
    repeat' (first
 | refine ar_end rfl ?_
 | refine ar_go3 _ rfl (by simp [trsL_len, trsL_getE, evsL_len, evsL_getE, trL, evL, insL_len, insL_getE, inL, ints_len, ints_getE, thsL_len, thsL_getE, hc]; exact ⟨rfl, rfl, rfl⟩) rfl ?_
 | refine aw_sregK 8 [1, 3, 4, 6] ?_
 | refine aw_sregK 12 [1, 3, 4] ?_
 | refine aw_ifF (b := false) rfl rfl ?_
 | refine aw_seq ?_
 | refine aw_block ?_
 | refine aw_exit ?_)
    refine aw_loopN [1, 3, 4, 7] [.loc 1] (by simp; exact rfl) (ι := {j : Nat // j ≤ l.length}) (fun j => ⟨115, [(1, .ptr (.loc 1) 0), (3, B true), (4, .pv (.sl 1 (ints l))), (7, I .i64 j.1)], [(.loc 1, some (.box 55 [.pv (.sl 1 (ints i)), .pv (.sl 1 (thsL t))]))]⟩) (fun j => l.length - j.1) ⟨0, by omega⟩ (by simp) ?_
    rintro ⟨j, hj⟩
    have hw : IntKind.wrap .i64 ((j : Int) + 1) = (j : Int) + 1 := wrap64s (by omega) (by omega)
    by_cases hjl : j + 1 < l.length
    · have hd : (j : Int) + 1 < (l.length : Int) := by omega
      have hj0 : j < l.length := by omega
      have hle := asc_next q2 hjl
      generalize hp : l[j] = p at *
      generalize hq : l[j + 1] = q at *
      have ht1 : ((j : Int) + 1).toNat = j + 1 := by omega
      have h01 : (0 : Int) ≤ (j : Int) + 1 := by omega
      have hd0 : (j : Int) < (l.length : Int) := by omega
      repeat' (first
 | refine ar_end rfl ?_
 | refine ar_endD rfl (by kernel_rfl) ?_
 | refine ar_fin rfl ?_
 | refine bq_norm ?_
 | refine lq_normN [1, 3, 4, 7] [.loc 1] (by simp; exact rfl) ⟨j + 1, by omega⟩ (by dsimp only; omega) (by simp [])
 | refine ar_go3 _ rfl (by simp [ints_len, ints_getE, hd, hd0, hj0, hjl, hp, hq, hle, hw, ht1, h01]; exact ⟨rfl, rfl, rfl⟩) rfl ?_
 | refine aw_sregK 13 [1, 3, 4, 7] ?_
 | refine aw_regK 14 [1, 3, 4, 7] ?_
 | refine aw_sregKD mixed 15 [1, 3, 4, 7] (by simp; exact rfl) ?_
 | refine aw_ifT (b := true) rfl rfl ?_
 | refine aw_ifF (b := false) rfl rfl ?_
 | refine aw_seq ?_
 | refine aw_block ?_
 | refine aw_skip ?_)
    have hd : ¬(j : Int) + 1 < (l.length : Int) := by omega
    repeat' (first
 | refine ar_end rfl ?_
 | refine ar_callV Try.call58 hC rfl rfl rfl rfl rfl (by simp; done) (by rfl) (by simp; done) ?_
 | refine ar_go3 _ rfl (by simp [ints_len, hd, hw]; exact ⟨rfl, rfl, rfl⟩) rfl ?_
 | refine aw_sregK 13 [1, 3, 4, 7] ?_
 | refine aw_sregK 17 [1, 3, 4] ?_
 | refine aw_sregK 18 [1, 3, 4, 9] ?_
 | refine aw_ifF (b := false) rfl rfl ?_
 | refine aw_seq ?_
 | refine aw_block ?_
 | refine aw_exit ?_)
    refine aw_loopN [1, 3, 4, 9, 10] [.loc 1] (by simp; exact rfl) (ι := {k : Nat // k ≤ t.length}) (fun k => ⟨115, [(1, .ptr (.loc 1) 0), (3, B true), (4, .pv (.sl 1 (ints l))), (9, I .i64 c2), (10, I .i64 k.1)], [(.loc 1, some (.box 55 [.pv (.sl 1 (ints i)), .pv (.sl 1 (thsL t))]))]⟩) (fun k => t.length - k.1) ⟨0, by omega⟩ (by simp) ?_
    rintro ⟨k, hk⟩
    by_cases hlt : k < t.length
    · have hc : (k : Int) < (t.length : Int) := by omega
      by_cases hs : 0 < c2
      · have hw : IntKind.wrap .i64 ((k : Int) + 1) = (k : Int) + 1 := wrap64s (by omega) (by omega)
        have hrow := q5 hs _ (List.getElem_mem hlt)
        have hthk := hth _ (List.getElem_mem hlt)
        have hlenk := (hts _ (List.getElem_mem hlt)).1.2
        have hT := c_Traces (th := t[k]) (locs := (i.length : Int)) (vals := i) (by omega) (by omega)
        obtain ⟨hW, hWl⟩ := c_WroteV (traces_len (th := t[k]) (locs := (i.length : Int)) (vals := i) (by omega)) (traces_ok hthk hiw)
        have hrw : rowF i.length i t[k] = sortU (wvals (tracesF t[k] i.length i)) := rfl
        rw [hrw] at hrow
        generalize tracesF t[k] i.length i = ts at *
        generalize sortU (wvals ts) = w at *
        generalize hx : t[k] = th at *
        repeat' (first
 | refine ar_end rfl ?_
 | refine ar_endD rfl (by kernel_rfl) ?_
 | refine ar_callV Try.call73 hT rfl rfl rfl rfl rfl (by simp; done) (by rfl) (by simp; done) ?_
 | refine ar_callV Try.call77 hW rfl rfl rfl rfl rfl (by simp; done) (by rfl) (by simp; done) ?_
 | refine ar_go3 _ rfl (by simp [trsL_len, trsL_getE, evsL_len, evsL_getE, trL, evL, insL_len, insL_getE, inL, ints_len, ints_getE, thsL_len, thsL_getE, hlt, hc, hs, hx]; exact ⟨rfl, rfl, rfl⟩) rfl ?_
 | refine aw_sregK 19 [1, 3, 4, 9, 10] ?_
 | refine aw_sregKD mixed 21 [1, 3, 4, 9, 10] (by simp; exact rfl) ?_
 | refine aw_sregK 22 [1, 3, 4, 9, 10, 11] ?_
 | refine aw_ifT (b := true) rfl rfl ?_
 | refine aw_seq ?_
 | refine aw_block ?_
 | refine aw_skip ?_)
        refine aw_loopN [1, 3, 4, 9, 10, 11, 12] [.loc 1] (by simp; exact rfl) (ι := {j : Nat // j ≤ w.length}) (fun j => ⟨115, [(1, .ptr (.loc 1) 0), (3, B true), (4, .pv (.sl 1 (ints l))), (9, I .i64 c2), (10, I .i64 k), (11, .pv (.sl 1 (ints w))), (12, I .i64 j.1)], [(.loc 1, some (.box 55 [.pv (.sl 1 (ints i)), .pv (.sl 1 (thsL t))]))]⟩) (fun j => w.length - j.1) ⟨0, by omega⟩ (by simp) ?_
        rintro ⟨j, hj⟩
        by_cases hjl : j < w.length
        · have hd : (j : Int) < (w.length : Int) := by omega
          have hw2 : IntKind.wrap .i64 ((j : Int) + 1) = (j : Int) + 1 := wrap64s (by omega) (by omega)
          have hin := hrow _ (List.getElem_mem hjl)
          generalize hy : w[j] = y at *
          have hI := c_r9In (l := l) (n := y) (by omega)
          repeat' (first
 | refine ar_end rfl ?_
 | refine ar_fin rfl ?_
 | refine ar_callV Try.call81 hI rfl rfl rfl rfl rfl (by simp; done) (by rfl) (by simp; done) ?_
 | refine bq_norm ?_
 | refine lq_normN [1, 3, 4, 9, 10, 11, 12] [.loc 1] (by simp; exact rfl) ⟨j + 1, by omega⟩ (by dsimp only; omega) (by simp [])
 | refine ar_go3 _ rfl (by simp [trsL_len, trsL_getE, evsL_len, evsL_getE, trL, evL, insL_len, insL_getE, inL, ints_len, ints_getE, thsL_len, thsL_getE, hjl, hd, hy, hin, hw2]; exact ⟨rfl, rfl, rfl⟩) rfl ?_
 | refine aw_sregK 23 [1, 3, 4, 9, 10, 11, 12] ?_
 | refine aw_regK 24 [1, 3, 4, 9, 10, 11, 12] ?_
 | refine aw_sregK 25 [1, 3, 4, 9, 10, 11, 12] ?_
 | refine aw_ifT (b := true) rfl rfl ?_
 | refine aw_ifF (b := false) rfl rfl ?_
 | refine aw_seq ?_
 | refine aw_block ?_
 | refine aw_skip ?_)
        have hd : ¬(j : Int) < (w.length : Int) := by omega
        repeat' (first
 | refine ar_end rfl ?_
 | refine ar_fin rfl ?_
 | refine lq_normN [1, 3, 4, 9, 10] [.loc 1] (by simp; exact rfl) ⟨k + 1, by omega⟩ (by dsimp only; omega) (by simp [])
 | refine ar_go3 _ rfl (by simp [trsL_len, trsL_getE, evsL_len, evsL_getE, trL, evL, insL_len, insL_getE, inL, ints_len, ints_getE, thsL_len, thsL_getE, hd, hw]; exact ⟨rfl, rfl, rfl⟩) rfl ?_
 | refine aw_regK 20 [1, 3, 4, 9, 10] ?_
 | refine aw_sregK 23 [1, 3, 4, 9, 10, 11, 12] ?_
 | refine aw_ifF (b := false) rfl rfl ?_
 | refine aw_seq ?_
 | refine aw_exit ?_)
      repeat' (first
 | exact aw_ret (ret_vals (by simp; exact rfl) (by simp [*]; fail_if_success (show _)))
 | refine ar_end rfl ?_
 | refine ar_go3 _ rfl (by simp [trsL_len, trsL_getE, evsL_len, evsL_getE, trL, evL, insL_len, insL_getE, inL, ints_len, ints_getE, thsL_len, thsL_getE, hc, hs, q3', q4']; exact ⟨rfl, rfl, rfl⟩) rfl ?_
 | refine aw_sregK 19 [1, 3, 4, 9, 10] ?_
 | refine aw_sregK 27 [3, 4] ?_
 | refine aw_ifF (b := false) rfl rfl ?_
 | refine aw_seq ?_
 | refine aw_exit ?_)
    have hc : ¬(k : Int) < (t.length : Int) := by omega
    repeat' (first
 | exact aw_ret (ret_vals (by simp; exact rfl) (by simp [*]; fail_if_success (show _)))
 | refine ar_end rfl ?_
 | refine ar_go3 _ rfl (by simp [trsL_len, trsL_getE, evsL_len, evsL_getE, trL, evL, insL_len, insL_getE, inL, ints_len, ints_getE, thsL_len, thsL_getE, hc, q3', q4']; exact ⟨rfl, rfl, rfl⟩) rfl ?_
 | refine aw_sregK 19 [1, 3, 4, 9, 10] ?_
 | refine aw_sregK 27 [3, 4] ?_
 | refine aw_ifF (b := false) rfl rfl ?_
 | refine aw_seq ?_
 | refine aw_exit ?_)
  · have hl : l = [] := hbad he
    subst hl
    refine scx_of Try.func29 rfl rfl rfl (Nat.le_of_ble_eq_true rfl) ?_
    repeat' (first
 | exact aw_ret (ret_vals (by simp; exact rfl) (by simp [*]; fail_if_success (show _)))
 | refine ar_end rfl ?_
 | refine ar_callV Try.call72 c_shown9 rfl rfl rfl rfl rfl (by simp; done) (by rfl) (by simp; done) ?_
 | refine ar_callV Try.call54 c_Few rfl rfl rfl rfl rfl (by simp; done) (by rfl) (by simp; done) ?_
 | refine ar_callV Try.call79 hO rfl rfl rfl rfl rfl (by simp; done) (by rfl) (by simp; done) ?_
 | refine ar_go3 _ rfl (by simp [hfb, he, ints]; exact ⟨rfl, rfl, rfl⟩) rfl ?_
 | refine aw_sregK 0 [0] ?_
 | refine aw_sregK 1 [1] ?_
 | refine aw_sregK 2 [1, 3] ?_
 | refine aw_sregK 4 [1, 3] ?_
 | refine aw_sregK 5 [1, 3, 4, 5] ?_
 | refine aw_sregK 6 [3, 4] ?_
 | refine aw_ifT (b := true) rfl rfl ?_
 | refine aw_ifF (b := false) rfl rfl ?_
 | refine aw_seq ?_
 | refine aw_skip ?_)
end Go.Eng
