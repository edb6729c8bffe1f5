import Derived.Test.YtamjcdfjkekdjaaValsK
set_option linter.unusedSimpArgs false
set_option linter.unusedVariables false
set_option linter.constructorNameAsVariable false
set_option autoImplicit false
namespace Go.Eng
open Go Go.RowKit Go.Proofs
set_option maxHeartbeats 16000000 in
theorem law_ValsReads {th : List In} {l : List Int} (hth : ∀ x ∈ th, wfIn x) (hl : ∀ n ∈ l, W64 n) : SC Try.prog 28 [.pv (.sl 6 (insL th)), .pv (.sl 1 (ints l))] (B true) := by
  by_cases h40 : 8 < (th.length : Int)
  · refine scx_of Try.func28 rfl rfl rfl (Nat.le_of_ble_eq_true rfl) ?_
    repeat' (first
 | exact aw_ret (ret_vals (by simp; exact rfl) (by simp [*]; fail_if_success (show _)))
 | refine ar_end rfl ?_
 | refine ar_callV Try.call72 c_shown9 rfl rfl rfl rfl rfl (by simp; done) (by rfl) (by simp; done) ?_
 | refine ar_go3 _ rfl (by simp [trsL_len, trsL_getE, evsL_len, evsL_getE, trL, evL, insL_len, insL_getE, inL, ints_len, ints_getE, thsL_len, thsL_getE, h40]; exact ⟨rfl, rfl, rfl⟩) rfl ?_
 | refine aw_sregK 0 [0, 1] ?_
 | refine aw_sregK 1 [0, 1] ?_
 | refine aw_sregK 2 [0, 1, 5] ?_
 | refine aw_sregK 3 [5] ?_
 | refine aw_ifT (b := true) rfl rfl ?_
 | refine aw_seq ?_)
  by_cases h8 : 6 < (l.length : Int)
  · refine scx_of Try.func28 rfl rfl rfl (Nat.le_of_ble_eq_true rfl) ?_
    repeat' (first
 | exact aw_ret (ret_vals (by simp; exact rfl) (by simp [*]; fail_if_success (show _)))
 | refine ar_end rfl ?_
 | refine ar_callV Try.call72 c_shown9 rfl rfl rfl rfl rfl (by simp; done) (by rfl) (by simp; done) ?_
 | refine ar_go3 _ rfl (by simp [trsL_len, trsL_getE, evsL_len, evsL_getE, trL, evL, insL_len, insL_getE, inL, ints_len, ints_getE, thsL_len, thsL_getE, h40, h8]; exact ⟨rfl, rfl, rfl⟩) rfl ?_
 | refine aw_sregK 0 [0, 1] ?_
 | refine aw_sregK 1 [0, 1] ?_
 | refine aw_sregK 2 [0, 1, 5] ?_
 | refine aw_sregK 3 [5] ?_
 | refine aw_ifT (b := true) rfl rfl ?_
 | refine aw_seq ?_)
  have hM : maxLen = 9223372036854775807 := rfl
  have hok := traces_ok (locs := 2) hth hl
  have hrd := traces_reads (th := th) (locs := 2) (vals := l)
  have hT := c_Traces (th := th) (locs := 2) (vals := l) (by omega) (by omega)
  have hn := traces_len (th := th) (locs := 2) (vals := l) (by omega)
  generalize tracesF th 2 l = ts at *
  obtain ⟨hW, hWl⟩ := c_WroteV hn hok
  have hwa := sortU_asc (wvals ts)
  generalize sortU (wvals ts) = w at *
  refine scx_of Try.func28 rfl rfl rfl (Nat.le_of_ble_eq_true rfl) ?_
  repeat' (first
 | refine ar_end rfl ?_
 | refine ar_callV Try.call72 c_shown9 rfl rfl rfl rfl rfl (by simp; done) (by rfl) (by simp; done) ?_
 | refine ar_callV Try.call73 hT rfl rfl rfl rfl rfl (by simp; done) (by rfl) (by simp; done) ?_
 | refine ar_go3 _ rfl (by simp [trsL_len, trsL_getE, evsL_len, evsL_getE, trL, evL, insL_len, insL_getE, inL, ints_len, ints_getE, thsL_len, thsL_getE, h40, h8]; exact ⟨rfl, rfl, rfl⟩) rfl ?_
 | refine aw_sregK 0 [0, 1] ?_
 | refine aw_sregK 1 [0, 1] ?_
 | refine aw_sregK 2 [0, 1, 5] ?_
 | refine aw_sregK 4 [0, 1, 5] ?_
 | refine aw_sregK 5 [1, 5, 6] ?_
 | refine aw_ifF (b := false) rfl rfl ?_
 | refine aw_seq ?_
 | refine aw_block ?_
 | refine aw_skip ?_)
  refine aw_loopN [1, 5, 6, 7] [] (by simp; exact rfl) (ι := {k : Nat // k ≤ ts.length}) (fun k => ⟨90, [(1, .pv (.sl 1 (ints l))), (5, B true), (6, .pv (.sl 16 (trsL ts))), (7, I .i64 k.1)], []⟩) (fun k => ts.length - k.1) ⟨0, by omega⟩ (by simp) ?_
  rintro ⟨k, hk⟩
  by_cases hlt : k < ts.length
  · have hc : (k : Int) < (ts.length : Int) := by omega
    have hw : IntKind.wrap .i64 ((k : Int) + 1) = (k : Int) + 1 := wrap64s (by omega) (by omega)
    have ho := hok _ (List.getElem_mem hlt)
    have hes := ho.es
    have hmo := ho.more
    have hrd := hrd _ (List.getElem_mem hlt)
    generalize hx : ts[k] = R at *
    repeat' (first
 | refine ar_end rfl ?_
 | refine ar_go3 _ rfl (by simp [trsL_len, trsL_getE, evsL_len, evsL_getE, trL, evL, insL_len, insL_getE, inL, ints_len, ints_getE, thsL_len, thsL_getE, hlt, hc, hx, hmo]; exact ⟨rfl, rfl, rfl⟩) rfl ?_
 | refine aw_sregK 6 [1, 5, 6, 7] ?_
 | refine aw_sregK 8 [1, 5, 6, 7] ?_
 | refine aw_sregK 10 [1, 5, 6, 7] ?_
 | refine aw_ifT (b := true) rfl rfl ?_
 | refine aw_ifF (b := false) rfl rfl ?_
 | refine aw_seq ?_
 | refine aw_block ?_
 | refine aw_skip ?_)
    refine aw_loopN [1, 5, 6, 7, 8] [] (by simp; exact rfl) (ι := {j : Nat // j ≤ R.es.length}) (fun j => ⟨90, [(1, .pv (.sl 1 (ints l))), (5, B true), (6, .pv (.sl 16 (trsL ts))), (7, I .i64 k), (8, I .i64 j.1)], []⟩) (fun j => R.es.length - j.1) ⟨0, by omega⟩ (by simp) ?_
    rintro ⟨j, hj⟩
    by_cases hjl : j < R.es.length
    · have hd : (j : Int) < (R.es.length : Int) := by omega
      have hw2 : IntKind.wrap .i64 ((j : Int) + 1) = (j : Int) + 1 := wrap64s (by omega) (by omega)
      have hin := hrd _ (List.getElem_mem hjl)
      generalize hee : R.es[j] = e at *
      by_cases hek : e.k = 1
      · have hI := c_r9In (l := l) (n := e.v) (by omega)
        have hin := hin hek
        repeat' (first
 | refine ar_end rfl ?_
 | refine ar_fin rfl ?_
 | refine ar_callV_if Try.call81 hI rfl rfl rfl rfl rfl rfl (by simp; done) rfl (by rfl) (by simp; done) ?_
 | refine bq_norm ?_
 | refine lq_normN [1, 5, 6, 7, 8] [] (by simp; exact rfl) ⟨j + 1, by omega⟩ (by dsimp only; omega) (by simp [])
 | refine ar_go3 _ rfl (by simp [trsL_len, trsL_getE, evsL_len, evsL_getE, trL, evL, insL_len, insL_getE, inL, ints_len, ints_getE, thsL_len, thsL_getE, hlt, hx, hd, hjl, hee, hek, hin, hw2]; exact ⟨rfl, rfl, rfl⟩) rfl ?_
 | refine aw_sregK 11 [1, 5, 6, 7, 8] ?_
 | refine aw_regK 12 [1, 5, 6, 7, 8] ?_
 | refine aw_sregK 13 [1, 5, 6, 7, 8] ?_
 | refine aw_ifT (b := true) rfl rfl ?_
 | refine aw_ifF (b := false) rfl rfl ?_
 | refine aw_seq ?_
 | refine aw_block ?_
 | refine aw_skip ?_)
      ·
        repeat' (first
 | refine ar_end rfl ?_
 | refine ar_fin rfl ?_
 | refine bq_norm ?_
 | refine lq_normN [1, 5, 6, 7, 8] [] (by simp; exact rfl) ⟨j + 1, by omega⟩ (by dsimp only; omega) (by simp [])
 | refine ar_go3 _ rfl (by simp [trsL_len, trsL_getE, evsL_len, evsL_getE, trL, evL, insL_len, insL_getE, inL, ints_len, ints_getE, thsL_len, thsL_getE, hlt, hx, hd, hjl, hee, hek, hw2]; exact ⟨rfl, rfl, rfl⟩) rfl ?_
 | refine aw_sregK 11 [1, 5, 6, 7, 8] ?_
 | refine aw_regK 12 [1, 5, 6, 7, 8] ?_
 | refine aw_sregK 13 [1, 5, 6, 7, 8] ?_
 | refine aw_ifT (b := true) rfl rfl ?_
 | refine aw_ifF (b := false) rfl rfl ?_
 | refine aw_seq ?_
 | refine aw_block ?_
 | refine aw_skip ?_)
    have hd : ¬(j : Int) < (R.es.length : Int) := by omega
    repeat' (first
 | refine ar_end rfl ?_
 | refine ar_fin rfl ?_
 | refine lq_normN [1, 5, 6, 7] [] (by simp; exact rfl) ⟨k + 1, by omega⟩ (by dsimp only; omega) (by simp [])
 | refine ar_go3 _ rfl (by simp [trsL_len, trsL_getE, evsL_len, evsL_getE, trL, evL, insL_len, insL_getE, inL, ints_len, ints_getE, thsL_len, thsL_getE, hlt, hx, hd, hw]; exact ⟨rfl, rfl, rfl⟩) rfl ?_
 | refine aw_regK 7 [1, 5, 6, 7] ?_
 | refine aw_sregK 11 [1, 5, 6, 7, 8] ?_
 | refine aw_ifF (b := false) rfl rfl ?_
 | refine aw_seq ?_
 | refine aw_exit ?_)
  have hc : ¬(k : Int) < (ts.length : Int) := by omega
  repeat' (first
 | refine ar_end rfl ?_
 | refine ar_callV Try.call77 hW rfl rfl rfl rfl rfl (by simp; done) (by rfl) (by simp; done) ?_
 | refine ar_go3 _ rfl (by simp [trsL_len, trsL_getE, evsL_len, evsL_getE, trL, evL, insL_len, insL_getE, inL, ints_len, ints_getE, thsL_len, thsL_getE, hc]; exact ⟨rfl, rfl, rfl⟩) rfl ?_
 | refine aw_sregK 6 [1, 5, 6, 7] ?_
 | refine aw_sregK 15 [5, 6] ?_
 | refine aw_sregK 16 [5, 9] ?_
 | refine aw_ifF (b := false) rfl rfl ?_
 | refine aw_seq ?_
 | refine aw_block ?_
 | refine aw_exit ?_)
  refine aw_loopN [5, 9, 10] [] (by simp; exact rfl) (ι := {j : Nat // j ≤ w.length}) (fun j => ⟨90, [(5, B true), (9, .pv (.sl 1 (ints w))), (10, I .i64 j.1)], []⟩) (fun j => w.length - j.1) ⟨0, by omega⟩ (by simp) ?_
  rintro ⟨j, hj⟩
  have hw : IntKind.wrap .i64 ((j : Int) + 1) = (j : Int) + 1 := wrap64s (by omega) (by omega)
  by_cases hjl : j + 1 < w.length
  · have hd : (j : Int) + 1 < (w.length : Int) := by omega
    have hj0 : j < w.length := by omega
    have hle := asc_next hwa hjl
    generalize hp : w[j] = p at *
    generalize hq : w[j + 1] = q at *
    have ht1 : ((j : Int) + 1).toNat = j + 1 := by omega
    have h01 : (0 : Int) ≤ (j : Int) + 1 := by omega
    have hd0 : (j : Int) < (w.length : Int) := by omega
    repeat' (first
 | refine ar_end rfl ?_
 | refine ar_endD rfl (by kernel_rfl) ?_
 | refine ar_fin rfl ?_
 | refine bq_norm ?_
 | refine lq_normN [5, 9, 10] [] (by simp; exact rfl) ⟨j + 1, by omega⟩ (by dsimp only; omega) (by simp [])
 | refine ar_go3 _ rfl (by simp [ints_len, ints_getE, hd, hd0, hj0, hjl, hp, hq, hle, hw, ht1, h01]; exact ⟨rfl, rfl, rfl⟩) rfl ?_
 | refine aw_sregK 17 [5, 9, 10] ?_
 | refine aw_regK 18 [5, 9, 10] ?_
 | refine aw_sregKD mixed 19 [5, 9, 10] (by simp; exact rfl) ?_
 | refine aw_ifT (b := true) rfl rfl ?_
 | refine aw_ifF (b := false) rfl rfl ?_
 | refine aw_seq ?_
 | refine aw_block ?_
 | refine aw_skip ?_)
  have hd : ¬(j : Int) + 1 < (w.length : Int) := by omega
  repeat' (first
 | exact aw_ret (ret_vals (by simp; exact rfl) (by simp [*]; fail_if_success (show _)))
 | refine ar_end rfl ?_
 | refine ar_go3 _ rfl (by simp [ints_len, hd, hw]; exact ⟨rfl, rfl, rfl⟩) rfl ?_
 | refine aw_sregK 17 [5, 9, 10] ?_
 | refine aw_sregK 21 [5] ?_
 | refine aw_ifF (b := false) rfl rfl ?_
 | refine aw_seq ?_
 | refine aw_exit ?_)
end Go.Eng
