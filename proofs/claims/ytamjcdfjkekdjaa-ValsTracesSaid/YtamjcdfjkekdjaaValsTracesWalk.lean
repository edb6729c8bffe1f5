import Derived.Test.YtamjcdfjkekdjaaValsK
set_option linter.unusedSimpArgs false
set_option linter.unusedVariables false
set_option linter.constructorNameAsVariable false
set_option autoImplicit false
namespace Go.Eng
open Go Go.RowKit Go.Proofs
set_option maxHeartbeats 16000000 in
theorem law_ValsTraces {th : List In} {locs : Int} {l : List Int} (hth : ∀ x ∈ th, wfIn x) (hlw : W64 locs) (hl : ∀ n ∈ l, W64 n) : SC Try.prog 25 [.pv (.sl 6 (insL th)), I .i64 locs, .pv (.sl 1 (ints l))] (B true) := by
  by_cases h40 : 40 < (th.length : Int)
  · refine scx_of Try.func25 rfl rfl rfl (Nat.le_of_ble_eq_true rfl) ?_
    repeat' (first
 | exact aw_ret (ret_vals (by simp; exact rfl) (by simp [*]; fail_if_success (show _)))
 | refine ar_end rfl ?_
 | refine ar_callV Try.call72 c_shown9 rfl rfl rfl rfl rfl (by simp; done) (by rfl) (by simp; done) ?_
 | refine ar_go3 _ rfl (by simp [trsL_len, trsL_getE, evsL_len, evsL_getE, trL, evL, insL_len, insL_getE, inL, ints_len, ints_getE, thsL_len, thsL_getE, h40]; exact ⟨rfl, rfl, rfl⟩) rfl ?_
 | refine aw_sregK 0 [0, 1, 2] ?_
 | refine aw_sregK 1 [0, 1, 2] ?_
 | refine aw_sregK 2 [0, 1, 2, 7] ?_
 | refine aw_sregK 3 [7] ?_
 | refine aw_ifT (b := true) rfl rfl ?_
 | refine aw_seq ?_)
  by_cases h8 : 8 < (l.length : Int)
  · refine scx_of Try.func25 rfl rfl rfl (Nat.le_of_ble_eq_true rfl) ?_
    repeat' (first
 | exact aw_ret (ret_vals (by simp; exact rfl) (by simp [*]; fail_if_success (show _)))
 | refine ar_end rfl ?_
 | refine ar_callV Try.call72 c_shown9 rfl rfl rfl rfl rfl (by simp; done) (by rfl) (by simp; done) ?_
 | refine ar_go3 _ rfl (by simp [trsL_len, trsL_getE, evsL_len, evsL_getE, trL, evL, insL_len, insL_getE, inL, ints_len, ints_getE, thsL_len, thsL_getE, h40, h8]; exact ⟨rfl, rfl, rfl⟩) rfl ?_
 | refine aw_sregK 0 [0, 1, 2] ?_
 | refine aw_sregK 1 [0, 1, 2] ?_
 | refine aw_sregK 2 [0, 1, 2, 7] ?_
 | refine aw_sregK 3 [7] ?_
 | refine aw_ifT (b := true) rfl rfl ?_
 | refine aw_seq ?_)
  have hM : maxLen = 9223372036854775807 := rfl
  have hok := traces_ok (locs := locs) hth hl
  have hT := c_Traces (th := th) (locs := locs) (vals := l) (by omega) (by omega)
  have hR := c_r9Traces (th := th) (locs := locs) (vals := l) (by omega) hlw (by omega)
  have hn := traces_len (th := th) (locs := locs) (vals := l) (by omega)
  generalize tracesF th locs l = ts at *
  obtain ⟨hW, hWl⟩ := c_WroteV hn hok
  have hV := c_r9Wrote0 hn hok
  generalize sortU (wvals ts) = w at *
  have hN := c_NumsV (l := w) (by omega)
  refine scx_of Try.func25 rfl rfl rfl (Nat.le_of_ble_eq_true rfl) ?_
  repeat' (first
 | refine ar_end rfl ?_
 | refine ar_callV Try.call72 c_shown9 rfl rfl rfl rfl rfl (by simp; done) (by rfl) (by simp; done) ?_
 | refine ar_callV Try.call73 hT rfl rfl rfl rfl rfl (by simp; done) (by rfl) (by simp; done) ?_
 | refine ar_callV Try.call74 hR rfl rfl rfl rfl rfl (by simp; done) (by rfl) (by simp; done) ?_
 | refine ar_go3 _ rfl (by simp [trsL_len, trsL_getE, evsL_len, evsL_getE, trL, evL, insL_len, insL_getE, inL, ints_len, ints_getE, thsL_len, thsL_getE, h40, h8]; exact ⟨rfl, rfl, rfl⟩) rfl ?_
 | refine aw_sregK 0 [0, 1, 2] ?_
 | refine aw_sregK 1 [0, 1, 2] ?_
 | refine aw_sregK 2 [0, 1, 2, 7] ?_
 | refine aw_sregK 4 [0, 1, 2, 7] ?_
 | refine aw_sregK 5 [0, 1, 2, 7, 8] ?_
 | refine aw_sregK 6 [7, 8, 9] ?_
 | refine aw_sregK 8 [7, 8, 9] ?_
 | refine aw_ifF (b := false) rfl rfl ?_
 | refine aw_seq ?_
 | refine aw_block ?_
 | refine aw_skip ?_)
  refine aw_loopN [7, 8, 9, 10] [] (by simp; exact rfl) (ι := {k : Nat // k ≤ ts.length}) (fun k => ⟨59, [(7, B true), (8, .pv (.sl 16 (trsL ts))), (9, .pv (.sl 16 (trsL ts))), (10, I .i64 k.1)], []⟩) (fun k => ts.length - k.1) ⟨0, by omega⟩ (by simp) ?_
  rintro ⟨k, hk⟩
  by_cases hlt : k < ts.length
  · have hc : (k : Int) < (ts.length : Int) := by omega
    have hw : IntKind.wrap .i64 ((k : Int) + 1) = (k : Int) + 1 := wrap64s (by omega) (by omega)
    have ho := hok _ (List.getElem_mem hlt)
    have hes := ho.es
    have hS := c_SameT ho.w (by omega) ho.ad ho.da ho.ct ho.pa
    generalize hx : ts[k] = R at *
    repeat' (first
 | refine ar_end rfl ?_
 | refine ar_endD rfl (by kernel_rfl) ?_
 | refine ar_fin rfl ?_
 | refine ar_callV Try.call75 c_real9 rfl rfl rfl rfl rfl (by simp; done) (by rfl) (by simp; done) ?_
 | refine ar_callV Try.call66 hS rfl rfl rfl rfl rfl (by simp; done) (by rfl) (by simp; done) ?_
 | refine bq_norm ?_
 | refine lq_normN [7, 8, 9, 10] [] (by simp; exact rfl) ⟨k + 1, by omega⟩ (by dsimp only; omega) (by simp [])
 | refine ar_go3 _ rfl (by simp [trsL_len, trsL_getE, hlt, hc, hx, hw]; exact ⟨rfl, rfl, rfl⟩) rfl ?_
 | refine aw_sregK 9 [7, 8, 9, 10] ?_
 | refine aw_regK 10 [7, 8, 9, 10] ?_
 | refine aw_sregKD mixed 11 [7, 8, 9, 10] (by simp; exact rfl) ?_
 | refine aw_ifT (b := true) rfl rfl ?_
 | refine aw_ifF (b := false) rfl rfl ?_
 | refine aw_seq ?_
 | refine aw_block ?_
 | refine aw_skip ?_)
  have hc : ¬(k : Int) < (ts.length : Int) := by omega
  repeat' (first
 | exact aw_ret (ret_vals (by simp; exact rfl) (by simp [*]; fail_if_success (show _)))
 | refine ar_end rfl ?_
 | refine ar_callV_if Try.call77 hW rfl rfl rfl rfl rfl rfl (by simp; done) rfl (by rfl) (by simp; done) ?_
 | refine ar_callV_if Try.call78 hV rfl rfl rfl rfl rfl rfl (by simp; done) rfl (by rfl) (by simp; done) ?_
 | refine ar_callV_if Try.call76 hN rfl rfl rfl rfl rfl rfl (by simp; done) rfl (by rfl) (by simp; done) ?_
 | refine ar_go3 _ rfl (by simp [trsL_len, hc]; exact ⟨rfl, rfl, rfl⟩) rfl ?_
 | refine aw_sregK 9 [7, 8, 9, 10] ?_
 | refine aw_sregK 13 [7, 8, 9] ?_
 | refine aw_ifF (b := false) rfl rfl ?_
 | refine aw_seq ?_
 | refine aw_exit ?_)
end Go.Eng
