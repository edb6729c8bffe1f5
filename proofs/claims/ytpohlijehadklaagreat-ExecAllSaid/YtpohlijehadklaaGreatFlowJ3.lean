import Derived.Test.YtpohlijehadklaaGreatFlowJ1
set_option linter.unusedSimpArgs false
set_option linter.unusedVariables false
set_option linter.constructorNameAsVariable false
set_option autoImplicit false
namespace Go.Eng
open Go Go.RowKit Go.Proofs
set_option maxHeartbeats 16000000 in
theorem c_r8_load9 {c : Code} {Q : Exit → AState → Prop} {th : List In} {locs : Int} {vals : List Int} {lucks : List Bool} {Z : Rn} (hcode : loopAt Tryz.f59 0 = some c) (hret : ∀ s, retL Tryz.prog Tryz.f59.results.toList (.agg (trL Z)) [] .ret s → Q .ret s)
    (l1 : 1 ≤ locs) (l3 : locs ≤ 3) (h8 : th.length ≤ 8) (hv : vals.length ≤ 40) (hu : lucks.length ≤ 40) (i : I69 th locs vals lucks Z) (hlt : i.1.1 < th.length) (hmx : mayI th[i.1.1] (th.length - 1 - (i.1.1 : Int)) locs = true) (hop : th[i.1.1].op = 9) (hvl : i.1.2.nv.toNat < vals.length) :
    AW Tryz.prog c (loopQ H69 (fun p : I69 th locs vals lucks Z => th.length - p.1.1) i Q) (H69 i) := by
  cases hcode
  obtain ⟨⟨n, R⟩, hn, hI, hsk, hmo, hq⟩ := i
  dsimp only at hn hI hsk hmo hq hlt hmx hop
  simp only [H69]
  have hle := hI.es
  have hok : R.Ok := hI.ok (by omega)
  obtain ⟨hv0, hvn⟩ := hI.nv
  obtain ⟨nl0, nln⟩ := hI.nl
  have hc : (n : Int) < (th.length : Int) := by omega
  have hw : IntKind.wrap .i64 ((n : Int) + 1) = (n : Int) + 1 := wrap64s (by omega) (by omega)
  rw [List.drop_eq_getElem_cons hlt, runL, if_pos hmo] at hq
  generalize hx : th[n] = x at *
  have hr1 : R.run1 x locs vals lucks = R.step x locs vals lucks := by unfold Rn.run1; rw [if_neg (by omega)]
  rw [hr1] at hq
  have hI2 := step_inv (lucks := lucks) (vals := vals) hI hmx (by omega)
  have hPq := c_r7PlaceR (R := R) (x := x) (locs := locs) l1 l3
  simp only [inL, hop] at hPq
  have hGb := c_r7GetR (R := R) (n := x.b)
  rw [step_is.2.1 (by omega)] at hq hI2
  have hv1 : R.nv.toNat < vals.length := hvl
  rw [dif_pos hv1] at hq hI2
  have hnge : ¬(vals.length : Int) ≤ R.nv := by omega
  generalize hvv : vals[R.nv.toNat] = v at hq hI2
  have hW : SC Tryz.prog 87 [.agg (trL R), .agg (evL ⟨0, 1, R.loc x locs, v, false, false, true⟩), I .u32 (R.adr x locs), I .u32 0, I .u32 R.ctrl, I .i64 (-1)] (.agg (trL (Rn.event R ⟨0, 1, R.loc x locs, v, false, false, true⟩ (R.adr x locs) 0 (-1)))) := c_with hok
  have hS := @c_r7SetR R x.d v (bitAt R.es.length)
  have hPw := c_power (k := R.es.length) (by omega)
  have hw3 : IntKind.wrap .i64 (R.nv + 1) = R.nv + 1 := wrap64s (by omega) (by omega)
  have hw4 : IntKind.wrap .i64 (R.es.length : Int) = (R.es.length : Int) := wrap64s (by omega) (by omega)
  have hsk2 : (R.load x locs v).skip = 0 := by unfold Rn.load; rw [if_pos hop]; exact hsk
  have hmo2 : (R.load x locs v).more = 0 := by unfold Rn.load; rw [if_pos hop]; exact hmo
  repeat' (first
 | refine ar_end rfl ?_
 | refine ar_endD rfl (by kernel_rfl) ?_
 | refine ar_fin rfl ?_
 | refine ar_callV Tryz.call84 hPq rfl rfl rfl rfl rfl (by simp; done) (by rfl) (by simp; done) ?_
 | refine ar_callV Tryz.call85 hGb rfl rfl rfl rfl rfl (by simp; done) (by rfl) (by simp; done) ?_
 | refine ar_callV Tryz.call87 hW rfl rfl rfl rfl rfl (by simp; done) (by rfl) (by simp; done) ?_
 | refine ar_callV Tryz.call89 hPw rfl rfl rfl rfl rfl (by simp; done) (by rfl) (by simp; done) ?_
 | refine ar_callV Tryz.call88 hS rfl rfl rfl rfl rfl (by simp; done) (by rfl) (by simp; done) ?_
 | refine bq_norm ?_
 | refine lq_normN [0, 1, 2, 3, 8, 9, 10, 11, 12] [.loc 8, .loc 9] (by simp; exact rfl) ⟨(n + 1, R.load x locs v), by dsimp only; omega, hI2, hsk2, hmo2, hq⟩ (by dsimp only; omega) (by simp [H69, Rn.load, Rn.load1, Rn.event, Rn.reg, hop])
 | refine ar_go3 _ rfl (by simp [insL_len, insL_getE, inL, ints_len, ints_getE, bls_len, bls_getE, evsL_len, evsL_getE, evL, u32s_len, hc, hlt, hx, hw, hop, hnge, hv1, hv0, hvv, hw3, hw4, Rn.event]; exact ⟨rfl, rfl, rfl⟩) rfl ?_
 | refine aw_sregK 7 [0, 1, 2, 3, 8, 9, 10, 11, 12] ?_
 | refine aw_sregK 8 [0, 1, 2, 3, 8, 9, 10, 11, 12] ?_
 | refine aw_sregK 9 [0, 1, 2, 3, 8, 9, 10, 11, 12, 13] ?_
 | refine aw_sregK 10 [0, 1, 2, 3, 8, 9, 10, 11, 12, 13] ?_
 | refine aw_sregK 11 [0, 1, 2, 3, 8, 9, 10, 11, 12, 13, 14, 15] ?_
 | refine aw_sregK 12 [0, 1, 2, 3, 8, 9, 10, 11, 12, 13, 14, 15, 16, 17] ?_
 | refine aw_sregK 13 [0, 1, 2, 3, 8, 9, 10, 11, 12, 13, 14, 15, 16, 17, 57] ?_
 | refine aw_sregK 14 [0, 1, 2, 3, 8, 9, 10, 11, 12, 13, 14, 15, 16, 17, 57] ?_
 | refine aw_sregK 15 [0, 1, 2, 3, 8, 9, 10, 11, 12, 13, 14, 15, 16, 17, 57] ?_
 | refine aw_regK 16 [0, 1, 2, 3, 8, 9, 10, 11, 12, 13, 14, 15, 16, 17, 57] ?_
 | refine aw_sregK 18 [0, 1, 2, 3, 8, 9, 10, 11, 12, 13, 14, 15, 16, 17, 57] ?_
 | refine aw_sregK 19 [0, 1, 2, 3, 8, 9, 10, 11, 12, 13, 14, 15, 16, 17, 57] ?_
 | refine aw_regK 20 [0, 1, 2, 3, 8, 9, 10, 11, 12, 13, 14, 15, 16, 17, 57] ?_
 | refine aw_sregK 21 [0, 1, 2, 3, 8, 9, 10, 11, 12, 13, 14, 15] ?_
 | refine aw_sregKD mixed 24 [0, 1, 2, 3, 8, 9, 10, 11, 12, 13, 14, 15] (by simp; exact rfl) ?_
 | refine aw_sregK 25 [0, 1, 2, 3, 8, 9, 10, 11, 12, 13, 15, 18] ?_
 | refine aw_sregK 26 [0, 1, 2, 3, 8, 9, 10, 11, 12, 13, 18] ?_
 | refine aw_sregKD mixed 27 [0, 1, 2, 3, 8, 9, 10, 11, 12, 13, 18] (by simp; exact rfl) ?_
 | refine aw_sregK 28 [0, 1, 2, 3, 8, 9, 10, 11, 12, 13] ?_
 | refine aw_regK 29 [0, 1, 2, 3, 8, 9, 10, 12] ?_
 | refine aw_ifT (b := true) rfl rfl ?_
 | refine aw_ifF (b := false) rfl rfl ?_
 | refine aw_seq ?_
 | refine aw_block ?_
 | refine aw_skip ?_)
set_option maxHeartbeats 16000000 in
theorem c_r8_none9 {c : Code} {Q : Exit → AState → Prop} {th : List In} {locs : Int} {vals : List Int} {lucks : List Bool} {Z : Rn} (hcode : loopAt Tryz.f59 0 = some c) (hret : ∀ s, retL Tryz.prog Tryz.f59.results.toList (.agg (trL Z)) [] .ret s → Q .ret s)
    (l1 : 1 ≤ locs) (l3 : locs ≤ 3) (h8 : th.length ≤ 8) (hv : vals.length ≤ 40) (hu : lucks.length ≤ 40) (i : I69 th locs vals lucks Z) (hlt : i.1.1 < th.length) (hmx : mayI th[i.1.1] (th.length - 1 - (i.1.1 : Int)) locs = true) (hop : th[i.1.1].op = 9) (hvl : ¬i.1.2.nv.toNat < vals.length) :
    AW Tryz.prog c (loopQ H69 (fun p : I69 th locs vals lucks Z => th.length - p.1.1) i Q) (H69 i) := by
  cases hcode
  obtain ⟨⟨n, R⟩, hn, hI, hsk, hmo, hq⟩ := i
  dsimp only at hn hI hsk hmo hq hlt hmx hop
  simp only [H69]
  have hle := hI.es
  have hok : R.Ok := hI.ok (by omega)
  obtain ⟨hv0, hvn⟩ := hI.nv
  obtain ⟨nl0, nln⟩ := hI.nl
  have hc : (n : Int) < (th.length : Int) := by omega
  have hw : IntKind.wrap .i64 ((n : Int) + 1) = (n : Int) + 1 := wrap64s (by omega) (by omega)
  rw [List.drop_eq_getElem_cons hlt, runL, if_pos hmo] at hq
  generalize hx : th[n] = x at *
  have hr1 : R.run1 x locs vals lucks = R.step x locs vals lucks := by unfold Rn.run1; rw [if_neg (by omega)]
  rw [hr1] at hq
  have hI2 := step_inv (lucks := lucks) (vals := vals) hI hmx (by omega)
  have hPq := c_r7PlaceR (R := R) (x := x) (locs := locs) l1 l3
  simp only [inL, hop] at hPq
  have hGb := c_r7GetR (R := R) (n := x.b)
  rw [step_is.2.1 (by omega)] at hq hI2
  have hv1 : ¬R.nv.toNat < vals.length := hvl
  rw [dif_neg hv1] at hq hI2
  have hnge : (vals.length : Int) ≤ R.nv := by omega
  rw [runL_stop (by show ¬(1 : Int) = 0; omega)] at hq
  subst hq
  repeat' (first
 | refine ar_end rfl ?_
 | refine ar_callV Tryz.call84 hPq rfl rfl rfl rfl rfl (by simp; done) (by rfl) (by simp; done) ?_
 | refine ar_callV Tryz.call85 hGb rfl rfl rfl rfl rfl (by simp; done) (by rfl) (by simp; done) ?_
 | exact aw_ret (hret _ (ret_vals (by simp; exact rfl) (by simp; fail_if_success (show _))))
 | refine ar_go3 _ rfl (by simp [insL_len, insL_getE, inL, ints_len, ints_getE, bls_len, bls_getE, evsL_len, evsL_getE, evL, u32s_len, hc, hlt, hx, hw, hop, hnge]; exact ⟨rfl, rfl, rfl⟩) rfl ?_
 | refine aw_sregK 7 [0, 1, 2, 3, 8, 9, 10, 11, 12] ?_
 | refine aw_sregK 8 [0, 1, 2, 3, 8, 9, 10, 11, 12] ?_
 | refine aw_sregK 9 [0, 1, 2, 3, 8, 9, 10, 11, 12, 13] ?_
 | refine aw_sregK 10 [0, 1, 2, 3, 8, 9, 10, 11, 12, 13] ?_
 | refine aw_sregK 11 [0, 1, 2, 3, 8, 9, 10, 11, 12, 13, 14, 15] ?_
 | refine aw_sregK 12 [0, 1, 2, 3, 8, 9, 10, 11, 12, 13, 14, 15, 16, 17] ?_
 | refine aw_sregK 13 [0, 1, 2, 3, 8, 9, 10, 11, 12, 13, 14, 15, 16, 17, 57] ?_
 | refine aw_sregK 14 [0, 1, 2, 3, 8, 9, 10, 11, 12, 13, 14, 15, 16, 17, 57] ?_
 | refine aw_sregK 15 [0, 1, 2, 3, 8, 9, 10, 11, 12, 13, 14, 15, 16, 17, 57] ?_
 | refine aw_regK 16 [0, 1, 2, 3, 8, 9, 10, 11, 12, 13, 14, 15, 16, 17, 57] ?_
 | refine aw_sregK 18 [0, 1, 2, 3, 8, 9, 10, 11, 12, 13, 14, 15, 16, 17, 57] ?_
 | refine aw_sregK 19 [0, 1, 2, 3, 8, 9, 10, 11, 12, 13, 14, 15, 16, 17, 57] ?_
 | refine aw_regK 20 [0, 1, 2, 3, 8, 9, 10, 11, 12, 13, 14, 15, 16, 17, 57] ?_
 | refine aw_sregK 21 [0, 1, 2, 3, 8, 9, 10, 11, 12, 13, 14, 15] ?_
 | refine aw_sregK 22 [8, 9] ?_
 | refine aw_sregK 23 [8, 9] ?_
 | refine aw_ifT (b := true) rfl rfl ?_
 | refine aw_ifF (b := false) rfl rfl ?_
 | refine aw_seq ?_
 | refine aw_block ?_
 | refine aw_skip ?_)
set_option maxHeartbeats 16000000 in
theorem c_r8_store6 {c : Code} {Q : Exit → AState → Prop} {th : List In} {locs : Int} {vals : List Int} {lucks : List Bool} {Z : Rn} (hcode : loopAt Tryz.f59 0 = some c) (hret : ∀ s, retL Tryz.prog Tryz.f59.results.toList (.agg (trL Z)) [] .ret s → Q .ret s)
    (l1 : 1 ≤ locs) (l3 : locs ≤ 3) (h8 : th.length ≤ 8) (hv : vals.length ≤ 40) (hu : lucks.length ≤ 40) (i : I69 th locs vals lucks Z) (hlt : i.1.1 < th.length) (hmx : mayI th[i.1.1] (th.length - 1 - (i.1.1 : Int)) locs = true) (hop : th[i.1.1].op = 6) :
    AW Tryz.prog c (loopQ H69 (fun p : I69 th locs vals lucks Z => th.length - p.1.1) i Q) (H69 i) := by
  cases hcode
  obtain ⟨⟨n, R⟩, hn, hI, hsk, hmo, hq⟩ := i
  dsimp only at hn hI hsk hmo hq hlt hmx hop
  simp only [H69]
  have hle := hI.es
  have hok : R.Ok := hI.ok (by omega)
  obtain ⟨hv0, hvn⟩ := hI.nv
  obtain ⟨nl0, nln⟩ := hI.nl
  have hc : (n : Int) < (th.length : Int) := by omega
  have hw : IntKind.wrap .i64 ((n : Int) + 1) = (n : Int) + 1 := wrap64s (by omega) (by omega)
  rw [List.drop_eq_getElem_cons hlt, runL, if_pos hmo] at hq
  generalize hx : th[n] = x at *
  have hr1 : R.run1 x locs vals lucks = R.step x locs vals lucks := by unfold Rn.run1; rw [if_neg (by omega)]
  rw [hr1] at hq
  have hI2 := step_inv (lucks := lucks) (vals := vals) hI hmx (by omega)
  have hPq := c_r7PlaceR (R := R) (x := x) (locs := locs) l1 l3
  simp only [inL, hop] at hPq
  have hGb := c_r7GetR (R := R) (n := x.b)
  rw [step_is.2.2.1 (by omega)] at hq hI2
  have est : R.store x locs (-1) = R.event ⟨0, 2, R.loc x locs, R.gv x.b, false, false, false⟩ (R.adr x locs) (R.gd x.b) (-1) := by unfold Rn.store; simp [hop]
  rw [est] at hq hI2
  have hW : SC Tryz.prog 87 [.agg (trL R), .agg (evL ⟨0, 2, R.loc x locs, R.gv x.b, false, false, false⟩), I .u32 (R.adr x locs), I .u32 (R.gd x.b), I .u32 R.ctrl, I .i64 (-1)] (.agg (trL (Rn.event R ⟨0, 2, R.loc x locs, R.gv x.b, false, false, false⟩ (R.adr x locs) (R.gd x.b) (-1)))) := c_with hok
  have hsk2 : (Rn.event R ⟨0, 2, R.loc x locs, R.gv x.b, false, false, false⟩ (R.adr x locs) (R.gd x.b) (-1)).skip = 0 := hsk
  have hmo2 : (Rn.event R ⟨0, 2, R.loc x locs, R.gv x.b, false, false, false⟩ (R.adr x locs) (R.gd x.b) (-1)).more = 0 := hmo
  repeat' (first
 | refine ar_end rfl ?_
 | refine ar_fin rfl ?_
 | refine ar_callV Tryz.call84 hPq rfl rfl rfl rfl rfl (by simp; done) (by rfl) (by simp; done) ?_
 | refine ar_callV Tryz.call85 hGb rfl rfl rfl rfl rfl (by simp; done) (by rfl) (by simp; done) ?_
 | refine ar_callV Tryz.call87 hW rfl rfl rfl rfl rfl (by simp; done) (by rfl) (by simp; done) ?_
 | refine bq_norm ?_
 | refine lq_normN [0, 1, 2, 3, 8, 9, 10, 11, 12] [.loc 8, .loc 9] (by simp; exact rfl) ⟨(n + 1, Rn.event R ⟨0, 2, R.loc x locs, R.gv x.b, false, false, false⟩ (R.adr x locs) (R.gd x.b) (-1)), by dsimp only; omega, hI2, hsk2, hmo2, hq⟩ (by dsimp only; omega) (by simp [H69, Rn.event])
 | refine ar_go3 _ rfl (by simp [insL_len, insL_getE, inL, ints_len, ints_getE, bls_len, bls_getE, evsL_len, evsL_getE, evL, u32s_len, hc, hlt, hx, hw, hop]; exact ⟨rfl, rfl, rfl⟩) rfl ?_
 | refine aw_sregK 7 [0, 1, 2, 3, 8, 9, 10, 11, 12] ?_
 | refine aw_sregK 8 [0, 1, 2, 3, 8, 9, 10, 11, 12] ?_
 | refine aw_sregK 9 [0, 1, 2, 3, 8, 9, 10, 11, 12, 13] ?_
 | refine aw_sregK 10 [0, 1, 2, 3, 8, 9, 10, 11, 12, 13] ?_
 | refine aw_sregK 11 [0, 1, 2, 3, 8, 9, 10, 11, 12, 13, 14, 15] ?_
 | refine aw_sregK 12 [0, 1, 2, 3, 8, 9, 10, 11, 12, 13, 14, 15, 16, 17] ?_
 | refine aw_sregK 13 [0, 1, 2, 3, 8, 9, 10, 11, 12, 13, 14, 15, 16, 17, 57] ?_
 | refine aw_sregK 14 [0, 1, 2, 3, 8, 9, 10, 11, 12, 13, 14, 15, 16, 17, 57] ?_
 | refine aw_sregK 15 [0, 1, 2, 3, 8, 9, 10, 11, 12, 13, 14, 15, 16, 17, 57] ?_
 | refine aw_regK 16 [0, 1, 2, 3, 8, 9, 10, 11, 12, 13, 14, 15, 16, 17, 57] ?_
 | refine aw_sregK 18 [0, 1, 2, 3, 8, 9, 10, 11, 12, 13, 14, 15, 16, 17, 57] ?_
 | refine aw_sregK 19 [0, 1, 2, 3, 8, 9, 10, 11, 12, 13, 14, 15, 16, 17, 57] ?_
 | refine aw_regK 20 [0, 1, 2, 3, 8, 9, 10, 11, 12, 13, 14, 15, 16, 17, 57] ?_
 | refine aw_sregK 30 [0, 1, 2, 3, 8, 9, 10, 11, 12, 13, 14, 15, 16, 17, 57] ?_
 | refine aw_regK 32 [0, 1, 2, 3, 8, 9, 10, 11, 12, 13, 14, 15, 16, 17] ?_
 | refine aw_ifT (b := true) rfl rfl ?_
 | refine aw_ifF (b := false) rfl rfl ?_
 | refine aw_seq ?_
 | refine aw_block ?_
 | refine aw_skip ?_)
set_option maxHeartbeats 16000000 in
theorem c_r8_store8 {c : Code} {Q : Exit → AState → Prop} {th : List In} {locs : Int} {vals : List Int} {lucks : List Bool} {Z : Rn} (hcode : loopAt Tryz.f59 0 = some c) (hret : ∀ s, retL Tryz.prog Tryz.f59.results.toList (.agg (trL Z)) [] .ret s → Q .ret s)
    (l1 : 1 ≤ locs) (l3 : locs ≤ 3) (h8 : th.length ≤ 8) (hv : vals.length ≤ 40) (hu : lucks.length ≤ 40) (i : I69 th locs vals lucks Z) (hlt : i.1.1 < th.length) (hmx : mayI th[i.1.1] (th.length - 1 - (i.1.1 : Int)) locs = true) (hop : th[i.1.1].op = 8) :
    AW Tryz.prog c (loopQ H69 (fun p : I69 th locs vals lucks Z => th.length - p.1.1) i Q) (H69 i) := by
  cases hcode
  obtain ⟨⟨n, R⟩, hn, hI, hsk, hmo, hq⟩ := i
  dsimp only at hn hI hsk hmo hq hlt hmx hop
  simp only [H69]
  have hle := hI.es
  have hok : R.Ok := hI.ok (by omega)
  obtain ⟨hv0, hvn⟩ := hI.nv
  obtain ⟨nl0, nln⟩ := hI.nl
  have hc : (n : Int) < (th.length : Int) := by omega
  have hw : IntKind.wrap .i64 ((n : Int) + 1) = (n : Int) + 1 := wrap64s (by omega) (by omega)
  rw [List.drop_eq_getElem_cons hlt, runL, if_pos hmo] at hq
  generalize hx : th[n] = x at *
  have hr1 : R.run1 x locs vals lucks = R.step x locs vals lucks := by unfold Rn.run1; rw [if_neg (by omega)]
  rw [hr1] at hq
  have hI2 := step_inv (lucks := lucks) (vals := vals) hI hmx (by omega)
  have hPq := c_r7PlaceR (R := R) (x := x) (locs := locs) l1 l3
  simp only [inL, hop] at hPq
  have hGb := c_r7GetR (R := R) (n := x.b)
  rw [step_is.2.2.1 (by omega)] at hq hI2
  have est : R.store x locs (-1) = R.event ⟨0, 2, R.loc x locs, R.gv x.b, false, true, false⟩ (R.adr x locs) (R.gd x.b) (-1) := by unfold Rn.store; simp [hop]
  rw [est] at hq hI2
  have hW : SC Tryz.prog 87 [.agg (trL R), .agg (evL ⟨0, 2, R.loc x locs, R.gv x.b, false, true, false⟩), I .u32 (R.adr x locs), I .u32 (R.gd x.b), I .u32 R.ctrl, I .i64 (-1)] (.agg (trL (Rn.event R ⟨0, 2, R.loc x locs, R.gv x.b, false, true, false⟩ (R.adr x locs) (R.gd x.b) (-1)))) := c_with hok
  have hsk2 : (Rn.event R ⟨0, 2, R.loc x locs, R.gv x.b, false, true, false⟩ (R.adr x locs) (R.gd x.b) (-1)).skip = 0 := hsk
  have hmo2 : (Rn.event R ⟨0, 2, R.loc x locs, R.gv x.b, false, true, false⟩ (R.adr x locs) (R.gd x.b) (-1)).more = 0 := hmo
  repeat' (first
 | refine ar_end rfl ?_
 | refine ar_fin rfl ?_
 | refine ar_callV Tryz.call84 hPq rfl rfl rfl rfl rfl (by simp; done) (by rfl) (by simp; done) ?_
 | refine ar_callV Tryz.call85 hGb rfl rfl rfl rfl rfl (by simp; done) (by rfl) (by simp; done) ?_
 | refine ar_callV Tryz.call87 hW rfl rfl rfl rfl rfl (by simp; done) (by rfl) (by simp; done) ?_
 | refine bq_norm ?_
 | refine lq_normN [0, 1, 2, 3, 8, 9, 10, 11, 12] [.loc 8, .loc 9] (by simp; exact rfl) ⟨(n + 1, Rn.event R ⟨0, 2, R.loc x locs, R.gv x.b, false, true, false⟩ (R.adr x locs) (R.gd x.b) (-1)), by dsimp only; omega, hI2, hsk2, hmo2, hq⟩ (by dsimp only; omega) (by simp [H69, Rn.event])
 | refine ar_go3 _ rfl (by simp [insL_len, insL_getE, inL, ints_len, ints_getE, bls_len, bls_getE, evsL_len, evsL_getE, evL, u32s_len, hc, hlt, hx, hw, hop]; exact ⟨rfl, rfl, rfl⟩) rfl ?_
 | refine aw_sregK 7 [0, 1, 2, 3, 8, 9, 10, 11, 12] ?_
 | refine aw_sregK 8 [0, 1, 2, 3, 8, 9, 10, 11, 12] ?_
 | refine aw_sregK 9 [0, 1, 2, 3, 8, 9, 10, 11, 12, 13] ?_
 | refine aw_sregK 10 [0, 1, 2, 3, 8, 9, 10, 11, 12, 13] ?_
 | refine aw_sregK 11 [0, 1, 2, 3, 8, 9, 10, 11, 12, 13, 14, 15] ?_
 | refine aw_sregK 12 [0, 1, 2, 3, 8, 9, 10, 11, 12, 13, 14, 15, 16, 17] ?_
 | refine aw_sregK 13 [0, 1, 2, 3, 8, 9, 10, 11, 12, 13, 14, 15, 16, 17, 57] ?_
 | refine aw_sregK 14 [0, 1, 2, 3, 8, 9, 10, 11, 12, 13, 14, 15, 16, 17, 57] ?_
 | refine aw_sregK 15 [0, 1, 2, 3, 8, 9, 10, 11, 12, 13, 14, 15, 16, 17, 57] ?_
 | refine aw_regK 16 [0, 1, 2, 3, 8, 9, 10, 11, 12, 13, 14, 15, 16, 17, 57] ?_
 | refine aw_sregK 18 [0, 1, 2, 3, 8, 9, 10, 11, 12, 13, 14, 15, 16, 17, 57] ?_
 | refine aw_sregK 19 [0, 1, 2, 3, 8, 9, 10, 11, 12, 13, 14, 15, 16, 17, 57] ?_
 | refine aw_regK 20 [0, 1, 2, 3, 8, 9, 10, 11, 12, 13, 14, 15, 16, 17, 57] ?_
 | refine aw_sregK 30 [0, 1, 2, 3, 8, 9, 10, 11, 12, 13, 14, 15, 16, 17, 57] ?_
 | refine aw_regK 31 [0, 1, 2, 3, 8, 9, 10, 11, 12, 13, 14, 15, 16, 17, 57] ?_
 | refine aw_regK 32 [0, 1, 2, 3, 8, 9, 10, 11, 12, 13, 14, 15, 16, 17] ?_
 | refine aw_ifT (b := true) rfl rfl ?_
 | refine aw_ifF (b := false) rfl rfl ?_
 | refine aw_seq ?_
 | refine aw_block ?_
 | refine aw_skip ?_)
end Go.Eng
