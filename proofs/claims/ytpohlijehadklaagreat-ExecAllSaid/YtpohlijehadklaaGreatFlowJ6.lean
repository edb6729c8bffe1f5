import Derived.Test.YtpohlijehadklaaGreatFlowJ1
set_option linter.unusedSimpArgs false
set_option linter.unusedVariables false
set_option linter.constructorNameAsVariable false
set_option autoImplicit false
namespace Go.Eng
open Go Go.RowKit Go.Proofs
set_option maxHeartbeats 16000000 in
theorem c_r8_bra13T {c : Code} {Q : Exit → AState → Prop} {th : List In} {locs : Int} {vals : List Int} {lucks : List Bool} {Z : Rn} (hcode : loopAt Tryz.f59 0 = some c) (hret : ∀ s, retL Tryz.prog Tryz.f59.results.toList (.agg (trL Z)) [] .ret s → Q .ret s)
    (l1 : 1 ≤ locs) (l3 : locs ≤ 3) (h8 : th.length ≤ 8) (hv : vals.length ≤ 40) (hu : lucks.length ≤ 40) (i : I69 th locs vals lucks Z) (hlt : i.1.1 < th.length) (hmx : mayI th[i.1.1] (th.length - 1 - (i.1.1 : Int)) locs = true) (hop : th[i.1.1].op = 13) (haz : i.1.2.gv th[i.1.1].a = 0) :
    AW Tryz.prog c (loopQ H69 (fun p : I69 th locs vals lucks Z => th.length - p.1.1) i Q) (H69 i) := by
  cases hcode
  obtain ⟨⟨n, R⟩, hn, hI, hsk, hmo, hq⟩ := i
  dsimp only at hn hI hsk hmo hq hlt hmx hop
  simp only [H69]
  have hle := hI.es
  have hok : R.Ok := hI.ok (by omega)
  obtain ⟨hv0, hvn⟩ := hI.nv
  obtain ⟨nl0, nln⟩ := hI.nl
  have hc : (n : Int) < (th.length : Int) := by omega
  have hw : IntKind.wrap .i64 ((n : Int) + 1) = (n : Int) + 1 := wrap64s (by omega) (by omega)
  rw [List.drop_eq_getElem_cons hlt, runL, if_pos hmo] at hq
  generalize hx : th[n] = x at *
  have hr1 : R.run1 x locs vals lucks = R.step x locs vals lucks := by unfold Rn.run1; rw [if_neg (by omega)]
  rw [hr1] at hq
  have hI2 := step_inv (lucks := lucks) (vals := vals) hI hmx (by omega)
  have hPq := c_r7PlaceR (R := R) (x := x) (locs := locs) l1 l3
  simp only [inL, hop] at hPq
  have hGb := c_r7GetR (R := R) (n := x.b)
  rw [step_is.2.2.2.2.2 (by omega)] at hq hI2
  obtain ⟨m0, m1⟩ := bra_may hmx (by unfold braF; simp [hop])
  have hGa := c_r7GetR (R := R) (n := x.a)
  have ha : R.gv x.a = 0 := haz
  obtain ⟨m, hmm⟩ : ∃ m : Nat, x.m = (m : Int) := ⟨x.m.toNat, by omega⟩
  simp only [hmm] at hPq
  have e1 : R.branch x = Rn.ctl R (bits .or .u32 R.ctrl (R.gd x.a)) m := by unfold Rn.branch Rn.ctl; simp [hop, ha, hmm]
  rw [e1] at hq
  rw [runL_skipc hmo m _ (by rw [List.length_drop]; omega), List.drop_drop] at hq
  have hsk2 : (Rn.ctl R (bits .or .u32 R.ctrl (R.gd x.a)) 0).skip = 0 := rfl
  have hmo2 : (Rn.ctl R (bits .or .u32 R.ctrl (R.gd x.a)) 0).more = 0 := hmo
  have hI2 : RnI (Rn.ctl R (bits .or .u32 R.ctrl (R.gd x.a)) 0) vals lucks (n + 1 + m) := ⟨by have := hI.es; show R.es.length ≤ _; omega, hI.ad, hI.da, hI.ct, hI.pa, hI.nv, hI.nl, hI.last, by show (0 : Int) ≤ 0 ∧ (0 : Int) ≤ 1000; omega⟩
  have hw6 : IntKind.wrap .i64 ((n : Int) + 1 + (m : Int)) = (n : Int) + 1 + (m : Int) := wrap64s (by omega) (by omega)
  repeat' (first
 | refine ar_end rfl ?_
 | refine ar_fin rfl ?_
 | refine ar_callV Tryz.call84 hPq rfl rfl rfl rfl rfl (by simp; done) (by rfl) (by simp; done) ?_
 | refine ar_callV Tryz.call85 hGb rfl rfl rfl rfl rfl (by simp; done) (by rfl) (by simp; done) ?_
 | refine ar_callV Tryz.call85 hGa rfl rfl rfl rfl rfl (by simp; done) (by rfl) (by simp; done) ?_
 | refine bq_norm ?_
 | refine lq_normN [0, 1, 2, 3, 8, 9, 10, 11, 12] [.loc 8, .loc 9] (by simp; exact rfl) ⟨(n + 1 + m, Rn.ctl R (bits .or .u32 R.ctrl (R.gd x.a)) 0), by dsimp only; omega, hI2, hsk2, hmo2, hq⟩ (by dsimp only; omega) (by simp [H69, Rn.ctl])
 | refine ar_go3 _ rfl (by simp [insL_len, insL_getE, inL, ints_len, ints_getE, bls_len, bls_getE, evsL_len, evsL_getE, evL, u32s_len, hc, hlt, hx, hw, hop, ha, hmm, hw6]; exact ⟨rfl, rfl, rfl⟩) rfl ?_
 | refine aw_sregK 7 [0, 1, 2, 3, 8, 9, 10, 11, 12] ?_
 | refine aw_sregK 8 [0, 1, 2, 3, 8, 9, 10, 11, 12] ?_
 | refine aw_sregK 9 [0, 1, 2, 3, 8, 9, 10, 11, 12, 13] ?_
 | refine aw_sregK 10 [0, 1, 2, 3, 8, 9, 10, 11, 12, 13] ?_
 | refine aw_sregK 11 [0, 1, 2, 3, 8, 9, 10, 11, 12, 13, 14, 15] ?_
 | refine aw_sregK 12 [0, 1, 2, 3, 8, 9, 10, 11, 12, 13, 14, 15, 16, 17] ?_
 | refine aw_sregK 13 [0, 1, 2, 3, 8, 9, 10, 11, 12, 13, 14, 15, 16, 17, 57] ?_
 | refine aw_sregK 14 [0, 1, 2, 3, 8, 9, 10, 11, 12, 13, 14, 15, 16, 17, 57] ?_
 | refine aw_sregK 15 [0, 1, 2, 3, 8, 9, 10, 11, 12, 13, 14, 15, 16, 17, 57] ?_
 | refine aw_regK 16 [0, 1, 2, 3, 8, 9, 10, 11, 12, 13, 14, 15, 16, 17, 57] ?_
 | refine aw_sregK 18 [0, 1, 2, 3, 8, 9, 10, 11, 12, 13, 14, 15, 16, 17, 57] ?_
 | refine aw_sregK 19 [0, 1, 2, 3, 8, 9, 10, 11, 12, 13, 14, 15, 16, 17, 57] ?_
 | refine aw_regK 20 [0, 1, 2, 3, 8, 9, 10, 11, 12, 13, 14, 15, 16, 17, 57] ?_
 | refine aw_sregK 30 [0, 1, 2, 3, 8, 9, 10, 11, 12, 13, 14, 15, 16, 17, 57] ?_
 | refine aw_regK 31 [0, 1, 2, 3, 8, 9, 10, 11, 12, 13, 14, 15, 16, 17, 57] ?_
 | refine aw_sregK 33 [0, 1, 2, 3, 8, 9, 10, 11, 12, 13, 14, 15, 16, 17, 57] ?_
 | refine aw_sregK 47 [0, 1, 2, 3, 8, 9, 10, 11, 12, 13, 57] ?_
 | refine aw_regK 48 [0, 1, 2, 3, 8, 9, 10, 11, 12, 13, 57] ?_
 | refine aw_sregK 50 [0, 1, 2, 3, 8, 9, 10, 11, 12, 13, 57] ?_
 | refine aw_sregK 52 [0, 1, 2, 3, 8, 9, 10, 11, 12, 13] ?_
 | refine aw_sregK 53 [0, 1, 2, 3, 8, 9, 10, 11, 12, 13, 22, 23] ?_
 | refine aw_sregK 54 [0, 1, 2, 3, 8, 9, 10, 11, 12, 13, 22] ?_
 | refine aw_regK 55 [0, 1, 2, 3, 8, 9, 10, 11, 12, 13] ?_
 | refine aw_ifT (b := true) rfl rfl ?_
 | refine aw_ifF (b := false) rfl rfl ?_
 | refine aw_seq ?_
 | refine aw_block ?_
 | refine aw_skip ?_)
set_option maxHeartbeats 16000000 in
theorem c_r8_bra13F {c : Code} {Q : Exit → AState → Prop} {th : List In} {locs : Int} {vals : List Int} {lucks : List Bool} {Z : Rn} (hcode : loopAt Tryz.f59 0 = some c) (hret : ∀ s, retL Tryz.prog Tryz.f59.results.toList (.agg (trL Z)) [] .ret s → Q .ret s)
    (l1 : 1 ≤ locs) (l3 : locs ≤ 3) (h8 : th.length ≤ 8) (hv : vals.length ≤ 40) (hu : lucks.length ≤ 40) (i : I69 th locs vals lucks Z) (hlt : i.1.1 < th.length) (hmx : mayI th[i.1.1] (th.length - 1 - (i.1.1 : Int)) locs = true) (hop : th[i.1.1].op = 13) (haz : ¬i.1.2.gv th[i.1.1].a = 0) :
    AW Tryz.prog c (loopQ H69 (fun p : I69 th locs vals lucks Z => th.length - p.1.1) i Q) (H69 i) := by
  cases hcode
  obtain ⟨⟨n, R⟩, hn, hI, hsk, hmo, hq⟩ := i
  dsimp only at hn hI hsk hmo hq hlt hmx hop
  simp only [H69]
  have hle := hI.es
  have hok : R.Ok := hI.ok (by omega)
  obtain ⟨hv0, hvn⟩ := hI.nv
  obtain ⟨nl0, nln⟩ := hI.nl
  have hc : (n : Int) < (th.length : Int) := by omega
  have hw : IntKind.wrap .i64 ((n : Int) + 1) = (n : Int) + 1 := wrap64s (by omega) (by omega)
  rw [List.drop_eq_getElem_cons hlt, runL, if_pos hmo] at hq
  generalize hx : th[n] = x at *
  have hr1 : R.run1 x locs vals lucks = R.step x locs vals lucks := by unfold Rn.run1; rw [if_neg (by omega)]
  rw [hr1] at hq
  have hI2 := step_inv (lucks := lucks) (vals := vals) hI hmx (by omega)
  have hPq := c_r7PlaceR (R := R) (x := x) (locs := locs) l1 l3
  simp only [inL, hop] at hPq
  have hGb := c_r7GetR (R := R) (n := x.b)
  rw [step_is.2.2.2.2.2 (by omega)] at hq hI2
  obtain ⟨m0, m1⟩ := bra_may hmx (by unfold braF; simp [hop])
  have hGa := c_r7GetR (R := R) (n := x.a)
  have ha : ¬R.gv x.a = 0 := haz
  have e1 : R.branch x = Rn.ctl R (bits .or .u32 R.ctrl (R.gd x.a)) R.skip := by unfold Rn.branch Rn.ctl; simp [hop, ha]
  rw [e1] at hq hI2
  have hsk2 : (Rn.ctl R (bits .or .u32 R.ctrl (R.gd x.a)) R.skip).skip = 0 := hsk
  have hmo2 : (Rn.ctl R (bits .or .u32 R.ctrl (R.gd x.a)) R.skip).more = 0 := hmo
  repeat' (first
 | refine ar_end rfl ?_
 | refine ar_callV Tryz.call84 hPq rfl rfl rfl rfl rfl (by simp; done) (by rfl) (by simp; done) ?_
 | refine ar_callV Tryz.call85 hGb rfl rfl rfl rfl rfl (by simp; done) (by rfl) (by simp; done) ?_
 | refine ar_callV Tryz.call85 hGa rfl rfl rfl rfl rfl (by simp; done) (by rfl) (by simp; done) ?_
 | refine bq_norm ?_
 | refine lq_normN [0, 1, 2, 3, 8, 9, 10, 11, 12] [.loc 8, .loc 9] (by simp; exact rfl) ⟨(n + 1, Rn.ctl R (bits .or .u32 R.ctrl (R.gd x.a)) R.skip), by dsimp only; omega, hI2, hsk2, hmo2, hq⟩ (by dsimp only; omega) (by simp [H69, Rn.ctl])
 | refine ar_go3 _ rfl (by simp [insL_len, insL_getE, inL, ints_len, ints_getE, bls_len, bls_getE, evsL_len, evsL_getE, evL, u32s_len, hc, hlt, hx, hw, hop, ha]; exact ⟨rfl, rfl, rfl⟩) rfl ?_
 | refine aw_sregK 7 [0, 1, 2, 3, 8, 9, 10, 11, 12] ?_
 | refine aw_sregK 8 [0, 1, 2, 3, 8, 9, 10, 11, 12] ?_
 | refine aw_sregK 9 [0, 1, 2, 3, 8, 9, 10, 11, 12, 13] ?_
 | refine aw_sregK 10 [0, 1, 2, 3, 8, 9, 10, 11, 12, 13] ?_
 | refine aw_sregK 11 [0, 1, 2, 3, 8, 9, 10, 11, 12, 13, 14, 15] ?_
 | refine aw_sregK 12 [0, 1, 2, 3, 8, 9, 10, 11, 12, 13, 14, 15, 16, 17] ?_
 | refine aw_sregK 13 [0, 1, 2, 3, 8, 9, 10, 11, 12, 13, 14, 15, 16, 17, 57] ?_
 | refine aw_sregK 14 [0, 1, 2, 3, 8, 9, 10, 11, 12, 13, 14, 15, 16, 17, 57] ?_
 | refine aw_sregK 15 [0, 1, 2, 3, 8, 9, 10, 11, 12, 13, 14, 15, 16, 17, 57] ?_
 | refine aw_regK 16 [0, 1, 2, 3, 8, 9, 10, 11, 12, 13, 14, 15, 16, 17, 57] ?_
 | refine aw_sregK 18 [0, 1, 2, 3, 8, 9, 10, 11, 12, 13, 14, 15, 16, 17, 57] ?_
 | refine aw_sregK 19 [0, 1, 2, 3, 8, 9, 10, 11, 12, 13, 14, 15, 16, 17, 57] ?_
 | refine aw_regK 20 [0, 1, 2, 3, 8, 9, 10, 11, 12, 13, 14, 15, 16, 17, 57] ?_
 | refine aw_sregK 30 [0, 1, 2, 3, 8, 9, 10, 11, 12, 13, 14, 15, 16, 17, 57] ?_
 | refine aw_regK 31 [0, 1, 2, 3, 8, 9, 10, 11, 12, 13, 14, 15, 16, 17, 57] ?_
 | refine aw_sregK 33 [0, 1, 2, 3, 8, 9, 10, 11, 12, 13, 14, 15, 16, 17, 57] ?_
 | refine aw_sregK 47 [0, 1, 2, 3, 8, 9, 10, 11, 12, 13, 57] ?_
 | refine aw_regK 48 [0, 1, 2, 3, 8, 9, 10, 11, 12, 13, 57] ?_
 | refine aw_sregK 50 [0, 1, 2, 3, 8, 9, 10, 11, 12, 13, 57] ?_
 | refine aw_sregK 52 [0, 1, 2, 3, 8, 9, 10, 11, 12, 13] ?_
 | refine aw_sregK 53 [0, 1, 2, 3, 8, 9, 10, 11, 12, 13, 22, 23] ?_
 | refine aw_sregK 54 [0, 1, 2, 3, 8, 9, 10, 11, 12, 13, 22] ?_
 | refine aw_ifT (b := true) rfl rfl ?_
 | refine aw_ifF (b := false) rfl rfl ?_
 | refine aw_seq ?_
 | refine aw_block ?_
 | refine aw_skip ?_)
end Go.Eng
set_option linter.unusedSimpArgs false
set_option linter.unusedVariables false
set_option linter.constructorNameAsVariable false
set_option autoImplicit false
namespace Go.Eng
open Go Go.RowKit Go.Proofs
set_option maxHeartbeats 16000000 in
theorem c_r8_bra14T {c : Code} {Q : Exit → AState → Prop} {th : List In} {locs : Int} {vals : List Int} {lucks : List Bool} {Z : Rn} (hcode : loopAt Tryz.f59 0 = some c) (hret : ∀ s, retL Tryz.prog Tryz.f59.results.toList (.agg (trL Z)) [] .ret s → Q .ret s)
    (l1 : 1 ≤ locs) (l3 : locs ≤ 3) (h8 : th.length ≤ 8) (hv : vals.length ≤ 40) (hu : lucks.length ≤ 40) (i : I69 th locs vals lucks Z) (hlt : i.1.1 < th.length) (hmx : mayI th[i.1.1] (th.length - 1 - (i.1.1 : Int)) locs = true) (hop : th[i.1.1].op = 14) (haz : ¬i.1.2.gv th[i.1.1].a = 0) :
    AW Tryz.prog c (loopQ H69 (fun p : I69 th locs vals lucks Z => th.length - p.1.1) i Q) (H69 i) := by
  cases hcode
  obtain ⟨⟨n, R⟩, hn, hI, hsk, hmo, hq⟩ := i
  dsimp only at hn hI hsk hmo hq hlt hmx hop
  simp only [H69]
  have hle := hI.es
  have hok : R.Ok := hI.ok (by omega)
  obtain ⟨hv0, hvn⟩ := hI.nv
  obtain ⟨nl0, nln⟩ := hI.nl
  have hc : (n : Int) < (th.length : Int) := by omega
  have hw : IntKind.wrap .i64 ((n : Int) + 1) = (n : Int) + 1 := wrap64s (by omega) (by omega)
  rw [List.drop_eq_getElem_cons hlt, runL, if_pos hmo] at hq
  generalize hx : th[n] = x at *
  have hr1 : R.run1 x locs vals lucks = R.step x locs vals lucks := by unfold Rn.run1; rw [if_neg (by omega)]
  rw [hr1] at hq
  have hI2 := step_inv (lucks := lucks) (vals := vals) hI hmx (by omega)
  have hPq := c_r7PlaceR (R := R) (x := x) (locs := locs) l1 l3
  simp only [inL, hop] at hPq
  have hGb := c_r7GetR (R := R) (n := x.b)
  rw [step_is.2.2.2.2.2 (by omega)] at hq hI2
  obtain ⟨m0, m1⟩ := bra_may hmx (by unfold braF; simp [hop])
  have hGa := c_r7GetR (R := R) (n := x.a)
  have ha : ¬R.gv x.a = 0 := haz
  obtain ⟨m, hmm⟩ : ∃ m : Nat, x.m = (m : Int) := ⟨x.m.toNat, by omega⟩
  simp only [hmm] at hPq
  have e1 : R.branch x = Rn.ctl R (bits .or .u32 R.ctrl (R.gd x.a)) m := by unfold Rn.branch Rn.ctl; simp [hop, ha, hmm]
  rw [e1] at hq
  rw [runL_skipc hmo m _ (by rw [List.length_drop]; omega), List.drop_drop] at hq
  have hsk2 : (Rn.ctl R (bits .or .u32 R.ctrl (R.gd x.a)) 0).skip = 0 := rfl
  have hmo2 : (Rn.ctl R (bits .or .u32 R.ctrl (R.gd x.a)) 0).more = 0 := hmo
  have hI2 : RnI (Rn.ctl R (bits .or .u32 R.ctrl (R.gd x.a)) 0) vals lucks (n + 1 + m) := ⟨by have := hI.es; show R.es.length ≤ _; omega, hI.ad, hI.da, hI.ct, hI.pa, hI.nv, hI.nl, hI.last, by show (0 : Int) ≤ 0 ∧ (0 : Int) ≤ 1000; omega⟩
  have hw6 : IntKind.wrap .i64 ((n : Int) + 1 + (m : Int)) = (n : Int) + 1 + (m : Int) := wrap64s (by omega) (by omega)
  repeat' (first
 | refine ar_end rfl ?_
 | refine ar_fin rfl ?_
 | refine ar_callV Tryz.call84 hPq rfl rfl rfl rfl rfl (by simp; done) (by rfl) (by simp; done) ?_
 | refine ar_callV Tryz.call85 hGb rfl rfl rfl rfl rfl (by simp; done) (by rfl) (by simp; done) ?_
 | refine ar_callV Tryz.call85 hGa rfl rfl rfl rfl rfl (by simp; done) (by rfl) (by simp; done) ?_
 | refine bq_norm ?_
 | refine lq_normN [0, 1, 2, 3, 8, 9, 10, 11, 12] [.loc 8, .loc 9] (by simp; exact rfl) ⟨(n + 1 + m, Rn.ctl R (bits .or .u32 R.ctrl (R.gd x.a)) 0), by dsimp only; omega, hI2, hsk2, hmo2, hq⟩ (by dsimp only; omega) (by simp [H69, Rn.ctl])
 | refine ar_go3 _ rfl (by simp [insL_len, insL_getE, inL, ints_len, ints_getE, bls_len, bls_getE, evsL_len, evsL_getE, evL, u32s_len, hc, hlt, hx, hw, hop, ha, hmm, hw6]; exact ⟨rfl, rfl, rfl⟩) rfl ?_
 | refine aw_sregK 7 [0, 1, 2, 3, 8, 9, 10, 11, 12] ?_
 | refine aw_sregK 8 [0, 1, 2, 3, 8, 9, 10, 11, 12] ?_
 | refine aw_sregK 9 [0, 1, 2, 3, 8, 9, 10, 11, 12, 13] ?_
 | refine aw_sregK 10 [0, 1, 2, 3, 8, 9, 10, 11, 12, 13] ?_
 | refine aw_sregK 11 [0, 1, 2, 3, 8, 9, 10, 11, 12, 13, 14, 15] ?_
 | refine aw_sregK 12 [0, 1, 2, 3, 8, 9, 10, 11, 12, 13, 14, 15, 16, 17] ?_
 | refine aw_sregK 13 [0, 1, 2, 3, 8, 9, 10, 11, 12, 13, 14, 15, 16, 17, 57] ?_
 | refine aw_sregK 14 [0, 1, 2, 3, 8, 9, 10, 11, 12, 13, 14, 15, 16, 17, 57] ?_
 | refine aw_sregK 15 [0, 1, 2, 3, 8, 9, 10, 11, 12, 13, 14, 15, 16, 17, 57] ?_
 | refine aw_regK 16 [0, 1, 2, 3, 8, 9, 10, 11, 12, 13, 14, 15, 16, 17, 57] ?_
 | refine aw_sregK 18 [0, 1, 2, 3, 8, 9, 10, 11, 12, 13, 14, 15, 16, 17, 57] ?_
 | refine aw_sregK 19 [0, 1, 2, 3, 8, 9, 10, 11, 12, 13, 14, 15, 16, 17, 57] ?_
 | refine aw_regK 20 [0, 1, 2, 3, 8, 9, 10, 11, 12, 13, 14, 15, 16, 17, 57] ?_
 | refine aw_sregK 30 [0, 1, 2, 3, 8, 9, 10, 11, 12, 13, 14, 15, 16, 17, 57] ?_
 | refine aw_regK 31 [0, 1, 2, 3, 8, 9, 10, 11, 12, 13, 14, 15, 16, 17, 57] ?_
 | refine aw_sregK 33 [0, 1, 2, 3, 8, 9, 10, 11, 12, 13, 14, 15, 16, 17, 57] ?_
 | refine aw_sregK 47 [0, 1, 2, 3, 8, 9, 10, 11, 12, 13, 57] ?_
 | refine aw_regK 48 [0, 1, 2, 3, 8, 9, 10, 11, 12, 13, 57] ?_
 | refine aw_sregK 50 [0, 1, 2, 3, 8, 9, 10, 11, 12, 13, 57] ?_
 | refine aw_regK 51 [0, 1, 2, 3, 8, 9, 10, 11, 12, 13, 57] ?_
 | refine aw_sregK 52 [0, 1, 2, 3, 8, 9, 10, 11, 12, 13] ?_
 | refine aw_sregK 53 [0, 1, 2, 3, 8, 9, 10, 11, 12, 13, 22, 23] ?_
 | refine aw_sregK 54 [0, 1, 2, 3, 8, 9, 10, 11, 12, 13, 22] ?_
 | refine aw_regK 55 [0, 1, 2, 3, 8, 9, 10, 11, 12, 13] ?_
 | refine aw_ifT (b := true) rfl rfl ?_
 | refine aw_ifF (b := false) rfl rfl ?_
 | refine aw_seq ?_
 | refine aw_block ?_
 | refine aw_skip ?_)
set_option maxHeartbeats 16000000 in
theorem c_r8_bra14F {c : Code} {Q : Exit → AState → Prop} {th : List In} {locs : Int} {vals : List Int} {lucks : List Bool} {Z : Rn} (hcode : loopAt Tryz.f59 0 = some c) (hret : ∀ s, retL Tryz.prog Tryz.f59.results.toList (.agg (trL Z)) [] .ret s → Q .ret s)
    (l1 : 1 ≤ locs) (l3 : locs ≤ 3) (h8 : th.length ≤ 8) (hv : vals.length ≤ 40) (hu : lucks.length ≤ 40) (i : I69 th locs vals lucks Z) (hlt : i.1.1 < th.length) (hmx : mayI th[i.1.1] (th.length - 1 - (i.1.1 : Int)) locs = true) (hop : th[i.1.1].op = 14) (haz : i.1.2.gv th[i.1.1].a = 0) :
    AW Tryz.prog c (loopQ H69 (fun p : I69 th locs vals lucks Z => th.length - p.1.1) i Q) (H69 i) := by
  cases hcode
  obtain ⟨⟨n, R⟩, hn, hI, hsk, hmo, hq⟩ := i
  dsimp only at hn hI hsk hmo hq hlt hmx hop
  simp only [H69]
  have hle := hI.es
  have hok : R.Ok := hI.ok (by omega)
  obtain ⟨hv0, hvn⟩ := hI.nv
  obtain ⟨nl0, nln⟩ := hI.nl
  have hc : (n : Int) < (th.length : Int) := by omega
  have hw : IntKind.wrap .i64 ((n : Int) + 1) = (n : Int) + 1 := wrap64s (by omega) (by omega)
  rw [List.drop_eq_getElem_cons hlt, runL, if_pos hmo] at hq
  generalize hx : th[n] = x at *
  have hr1 : R.run1 x locs vals lucks = R.step x locs vals lucks := by unfold Rn.run1; rw [if_neg (by omega)]
  rw [hr1] at hq
  have hI2 := step_inv (lucks := lucks) (vals := vals) hI hmx (by omega)
  have hPq := c_r7PlaceR (R := R) (x := x) (locs := locs) l1 l3
  simp only [inL, hop] at hPq
  have hGb := c_r7GetR (R := R) (n := x.b)
  rw [step_is.2.2.2.2.2 (by omega)] at hq hI2
  obtain ⟨m0, m1⟩ := bra_may hmx (by unfold braF; simp [hop])
  have hGa := c_r7GetR (R := R) (n := x.a)
  have ha : R.gv x.a = 0 := haz
  have e1 : R.branch x = Rn.ctl R (bits .or .u32 R.ctrl (R.gd x.a)) R.skip := by unfold Rn.branch Rn.ctl; simp [hop, ha]
  rw [e1] at hq hI2
  have hsk2 : (Rn.ctl R (bits .or .u32 R.ctrl (R.gd x.a)) R.skip).skip = 0 := hsk
  have hmo2 : (Rn.ctl R (bits .or .u32 R.ctrl (R.gd x.a)) R.skip).more = 0 := hmo
  repeat' (first
 | refine ar_end rfl ?_
 | refine ar_callV Tryz.call84 hPq rfl rfl rfl rfl rfl (by simp; done) (by rfl) (by simp; done) ?_
 | refine ar_callV Tryz.call85 hGb rfl rfl rfl rfl rfl (by simp; done) (by rfl) (by simp; done) ?_
 | refine ar_callV Tryz.call85 hGa rfl rfl rfl rfl rfl (by simp; done) (by rfl) (by simp; done) ?_
 | refine bq_norm ?_
 | refine lq_normN [0, 1, 2, 3, 8, 9, 10, 11, 12] [.loc 8, .loc 9] (by simp; exact rfl) ⟨(n + 1, Rn.ctl R (bits .or .u32 R.ctrl (R.gd x.a)) R.skip), by dsimp only; omega, hI2, hsk2, hmo2, hq⟩ (by dsimp only; omega) (by simp [H69, Rn.ctl])
 | refine ar_go3 _ rfl (by simp [insL_len, insL_getE, inL, ints_len, ints_getE, bls_len, bls_getE, evsL_len, evsL_getE, evL, u32s_len, hc, hlt, hx, hw, hop, ha]; exact ⟨rfl, rfl, rfl⟩) rfl ?_
 | refine aw_sregK 7 [0, 1, 2, 3, 8, 9, 10, 11, 12] ?_
 | refine aw_sregK 8 [0, 1, 2, 3, 8, 9, 10, 11, 12] ?_
 | refine aw_sregK 9 [0, 1, 2, 3, 8, 9, 10, 11, 12, 13] ?_
 | refine aw_sregK 10 [0, 1, 2, 3, 8, 9, 10, 11, 12, 13] ?_
 | refine aw_sregK 11 [0, 1, 2, 3, 8, 9, 10, 11, 12, 13, 14, 15] ?_
 | refine aw_sregK 12 [0, 1, 2, 3, 8, 9, 10, 11, 12, 13, 14, 15, 16, 17] ?_
 | refine aw_sregK 13 [0, 1, 2, 3, 8, 9, 10, 11, 12, 13, 14, 15, 16, 17, 57] ?_
 | refine aw_sregK 14 [0, 1, 2, 3, 8, 9, 10, 11, 12, 13, 14, 15, 16, 17, 57] ?_
 | refine aw_sregK 15 [0, 1, 2, 3, 8, 9, 10, 11, 12, 13, 14, 15, 16, 17, 57] ?_
 | refine aw_regK 16 [0, 1, 2, 3, 8, 9, 10, 11, 12, 13, 14, 15, 16, 17, 57] ?_
 | refine aw_sregK 18 [0, 1, 2, 3, 8, 9, 10, 11, 12, 13, 14, 15, 16, 17, 57] ?_
 | refine aw_sregK 19 [0, 1, 2, 3, 8, 9, 10, 11, 12, 13, 14, 15, 16, 17, 57] ?_
 | refine aw_regK 20 [0, 1, 2, 3, 8, 9, 10, 11, 12, 13, 14, 15, 16, 17, 57] ?_
 | refine aw_sregK 30 [0, 1, 2, 3, 8, 9, 10, 11, 12, 13, 14, 15, 16, 17, 57] ?_
 | refine aw_regK 31 [0, 1, 2, 3, 8, 9, 10, 11, 12, 13, 14, 15, 16, 17, 57] ?_
 | refine aw_sregK 33 [0, 1, 2, 3, 8, 9, 10, 11, 12, 13, 14, 15, 16, 17, 57] ?_
 | refine aw_sregK 47 [0, 1, 2, 3, 8, 9, 10, 11, 12, 13, 57] ?_
 | refine aw_regK 48 [0, 1, 2, 3, 8, 9, 10, 11, 12, 13, 57] ?_
 | refine aw_sregK 50 [0, 1, 2, 3, 8, 9, 10, 11, 12, 13, 57] ?_
 | refine aw_regK 51 [0, 1, 2, 3, 8, 9, 10, 11, 12, 13, 57] ?_
 | refine aw_sregK 52 [0, 1, 2, 3, 8, 9, 10, 11, 12, 13] ?_
 | refine aw_sregK 53 [0, 1, 2, 3, 8, 9, 10, 11, 12, 13, 22, 23] ?_
 | refine aw_sregK 54 [0, 1, 2, 3, 8, 9, 10, 11, 12, 13, 22] ?_
 | refine aw_ifT (b := true) rfl rfl ?_
 | refine aw_ifF (b := false) rfl rfl ?_
 | refine aw_seq ?_
 | refine aw_block ?_
 | refine aw_skip ?_)
end Go.Eng
