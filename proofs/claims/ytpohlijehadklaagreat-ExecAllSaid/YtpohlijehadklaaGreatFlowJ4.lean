import Derived.Test.YtpohlijehadklaaGreatFlowJ1
set_option linter.unusedSimpArgs false
set_option linter.unusedVariables false
set_option linter.constructorNameAsVariable false
set_option autoImplicit false
namespace Go.Eng
open Go Go.RowKit Go.Proofs
set_option maxHeartbeats 16000000 in
theorem c_r8_exNo {c : Code} {Q : Exit → AState → Prop} {th : List In} {locs : Int} {vals : List Int} {lucks : List Bool} {Z : Rn} (hcode : loopAt Tryz.f59 0 = some c) (hret : ∀ s, retL Tryz.prog Tryz.f59.results.toList (.agg (trL Z)) [] .ret s → Q .ret s)
    (l1 : 1 ≤ locs) (l3 : locs ≤ 3) (h8 : th.length ≤ 8) (hv : vals.length ≤ 40) (hu : lucks.length ≤ 40) (i : I69 th locs vals lucks Z) (hlt : i.1.1 < th.length) (hmx : mayI th[i.1.1] (th.length - 1 - (i.1.1 : Int)) locs = true) (hop : th[i.1.1].op = 10) (hl1' : 0 ≤ i.1.2.last ∧ i.1.2.last.toNat < i.1.2.es.length) (hel : (i.1.2.es[i.1.2.last.toNat]'hl1'.2).l = i.1.2.loc th[i.1.1] locs) (hkl : i.1.2.nl.toNat < lucks.length) (hbl : lucks[i.1.2.nl.toNat] = false) :
    AW Tryz.prog c (loopQ H69 (fun p : I69 th locs vals lucks Z => th.length - p.1.1) i Q) (H69 i) := by
  cases hcode
  obtain ⟨⟨n, R⟩, hn, hI, hsk, hmo, hq⟩ := i
  dsimp only at hn hI hsk hmo hq hlt hmx hop
  simp only [H69]
  have hle := hI.es
  have hok : R.Ok := hI.ok (by omega)
  obtain ⟨hv0, hvn⟩ := hI.nv
  obtain ⟨nl0, nln⟩ := hI.nl
  have hc : (n : Int) < (th.length : Int) := by omega
  have hw : IntKind.wrap .i64 ((n : Int) + 1) = (n : Int) + 1 := wrap64s (by omega) (by omega)
  rw [List.drop_eq_getElem_cons hlt, runL, if_pos hmo] at hq
  generalize hx : th[n] = x at *
  have hr1 : R.run1 x locs vals lucks = R.step x locs vals lucks := by unfold Rn.run1; rw [if_neg (by omega)]
  rw [hr1] at hq
  have hI2 := step_inv (lucks := lucks) (vals := vals) hI hmx (by omega)
  have hPq := c_r7PlaceR (R := R) (x := x) (locs := locs) l1 l3
  simp only [inL, hop] at hPq
  have hGb := c_r7GetR (R := R) (n := x.b)
  rw [step_is.2.2.2.1 hop] at hq hI2
  have hS1 := @c_r7SetR R x.d 1 0
  have hS0 := @c_r7SetR R x.d 0 0
  unfold Rn.exclF at hq hI2
  have hl1 : 0 ≤ R.last ∧ R.last.toNat < R.es.length := hl1'
  rw [dif_pos hl1] at hq hI2
  have l0 := hl1.1
  have l2 := hl1.2
  have hmx2 : mm true R.last 0 = R.last := by unfold mm; simp; omega
  generalize hee : R.es[R.last.toNat]'hl1.2 = e at hq hI2
  have he : e.l = R.loc x locs := by rw [← hee]; exact hel
  rw [if_pos he] at hq hI2
  have hk1 : R.nl.toNat < lucks.length := hkl
  rw [dif_pos hk1] at hq hI2
  have hkge : ¬(lucks.length : Int) ≤ R.nl := by omega
  have hw3 : IntKind.wrap .i64 (R.nl + 1) = R.nl + 1 := wrap64s (by omega) (by omega)
  have hw5 : IntKind.wrap .i64 ((lucks.length : Int) - 1) = (lucks.length : Int) - 1 := wrap64s (by omega) (by omega)
  have hm1 : mm true ((lucks.length : Int) - 1) 0 = (lucks.length : Int) - 1 := by unfold mm; simp; omega
  have hm2 : mm false R.nl ((lucks.length : Int) - 1) = R.nl := by unfold mm; simp; omega
  have hb : lucks[R.nl.toNat] = false := hbl
  rw [hb, if_neg (by decide)] at hq hI2
  have hsk2 : (R.exclN x).skip = 0 := hsk
  have hmo2 : (R.exclN x).more = 0 := hmo
  repeat' (first
 | refine ar_end rfl ?_
 | refine ar_callV Tryz.call84 hPq rfl rfl rfl rfl rfl (by simp; done) (by rfl) (by simp; done) ?_
 | refine ar_callV Tryz.call85 hGb rfl rfl rfl rfl rfl (by simp; done) (by rfl) (by simp; done) ?_
 | refine ar_callV Tryz.call88 hS1 rfl rfl rfl rfl rfl (by simp; done) (by rfl) (by simp; done) ?_
 | refine tq_exit ?_
 | refine lq_normN [0, 1, 2, 3, 8, 9, 10, 11, 12] [.loc 8, .loc 9] (by simp; exact rfl) ⟨(n + 1, R.exclN x), by dsimp only; omega, hI2, hsk2, hmo2, hq⟩ (by dsimp only; omega) (by simp [H69, Rn.exclN, Rn.reg])
 | refine ar_go3 _ rfl (by simp [insL_len, insL_getE, inL, ints_len, ints_getE, bls_len, bls_getE, evsL_len, evsL_getE, evL, u32s_len, hc, hlt, hx, hw, hop, l0, l2, hmx2, hee, he, hkge, hw5, hm1, hm2, hk1, hb, hw3, nl0]; exact ⟨rfl, rfl, rfl⟩) rfl ?_
 | refine aw_sregK 7 [0, 1, 2, 3, 8, 9, 10, 11, 12] ?_
 | refine aw_sregK 8 [0, 1, 2, 3, 8, 9, 10, 11, 12] ?_
 | refine aw_sregK 9 [0, 1, 2, 3, 8, 9, 10, 11, 12, 13] ?_
 | refine aw_sregK 10 [0, 1, 2, 3, 8, 9, 10, 11, 12, 13] ?_
 | refine aw_sregK 11 [0, 1, 2, 3, 8, 9, 10, 11, 12, 13, 14, 15] ?_
 | refine aw_sregK 12 [0, 1, 2, 3, 8, 9, 10, 11, 12, 13, 14, 15, 16, 17] ?_
 | refine aw_sregK 13 [0, 1, 2, 3, 8, 9, 10, 11, 12, 13, 14, 15, 16, 17, 57] ?_
 | refine aw_sregK 14 [0, 1, 2, 3, 8, 9, 10, 11, 12, 13, 14, 15, 16, 17, 57] ?_
 | refine aw_sregK 15 [0, 1, 2, 3, 8, 9, 10, 11, 12, 13, 14, 15, 16, 17, 57] ?_
 | refine aw_regK 16 [0, 1, 2, 3, 8, 9, 10, 11, 12, 13, 14, 15, 16, 17, 57] ?_
 | refine aw_sregK 18 [0, 1, 2, 3, 8, 9, 10, 11, 12, 13, 14, 15, 16, 17, 57] ?_
 | refine aw_sregK 19 [0, 1, 2, 3, 8, 9, 10, 11, 12, 13, 14, 15, 16, 17, 57] ?_
 | refine aw_regK 20 [0, 1, 2, 3, 8, 9, 10, 11, 12, 13, 14, 15, 16, 17, 57] ?_
 | refine aw_sregK 30 [0, 1, 2, 3, 8, 9, 10, 11, 12, 13, 14, 15, 16, 17, 57] ?_
 | refine aw_regK 31 [0, 1, 2, 3, 8, 9, 10, 11, 12, 13, 14, 15, 16, 17, 57] ?_
 | refine aw_sregK 33 [0, 1, 2, 3, 8, 9, 10, 11, 12, 13, 14, 15, 16, 17, 57] ?_
 | refine aw_sregK 34 [0, 1, 2, 3, 8, 9, 10, 11, 12, 13, 14, 15, 16, 17] ?_
 | refine aw_sregK 35 [0, 1, 2, 3, 8, 9, 10, 12, 13, 14, 15, 16, 17, 19] ?_
 | refine aw_sregK 36 [0, 1, 2, 3, 8, 9, 10, 12, 13, 14, 15, 16, 17, 19, 20] ?_
 | refine aw_sregK 39 [0, 1, 2, 3, 8, 9, 10, 12, 13, 14, 15, 16, 17, 19, 20] ?_
 | refine aw_sregK 40 [0, 1, 2, 3, 8, 9, 10, 11, 12, 13, 14, 15, 16, 17, 19, 20] ?_
 | refine aw_sregK 41 [0, 1, 2, 3, 8, 9, 10, 11, 12, 13, 14, 15, 16, 17, 19, 20, 21] ?_
 | refine aw_regK 42 [0, 1, 2, 3, 8, 9, 10, 11, 12, 13, 14, 15, 16, 17, 19, 21] ?_
 | refine aw_sregK 43 [0, 1, 2, 3, 8, 9, 10, 11, 12, 13, 14, 15, 16, 17, 19, 21] ?_
 | refine aw_sregK 44 [0, 1, 2, 3, 8, 9, 10, 11, 12, 13] ?_
 | refine aw_ifT (b := true) rfl rfl ?_
 | refine aw_ifF (b := false) rfl rfl ?_
 | refine aw_seq ?_
 | refine aw_block ?_
 | refine aw_skip ?_
 | refine aw_exit ?_
 | refine blockQ_hit ?_
 | refine blockQ_miss (by decide) ?_)
set_option maxHeartbeats 16000000 in
theorem c_r8_exYes {c : Code} {Q : Exit → AState → Prop} {th : List In} {locs : Int} {vals : List Int} {lucks : List Bool} {Z : Rn} (hcode : loopAt Tryz.f59 0 = some c) (hret : ∀ s, retL Tryz.prog Tryz.f59.results.toList (.agg (trL Z)) [] .ret s → Q .ret s)
    (l1 : 1 ≤ locs) (l3 : locs ≤ 3) (h8 : th.length ≤ 8) (hv : vals.length ≤ 40) (hu : lucks.length ≤ 40) (i : I69 th locs vals lucks Z) (hlt : i.1.1 < th.length) (hmx : mayI th[i.1.1] (th.length - 1 - (i.1.1 : Int)) locs = true) (hop : th[i.1.1].op = 10) (hl1' : 0 ≤ i.1.2.last ∧ i.1.2.last.toNat < i.1.2.es.length) (hel : (i.1.2.es[i.1.2.last.toNat]'hl1'.2).l = i.1.2.loc th[i.1.1] locs) (hkl : i.1.2.nl.toNat < lucks.length) (hbl : lucks[i.1.2.nl.toNat] = true) :
    AW Tryz.prog c (loopQ H69 (fun p : I69 th locs vals lucks Z => th.length - p.1.1) i Q) (H69 i) := by
  cases hcode
  obtain ⟨⟨n, R⟩, hn, hI, hsk, hmo, hq⟩ := i
  dsimp only at hn hI hsk hmo hq hlt hmx hop
  simp only [H69]
  have hle := hI.es
  have hok : R.Ok := hI.ok (by omega)
  obtain ⟨hv0, hvn⟩ := hI.nv
  obtain ⟨nl0, nln⟩ := hI.nl
  have hc : (n : Int) < (th.length : Int) := by omega
  have hw : IntKind.wrap .i64 ((n : Int) + 1) = (n : Int) + 1 := wrap64s (by omega) (by omega)
  rw [List.drop_eq_getElem_cons hlt, runL, if_pos hmo] at hq
  generalize hx : th[n] = x at *
  have hr1 : R.run1 x locs vals lucks = R.step x locs vals lucks := by unfold Rn.run1; rw [if_neg (by omega)]
  rw [hr1] at hq
  have hI2 := step_inv (lucks := lucks) (vals := vals) hI hmx (by omega)
  have hPq := c_r7PlaceR (R := R) (x := x) (locs := locs) l1 l3
  simp only [inL, hop] at hPq
  have hGb := c_r7GetR (R := R) (n := x.b)
  rw [step_is.2.2.2.1 hop] at hq hI2
  have hS1 := @c_r7SetR R x.d 1 0
  have hS0 := @c_r7SetR R x.d 0 0
  unfold Rn.exclF at hq hI2
  have hl1 : 0 ≤ R.last ∧ R.last.toNat < R.es.length := hl1'
  rw [dif_pos hl1] at hq hI2
  have l0 := hl1.1
  have l2 := hl1.2
  have hmx2 : mm true R.last 0 = R.last := by unfold mm; simp; omega
  generalize hee : R.es[R.last.toNat]'hl1.2 = e at hq hI2
  have he : e.l = R.loc x locs := by rw [← hee]; exact hel
  rw [if_pos he] at hq hI2
  have hk1 : R.nl.toNat < lucks.length := hkl
  rw [dif_pos hk1] at hq hI2
  have hkge : ¬(lucks.length : Int) ≤ R.nl := by omega
  have hw3 : IntKind.wrap .i64 (R.nl + 1) = R.nl + 1 := wrap64s (by omega) (by omega)
  have hw5 : IntKind.wrap .i64 ((lucks.length : Int) - 1) = (lucks.length : Int) - 1 := wrap64s (by omega) (by omega)
  have hm1 : mm true ((lucks.length : Int) - 1) 0 = (lucks.length : Int) - 1 := by unfold mm; simp; omega
  have hm2 : mm false R.nl ((lucks.length : Int) - 1) = R.nl := by unfold mm; simp; omega
  have hb : lucks[R.nl.toNat] = true := hbl
  rw [hb, if_pos rfl] at hq hI2
  have hW : SC Tryz.prog 87 [.agg (trL { R with nl := R.nl + 1 }), .agg (evL ⟨0, 2, R.loc x locs, R.gv x.b, false, false, true⟩), I .u32 (R.adr x locs), I .u32 (R.gd x.b), I .u32 R.ctrl, I .i64 R.last] (.agg (trL (Rn.event { R with nl := R.nl + 1 } ⟨0, 2, R.loc x locs, R.gv x.b, false, false, true⟩ (R.adr x locs) (R.gd x.b) R.last))) := c_with (R := { R with nl := R.nl + 1 }) ⟨hok.es, hok.ad, hok.da, hok.ct, hok.pa⟩
  have hsk2 : (R.exclY x locs).skip = 0 := hsk
  have hmo2 : (R.exclY x locs).more = 0 := hmo
  have g1 : Rn.loc { R with last := -1, nl := R.nl + 1 } x locs = R.loc x locs := rfl
  have g2 : Rn.adr { R with last := -1, nl := R.nl + 1 } x locs = R.adr x locs := rfl
  have g3 : Rn.gv { R with last := -1, nl := R.nl + 1 } x.b = R.gv x.b := rfl
  have g4 : Rn.gd { R with last := -1, nl := R.nl + 1 } x.b = R.gd x.b := rfl
  repeat' (first
 | refine ar_end rfl ?_
 | refine ar_fin rfl ?_
 | refine ar_callV Tryz.call84 hPq rfl rfl rfl rfl rfl (by simp; done) (by rfl) (by simp; done) ?_
 | refine ar_callV Tryz.call85 hGb rfl rfl rfl rfl rfl (by simp; done) (by rfl) (by simp; done) ?_
 | refine ar_callV Tryz.call87 hW rfl rfl rfl rfl rfl (by simp; done) (by rfl) (by simp; done) ?_
 | refine ar_callV Tryz.call88 hS0 rfl rfl rfl rfl rfl (by simp; done) (by rfl) (by simp; done) ?_
 | refine bq_norm ?_
 | refine lq_normN [0, 1, 2, 3, 8, 9, 10, 11, 12] [.loc 8, .loc 9] (by simp; exact rfl) ⟨(n + 1, R.exclY x locs), by dsimp only; omega, hI2, hsk2, hmo2, hq⟩ (by dsimp only; omega) (by simp [H69, Rn.exclY, Rn.store, Rn.event, Rn.reg, g1, g2, g3, g4, hop, l0])
 | refine ar_go3 _ rfl (by simp [insL_len, insL_getE, inL, ints_len, ints_getE, bls_len, bls_getE, evsL_len, evsL_getE, evL, u32s_len, hc, hlt, hx, hw, hop, l0, l2, hmx2, hee, he, hkge, hw5, hm1, hm2, hk1, hb, hw3, nl0, Rn.event]; exact ⟨rfl, rfl, rfl⟩) rfl ?_
 | refine aw_sregK 7 [0, 1, 2, 3, 8, 9, 10, 11, 12] ?_
 | refine aw_sregK 8 [0, 1, 2, 3, 8, 9, 10, 11, 12] ?_
 | refine aw_sregK 9 [0, 1, 2, 3, 8, 9, 10, 11, 12, 13] ?_
 | refine aw_sregK 10 [0, 1, 2, 3, 8, 9, 10, 11, 12, 13] ?_
 | refine aw_sregK 11 [0, 1, 2, 3, 8, 9, 10, 11, 12, 13, 14, 15] ?_
 | refine aw_sregK 12 [0, 1, 2, 3, 8, 9, 10, 11, 12, 13, 14, 15, 16, 17] ?_
 | refine aw_sregK 13 [0, 1, 2, 3, 8, 9, 10, 11, 12, 13, 14, 15, 16, 17, 57] ?_
 | refine aw_sregK 14 [0, 1, 2, 3, 8, 9, 10, 11, 12, 13, 14, 15, 16, 17, 57] ?_
 | refine aw_sregK 15 [0, 1, 2, 3, 8, 9, 10, 11, 12, 13, 14, 15, 16, 17, 57] ?_
 | refine aw_regK 16 [0, 1, 2, 3, 8, 9, 10, 11, 12, 13, 14, 15, 16, 17, 57] ?_
 | refine aw_sregK 18 [0, 1, 2, 3, 8, 9, 10, 11, 12, 13, 14, 15, 16, 17, 57] ?_
 | refine aw_sregK 19 [0, 1, 2, 3, 8, 9, 10, 11, 12, 13, 14, 15, 16, 17, 57] ?_
 | refine aw_regK 20 [0, 1, 2, 3, 8, 9, 10, 11, 12, 13, 14, 15, 16, 17, 57] ?_
 | refine aw_sregK 30 [0, 1, 2, 3, 8, 9, 10, 11, 12, 13, 14, 15, 16, 17, 57] ?_
 | refine aw_regK 31 [0, 1, 2, 3, 8, 9, 10, 11, 12, 13, 14, 15, 16, 17, 57] ?_
 | refine aw_sregK 33 [0, 1, 2, 3, 8, 9, 10, 11, 12, 13, 14, 15, 16, 17, 57] ?_
 | refine aw_sregK 34 [0, 1, 2, 3, 8, 9, 10, 11, 12, 13, 14, 15, 16, 17] ?_
 | refine aw_sregK 35 [0, 1, 2, 3, 8, 9, 10, 12, 13, 14, 15, 16, 17, 19] ?_
 | refine aw_sregK 36 [0, 1, 2, 3, 8, 9, 10, 12, 13, 14, 15, 16, 17, 19, 20] ?_
 | refine aw_sregK 39 [0, 1, 2, 3, 8, 9, 10, 12, 13, 14, 15, 16, 17, 19, 20] ?_
 | refine aw_sregK 40 [0, 1, 2, 3, 8, 9, 10, 11, 12, 13, 14, 15, 16, 17, 19, 20] ?_
 | refine aw_sregK 41 [0, 1, 2, 3, 8, 9, 10, 11, 12, 13, 14, 15, 16, 17, 19, 20, 21] ?_
 | refine aw_regK 42 [0, 1, 2, 3, 8, 9, 10, 11, 12, 13, 14, 15, 16, 17, 19, 21] ?_
 | refine aw_sregK 43 [0, 1, 2, 3, 8, 9, 10, 11, 12, 13, 14, 15, 16, 17, 19, 21] ?_
 | refine aw_sregK 45 [0, 1, 2, 3, 8, 9, 10, 11, 12, 13, 14, 15, 16, 17, 19] ?_
 | refine aw_regK 46 [0, 1, 2, 3, 8, 9, 10, 11, 12, 13] ?_
 | refine aw_ifT (b := true) rfl rfl ?_
 | refine aw_ifF (b := false) rfl rfl ?_
 | refine aw_seq ?_
 | refine aw_block ?_
 | refine aw_skip ?_)
set_option maxHeartbeats 16000000 in
theorem c_r8_exEnd {c : Code} {Q : Exit → AState → Prop} {th : List In} {locs : Int} {vals : List Int} {lucks : List Bool} {Z : Rn} (hcode : loopAt Tryz.f59 0 = some c) (hret : ∀ s, retL Tryz.prog Tryz.f59.results.toList (.agg (trL Z)) [] .ret s → Q .ret s)
    (l1 : 1 ≤ locs) (l3 : locs ≤ 3) (h8 : th.length ≤ 8) (hv : vals.length ≤ 40) (hu : lucks.length ≤ 40) (i : I69 th locs vals lucks Z) (hlt : i.1.1 < th.length) (hmx : mayI th[i.1.1] (th.length - 1 - (i.1.1 : Int)) locs = true) (hop : th[i.1.1].op = 10) (hl1' : 0 ≤ i.1.2.last ∧ i.1.2.last.toNat < i.1.2.es.length) (hel : (i.1.2.es[i.1.2.last.toNat]'hl1'.2).l = i.1.2.loc th[i.1.1] locs) (hkl : ¬i.1.2.nl.toNat < lucks.length) :
    AW Tryz.prog c (loopQ H69 (fun p : I69 th locs vals lucks Z => th.length - p.1.1) i Q) (H69 i) := by
  cases hcode
  obtain ⟨⟨n, R⟩, hn, hI, hsk, hmo, hq⟩ := i
  dsimp only at hn hI hsk hmo hq hlt hmx hop
  simp only [H69]
  have hle := hI.es
  have hok : R.Ok := hI.ok (by omega)
  obtain ⟨hv0, hvn⟩ := hI.nv
  obtain ⟨nl0, nln⟩ := hI.nl
  have hc : (n : Int) < (th.length : Int) := by omega
  have hw : IntKind.wrap .i64 ((n : Int) + 1) = (n : Int) + 1 := wrap64s (by omega) (by omega)
  rw [List.drop_eq_getElem_cons hlt, runL, if_pos hmo] at hq
  generalize hx : th[n] = x at *
  have hr1 : R.run1 x locs vals lucks = R.step x locs vals lucks := by unfold Rn.run1; rw [if_neg (by omega)]
  rw [hr1] at hq
  have hI2 := step_inv (lucks := lucks) (vals := vals) hI hmx (by omega)
  have hPq := c_r7PlaceR (R := R) (x := x) (locs := locs) l1 l3
  simp only [inL, hop] at hPq
  have hGb := c_r7GetR (R := R) (n := x.b)
  rw [step_is.2.2.2.1 hop] at hq hI2
  have hS1 := @c_r7SetR R x.d 1 0
  have hS0 := @c_r7SetR R x.d 0 0
  unfold Rn.exclF at hq hI2
  have hl1 : 0 ≤ R.last ∧ R.last.toNat < R.es.length := hl1'
  rw [dif_pos hl1] at hq hI2
  have l0 := hl1.1
  have l2 := hl1.2
  have hmx2 : mm true R.last 0 = R.last := by unfold mm; simp; omega
  generalize hee : R.es[R.last.toNat]'hl1.2 = e at hq hI2
  have he : e.l = R.loc x locs := by rw [← hee]; exact hel
  rw [if_pos he] at hq hI2
  have hk1 : ¬R.nl.toNat < lucks.length := hkl
  rw [dif_neg hk1] at hq hI2
  have hkge : (lucks.length : Int) ≤ R.nl := by omega
  rw [runL_stop (by show ¬(2 : Int) = 0; omega)] at hq
  subst hq
  repeat' (first
 | refine ar_end rfl ?_
 | refine ar_callV Tryz.call84 hPq rfl rfl rfl rfl rfl (by simp; done) (by rfl) (by simp; done) ?_
 | refine ar_callV Tryz.call85 hGb rfl rfl rfl rfl rfl (by simp; done) (by rfl) (by simp; done) ?_
 | exact aw_ret (hret _ (ret_vals (by simp; exact rfl) (by simp; fail_if_success (show _))))
 | refine ar_go3 _ rfl (by simp [insL_len, insL_getE, inL, ints_len, ints_getE, bls_len, bls_getE, evsL_len, evsL_getE, evL, u32s_len, hc, hlt, hx, hw, hop, l0, l2, hmx2, hee, he, hkge]; exact ⟨rfl, rfl, rfl⟩) rfl ?_
 | refine aw_sregK 7 [0, 1, 2, 3, 8, 9, 10, 11, 12] ?_
 | refine aw_sregK 8 [0, 1, 2, 3, 8, 9, 10, 11, 12] ?_
 | refine aw_sregK 9 [0, 1, 2, 3, 8, 9, 10, 11, 12, 13] ?_
 | refine aw_sregK 10 [0, 1, 2, 3, 8, 9, 10, 11, 12, 13] ?_
 | refine aw_sregK 11 [0, 1, 2, 3, 8, 9, 10, 11, 12, 13, 14, 15] ?_
 | refine aw_sregK 12 [0, 1, 2, 3, 8, 9, 10, 11, 12, 13, 14, 15, 16, 17] ?_
 | refine aw_sregK 13 [0, 1, 2, 3, 8, 9, 10, 11, 12, 13, 14, 15, 16, 17, 57] ?_
 | refine aw_sregK 14 [0, 1, 2, 3, 8, 9, 10, 11, 12, 13, 14, 15, 16, 17, 57] ?_
 | refine aw_sregK 15 [0, 1, 2, 3, 8, 9, 10, 11, 12, 13, 14, 15, 16, 17, 57] ?_
 | refine aw_regK 16 [0, 1, 2, 3, 8, 9, 10, 11, 12, 13, 14, 15, 16, 17, 57] ?_
 | refine aw_sregK 18 [0, 1, 2, 3, 8, 9, 10, 11, 12, 13, 14, 15, 16, 17, 57] ?_
 | refine aw_sregK 19 [0, 1, 2, 3, 8, 9, 10, 11, 12, 13, 14, 15, 16, 17, 57] ?_
 | refine aw_regK 20 [0, 1, 2, 3, 8, 9, 10, 11, 12, 13, 14, 15, 16, 17, 57] ?_
 | refine aw_sregK 30 [0, 1, 2, 3, 8, 9, 10, 11, 12, 13, 14, 15, 16, 17, 57] ?_
 | refine aw_regK 31 [0, 1, 2, 3, 8, 9, 10, 11, 12, 13, 14, 15, 16, 17, 57] ?_
 | refine aw_sregK 33 [0, 1, 2, 3, 8, 9, 10, 11, 12, 13, 14, 15, 16, 17, 57] ?_
 | refine aw_sregK 34 [0, 1, 2, 3, 8, 9, 10, 11, 12, 13, 14, 15, 16, 17] ?_
 | refine aw_sregK 35 [0, 1, 2, 3, 8, 9, 10, 12, 13, 14, 15, 16, 17, 19] ?_
 | refine aw_sregK 36 [0, 1, 2, 3, 8, 9, 10, 12, 13, 14, 15, 16, 17, 19, 20] ?_
 | refine aw_sregK 37 [8, 9] ?_
 | refine aw_sregK 38 [8, 9] ?_
 | refine aw_ifT (b := true) rfl rfl ?_
 | refine aw_ifF (b := false) rfl rfl ?_
 | refine aw_seq ?_
 | refine aw_block ?_
 | refine aw_skip ?_)
end Go.Eng
