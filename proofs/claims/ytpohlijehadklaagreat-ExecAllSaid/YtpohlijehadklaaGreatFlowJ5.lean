import Derived.Test.YtpohlijehadklaaGreatFlowJ1
set_option linter.unusedSimpArgs false
set_option linter.unusedVariables false
set_option linter.constructorNameAsVariable false
set_option autoImplicit false
namespace Go.Eng
open Go Go.RowKit Go.Proofs
set_option maxHeartbeats 16000000 in
theorem c_r8_exFar {c : Code} {Q : Exit → AState → Prop} {th : List In} {locs : Int} {vals : List Int} {lucks : List Bool} {Z : Rn} (hcode : loopAt Tryz.f59 0 = some c) (hret : ∀ s, retL Tryz.prog Tryz.f59.results.toList (.agg (trL Z)) [] .ret s → Q .ret s)
    (l1 : 1 ≤ locs) (l3 : locs ≤ 3) (h8 : th.length ≤ 8) (hv : vals.length ≤ 40) (hu : lucks.length ≤ 40) (i : I69 th locs vals lucks Z) (hlt : i.1.1 < th.length) (hmx : mayI th[i.1.1] (th.length - 1 - (i.1.1 : Int)) locs = true) (hop : th[i.1.1].op = 10) (hl1' : 0 ≤ i.1.2.last ∧ i.1.2.last.toNat < i.1.2.es.length) (hel : ¬(i.1.2.es[i.1.2.last.toNat]'hl1'.2).l = i.1.2.loc th[i.1.1] locs) :
    AW Tryz.prog c (loopQ H69 (fun p : I69 th locs vals lucks Z => th.length - p.1.1) i Q) (H69 i) := by
  cases hcode
  obtain ⟨⟨n, R⟩, hn, hI, hsk, hmo, hq⟩ := i
  dsimp only at hn hI hsk hmo hq hlt hmx hop
  simp only [H69]
  have hle := hI.es
  have hok : R.Ok := hI.ok (by omega)
  obtain ⟨hv0, hvn⟩ := hI.nv
  obtain ⟨nl0, nln⟩ := hI.nl
  have hc : (n : Int) < (th.length : Int) := by omega
  have hw : IntKind.wrap .i64 ((n : Int) + 1) = (n : Int) + 1 := wrap64s (by omega) (by omega)
  rw [List.drop_eq_getElem_cons hlt, runL, if_pos hmo] at hq
  generalize hx : th[n] = x at *
  have hr1 : R.run1 x locs vals lucks = R.step x locs vals lucks := by unfold Rn.run1; rw [if_neg (by omega)]
  rw [hr1] at hq
  have hI2 := step_inv (lucks := lucks) (vals := vals) hI hmx (by omega)
  have hPq := c_r7PlaceR (R := R) (x := x) (locs := locs) l1 l3
  simp only [inL, hop] at hPq
  have hGb := c_r7GetR (R := R) (n := x.b)
  rw [step_is.2.2.2.1 hop] at hq hI2
  have hS1 := @c_r7SetR R x.d 1 0
  have hS0 := @c_r7SetR R x.d 0 0
  unfold Rn.exclF at hq hI2
  have hl1 : 0 ≤ R.last ∧ R.last.toNat < R.es.length := hl1'
  rw [dif_pos hl1] at hq hI2
  have l0 := hl1.1
  have l2 := hl1.2
  have hmx2 : mm true R.last 0 = R.last := by unfold mm; simp; omega
  generalize hee : R.es[R.last.toNat]'hl1.2 = e at hq hI2
  have he : ¬e.l = R.loc x locs := by rw [← hee]; exact hel
  rw [if_neg he] at hq hI2
  have hsk2 : (R.excl0 x).skip = 0 := hsk
  have hmo2 : (R.excl0 x).more = 0 := hmo
  repeat' (first
 | refine ar_end rfl ?_
 | refine ar_callV Tryz.call84 hPq rfl rfl rfl rfl rfl (by simp; done) (by rfl) (by simp; done) ?_
 | refine ar_callV Tryz.call85 hGb rfl rfl rfl rfl rfl (by simp; done) (by rfl) (by simp; done) ?_
 | refine ar_callV Tryz.call88 hS1 rfl rfl rfl rfl rfl (by simp; done) (by rfl) (by simp; done) ?_
 | refine tq_exit ?_
 | refine lq_normN [0, 1, 2, 3, 8, 9, 10, 11, 12] [.loc 8, .loc 9] (by simp; exact rfl) ⟨(n + 1, R.excl0 x), by dsimp only; omega, hI2, hsk2, hmo2, hq⟩ (by dsimp only; omega) (by simp [H69, Rn.excl0, Rn.reg])
 | refine ar_go3 _ rfl (by simp [insL_len, insL_getE, inL, ints_len, ints_getE, bls_len, bls_getE, evsL_len, evsL_getE, evL, u32s_len, hc, hlt, hx, hw, hop, l0, l2, hmx2, hee, he]; exact ⟨rfl, rfl, rfl⟩) rfl ?_
 | refine aw_sregK 7 [0, 1, 2, 3, 8, 9, 10, 11, 12] ?_
 | refine aw_sregK 8 [0, 1, 2, 3, 8, 9, 10, 11, 12] ?_
 | refine aw_sregK 9 [0, 1, 2, 3, 8, 9, 10, 11, 12, 13] ?_
 | refine aw_sregK 10 [0, 1, 2, 3, 8, 9, 10, 11, 12, 13] ?_
 | refine aw_sregK 11 [0, 1, 2, 3, 8, 9, 10, 11, 12, 13, 14, 15] ?_
 | refine aw_sregK 12 [0, 1, 2, 3, 8, 9, 10, 11, 12, 13, 14, 15, 16, 17] ?_
 | refine aw_sregK 13 [0, 1, 2, 3, 8, 9, 10, 11, 12, 13, 14, 15, 16, 17, 57] ?_
 | refine aw_sregK 14 [0, 1, 2, 3, 8, 9, 10, 11, 12, 13, 14, 15, 16, 17, 57] ?_
 | refine aw_sregK 15 [0, 1, 2, 3, 8, 9, 10, 11, 12, 13, 14, 15, 16, 17, 57] ?_
 | refine aw_regK 16 [0, 1, 2, 3, 8, 9, 10, 11, 12, 13, 14, 15, 16, 17, 57] ?_
 | refine aw_sregK 18 [0, 1, 2, 3, 8, 9, 10, 11, 12, 13, 14, 15, 16, 17, 57] ?_
 | refine aw_sregK 19 [0, 1, 2, 3, 8, 9, 10, 11, 12, 13, 14, 15, 16, 17, 57] ?_
 | refine aw_regK 20 [0, 1, 2, 3, 8, 9, 10, 11, 12, 13, 14, 15, 16, 17, 57] ?_
 | refine aw_sregK 30 [0, 1, 2, 3, 8, 9, 10, 11, 12, 13, 14, 15, 16, 17, 57] ?_
 | refine aw_regK 31 [0, 1, 2, 3, 8, 9, 10, 11, 12, 13, 14, 15, 16, 17, 57] ?_
 | refine aw_sregK 33 [0, 1, 2, 3, 8, 9, 10, 11, 12, 13, 14, 15, 16, 17, 57] ?_
 | refine aw_sregK 34 [0, 1, 2, 3, 8, 9, 10, 11, 12, 13, 14, 15, 16, 17] ?_
 | refine aw_sregK 35 [0, 1, 2, 3, 8, 9, 10, 12, 13, 14, 15, 16, 17, 19] ?_
 | refine aw_sregK 36 [0, 1, 2, 3, 8, 9, 10, 12, 13, 14, 15, 16, 17, 19, 20] ?_
 | refine aw_sregK 39 [0, 1, 2, 3, 8, 9, 10, 12, 13, 14, 15, 16, 17, 19, 20] ?_
 | refine aw_sregK 40 [0, 1, 2, 3, 8, 9, 10, 11, 12, 13, 14, 15, 16, 17, 19, 20] ?_
 | refine aw_sregK 41 [0, 1, 2, 3, 8, 9, 10, 11, 12, 13, 14, 15, 16, 17, 19, 20, 21] ?_
 | refine aw_sregK 43 [0, 1, 2, 3, 8, 9, 10, 11, 12, 13, 14, 15, 16, 17, 19, 21] ?_
 | refine aw_sregK 44 [0, 1, 2, 3, 8, 9, 10, 11, 12, 13] ?_
 | refine aw_ifT (b := true) rfl rfl ?_
 | refine aw_ifF (b := false) rfl rfl ?_
 | refine aw_seq ?_
 | refine aw_block ?_
 | refine aw_skip ?_
 | refine aw_exit ?_
 | refine blockQ_hit ?_
 | refine blockQ_miss (by decide) ?_)
set_option maxHeartbeats 16000000 in
theorem c_r8_exNeg {c : Code} {Q : Exit → AState → Prop} {th : List In} {locs : Int} {vals : List Int} {lucks : List Bool} {Z : Rn} (hcode : loopAt Tryz.f59 0 = some c) (hret : ∀ s, retL Tryz.prog Tryz.f59.results.toList (.agg (trL Z)) [] .ret s → Q .ret s)
    (l1 : 1 ≤ locs) (l3 : locs ≤ 3) (h8 : th.length ≤ 8) (hv : vals.length ≤ 40) (hu : lucks.length ≤ 40) (i : I69 th locs vals lucks Z) (hlt : i.1.1 < th.length) (hmx : mayI th[i.1.1] (th.length - 1 - (i.1.1 : Int)) locs = true) (hop : th[i.1.1].op = 10) (hl1' : ¬(0 ≤ i.1.2.last ∧ i.1.2.last.toNat < i.1.2.es.length)) :
    AW Tryz.prog c (loopQ H69 (fun p : I69 th locs vals lucks Z => th.length - p.1.1) i Q) (H69 i) := by
  cases hcode
  obtain ⟨⟨n, R⟩, hn, hI, hsk, hmo, hq⟩ := i
  dsimp only at hn hI hsk hmo hq hlt hmx hop
  simp only [H69]
  have hle := hI.es
  have hok : R.Ok := hI.ok (by omega)
  obtain ⟨hv0, hvn⟩ := hI.nv
  obtain ⟨nl0, nln⟩ := hI.nl
  have hc : (n : Int) < (th.length : Int) := by omega
  have hw : IntKind.wrap .i64 ((n : Int) + 1) = (n : Int) + 1 := wrap64s (by omega) (by omega)
  rw [List.drop_eq_getElem_cons hlt, runL, if_pos hmo] at hq
  generalize hx : th[n] = x at *
  have hr1 : R.run1 x locs vals lucks = R.step x locs vals lucks := by unfold Rn.run1; rw [if_neg (by omega)]
  rw [hr1] at hq
  have hI2 := step_inv (lucks := lucks) (vals := vals) hI hmx (by omega)
  have hPq := c_r7PlaceR (R := R) (x := x) (locs := locs) l1 l3
  simp only [inL, hop] at hPq
  have hGb := c_r7GetR (R := R) (n := x.b)
  rw [step_is.2.2.2.1 hop] at hq hI2
  have hS1 := @c_r7SetR R x.d 1 0
  have hS0 := @c_r7SetR R x.d 0 0
  unfold Rn.exclF at hq hI2
  have hl1 : ¬(0 ≤ R.last ∧ R.last.toNat < R.es.length) := hl1'
  rw [dif_neg hl1] at hq hI2
  have hlast := hI.last
  have l0 : ¬0 ≤ R.last := by omega
  have hsk2 : (R.excl0 x).skip = 0 := hsk
  have hmo2 : (R.excl0 x).more = 0 := hmo
  repeat' (first
 | refine ar_end rfl ?_
 | refine ar_callV Tryz.call84 hPq rfl rfl rfl rfl rfl (by simp; done) (by rfl) (by simp; done) ?_
 | refine ar_callV Tryz.call85 hGb rfl rfl rfl rfl rfl (by simp; done) (by rfl) (by simp; done) ?_
 | refine ar_callV Tryz.call88 hS1 rfl rfl rfl rfl rfl (by simp; done) (by rfl) (by simp; done) ?_
 | refine tq_exit ?_
 | refine lq_normN [0, 1, 2, 3, 8, 9, 10, 11, 12] [.loc 8, .loc 9] (by simp; exact rfl) ⟨(n + 1, R.excl0 x), by dsimp only; omega, hI2, hsk2, hmo2, hq⟩ (by dsimp only; omega) (by simp [H69, Rn.excl0, Rn.reg])
 | refine ar_go3 _ rfl (by simp [insL_len, insL_getE, inL, ints_len, ints_getE, bls_len, bls_getE, evsL_len, evsL_getE, evL, u32s_len, hc, hlt, hx, hw, hop, l0]; exact ⟨rfl, rfl, rfl⟩) rfl ?_
 | refine aw_sregK 7 [0, 1, 2, 3, 8, 9, 10, 11, 12] ?_
 | refine aw_sregK 8 [0, 1, 2, 3, 8, 9, 10, 11, 12] ?_
 | refine aw_sregK 9 [0, 1, 2, 3, 8, 9, 10, 11, 12, 13] ?_
 | refine aw_sregK 10 [0, 1, 2, 3, 8, 9, 10, 11, 12, 13] ?_
 | refine aw_sregK 11 [0, 1, 2, 3, 8, 9, 10, 11, 12, 13, 14, 15] ?_
 | refine aw_sregK 12 [0, 1, 2, 3, 8, 9, 10, 11, 12, 13, 14, 15, 16, 17] ?_
 | refine aw_sregK 13 [0, 1, 2, 3, 8, 9, 10, 11, 12, 13, 14, 15, 16, 17, 57] ?_
 | refine aw_sregK 14 [0, 1, 2, 3, 8, 9, 10, 11, 12, 13, 14, 15, 16, 17, 57] ?_
 | refine aw_sregK 15 [0, 1, 2, 3, 8, 9, 10, 11, 12, 13, 14, 15, 16, 17, 57] ?_
 | refine aw_regK 16 [0, 1, 2, 3, 8, 9, 10, 11, 12, 13, 14, 15, 16, 17, 57] ?_
 | refine aw_sregK 18 [0, 1, 2, 3, 8, 9, 10, 11, 12, 13, 14, 15, 16, 17, 57] ?_
 | refine aw_sregK 19 [0, 1, 2, 3, 8, 9, 10, 11, 12, 13, 14, 15, 16, 17, 57] ?_
 | refine aw_regK 20 [0, 1, 2, 3, 8, 9, 10, 11, 12, 13, 14, 15, 16, 17, 57] ?_
 | refine aw_sregK 30 [0, 1, 2, 3, 8, 9, 10, 11, 12, 13, 14, 15, 16, 17, 57] ?_
 | refine aw_regK 31 [0, 1, 2, 3, 8, 9, 10, 11, 12, 13, 14, 15, 16, 17, 57] ?_
 | refine aw_sregK 33 [0, 1, 2, 3, 8, 9, 10, 11, 12, 13, 14, 15, 16, 17, 57] ?_
 | refine aw_sregK 34 [0, 1, 2, 3, 8, 9, 10, 11, 12, 13, 14, 15, 16, 17] ?_
 | refine aw_sregK 35 [0, 1, 2, 3, 8, 9, 10, 12, 13, 14, 15, 16, 17, 19] ?_
 | refine aw_sregK 36 [0, 1, 2, 3, 8, 9, 10, 12, 13, 14, 15, 16, 17, 19, 20] ?_
 | refine aw_sregK 39 [0, 1, 2, 3, 8, 9, 10, 12, 13, 14, 15, 16, 17, 19, 20] ?_
 | refine aw_sregK 40 [0, 1, 2, 3, 8, 9, 10, 11, 12, 13, 14, 15, 16, 17, 19, 20] ?_
 | refine aw_sregK 41 [0, 1, 2, 3, 8, 9, 10, 11, 12, 13, 14, 15, 16, 17, 19, 20, 21] ?_
 | refine aw_sregK 43 [0, 1, 2, 3, 8, 9, 10, 11, 12, 13, 14, 15, 16, 17, 19, 21] ?_
 | refine aw_sregK 44 [0, 1, 2, 3, 8, 9, 10, 11, 12, 13] ?_
 | refine aw_ifT (b := true) rfl rfl ?_
 | refine aw_ifF (b := false) rfl rfl ?_
 | refine aw_seq ?_
 | refine aw_block ?_
 | refine aw_skip ?_
 | refine aw_exit ?_
 | refine blockQ_hit ?_
 | refine blockQ_miss (by decide) ?_)
set_option maxHeartbeats 16000000 in
theorem c_r8_fence11 {c : Code} {Q : Exit → AState → Prop} {th : List In} {locs : Int} {vals : List Int} {lucks : List Bool} {Z : Rn} (hcode : loopAt Tryz.f59 0 = some c) (hret : ∀ s, retL Tryz.prog Tryz.f59.results.toList (.agg (trL Z)) [] .ret s → Q .ret s)
    (l1 : 1 ≤ locs) (l3 : locs ≤ 3) (h8 : th.length ≤ 8) (hv : vals.length ≤ 40) (hu : lucks.length ≤ 40) (i : I69 th locs vals lucks Z) (hlt : i.1.1 < th.length) (hmx : mayI th[i.1.1] (th.length - 1 - (i.1.1 : Int)) locs = true) (hop : th[i.1.1].op = 11) :
    AW Tryz.prog c (loopQ H69 (fun p : I69 th locs vals lucks Z => th.length - p.1.1) i Q) (H69 i) := by
  cases hcode
  obtain ⟨⟨n, R⟩, hn, hI, hsk, hmo, hq⟩ := i
  dsimp only at hn hI hsk hmo hq hlt hmx hop
  simp only [H69]
  have hle := hI.es
  have hok : R.Ok := hI.ok (by omega)
  obtain ⟨hv0, hvn⟩ := hI.nv
  obtain ⟨nl0, nln⟩ := hI.nl
  have hc : (n : Int) < (th.length : Int) := by omega
  have hw : IntKind.wrap .i64 ((n : Int) + 1) = (n : Int) + 1 := wrap64s (by omega) (by omega)
  rw [List.drop_eq_getElem_cons hlt, runL, if_pos hmo] at hq
  generalize hx : th[n] = x at *
  have hr1 : R.run1 x locs vals lucks = R.step x locs vals lucks := by unfold Rn.run1; rw [if_neg (by omega)]
  rw [hr1] at hq
  have hI2 := step_inv (lucks := lucks) (vals := vals) hI hmx (by omega)
  have hPq := c_r7PlaceR (R := R) (x := x) (locs := locs) l1 l3
  simp only [inL, hop] at hPq
  have hGb := c_r7GetR (R := R) (n := x.b)
  rw [step_is.2.2.2.2.1 (by omega)] at hq hI2
  have hF := c_r8fence (x := x)
  obtain ⟨q, hq1, hq2, hq3⟩ := fence_k hmx (by omega)
  have hFk : (if x.op = 12 then (6 : Int) else IntKind.wrap .i64 (3 + x.m)) = q := by rw [← hq1]; rw [if_neg (by omega), if_pos hop]
  rw [hFk] at hF
  simp only [inL, hop] at hF
  have efn : R.fence x = R.event ⟨0, q, 0, 0, false, false, false⟩ 0 0 (-1) := by unfold Rn.fence; rw [hq1]
  rw [efn] at hq hI2
  have hW : SC Tryz.prog 87 [.agg (trL R), .agg (evL ⟨0, q, 0, 0, false, false, false⟩), I .u32 0, I .u32 0, I .u32 R.ctrl, I .i64 (-1)] (.agg (trL (Rn.event R ⟨0, q, 0, 0, false, false, false⟩ 0 0 (-1)))) := c_with hok
  have hsk2 : (Rn.event R ⟨0, q, 0, 0, false, false, false⟩ 0 0 (-1)).skip = 0 := hsk
  have hmo2 : (Rn.event R ⟨0, q, 0, 0, false, false, false⟩ 0 0 (-1)).more = 0 := hmo
  repeat' (first
 | refine ar_end rfl ?_
 | refine ar_finD rfl (by kernel_rfl) ?_
 | refine ar_callV Tryz.call84 hPq rfl rfl rfl rfl rfl (by simp; done) (by rfl) (by simp; done) ?_
 | refine ar_callV Tryz.call85 hGb rfl rfl rfl rfl rfl (by simp; done) (by rfl) (by simp; done) ?_
 | refine ar_callV Tryz.call90 hF rfl rfl rfl rfl rfl (by simp; done) (by rfl) (by simp; done) ?_
 | refine ar_callV Tryz.call87 hW rfl rfl rfl rfl rfl (by simp; done) (by rfl) (by simp; done) ?_
 | refine bq_norm ?_
 | refine lq_normN [0, 1, 2, 3, 8, 9, 10, 11, 12] [.loc 8, .loc 9] (by simp; exact rfl) ⟨(n + 1, Rn.event R ⟨0, q, 0, 0, false, false, false⟩ 0 0 (-1)), by dsimp only; omega, hI2, hsk2, hmo2, hq⟩ (by dsimp only; omega) (by simp [H69, Rn.event])
 | refine ar_go3 _ rfl (by simp [insL_len, insL_getE, inL, ints_len, ints_getE, bls_len, bls_getE, evsL_len, evsL_getE, evL, u32s_len, hc, hlt, hx, hw, hop]; exact ⟨rfl, rfl, rfl⟩) rfl ?_
 | refine aw_sregK 7 [0, 1, 2, 3, 8, 9, 10, 11, 12] ?_
 | refine aw_sregK 8 [0, 1, 2, 3, 8, 9, 10, 11, 12] ?_
 | refine aw_sregK 9 [0, 1, 2, 3, 8, 9, 10, 11, 12, 13] ?_
 | refine aw_sregK 10 [0, 1, 2, 3, 8, 9, 10, 11, 12, 13] ?_
 | refine aw_sregK 11 [0, 1, 2, 3, 8, 9, 10, 11, 12, 13, 14, 15] ?_
 | refine aw_sregK 12 [0, 1, 2, 3, 8, 9, 10, 11, 12, 13, 14, 15, 16, 17] ?_
 | refine aw_sregK 13 [0, 1, 2, 3, 8, 9, 10, 11, 12, 13, 14, 15, 16, 17, 57] ?_
 | refine aw_sregK 14 [0, 1, 2, 3, 8, 9, 10, 11, 12, 13, 14, 15, 16, 17, 57] ?_
 | refine aw_sregK 15 [0, 1, 2, 3, 8, 9, 10, 11, 12, 13, 14, 15, 16, 17, 57] ?_
 | refine aw_regK 16 [0, 1, 2, 3, 8, 9, 10, 11, 12, 13, 14, 15, 16, 17, 57] ?_
 | refine aw_sregK 18 [0, 1, 2, 3, 8, 9, 10, 11, 12, 13, 14, 15, 16, 17, 57] ?_
 | refine aw_sregK 19 [0, 1, 2, 3, 8, 9, 10, 11, 12, 13, 14, 15, 16, 17, 57] ?_
 | refine aw_regK 20 [0, 1, 2, 3, 8, 9, 10, 11, 12, 13, 14, 15, 16, 17, 57] ?_
 | refine aw_sregK 30 [0, 1, 2, 3, 8, 9, 10, 11, 12, 13, 14, 15, 16, 17, 57] ?_
 | refine aw_regK 31 [0, 1, 2, 3, 8, 9, 10, 11, 12, 13, 14, 15, 16, 17, 57] ?_
 | refine aw_sregK 33 [0, 1, 2, 3, 8, 9, 10, 11, 12, 13, 14, 15, 16, 17, 57] ?_
 | refine aw_sregK 47 [0, 1, 2, 3, 8, 9, 10, 11, 12, 13, 57] ?_
 | refine aw_regKD mixed 49 [0, 1, 2, 3, 8, 9, 10, 11, 12, 13] (by simp; exact rfl) ?_
 | refine aw_ifT (b := true) rfl rfl ?_
 | refine aw_ifF (b := false) rfl rfl ?_
 | refine aw_seq ?_
 | refine aw_block ?_
 | refine aw_skip ?_)
set_option maxHeartbeats 16000000 in
theorem c_r8_fence12 {c : Code} {Q : Exit → AState → Prop} {th : List In} {locs : Int} {vals : List Int} {lucks : List Bool} {Z : Rn} (hcode : loopAt Tryz.f59 0 = some c) (hret : ∀ s, retL Tryz.prog Tryz.f59.results.toList (.agg (trL Z)) [] .ret s → Q .ret s)
    (l1 : 1 ≤ locs) (l3 : locs ≤ 3) (h8 : th.length ≤ 8) (hv : vals.length ≤ 40) (hu : lucks.length ≤ 40) (i : I69 th locs vals lucks Z) (hlt : i.1.1 < th.length) (hmx : mayI th[i.1.1] (th.length - 1 - (i.1.1 : Int)) locs = true) (hop : th[i.1.1].op = 12) :
    AW Tryz.prog c (loopQ H69 (fun p : I69 th locs vals lucks Z => th.length - p.1.1) i Q) (H69 i) := by
  cases hcode
  obtain ⟨⟨n, R⟩, hn, hI, hsk, hmo, hq⟩ := i
  dsimp only at hn hI hsk hmo hq hlt hmx hop
  simp only [H69]
  have hle := hI.es
  have hok : R.Ok := hI.ok (by omega)
  obtain ⟨hv0, hvn⟩ := hI.nv
  obtain ⟨nl0, nln⟩ := hI.nl
  have hc : (n : Int) < (th.length : Int) := by omega
  have hw : IntKind.wrap .i64 ((n : Int) + 1) = (n : Int) + 1 := wrap64s (by omega) (by omega)
  rw [List.drop_eq_getElem_cons hlt, runL, if_pos hmo] at hq
  generalize hx : th[n] = x at *
  have hr1 : R.run1 x locs vals lucks = R.step x locs vals lucks := by unfold Rn.run1; rw [if_neg (by omega)]
  rw [hr1] at hq
  have hI2 := step_inv (lucks := lucks) (vals := vals) hI hmx (by omega)
  have hPq := c_r7PlaceR (R := R) (x := x) (locs := locs) l1 l3
  simp only [inL, hop] at hPq
  have hGb := c_r7GetR (R := R) (n := x.b)
  rw [step_is.2.2.2.2.1 (by omega)] at hq hI2
  have hF := c_r8fence (x := x)
  obtain ⟨q, hq1, hq2, hq3⟩ := fence_k hmx (by omega)
  have hFk : (if x.op = 12 then (6 : Int) else IntKind.wrap .i64 (3 + x.m)) = q := by rw [← hq1]; rw [if_pos hop, if_neg (by omega)]
  rw [hFk] at hF
  simp only [inL, hop] at hF
  have efn : R.fence x = R.event ⟨0, q, 0, 0, false, false, false⟩ 0 0 (-1) := by unfold Rn.fence; rw [hq1]
  rw [efn] at hq hI2
  have hW : SC Tryz.prog 87 [.agg (trL R), .agg (evL ⟨0, q, 0, 0, false, false, false⟩), I .u32 0, I .u32 0, I .u32 R.ctrl, I .i64 (-1)] (.agg (trL (Rn.event R ⟨0, q, 0, 0, false, false, false⟩ 0 0 (-1)))) := c_with hok
  have hsk2 : (Rn.event R ⟨0, q, 0, 0, false, false, false⟩ 0 0 (-1)).skip = 0 := hsk
  have hmo2 : (Rn.event R ⟨0, q, 0, 0, false, false, false⟩ 0 0 (-1)).more = 0 := hmo
  repeat' (first
 | refine ar_end rfl ?_
 | refine ar_finD rfl (by kernel_rfl) ?_
 | refine ar_callV Tryz.call84 hPq rfl rfl rfl rfl rfl (by simp; done) (by rfl) (by simp; done) ?_
 | refine ar_callV Tryz.call85 hGb rfl rfl rfl rfl rfl (by simp; done) (by rfl) (by simp; done) ?_
 | refine ar_callV Tryz.call90 hF rfl rfl rfl rfl rfl (by simp; done) (by rfl) (by simp; done) ?_
 | refine ar_callV Tryz.call87 hW rfl rfl rfl rfl rfl (by simp; done) (by rfl) (by simp; done) ?_
 | refine bq_norm ?_
 | refine lq_normN [0, 1, 2, 3, 8, 9, 10, 11, 12] [.loc 8, .loc 9] (by simp; exact rfl) ⟨(n + 1, Rn.event R ⟨0, q, 0, 0, false, false, false⟩ 0 0 (-1)), by dsimp only; omega, hI2, hsk2, hmo2, hq⟩ (by dsimp only; omega) (by simp [H69, Rn.event])
 | refine ar_go3 _ rfl (by simp [insL_len, insL_getE, inL, ints_len, ints_getE, bls_len, bls_getE, evsL_len, evsL_getE, evL, u32s_len, hc, hlt, hx, hw, hop]; exact ⟨rfl, rfl, rfl⟩) rfl ?_
 | refine aw_sregK 7 [0, 1, 2, 3, 8, 9, 10, 11, 12] ?_
 | refine aw_sregK 8 [0, 1, 2, 3, 8, 9, 10, 11, 12] ?_
 | refine aw_sregK 9 [0, 1, 2, 3, 8, 9, 10, 11, 12, 13] ?_
 | refine aw_sregK 10 [0, 1, 2, 3, 8, 9, 10, 11, 12, 13] ?_
 | refine aw_sregK 11 [0, 1, 2, 3, 8, 9, 10, 11, 12, 13, 14, 15] ?_
 | refine aw_sregK 12 [0, 1, 2, 3, 8, 9, 10, 11, 12, 13, 14, 15, 16, 17] ?_
 | refine aw_sregK 13 [0, 1, 2, 3, 8, 9, 10, 11, 12, 13, 14, 15, 16, 17, 57] ?_
 | refine aw_sregK 14 [0, 1, 2, 3, 8, 9, 10, 11, 12, 13, 14, 15, 16, 17, 57] ?_
 | refine aw_sregK 15 [0, 1, 2, 3, 8, 9, 10, 11, 12, 13, 14, 15, 16, 17, 57] ?_
 | refine aw_regK 16 [0, 1, 2, 3, 8, 9, 10, 11, 12, 13, 14, 15, 16, 17, 57] ?_
 | refine aw_sregK 18 [0, 1, 2, 3, 8, 9, 10, 11, 12, 13, 14, 15, 16, 17, 57] ?_
 | refine aw_sregK 19 [0, 1, 2, 3, 8, 9, 10, 11, 12, 13, 14, 15, 16, 17, 57] ?_
 | refine aw_regK 20 [0, 1, 2, 3, 8, 9, 10, 11, 12, 13, 14, 15, 16, 17, 57] ?_
 | refine aw_sregK 30 [0, 1, 2, 3, 8, 9, 10, 11, 12, 13, 14, 15, 16, 17, 57] ?_
 | refine aw_regK 31 [0, 1, 2, 3, 8, 9, 10, 11, 12, 13, 14, 15, 16, 17, 57] ?_
 | refine aw_sregK 33 [0, 1, 2, 3, 8, 9, 10, 11, 12, 13, 14, 15, 16, 17, 57] ?_
 | refine aw_sregK 47 [0, 1, 2, 3, 8, 9, 10, 11, 12, 13, 57] ?_
 | refine aw_regK 48 [0, 1, 2, 3, 8, 9, 10, 11, 12, 13, 57] ?_
 | refine aw_regKD mixed 49 [0, 1, 2, 3, 8, 9, 10, 11, 12, 13] (by simp; exact rfl) ?_
 | refine aw_ifT (b := true) rfl rfl ?_
 | refine aw_ifF (b := false) rfl rfl ?_
 | refine aw_seq ?_
 | refine aw_block ?_
 | refine aw_skip ?_)
end Go.Eng
