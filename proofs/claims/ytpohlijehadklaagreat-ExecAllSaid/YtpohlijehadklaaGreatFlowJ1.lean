import Derived.Test.YtpohlijehadklaaGreatFlowI
import Derived.Test.YtpohlijehadklaaGreatFlowG
set_option linter.unusedSimpArgs false
set_option linter.unusedVariables false
set_option linter.constructorNameAsVariable false
set_option autoImplicit false
namespace Go.Eng
open Go Go.RowKit Go.Proofs
def Rn.fill (Q R : Rn) : Rn := { Q with es := R.es, ad := R.ad, da := R.da, ct := R.ct, pa := R.pa, nv := R.nv, nl := R.nl, more := R.more, ctrl := R.ctrl, last := R.last, skip := R.skip }
def Rn.ctl (R : Rn) (c s : Int) : Rn := { R with ctrl := c, skip := s }
abbrev I69 (th : List In) (locs : Int) (vals : List Int) (lucks : List Bool) (Z : Rn) : Type := {p : Nat × Rn // p.1 ≤ th.length ∧ RnI p.2 vals lucks p.1 ∧ p.2.skip = 0 ∧ p.2.more = 0 ∧ runL locs vals lucks p.2 (th.drop p.1) = Z}
def H69 {th : List In} {locs : Int} {vals : List Int} {lucks : List Bool} {Z : Rn} (p : I69 th locs vals lucks Z) : AState := ⟨246, [(0, .pv (.sl 6 (insL th))), (1, I .i64 locs), (2, .pv (.sl 1 (ints vals))), (3, .pv (.sl 1 (bls lucks))), (8, .ptr (.loc 8) 0), (9, .ptr (.loc 9) 0), (10, I .u32 p.1.2.ctrl), (11, I .i64 p.1.2.last), (12, I .i64 p.1.1)], [(.loc 8, some (.box 72 [.pv (.v (.slice none 0 0)), .pv (.v (.slice none 0 0)), .pv (.v (.slice none 0 0)), .pv (.v (.slice none 0 0)), .pv (.v (.slice none 0 0)), I .i64 0, I .i64 0, I .i64 0, I .i64 0, I .u32 0, I .u32 0, I .u32 0, I .u32 0, I .i64 0, I .i64 0, I .i64 0])), (.loc 9, some (.box 72 [.pv (.sl 7 (evsL p.1.2.es)), .pv (.sl 1 (u32s p.1.2.ad)), .pv (.sl 1 (u32s p.1.2.da)), .pv (.sl 1 (u32s p.1.2.ct)), .pv (.sl 1 (ints p.1.2.pa)), I .i64 p.1.2.v0, I .i64 p.1.2.v1, I .i64 p.1.2.v2, I .i64 p.1.2.v3, I .u32 p.1.2.d0, I .u32 p.1.2.d1, I .u32 p.1.2.d2, I .u32 p.1.2.d3, I .i64 p.1.2.nv, I .i64 p.1.2.nl, I .i64 p.1.2.more]))]⟩
theorem runL_skips {locs : Int} {vals : List Int} {lucks : List Bool} {R : Rn} (h0 : R.more = 0) : ∀ (k : Nat) (l : List In), k ≤ l.length → runL locs vals lucks { R with skip := k } l = runL locs vals lucks { R with skip := 0 } (l.drop k)
  | 0, l, _ => by simp
  | k + 1, [], h => by simp at h
  | k + 1, x :: l, h => by
    rw [runL, if_pos h0]
    have e : Rn.run1 { R with skip := ((k + 1 : Nat) : Int) } x locs vals lucks = { R with skip := (k : Int) } := by
      unfold Rn.run1 Rn.skip1
      rw [if_pos (by show (0 : Int) < ((k + 1 : Nat) : Int); omega)]
      have : ((k + 1 : Nat) : Int) - 1 = (k : Int) := by omega
      simp only [this]
    rw [e, runL_skips h0 k l (by simpa using h), List.drop_succ_cons]
theorem runL_skipc {locs : Int} {vals : List Int} {lucks : List Bool} {R : Rn} {c : Int} (h0 : R.more = 0) (k : Nat) (l : List In) (hk : k ≤ l.length) : runL locs vals lucks (R.ctl c k) l = runL locs vals lucks (R.ctl c 0) (l.drop k) :=
  runL_skips (R := R.ctl c 0) h0 k l hk
set_option maxHeartbeats 16000000 in
theorem c_r8Run0 {th : List In} {locs : Int} {vals : List Int} {lucks : List Bool} (hw : W64 locs) (hm : mayB locs th = false) : SC Tryz.prog 59 [.pv (.sl 6 (insL th)), I .i64 locs, .pv (.sl 1 (ints vals)), .pv (.sl 1 (bls lucks))] (.agg (trL (runF th locs vals lucks))) := by
  have h : SC Tryz.prog 59 [.pv (.sl 6 (insL th)), I .i64 locs, .pv (.sl 1 (ints vals)), .pv (.sl 1 (bls lucks))] (.agg [.v (.slice none 0 0), .v (.slice none 0 0), .v (.slice none 0 0), .v (.slice none 0 0), .v (.slice none 0 0), C .i64 0, C .i64 0, C .i64 0, C .i64 0, C .u32 0, C .u32 0, C .u32 0, C .u32 0, C .i64 0, C .i64 0, C .i64 0]) := by
    have hM := c_mayR (th := th) hw
    refine scx_of Tryz.func59 rfl rfl rfl (Nat.le_of_ble_eq_true rfl) ?_
    repeat' (first
 | exact aw_ret (ret_vals (by simp; exact rfl) (by simp [*]; fail_if_success (show _)))
 | refine ar_end rfl ?_
 | refine ar_callV Tryz.call83 hM rfl rfl rfl rfl rfl (by simp; done) (by rfl) (by simp; done) ?_
 | refine ar_go3 _ rfl (by simp [insL_len, insL_getE, inL, ints_len, ints_getE, bls_len, bls_getE, evsL_len, evsL_getE, evL, u32s_len, hm]; exact ⟨rfl, rfl, rfl⟩) rfl ?_
 | refine aw_sregK 0 [0, 1, 2, 3] ?_
 | refine aw_sregK 1 [0, 1, 2, 3, 8] ?_
 | refine aw_sregK 2 [0, 1, 2, 3, 8, 9] ?_
 | refine aw_sregK 3 [8, 9] ?_
 | refine aw_ifT (b := true) rfl rfl ?_
 | refine aw_seq ?_)
  refine h.post fun ρ w v hv => ?_
  have e : runF th locs vals lucks = Rn0 := by simp [runF, hm]
  rw [e]
  obtain ⟨vs, e1, v1, vs1, e2, h1, v2, vs2, e3, h2, v3, vs3, e4, h3, v4, vs4, e5, h4, v5, vs5, e6, h5, h6⟩ := hv
  exact ⟨vs, e1, v1, vs1, e2, nil_rel h1, v2, vs2, e3, nil_rel h2, v3, vs3, e4, nil_rel h3, v4, vs4, e5, nil_rel h4, v5, vs5, e6, nil_rel h5, h6⟩
theorem step_is {R : Rn} {x : In} {locs : Int} {vals : List Int} {lucks : List Bool} :
    ((x.op = 1 ∨ x.op = 2 ∨ x.op = 3 ∨ x.op = 4) → R.step x locs vals lucks = R.alone x) ∧
    ((x.op = 5 ∨ x.op = 7 ∨ x.op = 9) → R.step x locs vals lucks = if h : R.nv.toNat < vals.length then R.load x locs vals[R.nv.toNat] else { R with more := 1 }) ∧
    ((x.op = 6 ∨ x.op = 8) → R.step x locs vals lucks = R.store x locs (-1)) ∧
    (x.op = 10 → R.step x locs vals lucks = R.exclF x locs lucks) ∧
    ((x.op = 11 ∨ x.op = 12) → R.step x locs vals lucks = R.fence x) ∧
    ((x.op = 13 ∨ x.op = 14) → R.step x locs vals lucks = R.branch x) := by
  refine ⟨fun h => ?_, fun h => ?_, fun h => ?_, fun h => ?_, fun h => ?_, fun h => ?_⟩ <;> unfold Rn.step
  · rw [if_neg (by rw [kind1]; omega), if_neg (by omega), if_neg (by rw [kind2]; omega), if_neg (by omega), if_neg (by omega)]
  · rw [if_pos (by rw [kind1]; omega)]
  · rw [if_neg (by rw [kind1]; omega), if_neg (by omega), if_pos (by rw [kind2]; omega)]
  · rw [if_neg (by rw [kind1]; omega), if_pos h]
  · rw [if_neg (by rw [kind1]; omega), if_neg (by omega), if_neg (by rw [kind2]; omega), if_pos h]
  · rw [if_neg (by rw [kind1]; omega), if_neg (by omega), if_neg (by rw [kind2]; omega), if_neg (by omega), if_pos h]
set_option maxHeartbeats 16000000 in
theorem c_r8_alone1 {c : Code} {Q : Exit → AState → Prop} {th : List In} {locs : Int} {vals : List Int} {lucks : List Bool} {Z : Rn} (hcode : loopAt Tryz.f59 0 = some c) (hret : ∀ s, retL Tryz.prog Tryz.f59.results.toList (.agg (trL Z)) [] .ret s → Q .ret s)
    (l1 : 1 ≤ locs) (l3 : locs ≤ 3) (h8 : th.length ≤ 8) (hv : vals.length ≤ 40) (hu : lucks.length ≤ 40) (i : I69 th locs vals lucks Z) (hlt : i.1.1 < th.length) (hmx : mayI th[i.1.1] (th.length - 1 - (i.1.1 : Int)) locs = true) (hop : th[i.1.1].op = 1) :
    AW Tryz.prog c (loopQ H69 (fun p : I69 th locs vals lucks Z => th.length - p.1.1) i Q) (H69 i) := by
  cases hcode
  obtain ⟨⟨n, R⟩, hn, hI, hsk, hmo, hq⟩ := i
  dsimp only at hn hI hsk hmo hq hlt hmx hop
  simp only [H69]
  have hle := hI.es
  have hok : R.Ok := hI.ok (by omega)
  obtain ⟨hv0, hvn⟩ := hI.nv
  obtain ⟨nl0, nln⟩ := hI.nl
  have hc : (n : Int) < (th.length : Int) := by omega
  have hw : IntKind.wrap .i64 ((n : Int) + 1) = (n : Int) + 1 := wrap64s (by omega) (by omega)
  rw [List.drop_eq_getElem_cons hlt, runL, if_pos hmo] at hq
  generalize hx : th[n] = x at *
  have hr1 : R.run1 x locs vals lucks = R.step x locs vals lucks := by unfold Rn.run1; rw [if_neg (by omega)]
  rw [hr1] at hq
  have hI2 := step_inv (lucks := lucks) (vals := vals) hI hmx (by omega)
  have hPq := c_r7PlaceR (R := R) (x := x) (locs := locs) l1 l3
  simp only [inL, hop] at hPq
  have hGb := c_r7GetR (R := R) (n := x.b)
  rw [step_is.1 (by omega)] at hq hI2
  have hD := c_r7DoR (R := R) (x := x) (by omega)
  simp only [inL, hop] at hD
  have eta : Rn.fill (R.alone x) R = R.alone x := alone_eta R x
  generalize R.alone x = Q at hD eta hq hI2
  rw [← eta] at hq hI2
  have hsk2 : (Rn.fill Q R).skip = 0 := hsk
  have hmo2 : (Rn.fill Q R).more = 0 := hmo
  repeat' (first
 | refine ar_end rfl ?_
 | refine ar_fin rfl ?_
 | refine ar_callV Tryz.call84 hPq rfl rfl rfl rfl rfl (by simp; done) (by rfl) (by simp; done) ?_
 | refine ar_callV Tryz.call85 hGb rfl rfl rfl rfl rfl (by simp; done) (by rfl) (by simp; done) ?_
 | refine ar_callV Tryz.call86 hD rfl rfl rfl rfl rfl (by simp; done) (by rfl) (by simp; done) ?_
 | refine bq_norm ?_
 | refine lq_normN [0, 1, 2, 3, 8, 9, 10, 11, 12] [.loc 8, .loc 9] (by simp; exact rfl) ⟨(n + 1, Rn.fill Q R), by dsimp only; omega, hI2, hsk2, hmo2, hq⟩ (by dsimp only; omega) (by simp [H69, Rn.fill])
 | refine ar_go3 _ rfl (by simp [insL_len, insL_getE, inL, ints_len, ints_getE, bls_len, bls_getE, evsL_len, evsL_getE, evL, u32s_len, hc, hlt, hx, hw, hop]; exact ⟨rfl, rfl, rfl⟩) rfl ?_
 | refine aw_sregK 7 [0, 1, 2, 3, 8, 9, 10, 11, 12] ?_
 | refine aw_sregK 8 [0, 1, 2, 3, 8, 9, 10, 11, 12] ?_
 | refine aw_sregK 9 [0, 1, 2, 3, 8, 9, 10, 11, 12, 13] ?_
 | refine aw_sregK 10 [0, 1, 2, 3, 8, 9, 10, 11, 12, 13] ?_
 | refine aw_sregK 11 [0, 1, 2, 3, 8, 9, 10, 11, 12, 13, 14, 15] ?_
 | refine aw_sregK 12 [0, 1, 2, 3, 8, 9, 10, 11, 12, 13, 14, 15, 16, 17] ?_
 | refine aw_sregK 13 [0, 1, 2, 3, 8, 9, 10, 11, 12, 13, 14, 15, 16, 17, 57] ?_
 | refine aw_regK 17 [0, 1, 2, 3, 8, 9, 10, 11, 12, 13] ?_
 | refine aw_ifT (b := true) rfl rfl ?_
 | refine aw_seq ?_
 | refine aw_block ?_
 | refine aw_skip ?_)
set_option maxHeartbeats 16000000 in
theorem c_r8_alone2 {c : Code} {Q : Exit → AState → Prop} {th : List In} {locs : Int} {vals : List Int} {lucks : List Bool} {Z : Rn} (hcode : loopAt Tryz.f59 0 = some c) (hret : ∀ s, retL Tryz.prog Tryz.f59.results.toList (.agg (trL Z)) [] .ret s → Q .ret s)
    (l1 : 1 ≤ locs) (l3 : locs ≤ 3) (h8 : th.length ≤ 8) (hv : vals.length ≤ 40) (hu : lucks.length ≤ 40) (i : I69 th locs vals lucks Z) (hlt : i.1.1 < th.length) (hmx : mayI th[i.1.1] (th.length - 1 - (i.1.1 : Int)) locs = true) (hop : th[i.1.1].op = 2) :
    AW Tryz.prog c (loopQ H69 (fun p : I69 th locs vals lucks Z => th.length - p.1.1) i Q) (H69 i) := by
  cases hcode
  obtain ⟨⟨n, R⟩, hn, hI, hsk, hmo, hq⟩ := i
  dsimp only at hn hI hsk hmo hq hlt hmx hop
  simp only [H69]
  have hle := hI.es
  have hok : R.Ok := hI.ok (by omega)
  obtain ⟨hv0, hvn⟩ := hI.nv
  obtain ⟨nl0, nln⟩ := hI.nl
  have hc : (n : Int) < (th.length : Int) := by omega
  have hw : IntKind.wrap .i64 ((n : Int) + 1) = (n : Int) + 1 := wrap64s (by omega) (by omega)
  rw [List.drop_eq_getElem_cons hlt, runL, if_pos hmo] at hq
  generalize hx : th[n] = x at *
  have hr1 : R.run1 x locs vals lucks = R.step x locs vals lucks := by unfold Rn.run1; rw [if_neg (by omega)]
  rw [hr1] at hq
  have hI2 := step_inv (lucks := lucks) (vals := vals) hI hmx (by omega)
  have hPq := c_r7PlaceR (R := R) (x := x) (locs := locs) l1 l3
  simp only [inL, hop] at hPq
  have hGb := c_r7GetR (R := R) (n := x.b)
  rw [step_is.1 (by omega)] at hq hI2
  have hD := c_r7DoR (R := R) (x := x) (by omega)
  simp only [inL, hop] at hD
  have eta : Rn.fill (R.alone x) R = R.alone x := alone_eta R x
  generalize R.alone x = Q at hD eta hq hI2
  rw [← eta] at hq hI2
  have hsk2 : (Rn.fill Q R).skip = 0 := hsk
  have hmo2 : (Rn.fill Q R).more = 0 := hmo
  repeat' (first
 | refine ar_end rfl ?_
 | refine ar_fin rfl ?_
 | refine ar_callV Tryz.call84 hPq rfl rfl rfl rfl rfl (by simp; done) (by rfl) (by simp; done) ?_
 | refine ar_callV Tryz.call85 hGb rfl rfl rfl rfl rfl (by simp; done) (by rfl) (by simp; done) ?_
 | refine ar_callV Tryz.call86 hD rfl rfl rfl rfl rfl (by simp; done) (by rfl) (by simp; done) ?_
 | refine bq_norm ?_
 | refine lq_normN [0, 1, 2, 3, 8, 9, 10, 11, 12] [.loc 8, .loc 9] (by simp; exact rfl) ⟨(n + 1, Rn.fill Q R), by dsimp only; omega, hI2, hsk2, hmo2, hq⟩ (by dsimp only; omega) (by simp [H69, Rn.fill])
 | refine ar_go3 _ rfl (by simp [insL_len, insL_getE, inL, ints_len, ints_getE, bls_len, bls_getE, evsL_len, evsL_getE, evL, u32s_len, hc, hlt, hx, hw, hop]; exact ⟨rfl, rfl, rfl⟩) rfl ?_
 | refine aw_sregK 7 [0, 1, 2, 3, 8, 9, 10, 11, 12] ?_
 | refine aw_sregK 8 [0, 1, 2, 3, 8, 9, 10, 11, 12] ?_
 | refine aw_sregK 9 [0, 1, 2, 3, 8, 9, 10, 11, 12, 13] ?_
 | refine aw_sregK 10 [0, 1, 2, 3, 8, 9, 10, 11, 12, 13] ?_
 | refine aw_sregK 11 [0, 1, 2, 3, 8, 9, 10, 11, 12, 13, 14, 15] ?_
 | refine aw_sregK 12 [0, 1, 2, 3, 8, 9, 10, 11, 12, 13, 14, 15, 16, 17] ?_
 | refine aw_sregK 13 [0, 1, 2, 3, 8, 9, 10, 11, 12, 13, 14, 15, 16, 17, 57] ?_
 | refine aw_sregK 14 [0, 1, 2, 3, 8, 9, 10, 11, 12, 13, 14, 15, 16, 17, 57] ?_
 | refine aw_regK 17 [0, 1, 2, 3, 8, 9, 10, 11, 12, 13] ?_
 | refine aw_ifT (b := true) rfl rfl ?_
 | refine aw_ifF (b := false) rfl rfl ?_
 | refine aw_seq ?_
 | refine aw_block ?_
 | refine aw_skip ?_)
set_option maxHeartbeats 16000000 in
theorem c_r8_alone3 {c : Code} {Q : Exit → AState → Prop} {th : List In} {locs : Int} {vals : List Int} {lucks : List Bool} {Z : Rn} (hcode : loopAt Tryz.f59 0 = some c) (hret : ∀ s, retL Tryz.prog Tryz.f59.results.toList (.agg (trL Z)) [] .ret s → Q .ret s)
    (l1 : 1 ≤ locs) (l3 : locs ≤ 3) (h8 : th.length ≤ 8) (hv : vals.length ≤ 40) (hu : lucks.length ≤ 40) (i : I69 th locs vals lucks Z) (hlt : i.1.1 < th.length) (hmx : mayI th[i.1.1] (th.length - 1 - (i.1.1 : Int)) locs = true) (hop : th[i.1.1].op = 3) :
    AW Tryz.prog c (loopQ H69 (fun p : I69 th locs vals lucks Z => th.length - p.1.1) i Q) (H69 i) := by
  cases hcode
  obtain ⟨⟨n, R⟩, hn, hI, hsk, hmo, hq⟩ := i
  dsimp only at hn hI hsk hmo hq hlt hmx hop
  simp only [H69]
  have hle := hI.es
  have hok : R.Ok := hI.ok (by omega)
  obtain ⟨hv0, hvn⟩ := hI.nv
  obtain ⟨nl0, nln⟩ := hI.nl
  have hc : (n : Int) < (th.length : Int) := by omega
  have hw : IntKind.wrap .i64 ((n : Int) + 1) = (n : Int) + 1 := wrap64s (by omega) (by omega)
  rw [List.drop_eq_getElem_cons hlt, runL, if_pos hmo] at hq
  generalize hx : th[n] = x at *
  have hr1 : R.run1 x locs vals lucks = R.step x locs vals lucks := by unfold Rn.run1; rw [if_neg (by omega)]
  rw [hr1] at hq
  have hI2 := step_inv (lucks := lucks) (vals := vals) hI hmx (by omega)
  have hPq := c_r7PlaceR (R := R) (x := x) (locs := locs) l1 l3
  simp only [inL, hop] at hPq
  have hGb := c_r7GetR (R := R) (n := x.b)
  rw [step_is.1 (by omega)] at hq hI2
  have hD := c_r7DoR (R := R) (x := x) (by omega)
  simp only [inL, hop] at hD
  have eta : Rn.fill (R.alone x) R = R.alone x := alone_eta R x
  generalize R.alone x = Q at hD eta hq hI2
  rw [← eta] at hq hI2
  have hsk2 : (Rn.fill Q R).skip = 0 := hsk
  have hmo2 : (Rn.fill Q R).more = 0 := hmo
  repeat' (first
 | refine ar_end rfl ?_
 | refine ar_fin rfl ?_
 | refine ar_callV Tryz.call84 hPq rfl rfl rfl rfl rfl (by simp; done) (by rfl) (by simp; done) ?_
 | refine ar_callV Tryz.call85 hGb rfl rfl rfl rfl rfl (by simp; done) (by rfl) (by simp; done) ?_
 | refine ar_callV Tryz.call86 hD rfl rfl rfl rfl rfl (by simp; done) (by rfl) (by simp; done) ?_
 | refine bq_norm ?_
 | refine lq_normN [0, 1, 2, 3, 8, 9, 10, 11, 12] [.loc 8, .loc 9] (by simp; exact rfl) ⟨(n + 1, Rn.fill Q R), by dsimp only; omega, hI2, hsk2, hmo2, hq⟩ (by dsimp only; omega) (by simp [H69, Rn.fill])
 | refine ar_go3 _ rfl (by simp [insL_len, insL_getE, inL, ints_len, ints_getE, bls_len, bls_getE, evsL_len, evsL_getE, evL, u32s_len, hc, hlt, hx, hw, hop]; exact ⟨rfl, rfl, rfl⟩) rfl ?_
 | refine aw_sregK 7 [0, 1, 2, 3, 8, 9, 10, 11, 12] ?_
 | refine aw_sregK 8 [0, 1, 2, 3, 8, 9, 10, 11, 12] ?_
 | refine aw_sregK 9 [0, 1, 2, 3, 8, 9, 10, 11, 12, 13] ?_
 | refine aw_sregK 10 [0, 1, 2, 3, 8, 9, 10, 11, 12, 13] ?_
 | refine aw_sregK 11 [0, 1, 2, 3, 8, 9, 10, 11, 12, 13, 14, 15] ?_
 | refine aw_sregK 12 [0, 1, 2, 3, 8, 9, 10, 11, 12, 13, 14, 15, 16, 17] ?_
 | refine aw_sregK 13 [0, 1, 2, 3, 8, 9, 10, 11, 12, 13, 14, 15, 16, 17, 57] ?_
 | refine aw_sregK 14 [0, 1, 2, 3, 8, 9, 10, 11, 12, 13, 14, 15, 16, 17, 57] ?_
 | refine aw_sregK 15 [0, 1, 2, 3, 8, 9, 10, 11, 12, 13, 14, 15, 16, 17, 57] ?_
 | refine aw_regK 17 [0, 1, 2, 3, 8, 9, 10, 11, 12, 13] ?_
 | refine aw_ifT (b := true) rfl rfl ?_
 | refine aw_ifF (b := false) rfl rfl ?_
 | refine aw_seq ?_
 | refine aw_block ?_
 | refine aw_skip ?_)
set_option maxHeartbeats 16000000 in
theorem c_r8_alone4 {c : Code} {Q : Exit → AState → Prop} {th : List In} {locs : Int} {vals : List Int} {lucks : List Bool} {Z : Rn} (hcode : loopAt Tryz.f59 0 = some c) (hret : ∀ s, retL Tryz.prog Tryz.f59.results.toList (.agg (trL Z)) [] .ret s → Q .ret s)
    (l1 : 1 ≤ locs) (l3 : locs ≤ 3) (h8 : th.length ≤ 8) (hv : vals.length ≤ 40) (hu : lucks.length ≤ 40) (i : I69 th locs vals lucks Z) (hlt : i.1.1 < th.length) (hmx : mayI th[i.1.1] (th.length - 1 - (i.1.1 : Int)) locs = true) (hop : th[i.1.1].op = 4) :
    AW Tryz.prog c (loopQ H69 (fun p : I69 th locs vals lucks Z => th.length - p.1.1) i Q) (H69 i) := by
  cases hcode
  obtain ⟨⟨n, R⟩, hn, hI, hsk, hmo, hq⟩ := i
  dsimp only at hn hI hsk hmo hq hlt hmx hop
  simp only [H69]
  have hle := hI.es
  have hok : R.Ok := hI.ok (by omega)
  obtain ⟨hv0, hvn⟩ := hI.nv
  obtain ⟨nl0, nln⟩ := hI.nl
  have hc : (n : Int) < (th.length : Int) := by omega
  have hw : IntKind.wrap .i64 ((n : Int) + 1) = (n : Int) + 1 := wrap64s (by omega) (by omega)
  rw [List.drop_eq_getElem_cons hlt, runL, if_pos hmo] at hq
  generalize hx : th[n] = x at *
  have hr1 : R.run1 x locs vals lucks = R.step x locs vals lucks := by unfold Rn.run1; rw [if_neg (by omega)]
  rw [hr1] at hq
  have hI2 := step_inv (lucks := lucks) (vals := vals) hI hmx (by omega)
  have hPq := c_r7PlaceR (R := R) (x := x) (locs := locs) l1 l3
  simp only [inL, hop] at hPq
  have hGb := c_r7GetR (R := R) (n := x.b)
  rw [step_is.1 (by omega)] at hq hI2
  have hD := c_r7DoR (R := R) (x := x) (by omega)
  simp only [inL, hop] at hD
  have eta : Rn.fill (R.alone x) R = R.alone x := alone_eta R x
  generalize R.alone x = Q at hD eta hq hI2
  rw [← eta] at hq hI2
  have hsk2 : (Rn.fill Q R).skip = 0 := hsk
  have hmo2 : (Rn.fill Q R).more = 0 := hmo
  repeat' (first
 | refine ar_end rfl ?_
 | refine ar_fin rfl ?_
 | refine ar_callV Tryz.call84 hPq rfl rfl rfl rfl rfl (by simp; done) (by rfl) (by simp; done) ?_
 | refine ar_callV Tryz.call85 hGb rfl rfl rfl rfl rfl (by simp; done) (by rfl) (by simp; done) ?_
 | refine ar_callV Tryz.call86 hD rfl rfl rfl rfl rfl (by simp; done) (by rfl) (by simp; done) ?_
 | refine bq_norm ?_
 | refine lq_normN [0, 1, 2, 3, 8, 9, 10, 11, 12] [.loc 8, .loc 9] (by simp; exact rfl) ⟨(n + 1, Rn.fill Q R), by dsimp only; omega, hI2, hsk2, hmo2, hq⟩ (by dsimp only; omega) (by simp [H69, Rn.fill])
 | refine ar_go3 _ rfl (by simp [insL_len, insL_getE, inL, ints_len, ints_getE, bls_len, bls_getE, evsL_len, evsL_getE, evL, u32s_len, hc, hlt, hx, hw, hop]; exact ⟨rfl, rfl, rfl⟩) rfl ?_
 | refine aw_sregK 7 [0, 1, 2, 3, 8, 9, 10, 11, 12] ?_
 | refine aw_sregK 8 [0, 1, 2, 3, 8, 9, 10, 11, 12] ?_
 | refine aw_sregK 9 [0, 1, 2, 3, 8, 9, 10, 11, 12, 13] ?_
 | refine aw_sregK 10 [0, 1, 2, 3, 8, 9, 10, 11, 12, 13] ?_
 | refine aw_sregK 11 [0, 1, 2, 3, 8, 9, 10, 11, 12, 13, 14, 15] ?_
 | refine aw_sregK 12 [0, 1, 2, 3, 8, 9, 10, 11, 12, 13, 14, 15, 16, 17] ?_
 | refine aw_sregK 13 [0, 1, 2, 3, 8, 9, 10, 11, 12, 13, 14, 15, 16, 17, 57] ?_
 | refine aw_sregK 14 [0, 1, 2, 3, 8, 9, 10, 11, 12, 13, 14, 15, 16, 17, 57] ?_
 | refine aw_sregK 15 [0, 1, 2, 3, 8, 9, 10, 11, 12, 13, 14, 15, 16, 17, 57] ?_
 | refine aw_regK 16 [0, 1, 2, 3, 8, 9, 10, 11, 12, 13, 14, 15, 16, 17, 57] ?_
 | refine aw_regK 17 [0, 1, 2, 3, 8, 9, 10, 11, 12, 13] ?_
 | refine aw_ifT (b := true) rfl rfl ?_
 | refine aw_ifF (b := false) rfl rfl ?_
 | refine aw_seq ?_
 | refine aw_block ?_
 | refine aw_skip ?_)
end Go.Eng
