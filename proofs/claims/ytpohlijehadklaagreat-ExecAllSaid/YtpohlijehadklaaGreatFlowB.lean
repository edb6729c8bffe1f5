import Derived.Test.YtpohlijehadklaaGreatFlowA
set_option linter.unusedSimpArgs false
set_option linter.unusedVariables false
set_option linter.constructorNameAsVariable false
set_option autoImplicit false
namespace Go.Eng
open Go Go.RowKit Go.Proofs
def bitAt (n : Nat) : Int := IntKind.wrap .u32 (2 ^ min n 32)
def Rn.load1 (R : Rn) (x : In) (locs v : Int) : Rn := Rn.event { R with nv := R.nv + 1 } ⟨0, 1, R.loc x locs, v, decide (x.op = 7), false, decide (x.op = 9)⟩ (R.adr x locs) 0 (-1)
def Rn.load (R : Rn) (x : In) (locs v : Int) : Rn := (if x.op = 9 then { R.load1 x locs v with last := R.es.length } else R.load1 x locs v).reg x.d v (bitAt R.es.length)
set_option maxHeartbeats 16000000 in
theorem c_rload_none {R : Rn} {x : In} {locs : Int} {vals : List Int} {lucks : List Bool} (h : R.nv = vals.length) : SCX Tryz.prog 71 [.ptr (.ext 0) 0, .agg (inL x)] (rnS R locs vals lucks) (.tup []) (rnS { R with more := 1 } locs vals lucks) := by
  refine scx_of Tryz.func71 rfl rfl rfl (Nat.le_of_ble_eq_true rfl) ?_
  repeat' (first
 | refine ar_end rfl ?_
 | refine ar_endD rfl (by kernel_rfl) ?_
 | exact aw_ret (ret_rens .ret (.inr rfl) [] [.ext 0, .ext 1, .ext 2, .ext 3, .ext 4, .ext 5] (by simp; exact rfl) (by simp; exact rfl) rfl (by simp [h]; fail_if_success (show _)) (by simp))
 | refine ar_go3 _ rfl (by simp [inL, h, ints_len]; exact ⟨rfl, rfl, rfl⟩) rfl ?_
 | refine aw_sregK 0 [0, 1] ?_
 | refine aw_sregKD mixed 1 [0, 3] (by simp; exact rfl) ?_
 | refine aw_sregK 2 [0] ?_
 | refine aw_ifT (b := true) rfl rfl ?_
 | refine aw_seq ?_)
set_option maxHeartbeats 16000000 in
theorem c_rload {R : Rn} {x : In} {locs : Int} {vals : List Int} {lucks : List Bool} (hR : R.Ok) (hl : locs ≤ 3) (h0 : 0 ≤ R.nv) (h : R.nv.toNat < vals.length) (hm : vals.length ≤ 100) : SCX Tryz.prog 71 [.ptr (.ext 0) 0, .agg (inL x)] (rnS R locs vals lucks) (.tup []) (rnS (R.load x locs vals[R.nv.toNat]) locs vals lucks) := by
  refine scx_of Tryz.func71 rfl rfl rfl (Nat.le_of_ble_eq_true rfl) ?_
  have hne : ¬R.nv = (vals.length : Int) := by omega
  have hw : IntKind.wrap .i64 (R.nv + 1) = R.nv + 1 := wrap64s (by omega) (by omega)
  have hP := c_PlaceR (R := R) (x := x) hl
  generalize hv : vals[R.nv.toNat] = v
  have hE := @c_event { R with nv := R.nv + 1 } ⟨0, 1, R.loc x locs, v, decide (x.op = 7), false, decide (x.op = 9)⟩ (R.adr x locs) 0 (-1) locs vals lucks ⟨hR.es, hR.ad, hR.da, hR.ct, hR.pa⟩
  change SCX Tryz.prog 97 _ _ _ (rnS (R.load1 x locs v) locs vals lucks) at hE
  unfold Rn.load
  generalize R.load1 x locs v = Q at *
  have hes := hR.es
  have wat : IntKind.wrap .u64 (R.es.length : Int) = (R.es.length : Int) := by simp [IntKind.wrap, IntKind.bits, IntKind.signed]; omega
  by_cases h9 : x.op = 9
  · rw [if_pos h9]
    have hS := @c_SetR { Q with last := (R.es.length : Int) } x.d v (bitAt R.es.length)
    repeat' (first
 | refine ar_end rfl ?_
 | refine ar_endD rfl (by kernel_rfl) ?_
 | refine ar_finD rfl (by kernel_rfl) ?_
 | refine ar_callV Tryz.call96 hP rfl rfl rfl rfl rfl (by simp; done) (by rfl) (by simp; done) ?_
 | refine ar_callV Tryz.call98 hS rfl rfl rfl rfl rfl (by simp; done) (by rfl) (by simp; done) ?_
 | refine ar_callE [.ext 0, .ext 1, .ext 2, .ext 3, .ext 4, .ext 5] [.ext 0, .loc 3001, .loc 3002, .loc 3003, .loc 3004, .loc 3005] [.loc 3001, .loc 3002, .loc 3003, .loc 3004, .loc 3005] Tryz.call97 hE rfl rfl rfl rfl (by simp; exact rfl) rfl (by simp; done) (by rfl) (by simp; fail_if_success (show _)) rfl ⟨by simp, by simp, (by simp [okY]; fail_if_success (show _)), by simp, by simp⟩ (by simp; fail_if_success (show _)) ?_
 | exact ret_rens .normal (.inl rfl) [(.loc 3001, .ext 1), (.loc 3002, .ext 2), (.loc 3003, .ext 3), (.loc 3004, .ext 4), (.loc 3005, .ext 5)] [.ext 0, .ext 1, .ext 2, .ext 3, .ext 4, .ext 5] (by simp; exact rfl) (by simp; exact rfl) rfl (by simp [Rn.reg]; fail_if_success (show _)) (by simp)
 | refine ar_go3 _ rfl (by simp [inL, hne, ints_len, ints_getE, h0, h, hv, hw, evsL_len, wat]; exact ⟨rfl, rfl, rfl⟩) rfl ?_
 | refine aw_sregK 0 [0, 1] ?_
 | refine aw_sregKD mixed 1 [0, 3] (by simp; exact rfl) ?_
 | refine aw_sregKD mixed 3 [0, 3] (by simp; exact rfl) ?_
 | refine aw_sregKD mixed 4 [0, 3, 4, 5] (by simp; exact rfl) ?_
 | refine aw_sregK 5 [0, 3, 4, 5, 6] ?_
 | refine aw_sregK 6 [0, 3, 4, 5, 6] ?_
 | refine aw_sregK 7 [0, 3, 4, 5, 6, 7] ?_
 | refine aw_sregK 8 [0, 3, 6, 7] ?_
 | refine aw_regK 9 [0, 3, 6, 7] ?_
 | refine aw_regKD mixed 10 [0, 3, 6, 7] (by simp; exact rfl) ?_
 | refine aw_ifF (b := false) rfl rfl ?_
 | refine aw_ifT rfl (decide_eq_true (by assumption)) ?_
 | refine aw_seq ?_
 | refine aw_skip ?_)
  · rw [if_neg h9]
    have hS := @c_SetR Q x.d v (bitAt R.es.length)
    repeat' (first
 | refine ar_end rfl ?_
 | refine ar_endD rfl (by kernel_rfl) ?_
 | refine ar_finD rfl (by kernel_rfl) ?_
 | refine ar_callV Tryz.call96 hP rfl rfl rfl rfl rfl (by simp; done) (by rfl) (by simp; done) ?_
 | refine ar_callV Tryz.call98 hS rfl rfl rfl rfl rfl (by simp; done) (by rfl) (by simp; done) ?_
 | refine ar_callE [.ext 0, .ext 1, .ext 2, .ext 3, .ext 4, .ext 5] [.ext 0, .loc 3001, .loc 3002, .loc 3003, .loc 3004, .loc 3005] [.loc 3001, .loc 3002, .loc 3003, .loc 3004, .loc 3005] Tryz.call97 hE rfl rfl rfl rfl (by simp; exact rfl) rfl (by simp; done) (by rfl) (by simp; fail_if_success (show _)) rfl ⟨by simp, by simp, (by simp [okY]; fail_if_success (show _)), by simp, by simp⟩ (by simp; fail_if_success (show _)) ?_
 | exact ret_rens .normal (.inl rfl) [(.loc 3001, .ext 1), (.loc 3002, .ext 2), (.loc 3003, .ext 3), (.loc 3004, .ext 4), (.loc 3005, .ext 5)] [.ext 0, .ext 1, .ext 2, .ext 3, .ext 4, .ext 5] (by simp; exact rfl) (by simp; exact rfl) rfl (by simp [Rn.reg]; fail_if_success (show _)) (by simp)
 | refine ar_go3 _ rfl (by simp [inL, hne, ints_len, ints_getE, h0, h, hv, hw, evsL_len, wat]; exact ⟨rfl, rfl, rfl⟩) rfl ?_
 | refine aw_sregK 0 [0, 1] ?_
 | refine aw_sregKD mixed 1 [0, 3] (by simp; exact rfl) ?_
 | refine aw_sregKD mixed 3 [0, 3] (by simp; exact rfl) ?_
 | refine aw_sregKD mixed 4 [0, 3, 4, 5] (by simp; exact rfl) ?_
 | refine aw_sregK 5 [0, 3, 4, 5, 6] ?_
 | refine aw_sregK 6 [0, 3, 4, 5, 6] ?_
 | refine aw_sregK 7 [0, 3, 4, 5, 6, 7] ?_
 | refine aw_sregK 8 [0, 3, 6, 7] ?_
 | refine aw_regKD mixed 10 [0, 3, 6, 7] (by simp; exact rfl) ?_
 | refine aw_ifF (b := false) rfl rfl ?_
 | refine aw_ifF rfl (decide_eq_false (by assumption)) ?_
 | refine aw_seq ?_
 | refine aw_skip ?_)
end Go.Eng
set_option linter.unusedSimpArgs false
set_option linter.unusedVariables false
set_option linter.constructorNameAsVariable false
set_option autoImplicit false
namespace Go.Eng
open Go Go.RowKit Go.Proofs
def Rn.excl0 (R : Rn) (x : In) : Rn := Rn.reg { R with last := -1 } x.d 1 0
def Rn.exclN (R : Rn) (x : In) : Rn := Rn.reg { R with last := -1, nl := R.nl + 1 } x.d 1 0
def Rn.exclY (R : Rn) (x : In) (locs : Int) : Rn := (Rn.store { R with last := -1, nl := R.nl + 1 } x locs R.last).reg x.d 0 0
set_option maxHeartbeats 16000000 in
theorem c_rexcl_neg {R : Rn} {x : In} {locs : Int} {vals : List Int} {lucks : List Bool} (hl : locs ≤ 3) (h : R.last < 0) : SCX Tryz.prog 72 [.ptr (.ext 0) 0, .agg (inL x)] (rnS R locs vals lucks) (.tup []) (rnS (R.excl0 x) locs vals lucks) := by
  refine scx_of Tryz.func72 rfl rfl rfl (Nat.le_of_ble_eq_true rfl) ?_
  have hP := c_PlaceR (R := R) (x := x) hl
  have hS := @c_SetR { R with last := -1 } x.d 1 0
  repeat' (first
 | refine ar_end rfl ?_
 | refine ar_endD rfl (by kernel_rfl) ?_
 | refine ar_callV Tryz.call96 hP rfl rfl rfl rfl rfl (by simp; done) (by rfl) (by simp; done) ?_
 | refine ar_callV Tryz.call98 hS rfl rfl rfl rfl rfl (by simp; done) (by rfl) (by simp; done) ?_
 | exact aw_ret (ret_rens .ret (.inr rfl) [] [.ext 0, .ext 1, .ext 2, .ext 3, .ext 4, .ext 5] (by simp; exact rfl) (by simp; exact rfl) rfl (by simp [Rn.excl0, Rn.reg]; fail_if_success (show _)) (by simp))
 | refine ar_go3 _ rfl (by simp [inL, evL, evsL_getE, evsL_len, bls_len, bls_getE, h]; exact ⟨rfl, rfl, rfl⟩) rfl ?_
 | refine aw_sregK 0 [0, 1] ?_
 | refine aw_sregKD mixed 1 [0, 3] (by simp; exact rfl) ?_
 | refine aw_sregK 2 [0, 3, 4] ?_
 | refine aw_sregK 3 [0, 3, 4, 6] ?_
 | refine aw_sregKD mixed 4 [0, 3, 6, 7] (by simp; exact rfl) ?_
 | refine aw_sregK 6 [0, 3, 6, 7] ?_
 | refine aw_sregK 7 [0, 3, 6, 7] ?_
 | refine aw_sregK 10 [0, 3, 6, 7] ?_
 | refine aw_sregKD mixed 11 [0, 3] (by simp; exact rfl) ?_
 | refine aw_ifT (b := true) rfl rfl ?_
 | refine aw_ifF (b := false) rfl rfl ?_
 | refine aw_seq ?_
 | refine aw_skip ?_)
set_option maxHeartbeats 16000000 in
theorem c_rexcl_far {R : Rn} {x : In} {locs : Int} {vals : List Int} {lucks : List Bool} (hl : locs ≤ 3) (h0 : 0 ≤ R.last) (h : R.last.toNat < R.es.length) (he : ¬(R.es[R.last.toNat]).l = R.loc x locs) : SCX Tryz.prog 72 [.ptr (.ext 0) 0, .agg (inL x)] (rnS R locs vals lucks) (.tup []) (rnS (R.excl0 x) locs vals lucks) := by
  refine scx_of Tryz.func72 rfl rfl rfl (Nat.le_of_ble_eq_true rfl) ?_
  have hP := c_PlaceR (R := R) (x := x) hl
  have hS := @c_SetR { R with last := -1 } x.d 1 0
  have hn : ¬R.last < 0 := by omega
  generalize hee : R.es[R.last.toNat] = e at he
  repeat' (first
 | refine ar_end rfl ?_
 | refine ar_endD rfl (by kernel_rfl) ?_
 | refine ar_callV Tryz.call96 hP rfl rfl rfl rfl rfl (by simp; done) (by rfl) (by simp; done) ?_
 | refine ar_callV Tryz.call98 hS rfl rfl rfl rfl rfl (by simp; done) (by rfl) (by simp; done) ?_
 | exact aw_ret (ret_rens .ret (.inr rfl) [] [.ext 0, .ext 1, .ext 2, .ext 3, .ext 4, .ext 5] (by simp; exact rfl) (by simp; exact rfl) rfl (by simp [Rn.excl0, Rn.reg]; fail_if_success (show _)) (by simp))
 | refine ar_go3 _ rfl (by simp [inL, evL, evsL_getE, evsL_len, bls_len, bls_getE, h, h0, hn, hee, he]; exact ⟨rfl, rfl, rfl⟩) rfl ?_
 | refine aw_sregK 0 [0, 1] ?_
 | refine aw_sregKD mixed 1 [0, 3] (by simp; exact rfl) ?_
 | refine aw_sregK 2 [0, 3, 4] ?_
 | refine aw_sregK 3 [0, 3, 4, 6] ?_
 | refine aw_sregKD mixed 4 [0, 3, 6, 7] (by simp; exact rfl) ?_
 | refine aw_sregK 6 [0, 3, 6, 7] ?_
 | refine aw_sregK 7 [0, 3, 6, 7] ?_
 | refine aw_sregK 10 [0, 3, 6, 7] ?_
 | refine aw_sregKD mixed 11 [0, 3] (by simp; exact rfl) ?_
 | refine aw_ifT (b := true) rfl rfl ?_
 | refine aw_ifF (b := false) rfl rfl ?_
 | refine aw_seq ?_
 | refine aw_skip ?_)
set_option maxHeartbeats 16000000 in
theorem c_rexcl_none {R : Rn} {x : In} {locs : Int} {vals : List Int} {lucks : List Bool} (hl : locs ≤ 3) (h0 : 0 ≤ R.last) (h : R.last.toNat < R.es.length) (he : (R.es[R.last.toNat]).l = R.loc x locs) (hk : R.nl = lucks.length) : SCX Tryz.prog 72 [.ptr (.ext 0) 0, .agg (inL x)] (rnS R locs vals lucks) (.tup []) (rnS { R with more := 2 } locs vals lucks) := by
  refine scx_of Tryz.func72 rfl rfl rfl (Nat.le_of_ble_eq_true rfl) ?_
  have hP := c_PlaceR (R := R) (x := x) hl
  have hn : ¬R.last < 0 := by omega
  generalize hee : R.es[R.last.toNat] = e at he
  have hd : decide (R.nl = (lucks.length : Int)) = true := decide_eq_true hk
  repeat' (first
 | refine ar_end rfl ?_
 | refine ar_endD rfl (by kernel_rfl) ?_
 | refine ar_callV Tryz.call96 hP rfl rfl rfl rfl rfl (by simp; done) (by rfl) (by simp; done) ?_
 | exact aw_ret (ret_rens .ret (.inr rfl) [] [.ext 0, .ext 1, .ext 2, .ext 3, .ext 4, .ext 5] (by simp; exact rfl) (by simp; exact rfl) rfl (by simp [hk]; fail_if_success (show _)) (by simp))
 | refine ar_go3 _ rfl (by simp [inL, evL, evsL_getE, evsL_len, bls_len, bls_getE, h, h0, hn, hee, he, hk]; exact ⟨rfl, rfl, rfl⟩) rfl ?_
 | refine aw_sregK 0 [0, 1] ?_
 | refine aw_sregKD mixed 1 [0, 3] (by simp; exact rfl) ?_
 | refine aw_sregK 2 [0, 3, 4] ?_
 | refine aw_sregK 3 [0, 3, 4, 6] ?_
 | refine aw_sregKD mixed 4 [0, 3, 6, 7] (by simp; exact rfl) ?_
 | refine aw_sregK 5 [0] ?_
 | refine aw_ifT (b := true) rfl rfl ?_
 | refine aw_seq ?_)
set_option maxHeartbeats 16000000 in
theorem c_rexcl_no {R : Rn} {x : In} {locs : Int} {vals : List Int} {lucks : List Bool} (hl : locs ≤ 3) (h0 : 0 ≤ R.last) (h : R.last.toNat < R.es.length) (he : (R.es[R.last.toNat]).l = R.loc x locs) (k0 : 0 ≤ R.nl) (hk : R.nl.toNat < lucks.length) (hm : lucks.length ≤ 100) (hb : lucks[R.nl.toNat] = false) : SCX Tryz.prog 72 [.ptr (.ext 0) 0, .agg (inL x)] (rnS R locs vals lucks) (.tup []) (rnS (R.exclN x) locs vals lucks) := by
  refine scx_of Tryz.func72 rfl rfl rfl (Nat.le_of_ble_eq_true rfl) ?_
  have hP := c_PlaceR (R := R) (x := x) hl
  have hS := @c_SetR { R with last := -1, nl := R.nl + 1 } x.d 1 0
  have hn : ¬R.last < 0 := by omega
  have hkn : ¬R.nl = (lucks.length : Int) := by omega
  have hw : IntKind.wrap .i64 (R.nl + 1) = R.nl + 1 := wrap64s (by omega) (by omega)
  generalize hee : R.es[R.last.toNat] = e at he
  repeat' (first
 | refine ar_end rfl ?_
 | refine ar_endD rfl (by kernel_rfl) ?_
 | refine ar_callV Tryz.call96 hP rfl rfl rfl rfl rfl (by simp; done) (by rfl) (by simp; done) ?_
 | refine ar_callV Tryz.call98 hS rfl rfl rfl rfl rfl (by simp; done) (by rfl) (by simp; done) ?_
 | exact aw_ret (ret_rens .ret (.inr rfl) [] [.ext 0, .ext 1, .ext 2, .ext 3, .ext 4, .ext 5] (by simp; exact rfl) (by simp; exact rfl) rfl (by simp [Rn.exclN, Rn.reg]; fail_if_success (show _)) (by simp))
 | refine ar_go3 _ rfl (by simp [inL, evL, evsL_getE, evsL_len, bls_len, bls_getE, h, h0, hn, hee, he, k0, hk, hkn, hb, hw]; exact ⟨rfl, rfl, rfl⟩) rfl ?_
 | refine aw_sregK 0 [0, 1] ?_
 | refine aw_sregKD mixed 1 [0, 3] (by simp; exact rfl) ?_
 | refine aw_sregK 2 [0, 3, 4] ?_
 | refine aw_sregK 3 [0, 3, 4, 6] ?_
 | refine aw_sregKD mixed 4 [0, 3, 6, 7] (by simp; exact rfl) ?_
 | refine aw_sregK 6 [0, 3, 6, 7] ?_
 | refine aw_sregK 7 [0, 3, 6, 7] ?_
 | refine aw_sregKD mixed 8 [0, 3, 6] (by simp; exact rfl) ?_
 | refine aw_regK 9 [0, 3, 6, 7] ?_
 | refine aw_sregK 10 [0, 3, 6, 7] ?_
 | refine aw_sregKD mixed 11 [0, 3] (by simp; exact rfl) ?_
 | refine aw_ifT (b := true) rfl rfl ?_
 | refine aw_ifF (b := false) rfl rfl ?_
 | refine aw_seq ?_
 | refine aw_skip ?_)
set_option maxHeartbeats 16000000 in
theorem c_rexcl_yes {R : Rn} {x : In} {locs : Int} {vals : List Int} {lucks : List Bool} (hR : R.Ok) (hl : locs ≤ 3) (h0 : 0 ≤ R.last) (h : R.last.toNat < R.es.length) (he : (R.es[R.last.toNat]).l = R.loc x locs) (k0 : 0 ≤ R.nl) (hk : R.nl.toNat < lucks.length) (hm : lucks.length ≤ 100) (hb : lucks[R.nl.toNat] = true) : SCX Tryz.prog 72 [.ptr (.ext 0) 0, .agg (inL x)] (rnS R locs vals lucks) (.tup []) (rnS (R.exclY x locs) locs vals lucks) := by
  refine scx_of Tryz.func72 rfl rfl rfl (Nat.le_of_ble_eq_true rfl) ?_
  have hP := c_PlaceR (R := R) (x := x) hl
  have hn : ¬R.last < 0 := by omega
  have hkn : ¬R.nl = (lucks.length : Int) := by omega
  have hw : IntKind.wrap .i64 (R.nl + 1) = R.nl + 1 := wrap64s (by omega) (by omega)
  generalize hee : R.es[R.last.toNat] = e at he
  have hSt := @c_rstore { R with last := -1, nl := R.nl + 1 } x locs vals lucks R.last ⟨hR.es, hR.ad, hR.da, hR.ct, hR.pa⟩ hl
  unfold Rn.exclY
  generalize Rn.store { R with last := -1, nl := R.nl + 1 } x locs R.last = Q at *
  have hS := @c_SetR Q x.d 0 0
  repeat' (first
 | refine ar_end rfl ?_
 | refine ar_endD rfl (by kernel_rfl) ?_
 | refine ar_finD rfl (by kernel_rfl) ?_
 | refine ar_callV Tryz.call96 hP rfl rfl rfl rfl rfl (by simp; done) (by rfl) (by simp; done) ?_
 | refine ar_callV Tryz.call98 hS rfl rfl rfl rfl rfl (by simp; done) (by rfl) (by simp; done) ?_
 | refine ar_callE [.ext 0, .ext 1, .ext 2, .ext 3, .ext 4, .ext 5] [.ext 0, .loc 3001, .loc 3002, .loc 3003, .loc 3004, .loc 3005] [.loc 3001, .loc 3002, .loc 3003, .loc 3004, .loc 3005] Tryz.call99 hSt rfl rfl rfl rfl (by simp; exact rfl) rfl (by simp; done) (by rfl) (by simp; fail_if_success (show _)) rfl ⟨by simp, by simp, (by simp [okY]; fail_if_success (show _)), by simp, by simp⟩ (by simp; fail_if_success (show _)) ?_
 | exact ret_rens .normal (.inl rfl) [(.loc 3001, .ext 1), (.loc 3002, .ext 2), (.loc 3003, .ext 3), (.loc 3004, .ext 4), (.loc 3005, .ext 5)] [.ext 0, .ext 1, .ext 2, .ext 3, .ext 4, .ext 5] (by simp; exact rfl) (by simp; exact rfl) rfl (by simp [Rn.reg]; fail_if_success (show _)) (by simp)
 | refine ar_go3 _ rfl (by simp [inL, evL, evsL_getE, evsL_len, bls_len, bls_getE, h, h0, hn, hee, he, k0, hk, hkn, hb, hw]; exact ⟨rfl, rfl, rfl⟩) rfl ?_
 | refine aw_sregK 0 [0, 1] ?_
 | refine aw_sregKD mixed 1 [0, 3] (by simp; exact rfl) ?_
 | refine aw_sregK 2 [0, 3, 4] ?_
 | refine aw_sregK 3 [0, 3, 4, 6] ?_
 | refine aw_sregKD mixed 4 [0, 3, 6, 7] (by simp; exact rfl) ?_
 | refine aw_sregK 6 [0, 3, 6, 7] ?_
 | refine aw_sregK 7 [0, 3, 6, 7] ?_
 | refine aw_sregKD mixed 8 [0, 3, 6] (by simp; exact rfl) ?_
 | refine aw_regK 9 [0, 3, 6, 7] ?_
 | refine aw_sregK 10 [0, 3, 6, 7] ?_
 | refine aw_sregK 12 [0, 3, 6] ?_
 | refine aw_regKD mixed 13 [0, 3] (by simp; exact rfl) ?_
 | refine aw_ifT (b := true) rfl rfl ?_
 | refine aw_ifF (b := false) rfl rfl ?_
 | refine aw_seq ?_
 | refine aw_skip ?_)
end Go.Eng
