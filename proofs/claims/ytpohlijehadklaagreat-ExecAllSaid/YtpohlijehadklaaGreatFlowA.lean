import Derived.Test.YtpohlijehadklaaGreatTestD
import Derived.Test.YtpohlijehadklaaGreatRegsK
import Derived.Test.YtpohlijehadklaaGreatEngE
set_option linter.unusedSimpArgs false
set_option linter.unusedVariables false
set_option linter.constructorNameAsVariable false
set_option autoImplicit false
namespace Go.Eng
open Go Go.RowKit Go.Proofs
structure Ev where
  th : Int
  k : Int
  l : Int
  v : Int
  acq : Bool
  rel : Bool
  ex : Bool
abbrev bo (b : Bool) : PV := .v (.bool b)
def evL (e : Ev) : List PV := [C .i64 e.th, C .i64 e.k, C .i64 e.l, C .i64 e.v, bo e.acq, bo e.rel, bo e.ex]
def evsL (l : List Ev) : List (List PV) := l.map evL
def u32s (l : List Int) : List (List PV) := l.map fun n => [C .u32 n]
def bls (l : List Bool) : List (List PV) := l.map fun b => [bo b]
structure Rn where
  es : List Ev
  ad : List Int
  da : List Int
  ct : List Int
  pa : List Int
  v0 : Int
  v1 : Int
  v2 : Int
  v3 : Int
  d0 : Int
  d1 : Int
  d2 : Int
  d3 : Int
  nv : Int
  nl : Int
  more : Int
  ctrl : Int
  last : Int
  skip : Int
abbrev rnC (n1 n2 n3 n4 n5 : Name) (R : Rn) (locs : Int) (vals : List Int) (lucks : List Bool) : List AV :=
  [.own n1, .own n2, .own n3, .own n4, .own n5, I .i64 R.v0, I .i64 R.v1, I .i64 R.v2, I .i64 R.v3, I .u32 R.d0, I .u32 R.d1, I .u32 R.d2, I .u32 R.d3, I .i64 R.nv, I .i64 R.nl, I .i64 R.more,
   I .i64 locs, .pv (.sl 1 (ints vals)), .pv (.sl 1 (bls lucks)), I .u32 R.ctrl, I .i64 R.last, I .i64 R.skip]
abbrev rnN (n0 n1 n2 n3 n4 n5 : Name) (R : Rn) (locs : Int) (vals : List Int) (lucks : List Bool) : SMap :=
  [(n0, some (.box 119 (rnC n1 n2 n3 n4 n5 R locs vals lucks))), (n1, some (.own 104 7 (evsL R.es))), (n2, some (.own 57 1 (u32s R.ad))), (n3, some (.own 57 1 (u32s R.da))), (n4, some (.own 57 1 (u32s R.ct))), (n5, some (.own 3 1 (ints R.pa)))]
abbrev rnS (R : Rn) (locs : Int) (vals : List Int) (lucks : List Bool) : SMap := rnN (.ext 0) (.ext 1) (.ext 2) (.ext 3) (.ext 4) (.ext 5) R locs vals lucks
def Rn.event (R : Rn) (e : Ev) (addr data pair : Int) : Rn := { R with es := R.es ++ [e], ad := R.ad ++ [addr], da := R.da ++ [data], ct := R.ct ++ [R.ctrl], pa := R.pa ++ [pair] }
structure Rn.Ok (R : Rn) : Prop where
  es : R.es.length ≤ 40
  ad : R.ad.length = R.es.length
  da : R.da.length = R.es.length
  ct : R.ct.length = R.es.length
  pa : R.pa.length = R.es.length
theorem evsL_len {l : List Ev} : (evsL l).length = l.length := by simp [evsL]
theorem u32s_len {l : List Int} : (u32s l).length = l.length := by simp [u32s]
theorem bls_len {l : List Bool} : (bls l).length = l.length := by simp [bls]
theorem evsL_getE {l : List Ev} {i : Nat} (h : i < (evsL l).length) : (evsL l)[i] = evL (l[i]'(by simpa [evsL] using h)) := by simp [evsL]
theorem bls_getE {l : List Bool} {i : Nat} (h : i < (bls l).length) : (bls l)[i] = [bo (l[i]'(by simpa [bls] using h))] := by simp [bls]
theorem evsL_app (s l : List Ev) : evsL (s ++ l) = evsL s ++ evsL l := by simp [evsL]
theorem u32s_app (s l : List Int) : u32s (s ++ l) = u32s s ++ u32s l := by simp [u32s]
theorem ints_app (s l : List Int) : ints (s ++ l) = ints s ++ ints l := by simp [ints]
end Go.Eng
set_option linter.unusedSimpArgs false
set_option linter.unusedVariables false
set_option linter.constructorNameAsVariable false
set_option autoImplicit false
namespace Go.Eng
open Go Go.RowKit Go.Proofs
set_option maxHeartbeats 16000000 in
theorem c_event {R : Rn} {e : Ev} {addr data pair locs : Int} {vals : List Int} {lucks : List Bool} (hR : R.Ok) : SCX Tryz.prog 97 [.ptr (.ext 0) 0, .agg (evL e), I .u32 addr, I .u32 data, I .i64 pair] (rnS R locs vals lucks) (.tup []) (rnS (R.event e addr data pair) locs vals lucks) := by
  obtain ⟨h1, h2, h3, h4, h5⟩ := hR
  refine scx_of Tryz.func97 rfl rfl rfl (Nat.le_of_ble_eq_true rfl) ?_
  repeat' (first
 | refine ar_end rfl ?_
 | refine ar_endD rfl (by kernel_rfl) ?_
 | refine ar_fin rfl ?_
 | refine ar_appO rfl rfl rfl rfl rfl (by simp; exact rfl) rfl (by simp; exact rfl) (by simp; exact rfl) (by simp; exact ⟨rfl, rfl⟩) rfl (by simp; exact rfl) (by simp; done) (by decide) (by simp [evsL_len, u32s_len, ints_len, maxLen]; omega) ?_
 | exact ret_rens .normal (.inl rfl) [(.loc 18, .ext 1), (.loc 30, .ext 2), (.loc 42, .ext 3), (.loc 57, .ext 4), (.loc 69, .ext 5)] [.ext 0, .ext 1, .ext 2, .ext 3, .ext 4, .ext 5] (by simp; exact rfl) (by simp; exact rfl) rfl (by simp [Rn.event, evsL_app, u32s_app, ints_app]; simp [evsL, evL, u32s, ints]) (by simp)
 | refine ar_go3 _ rfl (by simp [evL]; exact ⟨rfl, rfl, rfl⟩) rfl ?_
 | refine aw_sregK 0 [0, 1, 2, 3, 4] ?_
 | refine aw_sregKD mixed 1 [0, 2, 3, 4, 6] (by simp; exact rfl) ?_
 | refine aw_sregK 2 [0, 2, 3, 4] ?_
 | refine aw_sregK 3 [0, 3, 4] ?_
 | refine aw_sregKD mixed 4 [0, 4] (by simp; exact rfl) ?_
 | refine aw_regK 5 [0, 4] ?_)
end Go.Eng
set_option linter.unusedSimpArgs false
set_option linter.unusedVariables false
set_option linter.constructorNameAsVariable false
set_option autoImplicit false
namespace Go.Eng
open Go Go.RowKit Go.Proofs
def Rn.reg (R : Rn) (n v d : Int) : Rn := { R with v0 := if n = 0 then v else R.v0, v1 := if n = 1 then v else R.v1, v2 := if n = 2 then v else R.v2, v3 := if n = 3 then v else R.v3, d0 := if n = 0 then d else R.d0, d1 := if n = 1 then d else R.d1, d2 := if n = 2 then d else R.d2, d3 := if n = 3 then d else R.d3 }
def Rn.gv (R : Rn) (n : Int) : Int := get4 R.v0 R.v1 R.v2 R.v3 0 n
def Rn.gd (R : Rn) (n : Int) : Int := get4 R.d0 R.d1 R.d2 R.d3 0 n
def Rn.loc (R : Rn) (x : In) (locs : Int) : Int := if locs < 1 ∨ kindF x.op = 0 then 0 else (x.l + R.gv x.a) % locs
def Rn.adr (R : Rn) (x : In) (locs : Int) : Int := if locs < 1 ∨ kindF x.op = 0 then 0 else R.gd x.a
def Rn.branch (R : Rn) (x : In) : Rn := { R with ctrl := bits .or .u32 R.ctrl (R.gd x.a), skip := if (decide (R.gv x.a = 0) == decide (x.op = 13)) = true then x.m else R.skip }
def Rn.fence (R : Rn) (x : In) : Rn := R.event ⟨0, if x.op = 11 then IntKind.wrap .i64 (3 + x.m) else 6, 0, 0, false, false, false⟩ 0 0 (-1)
def Rn.store (R : Rn) (x : In) (locs pair : Int) : Rn := R.event ⟨0, 2, R.loc x locs, R.gv x.b, false, decide (x.op = 8), decide (0 ≤ pair)⟩ (R.adr x locs) (R.gd x.b) pair
set_option maxHeartbeats 16000000 in
theorem c_rbranch {R : Rn} {x : In} {locs : Int} {vals : List Int} {lucks : List Bool} : SCX Tryz.prog 75 [.ptr (.ext 0) 0, .agg (inL x)] (rnS R locs vals lucks) (.tup []) (rnS (R.branch x) locs vals lucks) := by
  refine scx_of Tryz.func75 rfl rfl rfl (Nat.le_of_ble_eq_true rfl) ?_
  cases hq : (decide (R.gv x.a = 0) == decide (x.op = 13))
  · have hq' := hq
    unfold Rn.gv at hq'
    repeat' (first
 | refine ar_end rfl ?_
 | refine ar_endD rfl (by kernel_rfl) ?_
 | refine ar_callV Tryz.call100 c_Get rfl rfl rfl rfl rfl (by simp; done) (by rfl) (by simp; done) ?_
 | exact ret_rens .normal (.inl rfl) [] [.ext 0, .ext 1, .ext 2, .ext 3, .ext 4, .ext 5] (by simp; exact rfl) (by simp; exact rfl) rfl (by simp [Rn.branch, Rn.gd, hq]; fail_if_success (show _)) (by simp)
 | refine ar_go3 _ rfl (by simp [inL, hq']; exact ⟨rfl, rfl, rfl⟩) rfl ?_
 | refine aw_sregK 0 [0, 1] ?_
 | refine aw_sregKD mixed 1 [0, 3] (by simp; exact rfl) ?_
 | refine aw_sregK 2 [0, 3, 4, 5] ?_
 | refine aw_sregK 3 [0, 3, 4] ?_
 | refine aw_ifF (b := false) rfl rfl ?_
 | refine aw_skip ?_)
  · have hq' := hq
    unfold Rn.gv at hq'
    repeat' (first
 | refine ar_end rfl ?_
 | refine ar_endD rfl (by kernel_rfl) ?_
 | refine ar_fin rfl ?_
 | refine ar_callV Tryz.call100 c_Get rfl rfl rfl rfl rfl (by simp; done) (by rfl) (by simp; done) ?_
 | exact ret_rens .normal (.inl rfl) [] [.ext 0, .ext 1, .ext 2, .ext 3, .ext 4, .ext 5] (by simp; exact rfl) (by simp; exact rfl) rfl (by simp [Rn.branch, Rn.gd, hq]; fail_if_success (show _)) (by simp)
 | refine ar_go3 _ rfl (by simp [inL, hq']; exact ⟨rfl, rfl, rfl⟩) rfl ?_
 | refine aw_sregK 0 [0, 1] ?_
 | refine aw_sregKD mixed 1 [0, 3] (by simp; exact rfl) ?_
 | refine aw_sregK 2 [0, 3, 4, 5] ?_
 | refine aw_sregK 3 [0, 3, 4] ?_
 | refine aw_regK 4 [0, 3] ?_
 | refine aw_ifT (b := true) rfl rfl ?_)
set_option maxHeartbeats 16000000 in
theorem c_rfence {R : Rn} {x : In} {locs : Int} {vals : List Int} {lucks : List Bool} (hR : R.Ok) : SCX Tryz.prog 74 [.ptr (.ext 0) 0, .agg (inL x)] (rnS R locs vals lucks) (.tup []) (rnS (R.fence x) locs vals lucks) := by
  refine scx_of Tryz.func74 rfl rfl rfl (Nat.le_of_ble_eq_true rfl) ?_
  have hE := @c_event R ⟨0, if x.op = 11 then IntKind.wrap .i64 (3 + x.m) else 6, 0, 0, false, false, false⟩ 0 0 (-1) locs vals lucks hR
  change SCX Tryz.prog 97 _ _ _ (rnS (R.fence x) locs vals lucks) at hE
  by_cases h : x.op = 11
  · rw [if_pos h] at hE
    repeat' (first
 | refine ar_end rfl ?_
 | refine ar_fin rfl ?_
 | refine ar_callE [.ext 0, .ext 1, .ext 2, .ext 3, .ext 4, .ext 5] [.ext 0, .loc 3001, .loc 3002, .loc 3003, .loc 3004, .loc 3005] [.loc 3001, .loc 3002, .loc 3003, .loc 3004, .loc 3005] Tryz.call97 hE rfl rfl rfl rfl (by simp; exact rfl) rfl (by simp; done) (by rfl) (by simp; fail_if_success (show _)) rfl ⟨by simp, by simp, (by simp [okY]; fail_if_success (show _)), by simp, by simp⟩ (by simp; fail_if_success (show _)) ?_
 | exact ret_rens .normal (.inl rfl) [(.loc 3001, .ext 1), (.loc 3002, .ext 2), (.loc 3003, .ext 3), (.loc 3004, .ext 4), (.loc 3005, .ext 5)] [.ext 0, .ext 1, .ext 2, .ext 3, .ext 4, .ext 5] (by simp; exact rfl) (by simp; exact rfl) rfl (by simp []; fail_if_success (show _)) (by simp)
 | refine ar_go3 _ rfl (by simp [inL, h, evL]; exact ⟨rfl, rfl, rfl⟩) rfl ?_
 | refine aw_sregK 0 [0, 1] ?_
 | refine aw_sregK 1 [0, 3] ?_
 | refine aw_sregK 2 [0, 3, 4] ?_
 | refine aw_regK 3 [0, 3] ?_
 | refine aw_regK 4 [0, 4] ?_
 | refine aw_ifT (b := true) rfl rfl ?_
 | refine aw_seq ?_)
  · rw [if_neg h] at hE
    repeat' (first
 | refine ar_end rfl ?_
 | refine ar_fin rfl ?_
 | refine ar_callE [.ext 0, .ext 1, .ext 2, .ext 3, .ext 4, .ext 5] [.ext 0, .loc 3001, .loc 3002, .loc 3003, .loc 3004, .loc 3005] [.loc 3001, .loc 3002, .loc 3003, .loc 3004, .loc 3005] Tryz.call97 hE rfl rfl rfl rfl (by simp; exact rfl) rfl (by simp; done) (by rfl) (by simp; fail_if_success (show _)) rfl ⟨by simp, by simp, (by simp [okY]; fail_if_success (show _)), by simp, by simp⟩ (by simp; fail_if_success (show _)) ?_
 | exact ret_rens .normal (.inl rfl) [(.loc 3001, .ext 1), (.loc 3002, .ext 2), (.loc 3003, .ext 3), (.loc 3004, .ext 4), (.loc 3005, .ext 5)] [.ext 0, .ext 1, .ext 2, .ext 3, .ext 4, .ext 5] (by simp; exact rfl) (by simp; exact rfl) rfl (by simp []; fail_if_success (show _)) (by simp)
 | refine ar_go3 _ rfl (by simp [inL, h, evL]; exact ⟨rfl, rfl, rfl⟩) rfl ?_
 | refine aw_sregK 0 [0, 1] ?_
 | refine aw_sregK 1 [0, 3] ?_
 | refine aw_sregK 2 [0, 3, 4] ?_
 | refine aw_regK 4 [0, 4] ?_
 | refine aw_ifF (b := false) rfl rfl ?_
 | refine aw_seq ?_
 | refine aw_skip ?_)
end Go.Eng
set_option linter.unusedSimpArgs false
set_option linter.unusedVariables false
set_option linter.constructorNameAsVariable false
set_option autoImplicit false
namespace Go.Eng
open Go Go.RowKit Go.Proofs
set_option maxHeartbeats 16000000 in
theorem c_PlaceR {R : Rn} {x : In} {locs : Int} (h : locs ≤ 3) : SC Tryz.prog 96 [.agg (fileL R.v0 R.v1 R.v2 R.v3 R.d0 R.d1 R.d2 R.d3), .agg (inL x), I .i64 locs] (.tup [I .i64 (R.loc x locs), I .u32 (R.adr x locs)]) := c_Place (by omega)
set_option maxHeartbeats 16000000 in
theorem c_GetR {R : Rn} {n : Int} : SC Tryz.prog 100 [.agg (fileL R.v0 R.v1 R.v2 R.v3 R.d0 R.d1 R.d2 R.d3), I .i64 n] (.tup [I .i64 (R.gv n), I .u32 (R.gd n)]) := c_Get
set_option maxHeartbeats 16000000 in
theorem c_SetR {R : Rn} {n v d : Int} : SC Tryz.prog 98 [.agg (fileL R.v0 R.v1 R.v2 R.v3 R.d0 R.d1 R.d2 R.d3), I .i64 n, I .i64 v, I .u32 d] (.agg (fileL (R.reg n v d).v0 (R.reg n v d).v1 (R.reg n v d).v2 (R.reg n v d).v3 (R.reg n v d).d0 (R.reg n v d).d1 (R.reg n v d).d2 (R.reg n v d).d3)) := c_Set
def Rn.alone (R : Rn) (x : In) : Rn := if x.op = 1 then R.reg x.d x.m 0 else R.reg x.d (opF x.op (R.gv x.a) (R.gv x.b)) (bits .or .u32 (R.gd x.a) (R.gd x.b))
set_option maxHeartbeats 16000000 in
theorem c_DoR {R : Rn} {x : In} (h : x.op = 1 ∨ x.op = 2 ∨ x.op = 3 ∨ x.op = 4) : SC Tryz.prog 101 [.agg (fileL R.v0 R.v1 R.v2 R.v3 R.d0 R.d1 R.d2 R.d3), .agg (inL x)] (.agg (fileL (R.alone x).v0 (R.alone x).v1 (R.alone x).v2 (R.alone x).v3 (R.alone x).d0 (R.alone x).d1 (R.alone x).d2 (R.alone x).d3)) := by
  by_cases h1 : x.op = 1
  · unfold Rn.alone; rw [if_pos h1]; unfold inL; rw [h1]; exact c_Do_mov
  · unfold Rn.alone; rw [if_neg h1]; exact c_Do_op (by omega) rfl rfl
set_option maxHeartbeats 16000000 in
theorem c_ralone {R : Rn} {x : In} {locs : Int} {vals : List Int} {lucks : List Bool} (h : x.op = 1 ∨ x.op = 2 ∨ x.op = 3 ∨ x.op = 4) : SCX Tryz.prog 76 [.ptr (.ext 0) 0, .agg (inL x)] (rnS R locs vals lucks) (.tup []) (rnS ({ R.alone x with es := R.es, ad := R.ad, da := R.da, ct := R.ct, pa := R.pa, nv := R.nv, nl := R.nl, more := R.more, ctrl := R.ctrl, last := R.last, skip := R.skip }) locs vals lucks) := by
  refine scx_of Tryz.func76 rfl rfl rfl (Nat.le_of_ble_eq_true rfl) ?_
  have hD := c_DoR (R := R) h
  generalize R.alone x = Q at *
  repeat' (first
 | refine ar_end rfl ?_
 | refine ar_finD rfl (by kernel_rfl) ?_
 | refine ar_callV Tryz.call101 hD rfl rfl rfl rfl rfl (by simp; done) (by rfl) (by simp; done) ?_
 | exact ret_rens .normal (.inl rfl) [] [.ext 0, .ext 1, .ext 2, .ext 3, .ext 4, .ext 5] (by simp; exact rfl) (by simp; exact rfl) rfl (by simp []; fail_if_success (show _)) (by simp)
 | refine ar_go3 _ rfl (by simp [inL]; exact ⟨rfl, rfl, rfl⟩) rfl ?_
 | refine aw_sregK 0 [0, 1] ?_
 | refine aw_regKD mixed 1 [0, 3] (by simp; exact rfl) ?_)
set_option maxHeartbeats 16000000 in
theorem c_rstore {R : Rn} {x : In} {locs : Int} {vals : List Int} {lucks : List Bool} {pair : Int} (hR : R.Ok) (hl : locs ≤ 3) : SCX Tryz.prog 99 [.ptr (.ext 0) 0, .agg (inL x), I .i64 pair] (rnS R locs vals lucks) (.tup []) (rnS (R.store x locs pair) locs vals lucks) := by
  refine scx_of Tryz.func99 rfl rfl rfl (Nat.le_of_ble_eq_true rfl) ?_
  have hE := @c_event R ⟨0, 2, R.loc x locs, R.gv x.b, false, decide (x.op = 8), decide (0 ≤ pair)⟩ (R.adr x locs) (R.gd x.b) pair locs vals lucks hR
  change SCX Tryz.prog 97 _ _ _ (rnS (R.store x locs pair) locs vals lucks) at hE
  have hP := c_PlaceR (R := R) (x := x) hl
  repeat' (first
 | refine ar_end rfl ?_
 | refine ar_endD rfl (by kernel_rfl) ?_
 | refine ar_fin rfl ?_
 | refine ar_callV Tryz.call96 hP rfl rfl rfl rfl rfl (by simp; done) (by rfl) (by simp; done) ?_
 | refine ar_callV Tryz.call100 c_GetR rfl rfl rfl rfl rfl (by simp; done) (by rfl) (by simp; done) ?_
 | refine ar_callE [.ext 0, .ext 1, .ext 2, .ext 3, .ext 4, .ext 5] [.ext 0, .loc 3001, .loc 3002, .loc 3003, .loc 3004, .loc 3005] [.loc 3001, .loc 3002, .loc 3003, .loc 3004, .loc 3005] Tryz.call97 hE rfl rfl rfl rfl (by simp; exact rfl) rfl (by simp; done) (by rfl) (by simp; fail_if_success (show _)) rfl ⟨by simp, by simp, (by simp [okY]; fail_if_success (show _)), by simp, by simp⟩ (by simp; fail_if_success (show _)) ?_
 | exact ret_rens .normal (.inl rfl) [(.loc 3001, .ext 1), (.loc 3002, .ext 2), (.loc 3003, .ext 3), (.loc 3004, .ext 4), (.loc 3005, .ext 5)] [.ext 0, .ext 1, .ext 2, .ext 3, .ext 4, .ext 5] (by simp; exact rfl) (by simp; exact rfl) rfl (by simp []; fail_if_success (show _)) (by simp)
 | refine ar_go3 _ rfl (by simp [inL]; exact ⟨rfl, rfl, rfl⟩) rfl ?_
 | refine aw_sregK 0 [0, 1, 2] ?_
 | refine aw_sregKD mixed 1 [0, 2, 4] (by simp; exact rfl) ?_
 | refine aw_sregKD mixed 2 [0, 2, 4, 6, 7] (by simp; exact rfl) ?_
 | refine aw_regK 3 [0, 2, 4, 6, 7, 8, 9] ?_)
set_option maxHeartbeats 16000000 in
theorem c_rplain {R : Rn} {x : In} {locs : Int} {vals : List Int} {lucks : List Bool} (hR : R.Ok) (hl : locs ≤ 3) : SCX Tryz.prog 73 [.ptr (.ext 0) 0, .agg (inL x)] (rnS R locs vals lucks) (.tup []) (rnS (R.store x locs (-1)) locs vals lucks) := by
  refine scx_of Tryz.func73 rfl rfl rfl (Nat.le_of_ble_eq_true rfl) ?_
  have hS := c_rstore (x := x) (locs := locs) (vals := vals) (lucks := lucks) (pair := -1) hR hl
  repeat' (first
 | refine ar_end rfl ?_
 | refine ar_fin rfl ?_
 | refine ar_callE [.ext 0, .ext 1, .ext 2, .ext 3, .ext 4, .ext 5] [.ext 0, .loc 3001, .loc 3002, .loc 3003, .loc 3004, .loc 3005] [.loc 3001, .loc 3002, .loc 3003, .loc 3004, .loc 3005] Tryz.call99 hS rfl rfl rfl rfl (by simp; exact rfl) rfl (by simp; done) (by rfl) (by simp; fail_if_success (show _)) rfl ⟨by simp, by simp, (by simp [okY]; fail_if_success (show _)), by simp, by simp⟩ (by simp; fail_if_success (show _)) ?_
 | exact ret_rens .normal (.inl rfl) [(.loc 3001, .ext 1), (.loc 3002, .ext 2), (.loc 3003, .ext 3), (.loc 3004, .ext 4), (.loc 3005, .ext 5)] [.ext 0, .ext 1, .ext 2, .ext 3, .ext 4, .ext 5] (by simp; exact rfl) (by simp; exact rfl) rfl (by simp []; fail_if_success (show _)) (by simp)
 | refine ar_go3 _ rfl (by simp [inL]; exact ⟨rfl, rfl, rfl⟩) rfl ?_
 | refine aw_sregK 0 [0, 1] ?_
 | refine aw_regK 1 [0, 3] ?_)
end Go.Eng
