import Derived.Test.YtpohlijehadklaaGreatFlowB
import Derived.Test.YtpohlijehadklaaGreatKitI10
set_option linter.unusedSimpArgs false
set_option linter.unusedVariables false
set_option linter.constructorNameAsVariable false
set_option autoImplicit false
namespace Go.Eng
open Go Go.RowKit Go.Proofs
def mayB (locs : Int) (th : List In) : Bool := (badI locs th.length 0 th).isNone && (decide ((th.length : Int) ≤ 8) && (decide (1 ≤ locs) && decide (locs ≤ 3)))
set_option maxHeartbeats 16000000 in
theorem c_fmay {th : List In} {locs : Int} (hl : th.length ≤ maxLen) : SC Tryz.prog 53 [.pv (.sl 6 (insL th)), I .i64 locs] (B (mayB locs th)) := by
  refine scx_of Tryz.func53 rfl rfl rfl (Nat.le_of_ble_eq_true rfl) ?_
  repeat' (first
 | refine ar_end rfl ?_
 | refine ar_go3 _ rfl (by simp [insL_len, insL_getE, inL]; exact ⟨rfl, rfl, rfl⟩) rfl ?_
 | refine aw_sregK 0 [0, 1] ?_
 | refine aw_sregK 1 [0, 1] ?_
 | refine aw_seq ?_
 | refine aw_block ?_)
  refine aw_loopN [0, 1, 7, 8, 9] [] (by simp; exact rfl) (ι := {j : Nat // j ≤ th.length ∧ badI locs th.length 0 th = badI locs th.length j (th.drop j)}) (fun j => ⟨35, [(0, .pv (.sl 6 (insL th))), (1, I .i64 locs), (7, .pv (.sl 6 (insL th))), (8, I .i64 th.length), (9, I .i64 j.1)], []⟩) (fun j => th.length - j.1) ⟨0, by omega, rfl⟩ (by simp) ?_
  rintro ⟨j, hj, hq⟩
  have hm0 : maxLen = 9223372036854775807 := rfl
  by_cases hjl : j < th.length
  · have hd : (j : Int) < (th.length : Int) := by omega
    have w1 : IntKind.wrap .i64 ((th.length : Int) - 1) = (th.length : Int) - 1 := wrap64s (by omega) (by omega)
    have w2 : IntKind.wrap .i64 ((th.length : Int) - 1 - (j : Int)) = (th.length : Int) - 1 - (j : Int) := wrap64s (by omega) (by omega)
    have w3 : IntKind.wrap .i64 ((j : Int) + 1) = (j : Int) + 1 := wrap64s (by omega) (by omega)
    rw [List.drop_eq_getElem_cons hjl] at hq
    generalize hx : th[j] = x at hq
    cases hm : mayI x ((th.length : Int) - 1 - (j : Int)) locs
    · have hq1 : badI locs th.length 0 th = some (j : Int) := by rw [hq, badI, hm]; rfl
      have hr : mayB locs th = false := by simp [mayB, hq1]
      unfold mayI at hm
      repeat' (first
 | exact aw_ret (ret_vals (by simp; exact rfl) (by simp [hr]; fail_if_success (show _)))
 | refine ar_end rfl ?_
 | refine ar_callV Tryz.call47 c_May rfl rfl rfl rfl rfl (by simp; done) (by rfl) (by simp; done) ?_
 | refine ar_go3 _ rfl (by simp [insL_len, insL_getE, inL, hd, hjl, hx, w1, w2, hm]; exact ⟨rfl, rfl, rfl⟩) rfl ?_
 | refine aw_sregK 2 [0, 1, 7, 8, 9] ?_
 | refine aw_sregK 3 [0, 1, 7, 8, 9] ?_
 | refine aw_sregK 4 [0, 1, 5, 6, 7, 8, 9] ?_
 | refine aw_sregK 5 [] ?_
 | refine aw_ifT (b := true) rfl rfl ?_
 | refine aw_seq ?_
 | refine aw_block ?_
 | refine aw_skip ?_)
    · have hq1 : badI locs th.length 0 th = badI locs th.length (j + 1) (th.drop (j + 1)) := by rw [hq, badI, hm]; rfl
      unfold mayI at hm
      repeat' (first
 | refine ar_end rfl ?_
 | refine ar_fin rfl ?_
 | refine ar_callV Tryz.call47 c_May rfl rfl rfl rfl rfl (by simp; done) (by rfl) (by simp; done) ?_
 | refine lq_normN [0, 1, 7, 8, 9] [] (by simp; exact rfl) ⟨j + 1, by omega, hq1⟩ (by dsimp only; omega) (by simp)
 | refine ar_go3 _ rfl (by simp [insL_len, insL_getE, inL, hd, hjl, hx, w1, w2, w3, hm]; exact ⟨rfl, rfl, rfl⟩) rfl ?_
 | refine aw_sregK 2 [0, 1, 7, 8, 9] ?_
 | refine aw_sregK 3 [0, 1, 7, 8, 9] ?_
 | refine aw_sregK 4 [0, 1, 5, 6, 7, 8, 9] ?_
 | refine aw_regK 6 [0, 1, 7, 8, 9] ?_
 | refine aw_ifT (b := true) rfl rfl ?_
 | refine aw_ifF (b := false) rfl rfl ?_
 | refine aw_seq ?_
 | refine aw_block ?_
 | refine aw_skip ?_)
  · have hd : ¬(j : Int) < (th.length : Int) := by omega
    rw [List.drop_eq_nil_of_le (by omega), badI] at hq
    repeat' (first
 | exact aw_ret (ret_vals (by simp; exact rfl) (by simp [mayB, hq, *]; fail_if_success (show _)))
 | exact aw_ret (ret_vals (by simp; exact rfl) (by simp [mayB, hq, *]; omega))
 | refine ar_end rfl ?_
 | refine ar_go3 _ rfl (by simp [insL_len, insL_getE, inL, hd]; exact ⟨rfl, rfl, rfl⟩) rfl ?_
 | refine aw_sregK 2 [0, 1, 7, 8, 9] ?_
 | refine aw_sregK 7 [0, 1] ?_
 | refine aw_ifF (b := false) rfl rfl ?_
 | refine aw_seq ?_
 | refine aw_exit ?_
 | (refine ar_guard rfl rfl rfl rfl (fun h => ?_) (fun h => ?_) <;> (fail_if_success (cases h; done)) <;> (try simp at h) <;> (try subst h)))
set_option maxHeartbeats 16000000 in
theorem c_does_136 {R : Rn} {x : In} {locs : Int} {vals : List Int} {lucks : List Bool} (h1 : kindF x.op = 1) : SCX Tryz.prog 54 [.ptr (.ext 0) 0, .agg (inL x)] (rnS R locs vals lucks) (.fn 71 [.ptr (.ext 0) 0] []) (rnS R locs vals lucks) := by
  refine scx_of Tryz.func54 rfl rfl rfl (Nat.le_of_ble_eq_true rfl) ?_
  repeat' (first
 | refine ar_end rfl ?_
 | refine ar_callV Tryz.call48 c_ins_Kind rfl rfl rfl rfl rfl (by simp; done) (by rfl) (by simp; done) ?_
 | exact aw_ret (ret_rens .ret (.inr rfl) [] [.ext 0, .ext 1, .ext 2, .ext 3, .ext 4, .ext 5] (by simp; exact rfl) (by simp; exact rfl) rfl (by simp []; fail_if_success (show _)) (by simp))
 | refine ar_go3 _ rfl (by simp [inL, h1]; exact ⟨rfl, rfl, rfl⟩) rfl ?_
 | refine aw_sregK 0 [0, 1] ?_
 | refine aw_sregK 1 [0, 3] ?_
 | refine aw_sregK 2 [0] ?_
 | refine aw_ifT (b := true) rfl rfl ?_
 | refine aw_seq ?_
 | refine aw_block ?_)
set_option maxHeartbeats 16000000 in
theorem c_does_137 {R : Rn} {x : In} {locs : Int} {vals : List Int} {lucks : List Bool} (h1 : ¬kindF x.op = 1) (h2 : x.op = 10) : SCX Tryz.prog 54 [.ptr (.ext 0) 0, .agg (inL x)] (rnS R locs vals lucks) (.fn 72 [.ptr (.ext 0) 0] []) (rnS R locs vals lucks) := by
  refine scx_of Tryz.func54 rfl rfl rfl (Nat.le_of_ble_eq_true rfl) ?_
  have h10 : decide (x.op = 10) = true := decide_eq_true h2
  repeat' (first
 | refine ar_end rfl ?_
 | refine ar_callV Tryz.call48 c_ins_Kind rfl rfl rfl rfl rfl (by simp; done) (by rfl) (by simp; done) ?_
 | exact aw_ret (ret_rens .ret (.inr rfl) [] [.ext 0, .ext 1, .ext 2, .ext 3, .ext 4, .ext 5] (by simp; exact rfl) (by simp; exact rfl) rfl (by simp []; fail_if_success (show _)) (by simp))
 | refine ar_go3 _ rfl (by simp [inL, h1]; exact ⟨rfl, rfl, rfl⟩) rfl ?_
 | refine aw_sregK 0 [0, 1] ?_
 | refine aw_sregK 1 [0, 3] ?_
 | refine aw_sregK 3 [0, 3] ?_
 | refine aw_sregK 4 [0] ?_
 | refine aw_ifF (b := false) rfl rfl ?_
 | refine aw_ifT rfl (by assumption) ?_
 | refine aw_seq ?_
 | refine aw_block ?_)
set_option maxHeartbeats 16000000 in
theorem c_does_138 {R : Rn} {x : In} {locs : Int} {vals : List Int} {lucks : List Bool} (h1 : ¬kindF x.op = 1) (h2 : ¬x.op = 10) (h3 : kindF x.op = 2) : SCX Tryz.prog 54 [.ptr (.ext 0) 0, .agg (inL x)] (rnS R locs vals lucks) (.fn 73 [.ptr (.ext 0) 0] []) (rnS R locs vals lucks) := by
  refine scx_of Tryz.func54 rfl rfl rfl (Nat.le_of_ble_eq_true rfl) ?_
  repeat' (first
 | refine ar_end rfl ?_
 | refine ar_callV Tryz.call48 c_ins_Kind rfl rfl rfl rfl rfl (by simp; done) (by rfl) (by simp; done) ?_
 | exact aw_ret (ret_rens .ret (.inr rfl) [] [.ext 0, .ext 1, .ext 2, .ext 3, .ext 4, .ext 5] (by simp; exact rfl) (by simp; exact rfl) rfl (by simp []; fail_if_success (show _)) (by simp))
 | refine ar_go3 _ rfl (by simp [inL, h1, h2, h3]; exact ⟨rfl, rfl, rfl⟩) rfl ?_
 | refine aw_sregK 0 [0, 1] ?_
 | refine aw_sregK 1 [0, 3] ?_
 | refine aw_sregK 3 [0, 3] ?_
 | refine aw_sregK 5 [0, 3] ?_
 | refine aw_sregK 6 [0] ?_
 | refine aw_ifT (b := true) rfl rfl ?_
 | refine aw_ifF (b := false) rfl rfl ?_
 | refine aw_seq ?_
 | refine aw_block ?_)
set_option maxHeartbeats 16000000 in
theorem c_does_139 {R : Rn} {x : In} {locs : Int} {vals : List Int} {lucks : List Bool} (h1 : ¬kindF x.op = 1) (h2 : ¬x.op = 10) (h3 : ¬kindF x.op = 2) (h4 : x.op = 11 ∨ x.op = 12) : SCX Tryz.prog 54 [.ptr (.ext 0) 0, .agg (inL x)] (rnS R locs vals lucks) (.fn 74 [.ptr (.ext 0) 0] []) (rnS R locs vals lucks) := by
  refine scx_of Tryz.func54 rfl rfl rfl (Nat.le_of_ble_eq_true rfl) ?_
  by_cases h5 : x.op = 11
  ·
    repeat' (first
 | refine ar_end rfl ?_
 | refine ar_callV Tryz.call48 c_ins_Kind rfl rfl rfl rfl rfl (by simp; done) (by rfl) (by simp; done) ?_
 | contradiction
 | exact aw_ret (ret_rens .ret (.inr rfl) [] [.ext 0, .ext 1, .ext 2, .ext 3, .ext 4, .ext 5] (by simp; exact rfl) (by simp; exact rfl) rfl (by simp []; fail_if_success (show _)) (by simp))
 | refine ar_go3 _ rfl (by simp [inL, h1, h2, h3]; exact ⟨rfl, rfl, rfl⟩) rfl ?_
 | refine aw_sregK 0 [0, 1] ?_
 | refine aw_sregK 1 [0, 3] ?_
 | refine aw_sregK 3 [0, 3] ?_
 | refine aw_sregK 5 [0, 3] ?_
 | refine aw_sregK 7 [0, 3] ?_
 | refine aw_sregK 8 [0] ?_
 | refine aw_ifT (b := true) rfl rfl ?_
 | refine aw_ifF (b := false) rfl rfl ?_
 | refine aw_seq ?_
 | refine aw_block ?_
 | (refine ar_guard rfl rfl rfl rfl (fun h => ?_) (fun h => ?_) <;> (fail_if_success (cases h; done)) <;> (try simp at h) <;> (try subst h)))
  · have h6 : x.op = 12 := h4.resolve_left h5
    repeat' (first
 | refine ar_end rfl ?_
 | refine ar_callV Tryz.call48 c_ins_Kind rfl rfl rfl rfl rfl (by simp; done) (by rfl) (by simp; done) ?_
 | exact aw_ret (ret_rens .ret (.inr rfl) [] [.ext 0, .ext 1, .ext 2, .ext 3, .ext 4, .ext 5] (by simp; exact rfl) (by simp; exact rfl) rfl (by simp []; fail_if_success (show _)) (by simp))
 | refine ar_go3 _ rfl (by simp [inL, h1, h2, h3, h5]; exact ⟨rfl, rfl, rfl⟩) rfl ?_
 | refine aw_sregK 0 [0, 1] ?_
 | refine aw_sregK 1 [0, 3] ?_
 | refine aw_sregK 3 [0, 3] ?_
 | refine aw_sregK 5 [0, 3] ?_
 | refine aw_sregK 7 [0, 3] ?_
 | refine aw_sregK 8 [0] ?_
 | refine aw_ifF (b := false) rfl rfl ?_
 | refine aw_ifT rfl (decide_eq_true (by assumption)) ?_
 | refine aw_seq ?_
 | refine aw_block ?_)
set_option maxHeartbeats 16000000 in
theorem c_does_140 {R : Rn} {x : In} {locs : Int} {vals : List Int} {lucks : List Bool} (h1 : ¬kindF x.op = 1) (h2 : ¬x.op = 10) (h3 : ¬kindF x.op = 2) (h4 : ¬x.op = 11) (h5 : ¬x.op = 12) (h6 : x.op = 13 ∨ x.op = 14) : SCX Tryz.prog 54 [.ptr (.ext 0) 0, .agg (inL x)] (rnS R locs vals lucks) (.fn 75 [.ptr (.ext 0) 0] []) (rnS R locs vals lucks) := by
  refine scx_of Tryz.func54 rfl rfl rfl (Nat.le_of_ble_eq_true rfl) ?_
  by_cases h7 : x.op = 13
  ·
    repeat' (first
 | refine ar_end rfl ?_
 | refine ar_callV Tryz.call48 c_ins_Kind rfl rfl rfl rfl rfl (by simp; done) (by rfl) (by simp; done) ?_
 | contradiction
 | exact aw_ret (ret_rens .ret (.inr rfl) [] [.ext 0, .ext 1, .ext 2, .ext 3, .ext 4, .ext 5] (by simp; exact rfl) (by simp; exact rfl) rfl (by simp []; fail_if_success (show _)) (by simp))
 | refine ar_go3 _ rfl (by simp [inL, h1, h2, h3, h4, h5]; exact ⟨rfl, rfl, rfl⟩) rfl ?_
 | refine aw_sregK 0 [0, 1] ?_
 | refine aw_sregK 1 [0, 3] ?_
 | refine aw_sregK 3 [0, 3] ?_
 | refine aw_sregK 5 [0, 3] ?_
 | refine aw_sregK 7 [0, 3] ?_
 | refine aw_sregK 9 [0, 3] ?_
 | refine aw_sregK 10 [0] ?_
 | refine aw_ifT (b := true) rfl rfl ?_
 | refine aw_ifF (b := false) rfl rfl ?_
 | refine aw_seq ?_
 | refine aw_block ?_
 | (refine ar_guard rfl rfl rfl rfl (fun h => ?_) (fun h => ?_) <;> (fail_if_success (cases h; done)) <;> (try simp at h) <;> (try subst h)))
  · have h8 : x.op = 14 := h6.resolve_left h7
    repeat' (first
 | refine ar_end rfl ?_
 | refine ar_callV Tryz.call48 c_ins_Kind rfl rfl rfl rfl rfl (by simp; done) (by rfl) (by simp; done) ?_
 | exact aw_ret (ret_rens .ret (.inr rfl) [] [.ext 0, .ext 1, .ext 2, .ext 3, .ext 4, .ext 5] (by simp; exact rfl) (by simp; exact rfl) rfl (by simp []; fail_if_success (show _)) (by simp))
 | refine ar_go3 _ rfl (by simp [inL, h1, h2, h3, h4, h5, h7]; exact ⟨rfl, rfl, rfl⟩) rfl ?_
 | refine aw_sregK 0 [0, 1] ?_
 | refine aw_sregK 1 [0, 3] ?_
 | refine aw_sregK 3 [0, 3] ?_
 | refine aw_sregK 5 [0, 3] ?_
 | refine aw_sregK 7 [0, 3] ?_
 | refine aw_sregK 9 [0, 3] ?_
 | refine aw_sregK 10 [0] ?_
 | refine aw_ifF (b := false) rfl rfl ?_
 | refine aw_ifT rfl (decide_eq_true (by assumption)) ?_
 | refine aw_seq ?_
 | refine aw_block ?_)
set_option maxHeartbeats 16000000 in
theorem c_does_141 {R : Rn} {x : In} {locs : Int} {vals : List Int} {lucks : List Bool} (h1 : ¬kindF x.op = 1) (h2 : ¬x.op = 10) (h3 : ¬kindF x.op = 2) (h4 : ¬x.op = 11) (h5 : ¬x.op = 12) (h6 : ¬x.op = 13) (h7 : ¬x.op = 14) : SCX Tryz.prog 54 [.ptr (.ext 0) 0, .agg (inL x)] (rnS R locs vals lucks) (.fn 76 [.ptr (.ext 0) 0] []) (rnS R locs vals lucks) := by
  refine scx_of Tryz.func54 rfl rfl rfl (Nat.le_of_ble_eq_true rfl) ?_
  repeat' (first
 | refine ar_end rfl ?_
 | refine ar_callV Tryz.call48 c_ins_Kind rfl rfl rfl rfl rfl (by simp; done) (by rfl) (by simp; done) ?_
 | exact aw_ret (ret_rens .ret (.inr rfl) [] [.ext 0, .ext 1, .ext 2, .ext 3, .ext 4, .ext 5] (by simp; exact rfl) (by simp; exact rfl) rfl (by simp []; fail_if_success (show _)) (by simp))
 | refine ar_go3 _ rfl (by simp [inL, h1, h2, h3, h4, h5, h6, h7]; exact ⟨rfl, rfl, rfl⟩) rfl ?_
 | refine aw_sregK 0 [0, 1] ?_
 | refine aw_sregK 1 [0, 3] ?_
 | refine aw_sregK 3 [0, 3] ?_
 | refine aw_sregK 5 [0, 3] ?_
 | refine aw_sregK 7 [0, 3] ?_
 | refine aw_sregK 9 [0, 3] ?_
 | refine aw_sregK 11 [0] ?_
 | refine aw_ifF (b := false) rfl rfl ?_
 | refine aw_seq ?_
 | refine aw_block ?_
 | refine aw_skip ?_)
end Go.Eng
set_option linter.unusedSimpArgs false
set_option linter.unusedVariables false
set_option linter.constructorNameAsVariable false
set_option autoImplicit false
namespace Go.Eng
open Go Go.RowKit Go.Proofs
/-- What stays true of a runner, instruction by instruction. -/
structure RnI (R : Rn) (vals : List Int) (lucks : List Bool) (k : Nat) : Prop where
  es : R.es.length ≤ k
  ad : R.ad.length = R.es.length
  da : R.da.length = R.es.length
  ct : R.ct.length = R.es.length
  pa : R.pa.length = R.es.length
  nv : 0 ≤ R.nv ∧ R.nv ≤ vals.length
  nl : 0 ≤ R.nl ∧ R.nl ≤ lucks.length
  last : -1 ≤ R.last ∧ R.last < R.es.length
  skip : 0 ≤ R.skip ∧ R.skip ≤ 1000
theorem RnI.ok {R : Rn} {vals : List Int} {lucks : List Bool} {k : Nat} (h : RnI R vals lucks k) (hk : k ≤ 40) : R.Ok := ⟨Nat.le_trans h.es hk, h.ad, h.da, h.ct, h.pa⟩
def Rn.exclF (R : Rn) (x : In) (locs : Int) (lucks : List Bool) : Rn :=
  if h : 0 ≤ R.last ∧ R.last.toNat < R.es.length then
    (if (R.es[R.last.toNat]'h.2).l = R.loc x locs then
      (if hk : R.nl.toNat < lucks.length then (if lucks[R.nl.toNat] = true then R.exclY x locs else R.exclN x) else { R with more := 2 })
    else R.excl0 x)
  else R.excl0 x
def Rn.step (R : Rn) (x : In) (locs : Int) (vals : List Int) (lucks : List Bool) : Rn :=
  if kindF x.op = 1 then (if h : R.nv.toNat < vals.length then R.load x locs vals[R.nv.toNat] else { R with more := 1 })
  else if x.op = 10 then R.exclF x locs lucks
  else if kindF x.op = 2 then R.store x locs (-1)
  else if x.op = 11 ∨ x.op = 12 then R.fence x
  else if x.op = 13 ∨ x.op = 14 then R.branch x
  else R.alone x
theorem alone_eta (R : Rn) (x : In) : ({ R.alone x with es := R.es, ad := R.ad, da := R.da, ct := R.ct, pa := R.pa, nv := R.nv, nl := R.nl, more := R.more, ctrl := R.ctrl, last := R.last, skip := R.skip } : Rn) = R.alone x := by
  unfold Rn.alone; split <;> rfl
theorem may_named {x : In} {β L : Int} (h : mayI x β L = true) : 1 ≤ x.op ∧ x.op ≤ 14 := by
  have := (may_facts h).2.2.2
  unfold named at this; simpa using this
theorem step_call {R : Rn} {x : In} {locs β : Int} {vals : List Int} {lucks : List Bool} {k : Nat} (I0 : RnI R vals lucks k) (hk : k ≤ 40) (hl : locs ≤ 3) (hm : mayI x β locs = true) (hv : vals.length ≤ 100) (hu : lucks.length ≤ 100) :
    ∃ f, Enters Tryz.prog f ∧ SCX Tryz.prog 54 [.ptr (.ext 0) 0, .agg (inL x)] (rnS R locs vals lucks) (.fn f [.ptr (.ext 0) 0] []) (rnS R locs vals lucks) ∧
      SCX Tryz.prog f [.ptr (.ext 0) 0, .agg (inL x)] (rnS R locs vals lucks) (.tup []) (rnS (R.step x locs vals lucks) locs vals lucks) := by
  have hR := I0.ok hk
  have hn := may_named hm
  unfold Rn.step
  by_cases h1 : kindF x.op = 1
  · refine ⟨71, Tryz.call71, c_does_136 h1, ?_⟩
    rw [if_pos h1]
    by_cases h : R.nv.toNat < vals.length
    · rw [dif_pos h]; exact c_rload hR hl I0.nv.1 h hv
    · rw [dif_neg h]; exact c_rload_none (by have := I0.nv; omega)
  rw [if_neg h1]
  by_cases h2 : x.op = 10
  · refine ⟨72, Tryz.call72, c_does_137 h1 h2, ?_⟩
    rw [if_pos h2]
    unfold Rn.exclF
    split
    · rename_i h
      split
      · rename_i he
        split
        · rename_i hkk
          split
          · rename_i hb; exact c_rexcl_yes hR hl h.1 h.2 he I0.nl.1 hkk hu hb
          · rename_i hb; exact c_rexcl_no hl h.1 h.2 he I0.nl.1 hkk hu (by simpa using hb)
        · rename_i hkk; exact c_rexcl_none hl h.1 h.2 he (by have := I0.nl; omega)
      · rename_i he; exact c_rexcl_far hl h.1 h.2 he
    · rename_i h
      exact c_rexcl_neg hl (by have := I0.last; omega)
  rw [if_neg h2]
  by_cases h3 : kindF x.op = 2
  · refine ⟨73, Tryz.call73, c_does_138 h1 h2 h3, ?_⟩
    rw [if_pos h3]; exact c_rplain hR hl
  rw [if_neg h3]
  by_cases h4 : x.op = 11 ∨ x.op = 12
  · refine ⟨74, Tryz.call74, c_does_139 h1 h2 h3 h4, ?_⟩
    rw [if_pos h4]; exact c_rfence hR
  rw [if_neg h4]
  by_cases h6 : x.op = 13 ∨ x.op = 14
  · refine ⟨75, Tryz.call75, c_does_140 h1 h2 h3 (by omega) (by omega) h6, ?_⟩
    rw [if_pos h6]; exact c_rbranch
  · refine ⟨76, Tryz.call76, c_does_141 h1 h2 h3 (by omega) (by omega) (by omega) (by omega), ?_⟩
    rw [if_neg h6]
    have := c_ralone (R := R) (x := x) (locs := locs) (vals := vals) (lucks := lucks) (by
      rw [kind1] at h1; rw [kind2] at h3; omega)
    rwa [alone_eta] at this
theorem reg_inv {R : Rn} {vals : List Int} {lucks : List Bool} {k : Nat} (h : RnI R vals lucks k) (n v d : Int) : RnI (R.reg n v d) vals lucks k := ⟨h.es, h.ad, h.da, h.ct, h.pa, h.nv, h.nl, h.last, h.skip⟩
theorem event_inv {R : Rn} {vals : List Int} {lucks : List Bool} {k : Nat} (h : RnI R vals lucks k) (e : Ev) (a d p : Int) : RnI (R.event e a d p) vals lucks (k + 1) := by
  have h1 := h.es
  have h2 := h.last
  refine ⟨by simp [Rn.event]; omega, by simp [Rn.event, h.ad], by simp [Rn.event, h.da], by simp [Rn.event, h.ct], by simp [Rn.event, h.pa], h.nv, h.nl, ?_, h.skip⟩
  show -1 ≤ R.last ∧ R.last < ((R.es ++ [e]).length : Int)
  simp; omega
theorem RnI.up {R : Rn} {vals : List Int} {lucks : List Bool} {k : Nat} (h : RnI R vals lucks k) : RnI R vals lucks (k + 1) := ⟨Nat.le_succ_of_le h.es, h.ad, h.da, h.ct, h.pa, h.nv, h.nl, h.last, h.skip⟩
theorem step_inv {R : Rn} {x : In} {locs β : Int} {vals : List Int} {lucks : List Bool} {k : Nat} (I0 : RnI R vals lucks k) (hm : mayI x β locs = true) (hβ : β ≤ 1000) : RnI (R.step x locs vals lucks) vals lucks (k + 1) := by
  have hlast := I0.last
  unfold Rn.step
  split
  · split
    · rename_i h
      unfold Rn.load
      refine reg_inv ?_ _ _ _
      have I1 : RnI (R.load1 x locs vals[R.nv.toNat]) vals lucks (k + 1) := by
        unfold Rn.load1
        refine event_inv ?_ _ _ _ _
        refine ⟨I0.es, I0.ad, I0.da, I0.ct, I0.pa, ?_, I0.nl, I0.last, I0.skip⟩
        have := I0.nv
        show 0 ≤ R.nv + 1 ∧ R.nv + 1 ≤ (vals.length : Int)
        omega
      split
      · refine ⟨I1.es, I1.ad, I1.da, I1.ct, I1.pa, I1.nv, I1.nl, ?_, I1.skip⟩
        show -1 ≤ (R.es.length : Int) ∧ (R.es.length : Int) < (((R.es ++ _).length : Nat) : Int)
        simp; omega
      · exact I1
    · exact ⟨Nat.le_succ_of_le I0.es, I0.ad, I0.da, I0.ct, I0.pa, I0.nv, I0.nl, I0.last, I0.skip⟩
  split
  · have I2 : RnI { R with last := -1 } vals lucks k := ⟨I0.es, I0.ad, I0.da, I0.ct, I0.pa, I0.nv, I0.nl, by show -1 ≤ (-1 : Int) ∧ (-1 : Int) < (R.es.length : Int); omega, I0.skip⟩
    have I3 : R.nl.toNat < lucks.length → RnI { R with last := -1, nl := R.nl + 1 } vals lucks k := fun hh => ⟨I0.es, I0.ad, I0.da, I0.ct, I0.pa, I0.nv, by have := I0.nl; show 0 ≤ R.nl + 1 ∧ R.nl + 1 ≤ (lucks.length : Int); omega, I2.last, I0.skip⟩
    unfold Rn.exclF
    split
    · split
      · split
        · rename_i hkk
          split
          · unfold Rn.exclY Rn.store; exact reg_inv (event_inv (I3 hkk) _ _ _ _) _ _ _
          · unfold Rn.exclN; exact (reg_inv (I3 hkk) _ _ _).up
        · exact ⟨Nat.le_succ_of_le I0.es, I0.ad, I0.da, I0.ct, I0.pa, I0.nv, I0.nl, I0.last, I0.skip⟩
      · unfold Rn.excl0; exact (reg_inv I2 _ _ _).up
    · unfold Rn.excl0; exact (reg_inv I2 _ _ _).up
  split
  · unfold Rn.store; exact event_inv I0 _ _ _ _
  split
  · unfold Rn.fence; exact event_inv I0 _ _ _ _
  split
  · rename_i h6
    have hb : braF x.op = true := by unfold braF; simpa using h6
    have := bra_may hm hb
    refine ⟨Nat.le_succ_of_le I0.es, I0.ad, I0.da, I0.ct, I0.pa, I0.nv, I0.nl, I0.last, ?_⟩
    show 0 ≤ (if (decide (R.gv x.a = 0) == decide (x.op = 13)) = true then x.m else R.skip) ∧ (if (decide (R.gv x.a = 0) == decide (x.op = 13)) = true then x.m else R.skip) ≤ 1000
    have := I0.skip
    split <;> omega
  · unfold Rn.alone
    split
    · exact (reg_inv I0 _ _ _).up
    · exact (reg_inv I0 _ _ _).up
end Go.Eng
