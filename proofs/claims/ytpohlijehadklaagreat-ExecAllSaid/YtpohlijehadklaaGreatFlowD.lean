import Derived.Test.YtpohlijehadklaaGreatFlowC
import Derived.Test.YtpohlijehadklaaGreatTestCountsWalk
import Derived.Test.YtpohlijehadklaaGreatRegsK
import Derived.Test.YtpohlijehadklaaGreatEngE
set_option linter.unusedSimpArgs false
set_option linter.unusedVariables false
set_option linter.constructorNameAsVariable false
set_option autoImplicit false
namespace Go.Eng
open Go Go.RowKit Go.Proofs
def Rn.skip1 (R : Rn) : Rn := { R with skip := R.skip - 1 }
def Rn.run1 (R : Rn) (x : In) (locs : Int) (vals : List Int) (lucks : List Bool) : Rn := if 0 < R.skip then R.skip1 else R.step x locs vals lucks
def runL (locs : Int) (vals : List Int) (lucks : List Bool) : Rn → List In → Rn
  | R, [] => R
  | R, x :: l => if R.more = 0 then runL locs vals lucks (R.run1 x locs vals lucks) l else R
def Rn0 : Rn := ⟨[], [], [], [], [], 0, 0, 0, 0, 0, 0, 0, 0, 0, 0, 0, 0, -1, 0⟩
def runF (th : List In) (locs : Int) (vals : List Int) (lucks : List Bool) : Rn := if mayB locs th = true then runL locs vals lucks Rn0 th else Rn0
abbrev trL (R : Rn) : List PV := [.sl 7 (evsL R.es), .sl 1 (u32s R.ad), .sl 1 (u32s R.da), .sl 1 (u32s R.ct), .sl 1 (ints R.pa), C .i64 R.v0, C .i64 R.v1, C .i64 R.v2, C .i64 R.v3, C .u32 R.d0, C .u32 R.d1, C .u32 R.d2, C .u32 R.d3, C .i64 R.nv, C .i64 R.nl, C .i64 R.more]
theorem mayB_facts {locs : Int} {th : List In} (h : mayB locs th = true) : th.length ≤ 8 ∧ 1 ≤ locs ∧ locs ≤ 3 ∧ ∀ (j : Nat) (h : j < th.length), mayI th[j] (th.length - 1 - (j : Int)) locs = true := by
  simp only [mayB, Bool.and_eq_true, decide_eq_true_eq, Option.isNone_iff_eq_none] at h
  obtain ⟨h1, h2, h3, h4⟩ := h
  refine ⟨by omega, h3, h4, fun j hj => ?_⟩
  have := badI_none h1 j hj
  simpa using this
theorem Rn0_inv {vals : List Int} {lucks : List Bool} : RnI Rn0 vals lucks 0 := ⟨by simp [Rn0], rfl, rfl, rfl, rfl, by simp [Rn0], by simp [Rn0], by simp [Rn0], by simp [Rn0]⟩
theorem SC.post {P : Program} {f : FuncId} {args : List AV} {res res' : AV} (h : SC P f args res) (hl : ∀ ρ w v, ARel ρ w res v → ARel ρ w res' v) : SC P f args res' := by
  intro Γ ρ w vals hw hX hargs
  refine (h Γ ρ w vals hw hX hargs).mono ?_
  rintro e w' ⟨v, ρ', e1, h1, h2⟩
  exact ⟨v, ρ', e1, hl _ _ _ h1, h2⟩
set_option maxHeartbeats 16000000 in
theorem c_Run0 {th : List In} {locs : Int} {vals : List Int} {lucks : List Bool} (hl : th.length ≤ maxLen) (hm : mayB locs th = false) : SC Tryz.prog 28 [.pv (.sl 6 (insL th)), I .i64 locs, .pv (.sl 1 (ints vals)), .pv (.sl 1 (bls lucks))] (.agg (trL (runF th locs vals lucks))) := by
  have h : SC Tryz.prog 28 [.pv (.sl 6 (insL th)), I .i64 locs, .pv (.sl 1 (ints vals)), .pv (.sl 1 (bls lucks))] (.agg [.v (.slice none 0 0), .v (.slice none 0 0), .v (.slice none 0 0), .v (.slice none 0 0), .v (.slice none 0 0), C .i64 0, C .i64 0, C .i64 0, C .i64 0, C .u32 0, C .u32 0, C .u32 0, C .u32 0, C .i64 0, C .i64 0, C .i64 0]) := by
    have hM := c_fmay (th := th) (locs := locs) hl
    refine scx_of Tryz.func28 rfl rfl rfl (Nat.le_of_ble_eq_true rfl) ?_
    repeat' (first
 | exact aw_ret (ret_vals (by simp; exact rfl) (by simp [*]; fail_if_success (show _)))
 | refine ar_end rfl ?_
 | refine ar_callV Tryz.call53 hM rfl rfl rfl rfl rfl (by simp; done) (by rfl) (by simp; done) ?_
 | refine ar_go3 _ rfl (by simp [insL_len, insL_getE, inL, evsL, u32s, ints, hm]; exact ⟨rfl, rfl, rfl⟩) rfl ?_
 | refine aw_sregK 0 [0, 1, 2, 3] ?_
 | refine aw_sregK 1 [0, 1, 2, 3, 8] ?_
 | refine aw_sregK 2 [8] ?_
 | refine aw_ifT (b := true) rfl rfl ?_
 | refine aw_seq ?_)
  refine h.post fun ρ w v hv => ?_
  have e : runF th locs vals lucks = Rn0 := by simp [runF, hm]
  rw [e]
  obtain ⟨vs, e1, v1, vs1, e2, h1, v2, vs2, e3, h2, v3, vs3, e4, h3, v4, vs4, e5, h4, v5, vs5, e6, h5, h6⟩ := hv
  exact ⟨vs, e1, v1, vs1, e2, nil_rel h1, v2, vs2, e3, nil_rel h2, v3, vs3, e4, nil_rel h3, v4, vs4, e5, nil_rel h4, v5, vs5, e6, nil_rel h5, h6⟩
set_option maxHeartbeats 16000000 in
theorem c_Run1 {th : List In} {locs : Int} {vals : List Int} {lucks : List Bool} (hm : mayB locs th = true) (hv : vals.length ≤ 40) (hu : lucks.length ≤ 40) : SC Tryz.prog 28 [.pv (.sl 6 (insL th)), I .i64 locs, .pv (.sl 1 (ints vals)), .pv (.sl 1 (bls lucks))] (.agg (trL (runF th locs vals lucks))) := by
  obtain ⟨h8, l1, l3, hmay⟩ := mayB_facts hm
  have e0 : runF th locs vals lucks = runL locs vals lucks Rn0 th := by simp [runF, hm]
  rw [e0]
  have hM := c_fmay (th := th) (locs := locs) (Nat.le_trans h8 (by simp [maxLen]))
  refine scx_of Tryz.func28 rfl rfl rfl (Nat.le_of_ble_eq_true rfl) ?_
  repeat' (first
 | refine ar_end rfl ?_
 | refine ar_callV Tryz.call53 hM rfl rfl rfl rfl rfl (by simp; done) (by rfl) (by simp; done) ?_
 | refine ar_go3 _ rfl (by simp [insL_len, insL_getE, inL, evsL, u32s, ints, hm]; exact ⟨rfl, rfl, rfl⟩) rfl ?_
 | refine aw_sregK 0 [0, 1, 2, 3] ?_
 | refine aw_sregK 1 [0, 1, 2, 3, 8] ?_
 | refine aw_sregK 3 [0, 1, 2, 3, 8] ?_
 | refine aw_sregK 4 [0, 8, 9] ?_
 | refine aw_ifF (b := false) rfl rfl ?_
 | refine aw_seq ?_
 | refine aw_block ?_
 | refine aw_skip ?_)
  refine aw_nilC (.loc 20) 0 (.loc 1001) 104 7 (by simp; exact rfl) ?_
  refine aw_nilC (.loc 20) 1 (.loc 1002) 57 1 (by simp; exact rfl) ?_
  refine aw_nilC (.loc 20) 2 (.loc 1003) 57 1 (by simp; exact rfl) ?_
  refine aw_nilC (.loc 20) 3 (.loc 1004) 57 1 (by simp; exact rfl) ?_
  refine aw_nilC (.loc 20) 4 (.loc 1005) 3 1 (by simp; exact rfl) ?_
  refine aw_loopN [0, 8, 9, 10] [.loc 8, .loc 20, .loc 1001, .loc 1002, .loc 1003, .loc 1004, .loc 1005] (by simp; exact rfl) (ι := {p : Nat × Rn // p.1 ≤ th.length ∧ RnI p.2 vals lucks p.1 ∧ runL locs vals lucks p.2 (th.drop p.1) = runL locs vals lucks Rn0 th}) (fun p => ⟨62, [(0, .pv (.sl 6 (insL th))), (8, .ptr (.loc 8) 0), (9, .ptr (.loc 20) 0), (10, I .i64 p.1.1)], (.loc 8, some (.box 62 [.pv (.v (.slice none 0 0)), .pv (.v (.slice none 0 0)), .pv (.v (.slice none 0 0)), .pv (.v (.slice none 0 0)), .pv (.v (.slice none 0 0)), I .i64 0, I .i64 0, I .i64 0, I .i64 0, I .u32 0, I .u32 0, I .u32 0, I .u32 0, I .i64 0, I .i64 0, I .i64 0])) :: rnN (.loc 20) (.loc 1001) (.loc 1002) (.loc 1003) (.loc 1004) (.loc 1005) p.1.2 locs vals lucks⟩) (fun p => th.length - p.1.1) ⟨(0, Rn0), by simp, Rn0_inv, by simp⟩ (by simp [Rn0, evsL, u32s, ints]) ?_
  rintro ⟨⟨n, R⟩, hn, hI, hq⟩
  dsimp only at hn hI hq
  by_cases hlt : n < th.length
  · have hc : (n : Int) < (th.length : Int) := by omega
    have hw : IntKind.wrap .i64 ((n : Int) + 1) = (n : Int) + 1 := wrap64s (by omega) (by omega)
    rw [List.drop_eq_getElem_cons hlt, runL] at hq
    have hmx := hmay n hlt
    generalize hx : th[n] = x at hq hmx
    by_cases h0 : R.more = 0
    · rw [if_pos h0] at hq
      by_cases hs : 0 < R.skip
      · have hr1 : R.run1 x locs vals lucks = R.skip1 := by unfold Rn.run1; rw [if_pos hs]
        rw [hr1] at hq
        have hsk := hI.skip
        have hw2 : IntKind.wrap .i64 (R.skip - 1) = R.skip - 1 := wrap64s (by omega) (by omega)
        have hI2 : RnI R.skip1 vals lucks (n + 1) := ⟨Nat.le_succ_of_le hI.es, hI.ad, hI.da, hI.ct, hI.pa, hI.nv, hI.nl, hI.last, by show 0 ≤ R.skip - 1 ∧ R.skip - 1 ≤ 1000; omega⟩
        repeat' (first
 | refine ar_end rfl ?_
 | refine ar_fin rfl ?_
 | refine lq_normN [0, 8, 9, 10] [.loc 8, .loc 20, .loc 1001, .loc 1002, .loc 1003, .loc 1004, .loc 1005] (by simp; exact rfl) ⟨(n + 1, R.skip1), by dsimp only; omega, hI2, hq⟩ (by dsimp only; omega) (by simp [Rn.skip1, h0])
 | refine ar_go3 _ rfl (by simp [insL_len, insL_getE, inL, hc, h0, hs, hlt, hx, hw, hw2]; exact ⟨rfl, rfl, rfl⟩) rfl ?_
 | refine aw_sregK 5 [0, 8, 9, 10] ?_
 | refine aw_regK 6 [0, 8, 9, 10] ?_
 | refine aw_sregK 7 [0, 8, 9, 10] ?_
 | refine aw_sregK 8 [0, 8, 9, 10] ?_
 | refine aw_ifT (b := true) rfl rfl ?_
 | refine aw_seq ?_
 | refine aw_block ?_
 | refine aw_skip ?_
 | refine aw_exit ?_)
      · have hr1 : R.run1 x locs vals lucks = R.step x locs vals lucks := by unfold Rn.run1; rw [if_neg hs]
        rw [hr1] at hq
        have hI2 := step_inv hI hmx (by omega)
        obtain ⟨f, hent, hD, hS⟩ := step_call hI (by omega) l3 hmx (by omega) (by omega)
        generalize R.step x locs vals lucks = R2 at hq hI2 hS
        repeat' (first
 | refine ar_end rfl ?_
 | refine ar_endD rfl (by kernel_rfl) ?_
 | refine ar_fin rfl ?_
 | refine ar_callE [.loc 20, .loc 1001, .loc 1002, .loc 1003, .loc 1004, .loc 1005] [.loc 20, .loc 3001, .loc 3002, .loc 3003, .loc 3004, .loc 3005] [.loc 3001, .loc 3002, .loc 3003, .loc 3004, .loc 3005] Tryz.call54 hD rfl rfl rfl rfl (by simp; exact rfl) rfl (by simp; done) (by rfl) (by simp [h0]; fail_if_success (show _)) rfl ⟨by simp, by simp, (by simp [okY]; fail_if_success (show _)), by simp, by simp⟩ (by simp; fail_if_success (show _)) ?_
 | refine ar_callE [.loc 20, .loc 3001, .loc 3002, .loc 3003, .loc 3004, .loc 3005] [.loc 20, .loc 4001, .loc 4002, .loc 4003, .loc 4004, .loc 4005] [.loc 4001, .loc 4002, .loc 4003, .loc 4004, .loc 4005] hent hS rfl rfl rfl rfl (by simp; exact rfl) rfl (by simp; done) (by rfl) (by simp [h0]; fail_if_success (show _)) rfl ⟨by simp, by simp, (by simp [okY]; fail_if_success (show _)), by simp, by simp⟩ (by simp; fail_if_success (show _)) ?_
 | refine lq_normRs [(.loc 4001, .loc 1001), (.loc 4002, .loc 1002), (.loc 4003, .loc 1003), (.loc 4004, .loc 1004), (.loc 4005, .loc 1005)] [0, 8, 9, 10] [.loc 8, .loc 20, .loc 1001, .loc 1002, .loc 1003, .loc 1004, .loc 1005] (by simp; exact rfl) ⟨(n + 1, R2), by dsimp only; omega, hI2, hq⟩ (by dsimp only; omega) (by simp)
 | refine ar_go3 _ rfl (by simp [insL_len, insL_getE, inL, hc, h0, hs, hlt, hx, hw]; exact ⟨rfl, rfl, rfl⟩) rfl ?_
 | refine aw_sregK 5 [0, 8, 9, 10] ?_
 | refine aw_regK 6 [0, 8, 9, 10] ?_
 | refine aw_sregK 7 [0, 8, 9, 10] ?_
 | refine aw_regKD mixed 9 [0, 8, 9, 10] (by simp; exact rfl) ?_
 | refine aw_ifT (b := true) rfl rfl ?_
 | refine aw_ifF (b := false) rfl rfl ?_
 | refine aw_seq ?_
 | refine aw_block ?_
 | refine aw_skip ?_)
    · rw [if_neg h0] at hq
      subst hq
      refine aw_frz (.loc 1001) (by simp; exact rfl) ?_
      refine aw_frz (.loc 1002) (by simp; exact rfl) ?_
      refine aw_frz (.loc 1003) (by simp; exact rfl) ?_
      refine aw_frz (.loc 1004) (by simp; exact rfl) ?_
      refine aw_frz (.loc 1005) (by simp; exact rfl) ?_
      repeat' (first
 | exact aw_ret (ret_vals (by simp; exact rfl) (by simp [*]; fail_if_success (show _)))
 | refine ar_end rfl ?_
 | refine ar_go3 _ rfl (by simp [insL_len, hc, h0]; exact ⟨rfl, rfl, rfl⟩) rfl ?_
 | refine aw_sregK 5 [0, 8, 9, 10] ?_
 | refine aw_sregK 10 [8, 9] ?_
 | refine aw_ifF (b := false) rfl rfl ?_
 | refine aw_seq ?_
 | refine aw_exit ?_)
  · have hc : ¬(n : Int) < (th.length : Int) := by omega
    rw [List.drop_eq_nil_of_le (by omega), runL] at hq
    subst hq
    refine aw_frz (.loc 1001) (by simp; exact rfl) ?_
    refine aw_frz (.loc 1002) (by simp; exact rfl) ?_
    refine aw_frz (.loc 1003) (by simp; exact rfl) ?_
    refine aw_frz (.loc 1004) (by simp; exact rfl) ?_
    refine aw_frz (.loc 1005) (by simp; exact rfl) ?_
    repeat' (first
 | exact aw_ret (ret_vals (by simp; exact rfl) (by simp [*]; fail_if_success (show _)))
 | refine ar_end rfl ?_
 | refine ar_go3 _ rfl (by simp [insL_len, hc]; exact ⟨rfl, rfl, rfl⟩) rfl ?_
 | refine aw_sregK 5 [0, 8, 9, 10] ?_
 | refine aw_sregK 10 [8, 9] ?_
 | refine aw_ifF (b := false) rfl rfl ?_
 | refine aw_seq ?_
 | refine aw_exit ?_)
end Go.Eng
set_option linter.unusedSimpArgs false
set_option linter.unusedVariables false
set_option linter.constructorNameAsVariable false
set_option autoImplicit false
namespace Go.Eng
open Go Go.RowKit Go.Proofs
def wfE (e : Ev) : Prop := W64 e.th ∧ W64 e.k ∧ W64 e.l ∧ W64 e.v
theorem eqEv {e : Ev} (h : wfE e) : EqAgg Tryz.prog 104 [.int .i64 e.th, .int .i64 e.k, .int .i64 e.l, .int .i64 e.v, .bool e.acq, .bool e.rel, .bool e.ex] [.int .i64 e.th, .int .i64 e.k, .int .i64 e.l, .int .i64 e.v, .bool e.acq, .bool e.rel, .bool e.ex] true := by
  have c2 : Tryz.prog.cellsOf 2 = 1 := by kernel_rfl
  have c3 : Tryz.prog.cellsOf 3 = 1 := by kernel_rfl
  have c4 : Tryz.prog.cellsOf 4 = 1 := by kernel_rfl
  have c83 : Tryz.prog.cellsOf 104 = 7 := by kernel_rfl
  obtain ⟨h0, h1, h2, h3⟩ := h
  refine ⟨⟨3, 3, 3, [.int .i64 e.th, .int .i64 e.k, .int .i64 e.l, .int .i64 e.v, .bool e.acq, .bool e.rel, .bool e.ex], [.int .i64 e.th, .int .i64 e.k, .int .i64 e.l, .int .i64 e.v, .bool e.acq, .bool e.rel, .bool e.ex], by decide, by kernel_rfl, ?_, ?_, Iff.intro (fun _ => rfl) (fun _ => rfl)⟩, by simp, ⟨c83.symm, c83.symm⟩, by kernel_rfl⟩
  all_goals
    unfold Program.keyLits
    simp only [Tryz.underlying104]
    simp only [W64] at h0 h1 h2 h3
    simp [Program.keyLits, Tryz.underlying3, Tryz.underlying2, Tryz.underlying4, c83, c2, c3, c4, h0, h1, h2, h3]
theorem u32s_getE {l : List Int} {i : Nat} (h : i < (u32s l).length) : (u32s l)[i] = [C .u32 (l[i]'(by simpa [u32s] using h))] := by simp [u32s]
set_option maxHeartbeats 16000000 in
theorem c_Events {l : List Ev} (hl : l.length ≤ maxLen) (hwE : ∀ e ∈ l, wfE e) : SC Tryz.prog 17 [.pv (.sl 7 (evsL l)), .pv (.sl 7 (evsL l))] (B true) := by
  refine scx_of Tryz.func17 rfl rfl rfl (Nat.le_of_ble_eq_true rfl) ?_
  repeat' (first
 | refine ar_end rfl ?_
 | refine ar_go3 _ rfl (by simp [evsL_len]; exact ⟨rfl, rfl, rfl⟩) rfl ?_
 | refine aw_sregK 0 [0, 1] ?_
 | refine aw_sregK 1 [0, 1] ?_
 | refine aw_sregK 3 [0, 1] ?_
 | refine aw_ifF (b := false) rfl rfl ?_
 | refine aw_seq ?_
 | refine aw_block ?_
 | refine aw_skip ?_)
  refine aw_loopN [0, 1, 5] [] (by simp; exact rfl) (ι := {i : Nat // i ≤ l.length}) (fun i => ⟨26, [(0, .pv (.sl 7 (evsL l))), (1, .pv (.sl 7 (evsL l))), (5, I .i64 i.1)], []⟩) (fun i => l.length - i.1) ⟨0, by omega⟩ (by simp) ?_
  rintro ⟨i, hi⟩
  by_cases hlt : i < l.length
  · have hw := wrap_succ hlt hl
    have hc : (i : Int) < (l.length : Int) := by omega
    have he := hwE _ (List.getElem_mem hlt)
    generalize hee : l[i] = e at he
    repeat' (first
 | refine ar_end rfl ?_
 | refine ar_endD rfl (by kernel_rfl) ?_
 | refine ar_fin rfl ?_
 | refine ar_neAgg (eqEv he) rfl rfl rfl rfl (by simp) rfl rfl ?_
 | refine lq_normN [0, 1, 5] [] (by simp; exact rfl) ⟨i + 1, by omega⟩ (by dsimp only; omega) (by simp)
 | refine ar_go3 _ rfl (by simp [evsL_len, evsL_getE, hlt, hw, hc, hee, evL]; exact ⟨rfl, rfl, rfl⟩) rfl ?_
 | refine aw_sregK 4 [0, 1, 5] ?_
 | refine aw_regK 5 [0, 1, 5] ?_
 | refine aw_sregKD mixed 6 [0, 1, 5] (by simp; exact rfl) ?_
 | refine aw_ifT (b := true) rfl rfl ?_
 | refine aw_ifF (b := false) rfl rfl ?_
 | refine aw_seq ?_
 | refine aw_block ?_
 | refine aw_skip ?_)
  · have hc : ¬(i : Int) < (l.length : Int) := by omega
    repeat' (first
 | exact aw_ret (ret_vals (by simp; exact rfl) (by simp [*]; fail_if_success (show _)))
 | refine ar_end rfl ?_
 | refine ar_go3 _ rfl (by simp [evsL_len, hc]; exact ⟨rfl, rfl, rfl⟩) rfl ?_
 | refine aw_sregK 4 [0, 1, 5] ?_
 | refine aw_sregK 8 [] ?_
 | refine aw_ifF (b := false) rfl rfl ?_
 | refine aw_seq ?_
 | refine aw_exit ?_)
structure RnW (R : Rn) : Prop where
  es : ∀ e ∈ R.es, wfE e
  v0 : W64 R.v0
  v1 : W64 R.v1
  v2 : W64 R.v2
  v3 : W64 R.v3
  d0 : W32 R.d0
  d1 : W32 R.d1
  d2 : W32 R.d2
  d3 : W32 R.d3
set_option maxHeartbeats 16000000 in
theorem c_Run {th : List In} {locs : Int} {vals : List Int} {lucks : List Bool} (hl : th.length ≤ maxLen) (hv : vals.length ≤ 40) (hu : lucks.length ≤ 40) : SC Tryz.prog 28 [.pv (.sl 6 (insL th)), I .i64 locs, .pv (.sl 1 (ints vals)), .pv (.sl 1 (bls lucks))] (.agg (trL (runF th locs vals lucks))) := by
  cases hm : mayB locs th
  · exact c_Run0 hl hm
  · exact c_Run1 hm hv hu
set_option maxHeartbeats 16000000 in
theorem c_mayR {th : List In} {locs : Int} (hw : W64 locs) : SC Tryz.prog 83 [.pv (.sl 6 (insL th)), I .i64 locs] (B (mayB locs th)) := by
  by_cases h8 : 8 < (th.length : Int)
  · have hm : mayB locs th = false := by simp [mayB]; omega
    rw [hm]
    refine scx_of Tryz.func83 rfl rfl rfl (Nat.le_of_ble_eq_true rfl) ?_
    repeat' (first
 | exact aw_ret (ret_vals (by simp; exact rfl) (by simp [*]; fail_if_success (show _)))
 | refine ar_end rfl ?_
 | refine ar_go3 _ rfl (by simp [insL_len, h8]; exact ⟨rfl, rfl, rfl⟩) rfl ?_
 | refine aw_sregK 0 [0, 1] ?_
 | refine aw_sregK 1 [0, 1] ?_
 | refine aw_sregK 2 [] ?_
 | refine aw_ifT (b := true) rfl rfl ?_
 | refine aw_seq ?_)
  by_cases h1 : locs < 1
  · have hm : mayB locs th = false := by simp [mayB]; omega
    rw [hm]
    refine scx_of Tryz.func83 rfl rfl rfl (Nat.le_of_ble_eq_true rfl) ?_
    repeat' (first
 | exact aw_ret (ret_vals (by simp; exact rfl) (by simp [*]; fail_if_success (show _)))
 | refine ar_end rfl ?_
 | refine ar_go3 _ rfl (by simp [insL_len, h8, h1]; exact ⟨rfl, rfl, rfl⟩) rfl ?_
 | refine aw_sregK 0 [0, 1] ?_
 | refine aw_sregK 1 [0, 1] ?_
 | refine aw_sregK 2 [] ?_
 | refine aw_ifT (b := true) rfl rfl ?_
 | refine aw_seq ?_)
  by_cases h3 : 3 < locs
  · have hm : mayB locs th = false := by simp [mayB]; omega
    rw [hm]
    refine scx_of Tryz.func83 rfl rfl rfl (Nat.le_of_ble_eq_true rfl) ?_
    repeat' (first
 | exact aw_ret (ret_vals (by simp; exact rfl) (by simp [*]; fail_if_success (show _)))
 | refine ar_end rfl ?_
 | refine ar_go3 _ rfl (by simp [insL_len, h8, h1, h3]; exact ⟨rfl, rfl, rfl⟩) rfl ?_
 | refine aw_sregK 0 [0, 1] ?_
 | refine aw_sregK 1 [0, 1] ?_
 | refine aw_sregK 2 [] ?_
 | refine aw_ifT (b := true) rfl rfl ?_
 | refine aw_seq ?_)
  have hm : mayB locs th = (badI locs th.length 0 th).isNone := by
    have : (th.length : Int) ≤ 8 := by omega
    have k1 : 1 ≤ locs := by omega
    have k3 : locs ≤ 3 := by omega
    simp [mayB, this, k1, k3]
  rw [hm]
  refine scx_of Tryz.func83 rfl rfl rfl (Nat.le_of_ble_eq_true rfl) ?_
  repeat' (first
 | refine ar_end rfl ?_
 | refine ar_go3 _ rfl (by simp [insL_len, h8, h1, h3]; exact ⟨rfl, rfl, rfl⟩) rfl ?_
 | refine aw_sregK 0 [0, 1] ?_
 | refine aw_sregK 1 [0, 1] ?_
 | refine aw_sregK 3 [0, 1] ?_
 | refine aw_ifF (b := false) rfl rfl ?_
 | refine aw_seq ?_
 | refine aw_block ?_
 | refine aw_skip ?_)
  refine aw_loopN [0, 1, 5] [] (by simp; exact rfl) (ι := {n : Nat // n ≤ th.length ∧ badI locs th.length n (th.drop n) = badI locs th.length 0 th}) (fun n => ⟨35, [(0, .pv (.sl 6 (insL th))), (1, I .i64 locs), (5, I .i64 n.1)], []⟩) (fun n => th.length - n.1) ⟨0, by simp⟩ (by simp) ?_
  rintro ⟨n, hn, hq⟩
  by_cases hlt : n < th.length
  · have hc : (n : Int) < (th.length : Int) := by omega
    have w1 : IntKind.wrap .i64 ((n : Int) + 1) = (n : Int) + 1 := wrap64s (by omega) (by omega)
    have w2 : IntKind.wrap .i64 ((th.length : Int) - n) = (th.length : Int) - n := wrap64s (by omega) (by omega)
    have w3 : IntKind.wrap .i64 ((th.length : Int) - n - 1) = (th.length : Int) - n - 1 := wrap64s (by omega) (by omega)
    rw [List.drop_eq_getElem_cons hlt, badI] at hq
    generalize hx : th[n] = x at hq
    have hM : SC Tryz.prog 58 [.agg (inL x), I .i64 ((th.length : Int) - n - 1), I .i64 locs] (B (mayI x ((th.length : Int) - n - 1) locs)) := c_refMay hw
    have e1 : (th.length : Int) - 1 - (n : Int) = (th.length : Int) - n - 1 := by omega
    rw [e1] at hq
    cases hmx : mayI x ((th.length : Int) - n - 1) locs
    · rw [hmx] at hq
      have hb : (badI locs th.length 0 th).isNone = false := by rw [← hq]; simp
      rw [hb]
      repeat' (first
 | exact aw_ret (ret_vals (by simp; exact rfl) (by simp [*]; fail_if_success (show _)))
 | refine ar_end rfl ?_
 | refine ar_callV Tryz.call58 hM rfl rfl rfl rfl rfl (by simp; done) (by rfl) (by simp; done) ?_
 | refine ar_go3 _ rfl (by simp [insL_len, insL_getE, inL, hc, hlt, hx, w1, w2, w3, hmx]; exact ⟨rfl, rfl, rfl⟩) rfl ?_
 | refine aw_sregK 4 [0, 1, 5] ?_
 | refine aw_sregK 6 [0, 1, 5] ?_
 | refine aw_sregK 7 [] ?_
 | refine aw_ifT (b := true) rfl rfl ?_
 | refine aw_seq ?_
 | refine aw_block ?_
 | refine aw_skip ?_)
    · rw [hmx] at hq
      have hq' : badI locs th.length (n + 1) (th.drop (n + 1)) = badI locs th.length 0 th := by simpa using hq
      repeat' (first
 | refine ar_end rfl ?_
 | refine ar_fin rfl ?_
 | refine ar_callV Tryz.call58 hM rfl rfl rfl rfl rfl (by simp; done) (by rfl) (by simp; done) ?_
 | refine lq_normN [0, 1, 5] [] (by simp; exact rfl) ⟨n + 1, by omega, hq'⟩ (by dsimp only; omega) (by simp)
 | refine ar_go3 _ rfl (by simp [insL_len, insL_getE, inL, hc, hlt, hx, w1, w2, w3, hmx]; exact ⟨rfl, rfl, rfl⟩) rfl ?_
 | refine aw_sregK 4 [0, 1, 5] ?_
 | refine aw_regK 5 [0, 1, 5] ?_
 | refine aw_sregK 6 [0, 1, 5] ?_
 | refine aw_ifT (b := true) rfl rfl ?_
 | refine aw_ifF (b := false) rfl rfl ?_
 | refine aw_seq ?_
 | refine aw_block ?_
 | refine aw_skip ?_)
  · have hc : ¬(n : Int) < (th.length : Int) := by omega
    rw [List.drop_eq_nil_of_le (by omega), badI] at hq
    have hb : (badI locs th.length 0 th).isNone = true := by rw [← hq]; rfl
    rw [hb]
    repeat' (first
 | exact aw_ret (ret_vals (by simp; exact rfl) (by simp [*]; fail_if_success (show _)))
 | refine ar_end rfl ?_
 | refine ar_go3 _ rfl (by simp [insL_len, hc]; exact ⟨rfl, rfl, rfl⟩) rfl ?_
 | refine aw_sregK 4 [0, 1, 5] ?_
 | refine aw_sregK 8 [] ?_
 | refine aw_ifF (b := false) rfl rfl ?_
 | refine aw_seq ?_
 | refine aw_exit ?_)
end Go.Eng
