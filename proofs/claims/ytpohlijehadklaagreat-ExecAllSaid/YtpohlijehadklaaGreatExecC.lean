import Derived.Test.YtpohlijehadklaaGreatExecB
import Derived.Test.YtpohlijehadklaaGreatExecA
import Derived.Test.YtpohlijehadklaaGreatEngF
import Derived.Test.YtpohlijehadklaaGreatValsA
set_option linter.unusedSimpArgs false
set_option linter.unusedVariables false
set_option linter.constructorNameAsVariable false
set_option autoImplicit false
namespace Go.Eng
open Go Go.RowKit Go.Proofs
theorem all32 {i : Nat} (h : i ≤ 31) : IntKind.wrap .u32 (IntKind.wrap .u32 (2 ^ (min i 32)) - 1) = ub (allB i) := by
  have : ∀ m : Fin 32, IntKind.wrap .u32 (IntKind.wrap .u32 (2 ^ (min m.1 32)) - 1) = ub (allB m.1) := by decide
  exact this ⟨i, by omega⟩
set_option maxHeartbeats 16000000 in
theorem c_exadd {e : Ex} {R : Rn} {th : Int} (he : ExOk e) (hR : FineR R) (hb : e.es.length + R.es.length ≤ 32) (hg : e.rg.length ≤ 1000) : SCX Tryz.prog 34 [.ptr (.ext 0) 0, I .i64 th, .agg (trL R)] (exS e) (.tup []) (exS (e.add th R)) := by
  have hM : maxLen = 9223372036854775807 := rfl
  have ok := hR.ok
  have hrl : ∀ i, ExOk (e.up e.es.length th R i) := he.up _ _ _
  have hul : ∀ i, (e.up e.es.length th R i).es.length = e.es.length + i := up_len e _ _ _
  have hrg : ∀ i, (e.up e.es.length th R i).rg = e.rg := up_rg e _ _ _
  have hfin : e.add th R = { e.up e.es.length th R R.es.length with rg := e.rg ++ [[R.v0, R.v1, R.v2, R.v3]] } := rfl
  rw [hfin]
  generalize hbb : e.es.length = b at *
  refine scx_of Tryz.func34 rfl rfl rfl (Nat.le_of_ble_eq_true rfl) ?_
  repeat' (first
 | refine ar_end rfl ?_
 | refine ar_go3 _ rfl (by simp [evsL_len, hbb, trL]; exact ⟨rfl, rfl, rfl⟩) rfl ?_
 | refine aw_sregK 0 [0, 1, 2] ?_
 | refine aw_sregK 1 [0, 1, 5] ?_
 | refine aw_sregK 2 [0, 1, 5, 6] ?_
 | refine aw_seq ?_
 | refine aw_block ?_)
  refine aw_loopN [0, 1, 5, 6, 16, 17, 18] [.loc 5, .ext 0, .ext 1, .ext 2] (by simp; exact rfl) (ι := {i : Nat // i ≤ R.es.length}) (fun i => ⟨133, [(0, .ptr (.ext 0) 0), (1, I .i64 th), (5, .ptr (.loc 5) 0), (6, I .i64 b), (16, .pv (.sl 7 (evsL R.es))), (17, I .i64 R.es.length), (18, I .i64 i.1)], ((.loc 5, some (.box 62 [.pv (.sl 7 (evsL R.es)), .pv (.sl 1 (u32s R.ad)), .pv (.sl 1 (u32s R.da)), .pv (.sl 1 (u32s R.ct)), .pv (.sl 1 (ints R.pa)), I .i64 R.v0, I .i64 R.v1, I .i64 R.v2, I .i64 R.v3, I .u32 R.d0, I .u32 R.d1, I .u32 R.d2, I .u32 R.d3, I .i64 R.nv, I .i64 R.nl, I .i64 R.more])) :: exS (e.up b th R i.1))⟩) (fun i => R.es.length - i.1) ⟨0, by omega⟩ (by simp [Ex.up, evsL_len]) ?_
  rintro ⟨i, hi⟩
  by_cases hlt : i < R.es.length
  · have hd : (i : Int) < (R.es.length : Int) := by omega
    have hw : IntKind.wrap .i64 ((i : Int) + 1) = (i : Int) + 1 := wrap64s (by omega) (by omega)
    have hwu := wrap64u (n := i) (by omega)
    have hwb : IntKind.wrap .i64 ((b : Int) + (i : Int)) = ((b + i : Nat) : Int) := by rw [wrap64s (by omega) (by omega)]; omega
    have ha : i < R.ad.length := by rw [ok.ad]; exact hlt
    have hda : i < R.da.length := by rw [ok.da]; exact hlt
    have hct : i < R.ct.length := by rw [ok.ct]; exact hlt
    have hpa : i < R.pa.length := by rw [ok.pa]; exact hlt
    have b1 : ub (mw R.ad i) = R.ad[i] := by unfold mw; rw [getD_at ha]; exact ub_of (hR.ad _ (List.getElem_mem ha))
    have b2 : ub (mw R.da i) = R.da[i] := by unfold mw; rw [getD_at hda]; exact ub_of (hR.da _ (List.getElem_mem hda))
    have b3 : ub (mw R.ct i) = R.ct[i] := by unfold mw; rw [getD_at hct]; exact ub_of (hR.ct _ (List.getElem_mem hct))
    have hpp := hR.pair i hlt
    have hee : R.es.getD i ev0 = R.es[i] := getD_at hlt
    have hpe : R.pa.getD i 0 = R.pa[i] := getD_at hpa
    have hup : e.up b th R (i + 1) = (e.up b th R i).step b th R i := rfl
    obtain ⟨o1, o2, o3, o4, o5⟩ := hrl i
    have hqe := hul i
    have hqg := hrg i
    generalize e.up b th R i = q at *
    obtain ⟨qe, qp, qa, qd, qc, qm, qg⟩ := q
    dsimp only at o1 o2 o3 o4 o5 hqe hqg
    subst hqg
    unfold Ex.step at hup
    rw [hee, hpe] at hup
    dsimp only at hup
    generalize mw R.ad i = x1 at *
    generalize mw R.da i = x2 at *
    generalize mw R.ct i = x3 at *
    have hsub : b + i - b = i := by omega
    have hall := all32 (i := i) (by omega)
    have l0 := c_lead (r := qp) (b := b) (to := b + i) (w := allB i) o1 (by omega) (by omega)
    have l1 := c_lead (r := qa) (b := b) (to := b + i) (w := x1) o2 (by omega) (by omega)
    have l2 := c_lead (r := qd) (b := b) (to := b + i) (w := x2) o3 (by omega) (by omega)
    have l3 := c_lead (r := qc) (b := b) (to := b + i) (w := x3) o4 (by omega) (by omega)
    rw [hsub] at l0 l1 l2 l3
    have pP := c_putV (r := qm) (i := (b : Int) + R.pa[i]) (k := ((b + i : Nat) : Int)) (by omega)
    generalize hx : R.es[i] = x at *
    generalize hp : R.pa[i] = p at *
    by_cases hp0 : 0 ≤ p
    · rw [if_pos hp0] at hup
      have hwp : IntKind.wrap .i64 ((b : Int) + p) = (b : Int) + p := wrap64s (by omega) (by omega)
      repeat' (first
 | refine ar_end rfl ?_
 | refine ar_endD rfl (by kernel_rfl) ?_
 | refine ar_fin rfl ?_
 | refine ar_callV Tryz.call56 l0 rfl rfl rfl rfl rfl (by simp; done) (by rfl) (by simp; done) ?_
 | refine ar_callV Tryz.call56 l1 rfl rfl rfl rfl rfl (by simp; done) (by rfl) (by simp; done) ?_
 | refine ar_callV Tryz.call56 l2 rfl rfl rfl rfl rfl (by simp; done) (by rfl) (by simp; done) ?_
 | refine ar_callV Tryz.call56 l3 rfl rfl rfl rfl rfl (by simp; done) (by rfl) (by simp; done) ?_
 | refine ar_callV Tryz.call57 pP rfl rfl rfl rfl rfl (by simp; done) (by rfl) (by simp; done) ?_
 | refine ar_appO rfl rfl rfl rfl rfl (by simp; exact rfl) rfl (by simp; exact rfl) (by simp; exact rfl) (by simp; exact ⟨rfl, rfl⟩) rfl (by simp; exact rfl) (by simp; done) (by decide) (by simp [evsL_len, maxLen]; try omega) ?_
 | refine lq_normR (.loc 35) (.ext 1) [0, 1, 5, 6, 16, 17, 18] [.loc 5, .ext 0, .ext 1, .ext 2] (by simp; exact rfl) ⟨i + 1, by omega⟩ (by dsimp only; omega) (by simp [hup, evsL_app]; simp [evsL, evL])
 | refine ar_go3 _ rfl (by simp [evsL_len, evsL_getE, evL, u32s_len, u32s_getE, ints_len, ints_getE, IntKind.bits, Int.toNat_natCast, hd, hlt, hx, hw, hwu, hwb, ha, hda, hct, hpa, ← b1, ← b2, ← b3, hall, hp, hp0, hwp]; exact ⟨rfl, rfl, rfl⟩) rfl ?_
 | refine aw_sregK 3 [0, 1, 5, 6, 16, 17, 18] ?_
 | refine aw_sregK 4 [0, 1, 5, 6, 16, 17, 18] ?_
 | refine aw_sregK 5 [0, 1, 5, 6, 7, 8, 16, 17, 18] ?_
 | refine aw_sregK 6 [0, 1, 5, 6, 7, 8, 16, 17, 18] ?_
 | refine aw_sregKD mixed 7 [0, 1, 5, 6, 7, 8, 9, 16, 17, 18] (by simp; exact rfl) ?_
 | refine aw_sregK 8 [0, 1, 5, 6, 7, 9, 16, 17, 18] ?_
 | refine aw_sregKD mixed 9 [0, 1, 5, 6, 7, 9, 16, 17, 18] (by simp; exact rfl) ?_
 | refine aw_sregKD mixed 10 [0, 1, 5, 6, 7, 9, 16, 17, 18] (by simp; exact rfl) ?_
 | refine aw_sregKD mixed 11 [0, 1, 5, 6, 7, 9, 16, 17, 18] (by simp; exact rfl) ?_
 | refine aw_sregK 12 [0, 1, 5, 6, 7, 9, 16, 17, 18] ?_
 | refine aw_regKD mixed 13 [0, 1, 5, 6, 7, 9, 16, 17, 18] (by simp; exact rfl) ?_
 | refine aw_regK 14 [0, 1, 5, 6, 16, 17, 18] ?_
 | refine aw_ifT (b := true) rfl rfl ?_
 | refine aw_seq ?_
 | refine aw_block ?_
 | refine aw_skip ?_)
    · rw [if_neg hp0] at hup
      repeat' (first
 | refine ar_end rfl ?_
 | refine ar_endD rfl (by kernel_rfl) ?_
 | refine ar_fin rfl ?_
 | refine ar_callV Tryz.call56 l0 rfl rfl rfl rfl rfl (by simp; done) (by rfl) (by simp; done) ?_
 | refine ar_callV Tryz.call56 l1 rfl rfl rfl rfl rfl (by simp; done) (by rfl) (by simp; done) ?_
 | refine ar_callV Tryz.call56 l2 rfl rfl rfl rfl rfl (by simp; done) (by rfl) (by simp; done) ?_
 | refine ar_callV Tryz.call56 l3 rfl rfl rfl rfl rfl (by simp; done) (by rfl) (by simp; done) ?_
 | refine ar_appO rfl rfl rfl rfl rfl (by simp; exact rfl) rfl (by simp; exact rfl) (by simp; exact rfl) (by simp; exact ⟨rfl, rfl⟩) rfl (by simp; exact rfl) (by simp; done) (by decide) (by simp [evsL_len, maxLen]; try omega) ?_
 | refine bq_norm ?_
 | refine lq_normR (.loc 35) (.ext 1) [0, 1, 5, 6, 16, 17, 18] [.loc 5, .ext 0, .ext 1, .ext 2] (by simp; exact rfl) ⟨i + 1, by omega⟩ (by dsimp only; omega) (by simp [hup, evsL_app]; simp [evsL, evL])
 | refine ar_go3 _ rfl (by simp [evsL_len, evsL_getE, evL, u32s_len, u32s_getE, ints_len, ints_getE, IntKind.bits, Int.toNat_natCast, hd, hlt, hx, hw, hwu, hwb, ha, hda, hct, hpa, ← b1, ← b2, ← b3, hall, hp, hp0]; exact ⟨rfl, rfl, rfl⟩) rfl ?_
 | refine aw_sregK 3 [0, 1, 5, 6, 16, 17, 18] ?_
 | refine aw_sregK 4 [0, 1, 5, 6, 16, 17, 18] ?_
 | refine aw_sregK 5 [0, 1, 5, 6, 7, 8, 16, 17, 18] ?_
 | refine aw_sregK 6 [0, 1, 5, 6, 7, 8, 16, 17, 18] ?_
 | refine aw_sregKD mixed 7 [0, 1, 5, 6, 7, 8, 9, 16, 17, 18] (by simp; exact rfl) ?_
 | refine aw_sregK 8 [0, 1, 5, 6, 7, 9, 16, 17, 18] ?_
 | refine aw_sregKD mixed 9 [0, 1, 5, 6, 7, 9, 16, 17, 18] (by simp; exact rfl) ?_
 | refine aw_sregKD mixed 10 [0, 1, 5, 6, 7, 9, 16, 17, 18] (by simp; exact rfl) ?_
 | refine aw_sregKD mixed 11 [0, 1, 5, 6, 7, 9, 16, 17, 18] (by simp; exact rfl) ?_
 | refine aw_sregK 12 [0, 1, 5, 6, 7, 9, 16, 17, 18] ?_
 | refine aw_regK 14 [0, 1, 5, 6, 16, 17, 18] ?_
 | refine aw_ifT (b := true) rfl rfl ?_
 | refine aw_ifF (b := false) rfl rfl ?_
 | refine aw_seq ?_
 | refine aw_block ?_
 | refine aw_skip ?_)
  have hd : ¬(i : Int) < (R.es.length : Int) := by omega
  have hie : i = R.es.length := by omega
  subst hie
  have hqg := hrg R.es.length
  generalize e.up b th R R.es.length = q at *
  obtain ⟨qe, qp, qa, qd, qc, qm, qg⟩ := q
  dsimp only at hqg
  subst hqg
  have hC := sco_sc (c_CloneI (l := [R.v0, R.v1, R.v2, R.v3]) (by simp))
  refine aw_frzB (.loc 5) (by simp; exact rfl) ?_
  repeat' (first
 | refine ar_end rfl ?_
 | refine ar_finD rfl (by kernel_rfl) ?_
 | refine ar_callV Tryz.call24 hC rfl rfl rfl rfl rfl (by simp; done) (by rfl) (by simp; done) ?_
 | refine ar_sliceArr (n := 4) (e := 2) rfl rfl rfl rfl (by simp; done) (by simp; done) (by simp; done) (by decide) (by simp [maxLen]; done) (by simp; exact rfl) (by simp; done) ?_
 | refine ar_appO rfl rfl rfl rfl rfl (by simp; exact rfl) rfl (by simp; exact rfl) (by simp; exact rfl) (by simp; exact ⟨rfl, rfl⟩) rfl (by simp; exact rfl) (by simp; done) (by decide) (by simp [rgL_len, maxLen]; try omega) ?_
 | exact ret_rens .normal (.inl rfl) [(.loc 130, .ext 2)] [.ext 0, .ext 1, .ext 2] (by simp; exact rfl) (by simp; exact rfl) rfl (by simp [rgL, ints]; fail_if_success (show _)) (by simp)
 | refine ar_go3 _ rfl (by simp [hd, ints]; exact ⟨rfl, rfl, rfl⟩) rfl ?_
 | refine aw_sregK 3 [0, 1, 5, 6, 16, 17, 18] ?_
 | refine aw_regKD mixed 15 [0, 5] (by simp; exact rfl) ?_
 | refine aw_ifF (b := false) rfl rfl ?_
 | refine aw_seq ?_
 | refine aw_exit ?_)
end Go.Eng
set_option linter.unusedSimpArgs false
set_option linter.unusedVariables false
set_option linter.constructorNameAsVariable false
set_option autoImplicit false
namespace Go.Eng
open Go Go.RowKit Go.Proofs
set_option maxHeartbeats 16000000 in
theorem c_Join {ts : List Rn} (hn : ts.length ≤ 1000) (hs : evN ts ≤ 24) (hf : ∀ R ∈ ts, FineR R) : SC Tryz.prog 13 [.pv (.sl 16 (trsL ts))] (.tup [.agg (exA (joinF ts)), I .i64 0]) := by
  have hM : maxLen = 9223372036854775807 := rfl
  have hA := c_anybad hn hf
  have hN := c_newV (n := evN ts) (by omega)
  have hj0 : joinUp (evN ts) ts 0 = ⟨[], newR (evN ts), newR (evN ts), newR (evN ts), newR (evN ts), newR (evN ts), []⟩ := rfl
  have hjf : joinF ts = joinUp (evN ts) ts ts.length := rfl
  have hok := join_ok (n := evN ts) (by omega) ts
  have hjl := join_len (evN ts) ts
  have hjr := join_rg (evN ts) ts
  have hjs : ∀ i, joinUp (evN ts) ts (i + 1) = (joinUp (evN ts) ts i).add i (ts.getD i Rn0) := fun i => rfl
  have hev0 : ¬(24 : Int) < (evN ts : Int) := by omega
  have htk := evN_take ts
  have hsc := fun i h => evN_succ (ts := ts) (i := i) h
  refine scx_of Tryz.func13 rfl rfl rfl (Nat.le_of_ble_eq_true rfl) ?_
  repeat' (first
 | refine ar_end rfl ?_
 | refine ar_go3 _ rfl (by simp [trsL_len]; exact ⟨rfl, rfl, rfl⟩) rfl ?_
 | refine aw_sregK 0 [0] ?_
 | refine aw_sregK 1 [0, 2] ?_
 | refine aw_sregK 2 [0, 2, 4] ?_
 | refine aw_seq ?_
 | refine aw_block ?_)
  refine aw_loopN [0, 2, 4, 11, 12, 13] [.loc 2] (by simp; exact rfl) (ι := {i : Nat // i ≤ ts.length}) (fun i => ⟨51, [(0, .pv (.sl 16 (trsL ts))), (2, .ptr (.loc 2) 0), (4, I .i64 (evN (ts.take i.1))), (11, .pv (.sl 16 (trsL ts))), (12, I .i64 ts.length), (13, I .i64 i.1)], [(.loc 2, some (.box 44 [.pv (.v (.slice none 0 0)), .pv (.v (.slice none 0 0)), .pv (.v (.slice none 0 0)), .pv (.v (.slice none 0 0)), .pv (.v (.slice none 0 0)), .pv (.v (.slice none 0 0)), .pv (.v (.slice none 0 0))]))]⟩) (fun i => ts.length - i.1) ⟨0, by omega⟩ (by simp [evN, trsL_len]) ?_
  rintro ⟨i, hi⟩
  by_cases hlt : i < ts.length
  · have hd : (i : Int) < (ts.length : Int) := by omega
    have hw : IntKind.wrap .i64 ((i : Int) + 1) = (i : Int) + 1 := wrap64s (by omega) (by omega)
    have h1 := hsc i hlt
    have h2 := htk (i + 1)
    generalize hx : ts[i] = R at *
    have hw2 : IntKind.wrap .i64 ((evN (ts.take i) : Int) + (R.es.length : Int)) = ((evN (ts.take (i + 1)) : Nat) : Int) := by rw [wrap64s (by omega) (by omega)]; omega
    repeat' (first
 | refine ar_end rfl ?_
 | refine ar_fin rfl ?_
 | refine lq_normN [0, 2, 4, 11, 12, 13] [.loc 2] (by simp; exact rfl) ⟨i + 1, by omega⟩ (by dsimp only; omega) (by simp [])
 | refine ar_go3 _ rfl (by simp [trsL_len, trsL_getE, trL, evsL_len, hd, hlt, hx, hw, hw2]; exact ⟨rfl, rfl, rfl⟩) rfl ?_
 | refine aw_sregK 3 [0, 2, 4, 11, 12, 13] ?_
 | refine aw_sregK 4 [0, 2, 4, 11, 12, 13] ?_
 | refine aw_regK 5 [0, 2, 4, 6, 11, 12, 13] ?_
 | refine aw_regK 6 [0, 2, 4, 11, 12, 13] ?_
 | refine aw_ifT (b := true) rfl rfl ?_
 | refine aw_seq ?_
 | refine aw_block ?_
 | refine aw_skip ?_)
  have hd : ¬(i : Int) < (ts.length : Int) := by omega
  have hie : ts.take i = ts := List.take_of_length_le (by omega)
  rw [hie]
  generalize hnn : evN ts = n at *
  repeat' (first
 | refine ar_end rfl ?_
 | refine ar_callV Tryz.call30 hA rfl rfl rfl rfl rfl (by simp; done) (by rfl) (by simp; done) ?_
 | refine ar_callV Tryz.call33 hN rfl rfl rfl rfl rfl (by simp; done) (by rfl) (by simp; done) ?_
 | refine ar_go3 _ rfl (by simp [trsL_len, hd, hev0]; exact ⟨rfl, rfl, rfl⟩) rfl ?_
 | refine aw_sregK 3 [0, 2, 4, 11, 12, 13] ?_
 | refine aw_sregK 7 [0, 2, 4] ?_
 | refine aw_sregK 9 [0, 2, 4] ?_
 | refine aw_sregK 11 [0, 2, 4] ?_
 | refine aw_sregK 12 [0, 2, 7] ?_
 | refine aw_sregK 13 [0, 2, 8] ?_
 | refine aw_ifF (b := false) rfl rfl ?_
 | refine aw_seq ?_
 | refine aw_block ?_
 | refine aw_skip ?_
 | refine aw_exit ?_)
  refine aw_nilC (.loc 8) 0 (.loc 1001) 104 7 (by simp; exact rfl) ?_
  refine aw_nilC (.loc 8) 6 (.loc 1002) 22 1 (by simp; exact rfl) ?_
  refine aw_loopN [2, 8, 39, 40, 41] [.loc 2, .loc 8, .loc 1001, .loc 1002] (by simp; exact rfl) (ι := {i : Nat // i ≤ ts.length}) (fun i => ⟨51, [(2, .ptr (.loc 2) 0), (8, .ptr (.loc 8) 0), (39, .pv (.sl 16 (trsL ts))), (40, I .i64 ts.length), (41, I .i64 i.1)], ((.loc 2, some (.box 44 [.pv (.v (.slice none 0 0)), .pv (.v (.slice none 0 0)), .pv (.v (.slice none 0 0)), .pv (.v (.slice none 0 0)), .pv (.v (.slice none 0 0)), .pv (.v (.slice none 0 0)), .pv (.v (.slice none 0 0))])) :: exN (.loc 8) (.loc 1001) (.loc 1002) (joinUp n ts i.1))⟩) (fun i => ts.length - i.1) ⟨0, by omega⟩ (by simp [hj0, trsL_len, evsL, rgL]) ?_
  rintro ⟨k, hk⟩
  by_cases hlt : k < ts.length
  · have hd : (k : Int) < (ts.length : Int) := by omega
    have hw : IntKind.wrap .i64 ((k : Int) + 1) = (k : Int) + 1 := wrap64s (by omega) (by omega)
    have h0 := hok k
    have h1 := hjl k hk
    have h2 := hjr k
    have h3 := hjs k
    have h4 := hsc k hlt
    have h5 := htk (k + 1)
    rw [getD_at hlt] at h3
    have hfk := hf _ (List.getElem_mem hlt)
    generalize joinUp n ts k = q at *
    generalize hx : ts[k] = R at *
    have hC := c_exadd (e := q) (R := R) (th := (k : Int)) h0 hfk (by omega) (by omega)
    rw [← h3] at hC
    repeat' (first
 | refine ar_end rfl ?_
 | refine ar_fin rfl ?_
 | refine ar_callE [.loc 8, .loc 1001, .loc 1002] [.loc 8, .loc 3001, .loc 3002] [.loc 3001, .loc 3002] Tryz.call34 hC rfl rfl rfl rfl (by simp; exact rfl) rfl (by simp; done) (by rfl) (by simp; fail_if_success (show _)) rfl ⟨by simp, by simp, (by simp [okY]; fail_if_success (show _)), by simp, by simp⟩ (by simp; fail_if_success (show _)) ?_
 | refine lq_normRs [(.loc 3001, .loc 1001), (.loc 3002, .loc 1002)] [2, 8, 39, 40, 41] [.loc 2, .loc 8, .loc 1001, .loc 1002] (by simp; exact rfl) ⟨k + 1, by omega⟩ (by dsimp only; omega) (by simp)
 | refine ar_go3 _ rfl (by simp [trsL_len, trsL_getE, hd, hlt, hx, hw]; exact ⟨rfl, rfl, rfl⟩) rfl ?_
 | refine aw_sregK 14 [2, 8, 39, 40, 41] ?_
 | refine aw_sregK 15 [2, 8, 39, 40, 41] ?_
 | refine aw_regK 16 [2, 8, 9, 10, 39, 40, 41] ?_
 | refine aw_regK 17 [2, 8, 39, 40, 41] ?_
 | refine aw_ifT (b := true) rfl rfl ?_
 | refine aw_seq ?_
 | refine aw_block ?_
 | refine aw_skip ?_)
  have hd : ¬(k : Int) < (ts.length : Int) := by omega
  have hke : k = ts.length := by omega
  subst hke
  rw [← hjf]
  refine aw_frz (.loc 1001) (by simp; exact rfl) ?_
  refine aw_frz (.loc 1002) (by simp; exact rfl) ?_
  repeat' (first
 | exact aw_ret (ret_vals (by simp; exact rfl) (by simp [*]; fail_if_success (show _)))
 | refine ar_end rfl ?_
 | refine ar_go3 _ rfl (by simp [hd]; exact ⟨rfl, rfl, rfl⟩) rfl ?_
 | refine aw_sregK 14 [2, 8, 39, 40, 41] ?_
 | refine aw_sregK 18 [2, 8] ?_
 | refine aw_ifF (b := false) rfl rfl ?_
 | refine aw_seq ?_
 | refine aw_exit ?_)
end Go.Eng
