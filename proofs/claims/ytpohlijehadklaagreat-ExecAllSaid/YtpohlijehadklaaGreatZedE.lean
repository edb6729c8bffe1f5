import Derived.Test.YtpohlijehadklaaGreatZedD
import Derived.Test.YtpohlijehadklaaGreatExecE
import Derived.Test.YtpohlijehadklaaGreatValsH
set_option linter.unusedSimpArgs false
set_option linter.unusedVariables false
set_option linter.constructorNameAsVariable false
set_option autoImplicit false
namespace Go.Eng
open Go Go.RowKit Go.Proofs
theorem join_rels {ts : List Rn} (h24 : evN ts ≤ 24) (hf : ∀ R ∈ ts, FineR R) : foldR (evN ts) (pJ ts q0 ts.length) = (joinF ts).po ∧ foldR (evN ts) (pJ ts q1 ts.length) = (joinF ts).ad ∧ foldR (evN ts) (pJ ts q2 ts.length) = (joinF ts).da ∧ foldR (evN ts) (pJ ts q3 ts.length) = (joinF ts).ct ∧ foldR (evN ts) (pJ ts q4 ts.length) = (joinF ts).rm := by
  obtain ⟨r1, r2, r3, r4, r5⟩ := join_rel (evN ts) ts ts.length (Nat.le_refl _)
  have b1 := relJ_bit (M := fun _ => allB) (rfl : evN ts = evN ts) (by omega) ts.length (Nat.le_refl _)
  have b2 := relJ_bit (M := fun R => mw R.ad) (rfl : evN ts = evN ts) (by omega) ts.length (Nat.le_refl _)
  have b3 := relJ_bit (M := fun R => mw R.da) (rfl : evN ts = evN ts) (by omega) ts.length (Nat.le_refl _)
  have b4 := relJ_bit (M := fun R => mw R.ct) (rfl : evN ts = evN ts) (by omega) ts.length (Nat.le_refl _)
  have b5 := rmJ_bit (rfl : evN ts = evN ts) (by omega) hf ts.length (Nat.le_refl _)
  rw [← r1] at b1
  rw [← r2] at b2
  rw [← r3] at b3
  rw [← r4] at b4
  rw [← r5] at b5
  have mem : ∀ j, j < ts.length → trN ts j ∈ ts := fun j hj => by rw [trN, getD_at hj]; exact List.getElem_mem hj
  have es8 : ∀ R ∈ ts, R.es.length ≤ 8 := fun R hR => (hf R hR).ok.es
  refine ⟨made_eq (by omega) b1.1 b1.2 fun j hj k hk i hi => ?_, made_eq (by omega) b2.1 b2.2 fun j hj k hk i hi => rfl, made_eq (by omega) b3.1 b3.2 fun j hj k hk i hi => rfl, made_eq (by omega) b4.1 b4.2 fun j hj k hk i hi => rfl, made_eq (by omega) b5.1 b5.2 fun j hj k hk i hi => ?_⟩
  · have := es8 _ (mem j hj)
    show true = (allB k).getLsbD i
    rw [allB_bit (by omega)]
    exact (decide_eq_true hi).symm
  · have h8 := es8 _ (mem j hj)
    have hp := (hf _ (mem j hj)).pair k hk
    have hl : k < (trN ts j).pa.length := by rw [(hf _ (mem j hj)).ok.pa]; exact hk
    show decide ((trN ts j).pa.getD k 0 = (i : Int)) = (pw ((trN ts j).pa.getD k 0)).getLsbD i
    rw [pw_bit (k := k) (by rw [getD_at hl]; exact hp) (by omega)]
set_option maxHeartbeats 16000000 in
theorem c_Join10 {ts : List Rn} (hn : ts.length ≤ 10) (hs : evN ts ≤ 24) (hf : ∀ R ∈ ts, FineR R) : SC Tryz.prog 16 [.pv (.sl 16 (trsL ts))] (.tup [.agg (exA (joinF ts)), I .i64 0]) := by
  have hM : maxLen = 9223372036854775807 := rfl
  have h8 : ∀ R ∈ ts, R.es.length ≤ 8 := fun R hR => (hf R hR).ok.es
  obtain ⟨m0, m1, m2, m3, m4⟩ := join_rels hs hf
  have hev0 : ¬(24 : Int) < (evN ts : Int) := by omega
  have htk := evN_take ts
  have hsc := fun i h => evN_succ (ts := ts) (i := i) h
  have hjl := join_len (evN ts) ts
  have hjr := join_rg (evN ts) ts
  have hjs : ∀ i, (h : i < ts.length) → (joinUp (evN ts) ts (i + 1)).es = (joinUp (evN ts) ts i).es ++ ts[i].es.map (thE i) ∧ (joinUp (evN ts) ts (i + 1)).rg = (joinUp (evN ts) ts i).rg ++ [[ts[i].v0, ts[i].v1, ts[i].v2, ts[i].v3]] := fun i h => by
    rw [joinUp, Ex.add, getD_at h]
    dsimp only
    rw [up_es _ _ _ _ _ (Nat.le_refl _), List.take_length]
    exact ⟨rfl, rfl⟩
  have hlen := fun Q i h => pJ_len h8 Q i h
  have hp0 : ∀ Q : Rn → Nat → Nat → Bool, pJ ts Q 0 = [] := fun Q => rfl
  have hj0 : (joinUp (evN ts) ts 0).es = [] ∧ (joinUp (evN ts) ts 0).rg = [] := ⟨rfl, rfl⟩
  have hpin := fun Q => pJ_in (ts := ts) (Q := Q)
  have hjF : joinUp (evN ts) ts ts.length = joinF ts := rfl
  refine scx_of Tryz.func16 rfl rfl rfl (Nat.le_of_ble_eq_true rfl) ?_
  repeat' (first
    | refine ar_end rfl ?_
    | refine ar_endD rfl (by kernel_rfl) ?_
    | refine ar_fin rfl ?_
    | refine ar_finD rfl (by kernel_rfl) ?_
    | refine ar_go3 _ rfl (by simp [trsL_len]; exact ⟨rfl, rfl, rfl⟩) rfl ?_
    | refine aw_sregK 0 [0] ?_
    | refine aw_regK 0 [0] ?_
    | refine aw_sregK 1 [0, 2] ?_
    | refine aw_regK 1 [0, 2] ?_
    | refine aw_sregK 2 [0, 2, 4] ?_
    | refine aw_regK 2 [0, 2, 4] ?_
    | refine aw_sregK 3 [0, 2, 4, 5] ?_
    | refine aw_regK 3 [0, 2, 4, 5] ?_
    | refine aw_sreg ?_
    | refine aw_sregD mixed ?_
    | refine aw_ifT (b := true) rfl rfl ?_
    | refine aw_ifF (b := false) rfl rfl ?_
    | refine aw_ifT rfl (by assumption) ?_
    | refine aw_ifF rfl (by assumption) ?_
    | refine aw_ifT rfl (decide_eq_true (by assumption)) ?_
    | refine aw_ifF rfl (decide_eq_false (by assumption)) ?_
    | refine aw_seq ?_
    | refine aw_block ?_
    | refine aw_skip ?_
    | refine aw_region ?_
    | refine aw_region_draw mixed ?_
    | refine aw_exit ?_
    | refine rq_exit ?_
    | refine blockQ_hit ?_
    | refine blockQ_miss (by decide) ?_)
  refine aw_loopN [0, 2, 4, 5, 6] [.loc 2, .loc 4] (by simp; exact rfl) (ι := {i : Nat // i ≤ ts.length}) (fun i => ⟨187, [(0, .pv (.sl 16 (trsL ts))), (2, .ptr (.loc 2) 0), (4, .ptr (.loc 4) 0), (5, I .i64 (evN (ts.take i.1))), (6, I .i64 i.1)], [(.loc 2, some (.box 40 [.pv (.v (.slice none 0 0)), .pv (.v (.slice none 0 0)), .pv (.v (.slice none 0 0)), .pv (.v (.slice none 0 0)), .pv (.v (.slice none 0 0)), .pv (.v (.slice none 0 0)), .pv (.v (.slice none 0 0))])), (.loc 4, some (.box 40 [.pv (.v (.slice none 0 0)), .pv (.v (.slice none 0 0)), .pv (.v (.slice none 0 0)), .pv (.v (.slice none 0 0)), .pv (.v (.slice none 0 0)), .pv (.v (.slice none 0 0)), .pv (.v (.slice none 0 0))]))]⟩) (fun i => ts.length - i.1) ⟨0, by omega⟩ (by simp [evN]) ?_
  rintro ⟨i, hi⟩
  by_cases hlt : i < ts.length
  · have hd : (i : Int) < (ts.length : Int) := by omega
    have hw : IntKind.wrap .i64 ((i : Int) + 1) = (i : Int) + 1 := wrap64s (by omega) (by omega)
    have h1 := hsc i hlt
    have h2 := htk (i + 1)
    generalize hx : ts[i] = R at *
    have hw2 : IntKind.wrap .i64 ((evN (ts.take i) : Int) + (R.es.length : Int)) = ((evN (ts.take (i + 1)) : Nat) : Int) := by rw [wrap64s (by omega) (by omega)]; omega
    repeat' (first
      | refine ar_end rfl ?_
      | refine ar_endD rfl (by kernel_rfl) ?_
      | refine ar_fin rfl ?_
      | refine ar_finD rfl (by kernel_rfl) ?_
      | refine bq_norm ?_
      | refine lq_normN [0, 2, 4, 5, 6] [.loc 2, .loc 4] (by simp; exact rfl) ⟨i + 1, by omega⟩ (by dsimp only; omega) (by simp [])
      | refine ar_go3 _ rfl (by simp [trsL_len, trsL_getE, trL, evsL_len, hd, hlt, hx, hw, hw2]; exact ⟨rfl, rfl, rfl⟩) rfl ?_
      | refine aw_sregK 4 [0, 2, 4, 5, 6] ?_
      | refine aw_regK 4 [0, 2, 4, 5, 6] ?_
      | refine aw_sregK 5 [0, 2, 4, 5, 6] ?_
      | refine aw_regK 5 [0, 2, 4, 5, 6] ?_
      | refine aw_sregK 6 [0, 2, 4, 5, 6] ?_
      | refine aw_regK 6 [0, 2, 4, 5, 6] ?_
      | refine aw_sreg ?_
      | refine aw_sregD mixed ?_
      | refine aw_ifT (b := true) rfl rfl ?_
      | refine aw_ifF (b := false) rfl rfl ?_
      | refine aw_ifT rfl (by assumption) ?_
      | refine aw_ifF rfl (by assumption) ?_
      | refine aw_ifT rfl (decide_eq_true (by assumption)) ?_
      | refine aw_ifF rfl (decide_eq_false (by assumption)) ?_
      | refine aw_seq ?_
      | refine aw_block ?_
      | refine aw_skip ?_
      | refine aw_region ?_
      | refine aw_region_draw mixed ?_
      | refine aw_exit ?_
      | refine rq_exit ?_
      | refine blockQ_hit ?_
      | refine blockQ_miss (by decide) ?_)
  have hd : ¬(i : Int) < (ts.length : Int) := by omega
  have hie : ts.take i = ts := List.take_of_length_le (by omega)
  rw [hie]
  repeat' (first
    | refine ar_end rfl ?_
    | refine ar_endD rfl (by kernel_rfl) ?_
    | refine ar_fin rfl ?_
    | refine ar_finD rfl (by kernel_rfl) ?_
    | refine lq_exit ?_
    | refine ar_go3 _ rfl (by simp [trsL_len, hd, hev0]; exact ⟨rfl, rfl, rfl⟩) rfl ?_
    | refine aw_sregK 4 [0, 2, 4, 5, 6] ?_
    | refine aw_regK 4 [0, 2, 4, 5, 6] ?_
    | refine aw_sregK 7 [0, 2, 4, 5] ?_
    | refine aw_regK 7 [0, 2, 4, 5] ?_
    | refine aw_sregK 9 [0, 2, 4, 5] ?_
    | refine aw_regK 9 [0, 2, 4, 5] ?_
    | refine aw_sreg ?_
    | refine aw_sregD mixed ?_
    | refine aw_ifT (b := true) rfl rfl ?_
    | refine aw_ifF (b := false) rfl rfl ?_
    | refine aw_ifT rfl (by assumption) ?_
    | refine aw_ifF rfl (by assumption) ?_
    | refine aw_ifT rfl (decide_eq_true (by assumption)) ?_
    | refine aw_ifF rfl (decide_eq_false (by assumption)) ?_
    | refine aw_seq ?_
    | refine aw_block ?_
    | refine aw_skip ?_
    | refine aw_region ?_
    | refine aw_region_draw mixed ?_
    | refine aw_exit ?_
    | refine rq_exit ?_
    | refine blockQ_hit ?_
    | refine blockQ_miss (by decide) ?_)
  refine aw_loopN [0, 2, 4, 5, 7] [.loc 2, .loc 4] (by simp; exact rfl) (ι := {i : Nat // i ≤ ts.length}) (fun i => ⟨187, [(0, .pv (.sl 16 (trsL ts))), (2, .ptr (.loc 2) 0), (4, .ptr (.loc 4) 0), (5, I .i64 (evN ts)), (7, I .i64 i.1)], [(.loc 2, some (.box 40 [.pv (.v (.slice none 0 0)), .pv (.v (.slice none 0 0)), .pv (.v (.slice none 0 0)), .pv (.v (.slice none 0 0)), .pv (.v (.slice none 0 0)), .pv (.v (.slice none 0 0)), .pv (.v (.slice none 0 0))])), (.loc 4, some (.box 40 [.pv (.v (.slice none 0 0)), .pv (.v (.slice none 0 0)), .pv (.v (.slice none 0 0)), .pv (.v (.slice none 0 0)), .pv (.v (.slice none 0 0)), .pv (.v (.slice none 0 0)), .pv (.v (.slice none 0 0))]))]⟩) (fun i => ts.length - i.1) ⟨0, by omega⟩ (by simp) ?_
  clear hd hie
  rintro ⟨i, hi⟩
  by_cases hlt : i < ts.length
  · have hd : (i : Int) < (ts.length : Int) := by omega
    have hw : IntKind.wrap .i64 ((i : Int) + 1) = (i : Int) + 1 := wrap64s (by omega) (by omega)
    have hF := c_fine10 (hf _ (List.getElem_mem hlt))
    generalize hx : ts[i] = R at *
    repeat' (first
      | refine ar_end rfl ?_
      | refine ar_endD rfl (by kernel_rfl) ?_
      | refine ar_fin rfl ?_
      | refine ar_finD rfl (by kernel_rfl) ?_
      | refine ar_callV Tryz.call41 hF rfl rfl rfl rfl rfl (by simp; done) (by rfl) (by simp; done) ?_
      | refine ar_callV_if Tryz.call41 hF rfl rfl rfl rfl rfl rfl (by simp; done) rfl (by rfl) (by simp; done) ?_
      | refine bq_norm ?_
      | refine lq_normN [0, 2, 4, 5, 7] [.loc 2, .loc 4] (by simp; exact rfl) ⟨i + 1, by omega⟩ (by dsimp only; omega) (by simp [])
      | refine ar_go3 _ rfl (by simp [trsL_len, trsL_getE, hd, hlt, hx, hw]; exact ⟨rfl, rfl, rfl⟩) rfl ?_
      | refine aw_sregK 10 [0, 2, 4, 5, 7] ?_
      | refine aw_regK 10 [0, 2, 4, 5, 7] ?_
      | refine aw_sregK 11 [0, 2, 4, 5, 7] ?_
      | refine aw_regK 11 [0, 2, 4, 5, 7] ?_
      | refine aw_sregK 12 [0, 2, 4, 5, 7] ?_
      | refine aw_regK 12 [0, 2, 4, 5, 7] ?_
      | refine aw_sreg ?_
      | refine aw_sregD mixed ?_
      | refine aw_ifT (b := true) rfl rfl ?_
      | refine aw_ifF (b := false) rfl rfl ?_
      | refine aw_ifT rfl (by assumption) ?_
      | refine aw_ifF rfl (by assumption) ?_
      | refine aw_ifT rfl (decide_eq_true (by assumption)) ?_
      | refine aw_ifF rfl (decide_eq_false (by assumption)) ?_
      | refine aw_seq ?_
      | refine aw_block ?_
      | refine aw_skip ?_
      | refine aw_region ?_
      | refine aw_region_draw mixed ?_
      | refine aw_exit ?_
      | refine rq_exit ?_
      | refine blockQ_hit ?_
      | refine blockQ_miss (by decide) ?_)
  have hd : ¬(i : Int) < (ts.length : Int) := by omega
  generalize hnn : evN ts = n at *
  repeat' (first
    | refine ar_end rfl ?_
    | refine ar_endD rfl (by kernel_rfl) ?_
    | refine ar_fin rfl ?_
    | refine ar_finD rfl (by kernel_rfl) ?_
    | refine lq_exit ?_
    | refine ar_go3 _ rfl (by simp [trsL_len, hd]; exact ⟨rfl, rfl, rfl⟩) rfl ?_
    | refine aw_sregK 10 [0, 2, 4, 5, 7] ?_
    | refine aw_regK 10 [0, 2, 4, 5, 7] ?_
    | refine aw_sregK 14 [0, 2, 4, 5] ?_
    | refine aw_regK 14 [0, 2, 4, 5] ?_
    | refine aw_sregK 15 [0, 2, 4, 5, 8, 9, 10, 11, 12] ?_
    | refine aw_regK 15 [0, 2, 4, 5, 8, 9, 10, 11, 12] ?_
    | refine aw_sreg ?_
    | refine aw_sregD mixed ?_
    | refine aw_ifT (b := true) rfl rfl ?_
    | refine aw_ifF (b := false) rfl rfl ?_
    | refine aw_ifT rfl (by assumption) ?_
    | refine aw_ifF rfl (by assumption) ?_
    | refine aw_ifT rfl (decide_eq_true (by assumption)) ?_
    | refine aw_ifF rfl (decide_eq_false (by assumption)) ?_
    | refine aw_seq ?_
    | refine aw_block ?_
    | refine aw_skip ?_
    | refine aw_region ?_
    | refine aw_region_draw mixed ?_
    | refine aw_exit ?_
    | refine rq_exit ?_
    | refine blockQ_hit ?_
    | refine blockQ_miss (by decide) ?_)
  refine aw_nil 8 (.loc 1008) 80 2 (by simp; exact rfl) ?_
  refine aw_nil 9 (.loc 1009) 80 2 (by simp; exact rfl) ?_
  refine aw_nil 10 (.loc 1010) 80 2 (by simp; exact rfl) ?_
  refine aw_nil 11 (.loc 1011) 80 2 (by simp; exact rfl) ?_
  refine aw_nil 12 (.loc 1012) 80 2 (by simp; exact rfl) ?_
  refine aw_nilC (.loc 4) 0 (.loc 1001) 104 7 (by simp; exact rfl) ?_
  refine aw_nilC (.loc 4) 6 (.loc 1002) 22 1 (by simp; exact rfl) ?_
  refine aw_loopN [0, 2, 4, 5, 8, 9, 10, 11, 12, 13] [.loc 2, .loc 4, .loc 1001, .loc 1002, .loc 1008, .loc 1009, .loc 1010, .loc 1011, .loc 1012] (by simp; exact rfl) (ι := {i : Nat // i ≤ ts.length}) (fun i => ⟨187, [(0, .pv (.sl 16 (trsL ts))), (2, .ptr (.loc 2) 0), (4, .ptr (.loc 4) 0), (5, I .i64 n), (8, .own (.loc 1008)), (9, .own (.loc 1009)), (10, .own (.loc 1010)), (11, .own (.loc 1011)), (12, .own (.loc 1012)), (13, I .i64 i.1)], [(.loc 2, some (.box 40 [.pv (.v (.slice none 0 0)), .pv (.v (.slice none 0 0)), .pv (.v (.slice none 0 0)), .pv (.v (.slice none 0 0)), .pv (.v (.slice none 0 0)), .pv (.v (.slice none 0 0)), .pv (.v (.slice none 0 0))])), (.loc 4, some (.box 40 [.own (.loc 1001), .pv (.v (.slice none 0 0)), .pv (.v (.slice none 0 0)), .pv (.v (.slice none 0 0)), .pv (.v (.slice none 0 0)), .pv (.v (.slice none 0 0)), .own (.loc 1002)])), (.loc 1001, some (.own 104 7 (evsL (joinUp n ts i.1).es))), (.loc 1002, some (.own 22 1 (rgL (joinUp n ts i.1).rg))), (.loc 1008, some (.own 80 2 (prs (pJ ts q0 i.1)))), (.loc 1009, some (.own 80 2 (prs (pJ ts q1 i.1)))), (.loc 1010, some (.own 80 2 (prs (pJ ts q2 i.1)))), (.loc 1011, some (.own 80 2 (prs (pJ ts q3 i.1)))), (.loc 1012, some (.own 80 2 (prs (pJ ts q4 i.1))))]⟩) (fun i => ts.length - i.1) ⟨0, by omega⟩ (by simp [hp0, hj0, evsL, rgL, prs]) ?_
  clear hd
  rintro ⟨i, hi⟩
  by_cases hlt : i < ts.length
  · have hd : (i : Int) < (ts.length : Int) := by omega
    have hw : IntKind.wrap .i64 ((i : Int) + 1) = (i : Int) + 1 := wrap64s (by omega) (by omega)
    obtain ⟨he1, he2⟩ := hjs i hlt
    have hel := hjl i hi
    have hgl := hjr i
    have hoff := hsc i hlt
    have ho2 := htk (i + 1)
    have hfk := hf _ (List.getElem_mem hlt)
    have hl0 := hlen q0 i hi
    have hn0 : pJ ts q0 (i + 1) = pJ ts q0 i ++ ptF (evN (ts.take i)) (q0 ts[i]) ts[i].es.length := by rw [pJ, trN, getD_at hlt]; rfl
    generalize pJ ts q0 i = P0 at *
    have hl1 := hlen q1 i hi
    have hn1 : pJ ts q1 (i + 1) = pJ ts q1 i ++ ptF (evN (ts.take i)) (q1 ts[i]) ts[i].es.length := by rw [pJ, trN, getD_at hlt]; rfl
    generalize pJ ts q1 i = P1 at *
    have hl2 := hlen q2 i hi
    have hn2 : pJ ts q2 (i + 1) = pJ ts q2 i ++ ptF (evN (ts.take i)) (q2 ts[i]) ts[i].es.length := by rw [pJ, trN, getD_at hlt]; rfl
    generalize pJ ts q2 i = P2 at *
    have hl3 := hlen q3 i hi
    have hn3 : pJ ts q3 (i + 1) = pJ ts q3 i ++ ptF (evN (ts.take i)) (q3 ts[i]) ts[i].es.length := by rw [pJ, trN, getD_at hlt]; rfl
    generalize pJ ts q3 i = P3 at *
    have hl4 := hlen q4 i hi
    have hn4 : pJ ts q4 (i + 1) = pJ ts q4 i ++ ptF (evN (ts.take i)) (q4 ts[i]) ts[i].es.length := by rw [pJ, trN, getD_at hlt]; rfl
    generalize pJ ts q4 i = P4 at *
    generalize (joinUp n ts i).es = E at *
    generalize (joinUp n ts i).rg = G at *
    generalize evN (ts.take i) = o at *
    generalize hx : ts[i] = R at *
    have ok := hfk.ok
    have hes := ok.es
    have hrl : (rgL G).length ≤ 1000 := by rw [rgL_len]; omega
    repeat' (first
      | refine ar_end rfl ?_
      | refine ar_endD rfl (by kernel_rfl) ?_
      | refine ar_fin rfl ?_
      | refine ar_finD rfl (by kernel_rfl) ?_
      | refine ar_go3 _ rfl (by simp [trsL_len, trsL_getE, trL, evsL_len, hd, hlt, hx, hel]; exact ⟨rfl, rfl, rfl⟩) rfl ?_
      | refine aw_sregK 16 [0, 2, 4, 5, 8, 9, 10, 11, 12, 13] ?_
      | refine aw_regK 16 [0, 2, 4, 5, 8, 9, 10, 11, 12, 13] ?_
      | refine aw_sregK 18 [0, 2, 4, 5, 8, 9, 10, 11, 12, 13] ?_
      | refine aw_regK 18 [0, 2, 4, 5, 8, 9, 10, 11, 12, 13] ?_
      | refine aw_sregK 19 [0, 2, 4, 5, 8, 9, 10, 11, 12, 13, 14] ?_
      | refine aw_regK 19 [0, 2, 4, 5, 8, 9, 10, 11, 12, 13, 14] ?_
      | refine aw_sregK 20 [0, 2, 4, 5, 8, 9, 10, 11, 12, 13, 14, 15] ?_
      | refine aw_regK 20 [0, 2, 4, 5, 8, 9, 10, 11, 12, 13, 14, 15] ?_
      | refine aw_sreg ?_
      | refine aw_sregD mixed ?_
      | refine aw_ifT (b := true) rfl rfl ?_
      | refine aw_ifF (b := false) rfl rfl ?_
      | refine aw_ifT rfl (by assumption) ?_
      | refine aw_ifF rfl (by assumption) ?_
      | refine aw_ifT rfl (decide_eq_true (by assumption)) ?_
      | refine aw_ifF rfl (decide_eq_false (by assumption)) ?_
      | refine aw_seq ?_
      | refine aw_block ?_
      | refine aw_skip ?_
      | refine aw_region ?_
      | refine aw_region_draw mixed ?_
      | refine aw_exit ?_
      | refine rq_exit ?_
      | refine blockQ_hit ?_
      | refine blockQ_miss (by decide) ?_)
    refine aw_loopN [0, 2, 4, 5, 8, 9, 10, 11, 12, 13, 14, 15, 16] [.loc 2, .loc 4, .loc 15, .loc 1001, .loc 1002, .loc 1008, .loc 1009, .loc 1010, .loc 1011, .loc 1012] (by simp; exact rfl) (KH ts n i o R E G P0 P1 P2 P3 P4) (fun k : {k : Nat // k ≤ R.es.length} => R.es.length - k.1) ⟨0, by omega⟩ (by simp [KH, ptF]) ?_
    intro kk
    by_cases hkl : kk.1 < R.es.length
    · exact c_Kround rfl hfk (by omega) hel (by omega) (by omega) (by omega) (by omega) (by omega) kk hkl
    obtain ⟨k, hk⟩ := kk
    dsimp only at hkl
    simp only [KH]
    have hd2 : ¬(k : Int) < (R.es.length : Int) := by omega
    have hke : k = R.es.length := by omega
    subst hke
    rw [List.take_length]
    have hrg : rgL (G ++ [[R.v0, R.v1, R.v2, R.v3]]) = rgL G ++ [[.sl 1 (ints [R.v0, R.v1, R.v2, R.v3])]] := by simp [rgL]
    repeat' (first
      | refine ar_end rfl ?_
      | refine ar_endD rfl (by kernel_rfl) ?_
      | refine ar_fin rfl ?_
      | refine ar_finD rfl (by kernel_rfl) ?_
      | refine lq_exit ?_
      | refine ar_frzT [162] rfl rfl (by simp; exact rfl) (by simp; exact rfl) (by simp; exact rfl) rfl (by simp; fail_if_success (show _)) ?_
      | refine ar_appO rfl rfl rfl rfl rfl (by simp; exact rfl) rfl (by simp; exact rfl) (by simp; exact rfl) (by simp; exact ⟨rfl, rfl⟩) rfl (by simp; exact rfl) (by simp; done) (by decide) (by simp [hrl, maxLen]; try omega) ?_
      | refine bq_norm ?_
      | refine lq_normRs [(.loc 164, .loc 1002)] [0, 2, 4, 5, 8, 9, 10, 11, 12, 13] [.loc 2, .loc 4, .loc 1001, .loc 1002, .loc 1008, .loc 1009, .loc 1010, .loc 1011, .loc 1012] (by simp; exact rfl) ⟨i + 1, by omega⟩ (by dsimp only; omega) (by simp [he1, he2, hn0, hn1, hn2, hn3, hn4, hrg, ints])
      | refine ar_go3 _ rfl (by simp [evsL_len, evsL_getE, evL, hd2, hw]; exact ⟨rfl, rfl, rfl⟩) rfl ?_
      | refine aw_sregK 17 [0, 2, 4, 5, 8, 9, 10, 11, 12, 13] ?_
      | refine aw_regK 17 [0, 2, 4, 5, 8, 9, 10, 11, 12, 13] ?_
      | refine aw_sregK 21 [0, 2, 4, 5, 8, 9, 10, 11, 12, 13, 14, 15, 16] ?_
      | refine aw_regK 21 [0, 2, 4, 5, 8, 9, 10, 11, 12, 13, 14, 15, 16] ?_
      | refine aw_sregK 39 [0, 2, 4, 5, 8, 9, 10, 11, 12, 13, 15] ?_
      | refine aw_regK 39 [0, 2, 4, 5, 8, 9, 10, 11, 12, 13, 15] ?_
      | refine aw_sreg ?_
      | refine aw_sregD mixed ?_
      | refine aw_ifT (b := true) rfl rfl ?_
      | refine aw_ifF (b := false) rfl rfl ?_
      | refine aw_ifT rfl (by assumption) ?_
      | refine aw_ifF rfl (by assumption) ?_
      | refine aw_ifT rfl (decide_eq_true (by assumption)) ?_
      | refine aw_ifF rfl (decide_eq_false (by assumption)) ?_
      | refine aw_seq ?_
      | refine aw_block ?_
      | refine aw_skip ?_
      | refine aw_region ?_
      | refine aw_region_draw mixed ?_
      | refine aw_exit ?_
      | refine rq_exit ?_
      | refine blockQ_hit ?_
      | refine blockQ_miss (by decide) ?_)
  have hd : ¬(i : Int) < (ts.length : Int) := by omega
  have hie : i = ts.length := by omega
  subst hie
  rw [hjF]
  have hc0 := c_made05 (n := n) (ps := pJ ts q0 ts.length) (by omega) (by have := hlen q0 ts.length (Nat.le_refl _); omega) (hpin q0)
  rw [m0] at hc0
  generalize pJ ts q0 ts.length = P0 at *
  have hc1 := c_made05 (n := n) (ps := pJ ts q1 ts.length) (by omega) (by have := hlen q1 ts.length (Nat.le_refl _); omega) (hpin q1)
  rw [m1] at hc1
  generalize pJ ts q1 ts.length = P1 at *
  have hc2 := c_made05 (n := n) (ps := pJ ts q2 ts.length) (by omega) (by have := hlen q2 ts.length (Nat.le_refl _); omega) (hpin q2)
  rw [m2] at hc2
  generalize pJ ts q2 ts.length = P2 at *
  have hc3 := c_made05 (n := n) (ps := pJ ts q3 ts.length) (by omega) (by have := hlen q3 ts.length (Nat.le_refl _); omega) (hpin q3)
  rw [m3] at hc3
  generalize pJ ts q3 ts.length = P3 at *
  have hc4 := c_made05 (n := n) (ps := pJ ts q4 ts.length) (by omega) (by have := hlen q4 ts.length (Nat.le_refl _); omega) (hpin q4)
  rw [m4] at hc4
  generalize pJ ts q4 ts.length = P4 at *
  refine aw_frz (.loc 1001) (by simp; exact rfl) ?_
  refine aw_frz (.loc 1002) (by simp; exact rfl) ?_
  refine aw_frz (.loc 1008) (by simp; exact rfl) ?_
  refine aw_frz (.loc 1009) (by simp; exact rfl) ?_
  refine aw_frz (.loc 1010) (by simp; exact rfl) ?_
  refine aw_frz (.loc 1011) (by simp; exact rfl) ?_
  refine aw_frz (.loc 1012) (by simp; exact rfl) ?_
  repeat' (first
    | exact aw_ret (ret_vals (by simp; exact rfl) (by simp [exA, hjF]; fail_if_success (show _)))
    | exact aw_ret (ret_vals (by simp; exact rfl) (by simp [exA, hjF]; omega))
    | refine ar_end rfl ?_
    | refine ar_endD rfl (by kernel_rfl) ?_
    | refine ar_fin rfl ?_
    | refine ar_finD rfl (by kernel_rfl) ?_
    | refine ar_callV Tryz.call43 (sco_sc hc0) rfl rfl rfl rfl rfl (by simp; done) (by rfl) (by simp; done) ?_
    | refine ar_callV_if Tryz.call43 (sco_sc hc0) rfl rfl rfl rfl rfl rfl (by simp; done) rfl (by rfl) (by simp; done) ?_
    | refine ar_callV Tryz.call43 (sco_sc hc1) rfl rfl rfl rfl rfl (by simp; done) (by rfl) (by simp; done) ?_
    | refine ar_callV_if Tryz.call43 (sco_sc hc1) rfl rfl rfl rfl rfl rfl (by simp; done) rfl (by rfl) (by simp; done) ?_
    | refine ar_callV Tryz.call43 (sco_sc hc2) rfl rfl rfl rfl rfl (by simp; done) (by rfl) (by simp; done) ?_
    | refine ar_callV_if Tryz.call43 (sco_sc hc2) rfl rfl rfl rfl rfl rfl (by simp; done) rfl (by rfl) (by simp; done) ?_
    | refine ar_callV Tryz.call43 (sco_sc hc3) rfl rfl rfl rfl rfl (by simp; done) (by rfl) (by simp; done) ?_
    | refine ar_callV_if Tryz.call43 (sco_sc hc3) rfl rfl rfl rfl rfl rfl (by simp; done) rfl (by rfl) (by simp; done) ?_
    | refine ar_callV Tryz.call43 (sco_sc hc4) rfl rfl rfl rfl rfl (by simp; done) (by rfl) (by simp; done) ?_
    | refine ar_callV_if Tryz.call43 (sco_sc hc4) rfl rfl rfl rfl rfl rfl (by simp; done) rfl (by rfl) (by simp; done) ?_
    | refine lq_exit ?_
    | refine ar_go3 _ rfl (by simp [trsL_len, hd, exA]; exact ⟨rfl, rfl, rfl⟩) rfl ?_
    | refine aw_sregK 16 [0, 2, 4, 5, 8, 9, 10, 11, 12, 13] ?_
    | refine aw_regK 16 [0, 2, 4, 5, 8, 9, 10, 11, 12, 13] ?_
    | refine aw_sregK 40 [2, 4, 5, 8, 9, 10, 11, 12] ?_
    | refine aw_regK 40 [2, 4, 5, 8, 9, 10, 11, 12] ?_
    | refine aw_sregK 41 [2, 4, 5, 9, 10, 11, 12] ?_
    | refine aw_regK 41 [2, 4, 5, 9, 10, 11, 12] ?_
    | refine aw_sregK 42 [2, 4, 5, 10, 11, 12] ?_
    | refine aw_regK 42 [2, 4, 5, 10, 11, 12] ?_
    | refine aw_sregK 43 [2, 4, 5, 11, 12] ?_
    | refine aw_regK 43 [2, 4, 5, 11, 12] ?_
    | refine aw_sregK 44 [2, 4, 5, 12] ?_
    | refine aw_regK 44 [2, 4, 5, 12] ?_
    | refine aw_sregK 45 [2, 4] ?_
    | refine aw_regK 45 [2, 4] ?_
    | refine aw_sreg ?_
    | refine aw_sregD mixed ?_
    | refine aw_ifT (b := true) rfl rfl ?_
    | refine aw_ifF (b := false) rfl rfl ?_
    | refine aw_ifT rfl (by assumption) ?_
    | refine aw_ifF rfl (by assumption) ?_
    | refine aw_ifT rfl (decide_eq_true (by assumption)) ?_
    | refine aw_ifF rfl (decide_eq_false (by assumption)) ?_
    | refine aw_seq ?_
    | refine aw_block ?_
    | refine aw_skip ?_
    | refine aw_region ?_
    | refine aw_region_draw mixed ?_
    | refine aw_exit ?_
    | refine rq_exit ?_
    | refine blockQ_hit ?_
    | refine blockQ_miss (by decide) ?_
    | (refine ar_guard rfl rfl rfl rfl (fun h => ?_) (fun h => ?_) <;> (fail_if_success (cases h; done)) <;> (try simp at h) <;> (try subst h))
    | (refine aw_both rfl (fun h => ?_) (fun h => ?_) <;> (fail_if_success (cases h; done)) <;> (try simp at h) <;> (try subst h)))
end Go.Eng
set_option linter.unusedSimpArgs false
set_option linter.unusedVariables false
set_option linter.constructorNameAsVariable false
set_option autoImplicit false
namespace Go.Eng
open Go Go.RowKit Go.Proofs
set_option maxHeartbeats 16000000 in
theorem c_All10 {i : List Int} {t : List (List In)} (hf : Few i t) (hth : ∀ th ∈ t, ∀ x ∈ th, wfIn x) : SC Tryz.prog 7 [.agg (testL i t)] (.tup [.pv (.sl 7 (exsL (allF i t).1)), I .i64 (allF i t).2]) := by
  have hM : maxLen = 9223372036854775807 := rfl
  have hO := c_r9Of hf hth
  have hw64 := of_ok64 (i := i) hth
  have hok := @of_ok i t
  unfold allF
  generalize ofF i t = p at *
  obtain ⟨l, e⟩ := p
  dsimp only at hO hw64 hok ⊢
  by_cases he : e = 0
  · subst he
    rw [if_pos rfl]
    obtain ⟨hlw, hl8⟩ := hw64 rfl
    have hok := hok rfl
    obtain ⟨hi3, ht3, hi1, _, hts⟩ := ok_facts hok
    have hfine := fun th h => traces_fine (locs := i.length) (hth th h) hlw
    have hcl := fun (th : List In) (h : th ∈ t) => c_r9Traces (th := th) (locs := (i.length : Int)) (vals := l) (by have := (hts th h).1.2; omega) (W64.small (by omega)) hl8
    have hll := fun th => traces_len (th := th) (locs := (i.length : Int)) hl8
    generalize hres : waysF i.length l t [[]] = res at *
    refine scx_of Tryz.func7 rfl rfl rfl (Nat.le_of_ble_eq_true rfl) ?_
    repeat' (first
      | refine ar_end rfl ?_
      | refine ar_endD rfl (by kernel_rfl) ?_
      | refine ar_fin rfl ?_
      | refine ar_finD rfl (by kernel_rfl) ?_
      | refine ar_callV Tryz.call14 hO rfl rfl rfl rfl rfl (by simp; done) (by rfl) (by simp; done) ?_
      | refine ar_callV_if Tryz.call14 hO rfl rfl rfl rfl rfl rfl (by simp; done) rfl (by rfl) (by simp; done) ?_
      | refine ar_go3 _ rfl (by simp [thsL_len]; exact ⟨rfl, rfl, rfl⟩) rfl ?_
      | refine aw_sregK 0 [0] ?_
      | refine aw_regK 0 [0] ?_
      | refine aw_sregK 1 [1] ?_
      | refine aw_regK 1 [1] ?_
      | refine aw_sregK 2 [1, 4, 5] ?_
      | refine aw_regK 2 [1, 4, 5] ?_
      | refine aw_sregK 4 [1, 4] ?_
      | refine aw_regK 4 [1, 4] ?_
      | refine aw_sregK 5 [1, 4, 6] ?_
      | refine aw_regK 5 [1, 4, 6] ?_
      | refine aw_sreg ?_
      | refine aw_sregD mixed ?_
      | refine aw_ifT (b := true) rfl rfl ?_
      | refine aw_ifF (b := false) rfl rfl ?_
      | refine aw_ifT rfl (by assumption) ?_
      | refine aw_ifF rfl (by assumption) ?_
      | refine aw_ifT rfl (decide_eq_true (by assumption)) ?_
      | refine aw_ifF rfl (decide_eq_false (by assumption)) ?_
      | refine aw_seq ?_
      | refine aw_block ?_
      | refine aw_skip ?_
      | refine aw_region ?_
      | refine aw_region_draw mixed ?_
      | refine aw_exit ?_
      | refine rq_exit ?_
      | refine blockQ_hit ?_
      | refine blockQ_miss (by decide) ?_
      | (refine ar_guard rfl rfl rfl rfl (fun h => ?_) (fun h => ?_) <;> (fail_if_success (cases h; done)) <;> (try simp at h) <;> (try subst h))
      | (refine aw_both rfl (fun h => ?_) (fun h => ?_) <;> (fail_if_success (cases h; done)) <;> (try simp at h) <;> (try subst h)))
    refine aw_frz (.loc 24) (by simp; exact rfl) ?_
    refine aw_impl (t := 6) (a' := .pv (.sl 1 (wsL [[]]))) rfl (fun ρ w v h => nil_in (es := 16) ρ w v h) ?_
    refine aw_loopN [1, 4, 6, 7] [.loc 1] (by simp; exact rfl) (ι := {p : Nat × List (List Rn) // p.1 ≤ t.length ∧ WaysOk p.1 p.2 ∧ p.2.length ≤ 20000 ∧ waysF i.length l (t.drop p.1) p.2 = res}) (fun p => ⟨95, [(1, .ptr (.loc 1) 0), (4, .pv (.sl 1 (ints l))), (6, .pv (.sl 1 (wsL p.1.2))), (7, I .i64 p.1.1)], [(.loc 1, some (.box 25 [.pv (.sl 1 (ints i)), .pv (.sl 1 (thsL t))]))]⟩) (fun p => t.length - p.1.1) ⟨(0, [[]]), by omega, ⟨by simp, by simp⟩, by simp, by simpa using hres⟩ (by simp [thsL_len]) ?_
    rintro ⟨⟨j, ws⟩, hj, hwo, hwl, hwr⟩
    dsimp only at hj hwo hwl hwr ⊢
    by_cases hlt : j < t.length
    · have hd : (j : Int) < (t.length : Int) := by omega
      have hw : IntKind.wrap .i64 ((j : Int) + 1) = (j : Int) + 1 := wrap64s (by omega) (by omega)
      have hT := hcl _ (List.getElem_mem hlt)
      have hF := hfine _ (List.getElem_mem hlt)
      have hl1 := hll t[j]
      rw [List.drop_eq_getElem_cons hlt, waysF] at hwr
      generalize hx : t[j] = th at *
      generalize tracesF th i.length l = ts at *
      have h1 := Nat.mul_le_mul hwl hl1
      have hcm : (ws.length : Int) * (ts.length : Int) = ((ws.length * ts.length : Nat) : Int) := (Int.natCast_mul _ _).symm
      have hnl := nextW_len ts ws
      generalize hP : ws.length * ts.length = PP at *
      have hprod : IntKind.wrap .i64 ((ws.length : Int) * (ts.length : Int)) = (PP : Int) := by rw [hcm]; exact wrap64s (by omega) (by omega)
      by_cases hbig : 20000 < PP
      · have hbig' : (20000 : Int) < (PP : Int) := by omega
        rw [if_pos hbig] at hwr
        subst hwr
        repeat' (first
          | refine ar_end rfl ?_
          | refine ar_endD rfl (by kernel_rfl) ?_
          | refine ar_fin rfl ?_
          | refine ar_finD rfl (by kernel_rfl) ?_
          | refine ar_callV Tryz.call15 hT rfl rfl rfl rfl rfl (by simp; done) (by rfl) (by simp; done) ?_
          | refine ar_callV_if Tryz.call15 hT rfl rfl rfl rfl rfl rfl (by simp; done) rfl (by rfl) (by simp; done) ?_
          | exact aw_ret (ret_nil 2 7 (by simp; exact rfl) (by simp [exsL]; fail_if_success (show _)))
          | refine aw_ret ?_
          | refine bq_ret ?_
          | refine lq_ret ?_
          | refine tq_ret ?_
          | exact ret_nil 2 7 (by simp; exact rfl) (by simp [exsL]; fail_if_success (show _))
          | refine ar_go3 _ rfl (by simp [thsL_len, thsL_getE, ints_len, wsL_len, trsL_len, hd, hlt, hx, hprod, hbig']; exact ⟨rfl, rfl, rfl⟩) rfl ?_
          | refine aw_sregK 6 [1, 4, 6, 7] ?_
          | refine aw_regK 6 [1, 4, 6, 7] ?_
          | refine aw_sregKD mixed 8 [1, 4, 6, 7] (by simp; exact rfl) ?_
          | refine aw_regKD mixed 8 [1, 4, 6, 7] (by simp; exact rfl) ?_
          | refine aw_sregK 9 [1, 4, 6, 7, 8] ?_
          | refine aw_regK 9 [1, 4, 6, 7, 8] ?_
          | refine aw_sregK 10 [] ?_
          | refine aw_regK 10 [] ?_
          | refine aw_sreg ?_
          | refine aw_sregD mixed ?_
          | refine aw_ifT (b := true) rfl rfl ?_
          | refine aw_ifF (b := false) rfl rfl ?_
          | refine aw_ifT rfl (by assumption) ?_
          | refine aw_ifF rfl (by assumption) ?_
          | refine aw_ifT rfl (decide_eq_true (by assumption)) ?_
          | refine aw_ifF rfl (decide_eq_false (by assumption)) ?_
          | refine aw_seq ?_
          | refine aw_block ?_
          | refine aw_skip ?_
          | refine aw_region ?_
          | refine aw_region_draw mixed ?_
          | refine aw_exit ?_
          | refine rq_exit ?_
          | refine blockQ_hit ?_
          | refine blockQ_miss (by decide) ?_
          | (refine ar_guard rfl rfl rfl rfl (fun h => ?_) (fun h => ?_) <;> (fail_if_success (cases h; done)) <;> (try simp at h) <;> (try subst h))
          | (refine aw_both rfl (fun h => ?_) (fun h => ?_) <;> (fail_if_success (cases h; done)) <;> (try simp at h) <;> (try subst h)))
      · have hbig' : ¬(20000 : Int) < (PP : Int) := by omega
        rw [if_neg hbig] at hwr
        repeat' (first
          | refine ar_end rfl ?_
          | refine ar_endD rfl (by kernel_rfl) ?_
          | refine ar_fin rfl ?_
          | refine ar_finD rfl (by kernel_rfl) ?_
          | refine ar_callV Tryz.call15 hT rfl rfl rfl rfl rfl (by simp; done) (by rfl) (by simp; done) ?_
          | refine ar_callV_if Tryz.call15 hT rfl rfl rfl rfl rfl rfl (by simp; done) rfl (by rfl) (by simp; done) ?_
          | refine ar_go3 _ rfl (by simp [thsL_len, thsL_getE, ints_len, wsL_len, trsL_len, hd, hlt, hx, hprod, hbig']; exact ⟨rfl, rfl, rfl⟩) rfl ?_
          | refine aw_sregK 6 [1, 4, 6, 7] ?_
          | refine aw_regK 6 [1, 4, 6, 7] ?_
          | refine aw_sregKD mixed 8 [1, 4, 6, 7] (by simp; exact rfl) ?_
          | refine aw_regKD mixed 8 [1, 4, 6, 7] (by simp; exact rfl) ?_
          | refine aw_sregK 9 [1, 4, 6, 7, 8] ?_
          | refine aw_regK 9 [1, 4, 6, 7, 8] ?_
          | refine aw_sregK 11 [1, 4, 6, 7, 8] ?_
          | refine aw_regK 11 [1, 4, 6, 7, 8] ?_
          | refine aw_sregK 12 [1, 4, 6, 7, 8, 9] ?_
          | refine aw_regK 12 [1, 4, 6, 7, 8, 9] ?_
          | refine aw_sreg ?_
          | refine aw_sregD mixed ?_
          | refine aw_ifT (b := true) rfl rfl ?_
          | refine aw_ifF (b := false) rfl rfl ?_
          | refine aw_ifT rfl (by assumption) ?_
          | refine aw_ifF rfl (by assumption) ?_
          | refine aw_ifT rfl (decide_eq_true (by assumption)) ?_
          | refine aw_ifF rfl (decide_eq_false (by assumption)) ?_
          | refine aw_seq ?_
          | refine aw_block ?_
          | refine aw_skip ?_
          | refine aw_region ?_
          | refine aw_region_draw mixed ?_
          | refine aw_exit ?_
          | refine rq_exit ?_
          | refine blockQ_hit ?_
          | refine blockQ_miss (by decide) ?_
          | (refine ar_guard rfl rfl rfl rfl (fun h => ?_) (fun h => ?_) <;> (fail_if_success (cases h; done)) <;> (try simp at h) <;> (try subst h))
          | (refine aw_both rfl (fun h => ?_) (fun h => ?_) <;> (fail_if_success (cases h; done)) <;> (try simp at h) <;> (try subst h)))
        refine aw_nil 9 (.loc 1000) 68 1 (by simp; exact rfl) ?_
        have hnw := hwo.next hF
        have hmul : ∀ k, k ≤ ws.length → k * ts.length ≤ 20000 := fun k h => by have := Nat.mul_le_mul_right ts.length h; omega
        refine aw_loopN [1, 4, 6, 7, 8, 9, 10] [.loc 1, .loc 1000] (by simp; exact rfl) (ι := {k : Nat // k ≤ ws.length}) (fun k => ⟨95, [(1, .ptr (.loc 1) 0), (4, .pv (.sl 1 (ints l))), (6, .pv (.sl 1 (wsL ws))), (7, I .i64 j), (8, .pv (.sl 16 (trsL ts))), (9, .own (.loc 1000)), (10, I .i64 k.1)], [(.loc 1, some (.box 25 [.pv (.sl 1 (ints i)), .pv (.sl 1 (thsL t))])), (.loc 1000, some (.own 68 1 (wsL (nextW ts (ws.take k.1)))))]⟩) (fun k => ws.length - k.1) ⟨0, by omega⟩ (by simp [nextW, wsL]) ?_
        rintro ⟨k, hk⟩
        by_cases hkl : k < ws.length
        · have hd2 : (k : Int) < (ws.length : Int) := by omega
          have hw2 : IntKind.wrap .i64 ((k : Int) + 1) = (k : Int) + 1 := wrap64s (by omega) (by omega)
          have hnt := nextW_take (ts := ts) hkl
          have hnn := nextW_len ts (ws.take k)
          rw [List.length_take, Nat.min_eq_left (by omega)] at hnn
          have hm1 := hmul (k + 1) (by omega)
          rw [Nat.succ_mul] at hm1
          have hwl1 := hwo.len _ (List.getElem_mem hkl)
          generalize hy : ws[k] = v at *
          generalize nextW ts (ws.take k) = W at *
          repeat' (first
            | refine ar_end rfl ?_
            | refine ar_endD rfl (by kernel_rfl) ?_
            | refine ar_fin rfl ?_
            | refine ar_finD rfl (by kernel_rfl) ?_
            | refine ar_go3 _ rfl (by simp [wsL_len, wsL_getE, trsL_len, hd2, hkl, hy]; exact ⟨rfl, rfl, rfl⟩) rfl ?_
            | refine aw_sregK 13 [1, 4, 6, 7, 8, 9, 10] ?_
            | refine aw_regK 13 [1, 4, 6, 7, 8, 9, 10] ?_
            | refine aw_sregK 15 [1, 4, 6, 7, 8, 9, 10] ?_
            | refine aw_regK 15 [1, 4, 6, 7, 8, 9, 10] ?_
            | refine aw_sreg ?_
            | refine aw_sregD mixed ?_
            | refine aw_ifT (b := true) rfl rfl ?_
            | refine aw_ifF (b := false) rfl rfl ?_
            | refine aw_ifT rfl (by assumption) ?_
            | refine aw_ifF rfl (by assumption) ?_
            | refine aw_ifT rfl (decide_eq_true (by assumption)) ?_
            | refine aw_ifF rfl (decide_eq_false (by assumption)) ?_
            | refine aw_seq ?_
            | refine aw_block ?_
            | refine aw_skip ?_
            | refine aw_region ?_
            | refine aw_region_draw mixed ?_
            | refine aw_exit ?_
            | refine rq_exit ?_
            | refine blockQ_hit ?_
            | refine blockQ_miss (by decide) ?_
            | (refine ar_guard rfl rfl rfl rfl (fun h => ?_) (fun h => ?_) <;> (fail_if_success (cases h; done)) <;> (try simp at h) <;> (try subst h))
            | (refine aw_both rfl (fun h => ?_) (fun h => ?_) <;> (fail_if_success (cases h; done)) <;> (try simp at h) <;> (try subst h)))
          refine aw_loopN [1, 4, 6, 7, 8, 9, 10, 11] [.loc 1, .loc 1000] (by simp; exact rfl) (ι := {m : Nat // m ≤ ts.length}) (fun m => ⟨95, [(1, .ptr (.loc 1) 0), (4, .pv (.sl 1 (ints l))), (6, .pv (.sl 1 (wsL ws))), (7, I .i64 j), (8, .pv (.sl 16 (trsL ts))), (9, .own (.loc 1000)), (10, I .i64 k), (11, I .i64 m.1)], [(.loc 1, some (.box 25 [.pv (.sl 1 (ints i)), .pv (.sl 1 (thsL t))])), (.loc 1000, some (.own 68 1 (wsL (W ++ oneW (ts.take m.1) v))))]⟩) (fun m => ts.length - m.1) ⟨0, by omega⟩ (by simp [oneW, wsL]) ?_
          rintro ⟨m, hm⟩
          by_cases hml : m < ts.length
          · have hd3 : (m : Int) < (ts.length : Int) := by omega
            have hw3 : IntKind.wrap .i64 ((m : Int) + 1) = (m : Int) + 1 := wrap64s (by omega) (by omega)
            have hot := oneW_take (w := v) hml
            have hol := oneW_len (ts.take m) v
            rw [List.length_take, Nat.min_eq_left (by omega)] at hol
            generalize hz : ts[m] = R at *
            generalize oneW (ts.take m) v = O at *
            have hfin : wsL (W ++ oneW (ts.take (m + 1)) v) = wsL (W ++ O) ++ [[.sl 16 (trsL v ++ [trL R])]] := by rw [hot, ← List.append_assoc, wsL_app]; simp [wsL, trsL]
            have hlen : (wsL (W ++ O)).length = W.length + O.length := by rw [wsL_len, List.length_append]
            generalize wsL (W ++ O) = WO at *
            repeat' (first
              | refine ar_end rfl ?_
              | refine ar_endD rfl (by kernel_rfl) ?_
              | refine ar_fin rfl ?_
              | refine ar_finD rfl (by kernel_rfl) ?_
              | refine ar_frzT [72] rfl rfl (by simp; exact rfl) (by simp; exact rfl) (by simp; exact rfl) rfl (by simp; fail_if_success (show _)) ?_
              | refine ar_appO rfl rfl rfl rfl rfl (by simp; exact rfl) rfl (by simp; exact rfl) (by simp; exact rfl) (by simp; exact ⟨rfl, rfl⟩) rfl (by simp; exact rfl) (by simp; done) (by decide) (by simp [hlen, trsL_len, maxLen]; try omega) ?_
              | refine bq_norm ?_
              | refine lq_normR (.loc 74) (.loc 1000) [1, 4, 6, 7, 8, 9, 10, 11] [.loc 1, .loc 1000] (by simp; exact rfl) ⟨m + 1, by omega⟩ (by dsimp only; omega) (by simp [hfin])
              | refine ar_go3 _ rfl (by simp [wsL_len, wsL_getE, hkl, hy, trsL_len, trsL_getE, hd3, hml, hz, hw3]; exact ⟨rfl, rfl, rfl⟩) rfl ?_
              | refine aw_sregK 16 [1, 4, 6, 7, 8, 9, 10, 11] ?_
              | refine aw_regK 16 [1, 4, 6, 7, 8, 9, 10, 11] ?_
              | refine aw_sregK 17 [1, 4, 6, 7, 8, 9, 10, 11] ?_
              | refine aw_regK 17 [1, 4, 6, 7, 8, 9, 10, 11] ?_
              | refine aw_sregKD mixed 18 [1, 4, 6, 7, 8, 9, 10, 11] (by simp; exact rfl) ?_
              | refine aw_regKD mixed 18 [1, 4, 6, 7, 8, 9, 10, 11] (by simp; exact rfl) ?_
              | refine aw_sreg ?_
              | refine aw_sregD mixed ?_
              | refine aw_ifT (b := true) rfl rfl ?_
              | refine aw_ifF (b := false) rfl rfl ?_
              | refine aw_ifT rfl (by assumption) ?_
              | refine aw_ifF rfl (by assumption) ?_
              | refine aw_ifT rfl (decide_eq_true (by assumption)) ?_
              | refine aw_ifF rfl (decide_eq_false (by assumption)) ?_
              | refine aw_seq ?_
              | refine aw_block ?_
              | refine aw_skip ?_
              | refine aw_region ?_
              | refine aw_region_draw mixed ?_
              | refine aw_exit ?_
              | refine rq_exit ?_
              | refine blockQ_hit ?_
              | refine blockQ_miss (by decide) ?_
              | (refine ar_guard rfl rfl rfl rfl (fun h => ?_) (fun h => ?_) <;> (fail_if_success (cases h; done)) <;> (try simp at h) <;> (try subst h))
              | (refine aw_both rfl (fun h => ?_) (fun h => ?_) <;> (fail_if_success (cases h; done)) <;> (try simp at h) <;> (try subst h)))
          have hd3 : ¬(m : Int) < (ts.length : Int) := by omega
          have hme : ts.take m = ts := List.take_of_length_le (by omega)
          rw [hme, ← hnt]
          repeat' (first
            | refine ar_end rfl ?_
            | refine ar_endD rfl (by kernel_rfl) ?_
            | refine ar_fin rfl ?_
            | refine ar_finD rfl (by kernel_rfl) ?_
            | refine lq_exit ?_
            | refine bq_norm ?_
            | refine lq_normN [1, 4, 6, 7, 8, 9, 10] [.loc 1, .loc 1000] (by simp; exact rfl) ⟨k + 1, by omega⟩ (by dsimp only; omega) (by simp [])
            | refine ar_go3 _ rfl (by simp [trsL_len, hd3, hw2]; exact ⟨rfl, rfl, rfl⟩) rfl ?_
            | refine aw_sregK 14 [1, 4, 6, 7, 8, 9, 10] ?_
            | refine aw_regK 14 [1, 4, 6, 7, 8, 9, 10] ?_
            | refine aw_sregK 16 [1, 4, 6, 7, 8, 9, 10, 11] ?_
            | refine aw_regK 16 [1, 4, 6, 7, 8, 9, 10, 11] ?_
            | refine aw_sreg ?_
            | refine aw_sregD mixed ?_
            | refine aw_ifT (b := true) rfl rfl ?_
            | refine aw_ifF (b := false) rfl rfl ?_
            | refine aw_ifT rfl (by assumption) ?_
            | refine aw_ifF rfl (by assumption) ?_
            | refine aw_ifT rfl (decide_eq_true (by assumption)) ?_
            | refine aw_ifF rfl (decide_eq_false (by assumption)) ?_
            | refine aw_seq ?_
            | refine aw_block ?_
            | refine aw_skip ?_
            | refine aw_region ?_
            | refine aw_region_draw mixed ?_
            | refine aw_exit ?_
            | refine rq_exit ?_
            | refine blockQ_hit ?_
            | refine blockQ_miss (by decide) ?_
            | (refine ar_guard rfl rfl rfl rfl (fun h => ?_) (fun h => ?_) <;> (fail_if_success (cases h; done)) <;> (try simp at h) <;> (try subst h))
            | (refine aw_both rfl (fun h => ?_) (fun h => ?_) <;> (fail_if_success (cases h; done)) <;> (try simp at h) <;> (try subst h)))
        have hd2 : ¬(k : Int) < (ws.length : Int) := by omega
        have hke : ws.take k = ws := List.take_of_length_le (by omega)
        rw [hke]
        generalize nextW ts ws = W at *
        repeat' (first
          | refine ar_end rfl ?_
          | refine ar_endD rfl (by kernel_rfl) ?_
          | refine ar_fin rfl ?_
          | refine ar_finD rfl (by kernel_rfl) ?_
          | refine lq_exit ?_
          | refine lq_normF (.loc 1000) [1, 4, 6, 7] [.loc 1] (by simp; exact rfl) ⟨(j + 1, W), by dsimp only; omega, hnw, by dsimp only; omega, hwr⟩ (by dsimp only; omega) (by simp)
          | refine ar_go3 _ rfl (by simp [wsL_len, hd2, hw]; exact ⟨rfl, rfl, rfl⟩) rfl ?_
          | refine aw_sregK 7 [1, 4, 6, 7] ?_
          | refine aw_regK 7 [1, 4, 6, 7] ?_
          | refine aw_sregK 13 [1, 4, 6, 7, 8, 9, 10] ?_
          | refine aw_regK 13 [1, 4, 6, 7, 8, 9, 10] ?_
          | refine aw_sregK 19 [1, 4, 7, 9] ?_
          | refine aw_regK 19 [1, 4, 7, 9] ?_
          | refine aw_sreg ?_
          | refine aw_sregD mixed ?_
          | refine aw_ifT (b := true) rfl rfl ?_
          | refine aw_ifF (b := false) rfl rfl ?_
          | refine aw_ifT rfl (by assumption) ?_
          | refine aw_ifF rfl (by assumption) ?_
          | refine aw_ifT rfl (decide_eq_true (by assumption)) ?_
          | refine aw_ifF rfl (decide_eq_false (by assumption)) ?_
          | refine aw_seq ?_
          | refine aw_block ?_
          | refine aw_skip ?_
          | refine aw_region ?_
          | refine aw_region_draw mixed ?_
          | refine aw_exit ?_
          | refine rq_exit ?_
          | refine blockQ_hit ?_
          | refine blockQ_miss (by decide) ?_
          | (refine ar_guard rfl rfl rfl rfl (fun h => ?_) (fun h => ?_) <;> (fail_if_success (cases h; done)) <;> (try simp at h) <;> (try subst h))
          | (refine aw_both rfl (fun h => ?_) (fun h => ?_) <;> (fail_if_success (cases h; done)) <;> (try simp at h) <;> (try subst h)))
    have hd : ¬(j : Int) < (t.length : Int) := by omega
    have hjt : j = t.length := by omega
    rw [List.drop_eq_nil_of_le (by omega), waysF] at hwr
    subst hwr
    dsimp only
    repeat' (first
      | refine ar_end rfl ?_
      | refine ar_endD rfl (by kernel_rfl) ?_
      | refine ar_fin rfl ?_
      | refine ar_finD rfl (by kernel_rfl) ?_
      | refine lq_exit ?_
      | refine ar_go3 _ rfl (by simp [thsL_len, wsL_len, hd]; exact ⟨rfl, rfl, rfl⟩) rfl ?_
      | refine aw_sregK 6 [1, 4, 6, 7] ?_
      | refine aw_regK 6 [1, 4, 6, 7] ?_
      | refine aw_sregK 20 [6] ?_
      | refine aw_regK 20 [6] ?_
      | refine aw_sregK 21 [6, 12] ?_
      | refine aw_regK 21 [6, 12] ?_
      | refine aw_sreg ?_
      | refine aw_sregD mixed ?_
      | refine aw_ifT (b := true) rfl rfl ?_
      | refine aw_ifF (b := false) rfl rfl ?_
      | refine aw_ifT rfl (by assumption) ?_
      | refine aw_ifF rfl (by assumption) ?_
      | refine aw_ifT rfl (decide_eq_true (by assumption)) ?_
      | refine aw_ifF rfl (decide_eq_false (by assumption)) ?_
      | refine aw_seq ?_
      | refine aw_block ?_
      | refine aw_skip ?_
      | refine aw_region ?_
      | refine aw_region_draw mixed ?_
      | refine aw_exit ?_
      | refine rq_exit ?_
      | refine blockQ_hit ?_
      | refine blockQ_miss (by decide) ?_
      | (refine ar_guard rfl rfl rfl rfl (fun h => ?_) (fun h => ?_) <;> (fail_if_success (cases h; done)) <;> (try simp at h) <;> (try subst h))
      | (refine aw_both rfl (fun h => ?_) (fun h => ?_) <;> (fail_if_success (cases h; done)) <;> (try simp at h) <;> (try subst h)))
    refine aw_nil 12 (.loc 1000) 40 7 (by simp; exact rfl) ?_
    have hjoin : ∀ w ∈ ws, SC Tryz.prog 16 [.pv (.sl 16 (trsL w))] (.tup [.agg (exA (joinF w)), I .i64 0]) := fun w hw => by
      have h1 := hwo.len w hw
      have h2 := evN_le (hwo.ok w hw)
      exact c_Join10 (by omega) (by omega) (hwo.ok w hw)
    have hwr2 : ∀ k, (h : k < ws.length) → exsT ws (k + 1) = exsT ws k ++ [exA (joinF ws[k])] := fun k h => by
      unfold exsT
      rw [List.take_add_one, List.getElem?_eq_getElem h, List.map_append]; simp [exsL]
    have hxl : ∀ k, k ≤ ws.length → (exsT ws k).length = k := fun k h => by unfold exsT; rw [exsL_len, List.length_map, List.length_take]; omega
    have hxe : exsT ws ws.length = exsL (ws.map joinF) := by unfold exsT; rw [List.take_length]
    refine aw_loopN [6, 12, 13] [.loc 1000] (by simp; exact rfl) (ι := {k : Nat // k ≤ ws.length}) (fun k => ⟨95, [(6, .pv (.sl 1 (wsL ws))), (12, .own (.loc 1000)), (13, I .i64 k.1)], [(.loc 1000, some (.own 40 7 (exsT ws k.1)))]⟩) (fun k => ws.length - k.1) ⟨0, by omega⟩ (by simp [exsT, exsL, wsL_len]) ?_
    rintro ⟨k, hk⟩
    by_cases hkl : k < ws.length
    · have hd2 : (k : Int) < (ws.length : Int) := by omega
      have hw2 : IntKind.wrap .i64 ((k : Int) + 1) = (k : Int) + 1 := wrap64s (by omega) (by omega)
      have hJ := hjoin _ (List.getElem_mem hkl)
      have hst := hwr2 k hkl
      have hxl := hxl k hk
      generalize hy : ws[k] = v at *
      generalize joinF v = E0 at *
      generalize exsT ws k = X at *
      repeat' (first
        | refine ar_end rfl ?_
        | refine ar_endD rfl (by kernel_rfl) ?_
        | refine ar_fin rfl ?_
        | refine ar_finD rfl (by kernel_rfl) ?_
        | refine ar_callV Tryz.call16 hJ rfl rfl rfl rfl rfl (by simp; done) (by rfl) (by simp; done) ?_
        | refine ar_callV_if Tryz.call16 hJ rfl rfl rfl rfl rfl rfl (by simp; done) rfl (by rfl) (by simp; done) ?_
        | refine ar_appO rfl rfl rfl rfl rfl (by simp; exact rfl) rfl (by simp; exact rfl) (by simp; exact rfl) (by simp; exact ⟨rfl, rfl⟩) rfl (by simp; exact rfl) (by simp; done) (by decide) (by simp [hxl, maxLen]; try omega) ?_
        | refine bq_norm ?_
        | refine lq_normR (.loc 93) (.loc 1000) [6, 12, 13] [.loc 1000] (by simp; exact rfl) ⟨k + 1, by omega⟩ (by dsimp only; omega) (by simp [hst])
        | refine ar_go3 _ rfl (by simp [wsL_len, wsL_getE, hd2, hkl, hy, hw2]; exact ⟨rfl, rfl, rfl⟩) rfl ?_
        | refine aw_sregK 22 [6, 12, 13] ?_
        | refine aw_regK 22 [6, 12, 13] ?_
        | refine aw_sregK 23 [6, 12, 13] ?_
        | refine aw_regK 23 [6, 12, 13] ?_
        | refine aw_sregK 24 [6, 12, 13] ?_
        | refine aw_regK 24 [6, 12, 13] ?_
        | refine aw_sregK 25 [6, 12, 13, 14] ?_
        | refine aw_regK 25 [6, 12, 13, 14] ?_
        | refine aw_sreg ?_
        | refine aw_sregD mixed ?_
        | refine aw_ifT (b := true) rfl rfl ?_
        | refine aw_ifF (b := false) rfl rfl ?_
        | refine aw_ifT rfl (by assumption) ?_
        | refine aw_ifF rfl (by assumption) ?_
        | refine aw_ifT rfl (decide_eq_true (by assumption)) ?_
        | refine aw_ifF rfl (decide_eq_false (by assumption)) ?_
        | refine aw_seq ?_
        | refine aw_block ?_
        | refine aw_skip ?_
        | refine aw_region ?_
        | refine aw_region_draw mixed ?_
        | refine aw_exit ?_
        | refine rq_exit ?_
        | refine blockQ_hit ?_
        | refine blockQ_miss (by decide) ?_
        | (refine ar_guard rfl rfl rfl rfl (fun h => ?_) (fun h => ?_) <;> (fail_if_success (cases h; done)) <;> (try simp at h) <;> (try subst h))
        | (refine aw_both rfl (fun h => ?_) (fun h => ?_) <;> (fail_if_success (cases h; done)) <;> (try simp at h) <;> (try subst h)))
    have hd2 : ¬(k : Int) < (ws.length : Int) := by omega
    have hke : k = ws.length := by omega
    subst hke
    rw [hxe]
    refine aw_frz (.loc 1000) (by simp; exact rfl) ?_
    repeat' (first
      | exact aw_ret (ret_vals (by simp; exact rfl) (by simp [*]; fail_if_success (show _)))
      | exact aw_ret (ret_vals (by simp; exact rfl) (by simp [*]; omega))
      | refine ar_end rfl ?_
      | refine ar_endD rfl (by kernel_rfl) ?_
      | refine ar_fin rfl ?_
      | refine ar_finD rfl (by kernel_rfl) ?_
      | refine lq_exit ?_
      | refine ar_go3 _ rfl (by simp [wsL_len, hd2]; exact ⟨rfl, rfl, rfl⟩) rfl ?_
      | refine aw_sregK 22 [6, 12, 13] ?_
      | refine aw_regK 22 [6, 12, 13] ?_
      | refine aw_sregK 26 [12] ?_
      | refine aw_regK 26 [12] ?_
      | refine aw_sreg ?_
      | refine aw_sregD mixed ?_
      | refine aw_ifT (b := true) rfl rfl ?_
      | refine aw_ifF (b := false) rfl rfl ?_
      | refine aw_ifT rfl (by assumption) ?_
      | refine aw_ifF rfl (by assumption) ?_
      | refine aw_ifT rfl (decide_eq_true (by assumption)) ?_
      | refine aw_ifF rfl (decide_eq_false (by assumption)) ?_
      | refine aw_seq ?_
      | refine aw_block ?_
      | refine aw_skip ?_
      | refine aw_region ?_
      | refine aw_region_draw mixed ?_
      | refine aw_exit ?_
      | refine rq_exit ?_
      | refine blockQ_hit ?_
      | refine blockQ_miss (by decide) ?_
      | (refine ar_guard rfl rfl rfl rfl (fun h => ?_) (fun h => ?_) <;> (fail_if_success (cases h; done)) <;> (try simp at h) <;> (try subst h))
      | (refine aw_both rfl (fun h => ?_) (fun h => ?_) <;> (fail_if_success (cases h; done)) <;> (try simp at h) <;> (try subst h)))
  · rw [if_neg he]
    refine scx_of Tryz.func7 rfl rfl rfl (Nat.le_of_ble_eq_true rfl) ?_
    repeat' (first
      | refine ar_end rfl ?_
      | refine ar_endD rfl (by kernel_rfl) ?_
      | refine ar_fin rfl ?_
      | refine ar_finD rfl (by kernel_rfl) ?_
      | refine ar_callV Tryz.call14 hO rfl rfl rfl rfl rfl (by simp; done) (by rfl) (by simp; done) ?_
      | refine ar_callV_if Tryz.call14 hO rfl rfl rfl rfl rfl rfl (by simp; done) rfl (by rfl) (by simp; done) ?_
      | exact aw_ret (ret_nil 2 7 (by simp; exact rfl) (by simp [exsL]; fail_if_success (show _)))
      | refine aw_ret ?_
      | refine bq_ret ?_
      | refine lq_ret ?_
      | refine tq_ret ?_
      | exact ret_nil 2 7 (by simp; exact rfl) (by simp [exsL]; fail_if_success (show _))
      | refine ar_go3 _ rfl (by simp [he]; exact ⟨rfl, rfl, rfl⟩) rfl ?_
      | refine aw_sregK 0 [0] ?_
      | refine aw_regK 0 [0] ?_
      | refine aw_sregK 1 [1] ?_
      | refine aw_regK 1 [1] ?_
      | refine aw_sregK 2 [1, 4, 5] ?_
      | refine aw_regK 2 [1, 4, 5] ?_
      | refine aw_sregK 3 [5] ?_
      | refine aw_regK 3 [5] ?_
      | refine aw_sreg ?_
      | refine aw_sregD mixed ?_
      | refine aw_ifT (b := true) rfl rfl ?_
      | refine aw_ifF (b := false) rfl rfl ?_
      | refine aw_ifT rfl (by assumption) ?_
      | refine aw_ifF rfl (by assumption) ?_
      | refine aw_ifT rfl (decide_eq_true (by assumption)) ?_
      | refine aw_ifF rfl (decide_eq_false (by assumption)) ?_
      | refine aw_seq ?_
      | refine aw_block ?_
      | refine aw_skip ?_
      | refine aw_region ?_
      | refine aw_region_draw mixed ?_
      | refine aw_exit ?_
      | refine rq_exit ?_
      | refine blockQ_hit ?_
      | refine blockQ_miss (by decide) ?_
      | (refine ar_guard rfl rfl rfl rfl (fun h => ?_) (fun h => ?_) <;> (fail_if_success (cases h; done)) <;> (try simp at h) <;> (try subst h))
      | (refine aw_both rfl (fun h => ?_) (fun h => ?_) <;> (fail_if_success (cases h; done)) <;> (try simp at h) <;> (try subst h)))
end Go.Eng
