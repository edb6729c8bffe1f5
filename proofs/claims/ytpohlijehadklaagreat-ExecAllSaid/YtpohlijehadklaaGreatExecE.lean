import Derived.Test.YtpohlijehadklaaGreatExecB
import Derived.Test.YtpohlijehadklaaGreatValsJ
import Derived.Test.YtpohlijehadklaaGreatExecC
set_option linter.unusedSimpArgs false
set_option linter.unusedVariables false
set_option linter.constructorNameAsVariable false
set_option autoImplicit false
namespace Go.Eng
open Go Go.RowKit Go.Proofs
def wsL (ws : List (List Rn)) : List (List PV) := ws.map fun w => [.sl 16 (trsL w)]
theorem wsL_len {ws : List (List Rn)} : (wsL ws).length = ws.length := by simp [wsL]
theorem wsL_getE {ws : List (List Rn)} {i : Nat} (h : i < (wsL ws).length) : (wsL ws)[i] = [.sl 16 (trsL (ws[i]'(by simpa [wsL] using h)))] := by simp [wsL]
theorem wsL_app (a b : List (List Rn)) : wsL (a ++ b) = wsL a ++ wsL b := by simp [wsL]
def exsL (l : List Ex) : List (List PV) := l.map exA
theorem exsL_len {l : List Ex} : (exsL l).length = l.length := by simp [exsL]
theorem exsL_getE {l : List Ex} {i : Nat} (h : i < (exsL l).length) : (exsL l)[i] = exA (l[i]'(by simpa [exsL] using h)) := by simp [exsL]
def exsT (ws : List (List Rn)) (k : Nat) : List (List PV) := exsL ((ws.take k).map joinF)
def oneW (ts : List Rn) (w : List Rn) : List (List Rn) := ts.map fun x => w ++ [x]
def nextW (ts : List Rn) (ws : List (List Rn)) : List (List Rn) := ws.flatMap (oneW ts)
def waysF (L : Int) (l : List Int) : List (List In) → List (List Rn) → Option (List (List Rn))
  | [], ws => some ws
  | th :: t, ws => if 20000 < ws.length * (tracesF th L l).length then none else waysF L l t (nextW (tracesF th L l) ws)
def allF (i : List Int) (t : List (List In)) : List Ex × Int :=
  if (ofF i t).2 = 0 then (match waysF i.length (ofF i t).1 t [[]] with | some ws => (ws.map joinF, 0) | none => ([], 3)) else ([], (ofF i t).2)
theorem oneW_len (ts : List Rn) (w : List Rn) : (oneW ts w).length = ts.length := by simp [oneW]
theorem oneW_take {ts : List Rn} {w : List Rn} {i : Nat} (h : i < ts.length) : oneW (ts.take (i + 1)) w = oneW (ts.take i) w ++ [w ++ [ts[i]]] := by
  unfold oneW
  rw [List.take_add_one, List.getElem?_eq_getElem h, List.map_append]; rfl
theorem nextW_len (ts : List Rn) : ∀ ws : List (List Rn), (nextW ts ws).length = ws.length * ts.length
  | [] => by simp [nextW]
  | w :: ws => by
    have := nextW_len ts ws
    unfold nextW at this ⊢
    rw [List.flatMap_cons, List.length_append, oneW_len, this, List.length_cons, Nat.succ_mul, Nat.add_comm]
theorem nextW_take {ts : List Rn} {ws : List (List Rn)} {k : Nat} (h : k < ws.length) : nextW ts (ws.take (k + 1)) = nextW ts (ws.take k) ++ oneW ts ws[k] := by
  unfold nextW
  exact (flat_take (oneW ts) h).1
/-- What the ways hold: so many traces, each fine. -/
structure WaysOk (n : Nat) (ws : List (List Rn)) : Prop where
  len : ∀ w ∈ ws, w.length = n
  ok : ∀ w ∈ ws, ∀ R ∈ w, FineR R
theorem WaysOk.next {n : Nat} {ws : List (List Rn)} (h : WaysOk n ws) {ts : List Rn} (hts : ∀ R ∈ ts, FineR R) : WaysOk (n + 1) (nextW ts ws) := by
  refine ⟨fun w hw => ?_, fun w hw R hR => ?_⟩
  · obtain ⟨v, hv, hw⟩ := List.mem_flatMap.1 hw
    obtain ⟨x, hx, rfl⟩ := List.mem_map.1 hw
    rw [List.length_append, h.len v hv]; rfl
  · obtain ⟨v, hv, hw⟩ := List.mem_flatMap.1 hw
    obtain ⟨x, hx, rfl⟩ := List.mem_map.1 hw
    rcases List.mem_append.1 hR with hR | hR
    · exact h.ok v hv R hR
    · rw [List.mem_singleton] at hR; rw [hR]; exact hts x hx
theorem evN_le {w : List Rn} (h : ∀ R ∈ w, FineR R) : evN w ≤ w.length * 8 := by
  induction w with
  | nil => simp [evN]
  | cons R w ih =>
    have h1 := (h R (by simp)).ok.es
    have h2 := ih fun S hS => h S (by simp [hS])
    unfold evN at *
    rw [List.map_cons, List.sum_cons, List.length_cons, Nat.succ_mul]
    omega
theorem of_ok64 {i : List Int} {t : List (List In)} (hth : ∀ th ∈ t, ∀ x ∈ th, wfIn x) (h : (ofF i t).2 = 0) : (∀ n ∈ (ofF i t).1, W64 n) ∧ (ofF i t).1.length ≤ 8 := by
  refine ⟨?_, (of_closed h).le⟩
  have hok := of_ok h
  have hi := ok_init hok
  unfold ofF
  rw [if_pos hok]
  have key : ∀ (n : Nat) (l : List Int), (∀ x ∈ l, W64 x) → ∀ x ∈ (ofN i.length t n l).1, W64 x := by
    intro n
    induction n with
    | zero => exact fun l h => h
    | succ n ih =>
      intro l h
      rw [ofN]
      split
      · simp
      · exact ih _ (round_wf hth h)
  exact key _ _ fun x hx => hi x ((sortU_mem i x).1 hx)
end Go.Eng
set_option linter.unusedSimpArgs false
set_option linter.unusedVariables false
set_option linter.constructorNameAsVariable false
set_option autoImplicit false
namespace Go.Eng
open Go Go.RowKit Go.Proofs
set_option maxHeartbeats 16000000 in
theorem c_All {i : List Int} {t : List (List In)} (hf : Few i t) (hth : ∀ th ∈ t, ∀ x ∈ th, wfIn x) : SC Tryz.prog 6 [.agg (testL i t)] (.tup [.pv (.sl 7 (exsL (allF i t).1)), I .i64 (allF i t).2]) := by
  have hM : maxLen = 9223372036854775807 := rfl
  have hO := c_Of hf hth
  have hw64 := of_ok64 (i := i) hth
  have hok := @of_ok i t
  unfold allF
  generalize ofF i t = p at *
  obtain ⟨l, e⟩ := p
  dsimp only at hO hw64 hok ⊢
  by_cases he : e = 0
  · subst he
    rw [if_pos rfl]
    obtain ⟨hlw, hl8⟩ := hw64 rfl
    have hok := hok rfl
    obtain ⟨hi3, ht3, hi1, _, hts⟩ := ok_facts hok
    have hfine := fun th h => traces_fine (locs := i.length) (hth th h) hlw
    have hcl := fun (th : List In) (h : th ∈ t) => c_Traces (th := th) (locs := (i.length : Int)) (vals := l) (by have := (hts th h).1.2; omega) hl8
    have hll := fun th => traces_len (th := th) (locs := (i.length : Int)) hl8
    generalize hres : waysF i.length l t [[]] = res at *
    refine scx_of Tryz.func6 rfl rfl rfl (Nat.le_of_ble_eq_true rfl) ?_
    repeat' (first
 | refine ar_end rfl ?_
 | refine ar_callV Tryz.call11 hO rfl rfl rfl rfl rfl (by simp; done) (by rfl) (by simp; done) ?_
 | refine ar_go3 _ rfl (by simp [thsL_len]; exact ⟨rfl, rfl, rfl⟩) rfl ?_
 | refine aw_sregK 0 [0] ?_
 | refine aw_sregK 1 [1] ?_
 | refine aw_sregK 2 [1, 4, 5] ?_
 | refine aw_sregK 4 [1, 4] ?_
 | refine aw_sregK 5 [1, 4, 6] ?_
 | refine aw_ifF (b := false) rfl rfl ?_
 | refine aw_seq ?_
 | refine aw_block ?_
 | refine aw_skip ?_)
    refine aw_frz (.loc 28) (by simp; exact rfl) ?_
    refine aw_impl (t := 6) (a' := .pv (.sl 1 (wsL [[]]))) rfl (fun ρ w v h => nil_in (es := 16) ρ w v h) ?_
    refine aw_loopN [1, 4, 6, 30, 31, 32] [.loc 1] (by simp; exact rfl) (ι := {p : Nat × List (List Rn) // p.1 ≤ t.length ∧ WaysOk p.1 p.2 ∧ p.2.length ≤ 20000 ∧ waysF i.length l (t.drop p.1) p.2 = res}) (fun p => ⟨93, [(1, .ptr (.loc 1) 0), (4, .pv (.sl 1 (ints l))), (6, .pv (.sl 1 (wsL p.1.2))), (30, .pv (.sl 1 (thsL t))), (31, I .i64 t.length), (32, I .i64 p.1.1)], [(.loc 1, some (.box 25 [.pv (.sl 1 (ints i)), .pv (.sl 1 (thsL t))]))]⟩) (fun p => t.length - p.1.1) ⟨(0, [[]]), by omega, ⟨by simp, by simp⟩, by simp, by simpa using hres⟩ (by simp [thsL_len]) ?_
    rintro ⟨⟨j, ws⟩, hj, hwo, hwl, hwr⟩
    dsimp only at hj hwo hwl hwr ⊢
    by_cases hlt : j < t.length
    · have hd : (j : Int) < (t.length : Int) := by omega
      have hw : IntKind.wrap .i64 ((j : Int) + 1) = (j : Int) + 1 := wrap64s (by omega) (by omega)
      have hT := hcl _ (List.getElem_mem hlt)
      have hF := hfine _ (List.getElem_mem hlt)
      have hl1 := hll t[j]
      rw [List.drop_eq_getElem_cons hlt, waysF] at hwr
      generalize hx : t[j] = th at *
      generalize tracesF th i.length l = ts at *
      have h1 := Nat.mul_le_mul hwl hl1
      have hcm : (ws.length : Int) * (ts.length : Int) = ((ws.length * ts.length : Nat) : Int) := (Int.natCast_mul _ _).symm
      have hnl := nextW_len ts ws
      generalize hP : ws.length * ts.length = PP at *
      have hprod : IntKind.wrap .i64 ((ws.length : Int) * (ts.length : Int)) = (PP : Int) := by rw [hcm]; exact wrap64s (by omega) (by omega)
      by_cases hbig : 20000 < PP
      · have hbig' : (20000 : Int) < (PP : Int) := by omega
        rw [if_pos hbig] at hwr
        subst hwr
        repeat' (first
 | refine ar_end rfl ?_
 | refine ar_callV Tryz.call12 hT rfl rfl rfl rfl rfl (by simp; done) (by rfl) (by simp; done) ?_
 | exact aw_ret (ret_nil 2 7 (by simp; exact rfl) (by simp [exsL]; fail_if_success (show _)))
 | refine ar_go3 _ rfl (by simp [thsL_len, thsL_getE, ints_len, wsL_len, trsL_len, hd, hlt, hx, hprod, hbig']; exact ⟨rfl, rfl, rfl⟩) rfl ?_
 | refine aw_sregK 6 [1, 4, 6, 30, 31, 32] ?_
 | refine aw_sregK 7 [1, 4, 6, 30, 31, 32] ?_
 | refine aw_sregK 8 [1, 4, 6, 8, 30, 31, 32] ?_
 | refine aw_sregK 9 [1, 4, 6, 9, 30, 31, 32] ?_
 | refine aw_sregK 10 [] ?_
 | refine aw_ifT (b := true) rfl rfl ?_
 | refine aw_seq ?_
 | refine aw_block ?_
 | refine aw_skip ?_)
      · have hbig' : ¬(20000 : Int) < (PP : Int) := by omega
        rw [if_neg hbig] at hwr
        repeat' (first
 | refine ar_end rfl ?_
 | refine ar_callV Tryz.call12 hT rfl rfl rfl rfl rfl (by simp; done) (by rfl) (by simp; done) ?_
 | refine ar_go3 _ rfl (by simp [thsL_len, thsL_getE, ints_len, wsL_len, trsL_len, hd, hlt, hx, hprod, hbig']; exact ⟨rfl, rfl, rfl⟩) rfl ?_
 | refine aw_sregK 6 [1, 4, 6, 30, 31, 32] ?_
 | refine aw_sregK 7 [1, 4, 6, 30, 31, 32] ?_
 | refine aw_sregK 8 [1, 4, 6, 8, 30, 31, 32] ?_
 | refine aw_sregK 9 [1, 4, 6, 9, 30, 31, 32] ?_
 | refine aw_sregK 11 [1, 4, 6, 9, 30, 31, 32] ?_
 | refine aw_sregK 12 [1, 4, 6, 9, 10, 30, 31, 32] ?_
 | refine aw_ifT (b := true) rfl rfl ?_
 | refine aw_ifF (b := false) rfl rfl ?_
 | refine aw_seq ?_
 | refine aw_block ?_
 | refine aw_skip ?_)
        refine aw_nil 10 (.loc 1000) 53 1 (by simp; exact rfl) ?_
        have hnw := hwo.next hF
        have hmul : ∀ k, k ≤ ws.length → k * ts.length ≤ 20000 := fun k h => by have := Nat.mul_le_mul_right ts.length h; omega
        refine aw_loopN [1, 4, 9, 10, 30, 31, 32, 48, 49, 50] [.loc 1, .loc 1000] (by simp; exact rfl) (ι := {k : Nat // k ≤ ws.length}) (fun k => ⟨93, [(1, .ptr (.loc 1) 0), (4, .pv (.sl 1 (ints l))), (9, .pv (.sl 16 (trsL ts))), (10, .own (.loc 1000)), (30, .pv (.sl 1 (thsL t))), (31, I .i64 t.length), (32, I .i64 j), (48, .pv (.sl 1 (wsL ws))), (49, I .i64 ws.length), (50, I .i64 k.1)], [(.loc 1, some (.box 25 [.pv (.sl 1 (ints i)), .pv (.sl 1 (thsL t))])), (.loc 1000, some (.own 53 1 (wsL (nextW ts (ws.take k.1)))))]⟩) (fun k => ws.length - k.1) ⟨0, by omega⟩ (by simp [nextW, wsL]) ?_
        rintro ⟨k, hk⟩
        by_cases hkl : k < ws.length
        · have hd2 : (k : Int) < (ws.length : Int) := by omega
          have hw2 : IntKind.wrap .i64 ((k : Int) + 1) = (k : Int) + 1 := wrap64s (by omega) (by omega)
          have hnt := nextW_take (ts := ts) hkl
          have hnn := nextW_len ts (ws.take k)
          rw [List.length_take, Nat.min_eq_left (by omega)] at hnn
          have hm1 := hmul (k + 1) (by omega)
          rw [Nat.succ_mul] at hm1
          have hwl1 := hwo.len _ (List.getElem_mem hkl)
          generalize hy : ws[k] = v at *
          generalize nextW ts (ws.take k) = W at *
          repeat' (first
 | refine ar_end rfl ?_
 | refine ar_go3 _ rfl (by simp [wsL_len, wsL_getE, trsL_len, hd2, hkl, hy]; exact ⟨rfl, rfl, rfl⟩) rfl ?_
 | refine aw_sregK 13 [1, 4, 9, 10, 30, 31, 32, 48, 49, 50] ?_
 | refine aw_sregK 14 [1, 4, 9, 10, 30, 31, 32, 48, 49, 50] ?_
 | refine aw_sregK 15 [1, 4, 9, 10, 12, 30, 31, 32, 48, 49, 50] ?_
 | refine aw_ifT (b := true) rfl rfl ?_
 | refine aw_seq ?_
 | refine aw_block ?_
 | refine aw_skip ?_)
          refine aw_loopN [1, 4, 9, 10, 12, 30, 31, 32, 48, 49, 50, 54, 55, 56] [.loc 1, .loc 1000] (by simp; exact rfl) (ι := {m : Nat // m ≤ ts.length}) (fun m => ⟨93, [(1, .ptr (.loc 1) 0), (4, .pv (.sl 1 (ints l))), (9, .pv (.sl 16 (trsL ts))), (10, .own (.loc 1000)), (12, .pv (.sl 16 (trsL v))), (30, .pv (.sl 1 (thsL t))), (31, I .i64 t.length), (32, I .i64 j), (48, .pv (.sl 1 (wsL ws))), (49, I .i64 ws.length), (50, I .i64 k), (54, .pv (.sl 16 (trsL ts))), (55, I .i64 ts.length), (56, I .i64 m.1)], [(.loc 1, some (.box 25 [.pv (.sl 1 (ints i)), .pv (.sl 1 (thsL t))])), (.loc 1000, some (.own 53 1 (wsL (W ++ oneW (ts.take m.1) v))))]⟩) (fun m => ts.length - m.1) ⟨0, by omega⟩ (by simp [oneW, wsL]) ?_
          rintro ⟨m, hm⟩
          by_cases hml : m < ts.length
          · have hd3 : (m : Int) < (ts.length : Int) := by omega
            have hw3 : IntKind.wrap .i64 ((m : Int) + 1) = (m : Int) + 1 := wrap64s (by omega) (by omega)
            have hot := oneW_take (w := v) hml
            have hol := oneW_len (ts.take m) v
            rw [List.length_take, Nat.min_eq_left (by omega)] at hol
            have htv : List.take v.length (trsL v) = trsL v := List.take_of_length_le (by rw [trsL_len]; exact Nat.le_refl _)
            generalize hz : ts[m] = R at *
            generalize oneW (ts.take m) v = O at *
            have hfin : wsL (W ++ oneW (ts.take (m + 1)) v) = wsL (W ++ O) ++ [[.sl 16 (trsL v ++ [trL R])]] := by rw [hot, ← List.append_assoc, wsL_app]; simp [wsL, trsL]
            have hlen : (wsL (W ++ O)).length = W.length + O.length := by rw [wsL_len, List.length_append]
            generalize wsL (W ++ O) = WO at *
            repeat' (first
 | refine ar_end rfl ?_
 | refine ar_endD rfl (by kernel_rfl) ?_
 | refine ar_fin rfl ?_
 | refine ar_frzT [69] rfl rfl (by simp; exact rfl) (by simp; exact rfl) (by simp; exact rfl) rfl (by simp; fail_if_success (show _)) ?_
 | refine ar_appT rfl rfl rfl rfl (by simp; exact rfl) rfl (by simp; exact rfl) (by simp; exact rfl) (by simp; exact rfl) (by simp; exact rfl) (by simp; done) (by decide) (.inr (by simp; done)) (by simp [trsL_len, maxLen]; omega) ?_
 | refine ar_appO rfl rfl rfl rfl rfl (by simp; exact rfl) rfl (by simp; exact rfl) (by simp; exact rfl) (by simp; exact ⟨rfl, rfl⟩) rfl (by simp; exact rfl) (by simp; done) (by decide) (by simp [hlen, trsL_len, maxLen]; try omega) ?_
 | refine lq_normR (.loc 71) (.loc 1000) [1, 4, 9, 10, 12, 30, 31, 32, 48, 49, 50, 54, 55, 56] [.loc 1, .loc 1000] (by simp; exact rfl) ⟨m + 1, by omega⟩ (by dsimp only; omega) (by simp [hfin])
 | refine ar_go3 _ rfl (by simp [trsL_len, trsL_getE, hd3, hml, hz, hw3, htv]; exact ⟨rfl, rfl, rfl⟩) rfl ?_
 | refine aw_sregK 16 [1, 4, 9, 10, 12, 30, 31, 32, 48, 49, 50, 54, 55, 56] ?_
 | refine aw_sregK 17 [1, 4, 9, 10, 12, 30, 31, 32, 48, 49, 50, 54, 55, 56] ?_
 | refine aw_regKD mixed 18 [1, 4, 9, 10, 12, 14, 30, 31, 32, 48, 49, 50, 54, 55, 56] (by simp; exact rfl) ?_
 | refine aw_regK 19 [1, 4, 9, 10, 12, 30, 31, 32, 48, 49, 50, 54, 55, 56] ?_
 | refine aw_ifT (b := true) rfl rfl ?_
 | refine aw_seq ?_
 | refine aw_block ?_
 | refine aw_skip ?_)
          have hd3 : ¬(m : Int) < (ts.length : Int) := by omega
          have hme : ts.take m = ts := List.take_of_length_le (by omega)
          rw [hme, ← hnt]
          repeat' (first
 | refine ar_end rfl ?_
 | refine ar_fin rfl ?_
 | refine lq_normN [1, 4, 9, 10, 30, 31, 32, 48, 49, 50] [.loc 1, .loc 1000] (by simp; exact rfl) ⟨k + 1, by omega⟩ (by dsimp only; omega) (by simp [])
 | refine ar_go3 _ rfl (by simp [hd3, hw2]; exact ⟨rfl, rfl, rfl⟩) rfl ?_
 | refine aw_sregK 16 [1, 4, 9, 10, 12, 30, 31, 32, 48, 49, 50, 54, 55, 56] ?_
 | refine aw_regK 20 [1, 4, 9, 10, 30, 31, 32, 48, 49, 50] ?_
 | refine aw_ifF (b := false) rfl rfl ?_
 | refine aw_seq ?_
 | refine aw_exit ?_)
        have hd2 : ¬(k : Int) < (ws.length : Int) := by omega
        have hke : ws.take k = ws := List.take_of_length_le (by omega)
        rw [hke]
        generalize nextW ts ws = W at *
        repeat' (first
 | refine ar_end rfl ?_
 | refine ar_fin rfl ?_
 | refine lq_normF (.loc 1000) [1, 4, 6, 30, 31, 32] [.loc 1] (by simp; exact rfl) ⟨(j + 1, W), by dsimp only; omega, hnw, by dsimp only; omega, hwr⟩ (by dsimp only; omega) (by simp)
 | refine ar_go3 _ rfl (by simp [hd2, hw]; exact ⟨rfl, rfl, rfl⟩) rfl ?_
 | refine aw_sregK 13 [1, 4, 9, 10, 30, 31, 32, 48, 49, 50] ?_
 | refine aw_regK 21 [1, 4, 10, 30, 31, 32] ?_
 | refine aw_regK 22 [1, 4, 6, 30, 31, 32] ?_
 | refine aw_ifF (b := false) rfl rfl ?_
 | refine aw_seq ?_
 | refine aw_exit ?_)
    have hd : ¬(j : Int) < (t.length : Int) := by omega
    have hjt : j = t.length := by omega
    rw [List.drop_eq_nil_of_le (by omega), waysF] at hwr
    subst hwr
    dsimp only
    repeat' (first
 | refine ar_end rfl ?_
 | refine ar_go3 _ rfl (by simp [wsL_len, hd]; exact ⟨rfl, rfl, rfl⟩) rfl ?_
 | refine aw_sregK 6 [1, 4, 6, 30, 31, 32] ?_
 | refine aw_sregK 23 [6] ?_
 | refine aw_sregK 24 [6, 15] ?_
 | refine aw_ifF (b := false) rfl rfl ?_
 | refine aw_seq ?_
 | refine aw_block ?_
 | refine aw_exit ?_)
    refine aw_nil 15 (.loc 1000) 44 7 (by simp; exact rfl) ?_
    have hjoin : ∀ w ∈ ws, SC Tryz.prog 13 [.pv (.sl 16 (trsL w))] (.tup [.agg (exA (joinF w)), I .i64 0]) := fun w hw => by
      have h1 := hwo.len w hw
      have h2 := evN_le (hwo.ok w hw)
      exact c_Join (by omega) (by omega) (hwo.ok w hw)
    have hwr2 : ∀ k, (h : k < ws.length) → exsT ws (k + 1) = exsT ws k ++ [exA (joinF ws[k])] := fun k h => by
      unfold exsT
      rw [List.take_add_one, List.getElem?_eq_getElem h, List.map_append]; simp [exsL]
    have hxl : ∀ k, k ≤ ws.length → (exsT ws k).length = k := fun k h => by unfold exsT; rw [exsL_len, List.length_map, List.length_take]; omega
    have hxe : exsT ws ws.length = exsL (ws.map joinF) := by unfold exsT; rw [List.take_length]
    refine aw_loopN [15, 76, 77, 78] [.loc 1000] (by simp; exact rfl) (ι := {k : Nat // k ≤ ws.length}) (fun k => ⟨93, [(15, .own (.loc 1000)), (76, .pv (.sl 1 (wsL ws))), (77, I .i64 ws.length), (78, I .i64 k.1)], [(.loc 1000, some (.own 44 7 (exsT ws k.1)))]⟩) (fun k => ws.length - k.1) ⟨0, by omega⟩ (by simp [exsT, exsL, wsL_len]) ?_
    rintro ⟨k, hk⟩
    by_cases hkl : k < ws.length
    · have hd2 : (k : Int) < (ws.length : Int) := by omega
      have hw2 : IntKind.wrap .i64 ((k : Int) + 1) = (k : Int) + 1 := wrap64s (by omega) (by omega)
      have hJ := hjoin _ (List.getElem_mem hkl)
      have hst := hwr2 k hkl
      have hxl := hxl k hk
      generalize hy : ws[k] = v at *
      generalize joinF v = E0 at *
      generalize exsT ws k = X at *
      repeat' (first
 | refine ar_end rfl ?_
 | refine ar_fin rfl ?_
 | refine ar_callV Tryz.call13 hJ rfl rfl rfl rfl rfl (by simp; done) (by rfl) (by simp; done) ?_
 | refine ar_appO rfl rfl rfl rfl rfl (by simp; exact rfl) rfl (by simp; exact rfl) (by simp; exact rfl) (by simp; exact ⟨rfl, rfl⟩) rfl (by simp; exact rfl) (by simp; done) (by decide) (by simp [hxl, maxLen]; try omega) ?_
 | refine lq_normR (.loc 90) (.loc 1000) [15, 76, 77, 78] [.loc 1000] (by simp; exact rfl) ⟨k + 1, by omega⟩ (by dsimp only; omega) (by simp [hst])
 | refine ar_go3 _ rfl (by simp [wsL_len, wsL_getE, hd2, hkl, hy, hw2]; exact ⟨rfl, rfl, rfl⟩) rfl ?_
 | refine aw_sregK 25 [15, 76, 77, 78] ?_
 | refine aw_sregK 26 [15, 76, 77, 78] ?_
 | refine aw_sregK 27 [15, 17, 76, 77, 78] ?_
 | refine aw_regK 28 [15, 18, 76, 77, 78] ?_
 | refine aw_regK 29 [15, 76, 77, 78] ?_
 | refine aw_ifT (b := true) rfl rfl ?_
 | refine aw_seq ?_
 | refine aw_block ?_
 | refine aw_skip ?_)
    have hd2 : ¬(k : Int) < (ws.length : Int) := by omega
    have hke : k = ws.length := by omega
    subst hke
    rw [hxe]
    refine aw_frz (.loc 1000) (by simp; exact rfl) ?_
    repeat' (first
 | exact aw_ret (ret_vals (by simp; exact rfl) (by simp [*]; fail_if_success (show _)))
 | refine ar_end rfl ?_
 | refine ar_go3 _ rfl (by simp [hd2]; exact ⟨rfl, rfl, rfl⟩) rfl ?_
 | refine aw_sregK 25 [15, 76, 77, 78] ?_
 | refine aw_sregK 30 [15] ?_
 | refine aw_ifF (b := false) rfl rfl ?_
 | refine aw_seq ?_
 | refine aw_exit ?_)
  · rw [if_neg he]
    refine scx_of Tryz.func6 rfl rfl rfl (Nat.le_of_ble_eq_true rfl) ?_
    repeat' (first
 | refine ar_end rfl ?_
 | refine ar_callV Tryz.call11 hO rfl rfl rfl rfl rfl (by simp; done) (by rfl) (by simp; done) ?_
 | exact aw_ret (ret_nil 2 7 (by simp; exact rfl) (by simp [exsL]; fail_if_success (show _)))
 | refine ar_go3 _ rfl (by simp [he]; exact ⟨rfl, rfl, rfl⟩) rfl ?_
 | refine aw_sregK 0 [0] ?_
 | refine aw_sregK 1 [1] ?_
 | refine aw_sregK 2 [1, 4, 5] ?_
 | refine aw_sregK 3 [5] ?_
 | refine aw_ifT (b := true) rfl rfl ?_
 | refine aw_seq ?_)
end Go.Eng
