import Derived.Test.YtpohlijehadklaaGreatFlowJ2
import Derived.Test.YtpohlijehadklaaGreatFlowJ3
import Derived.Test.YtpohlijehadklaaGreatFlowJ4
import Derived.Test.YtpohlijehadklaaGreatFlowJ5
import Derived.Test.YtpohlijehadklaaGreatFlowJ6
set_option linter.unusedSimpArgs false
set_option linter.unusedVariables false
set_option linter.constructorNameAsVariable false
set_option autoImplicit false
namespace Go.Eng
open Go Go.RowKit Go.Proofs
set_option maxHeartbeats 16000000 in
theorem c_r8Run1 {th : List In} {locs : Int} {vals : List Int} {lucks : List Bool} (hwl : W64 locs) (hm : mayB locs th = true) (hv : vals.length ≤ 40) (hu : lucks.length ≤ 40) : SC Tryz.prog 59 [.pv (.sl 6 (insL th)), I .i64 locs, .pv (.sl 1 (ints vals)), .pv (.sl 1 (bls lucks))] (.agg (trL (runF th locs vals lucks))) := by
  obtain ⟨h8, l1, l3, hmay⟩ := mayB_facts hm
  have e0 : runF th locs vals lucks = runL locs vals lucks Rn0 th := by simp [runF, hm]
  rw [e0]
  have hM := c_mayR (th := th) hwl
  generalize hZ : runL locs vals lucks Rn0 th = Z
  refine scx_of Tryz.func59 rfl rfl rfl (Nat.le_of_ble_eq_true rfl) ?_
  repeat' (first
 | refine ar_end rfl ?_
 | refine ar_callV Tryz.call83 hM rfl rfl rfl rfl rfl (by simp; done) (by rfl) (by simp; done) ?_
 | refine ar_go3 _ rfl (by simp [insL_len, insL_getE, inL, ints_len, ints_getE, bls_len, bls_getE, evsL_len, evsL_getE, evL, u32s_len, hm]; exact ⟨rfl, rfl, rfl⟩) rfl ?_
 | refine aw_sregK 0 [0, 1, 2, 3] ?_
 | refine aw_sregK 1 [0, 1, 2, 3, 8] ?_
 | refine aw_sregK 2 [0, 1, 2, 3, 8, 9] ?_
 | refine aw_sregK 4 [0, 1, 2, 3, 8, 9] ?_
 | refine aw_sregK 5 [0, 1, 2, 3, 8, 9, 10] ?_
 | refine aw_sregK 6 [0, 1, 2, 3, 8, 9, 10, 11] ?_
 | refine aw_ifF (b := false) rfl rfl ?_
 | refine aw_seq ?_
 | refine aw_block ?_
 | refine aw_skip ?_)
  refine aw_nilC (.loc 9) 0 (.loc 1001) 104 7 (by simp; exact rfl) ?_
  refine aw_frz (.loc 1001) (by simp; exact rfl) ?_
  refine aw_nilC (.loc 9) 1 (.loc 1002) 57 1 (by simp; exact rfl) ?_
  refine aw_frz (.loc 1002) (by simp; exact rfl) ?_
  refine aw_nilC (.loc 9) 2 (.loc 1003) 57 1 (by simp; exact rfl) ?_
  refine aw_frz (.loc 1003) (by simp; exact rfl) ?_
  refine aw_nilC (.loc 9) 3 (.loc 1004) 57 1 (by simp; exact rfl) ?_
  refine aw_frz (.loc 1004) (by simp; exact rfl) ?_
  refine aw_nilC (.loc 9) 4 (.loc 1005) 3 1 (by simp; exact rfl) ?_
  refine aw_frz (.loc 1005) (by simp; exact rfl) ?_
  refine aw_loopN [0, 1, 2, 3, 8, 9, 10, 11, 12] [.loc 8, .loc 9] (by simp; exact rfl) (ι := I69 th locs vals lucks Z) H69 (fun p => th.length - p.1.1) ⟨(0, Rn0), by simp, Rn0_inv, rfl, rfl, by simpa using hZ⟩ (by simp [H69, Rn0, evsL, u32s, ints]) ?_
  clear hZ e0
  intro i
  by_cases hlt : i.1.1 < th.length
  · have hmx := hmay i.1.1 hlt
    obtain ⟨n1, n14⟩ := may_named hmx
    have hops : th[i.1.1].op = 1 ∨ th[i.1.1].op = 2 ∨ th[i.1.1].op = 3 ∨ th[i.1.1].op = 4 ∨ th[i.1.1].op = 5 ∨ th[i.1.1].op = 7 ∨ th[i.1.1].op = 9 ∨ th[i.1.1].op = 6 ∨ th[i.1.1].op = 8 ∨ th[i.1.1].op = 10 ∨ th[i.1.1].op = 11 ∨ th[i.1.1].op = 12 ∨ th[i.1.1].op = 13 ∨ th[i.1.1].op = 14 := by omega
    have hret : ∀ s, retL Tryz.prog Tryz.f59.results.toList (.agg (trL Z)) [] .ret s → retL Tryz.prog Tryz.f59.results.toList (.agg (trL Z)) [] .ret s := fun _ h => h
    rcases hops with hop | hop | hop | hop | hop | hop | hop | hop | hop | hop | hop | hop | hop | hop
    · refine c_r8_alone1 rfl ?_ l1 l3 h8 hv hu i hlt hmx hop; exact fun _ h => h
    · refine c_r8_alone2 rfl ?_ l1 l3 h8 hv hu i hlt hmx hop; exact fun _ h => h
    · refine c_r8_alone3 rfl ?_ l1 l3 h8 hv hu i hlt hmx hop; exact fun _ h => h
    · refine c_r8_alone4 rfl ?_ l1 l3 h8 hv hu i hlt hmx hop; exact fun _ h => h
    · by_cases h : i.1.2.nv.toNat < vals.length
      · refine c_r8_load5 rfl ?_ l1 l3 h8 hv hu i hlt hmx hop h; exact fun _ h => h
      · refine c_r8_none5 rfl ?_ l1 l3 h8 hv hu i hlt hmx hop h; exact fun _ h => h
    · by_cases h : i.1.2.nv.toNat < vals.length
      · refine c_r8_load7 rfl ?_ l1 l3 h8 hv hu i hlt hmx hop h; exact fun _ h => h
      · refine c_r8_none7 rfl ?_ l1 l3 h8 hv hu i hlt hmx hop h; exact fun _ h => h
    · by_cases h : i.1.2.nv.toNat < vals.length
      · refine c_r8_load9 rfl ?_ l1 l3 h8 hv hu i hlt hmx hop h; exact fun _ h => h
      · refine c_r8_none9 rfl ?_ l1 l3 h8 hv hu i hlt hmx hop h; exact fun _ h => h
    · refine c_r8_store6 rfl ?_ l1 l3 h8 hv hu i hlt hmx hop; exact fun _ h => h
    · refine c_r8_store8 rfl ?_ l1 l3 h8 hv hu i hlt hmx hop; exact fun _ h => h
    · by_cases hl1 : 0 ≤ i.1.2.last ∧ i.1.2.last.toNat < i.1.2.es.length
      · by_cases he : (i.1.2.es[i.1.2.last.toNat]'hl1.2).l = i.1.2.loc th[i.1.1] locs
        · by_cases hk : i.1.2.nl.toNat < lucks.length
          · cases hb : lucks[i.1.2.nl.toNat]
            · refine c_r8_exNo rfl ?_ l1 l3 h8 hv hu i hlt hmx hop hl1 he hk hb; exact fun _ h => h
            · refine c_r8_exYes rfl ?_ l1 l3 h8 hv hu i hlt hmx hop hl1 he hk hb; exact fun _ h => h
          · refine c_r8_exEnd rfl ?_ l1 l3 h8 hv hu i hlt hmx hop hl1 he hk; exact fun _ h => h
        · refine c_r8_exFar rfl ?_ l1 l3 h8 hv hu i hlt hmx hop hl1 he; exact fun _ h => h
      · refine c_r8_exNeg rfl ?_ l1 l3 h8 hv hu i hlt hmx hop hl1; exact fun _ h => h
    · refine c_r8_fence11 rfl ?_ l1 l3 h8 hv hu i hlt hmx hop; exact fun _ h => h
    · refine c_r8_fence12 rfl ?_ l1 l3 h8 hv hu i hlt hmx hop; exact fun _ h => h
    · by_cases ha : i.1.2.gv th[i.1.1].a = 0
      · refine c_r8_bra13T rfl ?_ l1 l3 h8 hv hu i hlt hmx hop ha; exact fun _ h => h
      · refine c_r8_bra13F rfl ?_ l1 l3 h8 hv hu i hlt hmx hop ha; exact fun _ h => h
    · by_cases ha : i.1.2.gv th[i.1.1].a = 0
      · refine c_r8_bra14F rfl ?_ l1 l3 h8 hv hu i hlt hmx hop ha; exact fun _ h => h
      · refine c_r8_bra14T rfl ?_ l1 l3 h8 hv hu i hlt hmx hop ha; exact fun _ h => h
  · obtain ⟨⟨n, R⟩, hn, hI, hsk, hmo, hq⟩ := i
    dsimp only at hn hI hsk hmo hq hlt
    simp only [H69]
    have hc : ¬(n : Int) < (th.length : Int) := by omega
    rw [List.drop_eq_nil_of_le (by omega), runL] at hq
    subst hq
    repeat' (first
 | exact aw_ret (ret_vals (by simp; exact rfl) (by simp [*]; fail_if_success (show _)))
 | refine ar_end rfl ?_
 | refine ar_go3 _ rfl (by simp [insL_len, insL_getE, inL, ints_len, ints_getE, bls_len, bls_getE, evsL_len, evsL_getE, evL, u32s_len, hc]; exact ⟨rfl, rfl, rfl⟩) rfl ?_
 | refine aw_sregK 7 [0, 1, 2, 3, 8, 9, 10, 11, 12] ?_
 | refine aw_sregK 56 [8, 9] ?_
 | refine aw_ifF (b := false) rfl rfl ?_
 | refine aw_seq ?_
 | refine aw_exit ?_)
set_option maxHeartbeats 16000000 in
theorem c_r8Run {th : List In} {locs : Int} {vals : List Int} {lucks : List Bool} (hw : W64 locs) (hv : vals.length ≤ 40) (hu : lucks.length ≤ 40) : SC Tryz.prog 59 [.pv (.sl 6 (insL th)), I .i64 locs, .pv (.sl 1 (ints vals)), .pv (.sl 1 (bls lucks))] (.agg (trL (runF th locs vals lucks))) := by
  cases hm : mayB locs th
  · exact c_r8Run0 hw hm
  · exact c_r8Run1 hw hm hv hu
end Go.Eng
