import Derived.Test.YtamjcdfjkekdjaaGreatZedB
set_option linter.unusedSimpArgs false
set_option linter.unusedVariables false
set_option linter.constructorNameAsVariable false
set_option autoImplicit false
namespace Go.Eng
open Go Go.RowKit Go.Proofs
set_option maxHeartbeats 16000000 in
theorem law_ExecPo {i : List Int} {t : List (List In)} {w : Int} (hw0 : 0 ≤ w ∧ w < 65536) (hth : ∀ th ∈ t, ∀ x ∈ th, wfIn x) : SC Tryz.prog 5 [.agg (testL i t), I .u16 w] (B true) := by
  cases hfb : fewB i t
  · refine scx_of Tryz.func5 rfl rfl rfl (Nat.le_of_ble_eq_true rfl) ?_
    repeat' (first
      | exact aw_ret (ret_vals (by simp; exact rfl) (by simp [*]; fail_if_success (show _)))
      | exact aw_ret (ret_vals (by simp; exact rfl) (by simp [*]; omega))
      | refine ar_end rfl ?_
      | refine ar_endD rfl (by kernel_rfl) ?_
      | refine ar_fin rfl ?_
      | refine ar_finD rfl (by kernel_rfl) ?_
      | refine ar_callV Tryz.call6 c_shown10 rfl rfl rfl rfl rfl (by simp; done) (by rfl) (by simp; done) ?_
      | refine ar_callV_if Tryz.call6 c_shown10 rfl rfl rfl rfl rfl rfl (by simp; done) rfl (by rfl) (by simp; done) ?_
      | refine ar_callV Tryz.call7 c_Few rfl rfl rfl rfl rfl (by simp; done) (by rfl) (by simp; done) ?_
      | refine ar_callV_if Tryz.call7 c_Few rfl rfl rfl rfl rfl rfl (by simp; done) rfl (by rfl) (by simp; done) ?_
      | refine ar_go3 _ rfl (by simp [hfb]; exact ⟨rfl, rfl, rfl⟩) rfl ?_
      | refine aw_sregK 0 [0, 1] ?_
      | refine aw_regK 0 [0, 1] ?_
      | refine aw_sregK 1 [1, 2] ?_
      | refine aw_regK 1 [1, 2] ?_
      | refine aw_sregK 2 [1, 2, 5] ?_
      | refine aw_regK 2 [1, 2, 5] ?_
      | refine aw_sregK 3 [5] ?_
      | refine aw_regK 3 [5] ?_
      | refine aw_sreg ?_
      | refine aw_sregD mixed ?_
      | refine aw_ifT (b := true) rfl rfl ?_
      | refine aw_ifF (b := false) rfl rfl ?_
      | refine aw_ifT rfl (by assumption) ?_
      | refine aw_ifF rfl (by assumption) ?_
      | refine aw_ifT rfl (decide_eq_true (by assumption)) ?_
      | refine aw_ifF rfl (decide_eq_false (by assumption)) ?_
      | refine aw_seq ?_
      | refine aw_block ?_
      | refine aw_skip ?_
      | refine aw_region ?_
      | refine aw_region_draw mixed ?_
      | refine aw_exit ?_
      | refine rq_exit ?_
      | refine blockQ_hit ?_
      | refine blockQ_miss (by decide) ?_
      | (refine ar_guard rfl rfl rfl rfl (fun h => ?_) (fun h => ?_) <;> (fail_if_success (cases h; done)) <;> (try simp at h) <;> (try subst h))
      | (refine aw_both rfl (fun h => ?_) (fun h => ?_) <;> (fail_if_success (cases h; done)) <;> (try simp at h) <;> (try subst h)))
  have hM : maxLen = 9223372036854775807 := rfl
  have hf := fewB_iff.1 hfb
  have hA := c_All hf hth
  have hq := all_exr (i := i) hth
  have herr := @all_err i t
  have hpos := @all_pos i t
  generalize allF i t = q at *
  obtain ⟨xs, f⟩ := q
  dsimp only at hA hq herr hpos
  by_cases he : f = 0
  · subst he
    obtain ⟨hpos, hlenQ⟩ := hpos rfl
    have hne : ¬(xs.length : Int) = 0 := by omega
    have hnn : ¬xs = [] := by intro h; rw [h] at hpos; simp at hpos
    have hrem0 : 0 ≤ w.tmod (xs.length : Int) ∧ w.tmod (xs.length : Int) < (xs.length : Int) := by
      rw [Int.tmod_eq_emod_of_nonneg hw0.1]
      exact ⟨Int.emod_nonneg _ hne, Int.emod_lt_of_pos _ (by omega)⟩
    have hwr : IntKind.wrap .i64 (w.tmod (xs.length : Int)) = w.tmod (xs.length : Int) := wrap64s (by omega) (by omega)
    have hww : IntKind.wrap .i64 w = w := wrap64s (by omega) (by omega)
    obtain ⟨k, hk⟩ := Int.eq_ofNat_of_zero_le hrem0.1
    have hkl : k < xs.length := by omega
    have hkd : (k : Int) < (xs.length : Int) := by omega
    obtain ⟨n, hE⟩ := hq _ (List.getElem_mem hkl)
    generalize hx : xs[k] = x at *
    have hl := hE.len
    have h24 := hE.n24
    have h32 : x.es.length ≤ 32 := by omega
    have lp : x.po.length ≤ maxLen := by rw [hE.cpo.len]; omega
    have la : x.ad.length ≤ maxLen := by rw [hE.cad.len]; omega
    have ld : x.da.length ≤ maxLen := by rw [hE.cda.len]; omega
    have lc : x.ct.length ≤ maxLen := by rw [hE.cct.len]; omega
    have lr : x.rm.length ≤ maxLen := by rw [hE.crm.len]; omega
    have bl : ∀ (f : Wd → Wd → Wd) a b, (bothR f a b).length ≤ maxLen := fun f a b => by have := both_le f a b; omega
    have ol : ∀ a fr to, (onlyR a fr to).length ≤ maxLen := fun a fr to => by have := only_le a fr to; omega
    have hAl := c_alike (e := x) h32
    have hIn := c_inner (e := x) h32
    have lal : (eventsR alikeQ x.es).length ≤ maxLen := by rw [(events_cl (q := alikeQ) h32).len]; omega
    have lin : (eventsR innerQ x.es).length ≤ maxLen := by rw [(events_cl (q := innerQ) h32).len]; omega
    have o1 := c_orV (a := x.ad) (b := x.da) la ld
    have o2 := c_orV (a := x.ct) (b := x.rm) lc lr
    have o3 := c_orV (a := bothR (· ||| ·) x.ad x.da) (b := bothR (· ||| ·) x.ct x.rm) (bl _ _ _) (bl _ _ _)
    have p1 := po_acy hE
    have p2 := po_plus hE
    have p3 : sameR (bothR (· ||| ·) x.po (invR x.po)) (eventsR innerQ x.es) = true := po_both hE
    have p4 : sameR (bothR (· &&& ·) (all4 x) x.po) (all4 x) = true := all4_po hE
    have p5 := all4_reads hE
    have p6 := da_ends hE
    have p7 : sameR (bothR (· &&& ·) x.rm (eventsR alikeQ x.es)) x.rm = true := rm_alike hE
    have hIv := c_invV (a := x.po) lp
    have liv : (invR x.po).length ≤ maxLen := by rw [(inv_cl hE.cpo).1.len]; omega
    have o4 := c_orV (a := x.po) (b := invR x.po) lp liv
    have hKR := c_kindsR h32
    have hKW := c_kindsW h32
    have hAc := c_acyclic (r := x.po) lp
    have hPl := c_plusV (r := x.po) lp
    have lpl : (plusR x.po).length ≤ maxLen := by have := plus_le x.po; omega
    have s2 := c_same (a := plusR x.po) (b := x.po) lpl lp
    have s3 := c_same (a := bothR (· ||| ·) x.po (invR x.po)) (b := eventsR innerQ x.es) (bl _ _ _) lin
    have h4 : bothR (· ||| ·) (bothR (· ||| ·) x.ad x.da) (bothR (· ||| ·) x.ct x.rm) = all4 x := rfl
    rw [h4] at o3
    have l4 : (all4 x).length ≤ maxLen := by rw [← h4]; exact bl _ _ _
    clear h4
    generalize all4 x = A4 at *
    have a4 := c_andV (a := A4) (b := x.po) l4 lp
    have s4 := c_same (a := bothR (· &&& ·) A4 x.po) (b := A4) (bl _ _ _) l4
    generalize maskE (fun x => decide (x.k = 1)) x.es = MR at *
    generalize maskE (fun x => decide (x.k = 2)) x.es = MW at *
    have on5 : SC Tryz.prog 20 [.pv (.sl 1 (rl A4)), I .u32 (ub MR), I .u32 4294967295] (.pv (.sl 1 (rl (onlyR A4 MR (BitVec.allOnes 32))))) := c_onlyV (a := A4) (fr := MR) (to := BitVec.allOnes 32) l4
    have s5 := c_same (a := onlyR A4 MR (BitVec.allOnes 32)) (b := A4) (ol _ _ _) l4
    have on6 := c_onlyV (a := x.da) (fr := MR) (to := MW) ld
    have s6 := c_same (a := onlyR x.da MR MW) (b := x.da) (ol _ _ _) ld
    have a7 := c_andV (a := x.rm) (b := eventsR alikeQ x.es) lr lal
    have s7 := c_same (a := bothR (· &&& ·) x.rm (eventsR alikeQ x.es)) (b := x.rm) (bl _ _ _) lr
    rw [p1] at hAc
    rw [p2] at s2
    rw [p3] at s3
    rw [p4] at s4
    rw [p5] at s5
    rw [p6] at s6
    rw [p7] at s7
    generalize onlyR A4 MR (BitVec.allOnes 32) = G5 at *
    generalize onlyR x.da MR MW = G6 at *
    generalize bothR (· &&& ·) x.rm (eventsR alikeQ x.es) = G7 at *
    generalize bothR (· &&& ·) A4 x.po = G4 at *
    generalize bothR (· ||| ·) x.po (invR x.po) = G3 at *
    generalize plusR x.po = G2 at *
    generalize invR x.po = GI at *
    generalize bothR (· ||| ·) x.ad x.da = H1 at *
    generalize bothR (· ||| ·) x.ct x.rm = H2 at *
    generalize eventsR alikeQ x.es = EA at *
    generalize eventsR innerQ x.es = EI at *
    refine scx_of Tryz.func5 rfl rfl rfl (Nat.le_of_ble_eq_true rfl) ?_
    repeat' (first
      | exact aw_ret (ret_vals (by simp; exact rfl) (by simp [*]; fail_if_success (show _)))
      | exact aw_ret (ret_vals (by simp; exact rfl) (by simp [*]; omega))
      | refine ar_end rfl ?_
      | refine ar_endD rfl (by kernel_rfl) ?_
      | refine ar_fin rfl ?_
      | refine ar_finD rfl (by kernel_rfl) ?_
      | refine ar_callV Tryz.call6 c_shown10 rfl rfl rfl rfl rfl (by simp; done) (by rfl) (by simp; done) ?_
      | refine ar_callV_if Tryz.call6 c_shown10 rfl rfl rfl rfl rfl rfl (by simp; done) rfl (by rfl) (by simp; done) ?_
      | refine ar_callV Tryz.call7 c_Few rfl rfl rfl rfl rfl (by simp; done) (by rfl) (by simp; done) ?_
      | refine ar_callV_if Tryz.call7 c_Few rfl rfl rfl rfl rfl rfl (by simp; done) rfl (by rfl) (by simp; done) ?_
      | refine ar_callV Tryz.call8 hA rfl rfl rfl rfl rfl (by simp; done) (by rfl) (by simp; done) ?_
      | refine ar_callV_if Tryz.call8 hA rfl rfl rfl rfl rfl rfl (by simp; done) rfl (by rfl) (by simp; done) ?_
      | refine ar_callV Tryz.call22 hIv rfl rfl rfl rfl rfl (by simp; done) (by rfl) (by simp; done) ?_
      | refine ar_callV_if Tryz.call22 hIv rfl rfl rfl rfl rfl rfl (by simp; done) rfl (by rfl) (by simp; done) ?_
      | refine ar_callV Tryz.call12 o4 rfl rfl rfl rfl rfl (by simp; done) (by rfl) (by simp; done) ?_
      | refine ar_callV_if Tryz.call12 o4 rfl rfl rfl rfl rfl rfl (by simp; done) rfl (by rfl) (by simp; done) ?_
      | refine ar_callV Tryz.call12 o1 rfl rfl rfl rfl rfl (by simp; done) (by rfl) (by simp; done) ?_
      | refine ar_callV_if Tryz.call12 o1 rfl rfl rfl rfl rfl rfl (by simp; done) rfl (by rfl) (by simp; done) ?_
      | refine ar_callV Tryz.call12 o2 rfl rfl rfl rfl rfl (by simp; done) (by rfl) (by simp; done) ?_
      | refine ar_callV_if Tryz.call12 o2 rfl rfl rfl rfl rfl rfl (by simp; done) rfl (by rfl) (by simp; done) ?_
      | refine ar_callV Tryz.call12 o3 rfl rfl rfl rfl rfl (by simp; done) (by rfl) (by simp; done) ?_
      | refine ar_callV_if Tryz.call12 o3 rfl rfl rfl rfl rfl rfl (by simp; done) rfl (by rfl) (by simp; done) ?_
      | refine ar_callV Tryz.call23 hAc rfl rfl rfl rfl rfl (by simp; done) (by rfl) (by simp; done) ?_
      | refine ar_callV_if Tryz.call23 hAc rfl rfl rfl rfl rfl rfl (by simp; done) rfl (by rfl) (by simp; done) ?_
      | refine ar_callV Tryz.call24 hPl rfl rfl rfl rfl rfl (by simp; done) (by rfl) (by simp; done) ?_
      | refine ar_callV_if Tryz.call24 hPl rfl rfl rfl rfl rfl rfl (by simp; done) rfl (by rfl) (by simp; done) ?_
      | refine ar_callV Tryz.call17 s2 rfl rfl rfl rfl rfl (by simp; done) (by rfl) (by simp; done) ?_
      | refine ar_callV_if Tryz.call17 s2 rfl rfl rfl rfl rfl rfl (by simp; done) rfl (by rfl) (by simp; done) ?_
      | refine ar_callV Tryz.call19 hIn rfl rfl rfl rfl rfl (by simp; done) (by rfl) (by simp; done) ?_
      | refine ar_callV_if Tryz.call19 hIn rfl rfl rfl rfl rfl rfl (by simp; done) rfl (by rfl) (by simp; done) ?_
      | refine ar_callV Tryz.call17 s3 rfl rfl rfl rfl rfl (by simp; done) (by rfl) (by simp; done) ?_
      | refine ar_callV_if Tryz.call17 s3 rfl rfl rfl rfl rfl rfl (by simp; done) rfl (by rfl) (by simp; done) ?_
      | refine ar_callV Tryz.call18 a4 rfl rfl rfl rfl rfl (by simp; done) (by rfl) (by simp; done) ?_
      | refine ar_callV_if Tryz.call18 a4 rfl rfl rfl rfl rfl rfl (by simp; done) rfl (by rfl) (by simp; done) ?_
      | refine ar_callV Tryz.call17 s4 rfl rfl rfl rfl rfl (by simp; done) (by rfl) (by simp; done) ?_
      | refine ar_callV_if Tryz.call17 s4 rfl rfl rfl rfl rfl rfl (by simp; done) rfl (by rfl) (by simp; done) ?_
      | refine ar_callV Tryz.call20 on5 rfl rfl rfl rfl rfl (by simp; done) (by rfl) (by simp; done) ?_
      | refine ar_callV_if Tryz.call20 on5 rfl rfl rfl rfl rfl rfl (by simp; done) rfl (by rfl) (by simp; done) ?_
      | refine ar_callV Tryz.call17 s5 rfl rfl rfl rfl rfl (by simp; done) (by rfl) (by simp; done) ?_
      | refine ar_callV_if Tryz.call17 s5 rfl rfl rfl rfl rfl rfl (by simp; done) rfl (by rfl) (by simp; done) ?_
      | refine ar_callV Tryz.call20 on6 rfl rfl rfl rfl rfl (by simp; done) (by rfl) (by simp; done) ?_
      | refine ar_callV_if Tryz.call20 on6 rfl rfl rfl rfl rfl rfl (by simp; done) rfl (by rfl) (by simp; done) ?_
      | refine ar_callV Tryz.call17 s6 rfl rfl rfl rfl rfl (by simp; done) (by rfl) (by simp; done) ?_
      | refine ar_callV_if Tryz.call17 s6 rfl rfl rfl rfl rfl rfl (by simp; done) rfl (by rfl) (by simp; done) ?_
      | refine ar_callV Tryz.call21 hAl rfl rfl rfl rfl rfl (by simp; done) (by rfl) (by simp; done) ?_
      | refine ar_callV_if Tryz.call21 hAl rfl rfl rfl rfl rfl rfl (by simp; done) rfl (by rfl) (by simp; done) ?_
      | refine ar_callV Tryz.call18 a7 rfl rfl rfl rfl rfl (by simp; done) (by rfl) (by simp; done) ?_
      | refine ar_callV_if Tryz.call18 a7 rfl rfl rfl rfl rfl rfl (by simp; done) rfl (by rfl) (by simp; done) ?_
      | refine ar_callV Tryz.call17 s7 rfl rfl rfl rfl rfl (by simp; done) (by rfl) (by simp; done) ?_
      | refine ar_callV_if Tryz.call17 s7 rfl rfl rfl rfl rfl rfl (by simp; done) rfl (by rfl) (by simp; done) ?_
      | refine ar_frzV Tryz.call13 hKR rfl rfl rfl rfl (by simp; exact rfl) (by simp; fail_if_success (show _)) (by simp; exact rfl) rfl (by simp; done) (by first | (simp; done) | (simp; exact rfl)) ⟨by rfl, by rfl, by rfl⟩ ?_
      | refine ar_frzV Tryz.call13 hKW rfl rfl rfl rfl (by simp; exact rfl) (by simp; fail_if_success (show _)) (by simp; exact rfl) rfl (by simp; done) (by first | (simp; done) | (simp; exact rfl)) ⟨by rfl, by rfl, by rfl⟩ ?_
      | refine ar_frz rfl rfl (by simp; exact rfl) rfl (by simp; fail_if_success (show _)) (by simp; exact rfl) (by simp; exact rfl) rfl (by simp; fail_if_success (show _)) ?_
      | refine ar_go3 _ rfl (by simp [hfb, exsL_len, exsL_getE, hne, hnn, hww, hk, hwr, hkl, hkd, hx]; exact ⟨rfl, rfl, rfl⟩) rfl ?_
      | refine aw_sregK 0 [0, 1] ?_
      | refine aw_regK 0 [0, 1] ?_
      | refine aw_sregK 1 [1, 2] ?_
      | refine aw_regK 1 [1, 2] ?_
      | refine aw_sregK 2 [1, 2, 5] ?_
      | refine aw_regK 2 [1, 2, 5] ?_
      | refine aw_sregK 4 [1, 2, 5] ?_
      | refine aw_regK 4 [1, 2, 5] ?_
      | refine aw_sregK 5 [1, 5, 6, 7] ?_
      | refine aw_regK 5 [1, 5, 6, 7] ?_
      | refine aw_sregK 7 [1, 5, 6] ?_
      | refine aw_regK 7 [1, 5, 6] ?_
      | refine aw_sregK 9 [1, 5, 6] ?_
      | refine aw_regK 9 [1, 5, 6] ?_
      | refine aw_sregK 10 [5, 8] ?_
      | refine aw_regK 10 [5, 8] ?_
      | refine aw_sregKD mixed 11 [5, 8, 9] (by simp; exact rfl) ?_
      | refine aw_regKD mixed 11 [5, 8, 9] (by simp; exact rfl) ?_
      | refine aw_sregKD mixed 12 [5, 8, 9, 10] (by simp; exact rfl) ?_
      | refine aw_regKD mixed 12 [5, 8, 9, 10] (by simp; exact rfl) ?_
      | refine aw_sregK 13 [5, 8, 9, 10, 11] ?_
      | refine aw_regK 13 [5, 8, 9, 10, 11] ?_
      | refine aw_sregKD mixed 14 [5, 8, 9, 10, 11, 12] (by simp; exact rfl) ?_
      | refine aw_regKD mixed 14 [5, 8, 9, 10, 11, 12] (by simp; exact rfl) ?_
      | refine aw_sreg ?_
      | refine aw_sregD mixed ?_
      | refine aw_ifT (b := true) rfl rfl ?_
      | refine aw_ifF (b := false) rfl rfl ?_
      | refine aw_ifT rfl (by assumption) ?_
      | refine aw_ifF rfl (by assumption) ?_
      | refine aw_ifT rfl (decide_eq_true (by assumption)) ?_
      | refine aw_ifF rfl (decide_eq_false (by assumption)) ?_
      | refine aw_seq ?_
      | refine aw_block ?_
      | refine aw_skip ?_
      | refine aw_region ?_
      | refine aw_region_draw mixed ?_
      | refine aw_exit ?_
      | refine rq_exit ?_
      | refine blockQ_hit ?_
      | refine blockQ_miss (by decide) ?_
      | (refine ar_guard rfl rfl rfl rfl (fun h => ?_) (fun h => ?_) <;> (fail_if_success (cases h; done)) <;> (try simp at h) <;> (try subst h))
      | (refine aw_both rfl (fun h => ?_) (fun h => ?_) <;> (fail_if_success (cases h; done)) <;> (try simp at h) <;> (try subst h)))
  · have h := herr he
    subst h
    refine scx_of Tryz.func5 rfl rfl rfl (Nat.le_of_ble_eq_true rfl) ?_
    repeat' (first
      | exact aw_ret (ret_vals (by simp; exact rfl) (by simp [*]; fail_if_success (show _)))
      | exact aw_ret (ret_vals (by simp; exact rfl) (by simp [*]; omega))
      | refine ar_end rfl ?_
      | refine ar_endD rfl (by kernel_rfl) ?_
      | refine ar_fin rfl ?_
      | refine ar_finD rfl (by kernel_rfl) ?_
      | refine ar_callV Tryz.call6 c_shown10 rfl rfl rfl rfl rfl (by simp; done) (by rfl) (by simp; done) ?_
      | refine ar_callV_if Tryz.call6 c_shown10 rfl rfl rfl rfl rfl rfl (by simp; done) rfl (by rfl) (by simp; done) ?_
      | refine ar_callV Tryz.call7 c_Few rfl rfl rfl rfl rfl (by simp; done) (by rfl) (by simp; done) ?_
      | refine ar_callV_if Tryz.call7 c_Few rfl rfl rfl rfl rfl rfl (by simp; done) rfl (by rfl) (by simp; done) ?_
      | refine ar_callV Tryz.call8 hA rfl rfl rfl rfl rfl (by simp; done) (by rfl) (by simp; done) ?_
      | refine ar_callV_if Tryz.call8 hA rfl rfl rfl rfl rfl rfl (by simp; done) rfl (by rfl) (by simp; done) ?_
      | refine ar_go3 _ rfl (by simp [hfb, exsL, he]; exact ⟨rfl, rfl, rfl⟩) rfl ?_
      | refine aw_sregK 0 [0, 1] ?_
      | refine aw_regK 0 [0, 1] ?_
      | refine aw_sregK 1 [1, 2] ?_
      | refine aw_regK 1 [1, 2] ?_
      | refine aw_sregK 2 [1, 2, 5] ?_
      | refine aw_regK 2 [1, 2, 5] ?_
      | refine aw_sregK 4 [1, 2, 5] ?_
      | refine aw_regK 4 [1, 2, 5] ?_
      | refine aw_sregK 5 [1, 5, 6, 7] ?_
      | refine aw_regK 5 [1, 5, 6, 7] ?_
      | refine aw_sregK 6 [5, 6] ?_
      | refine aw_regK 6 [5, 6] ?_
      | refine aw_sreg ?_
      | refine aw_sregD mixed ?_
      | refine aw_ifT (b := true) rfl rfl ?_
      | refine aw_ifF (b := false) rfl rfl ?_
      | refine aw_ifT rfl (by assumption) ?_
      | refine aw_ifF rfl (by assumption) ?_
      | refine aw_ifT rfl (decide_eq_true (by assumption)) ?_
      | refine aw_ifF rfl (decide_eq_false (by assumption)) ?_
      | refine aw_seq ?_
      | refine aw_block ?_
      | refine aw_skip ?_
      | refine aw_region ?_
      | refine aw_region_draw mixed ?_
      | refine aw_exit ?_
      | refine rq_exit ?_
      | refine blockQ_hit ?_
      | refine blockQ_miss (by decide) ?_
      | (refine ar_guard rfl rfl rfl rfl (fun h => ?_) (fun h => ?_) <;> (fail_if_success (cases h; done)) <;> (try simp at h) <;> (try subst h))
      | (refine aw_both rfl (fun h => ?_) (fun h => ?_) <;> (fail_if_success (cases h; done)) <;> (try simp at h) <;> (try subst h)))
end Go.Eng
