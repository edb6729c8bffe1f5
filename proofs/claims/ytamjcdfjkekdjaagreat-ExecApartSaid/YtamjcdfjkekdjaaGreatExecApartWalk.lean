import Derived.Test.YtamjcdfjkekdjaaGreatZedB
set_option linter.unusedSimpArgs false
set_option linter.unusedVariables false
set_option linter.constructorNameAsVariable false
set_option autoImplicit false
namespace Go.Eng
open Go Go.RowKit Go.Proofs
def toW (ps : List (Nat × Nat)) (i : Nat) : Wd := maskW ((ps.take i).map (·.2))
theorem toW_zero (ps : List (Nat × Nat)) : ub (toW ps 0) = 0 := rfl
theorem toW_succ {ps : List (Nat × Nat)} {j : Nat} (h : j < ps.length) : toW ps (j + 1) = toW ps j ||| 1#32 <<< ps[j].2 := by
  unfold toW
  rw [List.take_add_one, List.getElem?_eq_getElem h, List.map_append]; exact mask_snoc _ _
theorem toW_all {ps : List (Nat × Nat)} {j : Nat} (h : ps.length ≤ j) : toW ps j = maskW (ps.map (·.2)) := by unfold toW; rw [List.take_of_length_le h]
set_option maxHeartbeats 16000000 in
theorem law_ExecApart {i : List Int} {t : List (List In)} {w : Int} (hw0 : 0 ≤ w ∧ w < 65536) (hth : ∀ th ∈ t, ∀ x ∈ th, wfIn x) : SC Tryz.prog 4 [.agg (testL i t), I .u16 w] (B true) := by
  cases hfb : fewB i t
  · refine scx_of Tryz.func4 rfl rfl rfl (Nat.le_of_ble_eq_true rfl) ?_
    repeat' (first
      | exact aw_ret (ret_vals (by simp; exact rfl) (by simp [*]; fail_if_success (show _)))
      | exact aw_ret (ret_vals (by simp; exact rfl) (by simp [*]; omega))
      | refine ar_end rfl ?_
      | refine ar_endD rfl (by kernel_rfl) ?_
      | refine ar_fin rfl ?_
      | refine ar_finD rfl (by kernel_rfl) ?_
      | refine ar_callV Tryz.call6 c_shown10 rfl rfl rfl rfl rfl (by simp; done) (by rfl) (by simp; done) ?_
      | refine ar_callV_if Tryz.call6 c_shown10 rfl rfl rfl rfl rfl rfl (by simp; done) rfl (by rfl) (by simp; done) ?_
      | refine ar_callV Tryz.call7 c_Few rfl rfl rfl rfl rfl (by simp; done) (by rfl) (by simp; done) ?_
      | refine ar_callV_if Tryz.call7 c_Few rfl rfl rfl rfl rfl rfl (by simp; done) rfl (by rfl) (by simp; done) ?_
      | refine ar_go3 _ rfl (by simp [hfb]; exact ⟨rfl, rfl, rfl⟩) rfl ?_
      | refine aw_sregK 0 [0, 1] ?_
      | refine aw_regK 0 [0, 1] ?_
      | refine aw_sregK 1 [1, 2] ?_
      | refine aw_regK 1 [1, 2] ?_
      | refine aw_sregK 2 [1, 2, 5] ?_
      | refine aw_regK 2 [1, 2, 5] ?_
      | refine aw_sregK 3 [5] ?_
      | refine aw_regK 3 [5] ?_
      | refine aw_sreg ?_
      | refine aw_sregD mixed ?_
      | refine aw_ifT (b := true) rfl rfl ?_
      | refine aw_ifF (b := false) rfl rfl ?_
      | refine aw_ifT rfl (by assumption) ?_
      | refine aw_ifF rfl (by assumption) ?_
      | refine aw_ifT rfl (decide_eq_true (by assumption)) ?_
      | refine aw_ifF rfl (decide_eq_false (by assumption)) ?_
      | refine aw_seq ?_
      | refine aw_block ?_
      | refine aw_skip ?_
      | refine aw_region ?_
      | refine aw_region_draw mixed ?_
      | refine aw_exit ?_
      | refine rq_exit ?_
      | refine blockQ_hit ?_
      | refine blockQ_miss (by decide) ?_
      | (refine ar_guard rfl rfl rfl rfl (fun h => ?_) (fun h => ?_) <;> (fail_if_success (cases h; done)) <;> (try simp at h) <;> (try subst h))
      | (refine aw_both rfl (fun h => ?_) (fun h => ?_) <;> (fail_if_success (cases h; done)) <;> (try simp at h) <;> (try subst h)))
  have hM : maxLen = 9223372036854775807 := rfl
  have hf := fewB_iff.1 hfb
  have hA := c_All hf hth
  have hq := all_exr (i := i) hth
  have herr := @all_err i t
  have hpos := @all_pos i t
  generalize allF i t = q at *
  obtain ⟨xs, f⟩ := q
  dsimp only at hA hq herr hpos
  by_cases he : f = 0
  · subst he
    obtain ⟨hpos, hlenQ⟩ := hpos rfl
    have hne : ¬(xs.length : Int) = 0 := by omega
    have hnn : ¬xs = [] := by intro h; rw [h] at hpos; simp at hpos
    have hrem0 : 0 ≤ w.tmod (xs.length : Int) ∧ w.tmod (xs.length : Int) < (xs.length : Int) := by
      rw [Int.tmod_eq_emod_of_nonneg hw0.1]
      exact ⟨Int.emod_nonneg _ hne, Int.emod_lt_of_pos _ (by omega)⟩
    have hwr : IntKind.wrap .i64 (w.tmod (xs.length : Int)) = w.tmod (xs.length : Int) := wrap64s (by omega) (by omega)
    have hww : IntKind.wrap .i64 w = w := wrap64s (by omega) (by omega)
    obtain ⟨k, hk⟩ := Int.eq_ofNat_of_zero_le hrem0.1
    have hkl : k < xs.length := by omega
    have hkd : (k : Int) < (xs.length : Int) := by omega
    obtain ⟨n, hE⟩ := hq _ (List.getElem_mem hkl)
    generalize hx : xs[k] = x at *
    have hl := hE.len
    have h24 := hE.n24
    have h32 : x.es.length ≤ 32 := by omega
    have lp : x.po.length ≤ maxLen := by rw [hE.cpo.len]; omega
    have la : x.ad.length ≤ maxLen := by rw [hE.cad.len]; omega
    have ld : x.da.length ≤ maxLen := by rw [hE.cda.len]; omega
    have lc : x.ct.length ≤ maxLen := by rw [hE.cct.len]; omega
    have lr : x.rm.length ≤ maxLen := by rw [hE.crm.len]; omega
    have bl : ∀ (f : Wd → Wd → Wd) a b, (bothR f a b).length ≤ maxLen := fun f a b => by have := both_le f a b; omega
    have ol : ∀ a fr to, (onlyR a fr to).length ≤ maxLen := fun a fr to => by have := only_le a fr to; omega
    have hAl := c_alike (e := x) h32
    have hIn := c_inner (e := x) h32
    have lal : (eventsR alikeQ x.es).length ≤ maxLen := by rw [(events_cl (q := alikeQ) h32).len]; omega
    have lin : (eventsR innerQ x.es).length ≤ maxLen := by rw [(events_cl (q := innerQ) h32).len]; omega
    have o1 := c_orV (a := x.ad) (b := x.da) la ld
    have o2 := c_orV (a := x.ct) (b := x.rm) lc lr
    have o3 := c_orV (a := bothR (· ||| ·) x.ad x.da) (b := bothR (· ||| ·) x.ct x.rm) (bl _ _ _) (bl _ _ _)
    have p1 : sameR (bothR (· &&& ·) (bothR (· ||| ·) (all4 x) x.po) (eventsR innerQ x.es)) (bothR (· ||| ·) (all4 x) x.po) = true := apart_inner hE
    have p2 := to_own hE
    have p3 := alike_mem hE
    have h4 : bothR (· ||| ·) (bothR (· ||| ·) x.ad x.da) (bothR (· ||| ·) x.ct x.rm) = all4 x := rfl
    rw [h4] at o3
    have l4 : (all4 x).length ≤ maxLen := by rw [← h4]; exact bl _ _ _
    clear h4
    generalize all4 x = A4 at *
    have o4 := c_orV (a := A4) (b := x.po) l4 lp
    have hKM := c_kinds12 h32
    have hMS := c_maskP (e := x) Tryz.call15 (fun y => c_stores (x := y)) h32
    have hP := c_pairsV (r := x.rm) lr
    have hpl : (pairsR x.rm).length ≤ 1024 := by
      rw [pairs_eq, hE.crm.clean, hE.crm.len]
      exact Nat.le_trans (upto_len _ _ _) (Nat.le_trans (Nat.mul_le_mul (show n ≤ 24 by omega) (show n ≤ 24 by omega)) (by decide))
    have hpm : ∀ p ∈ pairsR x.rm, p.2 < 32 := fun p hp => by
      have := (mem_pairs.1 hp).2.1
      rw [hE.crm.clean, hE.crm.len] at this; omega
    generalize maskE memE x.es = MM at *
    rw [← p2] at hMS
    generalize pairsR x.rm = ps at *
    have a5 := c_andV (a := bothR (· ||| ·) A4 x.po) (b := eventsR innerQ x.es) (bl _ _ _) lin
    have s5 := c_same (a := bothR (· &&& ·) (bothR (· ||| ·) A4 x.po) (eventsR innerQ x.es)) (b := bothR (· ||| ·) A4 x.po) (bl _ _ _) (bl _ _ _)
    have on6 := c_onlyV (a := eventsR alikeQ x.es) (fr := MM) (to := MM) lal
    have s6 := c_same (a := onlyR (eventsR alikeQ x.es) MM MM) (b := eventsR alikeQ x.es) (ol _ _ _) lal
    rw [p1] at s5
    rw [p3] at s6
    generalize bothR (· &&& ·) (bothR (· ||| ·) A4 x.po) (eventsR innerQ x.es) = G5 at *
    generalize onlyR (eventsR alikeQ x.es) MM MM = G6 at *
    generalize bothR (· ||| ·) A4 x.po = AA at *
    generalize bothR (· ||| ·) x.ad x.da = H1 at *
    generalize bothR (· ||| ·) x.ct x.rm = H2 at *
    generalize eventsR alikeQ x.es = EA at *
    generalize eventsR innerQ x.es = EI at *
    refine scx_of Tryz.func4 rfl rfl rfl (Nat.le_of_ble_eq_true rfl) ?_
    repeat' (first
      | refine ar_end rfl ?_
      | refine ar_endD rfl (by kernel_rfl) ?_
      | refine ar_fin rfl ?_
      | refine ar_finD rfl (by kernel_rfl) ?_
      | refine ar_callV Tryz.call6 c_shown10 rfl rfl rfl rfl rfl (by simp; done) (by rfl) (by simp; done) ?_
      | refine ar_callV_if Tryz.call6 c_shown10 rfl rfl rfl rfl rfl rfl (by simp; done) rfl (by rfl) (by simp; done) ?_
      | refine ar_callV Tryz.call7 c_Few rfl rfl rfl rfl rfl (by simp; done) (by rfl) (by simp; done) ?_
      | refine ar_callV_if Tryz.call7 c_Few rfl rfl rfl rfl rfl rfl (by simp; done) rfl (by rfl) (by simp; done) ?_
      | refine ar_callV Tryz.call8 hA rfl rfl rfl rfl rfl (by simp; done) (by rfl) (by simp; done) ?_
      | refine ar_callV_if Tryz.call8 hA rfl rfl rfl rfl rfl rfl (by simp; done) rfl (by rfl) (by simp; done) ?_
      | refine ar_callV Tryz.call12 o1 rfl rfl rfl rfl rfl (by simp; done) (by rfl) (by simp; done) ?_
      | refine ar_callV_if Tryz.call12 o1 rfl rfl rfl rfl rfl rfl (by simp; done) rfl (by rfl) (by simp; done) ?_
      | refine ar_callV Tryz.call12 o2 rfl rfl rfl rfl rfl (by simp; done) (by rfl) (by simp; done) ?_
      | refine ar_callV_if Tryz.call12 o2 rfl rfl rfl rfl rfl rfl (by simp; done) rfl (by rfl) (by simp; done) ?_
      | refine ar_callV Tryz.call12 o3 rfl rfl rfl rfl rfl (by simp; done) (by rfl) (by simp; done) ?_
      | refine ar_callV_if Tryz.call12 o3 rfl rfl rfl rfl rfl rfl (by simp; done) rfl (by rfl) (by simp; done) ?_
      | refine ar_callV Tryz.call12 o4 rfl rfl rfl rfl rfl (by simp; done) (by rfl) (by simp; done) ?_
      | refine ar_callV_if Tryz.call12 o4 rfl rfl rfl rfl rfl rfl (by simp; done) rfl (by rfl) (by simp; done) ?_
      | refine ar_callV Tryz.call14 hMS rfl rfl rfl rfl rfl (by simp; done) (by rfl) (by simp; done) ?_
      | refine ar_callV_if Tryz.call14 hMS rfl rfl rfl rfl rfl rfl (by simp; done) rfl (by rfl) (by simp; done) ?_
      | refine ar_callV Tryz.call16 hP rfl rfl rfl rfl rfl (by simp; done) (by rfl) (by simp; done) ?_
      | refine ar_callV_if Tryz.call16 hP rfl rfl rfl rfl rfl rfl (by simp; done) rfl (by rfl) (by simp; done) ?_
      | refine ar_frzV Tryz.call13 hKM rfl rfl rfl rfl (by simp; exact rfl) (by simp; fail_if_success (show _)) (by simp; exact rfl) rfl (by simp; done) (by first | (simp; done) | (simp; exact rfl)) ⟨by rfl, by rfl, by rfl⟩ ?_
      | refine ar_frz rfl rfl (by simp; exact rfl) rfl (by simp; fail_if_success (show _)) (by simp; exact rfl) (by simp; exact rfl) rfl (by simp; fail_if_success (show _)) ?_
      | refine ar_go3 _ rfl (by simp [hfb, exsL_len, exsL_getE, hne, hnn, hww, hk, hwr, hkl, hkd, hx]; exact ⟨rfl, rfl, rfl⟩) rfl ?_
      | refine aw_sregK 0 [0, 1] ?_
      | refine aw_regK 0 [0, 1] ?_
      | refine aw_sregK 1 [1, 2] ?_
      | refine aw_regK 1 [1, 2] ?_
      | refine aw_sregK 2 [1, 2, 5] ?_
      | refine aw_regK 2 [1, 2, 5] ?_
      | refine aw_sregK 4 [1, 2, 5] ?_
      | refine aw_regK 4 [1, 2, 5] ?_
      | refine aw_sregK 5 [1, 5, 6, 7] ?_
      | refine aw_regK 5 [1, 5, 6, 7] ?_
      | refine aw_sregK 7 [1, 5, 6] ?_
      | refine aw_regK 7 [1, 5, 6] ?_
      | refine aw_sregKD mixed 8 [5, 8] (by simp; exact rfl) ?_
      | refine aw_regKD mixed 8 [5, 8] (by simp; exact rfl) ?_
      | refine aw_sregK 9 [5, 8, 9] ?_
      | refine aw_regK 9 [5, 8, 9] ?_
      | refine aw_sregK 10 [5, 8, 9, 10] ?_
      | refine aw_regK 10 [5, 8, 9, 10] ?_
      | refine aw_sregK 11 [5, 8, 9, 10, 11] ?_
      | refine aw_regK 11 [5, 8, 9, 10, 11] ?_
      | refine aw_sregK 12 [5, 8, 9, 10, 11, 12] ?_
      | refine aw_regK 12 [5, 8, 9, 10, 11, 12] ?_
      | refine aw_sregK 13 [5, 8, 9, 10, 11, 12, 13] ?_
      | refine aw_regK 13 [5, 8, 9, 10, 11, 12, 13] ?_
      | refine aw_sreg ?_
      | refine aw_sregD mixed ?_
      | refine aw_ifT (b := true) rfl rfl ?_
      | refine aw_ifF (b := false) rfl rfl ?_
      | refine aw_ifT rfl (by assumption) ?_
      | refine aw_ifF rfl (by assumption) ?_
      | refine aw_ifT rfl (decide_eq_true (by assumption)) ?_
      | refine aw_ifF rfl (decide_eq_false (by assumption)) ?_
      | refine aw_seq ?_
      | refine aw_block ?_
      | refine aw_skip ?_
      | refine aw_region ?_
      | refine aw_region_draw mixed ?_
      | refine aw_exit ?_
      | refine rq_exit ?_
      | refine blockQ_hit ?_
      | refine blockQ_miss (by decide) ?_
      | (refine ar_guard rfl rfl rfl rfl (fun h => ?_) (fun h => ?_) <;> (fail_if_success (cases h; done)) <;> (try simp at h) <;> (try subst h))
      | (refine aw_both rfl (fun h => ?_) (fun h => ?_) <;> (fail_if_success (cases h; done)) <;> (try simp at h) <;> (try subst h)))
    refine aw_loopN [5, 8, 9, 10, 11, 12, 13, 14] [.loc 8] (by simp; exact rfl) (ι := {j : Nat // j ≤ ps.length}) (fun j => ⟨107, [(5, B true), (8, .ptr (.loc 8) 0), (9, .pv (.sl 1 (rl AA))), (10, I .u32 (ub MM)), (11, I .u32 (ub (maskW (ps.map (·.2))))), (12, I .u32 (ub (toW ps j.1))), (13, .pv (.sl 2 (prs ps))), (14, I .i64 j.1)], [(.loc 8, some (.box 44 [.pv (.sl 7 (evsL x.es)), .pv (.sl 1 (rl x.po)), .pv (.sl 1 (rl x.ad)), .pv (.sl 1 (rl x.da)), .pv (.sl 1 (rl x.ct)), .pv (.sl 1 (rl x.rm)), .pv (.sl 1 (rgL x.rg))]))]⟩) (fun j => ps.length - j.1) ⟨0, by omega⟩ (by simp [toW_zero]) ?_
    rintro ⟨j, hj⟩
    by_cases hlt : j < ps.length
    · have hd : (j : Int) < (ps.length : Int) := by omega
      have hw : IntKind.wrap .i64 ((j : Int) + 1) = (j : Int) + 1 := wrap64s (by omega) (by omega)
      have hst := toW_succ hlt
      have hp2 := hpm _ (List.getElem_mem hlt)
      generalize toW ps j = M at *
      generalize hp : ps[j] = p at *
      obtain ⟨u, v⟩ := p
      dsimp only at hst hp2
      have hwu := wrap64u (n := v) (by omega)
      repeat' (first
        | refine ar_end rfl ?_
        | refine ar_endD rfl (by kernel_rfl) ?_
        | refine ar_fin rfl ?_
        | refine ar_finD rfl (by kernel_rfl) ?_
        | refine bq_norm ?_
        | refine lq_normN [5, 8, 9, 10, 11, 12, 13, 14] [.loc 8] (by simp; exact rfl) ⟨j + 1, by omega⟩ (by dsimp only; omega) (by simp [hst])
        | refine ar_go3 _ rfl (by simp [rl_len, rl_getE, rl_set, rl_nil, List.length_set, List.getElem_set, IntKind.bits, ub_shl1', ub_shr, ub_or, ub_and, ub_andNot, ub_bit, Int.toNat_natCast, ub_zero, prs_len, prs_getE, hd, hlt, hp, hw, hwu]; exact ⟨rfl, rfl, rfl⟩) rfl ?_
        | refine aw_sregK 14 [5, 8, 9, 10, 11, 12, 13, 14] ?_
        | refine aw_regK 14 [5, 8, 9, 10, 11, 12, 13, 14] ?_
        | refine aw_sregK 15 [5, 8, 9, 10, 11, 12, 13, 14] ?_
        | refine aw_regK 15 [5, 8, 9, 10, 11, 12, 13, 14] ?_
        | refine aw_sregK 16 [5, 8, 9, 10, 11, 12, 13, 14] ?_
        | refine aw_regK 16 [5, 8, 9, 10, 11, 12, 13, 14] ?_
        | refine aw_sreg ?_
        | refine aw_sregD mixed ?_
        | refine aw_ifT (b := true) rfl rfl ?_
        | refine aw_ifF (b := false) rfl rfl ?_
        | refine aw_ifT rfl (by assumption) ?_
        | refine aw_ifF rfl (by assumption) ?_
        | refine aw_ifT rfl (decide_eq_true (by assumption)) ?_
        | refine aw_ifF rfl (decide_eq_false (by assumption)) ?_
        | refine aw_seq ?_
        | refine aw_block ?_
        | refine aw_skip ?_
        | refine aw_region ?_
        | refine aw_region_draw mixed ?_
        | refine aw_exit ?_
        | refine rq_exit ?_
        | refine blockQ_hit ?_
        | refine blockQ_miss (by decide) ?_
        | (refine ar_guard rfl rfl rfl rfl (fun h => ?_) (fun h => ?_) <;> (fail_if_success (cases h; done)) <;> (try simp at h) <;> (try subst h))
        | (refine aw_both rfl (fun h => ?_) (fun h => ?_) <;> (fail_if_success (cases h; done)) <;> (try simp at h) <;> (try subst h)))
    have hd : ¬(j : Int) < (ps.length : Int) := by omega
    rw [toW_all (ps := ps) (j := j) (by omega)]
    generalize maskW (ps.map (·.2)) = M at *
    repeat' (first
      | exact aw_ret (ret_vals (by simp; exact rfl) (by simp [*]; fail_if_success (show _)))
      | exact aw_ret (ret_vals (by simp; exact rfl) (by simp [*]; omega))
      | refine ar_end rfl ?_
      | refine ar_endD rfl (by kernel_rfl) ?_
      | refine ar_fin rfl ?_
      | refine ar_finD rfl (by kernel_rfl) ?_
      | refine ar_callV Tryz.call19 hIn rfl rfl rfl rfl rfl (by simp; done) (by rfl) (by simp; done) ?_
      | refine ar_callV_if Tryz.call19 hIn rfl rfl rfl rfl rfl rfl (by simp; done) rfl (by rfl) (by simp; done) ?_
      | refine ar_callV Tryz.call18 a5 rfl rfl rfl rfl rfl (by simp; done) (by rfl) (by simp; done) ?_
      | refine ar_callV_if Tryz.call18 a5 rfl rfl rfl rfl rfl rfl (by simp; done) rfl (by rfl) (by simp; done) ?_
      | refine ar_callV Tryz.call17 s5 rfl rfl rfl rfl rfl (by simp; done) (by rfl) (by simp; done) ?_
      | refine ar_callV_if Tryz.call17 s5 rfl rfl rfl rfl rfl rfl (by simp; done) rfl (by rfl) (by simp; done) ?_
      | refine ar_callV Tryz.call21 hAl rfl rfl rfl rfl rfl (by simp; done) (by rfl) (by simp; done) ?_
      | refine ar_callV_if Tryz.call21 hAl rfl rfl rfl rfl rfl rfl (by simp; done) rfl (by rfl) (by simp; done) ?_
      | refine ar_callV Tryz.call20 on6 rfl rfl rfl rfl rfl (by simp; done) (by rfl) (by simp; done) ?_
      | refine ar_callV_if Tryz.call20 on6 rfl rfl rfl rfl rfl rfl (by simp; done) rfl (by rfl) (by simp; done) ?_
      | refine ar_callV Tryz.call17 s6 rfl rfl rfl rfl rfl (by simp; done) (by rfl) (by simp; done) ?_
      | refine ar_callV_if Tryz.call17 s6 rfl rfl rfl rfl rfl rfl (by simp; done) rfl (by rfl) (by simp; done) ?_
      | refine lq_exit ?_
      | refine ar_go3 _ rfl (by simp [prs_len, hd]; exact ⟨rfl, rfl, rfl⟩) rfl ?_
      | refine aw_sregK 14 [5, 8, 9, 10, 11, 12, 13, 14] ?_
      | refine aw_regK 14 [5, 8, 9, 10, 11, 12, 13, 14] ?_
      | refine aw_sregKD mixed 17 [5, 8, 9, 10, 11, 12] (by simp; exact rfl) ?_
      | refine aw_regKD mixed 17 [5, 8, 9, 10, 11, 12] (by simp; exact rfl) ?_
      | refine aw_sreg ?_
      | refine aw_sregD mixed ?_
      | refine aw_ifT (b := true) rfl rfl ?_
      | refine aw_ifF (b := false) rfl rfl ?_
      | refine aw_ifT rfl (by assumption) ?_
      | refine aw_ifF rfl (by assumption) ?_
      | refine aw_ifT rfl (decide_eq_true (by assumption)) ?_
      | refine aw_ifF rfl (decide_eq_false (by assumption)) ?_
      | refine aw_seq ?_
      | refine aw_block ?_
      | refine aw_skip ?_
      | refine aw_region ?_
      | refine aw_region_draw mixed ?_
      | refine aw_exit ?_
      | refine rq_exit ?_
      | refine blockQ_hit ?_
      | refine blockQ_miss (by decide) ?_
      | (refine ar_guard rfl rfl rfl rfl (fun h => ?_) (fun h => ?_) <;> (fail_if_success (cases h; done)) <;> (try simp at h) <;> (try subst h))
      | (refine aw_both rfl (fun h => ?_) (fun h => ?_) <;> (fail_if_success (cases h; done)) <;> (try simp at h) <;> (try subst h)))
  · have h := herr he
    subst h
    refine scx_of Tryz.func4 rfl rfl rfl (Nat.le_of_ble_eq_true rfl) ?_
    repeat' (first
      | exact aw_ret (ret_vals (by simp; exact rfl) (by simp [*]; fail_if_success (show _)))
      | exact aw_ret (ret_vals (by simp; exact rfl) (by simp [*]; omega))
      | refine ar_end rfl ?_
      | refine ar_endD rfl (by kernel_rfl) ?_
      | refine ar_fin rfl ?_
      | refine ar_finD rfl (by kernel_rfl) ?_
      | refine ar_callV Tryz.call6 c_shown10 rfl rfl rfl rfl rfl (by simp; done) (by rfl) (by simp; done) ?_
      | refine ar_callV_if Tryz.call6 c_shown10 rfl rfl rfl rfl rfl rfl (by simp; done) rfl (by rfl) (by simp; done) ?_
      | refine ar_callV Tryz.call7 c_Few rfl rfl rfl rfl rfl (by simp; done) (by rfl) (by simp; done) ?_
      | refine ar_callV_if Tryz.call7 c_Few rfl rfl rfl rfl rfl rfl (by simp; done) rfl (by rfl) (by simp; done) ?_
      | refine ar_callV Tryz.call8 hA rfl rfl rfl rfl rfl (by simp; done) (by rfl) (by simp; done) ?_
      | refine ar_callV_if Tryz.call8 hA rfl rfl rfl rfl rfl rfl (by simp; done) rfl (by rfl) (by simp; done) ?_
      | refine ar_go3 _ rfl (by simp [hfb, exsL, he]; exact ⟨rfl, rfl, rfl⟩) rfl ?_
      | refine aw_sregK 0 [0, 1] ?_
      | refine aw_regK 0 [0, 1] ?_
      | refine aw_sregK 1 [1, 2] ?_
      | refine aw_regK 1 [1, 2] ?_
      | refine aw_sregK 2 [1, 2, 5] ?_
      | refine aw_regK 2 [1, 2, 5] ?_
      | refine aw_sregK 4 [1, 2, 5] ?_
      | refine aw_regK 4 [1, 2, 5] ?_
      | refine aw_sregK 5 [1, 5, 6, 7] ?_
      | refine aw_regK 5 [1, 5, 6, 7] ?_
      | refine aw_sregK 6 [5, 6] ?_
      | refine aw_regK 6 [5, 6] ?_
      | refine aw_sreg ?_
      | refine aw_sregD mixed ?_
      | refine aw_ifT (b := true) rfl rfl ?_
      | refine aw_ifF (b := false) rfl rfl ?_
      | refine aw_ifT rfl (by assumption) ?_
      | refine aw_ifF rfl (by assumption) ?_
      | refine aw_ifT rfl (decide_eq_true (by assumption)) ?_
      | refine aw_ifF rfl (decide_eq_false (by assumption)) ?_
      | refine aw_seq ?_
      | refine aw_block ?_
      | refine aw_skip ?_
      | refine aw_region ?_
      | refine aw_region_draw mixed ?_
      | refine aw_exit ?_
      | refine rq_exit ?_
      | refine blockQ_hit ?_
      | refine blockQ_miss (by decide) ?_
      | (refine ar_guard rfl rfl rfl rfl (fun h => ?_) (fun h => ?_) <;> (fail_if_success (cases h; done)) <;> (try simp at h) <;> (try subst h))
      | (refine aw_both rfl (fun h => ?_) (fun h => ?_) <;> (fail_if_success (cases h; done)) <;> (try simp at h) <;> (try subst h)))
end Go.Eng
