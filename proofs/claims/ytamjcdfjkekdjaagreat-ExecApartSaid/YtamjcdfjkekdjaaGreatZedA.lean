import Derived.Test.YtamjcdfjkekdjaaGreatExecA
import Derived.Test.YtamjcdfjkekdjaaGreatExecR
set_option linter.unusedSimpArgs false
set_option linter.unusedVariables false
set_option linter.constructorNameAsVariable false
set_option autoImplicit false
namespace Go.Eng
open Go Go.RowKit Go.Proofs
set_option maxHeartbeats 16000000 in
theorem c_or1 {x y : Wd} : SC Tryz.prog 35 [I .u32 (ub x), I .u32 (ub y)] (I .u32 (ub (x ||| y))) := by
  refine scx_of Tryz.func35 rfl rfl rfl (Nat.le_of_ble_eq_true rfl) ?_
  repeat' (first
    | exact aw_ret (ret_vals (by simp; exact rfl) (by simp [*]; fail_if_success (show _)))
    | exact aw_ret (ret_vals (by simp; exact rfl) (by simp [*]; omega))
    | refine ar_end rfl ?_
    | refine ar_endD rfl (by kernel_rfl) ?_
    | refine ar_fin rfl ?_
    | refine ar_finD rfl (by kernel_rfl) ?_
    | refine ar_go3 _ rfl (by simp [rl_len, rl_getE, rl_set, rl_nil, List.length_set, List.getElem_set, IntKind.bits, ub_shl1', ub_shr, ub_or, ub_and, ub_andNot, ub_bit, Int.toNat_natCast, ub_zero]; exact ⟨rfl, rfl, rfl⟩) rfl ?_
    | refine aw_sregK 0 [0, 1] ?_
    | refine aw_regK 0 [0, 1] ?_
    | refine aw_sregK 1 [0, 1] ?_
    | refine aw_regK 1 [0, 1] ?_
    | refine aw_sreg ?_
    | refine aw_sregD mixed ?_
    | refine aw_ifT (b := true) rfl rfl ?_
    | refine aw_ifF (b := false) rfl rfl ?_
    | refine aw_ifT rfl (by assumption) ?_
    | refine aw_ifF rfl (by assumption) ?_
    | refine aw_ifT rfl (decide_eq_true (by assumption)) ?_
    | refine aw_ifF rfl (decide_eq_false (by assumption)) ?_
    | refine aw_seq ?_
    | refine aw_block ?_
    | refine aw_skip ?_
    | refine aw_region ?_
    | refine aw_region_draw mixed ?_
    | refine aw_exit ?_
    | refine rq_exit ?_
    | refine blockQ_hit ?_
    | refine blockQ_miss (by decide) ?_
    | (refine ar_guard rfl rfl rfl rfl (fun h => ?_) (fun h => ?_) <;> (fail_if_success (cases h; done)) <;> (try simp at h) <;> (try subst h))
    | (refine aw_both rfl (fun h => ?_) (fun h => ?_) <;> (fail_if_success (cases h; done)) <;> (try simp at h) <;> (try subst h)))
set_option maxHeartbeats 16000000 in
theorem c_and1 {x y : Wd} : SC Tryz.prog 40 [I .u32 (ub x), I .u32 (ub y)] (I .u32 (ub (x &&& y))) := by
  refine scx_of Tryz.func40 rfl rfl rfl (Nat.le_of_ble_eq_true rfl) ?_
  repeat' (first
    | exact aw_ret (ret_vals (by simp; exact rfl) (by simp [*]; fail_if_success (show _)))
    | exact aw_ret (ret_vals (by simp; exact rfl) (by simp [*]; omega))
    | refine ar_end rfl ?_
    | refine ar_endD rfl (by kernel_rfl) ?_
    | refine ar_fin rfl ?_
    | refine ar_finD rfl (by kernel_rfl) ?_
    | refine ar_go3 _ rfl (by simp [rl_len, rl_getE, rl_set, rl_nil, List.length_set, List.getElem_set, IntKind.bits, ub_shl1', ub_shr, ub_or, ub_and, ub_andNot, ub_bit, Int.toNat_natCast, ub_zero]; exact ⟨rfl, rfl, rfl⟩) rfl ?_
    | refine aw_sregK 0 [0, 1] ?_
    | refine aw_regK 0 [0, 1] ?_
    | refine aw_sregK 1 [0, 1] ?_
    | refine aw_regK 1 [0, 1] ?_
    | refine aw_sreg ?_
    | refine aw_sregD mixed ?_
    | refine aw_ifT (b := true) rfl rfl ?_
    | refine aw_ifF (b := false) rfl rfl ?_
    | refine aw_ifT rfl (by assumption) ?_
    | refine aw_ifF rfl (by assumption) ?_
    | refine aw_ifT rfl (decide_eq_true (by assumption)) ?_
    | refine aw_ifF rfl (decide_eq_false (by assumption)) ?_
    | refine aw_seq ?_
    | refine aw_block ?_
    | refine aw_skip ?_
    | refine aw_region ?_
    | refine aw_region_draw mixed ?_
    | refine aw_exit ?_
    | refine rq_exit ?_
    | refine blockQ_hit ?_
    | refine blockQ_miss (by decide) ?_
    | (refine ar_guard rfl rfl rfl rfl (fun h => ?_) (fun h => ?_) <;> (fail_if_success (cases h; done)) <;> (try simp at h) <;> (try subst h))
    | (refine aw_both rfl (fun h => ?_) (fun h => ?_) <;> (fail_if_success (cases h; done)) <;> (try simp at h) <;> (try subst h)))
set_option maxHeartbeats 16000000 in
theorem c_both {g : FuncId} {f : Wd → Wd → Wd} (hent : Enters Tryz.prog g) (hg : ∀ x y, SC Tryz.prog g [I .u32 (ub x), I .u32 (ub y)] (I .u32 (ub (f x y)))) {a b : RL} (ha : a.length ≤ maxLen) (hb : b.length ≤ maxLen) : SCO Tryz.prog 34 [.pv (.sl 1 (rl a)), .pv (.sl 1 (rl b)), .fn g [] []] 47 1 (rl (bothR f a b)) := by
  have hA := c_clean ha
  have hB := c_clean hb
  have hal := clean_le a
  unfold bothR
  generalize cleanR a = x at *
  generalize cleanR b = y at *
  by_cases hl : x.length = y.length
  · rw [if_pos hl]
    have hc : ¬((x.length : Int) ≠ (y.length : Int)) := by omega
    generalize hz : List.zipWith f x y = z
    have hzl : z.length = x.length := by rw [← hz]; simp; omega
    refine scx_of Tryz.func34 rfl rfl rfl (Nat.le_of_ble_eq_true rfl) ?_
    repeat' (first
      | refine ar_end rfl ?_
      | refine ar_endD rfl (by kernel_rfl) ?_
      | refine ar_fin rfl ?_
      | refine ar_finD rfl (by kernel_rfl) ?_
      | refine ar_callO Tryz.call38 hA rfl rfl rfl rfl (by simp; exact rfl) rfl (by simp; done) (by rfl) rfl ?_
      | refine ar_callO Tryz.call38 hB rfl rfl rfl rfl (by simp; exact rfl) rfl (by simp; done) (by rfl) rfl ?_
      | refine ar_go3 _ rfl (by simp [rl_len, rl_getE, rl_set, rl_nil, List.length_set, List.getElem_set, IntKind.bits, ub_shl1', ub_shr, ub_or, ub_and, ub_andNot, ub_bit, Int.toNat_natCast, ub_zero, hl]; exact ⟨rfl, rfl, rfl⟩) rfl ?_
      | refine aw_sregK 0 [0, 1, 2] ?_
      | refine aw_regK 0 [0, 1, 2] ?_
      | refine aw_sregK 1 [0, 1, 2] ?_
      | refine aw_regK 1 [0, 1, 2] ?_
      | refine aw_sregK 2 [2, 7, 8] ?_
      | refine aw_regK 2 [2, 7, 8] ?_
      | refine aw_sregK 3 [] ?_
      | refine aw_regK 3 [] ?_
      | refine aw_sregK 4 [2, 7, 8] ?_
      | refine aw_regK 4 [2, 7, 8] ?_
      | refine aw_sregK 5 [2, 7, 8, 21, 22] ?_
      | refine aw_regK 5 [2, 7, 8, 21, 22] ?_
      | refine aw_sregK 6 [2, 7, 8, 21, 22] ?_
      | refine aw_regK 6 [2, 7, 8, 21, 22] ?_
      | refine aw_sregKD mixed 7 [2, 7, 8, 9, 21, 22] (by simp; exact rfl) ?_
      | refine aw_regKD mixed 7 [2, 7, 8, 9, 21, 22] (by simp; exact rfl) ?_
      | refine aw_sregK 8 [2, 7, 8, 21, 22] ?_
      | refine aw_regK 8 [2, 7, 8, 21, 22] ?_
      | refine aw_sregK 9 [7] ?_
      | refine aw_regK 9 [7] ?_
      | refine aw_sreg ?_
      | refine aw_sregD mixed ?_
      | refine aw_ifT (b := true) rfl rfl ?_
      | refine aw_ifF (b := false) rfl rfl ?_
      | refine aw_ifT rfl (by assumption) ?_
      | refine aw_ifF rfl (by assumption) ?_
      | refine aw_ifT rfl (decide_eq_true (by assumption)) ?_
      | refine aw_ifF rfl (decide_eq_false (by assumption)) ?_
      | refine aw_seq ?_
      | refine aw_block ?_
      | refine aw_skip ?_
      | refine aw_region ?_
      | refine aw_region_draw mixed ?_
      | refine aw_exit ?_
      | refine rq_exit ?_
      | refine blockQ_hit ?_
      | refine blockQ_miss (by decide) ?_
      | (refine ar_guard rfl rfl rfl rfl (fun h => ?_) (fun h => ?_) <;> (fail_if_success (cases h; done)) <;> (try simp at h) <;> (try subst h))
      | (refine aw_both rfl (fun h => ?_) (fun h => ?_) <;> (fail_if_success (cases h; done)) <;> (try simp at h) <;> (try subst h)))
    refine aw_loopN [2, 7, 8, 21, 22] [.loc 11, .loc 13] (by simp; exact rfl) (ι := {i : Nat // i ≤ x.length}) (fun i => ⟨40, [(2, .fn g [] []), (7, .own (.loc 11)), (8, .own (.loc 13)), (21, I .i64 x.length), (22, I .i64 i.1)], [(.loc 11, some (.own 47 1 (rl (mixR x z i.1)))), (.loc 13, some (.own 47 1 (rl y)))]⟩) (fun i => x.length - i.1) ⟨0, by omega⟩ (by simp [mix_zero, rl_len, hl]) ?_
    rintro ⟨i, hi⟩
    by_cases hlt : i < x.length
    · have hw : IntKind.wrap .i64 ((i : Int) + 1) = (i : Int) + 1 := wrap64s (by omega) (by omega)
      have hd : (i : Int) < (x.length : Int) := by omega
      have hml := mix_len (i := i) hzl (by omega)
      have hmg : ∀ h, (mixR x z i)[i]'h = x[i] := fun h => mix_get (i := i) hzl hlt
      have hly : i < y.length := by omega
      have hms := mix_set (b := f x[i] y[i]) hzl hlt (by simp [← hz])
      generalize mixR x z i = m at hml hms hmg
      have hlm : i < m.length := by omega
      generalize x[i] = p at hmg hms
      generalize hyi : y[i] = q at hms
      have hG := hg p q
      repeat' (first
        | refine ar_end rfl ?_
        | refine ar_endD rfl (by kernel_rfl) ?_
        | refine ar_fin rfl ?_
        | refine ar_finD rfl (by kernel_rfl) ?_
        | refine ar_callV hent hG rfl rfl rfl rfl rfl (by simp; done) (by rfl) (by simp; done) ?_
        | refine bq_norm ?_
        | refine lq_normN [2, 7, 8, 21, 22] [.loc 11, .loc 13] (by simp; exact rfl) ⟨i + 1, by omega⟩ (by dsimp only; omega) (by simp [hms])
        | refine ar_go3 _ rfl (by simp [rl_len, rl_getE, rl_set, rl_nil, List.length_set, List.getElem_set, IntKind.bits, ub_shl1', ub_shr, ub_or, ub_and, ub_andNot, ub_bit, Int.toNat_natCast, ub_zero, hlt, hlm, hly, hd, hmg, hyi, hw]; exact ⟨rfl, rfl, rfl⟩) rfl ?_
        | refine aw_sregK 0 [0, 1, 2] ?_
        | refine aw_regK 0 [0, 1, 2] ?_
        | refine aw_sregK 1 [0, 1, 2] ?_
        | refine aw_regK 1 [0, 1, 2] ?_
        | refine aw_sregK 2 [2, 7, 8] ?_
        | refine aw_regK 2 [2, 7, 8] ?_
        | refine aw_sregK 3 [] ?_
        | refine aw_regK 3 [] ?_
        | refine aw_sregK 4 [2, 7, 8] ?_
        | refine aw_regK 4 [2, 7, 8] ?_
        | refine aw_sregK 5 [2, 7, 8, 21, 22] ?_
        | refine aw_regK 5 [2, 7, 8, 21, 22] ?_
        | refine aw_sregK 6 [2, 7, 8, 21, 22] ?_
        | refine aw_regK 6 [2, 7, 8, 21, 22] ?_
        | refine aw_sregKD mixed 7 [2, 7, 8, 9, 21, 22] (by simp; exact rfl) ?_
        | refine aw_regKD mixed 7 [2, 7, 8, 9, 21, 22] (by simp; exact rfl) ?_
        | refine aw_sregK 8 [2, 7, 8, 21, 22] ?_
        | refine aw_regK 8 [2, 7, 8, 21, 22] ?_
        | refine aw_sregK 9 [7] ?_
        | refine aw_regK 9 [7] ?_
        | refine aw_sreg ?_
        | refine aw_sregD mixed ?_
        | refine aw_ifT (b := true) rfl rfl ?_
        | refine aw_ifF (b := false) rfl rfl ?_
        | refine aw_ifT rfl (by assumption) ?_
        | refine aw_ifF rfl (by assumption) ?_
        | refine aw_ifT rfl (decide_eq_true (by assumption)) ?_
        | refine aw_ifF rfl (decide_eq_false (by assumption)) ?_
        | refine aw_seq ?_
        | refine aw_block ?_
        | refine aw_skip ?_
        | refine aw_region ?_
        | refine aw_region_draw mixed ?_
        | refine aw_exit ?_
        | refine rq_exit ?_
        | refine blockQ_hit ?_
        | refine blockQ_miss (by decide) ?_
        | (refine ar_guard rfl rfl rfl rfl (fun h => ?_) (fun h => ?_) <;> (fail_if_success (cases h; done)) <;> (try simp at h) <;> (try subst h))
        | (refine aw_both rfl (fun h => ?_) (fun h => ?_) <;> (fail_if_success (cases h; done)) <;> (try simp at h) <;> (try subst h)))
    · have hd : ¬(i : Int) < (x.length : Int) := by omega
      have hie : i = x.length := by omega
      have hme := mix_end hzl
      subst hie
      repeat' (first
        | refine ar_end rfl ?_
        | refine ar_endD rfl (by kernel_rfl) ?_
        | refine ar_fin rfl ?_
        | refine ar_finD rfl (by kernel_rfl) ?_
        | refine lq_exit ?_
        | exact aw_ret (ret_own (.loc 11) (by simp; exact rfl) (by simp) (by simp [hme]))
        | refine ar_go3 _ rfl (by simp [rl_len, rl_getE, rl_set, rl_nil, List.length_set, List.getElem_set, IntKind.bits, ub_shl1', ub_shr, ub_or, ub_and, ub_andNot, ub_bit, Int.toNat_natCast, ub_zero, hd]; exact ⟨rfl, rfl, rfl⟩) rfl ?_
        | refine aw_sregK 0 [0, 1, 2] ?_
        | refine aw_regK 0 [0, 1, 2] ?_
        | refine aw_sregK 1 [0, 1, 2] ?_
        | refine aw_regK 1 [0, 1, 2] ?_
        | refine aw_sregK 2 [2, 7, 8] ?_
        | refine aw_regK 2 [2, 7, 8] ?_
        | refine aw_sregK 3 [] ?_
        | refine aw_regK 3 [] ?_
        | refine aw_sregK 4 [2, 7, 8] ?_
        | refine aw_regK 4 [2, 7, 8] ?_
        | refine aw_sregK 5 [2, 7, 8, 21, 22] ?_
        | refine aw_regK 5 [2, 7, 8, 21, 22] ?_
        | refine aw_sregK 6 [2, 7, 8, 21, 22] ?_
        | refine aw_regK 6 [2, 7, 8, 21, 22] ?_
        | refine aw_sregKD mixed 7 [2, 7, 8, 9, 21, 22] (by simp; exact rfl) ?_
        | refine aw_regKD mixed 7 [2, 7, 8, 9, 21, 22] (by simp; exact rfl) ?_
        | refine aw_sregK 8 [2, 7, 8, 21, 22] ?_
        | refine aw_regK 8 [2, 7, 8, 21, 22] ?_
        | refine aw_sregK 9 [7] ?_
        | refine aw_regK 9 [7] ?_
        | refine aw_sreg ?_
        | refine aw_sregD mixed ?_
        | refine aw_ifT (b := true) rfl rfl ?_
        | refine aw_ifF (b := false) rfl rfl ?_
        | refine aw_ifT rfl (by assumption) ?_
        | refine aw_ifF rfl (by assumption) ?_
        | refine aw_ifT rfl (decide_eq_true (by assumption)) ?_
        | refine aw_ifF rfl (decide_eq_false (by assumption)) ?_
        | refine aw_seq ?_
        | refine aw_block ?_
        | refine aw_skip ?_
        | refine aw_region ?_
        | refine aw_region_draw mixed ?_
        | refine aw_exit ?_
        | refine rq_exit ?_
        | refine blockQ_hit ?_
        | refine blockQ_miss (by decide) ?_
        | (refine ar_guard rfl rfl rfl rfl (fun h => ?_) (fun h => ?_) <;> (fail_if_success (cases h; done)) <;> (try simp at h) <;> (try subst h))
        | (refine aw_both rfl (fun h => ?_) (fun h => ?_) <;> (fail_if_success (cases h; done)) <;> (try simp at h) <;> (try subst h)))
  · rw [if_neg hl]
    have hc : ¬(x.length : Int) = (y.length : Int) := by omega
    refine scx_of Tryz.func34 rfl rfl rfl (Nat.le_of_ble_eq_true rfl) ?_
    repeat' (first
      | refine ar_end rfl ?_
      | refine ar_endD rfl (by kernel_rfl) ?_
      | refine ar_fin rfl ?_
      | refine ar_finD rfl (by kernel_rfl) ?_
      | refine ar_callO Tryz.call38 hA rfl rfl rfl rfl (by simp; exact rfl) rfl (by simp; done) (by rfl) rfl ?_
      | refine ar_callO Tryz.call38 hB rfl rfl rfl rfl (by simp; exact rfl) rfl (by simp; done) (by rfl) rfl ?_
      | exact aw_ret (ret_own (.loc 19) (by simp; exact rfl) (by simp) (by simp [rl_nil]))
      | refine ar_go3 _ rfl (by simp [rl_len, rl_getE, rl_set, rl_nil, List.length_set, List.getElem_set, IntKind.bits, ub_shl1', ub_shr, ub_or, ub_and, ub_andNot, ub_bit, Int.toNat_natCast, ub_zero, hl, hc]; exact ⟨rfl, rfl, rfl⟩) rfl ?_
      | refine aw_sregK 0 [0, 1, 2] ?_
      | refine aw_regK 0 [0, 1, 2] ?_
      | refine aw_sregK 1 [0, 1, 2] ?_
      | refine aw_regK 1 [0, 1, 2] ?_
      | refine aw_sregK 2 [2, 7, 8] ?_
      | refine aw_regK 2 [2, 7, 8] ?_
      | refine aw_sregK 3 [] ?_
      | refine aw_regK 3 [] ?_
      | refine aw_sregK 4 [2, 7, 8] ?_
      | refine aw_regK 4 [2, 7, 8] ?_
      | refine aw_sregK 5 [2, 7, 8, 21, 22] ?_
      | refine aw_regK 5 [2, 7, 8, 21, 22] ?_
      | refine aw_sregK 6 [2, 7, 8, 21, 22] ?_
      | refine aw_regK 6 [2, 7, 8, 21, 22] ?_
      | refine aw_sregKD mixed 7 [2, 7, 8, 9, 21, 22] (by simp; exact rfl) ?_
      | refine aw_regKD mixed 7 [2, 7, 8, 9, 21, 22] (by simp; exact rfl) ?_
      | refine aw_sregK 8 [2, 7, 8, 21, 22] ?_
      | refine aw_regK 8 [2, 7, 8, 21, 22] ?_
      | refine aw_sregK 9 [7] ?_
      | refine aw_regK 9 [7] ?_
      | refine aw_sreg ?_
      | refine aw_sregD mixed ?_
      | refine aw_ifT (b := true) rfl rfl ?_
      | refine aw_ifF (b := false) rfl rfl ?_
      | refine aw_ifT rfl (by assumption) ?_
      | refine aw_ifF rfl (by assumption) ?_
      | refine aw_ifT rfl (decide_eq_true (by assumption)) ?_
      | refine aw_ifF rfl (decide_eq_false (by assumption)) ?_
      | refine aw_seq ?_
      | refine aw_block ?_
      | refine aw_skip ?_
      | refine aw_region ?_
      | refine aw_region_draw mixed ?_
      | refine aw_exit ?_
      | refine rq_exit ?_
      | refine blockQ_hit ?_
      | refine blockQ_miss (by decide) ?_
      | (refine ar_guard rfl rfl rfl rfl (fun h => ?_) (fun h => ?_) <;> (fail_if_success (cases h; done)) <;> (try simp at h) <;> (try subst h))
      | (refine aw_both rfl (fun h => ?_) (fun h => ?_) <;> (fail_if_success (cases h; done)) <;> (try simp at h) <;> (try subst h)))
set_option maxHeartbeats 16000000 in
theorem c_ror {a b : RL} (ha : a.length ≤ maxLen) (hb : b.length ≤ maxLen) : SCO Tryz.prog 12 [.pv (.sl 1 (rl a)), .pv (.sl 1 (rl b))] 47 1 (rl (bothR (· ||| ·) a b)) := by
  have h := c_both (f := (· ||| ·)) Tryz.call35 (fun x y => c_or1) ha hb
  refine scx_of Tryz.func12 rfl rfl rfl (Nat.le_of_ble_eq_true rfl) ?_
  repeat' (first
    | refine ar_end rfl ?_
    | refine ar_endD rfl (by kernel_rfl) ?_
    | refine ar_fin rfl ?_
    | refine ar_finD rfl (by kernel_rfl) ?_
    | refine ar_callO Tryz.call34 h rfl rfl rfl rfl (by simp; exact rfl) rfl (by simp; done) (by rfl) rfl ?_
    | exact aw_ret (ret_own (.loc 7) (by simp; exact rfl) (by simp) (by simp []))
    | refine ar_go3 _ rfl (by simp [*]; exact ⟨rfl, rfl, rfl⟩) rfl ?_
    | refine aw_sregK 0 [0, 1] ?_
    | refine aw_regK 0 [0, 1] ?_
    | refine aw_sregK 1 [0, 1] ?_
    | refine aw_regK 1 [0, 1] ?_
    | refine aw_sreg ?_
    | refine aw_sregD mixed ?_
    | refine aw_ifT (b := true) rfl rfl ?_
    | refine aw_ifF (b := false) rfl rfl ?_
    | refine aw_ifT rfl (by assumption) ?_
    | refine aw_ifF rfl (by assumption) ?_
    | refine aw_ifT rfl (decide_eq_true (by assumption)) ?_
    | refine aw_ifF rfl (decide_eq_false (by assumption)) ?_
    | refine aw_seq ?_
    | refine aw_block ?_
    | refine aw_skip ?_
    | refine aw_region ?_
    | refine aw_region_draw mixed ?_
    | refine aw_exit ?_
    | refine rq_exit ?_
    | refine blockQ_hit ?_
    | refine blockQ_miss (by decide) ?_
    | (refine ar_guard rfl rfl rfl rfl (fun h => ?_) (fun h => ?_) <;> (fail_if_success (cases h; done)) <;> (try simp at h) <;> (try subst h))
    | (refine aw_both rfl (fun h => ?_) (fun h => ?_) <;> (fail_if_success (cases h; done)) <;> (try simp at h) <;> (try subst h)))
set_option maxHeartbeats 16000000 in
theorem c_rand {a b : RL} (ha : a.length ≤ maxLen) (hb : b.length ≤ maxLen) : SCO Tryz.prog 18 [.pv (.sl 1 (rl a)), .pv (.sl 1 (rl b))] 47 1 (rl (bothR (· &&& ·) a b)) := by
  have h := c_both (f := (· &&& ·)) Tryz.call40 (fun x y => c_and1) ha hb
  refine scx_of Tryz.func18 rfl rfl rfl (Nat.le_of_ble_eq_true rfl) ?_
  repeat' (first
    | refine ar_end rfl ?_
    | refine ar_endD rfl (by kernel_rfl) ?_
    | refine ar_fin rfl ?_
    | refine ar_finD rfl (by kernel_rfl) ?_
    | refine ar_callO Tryz.call34 h rfl rfl rfl rfl (by simp; exact rfl) rfl (by simp; done) (by rfl) rfl ?_
    | exact aw_ret (ret_own (.loc 7) (by simp; exact rfl) (by simp) (by simp []))
    | refine ar_go3 _ rfl (by simp [*]; exact ⟨rfl, rfl, rfl⟩) rfl ?_
    | refine aw_sregK 0 [0, 1] ?_
    | refine aw_regK 0 [0, 1] ?_
    | refine aw_sregK 1 [0, 1] ?_
    | refine aw_regK 1 [0, 1] ?_
    | refine aw_sreg ?_
    | refine aw_sregD mixed ?_
    | refine aw_ifT (b := true) rfl rfl ?_
    | refine aw_ifF (b := false) rfl rfl ?_
    | refine aw_ifT rfl (by assumption) ?_
    | refine aw_ifF rfl (by assumption) ?_
    | refine aw_ifT rfl (decide_eq_true (by assumption)) ?_
    | refine aw_ifF rfl (decide_eq_false (by assumption)) ?_
    | refine aw_seq ?_
    | refine aw_block ?_
    | refine aw_skip ?_
    | refine aw_region ?_
    | refine aw_region_draw mixed ?_
    | refine aw_exit ?_
    | refine rq_exit ?_
    | refine blockQ_hit ?_
    | refine blockQ_miss (by decide) ?_
    | (refine ar_guard rfl rfl rfl rfl (fun h => ?_) (fun h => ?_) <;> (fail_if_success (cases h; done)) <;> (try simp at h) <;> (try subst h))
    | (refine aw_both rfl (fun h => ?_) (fun h => ?_) <;> (fail_if_success (cases h; done)) <;> (try simp at h) <;> (try subst h)))
set_option maxHeartbeats 16000000 in
theorem c_orV {a b : RL} (ha : a.length ≤ maxLen) (hb : b.length ≤ maxLen) : SC Tryz.prog 12 [.pv (.sl 1 (rl a)), .pv (.sl 1 (rl b))] (.pv (.sl 1 (rl (bothR (· ||| ·) a b)))) := sco_sc (c_ror ha hb)
set_option maxHeartbeats 16000000 in
theorem c_andV {a b : RL} (ha : a.length ≤ maxLen) (hb : b.length ≤ maxLen) : SC Tryz.prog 18 [.pv (.sl 1 (rl a)), .pv (.sl 1 (rl b))] (.pv (.sl 1 (rl (bothR (· &&& ·) a b)))) := sco_sc (c_rand ha hb)
set_option maxHeartbeats 16000000 in
theorem c_only {a : RL} {fr to : Wd} (hl : a.length ≤ maxLen) : SCO Tryz.prog 20 [.pv (.sl 1 (rl a)), I .u32 (ub fr), I .u32 (ub to)] 47 1 (rl (onlyR a fr to)) := by
  have hC := c_clean hl
  have hcl := clean_le a
  unfold onlyR
  generalize cleanR a = x at *
  generalize hz : x.mapIdx (fun i x => (if fr.getLsbD i = true then x else 0#32) &&& to) = z
  have hzl : z.length = x.length := by rw [← hz]; simp
  refine scx_of Tryz.func20 rfl rfl rfl (Nat.le_of_ble_eq_true rfl) ?_
  repeat' (first
    | refine ar_end rfl ?_
    | refine ar_endD rfl (by kernel_rfl) ?_
    | refine ar_fin rfl ?_
    | refine ar_finD rfl (by kernel_rfl) ?_
    | refine ar_callO Tryz.call38 hC rfl rfl rfl rfl (by simp; exact rfl) rfl (by simp; done) (by rfl) rfl ?_
    | refine ar_go3 _ rfl (by simp [rl_len, rl_getE, rl_set, rl_nil, List.length_set, List.getElem_set, IntKind.bits, ub_shl1', ub_shr, ub_or, ub_and, ub_andNot, ub_bit, Int.toNat_natCast, ub_zero, ub_and0, rl_set0, List.set_set, List.getElem_set_self]; exact ⟨rfl, rfl, rfl⟩) rfl ?_
    | refine aw_sregK 0 [0, 1, 2] ?_
    | refine aw_regK 0 [0, 1, 2] ?_
    | refine aw_sregK 1 [0, 1, 2] ?_
    | refine aw_regK 1 [0, 1, 2] ?_
    | refine aw_sregK 2 [1, 2, 7] ?_
    | refine aw_regK 2 [1, 2, 7] ?_
    | refine aw_sregK 3 [1, 2, 7, 12, 13] ?_
    | refine aw_regK 3 [1, 2, 7, 12, 13] ?_
    | refine aw_sregK 4 [1, 2, 7, 12, 13] ?_
    | refine aw_regK 4 [1, 2, 7, 12, 13] ?_
    | refine aw_sregK 5 [1, 2, 7, 8, 12, 13] ?_
    | refine aw_regK 5 [1, 2, 7, 8, 12, 13] ?_
    | refine aw_sregK 6 [1, 2, 7, 8, 12, 13] ?_
    | refine aw_regK 6 [1, 2, 7, 8, 12, 13] ?_
    | refine aw_sregK 7 [1, 2, 7, 8, 12, 13] ?_
    | refine aw_regK 7 [1, 2, 7, 8, 12, 13] ?_
    | refine aw_sregK 8 [1, 2, 7, 12, 13] ?_
    | refine aw_regK 8 [1, 2, 7, 12, 13] ?_
    | refine aw_sregK 9 [7] ?_
    | refine aw_regK 9 [7] ?_
    | refine aw_sreg ?_
    | refine aw_sregD mixed ?_
    | refine aw_ifT (b := true) rfl rfl ?_
    | refine aw_ifF (b := false) rfl rfl ?_
    | refine aw_ifT rfl (by assumption) ?_
    | refine aw_ifF rfl (by assumption) ?_
    | refine aw_ifT rfl (decide_eq_true (by assumption)) ?_
    | refine aw_ifF rfl (decide_eq_false (by assumption)) ?_
    | refine aw_seq ?_
    | refine aw_block ?_
    | refine aw_skip ?_
    | refine aw_region ?_
    | refine aw_region_draw mixed ?_
    | refine aw_exit ?_
    | refine rq_exit ?_
    | refine blockQ_hit ?_
    | refine blockQ_miss (by decide) ?_
    | (refine ar_guard rfl rfl rfl rfl (fun h => ?_) (fun h => ?_) <;> (fail_if_success (cases h; done)) <;> (try simp at h) <;> (try subst h))
    | (refine aw_both rfl (fun h => ?_) (fun h => ?_) <;> (fail_if_success (cases h; done)) <;> (try simp at h) <;> (try subst h)))
  refine aw_loopN [1, 2, 7, 12, 13] [.loc 10] (by simp; exact rfl) (ι := {i : Nat // i ≤ x.length}) (fun i => ⟨34, [(1, I .u32 (ub fr)), (2, I .u32 (ub to)), (7, .own (.loc 10)), (12, I .i64 x.length), (13, I .i64 i.1)], [(.loc 10, some (.own 47 1 (rl (mixR x z i.1))))]⟩) (fun i => x.length - i.1) ⟨0, by omega⟩ (by simp [mix_zero, rl_len]) ?_
  rintro ⟨i, hi⟩
  by_cases hlt : i < x.length
  · have hw : IntKind.wrap .i64 ((i : Int) + 1) = (i : Int) + 1 := wrap64s (by omega) (by omega)
    have hwu := wrap64u (n := i) (by omega)
    have hd : (i : Int) < (x.length : Int) := by omega
    have hml := mix_len (i := i) hzl (by omega)
    have hmg : ∀ h, (mixR x z i)[i]'h = x[i] := fun h => mix_get (i := i) hzl hlt
    have hms := mix_set (b := (if fr.getLsbD i = true then x[i] else 0#32) &&& to) hzl hlt (by simp [← hz])
    generalize mixR x z i = m at hml hms hmg
    have hlm : i < m.length := by omega
    generalize x[i] = p at hmg hms
    cases hb : fr.getLsbD i
    · simp only [hb, Bool.false_eq_true, if_false, BitVec.zero_and] at hms
      repeat' (first
        | refine ar_end rfl ?_
        | refine ar_endD rfl (by kernel_rfl) ?_
        | refine ar_fin rfl ?_
        | refine ar_finD rfl (by kernel_rfl) ?_
        | refine bq_norm ?_
        | refine lq_normN [1, 2, 7, 12, 13] [.loc 10] (by simp; exact rfl) ⟨i + 1, by omega⟩ (by dsimp only; omega) (by simp [hms])
        | refine ar_go3 _ rfl (by simp [rl_len, rl_getE, rl_set, rl_nil, List.length_set, List.getElem_set, IntKind.bits, ub_shl1', ub_shr, ub_or, ub_and, ub_andNot, ub_bit, Int.toNat_natCast, ub_zero, ub_and0, rl_set0, List.set_set, List.getElem_set_self, hlt, hlm, hd, hmg, hb, hw, hwu]; exact ⟨rfl, rfl, rfl⟩) rfl ?_
        | refine aw_sregK 0 [0, 1, 2] ?_
        | refine aw_regK 0 [0, 1, 2] ?_
        | refine aw_sregK 1 [0, 1, 2] ?_
        | refine aw_regK 1 [0, 1, 2] ?_
        | refine aw_sregK 2 [1, 2, 7] ?_
        | refine aw_regK 2 [1, 2, 7] ?_
        | refine aw_sregK 3 [1, 2, 7, 12, 13] ?_
        | refine aw_regK 3 [1, 2, 7, 12, 13] ?_
        | refine aw_sregK 4 [1, 2, 7, 12, 13] ?_
        | refine aw_regK 4 [1, 2, 7, 12, 13] ?_
        | refine aw_sregK 5 [1, 2, 7, 8, 12, 13] ?_
        | refine aw_regK 5 [1, 2, 7, 8, 12, 13] ?_
        | refine aw_sregK 6 [1, 2, 7, 8, 12, 13] ?_
        | refine aw_regK 6 [1, 2, 7, 8, 12, 13] ?_
        | refine aw_sregK 7 [1, 2, 7, 8, 12, 13] ?_
        | refine aw_regK 7 [1, 2, 7, 8, 12, 13] ?_
        | refine aw_sregK 8 [1, 2, 7, 12, 13] ?_
        | refine aw_regK 8 [1, 2, 7, 12, 13] ?_
        | refine aw_sregK 9 [7] ?_
        | refine aw_regK 9 [7] ?_
        | refine aw_sreg ?_
        | refine aw_sregD mixed ?_
        | refine aw_ifT (b := true) rfl rfl ?_
        | refine aw_ifF (b := false) rfl rfl ?_
        | refine aw_ifT rfl (by assumption) ?_
        | refine aw_ifF rfl (by assumption) ?_
        | refine aw_ifT rfl (decide_eq_true (by assumption)) ?_
        | refine aw_ifF rfl (decide_eq_false (by assumption)) ?_
        | refine aw_seq ?_
        | refine aw_block ?_
        | refine aw_skip ?_
        | refine aw_region ?_
        | refine aw_region_draw mixed ?_
        | refine aw_exit ?_
        | refine rq_exit ?_
        | refine blockQ_hit ?_
        | refine blockQ_miss (by decide) ?_
        | (refine ar_guard rfl rfl rfl rfl (fun h => ?_) (fun h => ?_) <;> (fail_if_success (cases h; done)) <;> (try simp at h) <;> (try subst h))
        | (refine aw_both rfl (fun h => ?_) (fun h => ?_) <;> (fail_if_success (cases h; done)) <;> (try simp at h) <;> (try subst h)))
    · simp only [hb, if_true] at hms
      repeat' (first
        | refine ar_end rfl ?_
        | refine ar_endD rfl (by kernel_rfl) ?_
        | refine ar_fin rfl ?_
        | refine ar_finD rfl (by kernel_rfl) ?_
        | refine bq_norm ?_
        | refine lq_normN [1, 2, 7, 12, 13] [.loc 10] (by simp; exact rfl) ⟨i + 1, by omega⟩ (by dsimp only; omega) (by simp [hms])
        | refine ar_go3 _ rfl (by simp [rl_len, rl_getE, rl_set, rl_nil, List.length_set, List.getElem_set, IntKind.bits, ub_shl1', ub_shr, ub_or, ub_and, ub_andNot, ub_bit, Int.toNat_natCast, ub_zero, ub_and0, rl_set0, List.set_set, List.getElem_set_self, hlt, hlm, hd, hmg, hb, hw, hwu]; exact ⟨rfl, rfl, rfl⟩) rfl ?_
        | refine aw_sregK 0 [0, 1, 2] ?_
        | refine aw_regK 0 [0, 1, 2] ?_
        | refine aw_sregK 1 [0, 1, 2] ?_
        | refine aw_regK 1 [0, 1, 2] ?_
        | refine aw_sregK 2 [1, 2, 7] ?_
        | refine aw_regK 2 [1, 2, 7] ?_
        | refine aw_sregK 3 [1, 2, 7, 12, 13] ?_
        | refine aw_regK 3 [1, 2, 7, 12, 13] ?_
        | refine aw_sregK 4 [1, 2, 7, 12, 13] ?_
        | refine aw_regK 4 [1, 2, 7, 12, 13] ?_
        | refine aw_sregK 5 [1, 2, 7, 8, 12, 13] ?_
        | refine aw_regK 5 [1, 2, 7, 8, 12, 13] ?_
        | refine aw_sregK 6 [1, 2, 7, 8, 12, 13] ?_
        | refine aw_regK 6 [1, 2, 7, 8, 12, 13] ?_
        | refine aw_sregK 7 [1, 2, 7, 8, 12, 13] ?_
        | refine aw_regK 7 [1, 2, 7, 8, 12, 13] ?_
        | refine aw_sregK 8 [1, 2, 7, 12, 13] ?_
        | refine aw_regK 8 [1, 2, 7, 12, 13] ?_
        | refine aw_sregK 9 [7] ?_
        | refine aw_regK 9 [7] ?_
        | refine aw_sreg ?_
        | refine aw_sregD mixed ?_
        | refine aw_ifT (b := true) rfl rfl ?_
        | refine aw_ifF (b := false) rfl rfl ?_
        | refine aw_ifT rfl (by assumption) ?_
        | refine aw_ifF rfl (by assumption) ?_
        | refine aw_ifT rfl (decide_eq_true (by assumption)) ?_
        | refine aw_ifF rfl (decide_eq_false (by assumption)) ?_
        | refine aw_seq ?_
        | refine aw_block ?_
        | refine aw_skip ?_
        | refine aw_region ?_
        | refine aw_region_draw mixed ?_
        | refine aw_exit ?_
        | refine rq_exit ?_
        | refine blockQ_hit ?_
        | refine blockQ_miss (by decide) ?_
        | (refine ar_guard rfl rfl rfl rfl (fun h => ?_) (fun h => ?_) <;> (fail_if_success (cases h; done)) <;> (try simp at h) <;> (try subst h))
        | (refine aw_both rfl (fun h => ?_) (fun h => ?_) <;> (fail_if_success (cases h; done)) <;> (try simp at h) <;> (try subst h)))
  · have hd : ¬(i : Int) < (x.length : Int) := by omega
    have hie : i = x.length := by omega
    have hme := mix_end hzl
    subst hie
    repeat' (first
      | refine ar_end rfl ?_
      | refine ar_endD rfl (by kernel_rfl) ?_
      | refine ar_fin rfl ?_
      | refine ar_finD rfl (by kernel_rfl) ?_
      | refine lq_exit ?_
      | exact aw_ret (ret_own (.loc 10) (by simp; exact rfl) (by simp) (by simp [hme]))
      | refine ar_go3 _ rfl (by simp [rl_len, rl_getE, rl_set, rl_nil, List.length_set, List.getElem_set, IntKind.bits, ub_shl1', ub_shr, ub_or, ub_and, ub_andNot, ub_bit, Int.toNat_natCast, ub_zero, ub_and0, rl_set0, List.set_set, List.getElem_set_self, hd]; exact ⟨rfl, rfl, rfl⟩) rfl ?_
      | refine aw_sregK 0 [0, 1, 2] ?_
      | refine aw_regK 0 [0, 1, 2] ?_
      | refine aw_sregK 1 [0, 1, 2] ?_
      | refine aw_regK 1 [0, 1, 2] ?_
      | refine aw_sregK 2 [1, 2, 7] ?_
      | refine aw_regK 2 [1, 2, 7] ?_
      | refine aw_sregK 3 [1, 2, 7, 12, 13] ?_
      | refine aw_regK 3 [1, 2, 7, 12, 13] ?_
      | refine aw_sregK 4 [1, 2, 7, 12, 13] ?_
      | refine aw_regK 4 [1, 2, 7, 12, 13] ?_
      | refine aw_sregK 5 [1, 2, 7, 8, 12, 13] ?_
      | refine aw_regK 5 [1, 2, 7, 8, 12, 13] ?_
      | refine aw_sregK 6 [1, 2, 7, 8, 12, 13] ?_
      | refine aw_regK 6 [1, 2, 7, 8, 12, 13] ?_
      | refine aw_sregK 7 [1, 2, 7, 8, 12, 13] ?_
      | refine aw_regK 7 [1, 2, 7, 8, 12, 13] ?_
      | refine aw_sregK 8 [1, 2, 7, 12, 13] ?_
      | refine aw_regK 8 [1, 2, 7, 12, 13] ?_
      | refine aw_sregK 9 [7] ?_
      | refine aw_regK 9 [7] ?_
      | refine aw_sreg ?_
      | refine aw_sregD mixed ?_
      | refine aw_ifT (b := true) rfl rfl ?_
      | refine aw_ifF (b := false) rfl rfl ?_
      | refine aw_ifT rfl (by assumption) ?_
      | refine aw_ifF rfl (by assumption) ?_
      | refine aw_ifT rfl (decide_eq_true (by assumption)) ?_
      | refine aw_ifF rfl (decide_eq_false (by assumption)) ?_
      | refine aw_seq ?_
      | refine aw_block ?_
      | refine aw_skip ?_
      | refine aw_region ?_
      | refine aw_region_draw mixed ?_
      | refine aw_exit ?_
      | refine rq_exit ?_
      | refine blockQ_hit ?_
      | refine blockQ_miss (by decide) ?_
      | (refine ar_guard rfl rfl rfl rfl (fun h => ?_) (fun h => ?_) <;> (fail_if_success (cases h; done)) <;> (try simp at h) <;> (try subst h))
      | (refine aw_both rfl (fun h => ?_) (fun h => ?_) <;> (fail_if_success (cases h; done)) <;> (try simp at h) <;> (try subst h)))
set_option maxHeartbeats 16000000 in
theorem c_onlyV {a : RL} {fr to : Wd} (hl : a.length ≤ maxLen) : SC Tryz.prog 20 [.pv (.sl 1 (rl a)), I .u32 (ub fr), I .u32 (ub to)] (.pv (.sl 1 (rl (onlyR a fr to)))) := sco_sc (c_only hl)
end Go.Eng
set_option linter.unusedSimpArgs false
set_option linter.unusedVariables false
set_option linter.constructorNameAsVariable false
set_option autoImplicit false
namespace Go.Eng
open Go Go.RowKit Go.Proofs
set_option maxHeartbeats 16000000 in
theorem c_plus {r : RL} (hl : r.length ≤ maxLen) : SCO Tryz.prog 24 [.pv (.sl 1 (rl r))] 47 1 (rl (plusR r)) := by
  have hC := c_clean hl
  have hcl := clean_le r
  unfold plusR
  generalize cleanR r = x at *
  refine scx_of Tryz.func24 rfl rfl rfl (Nat.le_of_ble_eq_true rfl) ?_
  repeat' (first
    | refine ar_end rfl ?_
    | refine ar_endD rfl (by kernel_rfl) ?_
    | refine ar_fin rfl ?_
    | refine ar_finD rfl (by kernel_rfl) ?_
    | refine ar_callO Tryz.call38 hC rfl rfl rfl rfl (by simp; exact rfl) rfl (by simp; done) (by rfl) rfl ?_
    | refine ar_go3 _ rfl (by simp [rl_len, rl_getE, rl_set, rl_nil, List.length_set, List.getElem_set, IntKind.bits, ub_shl1', ub_shr, ub_or, ub_and, ub_andNot, ub_bit, Int.toNat_natCast, ub_zero]; exact ⟨rfl, rfl, rfl⟩) rfl ?_
    | refine aw_sregK 0 [0] ?_
    | refine aw_regK 0 [0] ?_
    | refine aw_sregK 1 [0] ?_
    | refine aw_regK 1 [0] ?_
    | refine aw_sregK 2 [3] ?_
    | refine aw_regK 2 [3] ?_
    | refine aw_sreg ?_
    | refine aw_sregD mixed ?_
    | refine aw_ifT (b := true) rfl rfl ?_
    | refine aw_ifF (b := false) rfl rfl ?_
    | refine aw_ifT rfl (by assumption) ?_
    | refine aw_ifF rfl (by assumption) ?_
    | refine aw_ifT rfl (decide_eq_true (by assumption)) ?_
    | refine aw_ifF rfl (decide_eq_false (by assumption)) ?_
    | refine aw_seq ?_
    | refine aw_block ?_
    | refine aw_skip ?_
    | refine aw_region ?_
    | refine aw_region_draw mixed ?_
    | refine aw_exit ?_
    | refine rq_exit ?_
    | refine blockQ_hit ?_
    | refine blockQ_miss (by decide) ?_
    | (refine ar_guard rfl rfl rfl rfl (fun h => ?_) (fun h => ?_) <;> (fail_if_success (cases h; done)) <;> (try simp at h) <;> (try subst h))
    | (refine aw_both rfl (fun h => ?_) (fun h => ?_) <;> (fail_if_success (cases h; done)) <;> (try simp at h) <;> (try subst h)))
  refine aw_loopN [3, 9, 10] [.loc 7] (by simp; exact rfl) (ι := {j : Nat // j ≤ x.length}) (fun j => ⟨40, [(3, .own (.loc 7)), (9, I .i64 x.length), (10, I .i64 j.1)], [(.loc 7, some (.own 47 1 (rl (plusUp x.length x j.1))))]⟩) (fun j => x.length - j.1) ⟨0, by omega⟩ (by simp [plusUp, rl_len]) ?_
  rintro ⟨j, hj⟩
  by_cases hlt : j < x.length
  · have hw : IntKind.wrap .i64 ((j : Int) + 1) = (j : Int) + 1 := wrap64s (by omega) (by omega)
    have hwu := wrap64u (n := j) (by omega)
    have hd : (j : Int) < (x.length : Int) := by omega
    have hst : plusUp x.length x (j + 1) = plusIn (plusUp x.length x j) j x.length := rfl
    have hul := plusUp_len x.length x j
    generalize plusUp x.length x j = U at *
    repeat' (first
      | refine ar_end rfl ?_
      | refine ar_endD rfl (by kernel_rfl) ?_
      | refine ar_fin rfl ?_
      | refine ar_finD rfl (by kernel_rfl) ?_
      | refine ar_go3 _ rfl (by simp [rl_len, rl_getE, rl_set, rl_nil, List.length_set, List.getElem_set, IntKind.bits, ub_shl1', ub_shr, ub_or, ub_and, ub_andNot, ub_bit, Int.toNat_natCast, ub_zero, hd, hul]; exact ⟨rfl, rfl, rfl⟩) rfl ?_
      | refine aw_sregK 3 [3, 9, 10] ?_
      | refine aw_regK 3 [3, 9, 10] ?_
      | refine aw_sregK 4 [3, 9, 10] ?_
      | refine aw_regK 4 [3, 9, 10] ?_
      | refine aw_sregK 5 [3, 4, 9, 10] ?_
      | refine aw_regK 5 [3, 4, 9, 10] ?_
      | refine aw_sreg ?_
      | refine aw_sregD mixed ?_
      | refine aw_ifT (b := true) rfl rfl ?_
      | refine aw_ifF (b := false) rfl rfl ?_
      | refine aw_ifT rfl (by assumption) ?_
      | refine aw_ifF rfl (by assumption) ?_
      | refine aw_ifT rfl (decide_eq_true (by assumption)) ?_
      | refine aw_ifF rfl (decide_eq_false (by assumption)) ?_
      | refine aw_seq ?_
      | refine aw_block ?_
      | refine aw_skip ?_
      | refine aw_region ?_
      | refine aw_region_draw mixed ?_
      | refine aw_exit ?_
      | refine rq_exit ?_
      | refine blockQ_hit ?_
      | refine blockQ_miss (by decide) ?_
      | (refine ar_guard rfl rfl rfl rfl (fun h => ?_) (fun h => ?_) <;> (fail_if_success (cases h; done)) <;> (try simp at h) <;> (try subst h))
      | (refine aw_both rfl (fun h => ?_) (fun h => ?_) <;> (fail_if_success (cases h; done)) <;> (try simp at h) <;> (try subst h)))
    refine aw_loopN [3, 4, 9, 10, 14, 15] [.loc 7] (by simp; exact rfl) (ι := {i : Nat // i ≤ x.length}) (fun i => ⟨40, [(3, .own (.loc 7)), (4, I .i64 j), (9, I .i64 x.length), (10, I .i64 j), (14, I .i64 x.length), (15, I .i64 i.1)], [(.loc 7, some (.own 47 1 (rl (plusIn U j i.1))))]⟩) (fun i => x.length - i.1) ⟨0, by omega⟩ (by simp [plusIn, rl_len, hul]) ?_
    rintro ⟨i, hi⟩
    by_cases hil : i < x.length
    · have hw2 : IntKind.wrap .i64 ((i : Int) + 1) = (i : Int) + 1 := wrap64s (by omega) (by omega)
      have hd2 : (i : Int) < (x.length : Int) := by omega
      have hs2 : plusIn U j (i + 1) = plusStep (plusIn U j i) j i := rfl
      have hpl := plusIn_len U j i
      generalize plusIn U j i = V at *
      have hiV : i < V.length := by omega
      have hjV : j < V.length := by omega
      unfold plusStep bitR at hs2
      rw [getD_in _ _ hiV, getD_in _ _ hjV] at hs2
      generalize hp : V[i] = p at *
      generalize hq : V[j] = q at *
      cases hb : p.getLsbD j
      · rw [hb, if_neg (by decide)] at hs2
        repeat' (first
          | refine ar_end rfl ?_
          | refine ar_endD rfl (by kernel_rfl) ?_
          | refine ar_fin rfl ?_
          | refine ar_finD rfl (by kernel_rfl) ?_
          | refine bq_norm ?_
          | refine lq_normN [3, 4, 9, 10, 14, 15] [.loc 7] (by simp; exact rfl) ⟨i + 1, by omega⟩ (by dsimp only; omega) (by simp [hs2])
          | refine ar_go3 _ rfl (by simp [rl_len, rl_getE, rl_set, rl_nil, List.length_set, List.getElem_set, IntKind.bits, ub_shl1', ub_shr, ub_or, ub_and, ub_andNot, ub_bit, Int.toNat_natCast, ub_zero, hiV, hjV, hd2, hp, hq, hb, hw2, hwu]; exact ⟨rfl, rfl, rfl⟩) rfl ?_
          | refine aw_sregK 6 [3, 4, 9, 10, 14, 15] ?_
          | refine aw_regK 6 [3, 4, 9, 10, 14, 15] ?_
          | refine aw_sregK 7 [3, 4, 9, 10, 14, 15] ?_
          | refine aw_regK 7 [3, 4, 9, 10, 14, 15] ?_
          | refine aw_sregK 8 [3, 4, 5, 9, 10, 14, 15] ?_
          | refine aw_regK 8 [3, 4, 5, 9, 10, 14, 15] ?_
          | refine aw_sregKD mixed 9 [3, 4, 5, 9, 10, 14, 15] (by simp; exact rfl) ?_
          | refine aw_regKD mixed 9 [3, 4, 5, 9, 10, 14, 15] (by simp; exact rfl) ?_
          | refine aw_sregK 10 [3, 4, 9, 10, 14, 15] ?_
          | refine aw_regK 10 [3, 4, 9, 10, 14, 15] ?_
          | refine aw_sreg ?_
          | refine aw_sregD mixed ?_
          | refine aw_ifT (b := true) rfl rfl ?_
          | refine aw_ifF (b := false) rfl rfl ?_
          | refine aw_ifT rfl (by assumption) ?_
          | refine aw_ifF rfl (by assumption) ?_
          | refine aw_ifT rfl (decide_eq_true (by assumption)) ?_
          | refine aw_ifF rfl (decide_eq_false (by assumption)) ?_
          | refine aw_seq ?_
          | refine aw_block ?_
          | refine aw_skip ?_
          | refine aw_region ?_
          | refine aw_region_draw mixed ?_
          | refine aw_exit ?_
          | refine rq_exit ?_
          | refine blockQ_hit ?_
          | refine blockQ_miss (by decide) ?_
          | (refine ar_guard rfl rfl rfl rfl (fun h => ?_) (fun h => ?_) <;> (fail_if_success (cases h; done)) <;> (try simp at h) <;> (try subst h))
          | (refine aw_both rfl (fun h => ?_) (fun h => ?_) <;> (fail_if_success (cases h; done)) <;> (try simp at h) <;> (try subst h)))
      · rw [hb, if_pos rfl] at hs2
        repeat' (first
          | refine ar_end rfl ?_
          | refine ar_endD rfl (by kernel_rfl) ?_
          | refine ar_fin rfl ?_
          | refine ar_finD rfl (by kernel_rfl) ?_
          | refine bq_norm ?_
          | refine lq_normN [3, 4, 9, 10, 14, 15] [.loc 7] (by simp; exact rfl) ⟨i + 1, by omega⟩ (by dsimp only; omega) (by simp [hs2])
          | refine ar_go3 _ rfl (by simp [rl_len, rl_getE, rl_set, rl_nil, List.length_set, List.getElem_set, IntKind.bits, ub_shl1', ub_shr, ub_or, ub_and, ub_andNot, ub_bit, Int.toNat_natCast, ub_zero, hiV, hjV, hd2, hp, hq, hb, hw2, hwu]; exact ⟨rfl, rfl, rfl⟩) rfl ?_
          | refine aw_sregK 6 [3, 4, 9, 10, 14, 15] ?_
          | refine aw_regK 6 [3, 4, 9, 10, 14, 15] ?_
          | refine aw_sregK 7 [3, 4, 9, 10, 14, 15] ?_
          | refine aw_regK 7 [3, 4, 9, 10, 14, 15] ?_
          | refine aw_sregK 8 [3, 4, 5, 9, 10, 14, 15] ?_
          | refine aw_regK 8 [3, 4, 5, 9, 10, 14, 15] ?_
          | refine aw_sregKD mixed 9 [3, 4, 5, 9, 10, 14, 15] (by simp; exact rfl) ?_
          | refine aw_regKD mixed 9 [3, 4, 5, 9, 10, 14, 15] (by simp; exact rfl) ?_
          | refine aw_sregK 10 [3, 4, 9, 10, 14, 15] ?_
          | refine aw_regK 10 [3, 4, 9, 10, 14, 15] ?_
          | refine aw_sreg ?_
          | refine aw_sregD mixed ?_
          | refine aw_ifT (b := true) rfl rfl ?_
          | refine aw_ifF (b := false) rfl rfl ?_
          | refine aw_ifT rfl (by assumption) ?_
          | refine aw_ifF rfl (by assumption) ?_
          | refine aw_ifT rfl (decide_eq_true (by assumption)) ?_
          | refine aw_ifF rfl (decide_eq_false (by assumption)) ?_
          | refine aw_seq ?_
          | refine aw_block ?_
          | refine aw_skip ?_
          | refine aw_region ?_
          | refine aw_region_draw mixed ?_
          | refine aw_exit ?_
          | refine rq_exit ?_
          | refine blockQ_hit ?_
          | refine blockQ_miss (by decide) ?_
          | (refine ar_guard rfl rfl rfl rfl (fun h => ?_) (fun h => ?_) <;> (fail_if_success (cases h; done)) <;> (try simp at h) <;> (try subst h))
          | (refine aw_both rfl (fun h => ?_) (fun h => ?_) <;> (fail_if_success (cases h; done)) <;> (try simp at h) <;> (try subst h)))
    · have hd2 : ¬(i : Int) < (x.length : Int) := by omega
      have hie : i = x.length := by omega
      subst hie
      rw [← hst]
      repeat' (first
        | refine ar_end rfl ?_
        | refine ar_endD rfl (by kernel_rfl) ?_
        | refine ar_fin rfl ?_
        | refine ar_finD rfl (by kernel_rfl) ?_
        | refine lq_exit ?_
        | refine bq_norm ?_
        | refine lq_normN [3, 9, 10] [.loc 7] (by simp; exact rfl) ⟨j + 1, by omega⟩ (by dsimp only; omega) (by simp [hd2])
        | refine ar_go3 _ rfl (by simp [rl_len, rl_getE, rl_set, rl_nil, List.length_set, List.getElem_set, IntKind.bits, ub_shl1', ub_shr, ub_or, ub_and, ub_andNot, ub_bit, Int.toNat_natCast, ub_zero, hd2, hw]; exact ⟨rfl, rfl, rfl⟩) rfl ?_
        | refine aw_sregK 6 [3, 4, 9, 10, 14, 15] ?_
        | refine aw_regK 6 [3, 4, 9, 10, 14, 15] ?_
        | refine aw_sregK 11 [3, 9, 10] ?_
        | refine aw_regK 11 [3, 9, 10] ?_
        | refine aw_sreg ?_
        | refine aw_sregD mixed ?_
        | refine aw_ifT (b := true) rfl rfl ?_
        | refine aw_ifF (b := false) rfl rfl ?_
        | refine aw_ifT rfl (by assumption) ?_
        | refine aw_ifF rfl (by assumption) ?_
        | refine aw_ifT rfl (decide_eq_true (by assumption)) ?_
        | refine aw_ifF rfl (decide_eq_false (by assumption)) ?_
        | refine aw_seq ?_
        | refine aw_block ?_
        | refine aw_skip ?_
        | refine aw_region ?_
        | refine aw_region_draw mixed ?_
        | refine aw_exit ?_
        | refine rq_exit ?_
        | refine blockQ_hit ?_
        | refine blockQ_miss (by decide) ?_
        | (refine ar_guard rfl rfl rfl rfl (fun h => ?_) (fun h => ?_) <;> (fail_if_success (cases h; done)) <;> (try simp at h) <;> (try subst h))
        | (refine aw_both rfl (fun h => ?_) (fun h => ?_) <;> (fail_if_success (cases h; done)) <;> (try simp at h) <;> (try subst h)))
  · have hd : ¬(j : Int) < (x.length : Int) := by omega
    have hie : j = x.length := by omega
    subst hie
    repeat' (first
      | refine ar_end rfl ?_
      | refine ar_endD rfl (by kernel_rfl) ?_
      | refine ar_fin rfl ?_
      | refine ar_finD rfl (by kernel_rfl) ?_
      | refine lq_exit ?_
      | exact aw_ret (ret_own (.loc 7) (by simp; exact rfl) (by simp) (by simp []))
      | refine ar_go3 _ rfl (by simp [rl_len, rl_getE, rl_set, rl_nil, List.length_set, List.getElem_set, IntKind.bits, ub_shl1', ub_shr, ub_or, ub_and, ub_andNot, ub_bit, Int.toNat_natCast, ub_zero, hd]; exact ⟨rfl, rfl, rfl⟩) rfl ?_
      | refine aw_sregK 3 [3, 9, 10] ?_
      | refine aw_regK 3 [3, 9, 10] ?_
      | refine aw_sregK 12 [3] ?_
      | refine aw_regK 12 [3] ?_
      | refine aw_sreg ?_
      | refine aw_sregD mixed ?_
      | refine aw_ifT (b := true) rfl rfl ?_
      | refine aw_ifF (b := false) rfl rfl ?_
      | refine aw_ifT rfl (by assumption) ?_
      | refine aw_ifF rfl (by assumption) ?_
      | refine aw_ifT rfl (decide_eq_true (by assumption)) ?_
      | refine aw_ifF rfl (decide_eq_false (by assumption)) ?_
      | refine aw_seq ?_
      | refine aw_block ?_
      | refine aw_skip ?_
      | refine aw_region ?_
      | refine aw_region_draw mixed ?_
      | refine aw_exit ?_
      | refine rq_exit ?_
      | refine blockQ_hit ?_
      | refine blockQ_miss (by decide) ?_
      | (refine ar_guard rfl rfl rfl rfl (fun h => ?_) (fun h => ?_) <;> (fail_if_success (cases h; done)) <;> (try simp at h) <;> (try subst h))
      | (refine aw_both rfl (fun h => ?_) (fun h => ?_) <;> (fail_if_success (cases h; done)) <;> (try simp at h) <;> (try subst h)))
set_option maxHeartbeats 16000000 in
theorem c_plusV {r : RL} (hl : r.length ≤ maxLen) : SC Tryz.prog 24 [.pv (.sl 1 (rl r))] (.pv (.sl 1 (rl (plusR r)))) := sco_sc (c_plus hl)
theorem plus_le (r : RL) : (plusR r).length ≤ 32 := by unfold plusR; rw [plusUp_len]; exact clean_le r
set_option maxHeartbeats 16000000 in
theorem c_acyclic {r : RL} (hl : r.length ≤ maxLen) : SC Tryz.prog 23 [.pv (.sl 1 (rl r))] (B (acyF r)) := by
  have hP := c_plusV hl
  have hpl := plus_le r
  unfold acyF
  generalize plusR r = x at *
  generalize hZ : (List.range x.length).all (fun i => !bitR x i i) = Z
  have hno : ∀ i, i < x.length → bitR x i i = true → Z = false := fun i hi h => by
    rw [← hZ, List.all_eq_false]
    exact ⟨i, List.mem_range.2 hi, by rw [h]; decide⟩
  refine scx_of Tryz.func23 rfl rfl rfl (Nat.le_of_ble_eq_true rfl) ?_
  repeat' (first
    | refine ar_end rfl ?_
    | refine ar_endD rfl (by kernel_rfl) ?_
    | refine ar_fin rfl ?_
    | refine ar_finD rfl (by kernel_rfl) ?_
    | refine ar_callV Tryz.call24 hP rfl rfl rfl rfl rfl (by simp; done) (by rfl) (by simp; done) ?_
    | refine ar_callV_if Tryz.call24 hP rfl rfl rfl rfl rfl rfl (by simp; done) rfl (by rfl) (by simp; done) ?_
    | refine ar_go3 _ rfl (by simp [rl_len, rl_getE, rl_set, rl_nil, List.length_set, List.getElem_set, IntKind.bits, ub_shl1', ub_shr, ub_or, ub_and, ub_andNot, ub_bit, Int.toNat_natCast, ub_zero]; exact ⟨rfl, rfl, rfl⟩) rfl ?_
    | refine aw_sregK 0 [0] ?_
    | refine aw_regK 0 [0] ?_
    | refine aw_sregK 1 [0] ?_
    | refine aw_regK 1 [0] ?_
    | refine aw_sreg ?_
    | refine aw_sregD mixed ?_
    | refine aw_ifT (b := true) rfl rfl ?_
    | refine aw_ifF (b := false) rfl rfl ?_
    | refine aw_ifT rfl (by assumption) ?_
    | refine aw_ifF rfl (by assumption) ?_
    | refine aw_ifT rfl (decide_eq_true (by assumption)) ?_
    | refine aw_ifF rfl (decide_eq_false (by assumption)) ?_
    | refine aw_seq ?_
    | refine aw_block ?_
    | refine aw_skip ?_
    | refine aw_region ?_
    | refine aw_region_draw mixed ?_
    | refine aw_exit ?_
    | refine rq_exit ?_
    | refine blockQ_hit ?_
    | refine blockQ_miss (by decide) ?_
    | (refine ar_guard rfl rfl rfl rfl (fun h => ?_) (fun h => ?_) <;> (fail_if_success (cases h; done)) <;> (try simp at h) <;> (try subst h))
    | (refine aw_both rfl (fun h => ?_) (fun h => ?_) <;> (fail_if_success (cases h; done)) <;> (try simp at h) <;> (try subst h)))
  refine aw_loopN [6, 7, 8] [] (by simp; exact rfl) (ι := {i : Nat // i ≤ x.length ∧ ∀ k, k < i → bitR x k k = false}) (fun i => ⟨20, [(6, .pv (.sl 1 (rl x))), (7, I .i64 x.length), (8, I .i64 i.1)], []⟩) (fun i => x.length - i.1) ⟨0, by omega, by omega⟩ (by simp [rl_len]) ?_
  rintro ⟨i, hi, hpre⟩
  by_cases hlt : i < x.length
  · have hw : IntKind.wrap .i64 ((i : Int) + 1) = (i : Int) + 1 := wrap64s (by omega) (by omega)
    have hwu := wrap64u (n := i) (by omega)
    have hd : (i : Int) < (x.length : Int) := by omega
    have hbit : bitR x i i = (x[i]).getLsbD i := by unfold bitR; rw [getD_in _ _ hlt]
    have hn1 := hno i hlt
    generalize hy : x[i] = y at *
    cases hb : y.getLsbD i
    · rw [hb] at hbit
      have hn2 : ∀ k, k < i + 1 → bitR x k k = false := fun k hk => by
        by_cases h : k = i
        · subst h; exact hbit
        · exact hpre k (by omega)
      repeat' (first
        | refine ar_end rfl ?_
        | refine ar_endD rfl (by kernel_rfl) ?_
        | refine ar_fin rfl ?_
        | refine ar_finD rfl (by kernel_rfl) ?_
        | refine bq_norm ?_
        | refine lq_normN [6, 7, 8] [] (by simp; exact rfl) ⟨i + 1, by omega, hn2⟩ (by dsimp only; omega) (by simp)
        | refine ar_go3 _ rfl (by simp [rl_len, rl_getE, rl_set, rl_nil, List.length_set, List.getElem_set, IntKind.bits, ub_shl1', ub_shr, ub_or, ub_and, ub_andNot, ub_bit, Int.toNat_natCast, ub_zero, hlt, hd, hy, hb, hw, hwu]; exact ⟨rfl, rfl, rfl⟩) rfl ?_
        | refine aw_sregK 2 [6, 7, 8] ?_
        | refine aw_regK 2 [6, 7, 8] ?_
        | refine aw_sregK 3 [6, 7, 8] ?_
        | refine aw_regK 3 [6, 7, 8] ?_
        | refine aw_sregK 4 [3, 4, 6, 7, 8] ?_
        | refine aw_regK 4 [3, 4, 6, 7, 8] ?_
        | refine aw_sregK 5 [] ?_
        | refine aw_regK 5 [] ?_
        | refine aw_sregK 6 [6, 7, 8] ?_
        | refine aw_regK 6 [6, 7, 8] ?_
        | refine aw_sreg ?_
        | refine aw_sregD mixed ?_
        | refine aw_ifT (b := true) rfl rfl ?_
        | refine aw_ifF (b := false) rfl rfl ?_
        | refine aw_ifT rfl (by assumption) ?_
        | refine aw_ifF rfl (by assumption) ?_
        | refine aw_ifT rfl (decide_eq_true (by assumption)) ?_
        | refine aw_ifF rfl (decide_eq_false (by assumption)) ?_
        | refine aw_seq ?_
        | refine aw_block ?_
        | refine aw_skip ?_
        | refine aw_region ?_
        | refine aw_region_draw mixed ?_
        | refine aw_exit ?_
        | refine rq_exit ?_
        | refine blockQ_hit ?_
        | refine blockQ_miss (by decide) ?_
        | (refine ar_guard rfl rfl rfl rfl (fun h => ?_) (fun h => ?_) <;> (fail_if_success (cases h; done)) <;> (try simp at h) <;> (try subst h))
        | (refine aw_both rfl (fun h => ?_) (fun h => ?_) <;> (fail_if_success (cases h; done)) <;> (try simp at h) <;> (try subst h)))
    · rw [hb] at hbit
      have hz := hn1 hbit
      subst hz
      repeat' (first
        | exact aw_ret (ret_vals (by simp; exact rfl) (by simp [*]; fail_if_success (show _)))
        | exact aw_ret (ret_vals (by simp; exact rfl) (by simp [*]; omega))
        | refine ar_end rfl ?_
        | refine ar_endD rfl (by kernel_rfl) ?_
        | refine ar_fin rfl ?_
        | refine ar_finD rfl (by kernel_rfl) ?_
        | refine ar_go3 _ rfl (by simp [rl_len, rl_getE, rl_set, rl_nil, List.length_set, List.getElem_set, IntKind.bits, ub_shl1', ub_shr, ub_or, ub_and, ub_andNot, ub_bit, Int.toNat_natCast, ub_zero, hlt, hd, hy, hb, hw, hwu]; exact ⟨rfl, rfl, rfl⟩) rfl ?_
        | refine aw_sregK 2 [6, 7, 8] ?_
        | refine aw_regK 2 [6, 7, 8] ?_
        | refine aw_sregK 3 [6, 7, 8] ?_
        | refine aw_regK 3 [6, 7, 8] ?_
        | refine aw_sregK 4 [3, 4, 6, 7, 8] ?_
        | refine aw_regK 4 [3, 4, 6, 7, 8] ?_
        | refine aw_sregK 5 [] ?_
        | refine aw_regK 5 [] ?_
        | refine aw_sregK 6 [6, 7, 8] ?_
        | refine aw_regK 6 [6, 7, 8] ?_
        | refine aw_sreg ?_
        | refine aw_sregD mixed ?_
        | refine aw_ifT (b := true) rfl rfl ?_
        | refine aw_ifF (b := false) rfl rfl ?_
        | refine aw_ifT rfl (by assumption) ?_
        | refine aw_ifF rfl (by assumption) ?_
        | refine aw_ifT rfl (decide_eq_true (by assumption)) ?_
        | refine aw_ifF rfl (decide_eq_false (by assumption)) ?_
        | refine aw_seq ?_
        | refine aw_block ?_
        | refine aw_skip ?_
        | refine aw_region ?_
        | refine aw_region_draw mixed ?_
        | refine aw_exit ?_
        | refine rq_exit ?_
        | refine blockQ_hit ?_
        | refine blockQ_miss (by decide) ?_
        | (refine ar_guard rfl rfl rfl rfl (fun h => ?_) (fun h => ?_) <;> (fail_if_success (cases h; done)) <;> (try simp at h) <;> (try subst h))
        | (refine aw_both rfl (fun h => ?_) (fun h => ?_) <;> (fail_if_success (cases h; done)) <;> (try simp at h) <;> (try subst h)))
  · have hd : ¬(i : Int) < (x.length : Int) := by omega
    have hz : Z = true := by
      rw [← hZ, List.all_eq_true]
      intro k hk
      rw [hpre k (by have := List.mem_range.1 hk; omega)]; rfl
    subst hz
    repeat' (first
      | exact aw_ret (ret_vals (by simp; exact rfl) (by simp [*]; fail_if_success (show _)))
      | exact aw_ret (ret_vals (by simp; exact rfl) (by simp [*]; omega))
      | refine ar_end rfl ?_
      | refine ar_endD rfl (by kernel_rfl) ?_
      | refine ar_fin rfl ?_
      | refine ar_finD rfl (by kernel_rfl) ?_
      | refine lq_exit ?_
      | refine ar_go3 _ rfl (by simp [rl_len, rl_getE, rl_set, rl_nil, List.length_set, List.getElem_set, IntKind.bits, ub_shl1', ub_shr, ub_or, ub_and, ub_andNot, ub_bit, Int.toNat_natCast, ub_zero, hd]; exact ⟨rfl, rfl, rfl⟩) rfl ?_
      | refine aw_sregK 2 [6, 7, 8] ?_
      | refine aw_regK 2 [6, 7, 8] ?_
      | refine aw_sregK 7 [] ?_
      | refine aw_regK 7 [] ?_
      | refine aw_sreg ?_
      | refine aw_sregD mixed ?_
      | refine aw_ifT (b := true) rfl rfl ?_
      | refine aw_ifF (b := false) rfl rfl ?_
      | refine aw_ifT rfl (by assumption) ?_
      | refine aw_ifF rfl (by assumption) ?_
      | refine aw_ifT rfl (decide_eq_true (by assumption)) ?_
      | refine aw_ifF rfl (decide_eq_false (by assumption)) ?_
      | refine aw_seq ?_
      | refine aw_block ?_
      | refine aw_skip ?_
      | refine aw_region ?_
      | refine aw_region_draw mixed ?_
      | refine aw_exit ?_
      | refine rq_exit ?_
      | refine blockQ_hit ?_
      | refine blockQ_miss (by decide) ?_
      | (refine ar_guard rfl rfl rfl rfl (fun h => ?_) (fun h => ?_) <;> (fail_if_success (cases h; done)) <;> (try simp at h) <;> (try subst h))
      | (refine aw_both rfl (fun h => ?_) (fun h => ?_) <;> (fail_if_success (cases h; done)) <;> (try simp at h) <;> (try subst h)))
end Go.Eng
