import Derived.Test.YtclegllogeanlaaTabB
import Derived.Test.YtclegllogeanlaaBitA
import Derived.Test.YtclegllogeanlaaEngD
set_option linter.unusedSimpArgs false
set_option linter.unusedVariables false
set_option linter.constructorNameAsVariable false
set_option autoImplicit false
namespace Go.Eng
open Go Go.RowKit Go.Proofs
theorem mixed : Try.prog.follows .mixedOrders = true := by kernel_rfl
def rl (r : RL) : List (List PV) := r.map fun b => [C .u32 (ub b)]
theorem rl_len {r : RL} : (rl r).length = r.length := by simp [rl]
theorem rl_getE {r : RL} {i : Nat} (h : i < (rl r).length) : (rl r)[i] = [C .u32 (ub (r[i]'(by simpa [rl] using h)))] := by simp [rl]
theorem rl_set {r : RL} {i : Nat} {b : Wd} : (rl r).set i [C .u32 (ub b)] = rl (r.set i b) := by simp [rl, List.map_set]
theorem rl_nil : rl [] = [] := rfl
theorem rl_zero (n : Nat) : List.replicate n [C .u32 0] = rl (List.replicate n 0#32) := by simp [rl, ub]
theorem ub_zero : ub 0#32 = 0 := rfl
theorem ub_one : ub 1#32 = 1 := rfl
theorem ub_shl1' (k : Nat) : IntKind.wrap .u32 (2 ^ (min k 32)) = ub (1#32 <<< k) := by rw [← ub_shl1, Int.one_mul]
theorem ub_all' {n : Nat} (h : n ≤ 32) : IntKind.wrap .u32 (IntKind.wrap .u64 (IntKind.wrap .u64 (2 ^ (min n 64)) - 1)) = ub (allB n) := by rw [← ub_all h, Int.one_mul]
theorem wrap64u {n : Nat} (h : n ≤ 1000000) : IntKind.wrap .u64 (n : Int) = (n : Int) := by
  have hz : IntKind.wrap .u64 (n : Int) = (n : Int) % 18446744073709551616 := by simp [IntKind.wrap, IntKind.bits, IntKind.signed]
  rw [hz]; omega
/-- The first so many of another list. -/
def mixR (x z : RL) (i : Nat) : RL := z.take i ++ x.drop i
theorem mix_len {x z : RL} {i : Nat} (h : z.length = x.length) (hi : i ≤ x.length) : (mixR x z i).length = x.length := by simp [mixR]; omega
theorem mix_zero (x z : RL) : mixR x z 0 = x := by simp [mixR]
theorem mix_end {x z : RL} (h : z.length = x.length) : mixR x z x.length = z := by simp [mixR, ← h]
theorem mix_get {x z : RL} {i : Nat} (h : z.length = x.length) (hi : i < x.length) : (mixR x z i)[i]'(by rw [mix_len h (by omega)]; exact hi) = x[i] := by
  simp only [mixR]
  rw [List.getElem_append_right (by simp; omega)]
  simp [List.length_take, h, Nat.min_eq_left (Nat.le_of_lt hi)]
theorem mix_set {x z : RL} {i : Nat} {b : Wd} (h : z.length = x.length) (hi : i < x.length) (hb : b = z[i]'(by omega)) : (mixR x z i).set i b = mixR x z (i + 1) := by
  subst hb
  simp only [mixR]
  have hl : (z.take i).length = i := by simp; omega
  rw [List.set_append_right _ _ (by omega), hl, Nat.sub_self, List.drop_eq_getElem_cons hi, List.set_cons_zero, show z.take (i + 1) = z.take i ++ [z[i]] from by rw [List.take_add_one, List.getElem?_eq_getElem (by omega)]; rfl, List.append_assoc]
  rfl
set_option maxHeartbeats 16000000 in
theorem c_all {n : Nat} (h : n ≤ 32) : SC Try.prog 79 [I .i64 n] (I .u32 (ub (allB n))) := by
  have h1 := wrap64u (n := n) (by omega)
  refine scx_of Try.func79 rfl rfl rfl (Nat.le_of_ble_eq_true rfl) ?_
  repeat' (first
    | exact aw_ret (ret_vals (by simp; exact rfl) (by simp [ub_all' h]; fail_if_success (show _)))
    | exact aw_ret (ret_vals (by simp; exact rfl) (by simp [ub_all' h]; omega))
    | refine ar_end rfl ?_
    | refine ar_endD rfl (by kernel_rfl) ?_
    | refine ar_fin rfl ?_
    | refine ar_finD rfl (by kernel_rfl) ?_
    | refine ar_go3 _ rfl (by simp [h1, IntKind.bits]; exact ⟨rfl, rfl, rfl⟩) rfl ?_
    | refine aw_sregK 0 [0] ?_
    | refine aw_regK 0 [0] ?_
    | refine aw_sregK 1 [0] ?_
    | refine aw_regK 1 [0] ?_
    | refine aw_sreg ?_
    | refine aw_sregD mixed ?_
    | refine aw_ifT (b := true) rfl rfl ?_
    | refine aw_ifF (b := false) rfl rfl ?_
    | refine aw_ifT rfl (by assumption) ?_
    | refine aw_ifF rfl (by assumption) ?_
    | refine aw_ifT rfl (decide_eq_true (by assumption)) ?_
    | refine aw_ifF rfl (decide_eq_false (by assumption)) ?_
    | refine aw_seq ?_
    | refine aw_block ?_
    | refine aw_skip ?_
    | refine aw_region ?_
    | refine aw_region_draw mixed ?_
    | refine aw_exit ?_
    | refine rq_exit ?_
    | refine blockQ_hit ?_
    | refine blockQ_miss (by decide) ?_
    | (refine ar_guard rfl rfl rfl rfl (fun h => ?_) (fun h => ?_) <;> (fail_if_success (cases h; done)) <;> (try simp at h) <;> (try subst h))
    | (refine aw_both rfl (fun h => ?_) (fun h => ?_) <;> (fail_if_success (cases h; done)) <;> (try simp at h) <;> (try subst h)))
set_option maxHeartbeats 16000000 in
theorem c_clean {r : RL} (hl : r.length ≤ maxLen) : SCO Try.prog 54 [.pv (.sl 1 (rl r))] 33 1 (rl (cleanR r)) := by
  by_cases h : 32 < r.length
  · have e : cleanR r = [] := by unfold cleanR; rw [if_pos h]
    have hc : (32 : Int) < (r.length : Int) := by omega
    rw [e]
    refine scx_of Try.func54 rfl rfl rfl (Nat.le_of_ble_eq_true rfl) ?_
    repeat' (first
      | refine ar_end rfl ?_
      | refine ar_endD rfl (by kernel_rfl) ?_
      | refine ar_fin rfl ?_
      | refine ar_finD rfl (by kernel_rfl) ?_
      | exact aw_ret (ret_own (.loc 8) (by simp; exact rfl) (by simp) (by simp [rl_nil]))
      | refine ar_go3 _ rfl (by simp [rl_len, rl_getE, rl_set, rl_nil, List.length_set, List.getElem_set, IntKind.bits, ub_shl1', ub_shr, ub_or, ub_and, ub_andNot, ub_bit, Int.toNat_natCast, ub_zero, hc]; exact ⟨rfl, rfl, rfl⟩) rfl ?_
      | refine aw_sregK 0 [0] ?_
      | refine aw_regK 0 [0] ?_
      | refine aw_sregK 1 [0] ?_
      | refine aw_regK 1 [0] ?_
      | refine aw_sregK 2 [] ?_
      | refine aw_regK 2 [] ?_
      | refine aw_sregK 3 [0] ?_
      | refine aw_regK 3 [0] ?_
      | refine aw_sregK 4 [0, 3] ?_
      | refine aw_regK 4 [0, 3] ?_
      | refine aw_sregK 5 [0, 3, 13, 14] ?_
      | refine aw_regK 5 [0, 3, 13, 14] ?_
      | refine aw_sregK 6 [0, 3, 13, 14] ?_
      | refine aw_regK 6 [0, 3, 13, 14] ?_
      | refine aw_sregKD mixed 7 [0, 3, 4, 13, 14] (by simp; exact rfl) ?_
      | refine aw_regKD mixed 7 [0, 3, 4, 13, 14] (by simp; exact rfl) ?_
      | refine aw_sregK 8 [0, 3, 13, 14] ?_
      | refine aw_regK 8 [0, 3, 13, 14] ?_
      | refine aw_sregK 9 [3] ?_
      | refine aw_regK 9 [3] ?_
      | refine aw_sreg ?_
      | refine aw_sregD mixed ?_
      | refine aw_ifT (b := true) rfl rfl ?_
      | refine aw_ifF (b := false) rfl rfl ?_
      | refine aw_ifT rfl (by assumption) ?_
      | refine aw_ifF rfl (by assumption) ?_
      | refine aw_ifT rfl (decide_eq_true (by assumption)) ?_
      | refine aw_ifF rfl (decide_eq_false (by assumption)) ?_
      | refine aw_seq ?_
      | refine aw_block ?_
      | refine aw_skip ?_
      | refine aw_region ?_
      | refine aw_region_draw mixed ?_
      | refine aw_exit ?_
      | refine rq_exit ?_
      | refine blockQ_hit ?_
      | refine blockQ_miss (by decide) ?_
      | (refine ar_guard rfl rfl rfl rfl (fun h => ?_) (fun h => ?_) <;> (fail_if_success (cases h; done)) <;> (try simp at h) <;> (try subst h))
      | (refine aw_both rfl (fun h => ?_) (fun h => ?_) <;> (fail_if_success (cases h; done)) <;> (try simp at h) <;> (try subst h)))
  · have hc : ¬(32 : Int) < (r.length : Int) := by omega
    have e : cleanR r = r.map (· &&& allB r.length) := by unfold cleanR; rw [if_neg h]
    rw [e]
    generalize hz : r.map (· &&& allB r.length) = z
    have hzl : z.length = r.length := by rw [← hz]; simp
    have hzl2 : z.length = (List.replicate r.length 0#32).length := by rw [hzl]; simp
    have hA := c_all (n := r.length) (by omega)
    refine scx_of Try.func54 rfl rfl rfl (Nat.le_of_ble_eq_true rfl) ?_
    repeat' (first
      | refine ar_end rfl ?_
      | refine ar_endD rfl (by kernel_rfl) ?_
      | refine ar_fin rfl ?_
      | refine ar_finD rfl (by kernel_rfl) ?_
      | refine ar_make (m := r.length) rfl rfl rfl rfl (by simp; exact rfl) (by simp; exact rfl) (by simp; exact ⟨rfl, rfl⟩) (by simp; exact rfl) rfl (by simp; done) (by decide) (by simp [rl_len, rl_getE, rl_set, rl_nil, List.length_set, List.getElem_set, IntKind.bits, ub_shl1', ub_shr, ub_or, ub_and, ub_andNot, ub_bit, Int.toNat_natCast, ub_zero]; exact rfl) (by simp [rl_len, rl_getE, rl_set, rl_nil, List.length_set, List.getElem_set, IntKind.bits, ub_shl1', ub_shr, ub_or, ub_and, ub_andNot, ub_bit, Int.toNat_natCast, ub_zero]; exact rfl) rfl (by simp [maxLen]; omega) ?_
      | refine ar_go3 _ rfl (by simp [rl_len, rl_getE, rl_set, rl_nil, List.length_set, List.getElem_set, IntKind.bits, ub_shl1', ub_shr, ub_or, ub_and, ub_andNot, ub_bit, Int.toNat_natCast, ub_zero, hc]; exact ⟨rfl, rfl, rfl⟩) rfl ?_
      | refine aw_sregK 0 [0] ?_
      | refine aw_regK 0 [0] ?_
      | refine aw_sregK 1 [0] ?_
      | refine aw_regK 1 [0] ?_
      | refine aw_sregK 2 [] ?_
      | refine aw_regK 2 [] ?_
      | refine aw_sregK 3 [0] ?_
      | refine aw_regK 3 [0] ?_
      | refine aw_sregK 4 [0, 3] ?_
      | refine aw_regK 4 [0, 3] ?_
      | refine aw_sregK 5 [0, 3, 13, 14] ?_
      | refine aw_regK 5 [0, 3, 13, 14] ?_
      | refine aw_sregK 6 [0, 3, 13, 14] ?_
      | refine aw_regK 6 [0, 3, 13, 14] ?_
      | refine aw_sregKD mixed 7 [0, 3, 4, 13, 14] (by simp; exact rfl) ?_
      | refine aw_regKD mixed 7 [0, 3, 4, 13, 14] (by simp; exact rfl) ?_
      | refine aw_sregK 8 [0, 3, 13, 14] ?_
      | refine aw_regK 8 [0, 3, 13, 14] ?_
      | refine aw_sregK 9 [3] ?_
      | refine aw_regK 9 [3] ?_
      | refine aw_sreg ?_
      | refine aw_sregD mixed ?_
      | refine aw_ifT (b := true) rfl rfl ?_
      | refine aw_ifF (b := false) rfl rfl ?_
      | refine aw_ifT rfl (by assumption) ?_
      | refine aw_ifF rfl (by assumption) ?_
      | refine aw_ifT rfl (decide_eq_true (by assumption)) ?_
      | refine aw_ifF rfl (decide_eq_false (by assumption)) ?_
      | refine aw_seq ?_
      | refine aw_block ?_
      | refine aw_skip ?_
      | refine aw_region ?_
      | refine aw_region_draw mixed ?_
      | refine aw_exit ?_
      | refine rq_exit ?_
      | refine blockQ_hit ?_
      | refine blockQ_miss (by decide) ?_
      | (refine ar_guard rfl rfl rfl rfl (fun h => ?_) (fun h => ?_) <;> (fail_if_success (cases h; done)) <;> (try simp at h) <;> (try subst h))
      | (refine aw_both rfl (fun h => ?_) (fun h => ?_) <;> (fail_if_success (cases h; done)) <;> (try simp at h) <;> (try subst h)))
    refine aw_loopN [0, 3, 13, 14] [.loc 11] (by simp; exact rfl) (ι := {i : Nat // i ≤ r.length}) (fun i => ⟨30, [(0, .pv (.sl 1 (rl r))), (3, .own (.loc 11)), (13, I .i64 r.length), (14, I .i64 i.1)], [(.loc 11, some (.own 33 1 (rl (mixR (List.replicate r.length 0#32) z i.1))))]⟩) (fun i => r.length - i.1) ⟨0, by omega⟩ (by simp [mix_zero, rl_zero, rl_len]) ?_
    rintro ⟨i, hi⟩
    by_cases hlt : i < r.length
    · have hw : IntKind.wrap .i64 ((i : Int) + 1) = (i : Int) + 1 := wrap64s (by omega) (by omega)
      have hd : (i : Int) < (r.length : Int) := by omega
      have hml := mix_len (i := i) hzl2 (by simp; omega)
      rw [List.length_replicate] at hml
      have hms := mix_set (b := r[i] &&& allB r.length) hzl2 (by simpa using hlt) (by simp [← hz])
      generalize mixR (List.replicate r.length 0#32) z i = m at hml hms
      have hlm : i < m.length := by omega
      generalize hx : r[i] = x at hms
      repeat' (first
        | refine ar_end rfl ?_
        | refine ar_endD rfl (by kernel_rfl) ?_
        | refine ar_fin rfl ?_
        | refine ar_finD rfl (by kernel_rfl) ?_
        | refine ar_callV Try.call79 hA rfl rfl rfl rfl rfl (by simp; done) (by rfl) (by simp; done) ?_
        | refine ar_callV_if Try.call79 hA rfl rfl rfl rfl rfl rfl (by simp; done) rfl (by rfl) (by simp; done) ?_
        | refine bq_norm ?_
        | refine lq_normN [0, 3, 13, 14] [.loc 11] (by simp; exact rfl) ⟨i + 1, by omega⟩ (by dsimp only; omega) (by simp [hms])
        | refine ar_go3 _ rfl (by simp [rl_len, rl_getE, rl_set, rl_nil, List.length_set, List.getElem_set, IntKind.bits, ub_shl1', ub_shr, ub_or, ub_and, ub_andNot, ub_bit, Int.toNat_natCast, ub_zero, hlt, hlm, hd, hx, hw]; exact ⟨rfl, rfl, rfl⟩) rfl ?_
        | refine aw_sregK 0 [0] ?_
        | refine aw_regK 0 [0] ?_
        | refine aw_sregK 1 [0] ?_
        | refine aw_regK 1 [0] ?_
        | refine aw_sregK 2 [] ?_
        | refine aw_regK 2 [] ?_
        | refine aw_sregK 3 [0] ?_
        | refine aw_regK 3 [0] ?_
        | refine aw_sregK 4 [0, 3] ?_
        | refine aw_regK 4 [0, 3] ?_
        | refine aw_sregK 5 [0, 3, 13, 14] ?_
        | refine aw_regK 5 [0, 3, 13, 14] ?_
        | refine aw_sregK 6 [0, 3, 13, 14] ?_
        | refine aw_regK 6 [0, 3, 13, 14] ?_
        | refine aw_sregKD mixed 7 [0, 3, 4, 13, 14] (by simp; exact rfl) ?_
        | refine aw_regKD mixed 7 [0, 3, 4, 13, 14] (by simp; exact rfl) ?_
        | refine aw_sregK 8 [0, 3, 13, 14] ?_
        | refine aw_regK 8 [0, 3, 13, 14] ?_
        | refine aw_sregK 9 [3] ?_
        | refine aw_regK 9 [3] ?_
        | refine aw_sreg ?_
        | refine aw_sregD mixed ?_
        | refine aw_ifT (b := true) rfl rfl ?_
        | refine aw_ifF (b := false) rfl rfl ?_
        | refine aw_ifT rfl (by assumption) ?_
        | refine aw_ifF rfl (by assumption) ?_
        | refine aw_ifT rfl (decide_eq_true (by assumption)) ?_
        | refine aw_ifF rfl (decide_eq_false (by assumption)) ?_
        | refine aw_seq ?_
        | refine aw_block ?_
        | refine aw_skip ?_
        | refine aw_region ?_
        | refine aw_region_draw mixed ?_
        | refine aw_exit ?_
        | refine rq_exit ?_
        | refine blockQ_hit ?_
        | refine blockQ_miss (by decide) ?_
        | (refine ar_guard rfl rfl rfl rfl (fun h => ?_) (fun h => ?_) <;> (fail_if_success (cases h; done)) <;> (try simp at h) <;> (try subst h))
        | (refine aw_both rfl (fun h => ?_) (fun h => ?_) <;> (fail_if_success (cases h; done)) <;> (try simp at h) <;> (try subst h)))
    · have hd : ¬(i : Int) < (r.length : Int) := by omega
      have hie : i = r.length := by omega
      have hme := mix_end hzl2
      rw [List.length_replicate] at hme
      subst hie
      repeat' (first
        | refine ar_end rfl ?_
        | refine ar_endD rfl (by kernel_rfl) ?_
        | refine ar_fin rfl ?_
        | refine ar_finD rfl (by kernel_rfl) ?_
        | refine lq_exit ?_
        | exact aw_ret (ret_own (.loc 11) (by simp; exact rfl) (by simp) (by simp [hme]))
        | refine ar_go3 _ rfl (by simp [rl_len, rl_getE, rl_set, rl_nil, List.length_set, List.getElem_set, IntKind.bits, ub_shl1', ub_shr, ub_or, ub_and, ub_andNot, ub_bit, Int.toNat_natCast, ub_zero, hd]; exact ⟨rfl, rfl, rfl⟩) rfl ?_
        | refine aw_sregK 0 [0] ?_
        | refine aw_regK 0 [0] ?_
        | refine aw_sregK 1 [0] ?_
        | refine aw_regK 1 [0] ?_
        | refine aw_sregK 2 [] ?_
        | refine aw_regK 2 [] ?_
        | refine aw_sregK 3 [0] ?_
        | refine aw_regK 3 [0] ?_
        | refine aw_sregK 4 [0, 3] ?_
        | refine aw_regK 4 [0, 3] ?_
        | refine aw_sregK 5 [0, 3, 13, 14] ?_
        | refine aw_regK 5 [0, 3, 13, 14] ?_
        | refine aw_sregK 6 [0, 3, 13, 14] ?_
        | refine aw_regK 6 [0, 3, 13, 14] ?_
        | refine aw_sregKD mixed 7 [0, 3, 4, 13, 14] (by simp; exact rfl) ?_
        | refine aw_regKD mixed 7 [0, 3, 4, 13, 14] (by simp; exact rfl) ?_
        | refine aw_sregK 8 [0, 3, 13, 14] ?_
        | refine aw_regK 8 [0, 3, 13, 14] ?_
        | refine aw_sregK 9 [3] ?_
        | refine aw_regK 9 [3] ?_
        | refine aw_sreg ?_
        | refine aw_sregD mixed ?_
        | refine aw_ifT (b := true) rfl rfl ?_
        | refine aw_ifF (b := false) rfl rfl ?_
        | refine aw_ifT rfl (by assumption) ?_
        | refine aw_ifF rfl (by assumption) ?_
        | refine aw_ifT rfl (decide_eq_true (by assumption)) ?_
        | refine aw_ifF rfl (decide_eq_false (by assumption)) ?_
        | refine aw_seq ?_
        | refine aw_block ?_
        | refine aw_skip ?_
        | refine aw_region ?_
        | refine aw_region_draw mixed ?_
        | refine aw_exit ?_
        | refine rq_exit ?_
        | refine blockQ_hit ?_
        | refine blockQ_miss (by decide) ?_
        | (refine ar_guard rfl rfl rfl rfl (fun h => ?_) (fun h => ?_) <;> (fail_if_success (cases h; done)) <;> (try simp at h) <;> (try subst h))
        | (refine aw_both rfl (fun h => ?_) (fun h => ?_) <;> (fail_if_success (cases h; done)) <;> (try simp at h) <;> (try subst h)))
set_option maxHeartbeats 16000000 in
theorem c_cleanV {r : RL} (hl : r.length ≤ maxLen) : SC Try.prog 54 [.pv (.sl 1 (rl r))] (.pv (.sl 1 (rl (cleanR r)))) := sco_sc (c_clean hl)
set_option maxHeartbeats 16000000 in
theorem c_new {n : Nat} (h : n ≤ 32) : SCO Try.prog 29 [I .i64 n] 33 1 (rl (newR n)) := by
  have h1 : ¬(n : Int) < 0 := by omega
  have h2 : ¬(32 : Int) < (n : Int) := by omega
  refine scx_of Try.func29 rfl rfl rfl (Nat.le_of_ble_eq_true rfl) ?_
  repeat' (first
    | refine ar_end rfl ?_
    | refine ar_endD rfl (by kernel_rfl) ?_
    | refine ar_fin rfl ?_
    | refine ar_finD rfl (by kernel_rfl) ?_
    | refine ar_make (m := n) rfl rfl rfl rfl (by simp; exact rfl) (by simp; exact rfl) (by simp; exact ⟨rfl, rfl⟩) (by simp; exact rfl) rfl (by simp; done) (by decide) (by simp []; exact rfl) (by simp []; exact rfl) rfl (by simp [maxLen]; omega) ?_
    | exact aw_ret (ret_own (.loc 11) (by simp; exact rfl) (by simp) (by simp [newR, rl_zero]))
    | refine ar_go3 _ rfl (by simp [h1, h2]; exact ⟨rfl, rfl, rfl⟩) rfl ?_
    | refine aw_sregK 0 [0] ?_
    | refine aw_regK 0 [0] ?_
    | refine aw_sregK 1 [0] ?_
    | refine aw_regK 1 [0] ?_
    | refine aw_sregK 2 [] ?_
    | refine aw_regK 2 [] ?_
    | refine aw_sregK 3 [0] ?_
    | refine aw_regK 3 [0] ?_
    | refine aw_sreg ?_
    | refine aw_sregD mixed ?_
    | refine aw_ifT (b := true) rfl rfl ?_
    | refine aw_ifF (b := false) rfl rfl ?_
    | refine aw_ifT rfl (by assumption) ?_
    | refine aw_ifF rfl (by assumption) ?_
    | refine aw_ifT rfl (decide_eq_true (by assumption)) ?_
    | refine aw_ifF rfl (decide_eq_false (by assumption)) ?_
    | refine aw_seq ?_
    | refine aw_block ?_
    | refine aw_skip ?_
    | refine aw_region ?_
    | refine aw_region_draw mixed ?_
    | refine aw_exit ?_
    | refine rq_exit ?_
    | refine blockQ_hit ?_
    | refine blockQ_miss (by decide) ?_
    | (refine ar_guard rfl rfl rfl rfl (fun h => ?_) (fun h => ?_) <;> (fail_if_success (cases h; done)) <;> (try simp at h) <;> (try subst h))
    | (refine aw_both rfl (fun h => ?_) (fun h => ?_) <;> (fail_if_success (cases h; done)) <;> (try simp at h) <;> (try subst h)))
set_option maxHeartbeats 16000000 in
theorem c_newV {n : Nat} (h : n ≤ 32) : SC Try.prog 29 [I .i64 n] (.pv (.sl 1 (rl (newR n)))) := sco_sc (c_new h)
set_option maxHeartbeats 16000000 in
theorem c_in {r : RL} {i k : Int} : SC Try.prog 53 [.pv (.sl 1 (rl r)), I .i64 i, I .i64 k] (B (inR r i k)) := by
  refine scx_of Try.func53 rfl rfl rfl (Nat.le_of_ble_eq_true rfl) ?_
  by_cases h1 : 0 ≤ i
  · by_cases h2 : i < (r.length : Int)
    · by_cases h3 : 0 ≤ k
      · by_cases h4 : k < (r.length : Int)
        ·
          repeat' (first
            | exact aw_ret (ret_vals (by simp; exact rfl) (by simp [inR, h1, h2, h3, h4]; fail_if_success (show _)))
            | exact aw_ret (ret_vals (by simp; exact rfl) (by simp [inR, h1, h2, h3, h4]; omega))
            | refine ar_end rfl ?_
            | refine ar_endD rfl (by kernel_rfl) ?_
            | refine ar_fin rfl ?_
            | refine ar_finD rfl (by kernel_rfl) ?_
            | refine ar_go3 _ rfl (by simp [rl_len, rl_getE, rl_set, rl_nil, List.length_set, List.getElem_set, IntKind.bits, ub_shl1', ub_shr, ub_or, ub_and, ub_andNot, ub_bit, Int.toNat_natCast, ub_zero, h1, h2, h3, h4]; exact ⟨rfl, rfl, rfl⟩) rfl ?_
            | refine aw_sregK 0 [0, 1, 2] ?_
            | refine aw_regK 0 [0, 1, 2] ?_
            | refine aw_sregK 1 [0, 1, 2] ?_
            | refine aw_regK 1 [0, 1, 2] ?_
            | refine aw_sreg ?_
            | refine aw_sregD mixed ?_
            | refine aw_ifT (b := true) rfl rfl ?_
            | refine aw_ifF (b := false) rfl rfl ?_
            | refine aw_ifT rfl (by assumption) ?_
            | refine aw_ifF rfl (by assumption) ?_
            | refine aw_ifT rfl (decide_eq_true (by assumption)) ?_
            | refine aw_ifF rfl (decide_eq_false (by assumption)) ?_
            | refine aw_seq ?_
            | refine aw_block ?_
            | refine aw_skip ?_
            | refine aw_region ?_
            | refine aw_region_draw mixed ?_
            | refine aw_exit ?_
            | refine rq_exit ?_
            | refine blockQ_hit ?_
            | refine blockQ_miss (by decide) ?_
            | (refine ar_guard rfl rfl rfl rfl (fun h => ?_) (fun h => ?_) <;> (fail_if_success (cases h; done)) <;> (try simp at h) <;> (try subst h))
            | (refine aw_both rfl (fun h => ?_) (fun h => ?_) <;> (fail_if_success (cases h; done)) <;> (try simp at h) <;> (try subst h)))
        ·
          repeat' (first
            | exact aw_ret (ret_vals (by simp; exact rfl) (by simp [inR, h1, h2, h3, h4]; fail_if_success (show _)))
            | exact aw_ret (ret_vals (by simp; exact rfl) (by simp [inR, h1, h2, h3, h4]; omega))
            | refine ar_end rfl ?_
            | refine ar_endD rfl (by kernel_rfl) ?_
            | refine ar_fin rfl ?_
            | refine ar_finD rfl (by kernel_rfl) ?_
            | refine ar_go3 _ rfl (by simp [rl_len, rl_getE, rl_set, rl_nil, List.length_set, List.getElem_set, IntKind.bits, ub_shl1', ub_shr, ub_or, ub_and, ub_andNot, ub_bit, Int.toNat_natCast, ub_zero, h1, h2, h3, h4]; exact ⟨rfl, rfl, rfl⟩) rfl ?_
            | refine aw_sregK 0 [0, 1, 2] ?_
            | refine aw_regK 0 [0, 1, 2] ?_
            | refine aw_sregK 1 [0, 1, 2] ?_
            | refine aw_regK 1 [0, 1, 2] ?_
            | refine aw_sreg ?_
            | refine aw_sregD mixed ?_
            | refine aw_ifT (b := true) rfl rfl ?_
            | refine aw_ifF (b := false) rfl rfl ?_
            | refine aw_ifT rfl (by assumption) ?_
            | refine aw_ifF rfl (by assumption) ?_
            | refine aw_ifT rfl (decide_eq_true (by assumption)) ?_
            | refine aw_ifF rfl (decide_eq_false (by assumption)) ?_
            | refine aw_seq ?_
            | refine aw_block ?_
            | refine aw_skip ?_
            | refine aw_region ?_
            | refine aw_region_draw mixed ?_
            | refine aw_exit ?_
            | refine rq_exit ?_
            | refine blockQ_hit ?_
            | refine blockQ_miss (by decide) ?_
            | (refine ar_guard rfl rfl rfl rfl (fun h => ?_) (fun h => ?_) <;> (fail_if_success (cases h; done)) <;> (try simp at h) <;> (try subst h))
            | (refine aw_both rfl (fun h => ?_) (fun h => ?_) <;> (fail_if_success (cases h; done)) <;> (try simp at h) <;> (try subst h)))
      ·
        repeat' (first
          | exact aw_ret (ret_vals (by simp; exact rfl) (by simp [inR, h1, h2, h3]; fail_if_success (show _)))
          | exact aw_ret (ret_vals (by simp; exact rfl) (by simp [inR, h1, h2, h3]; omega))
          | refine ar_end rfl ?_
          | refine ar_endD rfl (by kernel_rfl) ?_
          | refine ar_fin rfl ?_
          | refine ar_finD rfl (by kernel_rfl) ?_
          | refine ar_go3 _ rfl (by simp [rl_len, rl_getE, rl_set, rl_nil, List.length_set, List.getElem_set, IntKind.bits, ub_shl1', ub_shr, ub_or, ub_and, ub_andNot, ub_bit, Int.toNat_natCast, ub_zero, h1, h2, h3]; exact ⟨rfl, rfl, rfl⟩) rfl ?_
          | refine aw_sregK 0 [0, 1, 2] ?_
          | refine aw_regK 0 [0, 1, 2] ?_
          | refine aw_sregK 1 [0, 1, 2] ?_
          | refine aw_regK 1 [0, 1, 2] ?_
          | refine aw_sreg ?_
          | refine aw_sregD mixed ?_
          | refine aw_ifT (b := true) rfl rfl ?_
          | refine aw_ifF (b := false) rfl rfl ?_
          | refine aw_ifT rfl (by assumption) ?_
          | refine aw_ifF rfl (by assumption) ?_
          | refine aw_ifT rfl (decide_eq_true (by assumption)) ?_
          | refine aw_ifF rfl (decide_eq_false (by assumption)) ?_
          | refine aw_seq ?_
          | refine aw_block ?_
          | refine aw_skip ?_
          | refine aw_region ?_
          | refine aw_region_draw mixed ?_
          | refine aw_exit ?_
          | refine rq_exit ?_
          | refine blockQ_hit ?_
          | refine blockQ_miss (by decide) ?_
          | (refine ar_guard rfl rfl rfl rfl (fun h => ?_) (fun h => ?_) <;> (fail_if_success (cases h; done)) <;> (try simp at h) <;> (try subst h))
          | (refine aw_both rfl (fun h => ?_) (fun h => ?_) <;> (fail_if_success (cases h; done)) <;> (try simp at h) <;> (try subst h)))
    ·
      repeat' (first
        | exact aw_ret (ret_vals (by simp; exact rfl) (by simp [inR, h1, h2]; fail_if_success (show _)))
        | exact aw_ret (ret_vals (by simp; exact rfl) (by simp [inR, h1, h2]; omega))
        | refine ar_end rfl ?_
        | refine ar_endD rfl (by kernel_rfl) ?_
        | refine ar_fin rfl ?_
        | refine ar_finD rfl (by kernel_rfl) ?_
        | refine ar_go3 _ rfl (by simp [rl_len, rl_getE, rl_set, rl_nil, List.length_set, List.getElem_set, IntKind.bits, ub_shl1', ub_shr, ub_or, ub_and, ub_andNot, ub_bit, Int.toNat_natCast, ub_zero, h1, h2]; exact ⟨rfl, rfl, rfl⟩) rfl ?_
        | refine aw_sregK 0 [0, 1, 2] ?_
        | refine aw_regK 0 [0, 1, 2] ?_
        | refine aw_sregK 1 [0, 1, 2] ?_
        | refine aw_regK 1 [0, 1, 2] ?_
        | refine aw_sreg ?_
        | refine aw_sregD mixed ?_
        | refine aw_ifT (b := true) rfl rfl ?_
        | refine aw_ifF (b := false) rfl rfl ?_
        | refine aw_ifT rfl (by assumption) ?_
        | refine aw_ifF rfl (by assumption) ?_
        | refine aw_ifT rfl (decide_eq_true (by assumption)) ?_
        | refine aw_ifF rfl (decide_eq_false (by assumption)) ?_
        | refine aw_seq ?_
        | refine aw_block ?_
        | refine aw_skip ?_
        | refine aw_region ?_
        | refine aw_region_draw mixed ?_
        | refine aw_exit ?_
        | refine rq_exit ?_
        | refine blockQ_hit ?_
        | refine blockQ_miss (by decide) ?_
        | (refine ar_guard rfl rfl rfl rfl (fun h => ?_) (fun h => ?_) <;> (fail_if_success (cases h; done)) <;> (try simp at h) <;> (try subst h))
        | (refine aw_both rfl (fun h => ?_) (fun h => ?_) <;> (fail_if_success (cases h; done)) <;> (try simp at h) <;> (try subst h)))
  ·
    repeat' (first
      | exact aw_ret (ret_vals (by simp; exact rfl) (by simp [inR, h1]; fail_if_success (show _)))
      | exact aw_ret (ret_vals (by simp; exact rfl) (by simp [inR, h1]; omega))
      | refine ar_end rfl ?_
      | refine ar_endD rfl (by kernel_rfl) ?_
      | refine ar_fin rfl ?_
      | refine ar_finD rfl (by kernel_rfl) ?_
      | refine ar_go3 _ rfl (by simp [rl_len, rl_getE, rl_set, rl_nil, List.length_set, List.getElem_set, IntKind.bits, ub_shl1', ub_shr, ub_or, ub_and, ub_andNot, ub_bit, Int.toNat_natCast, ub_zero, h1]; exact ⟨rfl, rfl, rfl⟩) rfl ?_
      | refine aw_sregK 0 [0, 1, 2] ?_
      | refine aw_regK 0 [0, 1, 2] ?_
      | refine aw_sregK 1 [0, 1, 2] ?_
      | refine aw_regK 1 [0, 1, 2] ?_
      | refine aw_sreg ?_
      | refine aw_sregD mixed ?_
      | refine aw_ifT (b := true) rfl rfl ?_
      | refine aw_ifF (b := false) rfl rfl ?_
      | refine aw_ifT rfl (by assumption) ?_
      | refine aw_ifF rfl (by assumption) ?_
      | refine aw_ifT rfl (decide_eq_true (by assumption)) ?_
      | refine aw_ifF rfl (decide_eq_false (by assumption)) ?_
      | refine aw_seq ?_
      | refine aw_block ?_
      | refine aw_skip ?_
      | refine aw_region ?_
      | refine aw_region_draw mixed ?_
      | refine aw_exit ?_
      | refine rq_exit ?_
      | refine blockQ_hit ?_
      | refine blockQ_miss (by decide) ?_
      | (refine ar_guard rfl rfl rfl rfl (fun h => ?_) (fun h => ?_) <;> (fail_if_success (cases h; done)) <;> (try simp at h) <;> (try subst h))
      | (refine aw_both rfl (fun h => ?_) (fun h => ?_) <;> (fail_if_success (cases h; done)) <;> (try simp at h) <;> (try subst h)))
theorem in_nat {r : RL} {i k : Int} (h : inR r i k = true) : ∃ a b : Nat, i = a ∧ k = b ∧ a < r.length ∧ b < r.length := by
  unfold inR at h
  simp only [Bool.and_eq_true, decide_eq_true_eq] at h
  exact ⟨i.toNat, k.toNat, by omega, by omega, by omega, by omega⟩
set_option maxHeartbeats 16000000 in
theorem c_has {r : RL} {i k : Int} : SC Try.prog 17 [.pv (.sl 1 (rl r)), I .i64 i, I .i64 k] (B (hasR r i k)) := by
  have hI := c_in (r := r) (i := i) (k := k)
  by_cases h : (r.length : Int) ≤ 32
  · cases hin : inR r i k
    · rw [hin] at hI
      refine scx_of Try.func17 rfl rfl rfl (Nat.le_of_ble_eq_true rfl) ?_
      repeat' (first
        | exact aw_ret (ret_vals (by simp; exact rfl) (by simp [hasR, hin]; fail_if_success (show _)))
        | exact aw_ret (ret_vals (by simp; exact rfl) (by simp [hasR, hin]; omega))
        | refine ar_end rfl ?_
        | refine ar_endD rfl (by kernel_rfl) ?_
        | refine ar_fin rfl ?_
        | refine ar_finD rfl (by kernel_rfl) ?_
        | refine ar_callV Try.call53 hI rfl rfl rfl rfl rfl (by simp; done) (by rfl) (by simp; done) ?_
        | refine ar_callV_if Try.call53 hI rfl rfl rfl rfl rfl rfl (by simp; done) rfl (by rfl) (by simp; done) ?_
        | refine ar_go3 _ rfl (by simp [rl_len, rl_getE, rl_set, rl_nil, List.length_set, List.getElem_set, IntKind.bits, ub_shl1', ub_shr, ub_or, ub_and, ub_andNot, ub_bit, Int.toNat_natCast, ub_zero, h]; exact ⟨rfl, rfl, rfl⟩) rfl ?_
        | refine aw_sregK 0 [0, 1, 2] ?_
        | refine aw_regK 0 [0, 1, 2] ?_
        | refine aw_sregK 1 [0, 1, 2] ?_
        | refine aw_regK 1 [0, 1, 2] ?_
        | refine aw_sreg ?_
        | refine aw_sregD mixed ?_
        | refine aw_ifT (b := true) rfl rfl ?_
        | refine aw_ifF (b := false) rfl rfl ?_
        | refine aw_ifT rfl (by assumption) ?_
        | refine aw_ifF rfl (by assumption) ?_
        | refine aw_ifT rfl (decide_eq_true (by assumption)) ?_
        | refine aw_ifF rfl (decide_eq_false (by assumption)) ?_
        | refine aw_seq ?_
        | refine aw_block ?_
        | refine aw_skip ?_
        | refine aw_region ?_
        | refine aw_region_draw mixed ?_
        | refine aw_exit ?_
        | refine rq_exit ?_
        | refine blockQ_hit ?_
        | refine blockQ_miss (by decide) ?_
        | (refine ar_guard rfl rfl rfl rfl (fun h => ?_) (fun h => ?_) <;> (fail_if_success (cases h; done)) <;> (try simp at h) <;> (try subst h))
        | (refine aw_both rfl (fun h => ?_) (fun h => ?_) <;> (fail_if_success (cases h; done)) <;> (try simp at h) <;> (try subst h)))
    · rw [hin] at hI
      obtain ⟨a, b, rfl, rfl, ha, hb⟩ := in_nat hin
      have hw := wrap64u (n := b) (by omega)
      have hbit : bitR r a b = (r[a]).getLsbD b := by unfold bitR; rw [getD_in _ _ ha]
      have h32 : r.length ≤ 32 := by omega
      generalize hx : r[a] = x at hbit
      cases hxb : x.getLsbD b
      · rw [hxb] at hbit
        refine scx_of Try.func17 rfl rfl rfl (Nat.le_of_ble_eq_true rfl) ?_
        repeat' (first
          | exact aw_ret (ret_vals (by simp; exact rfl) (by simp [hasR, hin, hbit, h32]; fail_if_success (show _)))
          | exact aw_ret (ret_vals (by simp; exact rfl) (by simp [hasR, hin, hbit, h32]; omega))
          | refine ar_end rfl ?_
          | refine ar_endD rfl (by kernel_rfl) ?_
          | refine ar_fin rfl ?_
          | refine ar_finD rfl (by kernel_rfl) ?_
          | refine ar_callV Try.call53 hI rfl rfl rfl rfl rfl (by simp; done) (by rfl) (by simp; done) ?_
          | refine ar_callV_if Try.call53 hI rfl rfl rfl rfl rfl rfl (by simp; done) rfl (by rfl) (by simp; done) ?_
          | refine ar_go3 _ rfl (by simp [rl_len, rl_getE, rl_set, rl_nil, List.length_set, List.getElem_set, IntKind.bits, ub_shl1', ub_shr, ub_or, ub_and, ub_andNot, ub_bit, Int.toNat_natCast, ub_zero, h, ha, hw, hx, hxb]; exact ⟨rfl, rfl, rfl⟩) rfl ?_
          | refine aw_sregK 0 [0, 1, 2] ?_
          | refine aw_regK 0 [0, 1, 2] ?_
          | refine aw_sregK 1 [0, 1, 2] ?_
          | refine aw_regK 1 [0, 1, 2] ?_
          | refine aw_sreg ?_
          | refine aw_sregD mixed ?_
          | refine aw_ifT (b := true) rfl rfl ?_
          | refine aw_ifF (b := false) rfl rfl ?_
          | refine aw_ifT rfl (by assumption) ?_
          | refine aw_ifF rfl (by assumption) ?_
          | refine aw_ifT rfl (decide_eq_true (by assumption)) ?_
          | refine aw_ifF rfl (decide_eq_false (by assumption)) ?_
          | refine aw_seq ?_
          | refine aw_block ?_
          | refine aw_skip ?_
          | refine aw_region ?_
          | refine aw_region_draw mixed ?_
          | refine aw_exit ?_
          | refine rq_exit ?_
          | refine blockQ_hit ?_
          | refine blockQ_miss (by decide) ?_
          | (refine ar_guard rfl rfl rfl rfl (fun h => ?_) (fun h => ?_) <;> (fail_if_success (cases h; done)) <;> (try simp at h) <;> (try subst h))
          | (refine aw_both rfl (fun h => ?_) (fun h => ?_) <;> (fail_if_success (cases h; done)) <;> (try simp at h) <;> (try subst h)))
      · rw [hxb] at hbit
        refine scx_of Try.func17 rfl rfl rfl (Nat.le_of_ble_eq_true rfl) ?_
        repeat' (first
          | exact aw_ret (ret_vals (by simp; exact rfl) (by simp [hasR, hin, hbit, h32]; fail_if_success (show _)))
          | exact aw_ret (ret_vals (by simp; exact rfl) (by simp [hasR, hin, hbit, h32]; omega))
          | refine ar_end rfl ?_
          | refine ar_endD rfl (by kernel_rfl) ?_
          | refine ar_fin rfl ?_
          | refine ar_finD rfl (by kernel_rfl) ?_
          | refine ar_callV Try.call53 hI rfl rfl rfl rfl rfl (by simp; done) (by rfl) (by simp; done) ?_
          | refine ar_callV_if Try.call53 hI rfl rfl rfl rfl rfl rfl (by simp; done) rfl (by rfl) (by simp; done) ?_
          | refine ar_go3 _ rfl (by simp [rl_len, rl_getE, rl_set, rl_nil, List.length_set, List.getElem_set, IntKind.bits, ub_shl1', ub_shr, ub_or, ub_and, ub_andNot, ub_bit, Int.toNat_natCast, ub_zero, h, ha, hw, hx, hxb]; exact ⟨rfl, rfl, rfl⟩) rfl ?_
          | refine aw_sregK 0 [0, 1, 2] ?_
          | refine aw_regK 0 [0, 1, 2] ?_
          | refine aw_sregK 1 [0, 1, 2] ?_
          | refine aw_regK 1 [0, 1, 2] ?_
          | refine aw_sreg ?_
          | refine aw_sregD mixed ?_
          | refine aw_ifT (b := true) rfl rfl ?_
          | refine aw_ifF (b := false) rfl rfl ?_
          | refine aw_ifT rfl (by assumption) ?_
          | refine aw_ifF rfl (by assumption) ?_
          | refine aw_ifT rfl (decide_eq_true (by assumption)) ?_
          | refine aw_ifF rfl (decide_eq_false (by assumption)) ?_
          | refine aw_seq ?_
          | refine aw_block ?_
          | refine aw_skip ?_
          | refine aw_region ?_
          | refine aw_region_draw mixed ?_
          | refine aw_exit ?_
          | refine rq_exit ?_
          | refine blockQ_hit ?_
          | refine blockQ_miss (by decide) ?_
          | (refine ar_guard rfl rfl rfl rfl (fun h => ?_) (fun h => ?_) <;> (fail_if_success (cases h; done)) <;> (try simp at h) <;> (try subst h))
          | (refine aw_both rfl (fun h => ?_) (fun h => ?_) <;> (fail_if_success (cases h; done)) <;> (try simp at h) <;> (try subst h)))
  · have h32 : ¬r.length ≤ 32 := by omega
    refine scx_of Try.func17 rfl rfl rfl (Nat.le_of_ble_eq_true rfl) ?_
    repeat' (first
      | exact aw_ret (ret_vals (by simp; exact rfl) (by simp [hasR, h32]; fail_if_success (show _)))
      | exact aw_ret (ret_vals (by simp; exact rfl) (by simp [hasR, h32]; omega))
      | refine ar_end rfl ?_
      | refine ar_endD rfl (by kernel_rfl) ?_
      | refine ar_fin rfl ?_
      | refine ar_finD rfl (by kernel_rfl) ?_
      | refine ar_go3 _ rfl (by simp [rl_len, rl_getE, rl_set, rl_nil, List.length_set, List.getElem_set, IntKind.bits, ub_shl1', ub_shr, ub_or, ub_and, ub_andNot, ub_bit, Int.toNat_natCast, ub_zero, h]; exact ⟨rfl, rfl, rfl⟩) rfl ?_
      | refine aw_sregK 0 [0, 1, 2] ?_
      | refine aw_regK 0 [0, 1, 2] ?_
      | refine aw_sregK 1 [0, 1, 2] ?_
      | refine aw_regK 1 [0, 1, 2] ?_
      | refine aw_sreg ?_
      | refine aw_sregD mixed ?_
      | refine aw_ifT (b := true) rfl rfl ?_
      | refine aw_ifF (b := false) rfl rfl ?_
      | refine aw_ifT rfl (by assumption) ?_
      | refine aw_ifF rfl (by assumption) ?_
      | refine aw_ifT rfl (decide_eq_true (by assumption)) ?_
      | refine aw_ifF rfl (decide_eq_false (by assumption)) ?_
      | refine aw_seq ?_
      | refine aw_block ?_
      | refine aw_skip ?_
      | refine aw_region ?_
      | refine aw_region_draw mixed ?_
      | refine aw_exit ?_
      | refine rq_exit ?_
      | refine blockQ_hit ?_
      | refine blockQ_miss (by decide) ?_
      | (refine ar_guard rfl rfl rfl rfl (fun h => ?_) (fun h => ?_) <;> (fail_if_success (cases h; done)) <;> (try simp at h) <;> (try subst h))
      | (refine aw_both rfl (fun h => ?_) (fun h => ?_) <;> (fail_if_success (cases h; done)) <;> (try simp at h) <;> (try subst h)))
set_option maxHeartbeats 16000000 in
theorem c_put {r : RL} {i k : Int} (hl : r.length ≤ maxLen) : SCO Try.prog 27 [.pv (.sl 1 (rl r)), I .i64 i, I .i64 k] 33 1 (rl (putR r i k)) := by
  have hC := c_clean hl
  have hcl := clean_le r
  unfold putR
  generalize cleanR r = x at *
  have hI := c_in (r := x) (i := i) (k := k)
  cases hin : inR x i k
  · rw [hin] at hI
    refine scx_of Try.func27 rfl rfl rfl (Nat.le_of_ble_eq_true rfl) ?_
    repeat' (first
      | refine ar_end rfl ?_
      | refine ar_endD rfl (by kernel_rfl) ?_
      | refine ar_fin rfl ?_
      | refine ar_finD rfl (by kernel_rfl) ?_
      | refine ar_lend Try.call53 hI rfl rfl rfl rfl rfl (by simp; done) rfl rfl rfl rfl ?_
      | refine ar_lend_if Try.call53 hI rfl rfl rfl rfl rfl rfl rfl (by simp; done) rfl rfl rfl rfl ?_
      | refine ar_callO Try.call54 hC rfl rfl rfl rfl (by simp; exact rfl) rfl (by simp; done) (by rfl) rfl ?_
      | exact aw_ret (ret_own (.loc 9) (by simp; exact rfl) (by simp) (by simp []))
      | refine ar_go3 _ rfl (by simp [rl_len, rl_getE, rl_set, rl_nil, List.length_set, List.getElem_set, IntKind.bits, ub_shl1', ub_shr, ub_or, ub_and, ub_andNot, ub_bit, Int.toNat_natCast, ub_zero]; exact ⟨rfl, rfl, rfl⟩) rfl ?_
      | refine aw_sregK 0 [0, 1, 2] ?_
      | refine aw_regK 0 [0, 1, 2] ?_
      | refine aw_sregK 1 [0, 1, 2] ?_
      | refine aw_regK 1 [0, 1, 2] ?_
      | refine aw_sregK 2 [1, 2, 7] ?_
      | refine aw_regK 2 [1, 2, 7] ?_
      | refine aw_sregK 3 [1, 2, 7] ?_
      | refine aw_regK 3 [1, 2, 7] ?_
      | refine aw_sregK 4 [7] ?_
      | refine aw_regK 4 [7] ?_
      | refine aw_sreg ?_
      | refine aw_sregD mixed ?_
      | refine aw_ifT (b := true) rfl rfl ?_
      | refine aw_ifF (b := false) rfl rfl ?_
      | refine aw_ifT rfl (by assumption) ?_
      | refine aw_ifF rfl (by assumption) ?_
      | refine aw_ifT rfl (decide_eq_true (by assumption)) ?_
      | refine aw_ifF rfl (decide_eq_false (by assumption)) ?_
      | refine aw_seq ?_
      | refine aw_block ?_
      | refine aw_skip ?_
      | refine aw_region ?_
      | refine aw_region_draw mixed ?_
      | refine aw_exit ?_
      | refine rq_exit ?_
      | refine blockQ_hit ?_
      | refine blockQ_miss (by decide) ?_
      | (refine ar_guard rfl rfl rfl rfl (fun h => ?_) (fun h => ?_) <;> (fail_if_success (cases h; done)) <;> (try simp at h) <;> (try subst h))
      | (refine aw_both rfl (fun h => ?_) (fun h => ?_) <;> (fail_if_success (cases h; done)) <;> (try simp at h) <;> (try subst h)))
  · rw [hin] at hI
    obtain ⟨a, b, rfl, rfl, ha, hb⟩ := in_nat hin
    have hw := wrap64u (n := b) (by omega)
    have e : addR x (((a : Nat) : Int).toNat, ((b : Nat) : Int).toNat) = x.set a (x[a] ||| 1#32 <<< b) := by unfold addR; simp [getD_in _ _ ha, ha]
    rw [if_pos rfl, e]
    generalize hx : x[a] = y
    refine scx_of Try.func27 rfl rfl rfl (Nat.le_of_ble_eq_true rfl) ?_
    repeat' (first
      | refine ar_end rfl ?_
      | refine ar_endD rfl (by kernel_rfl) ?_
      | refine ar_fin rfl ?_
      | refine ar_finD rfl (by kernel_rfl) ?_
      | refine ar_lend Try.call53 hI rfl rfl rfl rfl rfl (by simp; done) rfl rfl rfl rfl ?_
      | refine ar_lend_if Try.call53 hI rfl rfl rfl rfl rfl rfl rfl (by simp; done) rfl rfl rfl rfl ?_
      | refine ar_callO Try.call54 hC rfl rfl rfl rfl (by simp; exact rfl) rfl (by simp; done) (by rfl) rfl ?_
      | exact aw_ret (ret_own (.loc 9) (by simp; exact rfl) (by simp) (by simp []))
      | refine ar_go3 _ rfl (by simp [rl_len, rl_getE, rl_set, rl_nil, List.length_set, List.getElem_set, IntKind.bits, ub_shl1', ub_shr, ub_or, ub_and, ub_andNot, ub_bit, Int.toNat_natCast, ub_zero, ha, hw, hx]; exact ⟨rfl, rfl, rfl⟩) rfl ?_
      | refine aw_sregK 0 [0, 1, 2] ?_
      | refine aw_regK 0 [0, 1, 2] ?_
      | refine aw_sregK 1 [0, 1, 2] ?_
      | refine aw_regK 1 [0, 1, 2] ?_
      | refine aw_sregK 2 [1, 2, 7] ?_
      | refine aw_regK 2 [1, 2, 7] ?_
      | refine aw_sregK 3 [1, 2, 7] ?_
      | refine aw_regK 3 [1, 2, 7] ?_
      | refine aw_sregK 4 [7] ?_
      | refine aw_regK 4 [7] ?_
      | refine aw_sreg ?_
      | refine aw_sregD mixed ?_
      | refine aw_ifT (b := true) rfl rfl ?_
      | refine aw_ifF (b := false) rfl rfl ?_
      | refine aw_ifT rfl (by assumption) ?_
      | refine aw_ifF rfl (by assumption) ?_
      | refine aw_ifT rfl (decide_eq_true (by assumption)) ?_
      | refine aw_ifF rfl (decide_eq_false (by assumption)) ?_
      | refine aw_seq ?_
      | refine aw_block ?_
      | refine aw_skip ?_
      | refine aw_region ?_
      | refine aw_region_draw mixed ?_
      | refine aw_exit ?_
      | refine rq_exit ?_
      | refine blockQ_hit ?_
      | refine blockQ_miss (by decide) ?_
      | (refine ar_guard rfl rfl rfl rfl (fun h => ?_) (fun h => ?_) <;> (fail_if_success (cases h; done)) <;> (try simp at h) <;> (try subst h))
      | (refine aw_both rfl (fun h => ?_) (fun h => ?_) <;> (fail_if_success (cases h; done)) <;> (try simp at h) <;> (try subst h)))
set_option maxHeartbeats 16000000 in
theorem c_putV {r : RL} {i k : Int} (hl : r.length ≤ maxLen) : SC Try.prog 27 [.pv (.sl 1 (rl r)), I .i64 i, I .i64 k] (.pv (.sl 1 (rl (putR r i k)))) := sco_sc (c_put hl)
set_option maxHeartbeats 16000000 in
theorem c_or1 {x y : Wd} : SC Try.prog 52 [I .u32 (ub x), I .u32 (ub y)] (I .u32 (ub (x ||| y))) := by
  refine scx_of Try.func52 rfl rfl rfl (Nat.le_of_ble_eq_true rfl) ?_
  repeat' (first
    | exact aw_ret (ret_vals (by simp; exact rfl) (by simp [*]; fail_if_success (show _)))
    | exact aw_ret (ret_vals (by simp; exact rfl) (by simp [*]; omega))
    | refine ar_end rfl ?_
    | refine ar_endD rfl (by kernel_rfl) ?_
    | refine ar_fin rfl ?_
    | refine ar_finD rfl (by kernel_rfl) ?_
    | refine ar_go3 _ rfl (by simp [rl_len, rl_getE, rl_set, rl_nil, List.length_set, List.getElem_set, IntKind.bits, ub_shl1', ub_shr, ub_or, ub_and, ub_andNot, ub_bit, Int.toNat_natCast, ub_zero]; exact ⟨rfl, rfl, rfl⟩) rfl ?_
    | refine aw_sregK 0 [0, 1] ?_
    | refine aw_regK 0 [0, 1] ?_
    | refine aw_sregK 1 [0, 1] ?_
    | refine aw_regK 1 [0, 1] ?_
    | refine aw_sreg ?_
    | refine aw_sregD mixed ?_
    | refine aw_ifT (b := true) rfl rfl ?_
    | refine aw_ifF (b := false) rfl rfl ?_
    | refine aw_ifT rfl (by assumption) ?_
    | refine aw_ifF rfl (by assumption) ?_
    | refine aw_ifT rfl (decide_eq_true (by assumption)) ?_
    | refine aw_ifF rfl (decide_eq_false (by assumption)) ?_
    | refine aw_seq ?_
    | refine aw_block ?_
    | refine aw_skip ?_
    | refine aw_region ?_
    | refine aw_region_draw mixed ?_
    | refine aw_exit ?_
    | refine rq_exit ?_
    | refine blockQ_hit ?_
    | refine blockQ_miss (by decide) ?_
    | (refine ar_guard rfl rfl rfl rfl (fun h => ?_) (fun h => ?_) <;> (fail_if_success (cases h; done)) <;> (try simp at h) <;> (try subst h))
    | (refine aw_both rfl (fun h => ?_) (fun h => ?_) <;> (fail_if_success (cases h; done)) <;> (try simp at h) <;> (try subst h)))
set_option maxHeartbeats 16000000 in
theorem c_and1 {x y : Wd} : SC Try.prog 55 [I .u32 (ub x), I .u32 (ub y)] (I .u32 (ub (x &&& y))) := by
  refine scx_of Try.func55 rfl rfl rfl (Nat.le_of_ble_eq_true rfl) ?_
  repeat' (first
    | exact aw_ret (ret_vals (by simp; exact rfl) (by simp [*]; fail_if_success (show _)))
    | exact aw_ret (ret_vals (by simp; exact rfl) (by simp [*]; omega))
    | refine ar_end rfl ?_
    | refine ar_endD rfl (by kernel_rfl) ?_
    | refine ar_fin rfl ?_
    | refine ar_finD rfl (by kernel_rfl) ?_
    | refine ar_go3 _ rfl (by simp [rl_len, rl_getE, rl_set, rl_nil, List.length_set, List.getElem_set, IntKind.bits, ub_shl1', ub_shr, ub_or, ub_and, ub_andNot, ub_bit, Int.toNat_natCast, ub_zero]; exact ⟨rfl, rfl, rfl⟩) rfl ?_
    | refine aw_sregK 0 [0, 1] ?_
    | refine aw_regK 0 [0, 1] ?_
    | refine aw_sregK 1 [0, 1] ?_
    | refine aw_regK 1 [0, 1] ?_
    | refine aw_sreg ?_
    | refine aw_sregD mixed ?_
    | refine aw_ifT (b := true) rfl rfl ?_
    | refine aw_ifF (b := false) rfl rfl ?_
    | refine aw_ifT rfl (by assumption) ?_
    | refine aw_ifF rfl (by assumption) ?_
    | refine aw_ifT rfl (decide_eq_true (by assumption)) ?_
    | refine aw_ifF rfl (decide_eq_false (by assumption)) ?_
    | refine aw_seq ?_
    | refine aw_block ?_
    | refine aw_skip ?_
    | refine aw_region ?_
    | refine aw_region_draw mixed ?_
    | refine aw_exit ?_
    | refine rq_exit ?_
    | refine blockQ_hit ?_
    | refine blockQ_miss (by decide) ?_
    | (refine ar_guard rfl rfl rfl rfl (fun h => ?_) (fun h => ?_) <;> (fail_if_success (cases h; done)) <;> (try simp at h) <;> (try subst h))
    | (refine aw_both rfl (fun h => ?_) (fun h => ?_) <;> (fail_if_success (cases h; done)) <;> (try simp at h) <;> (try subst h)))
set_option maxHeartbeats 16000000 in
theorem c_both {g : FuncId} {f : Wd → Wd → Wd} (hent : Enters Try.prog g) (hg : ∀ x y, SC Try.prog g [I .u32 (ub x), I .u32 (ub y)] (I .u32 (ub (f x y)))) {a b : RL} (ha : a.length ≤ maxLen) (hb : b.length ≤ maxLen) : SCO Try.prog 51 [.pv (.sl 1 (rl a)), .pv (.sl 1 (rl b)), .fn g [] []] 33 1 (rl (bothR f a b)) := by
  have hA := c_clean ha
  have hB := c_clean hb
  have hal := clean_le a
  unfold bothR
  generalize cleanR a = x at *
  generalize cleanR b = y at *
  by_cases hl : x.length = y.length
  · rw [if_pos hl]
    have hc : ¬((x.length : Int) ≠ (y.length : Int)) := by omega
    generalize hz : List.zipWith f x y = z
    have hzl : z.length = x.length := by rw [← hz]; simp; omega
    refine scx_of Try.func51 rfl rfl rfl (Nat.le_of_ble_eq_true rfl) ?_
    repeat' (first
      | refine ar_end rfl ?_
      | refine ar_endD rfl (by kernel_rfl) ?_
      | refine ar_fin rfl ?_
      | refine ar_finD rfl (by kernel_rfl) ?_
      | refine ar_callO Try.call54 hA rfl rfl rfl rfl (by simp; exact rfl) rfl (by simp; done) (by rfl) rfl ?_
      | refine ar_callO Try.call54 hB rfl rfl rfl rfl (by simp; exact rfl) rfl (by simp; done) (by rfl) rfl ?_
      | refine ar_go3 _ rfl (by simp [rl_len, rl_getE, rl_set, rl_nil, List.length_set, List.getElem_set, IntKind.bits, ub_shl1', ub_shr, ub_or, ub_and, ub_andNot, ub_bit, Int.toNat_natCast, ub_zero, hl]; exact ⟨rfl, rfl, rfl⟩) rfl ?_
      | refine aw_sregK 0 [0, 1, 2] ?_
      | refine aw_regK 0 [0, 1, 2] ?_
      | refine aw_sregK 1 [0, 1, 2] ?_
      | refine aw_regK 1 [0, 1, 2] ?_
      | refine aw_sregK 2 [2, 7, 8] ?_
      | refine aw_regK 2 [2, 7, 8] ?_
      | refine aw_sregK 3 [] ?_
      | refine aw_regK 3 [] ?_
      | refine aw_sregK 4 [2, 7, 8] ?_
      | refine aw_regK 4 [2, 7, 8] ?_
      | refine aw_sregK 5 [2, 7, 8, 21, 22] ?_
      | refine aw_regK 5 [2, 7, 8, 21, 22] ?_
      | refine aw_sregK 6 [2, 7, 8, 21, 22] ?_
      | refine aw_regK 6 [2, 7, 8, 21, 22] ?_
      | refine aw_sregKD mixed 7 [2, 7, 8, 9, 21, 22] (by simp; exact rfl) ?_
      | refine aw_regKD mixed 7 [2, 7, 8, 9, 21, 22] (by simp; exact rfl) ?_
      | refine aw_sregK 8 [2, 7, 8, 21, 22] ?_
      | refine aw_regK 8 [2, 7, 8, 21, 22] ?_
      | refine aw_sregK 9 [7] ?_
      | refine aw_regK 9 [7] ?_
      | refine aw_sreg ?_
      | refine aw_sregD mixed ?_
      | refine aw_ifT (b := true) rfl rfl ?_
      | refine aw_ifF (b := false) rfl rfl ?_
      | refine aw_ifT rfl (by assumption) ?_
      | refine aw_ifF rfl (by assumption) ?_
      | refine aw_ifT rfl (decide_eq_true (by assumption)) ?_
      | refine aw_ifF rfl (decide_eq_false (by assumption)) ?_
      | refine aw_seq ?_
      | refine aw_block ?_
      | refine aw_skip ?_
      | refine aw_region ?_
      | refine aw_region_draw mixed ?_
      | refine aw_exit ?_
      | refine rq_exit ?_
      | refine blockQ_hit ?_
      | refine blockQ_miss (by decide) ?_
      | (refine ar_guard rfl rfl rfl rfl (fun h => ?_) (fun h => ?_) <;> (fail_if_success (cases h; done)) <;> (try simp at h) <;> (try subst h))
      | (refine aw_both rfl (fun h => ?_) (fun h => ?_) <;> (fail_if_success (cases h; done)) <;> (try simp at h) <;> (try subst h)))
    refine aw_loopN [2, 7, 8, 21, 22] [.loc 11, .loc 13] (by simp; exact rfl) (ι := {i : Nat // i ≤ x.length}) (fun i => ⟨40, [(2, .fn g [] []), (7, .own (.loc 11)), (8, .own (.loc 13)), (21, I .i64 x.length), (22, I .i64 i.1)], [(.loc 11, some (.own 33 1 (rl (mixR x z i.1)))), (.loc 13, some (.own 33 1 (rl y)))]⟩) (fun i => x.length - i.1) ⟨0, by omega⟩ (by simp [mix_zero, rl_len, hl]) ?_
    rintro ⟨i, hi⟩
    by_cases hlt : i < x.length
    · have hw : IntKind.wrap .i64 ((i : Int) + 1) = (i : Int) + 1 := wrap64s (by omega) (by omega)
      have hd : (i : Int) < (x.length : Int) := by omega
      have hml := mix_len (i := i) hzl (by omega)
      have hmg : ∀ h, (mixR x z i)[i]'h = x[i] := fun h => mix_get (i := i) hzl hlt
      have hly : i < y.length := by omega
      have hms := mix_set (b := f x[i] y[i]) hzl hlt (by simp [← hz])
      generalize mixR x z i = m at hml hms hmg
      have hlm : i < m.length := by omega
      generalize x[i] = p at hmg hms
      generalize hyi : y[i] = q at hms
      have hG := hg p q
      repeat' (first
        | refine ar_end rfl ?_
        | refine ar_endD rfl (by kernel_rfl) ?_
        | refine ar_fin rfl ?_
        | refine ar_finD rfl (by kernel_rfl) ?_
        | refine ar_callV hent hG rfl rfl rfl rfl rfl (by simp; done) (by rfl) (by simp; done) ?_
        | refine bq_norm ?_
        | refine lq_normN [2, 7, 8, 21, 22] [.loc 11, .loc 13] (by simp; exact rfl) ⟨i + 1, by omega⟩ (by dsimp only; omega) (by simp [hms])
        | refine ar_go3 _ rfl (by simp [rl_len, rl_getE, rl_set, rl_nil, List.length_set, List.getElem_set, IntKind.bits, ub_shl1', ub_shr, ub_or, ub_and, ub_andNot, ub_bit, Int.toNat_natCast, ub_zero, hlt, hlm, hly, hd, hmg, hyi, hw]; exact ⟨rfl, rfl, rfl⟩) rfl ?_
        | refine aw_sregK 0 [0, 1, 2] ?_
        | refine aw_regK 0 [0, 1, 2] ?_
        | refine aw_sregK 1 [0, 1, 2] ?_
        | refine aw_regK 1 [0, 1, 2] ?_
        | refine aw_sregK 2 [2, 7, 8] ?_
        | refine aw_regK 2 [2, 7, 8] ?_
        | refine aw_sregK 3 [] ?_
        | refine aw_regK 3 [] ?_
        | refine aw_sregK 4 [2, 7, 8] ?_
        | refine aw_regK 4 [2, 7, 8] ?_
        | refine aw_sregK 5 [2, 7, 8, 21, 22] ?_
        | refine aw_regK 5 [2, 7, 8, 21, 22] ?_
        | refine aw_sregK 6 [2, 7, 8, 21, 22] ?_
        | refine aw_regK 6 [2, 7, 8, 21, 22] ?_
        | refine aw_sregKD mixed 7 [2, 7, 8, 9, 21, 22] (by simp; exact rfl) ?_
        | refine aw_regKD mixed 7 [2, 7, 8, 9, 21, 22] (by simp; exact rfl) ?_
        | refine aw_sregK 8 [2, 7, 8, 21, 22] ?_
        | refine aw_regK 8 [2, 7, 8, 21, 22] ?_
        | refine aw_sregK 9 [7] ?_
        | refine aw_regK 9 [7] ?_
        | refine aw_sreg ?_
        | refine aw_sregD mixed ?_
        | refine aw_ifT (b := true) rfl rfl ?_
        | refine aw_ifF (b := false) rfl rfl ?_
        | refine aw_ifT rfl (by assumption) ?_
        | refine aw_ifF rfl (by assumption) ?_
        | refine aw_ifT rfl (decide_eq_true (by assumption)) ?_
        | refine aw_ifF rfl (decide_eq_false (by assumption)) ?_
        | refine aw_seq ?_
        | refine aw_block ?_
        | refine aw_skip ?_
        | refine aw_region ?_
        | refine aw_region_draw mixed ?_
        | refine aw_exit ?_
        | refine rq_exit ?_
        | refine blockQ_hit ?_
        | refine blockQ_miss (by decide) ?_
        | (refine ar_guard rfl rfl rfl rfl (fun h => ?_) (fun h => ?_) <;> (fail_if_success (cases h; done)) <;> (try simp at h) <;> (try subst h))
        | (refine aw_both rfl (fun h => ?_) (fun h => ?_) <;> (fail_if_success (cases h; done)) <;> (try simp at h) <;> (try subst h)))
    · have hd : ¬(i : Int) < (x.length : Int) := by omega
      have hie : i = x.length := by omega
      have hme := mix_end hzl
      subst hie
      repeat' (first
        | refine ar_end rfl ?_
        | refine ar_endD rfl (by kernel_rfl) ?_
        | refine ar_fin rfl ?_
        | refine ar_finD rfl (by kernel_rfl) ?_
        | refine lq_exit ?_
        | exact aw_ret (ret_own (.loc 11) (by simp; exact rfl) (by simp) (by simp [hme]))
        | refine ar_go3 _ rfl (by simp [rl_len, rl_getE, rl_set, rl_nil, List.length_set, List.getElem_set, IntKind.bits, ub_shl1', ub_shr, ub_or, ub_and, ub_andNot, ub_bit, Int.toNat_natCast, ub_zero, hd]; exact ⟨rfl, rfl, rfl⟩) rfl ?_
        | refine aw_sregK 0 [0, 1, 2] ?_
        | refine aw_regK 0 [0, 1, 2] ?_
        | refine aw_sregK 1 [0, 1, 2] ?_
        | refine aw_regK 1 [0, 1, 2] ?_
        | refine aw_sregK 2 [2, 7, 8] ?_
        | refine aw_regK 2 [2, 7, 8] ?_
        | refine aw_sregK 3 [] ?_
        | refine aw_regK 3 [] ?_
        | refine aw_sregK 4 [2, 7, 8] ?_
        | refine aw_regK 4 [2, 7, 8] ?_
        | refine aw_sregK 5 [2, 7, 8, 21, 22] ?_
        | refine aw_regK 5 [2, 7, 8, 21, 22] ?_
        | refine aw_sregK 6 [2, 7, 8, 21, 22] ?_
        | refine aw_regK 6 [2, 7, 8, 21, 22] ?_
        | refine aw_sregKD mixed 7 [2, 7, 8, 9, 21, 22] (by simp; exact rfl) ?_
        | refine aw_regKD mixed 7 [2, 7, 8, 9, 21, 22] (by simp; exact rfl) ?_
        | refine aw_sregK 8 [2, 7, 8, 21, 22] ?_
        | refine aw_regK 8 [2, 7, 8, 21, 22] ?_
        | refine aw_sregK 9 [7] ?_
        | refine aw_regK 9 [7] ?_
        | refine aw_sreg ?_
        | refine aw_sregD mixed ?_
        | refine aw_ifT (b := true) rfl rfl ?_
        | refine aw_ifF (b := false) rfl rfl ?_
        | refine aw_ifT rfl (by assumption) ?_
        | refine aw_ifF rfl (by assumption) ?_
        | refine aw_ifT rfl (decide_eq_true (by assumption)) ?_
        | refine aw_ifF rfl (decide_eq_false (by assumption)) ?_
        | refine aw_seq ?_
        | refine aw_block ?_
        | refine aw_skip ?_
        | refine aw_region ?_
        | refine aw_region_draw mixed ?_
        | refine aw_exit ?_
        | refine rq_exit ?_
        | refine blockQ_hit ?_
        | refine blockQ_miss (by decide) ?_
        | (refine ar_guard rfl rfl rfl rfl (fun h => ?_) (fun h => ?_) <;> (fail_if_success (cases h; done)) <;> (try simp at h) <;> (try subst h))
        | (refine aw_both rfl (fun h => ?_) (fun h => ?_) <;> (fail_if_success (cases h; done)) <;> (try simp at h) <;> (try subst h)))
  · rw [if_neg hl]
    have hc : ¬(x.length : Int) = (y.length : Int) := by omega
    refine scx_of Try.func51 rfl rfl rfl (Nat.le_of_ble_eq_true rfl) ?_
    repeat' (first
      | refine ar_end rfl ?_
      | refine ar_endD rfl (by kernel_rfl) ?_
      | refine ar_fin rfl ?_
      | refine ar_finD rfl (by kernel_rfl) ?_
      | refine ar_callO Try.call54 hA rfl rfl rfl rfl (by simp; exact rfl) rfl (by simp; done) (by rfl) rfl ?_
      | refine ar_callO Try.call54 hB rfl rfl rfl rfl (by simp; exact rfl) rfl (by simp; done) (by rfl) rfl ?_
      | exact aw_ret (ret_own (.loc 19) (by simp; exact rfl) (by simp) (by simp [rl_nil]))
      | refine ar_go3 _ rfl (by simp [rl_len, rl_getE, rl_set, rl_nil, List.length_set, List.getElem_set, IntKind.bits, ub_shl1', ub_shr, ub_or, ub_and, ub_andNot, ub_bit, Int.toNat_natCast, ub_zero, hl, hc]; exact ⟨rfl, rfl, rfl⟩) rfl ?_
      | refine aw_sregK 0 [0, 1, 2] ?_
      | refine aw_regK 0 [0, 1, 2] ?_
      | refine aw_sregK 1 [0, 1, 2] ?_
      | refine aw_regK 1 [0, 1, 2] ?_
      | refine aw_sregK 2 [2, 7, 8] ?_
      | refine aw_regK 2 [2, 7, 8] ?_
      | refine aw_sregK 3 [] ?_
      | refine aw_regK 3 [] ?_
      | refine aw_sregK 4 [2, 7, 8] ?_
      | refine aw_regK 4 [2, 7, 8] ?_
      | refine aw_sregK 5 [2, 7, 8, 21, 22] ?_
      | refine aw_regK 5 [2, 7, 8, 21, 22] ?_
      | refine aw_sregK 6 [2, 7, 8, 21, 22] ?_
      | refine aw_regK 6 [2, 7, 8, 21, 22] ?_
      | refine aw_sregKD mixed 7 [2, 7, 8, 9, 21, 22] (by simp; exact rfl) ?_
      | refine aw_regKD mixed 7 [2, 7, 8, 9, 21, 22] (by simp; exact rfl) ?_
      | refine aw_sregK 8 [2, 7, 8, 21, 22] ?_
      | refine aw_regK 8 [2, 7, 8, 21, 22] ?_
      | refine aw_sregK 9 [7] ?_
      | refine aw_regK 9 [7] ?_
      | refine aw_sreg ?_
      | refine aw_sregD mixed ?_
      | refine aw_ifT (b := true) rfl rfl ?_
      | refine aw_ifF (b := false) rfl rfl ?_
      | refine aw_ifT rfl (by assumption) ?_
      | refine aw_ifF rfl (by assumption) ?_
      | refine aw_ifT rfl (decide_eq_true (by assumption)) ?_
      | refine aw_ifF rfl (decide_eq_false (by assumption)) ?_
      | refine aw_seq ?_
      | refine aw_block ?_
      | refine aw_skip ?_
      | refine aw_region ?_
      | refine aw_region_draw mixed ?_
      | refine aw_exit ?_
      | refine rq_exit ?_
      | refine blockQ_hit ?_
      | refine blockQ_miss (by decide) ?_
      | (refine ar_guard rfl rfl rfl rfl (fun h => ?_) (fun h => ?_) <;> (fail_if_success (cases h; done)) <;> (try simp at h) <;> (try subst h))
      | (refine aw_both rfl (fun h => ?_) (fun h => ?_) <;> (fail_if_success (cases h; done)) <;> (try simp at h) <;> (try subst h)))
set_option maxHeartbeats 16000000 in
theorem c_or {a b : RL} (ha : a.length ≤ maxLen) (hb : b.length ≤ maxLen) : SCO Try.prog 16 [.pv (.sl 1 (rl a)), .pv (.sl 1 (rl b))] 33 1 (rl (bothR (· ||| ·) a b)) := by
  have h := c_both (f := (· ||| ·)) Try.call52 (fun x y => c_or1) ha hb
  refine scx_of Try.func16 rfl rfl rfl (Nat.le_of_ble_eq_true rfl) ?_
  repeat' (first
    | refine ar_end rfl ?_
    | refine ar_endD rfl (by kernel_rfl) ?_
    | refine ar_fin rfl ?_
    | refine ar_finD rfl (by kernel_rfl) ?_
    | refine ar_callO Try.call51 h rfl rfl rfl rfl (by simp; exact rfl) rfl (by simp; done) (by rfl) rfl ?_
    | exact aw_ret (ret_own (.loc 7) (by simp; exact rfl) (by simp) (by simp []))
    | refine ar_go3 _ rfl (by simp [*]; exact ⟨rfl, rfl, rfl⟩) rfl ?_
    | refine aw_sregK 0 [0, 1] ?_
    | refine aw_regK 0 [0, 1] ?_
    | refine aw_sregK 1 [0, 1] ?_
    | refine aw_regK 1 [0, 1] ?_
    | refine aw_sreg ?_
    | refine aw_sregD mixed ?_
    | refine aw_ifT (b := true) rfl rfl ?_
    | refine aw_ifF (b := false) rfl rfl ?_
    | refine aw_ifT rfl (by assumption) ?_
    | refine aw_ifF rfl (by assumption) ?_
    | refine aw_ifT rfl (decide_eq_true (by assumption)) ?_
    | refine aw_ifF rfl (decide_eq_false (by assumption)) ?_
    | refine aw_seq ?_
    | refine aw_block ?_
    | refine aw_skip ?_
    | refine aw_region ?_
    | refine aw_region_draw mixed ?_
    | refine aw_exit ?_
    | refine rq_exit ?_
    | refine blockQ_hit ?_
    | refine blockQ_miss (by decide) ?_
    | (refine ar_guard rfl rfl rfl rfl (fun h => ?_) (fun h => ?_) <;> (fail_if_success (cases h; done)) <;> (try simp at h) <;> (try subst h))
    | (refine aw_both rfl (fun h => ?_) (fun h => ?_) <;> (fail_if_success (cases h; done)) <;> (try simp at h) <;> (try subst h)))
set_option maxHeartbeats 16000000 in
theorem c_and {a b : RL} (ha : a.length ≤ maxLen) (hb : b.length ≤ maxLen) : SCO Try.prog 20 [.pv (.sl 1 (rl a)), .pv (.sl 1 (rl b))] 33 1 (rl (bothR (· &&& ·) a b)) := by
  have h := c_both (f := (· &&& ·)) Try.call55 (fun x y => c_and1) ha hb
  refine scx_of Try.func20 rfl rfl rfl (Nat.le_of_ble_eq_true rfl) ?_
  repeat' (first
    | refine ar_end rfl ?_
    | refine ar_endD rfl (by kernel_rfl) ?_
    | refine ar_fin rfl ?_
    | refine ar_finD rfl (by kernel_rfl) ?_
    | refine ar_callO Try.call51 h rfl rfl rfl rfl (by simp; exact rfl) rfl (by simp; done) (by rfl) rfl ?_
    | exact aw_ret (ret_own (.loc 7) (by simp; exact rfl) (by simp) (by simp []))
    | refine ar_go3 _ rfl (by simp [*]; exact ⟨rfl, rfl, rfl⟩) rfl ?_
    | refine aw_sregK 0 [0, 1] ?_
    | refine aw_regK 0 [0, 1] ?_
    | refine aw_sregK 1 [0, 1] ?_
    | refine aw_regK 1 [0, 1] ?_
    | refine aw_sreg ?_
    | refine aw_sregD mixed ?_
    | refine aw_ifT (b := true) rfl rfl ?_
    | refine aw_ifF (b := false) rfl rfl ?_
    | refine aw_ifT rfl (by assumption) ?_
    | refine aw_ifF rfl (by assumption) ?_
    | refine aw_ifT rfl (decide_eq_true (by assumption)) ?_
    | refine aw_ifF rfl (decide_eq_false (by assumption)) ?_
    | refine aw_seq ?_
    | refine aw_block ?_
    | refine aw_skip ?_
    | refine aw_region ?_
    | refine aw_region_draw mixed ?_
    | refine aw_exit ?_
    | refine rq_exit ?_
    | refine blockQ_hit ?_
    | refine blockQ_miss (by decide) ?_
    | (refine ar_guard rfl rfl rfl rfl (fun h => ?_) (fun h => ?_) <;> (fail_if_success (cases h; done)) <;> (try simp at h) <;> (try subst h))
    | (refine aw_both rfl (fun h => ?_) (fun h => ?_) <;> (fail_if_success (cases h; done)) <;> (try simp at h) <;> (try subst h)))
set_option maxHeartbeats 16000000 in
theorem c_orV {a b : RL} (ha : a.length ≤ maxLen) (hb : b.length ≤ maxLen) : SC Try.prog 16 [.pv (.sl 1 (rl a)), .pv (.sl 1 (rl b))] (.pv (.sl 1 (rl (bothR (· ||| ·) a b)))) := sco_sc (c_or ha hb)
set_option maxHeartbeats 16000000 in
theorem c_andV {a b : RL} (ha : a.length ≤ maxLen) (hb : b.length ≤ maxLen) : SC Try.prog 20 [.pv (.sl 1 (rl a)), .pv (.sl 1 (rl b))] (.pv (.sl 1 (rl (bothR (· &&& ·) a b)))) := sco_sc (c_and ha hb)
end Go.Eng
