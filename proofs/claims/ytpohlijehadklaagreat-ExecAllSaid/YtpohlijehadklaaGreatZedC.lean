import Derived.Test.YtpohlijehadklaaGreatExecA
import Derived.Test.YtpohlijehadklaaGreatFlowA
import Derived.Test.YtpohlijehadklaaGreatEngE
import Derived.Test.YtpohlijehadklaaGreatEngF
import Derived.Test.YtpohlijehadklaaGreatFlowD
import Derived.Test.YtpohlijehadklaaGreatExecB
import Derived.Test.YtpohlijehadklaaGreatFlowI
set_option linter.unusedSimpArgs false
set_option linter.unusedVariables false
set_option linter.constructorNameAsVariable false
set_option autoImplicit false
namespace Go.Eng
open Go Go.RowKit Go.Proofs
theorem ub_half (w : Wd) (i : Nat) : (ub (w >>> i)).tdiv 2 = ub (w >>> (i + 1)) := by
  unfold ub
  rw [Int.tdiv_eq_ediv_of_nonneg (Int.natCast_nonneg _), BitVec.toNat_ushiftRight, BitVec.toNat_ushiftRight, Nat.shiftRight_succ]
  omega
theorem ub_odd (a : Wd) : (ub a).tmod 2 = if a.getLsbD 0 = true then 1 else 0 := by
  unfold ub
  rw [Int.tmod_eq_emod_of_nonneg (Int.natCast_nonneg _)]
  have e : a.getLsbD 0 = decide (a.toNat % 2 = 1) := by
    rw [BitVec.getLsbD, Nat.testBit_zero]
  rw [e]
  by_cases h : a.toNat % 2 = 1
  · rw [decide_eq_true h, if_pos rfl]; omega
  · rw [decide_eq_false h, if_neg (by decide)]; omega
set_option maxHeartbeats 16000000 in
theorem c_bit05 {w : Wd} {k : Nat} (hk : k ≤ 1000) : SC Tryz.prog 91 [I .u32 (ub w), I .i64 k] (B (w.getLsbD k)) := by
  refine scx_of Tryz.func91 rfl rfl rfl (Nat.le_of_ble_eq_true rfl) ?_
  repeat' (first
 | refine ar_end rfl ?_
 | refine ar_go3 _ rfl (by simp [*]; exact ⟨rfl, rfl, rfl⟩) rfl ?_
 | refine aw_sregK 0 [0, 1] ?_
 | refine aw_sregK 1 [0, 1] ?_
 | refine aw_seq ?_
 | refine aw_block ?_)
  refine aw_loopN [0, 1, 5] [] (by simp; exact rfl) (ι := {i : Nat // i ≤ k}) (fun i => ⟨16, [(0, I .u32 (ub (w >>> i.1))), (1, I .i64 k), (5, I .i64 i.1)], []⟩) (fun i => k - i.1) ⟨0, by omega⟩ (by simp) ?_
  rintro ⟨i, hi⟩
  by_cases hlt : i < k
  · have hd : (i : Int) < (k : Int) := by omega
    have hw : IntKind.wrap .i64 ((i : Int) + 1) = (i : Int) + 1 := wrap64s (by omega) (by omega)
    have hh := ub_half w i
    have hb := wrap_ub (w >>> (i + 1))
    repeat' (first
 | refine ar_end rfl ?_
 | refine ar_fin rfl ?_
 | refine lq_normN [0, 1, 5] [] (by simp; exact rfl) ⟨i + 1, by omega⟩ (by dsimp only; omega) (by simp [])
 | refine ar_go3 _ rfl (by simp [hd, hw, hh, hb]; exact ⟨rfl, rfl, rfl⟩) rfl ?_
 | refine aw_sregK 2 [0, 1, 5] ?_
 | refine aw_regK 3 [0, 1, 5] ?_
 | refine aw_regK 4 [0, 1, 5] ?_
 | refine aw_ifT (b := true) rfl rfl ?_
 | refine aw_seq ?_
 | refine aw_block ?_
 | refine aw_skip ?_)
  have hd : ¬(i : Int) < (k : Int) := by omega
  have hie : i = k := by omega
  subst hie
  have ho := ub_odd (w >>> i)
  have e0 : (w >>> i).getLsbD 0 = w.getLsbD i := by rw [BitVec.getLsbD_ushiftRight, Nat.add_zero]
  rw [e0] at ho
  cases hb : w.getLsbD i
  · rw [hb, if_neg (by decide)] at ho
    repeat' (first
 | exact aw_ret (ret_vals (by simp; exact rfl) (by simp [*]; fail_if_success (show _)))
 | refine ar_end rfl ?_
 | refine ar_go3 _ rfl (by simp [hd, ho]; exact ⟨rfl, rfl, rfl⟩) rfl ?_
 | refine aw_sregK 2 [0, 1, 5] ?_
 | refine aw_sregK 5 [0] ?_
 | refine aw_ifF (b := false) rfl rfl ?_
 | refine aw_seq ?_
 | refine aw_exit ?_)
  · rw [hb, if_pos rfl] at ho
    repeat' (first
 | exact aw_ret (ret_vals (by simp; exact rfl) (by simp [*]; fail_if_success (show _)))
 | refine ar_end rfl ?_
 | refine ar_go3 _ rfl (by simp [hd, ho]; exact ⟨rfl, rfl, rfl⟩) rfl ?_
 | refine aw_sregK 2 [0, 1, 5] ?_
 | refine aw_sregK 5 [0] ?_
 | refine aw_ifF (b := false) rfl rfl ?_
 | refine aw_seq ?_
 | refine aw_exit ?_)
theorem ub_double (i : Nat) (h : i < 32) : IntKind.wrap .u32 (2 * ub (1#32 <<< i)) = ub (1#32 <<< (i + 1)) := by
  have : ∀ m : Fin 32, IntKind.wrap .u32 (2 * ub (1#32 <<< m.1)) = ub (1#32 <<< (m.1 + 1)) := by decide
  exact this ⟨i, h⟩
set_option maxHeartbeats 16000000 in
theorem c_power05 {k : Nat} (hk : k ≤ 32) : SC Tryz.prog 61 [I .i64 k] (I .u32 (ub (1#32 <<< k))) := by
  refine scx_of Tryz.func61 rfl rfl rfl (Nat.le_of_ble_eq_true rfl) ?_
  repeat' (first
 | refine ar_end rfl ?_
 | refine ar_go3 _ rfl (by simp [*]; exact ⟨rfl, rfl, rfl⟩) rfl ?_
 | refine aw_sregK 0 [0] ?_
 | refine aw_sregK 1 [0] ?_
 | refine aw_sregK 2 [0, 3] ?_
 | refine aw_seq ?_
 | refine aw_block ?_)
  refine aw_loopN [0, 3, 4] [] (by simp; exact rfl) (ι := {i : Nat // i ≤ k}) (fun i => ⟨13, [(0, I .i64 k), (3, I .u32 (ub (1#32 <<< i.1))), (4, I .i64 i.1)], []⟩) (fun i => k - i.1) ⟨0, by omega⟩ (by simp [ub]) ?_
  rintro ⟨i, hi⟩
  by_cases hlt : i < k
  · have hd : (i : Int) < (k : Int) := by omega
    have hw : IntKind.wrap .i64 ((i : Int) + 1) = (i : Int) + 1 := wrap64s (by omega) (by omega)
    have hh := ub_double i (by omega)
    generalize ub (1#32 <<< i) = y at *
    repeat' (first
 | refine ar_end rfl ?_
 | refine ar_fin rfl ?_
 | refine lq_normN [0, 3, 4] [] (by simp; exact rfl) ⟨i + 1, by omega⟩ (by dsimp only; omega) (by simp [])
 | refine ar_go3 _ rfl (by simp [hd, hw, hh]; exact ⟨rfl, rfl, rfl⟩) rfl ?_
 | refine aw_sregK 3 [0, 3, 4] ?_
 | refine aw_regK 4 [0, 3, 4] ?_
 | refine aw_regK 5 [0, 3, 4] ?_
 | refine aw_ifT (b := true) rfl rfl ?_
 | refine aw_seq ?_
 | refine aw_block ?_
 | refine aw_skip ?_)
  have hd : ¬(i : Int) < (k : Int) := by omega
  have hie : i = k := by omega
  subst hie
  repeat' (first
 | exact aw_ret (ret_vals (by simp; exact rfl) (by simp [*]; fail_if_success (show _)))
 | refine ar_end rfl ?_
 | refine ar_go3 _ rfl (by simp [hd]; exact ⟨rfl, rfl, rfl⟩) rfl ?_
 | refine aw_sregK 3 [0, 3, 4] ?_
 | refine aw_sregK 6 [3] ?_
 | refine aw_ifF (b := false) rfl rfl ?_
 | refine aw_seq ?_
 | refine aw_exit ?_)
set_option maxHeartbeats 16000000 in
theorem c_size05 {r : RL} (h : r.length ≤ 32) : SC Tryz.prog 62 [.pv (.sl 1 (rl r))] (I .i64 r.length) := by
  have hc : ¬(32 : Int) < (r.length : Int) := by omega
  refine scx_of Tryz.func62 rfl rfl rfl (Nat.le_of_ble_eq_true rfl) ?_
  repeat' (first
 | exact aw_ret (ret_vals (by simp; exact rfl) (by simp [*]; fail_if_success (show _)))
 | refine ar_end rfl ?_
 | refine ar_go3 _ rfl (by simp [rl_len, hc]; exact ⟨rfl, rfl, rfl⟩) rfl ?_
 | refine aw_sregK 0 [0] ?_
 | refine aw_sregK 1 [0] ?_
 | refine aw_sregK 3 [0] ?_
 | refine aw_ifF (b := false) rfl rfl ?_
 | refine aw_seq ?_
 | refine aw_skip ?_)
set_option maxHeartbeats 16000000 in
theorem c_has05 {r : RL} {i k : Nat} (h : r.length ≤ 32) (hi : i < r.length) (hk : k < r.length) : SC Tryz.prog 60 [.pv (.sl 1 (rl r)), I .i64 i, I .i64 k] (B (bitR r i k)) := by
  have hS := c_size05 h
  have e : bitR r i k = (r[i]).getLsbD k := by unfold bitR; rw [getD_in _ _ hi]
  rw [e]
  have hB := c_bit05 (w := r[i]) (k := k) (by omega)
  have h1 : (0 : Int) ≤ (i : Int) := by omega
  have h2 : (i : Int) < (r.length : Int) := by omega
  have h3 : (0 : Int) ≤ (k : Int) := by omega
  have h4 : (k : Int) < (r.length : Int) := by omega
  generalize hx : r[i] = x at *
  refine scx_of Tryz.func60 rfl rfl rfl (Nat.le_of_ble_eq_true rfl) ?_
  repeat' (first
 | exact aw_ret (ret_vals (by simp; exact rfl) (by simp [*]; fail_if_success (show _)))
 | refine ar_end rfl ?_
 | refine ar_callV Tryz.call62 hS rfl rfl rfl rfl rfl (by simp; done) (by rfl) (by simp; done) ?_
 | refine ar_callV_if Tryz.call91 hB rfl rfl rfl rfl rfl rfl (by simp; done) rfl (by rfl) (by simp; done) ?_
 | refine ar_go3 _ rfl (by simp [rl_len, rl_getE, hi, hk, h1, h2, h3, h4, hx]; exact ⟨rfl, rfl, rfl⟩) rfl ?_
 | refine aw_sregK 0 [0, 1, 2] ?_
 | refine aw_sregK 1 [0, 1, 2] ?_
 | refine aw_sregK 2 [0, 1, 2, 7] ?_)
end Go.Eng
set_option linter.unusedSimpArgs false
set_option linter.unusedVariables false
set_option linter.constructorNameAsVariable false
set_option autoImplicit false
namespace Go.Eng
open Go Go.RowKit Go.Proofs
theorem ub_addbit {x : Wd} {k : Nat} (hk : k < 32) (h : x.getLsbD k = false) : IntKind.wrap .u32 (ub x + ub (1#32 <<< k)) = ub (x ||| 1#32 <<< k) := by
  have ha : x &&& (1#32 <<< k) = 0#32 := by
    apply BitVec.eq_of_getLsbD_eq
    intro i hi
    rw [BitVec.getLsbD_and, shl1_bit, BitVec.getLsbD_zero]
    by_cases e : i = k
    · subst e; simp [h]
    · simp [e]
  rw [← BitVec.add_eq_or_of_and_eq_zero _ _ ha]
  unfold ub
  rw [IntKind.wrap_u32, BitVec.toNat_add]
  omega
theorem or_bitset {x : Wd} {k : Nat} (h : x.getLsbD k = true) : x ||| 1#32 <<< k = x := by
  apply BitVec.eq_of_getLsbD_eq
  intro i hi
  rw [BitVec.getLsbD_or, shl1_bit]
  by_cases e : i = k
  · subst e; simp [h]
  · simp [e]
set_option maxHeartbeats 16000000 in
theorem c_made05 {n : Nat} {ps : List (Nat × Nat)} (hn : n ≤ 32) (hl : ps.length ≤ 100000) (hpn : ∀ p ∈ ps, p.1 < n ∧ p.2 < n) : SCO Tryz.prog 43 [I .i64 n, .pv (.sl 2 (prs ps))] 57 1 (rl (foldR n ps)) := by
  refine scx_of Tryz.func43 rfl rfl rfl (Nat.le_of_ble_eq_true rfl) ?_
  repeat' (first
 | refine ar_end rfl ?_
 | refine ar_make (m := n) rfl rfl rfl rfl (by simp; exact rfl) (by simp; exact rfl) (by simp; exact ⟨rfl, rfl⟩) (by simp; exact rfl) rfl (by simp; done) (by decide) (by simp []; exact rfl) (by simp []; exact rfl) rfl (by simp [maxLen]; omega) ?_
 | refine ar_go3 _ rfl (by simp [*]; exact ⟨rfl, rfl, rfl⟩) rfl ?_
 | refine aw_sregK 0 [0, 1] ?_
 | refine aw_sregK 1 [0, 1] ?_
 | refine aw_sregK 2 [1, 5] ?_
 | refine aw_seq ?_
 | refine aw_block ?_)
  refine aw_loopN [1, 5, 6] [.loc 8] (by simp; exact rfl) (ι := {i : Nat // i ≤ ps.length}) (fun i => ⟨51, [(1, .pv (.sl 2 (prs ps))), (5, .own (.loc 8)), (6, I .i64 i.1)], [(.loc 8, some (.own 57 1 (rl (foldR n (ps.take i.1)))))]⟩) (fun i => ps.length - i.1) ⟨0, by omega⟩ (by simp [foldR, rl_zero]) ?_
  rintro ⟨i, hi⟩
  by_cases hlt : i < ps.length
  · have hw : IntKind.wrap .i64 ((i : Int) + 1) = (i : Int) + 1 := wrap64s (by omega) (by omega)
    have hd : (i : Int) < (ps.length : Int) := by omega
    obtain ⟨h1, h2⟩ := hpn _ (List.getElem_mem hlt)
    have hst : foldR n (ps.take (i + 1)) = addR (foldR n (ps.take i)) ps[i] := by
      rw [List.take_add_one, List.getElem?_eq_getElem hlt, ← fold_snoc]; rfl
    have hfl := fold_len n (ps.take i)
    generalize foldR n (ps.take i) = F at *
    generalize hp : ps[i] = p at *
    obtain ⟨u, v⟩ := p
    dsimp only at h1 h2
    have hul : u < F.length := by omega
    have hvl : v < F.length := by omega
    have hH := c_has05 (r := F) (i := u) (k := v) (by omega) hul hvl
    have hbit : bitR F u v = (F[u]).getLsbD v := by unfold bitR; rw [getD_in _ _ hul]
    rw [hbit] at hH
    have hP := c_power05 (k := v) (by omega)
    have hadd : addR F (u, v) = F.set u (F[u] ||| 1#32 <<< v) := by unfold addR; rw [getD_in _ _ hul]
    rw [hadd] at hst
    have hself : F.set u F[u] = F := List.set_getElem_self hul
    generalize hFu : F[u] = y at *
    cases hb : y.getLsbD v
    · rw [hb] at hH
      have hab := ub_addbit (by omega) hb
      repeat' (first
 | refine ar_end rfl ?_
 | refine ar_endD rfl (by kernel_rfl) ?_
 | refine ar_fin rfl ?_
 | refine ar_lend Tryz.call60 hH rfl rfl rfl rfl rfl (by simp; done) rfl rfl rfl rfl ?_
 | refine ar_callV Tryz.call61 hP rfl rfl rfl rfl rfl (by simp; done) (by rfl) (by simp; done) ?_
 | refine lq_normN [1, 5, 6] [.loc 8] (by simp; exact rfl) ⟨i + 1, by omega⟩ (by dsimp only; omega) (by simp [hst])
 | refine ar_go3 _ rfl (by simp [rl_len, rl_getE, rl_set, rl_nil, List.length_set, List.getElem_set, IntKind.bits, ub_shl1', ub_shr, ub_or, ub_and, ub_andNot, ub_bit, Int.toNat_natCast, ub_zero, prs_len, prs_getE, hlt, hd, hp, hul, hvl, hFu, hab, hw]; exact ⟨rfl, rfl, rfl⟩) rfl ?_
 | refine aw_sregK 3 [1, 5, 6] ?_
 | refine aw_regK 4 [1, 5, 6] ?_
 | refine aw_sregKD mixed 5 [1, 5, 6] (by simp; exact rfl) ?_
 | refine aw_regKD mixed 6 [1, 5, 6] (by simp; exact rfl) ?_
 | refine aw_ifT (b := true) rfl rfl ?_
 | refine aw_seq ?_
 | refine aw_block ?_
 | refine aw_skip ?_)
    · rw [hb] at hH
      rw [or_bitset hb, hself] at hst
      repeat' (first
 | refine ar_end rfl ?_
 | refine ar_endD rfl (by kernel_rfl) ?_
 | refine ar_fin rfl ?_
 | refine ar_lend Tryz.call60 hH rfl rfl rfl rfl rfl (by simp; done) rfl rfl rfl rfl ?_
 | refine bq_norm ?_
 | refine lq_normN [1, 5, 6] [.loc 8] (by simp; exact rfl) ⟨i + 1, by omega⟩ (by dsimp only; omega) (by simp [hst])
 | refine ar_go3 _ rfl (by simp [rl_len, rl_getE, rl_set, rl_nil, List.length_set, List.getElem_set, IntKind.bits, ub_shl1', ub_shr, ub_or, ub_and, ub_andNot, ub_bit, Int.toNat_natCast, ub_zero, prs_len, prs_getE, hlt, hd, hp, hul, hvl, hFu, hw]; exact ⟨rfl, rfl, rfl⟩) rfl ?_
 | refine aw_sregK 3 [1, 5, 6] ?_
 | refine aw_regK 4 [1, 5, 6] ?_
 | refine aw_sregKD mixed 5 [1, 5, 6] (by simp; exact rfl) ?_
 | refine aw_ifT (b := true) rfl rfl ?_
 | refine aw_ifF (b := false) rfl rfl ?_
 | refine aw_seq ?_
 | refine aw_block ?_
 | refine aw_skip ?_)
  have hd : ¬(i : Int) < (ps.length : Int) := by omega
  have et : ps.take i = ps := List.take_of_length_le (by omega)
  repeat' (first
 | refine ar_end rfl ?_
 | exact aw_ret (ret_own (.loc 8) (by simp; exact rfl) (by simp) (by simp [et]))
 | refine ar_go3 _ rfl (by simp [prs_len, hd]; exact ⟨rfl, rfl, rfl⟩) rfl ?_
 | refine aw_sregK 3 [1, 5, 6] ?_
 | refine aw_sregK 7 [5] ?_
 | refine aw_ifF (b := false) rfl rfl ?_
 | refine aw_seq ?_
 | refine aw_exit ?_)
end Go.Eng
set_option linter.unusedSimpArgs false
set_option linter.unusedVariables false
set_option linter.constructorNameAsVariable false
set_option autoImplicit false
namespace Go.Eng
open Go Go.RowKit Go.Proofs
def pairs05 (r : RL) : List (Nat × Nat) := uptoF (fun p => bitR r p.1 p.2) r.length r.length
theorem pairs05_in {r : RL} : ∀ p ∈ pairs05 r, p.1 < r.length ∧ p.2 < r.length := fun p hp => by
  unfold pairs05 at hp
  rw [upto_all] at hp
  exact mem_allP.1 (List.mem_filter.1 hp).1
set_option maxHeartbeats 16000000 in
theorem c_pairs05 {r : RL} (h : r.length ≤ 32) : SCO Tryz.prog 63 [.pv (.sl 1 (rl r))] 80 2 (prs (pairs05 r)) := by
  have hS := c_size05 h
  have hH := fun i k h1 h2 => c_has05 (r := r) (i := i) (k := k) h h1 h2
  unfold pairs05
  have hqb : ∀ i k, (fun p : Nat × Nat => bitR r p.1 p.2) (i, k) = bitR r i k := fun i k => rfl
  generalize (fun p : Nat × Nat => bitR r p.1 p.2) = q at *
  refine scx_of Tryz.func63 rfl rfl rfl (Nat.le_of_ble_eq_true rfl) ?_
  repeat' (first
 | refine ar_end rfl ?_
 | refine ar_callV Tryz.call62 hS rfl rfl rfl rfl rfl (by simp; done) (by rfl) (by simp; done) ?_
 | refine ar_go3 _ rfl (by simp [*]; exact ⟨rfl, rfl, rfl⟩) rfl ?_
 | refine aw_sregK 0 [0] ?_
 | refine aw_sregK 1 [0] ?_
 | refine aw_sregK 2 [0, 3] ?_
 | refine aw_sregK 3 [0, 3, 4] ?_
 | refine aw_seq ?_
 | refine aw_block ?_)
  refine aw_nil 3 (.loc 1000) 80 2 (by simp; exact rfl) ?_
  refine aw_loopN [0, 3, 4, 5] [.loc 1000] (by simp; exact rfl) (ι := {i : Nat // i ≤ r.length}) (fun i => ⟨30, [(0, .pv (.sl 1 (rl r))), (3, .own (.loc 1000)), (4, I .i64 r.length), (5, I .i64 i.1)], [(.loc 1000, some (.own 80 2 (prs (uptoF q r.length i.1))))]⟩) (fun i => r.length - i.1) ⟨0, by omega⟩ (by simp [upto_zero, prs]) ?_
  rintro ⟨i, hi⟩
  by_cases hlt : i < r.length
  · have hw : IntKind.wrap .i64 ((i : Int) + 1) = (i : Int) + 1 := wrap64s (by omega) (by omega)
    have hd : (i : Int) < (r.length : Int) := by omega
    have hus := upto_succ q r.length i
    have hul := upto_len q r.length i
    have hul2 : i * r.length ≤ 1024 := Nat.le_trans (Nat.mul_le_mul (show i ≤ 32 by omega) h) (by decide)
    generalize uptoF q r.length i = U at *
    repeat' (first
 | refine ar_end rfl ?_
 | refine ar_go3 _ rfl (by simp [hd]; exact ⟨rfl, rfl, rfl⟩) rfl ?_
 | refine aw_sregK 4 [0, 3, 4, 5] ?_
 | refine aw_sregK 6 [0, 3, 4, 5] ?_
 | refine aw_ifT (b := true) rfl rfl ?_
 | refine aw_seq ?_
 | refine aw_block ?_
 | refine aw_skip ?_)
    refine aw_loopN [0, 3, 4, 5, 6] [.loc 1000] (by simp; exact rfl) (ι := {k : Nat // k ≤ r.length}) (fun k => ⟨30, [(0, .pv (.sl 1 (rl r))), (3, .own (.loc 1000)), (4, I .i64 r.length), (5, I .i64 i), (6, I .i64 k.1)], [(.loc 1000, some (.own 80 2 (prs (U ++ browF q i k.1))))]⟩) (fun k => r.length - k.1) ⟨0, by omega⟩ (by simp [brow_zero]) ?_
    rintro ⟨k, hk⟩
    by_cases hkl : k < r.length
    · have hw2 : IntKind.wrap .i64 ((k : Int) + 1) = (k : Int) + 1 := wrap64s (by omega) (by omega)
      have hd2 : (k : Int) < (r.length : Int) := by omega
      have hrs := brow_succ q i k
      have hrle := brow_len q i k
      have hC := hH i k hlt hkl
      rw [← hqb] at hC
      generalize browF q i k = V at *
      cases hb : q (i, k)
      · rw [hb] at hC
        rw [hb, if_neg (by decide), List.append_nil] at hrs
        repeat' (first
 | refine ar_end rfl ?_
 | refine ar_fin rfl ?_
 | refine ar_callV Tryz.call60 hC rfl rfl rfl rfl rfl (by simp; done) (by rfl) (by simp; done) ?_
 | refine bq_norm ?_
 | refine lq_normN [0, 3, 4, 5, 6] [.loc 1000] (by simp; exact rfl) ⟨k + 1, by omega⟩ (by dsimp only; omega) (by simp [hrs])
 | refine ar_go3 _ rfl (by simp [hd2, hw2]; exact ⟨rfl, rfl, rfl⟩) rfl ?_
 | refine aw_sregK 7 [0, 3, 4, 5, 6] ?_
 | refine aw_regK 8 [0, 3, 4, 5, 6] ?_
 | refine aw_sregK 9 [0, 3, 4, 5, 6] ?_
 | refine aw_ifT (b := true) rfl rfl ?_
 | refine aw_ifF (b := false) rfl rfl ?_
 | refine aw_seq ?_
 | refine aw_block ?_
 | refine aw_skip ?_)
      · rw [hb] at hC
        rw [hb, if_pos rfl] at hrs
        repeat' (first
 | refine ar_end rfl ?_
 | refine ar_fin rfl ?_
 | refine ar_callV Tryz.call60 hC rfl rfl rfl rfl rfl (by simp; done) (by rfl) (by simp; done) ?_
 | refine ar_appO rfl rfl rfl rfl rfl (by simp; exact rfl) rfl (by simp; exact rfl) (by simp; exact rfl) (by simp; exact ⟨rfl, rfl⟩) rfl (by simp; exact rfl) (by simp; done) (by decide) (by simp [prs_len, maxLen]; try omega) ?_
 | refine lq_normR (.loc 28) (.loc 1000) [0, 3, 4, 5, 6] [.loc 1000] (by simp; exact rfl) ⟨k + 1, by omega⟩ (by dsimp only; omega) (by rw [hrs, ← List.append_assoc, prs_app]; simp [prs])
 | refine ar_go3 _ rfl (by simp [hd2, hw2]; exact ⟨rfl, rfl, rfl⟩) rfl ?_
 | refine aw_sregK 7 [0, 3, 4, 5, 6] ?_
 | refine aw_regK 8 [0, 3, 4, 5, 6] ?_
 | refine aw_sregK 9 [0, 3, 4, 5, 6] ?_
 | refine aw_regK 10 [0, 3, 4, 5, 6] ?_
 | refine aw_ifT (b := true) rfl rfl ?_
 | refine aw_seq ?_
 | refine aw_block ?_
 | refine aw_skip ?_)
    · have hd2 : ¬(k : Int) < (r.length : Int) := by omega
      have hke : k = r.length := by omega
      subst hke
      rw [← hus]
      repeat' (first
 | refine ar_end rfl ?_
 | refine ar_fin rfl ?_
 | refine lq_normN [0, 3, 4, 5] [.loc 1000] (by simp; exact rfl) ⟨i + 1, by omega⟩ (by dsimp only; omega) (by simp [hd])
 | refine ar_go3 _ rfl (by simp [hd2, hw]; exact ⟨rfl, rfl, rfl⟩) rfl ?_
 | refine aw_regK 5 [0, 3, 4, 5] ?_
 | refine aw_sregK 7 [0, 3, 4, 5, 6] ?_
 | refine aw_ifF (b := false) rfl rfl ?_
 | refine aw_seq ?_
 | refine aw_exit ?_)
  · have hd : ¬(i : Int) < (r.length : Int) := by omega
    have hie : i = r.length := by omega
    subst hie
    repeat' (first
 | refine ar_end rfl ?_
 | exact aw_ret (ret_own (.loc 1000) (by simp; exact rfl) (by simp) (by simp []))
 | refine ar_go3 _ rfl (by simp [hd]; exact ⟨rfl, rfl, rfl⟩) rfl ?_
 | refine aw_sregK 4 [0, 3, 4, 5] ?_
 | refine aw_sregK 11 [3] ?_
 | refine aw_ifF (b := false) rfl rfl ?_
 | refine aw_seq ?_
 | refine aw_exit ?_)
theorem pairs05_len {r : RL} (h : r.length ≤ 32) : (pairs05 r).length ≤ 1024 := by
  unfold pairs05
  exact Nat.le_trans (upto_len _ _ _) (Nat.le_trans (Nat.mul_le_mul h h) (by decide))
set_option maxHeartbeats 16000000 in
theorem c_clean05 {r : RL} (h : r.length ≤ 32) : SC Tryz.prog 44 [.pv (.sl 1 (rl r))] (.pv (.sl 1 (rl (foldR r.length (pairs05 r))))) := by
  have hS := c_size05 h
  have hP := sco_sc (c_pairs05 h)
  have hM := sco_sc (c_made05 (n := r.length) (ps := pairs05 r) h (by have := pairs05_len h; omega) pairs05_in)
  generalize foldR r.length (pairs05 r) = z at *
  generalize pairs05 r = ps at *
  refine scx_of Tryz.func44 rfl rfl rfl (Nat.le_of_ble_eq_true rfl) ?_
  repeat' (first
 | exact aw_ret (ret_vals (by simp; exact rfl) (by simp [*]; fail_if_success (show _)))
 | refine ar_end rfl ?_
 | refine ar_callV Tryz.call62 hS rfl rfl rfl rfl rfl (by simp; done) (by rfl) (by simp; done) ?_
 | refine ar_callV Tryz.call63 hP rfl rfl rfl rfl rfl (by simp; done) (by rfl) (by simp; done) ?_
 | refine ar_callV Tryz.call43 hM rfl rfl rfl rfl rfl (by simp; done) (by rfl) (by simp; done) ?_
 | refine ar_go3 _ rfl (by simp [*]; exact ⟨rfl, rfl, rfl⟩) rfl ?_
 | refine aw_sregK 0 [0] ?_
 | refine aw_sregK 1 [0] ?_)
set_option maxHeartbeats 16000000 in
theorem c_same05 {r : RL} (h : r.length ≤ 32) : SC Tryz.prog 18 [.pv (.sl 1 (rl r)), .pv (.sl 1 (rl r))] (B true) := by
  have hC := c_clean05 h
  have hl := fold_len r.length (pairs05 r)
  generalize foldR r.length (pairs05 r) = z at *
  refine scx_of Tryz.func18 rfl rfl rfl (Nat.le_of_ble_eq_true rfl) ?_
  repeat' (first
 | refine ar_end rfl ?_
 | refine ar_callV Tryz.call44 hC rfl rfl rfl rfl rfl (by simp; done) (by rfl) (by simp; done) ?_
 | refine ar_go3 _ rfl (by simp [rl_len]; exact ⟨rfl, rfl, rfl⟩) rfl ?_
 | refine aw_sregK 0 [0, 1] ?_
 | refine aw_sregK 1 [0, 1] ?_
 | refine aw_sregK 2 [1, 5] ?_
 | refine aw_sregK 3 [5, 6] ?_
 | refine aw_sregK 5 [5, 6] ?_
 | refine aw_ifF (b := false) rfl rfl ?_
 | refine aw_seq ?_
 | refine aw_block ?_
 | refine aw_skip ?_)
  refine aw_loopN [5, 6, 7] [] (by simp; exact rfl) (ι := {i : Nat // i ≤ z.length}) (fun i => ⟨32, [(5, .pv (.sl 1 (rl z))), (6, .pv (.sl 1 (rl z))), (7, I .i64 i.1)], []⟩) (fun i => z.length - i.1) ⟨0, by omega⟩ (by simp) ?_
  rintro ⟨i, hi⟩
  by_cases hlt : i < z.length
  · have hw : IntKind.wrap .i64 ((i : Int) + 1) = (i : Int) + 1 := wrap64s (by omega) (by omega)
    have hd : (i : Int) < (z.length : Int) := by omega
    generalize hx : z[i] = x at *
    repeat' (first
 | refine ar_end rfl ?_
 | refine ar_endD rfl (by kernel_rfl) ?_
 | refine ar_fin rfl ?_
 | refine bq_norm ?_
 | refine lq_normN [5, 6, 7] [] (by simp; exact rfl) ⟨i + 1, by omega⟩ (by dsimp only; omega) (by simp [])
 | refine ar_go3 _ rfl (by simp [rl_len, rl_getE, hlt, hd, hx, hw]; exact ⟨rfl, rfl, rfl⟩) rfl ?_
 | refine aw_sregK 6 [5, 6, 7] ?_
 | refine aw_regK 7 [5, 6, 7] ?_
 | refine aw_sregKD mixed 8 [5, 6, 7] (by simp; exact rfl) ?_
 | refine aw_ifT (b := true) rfl rfl ?_
 | refine aw_ifF (b := false) rfl rfl ?_
 | refine aw_seq ?_
 | refine aw_block ?_
 | refine aw_skip ?_)
  have hd : ¬(i : Int) < (z.length : Int) := by omega
  repeat' (first
 | exact aw_ret (ret_vals (by simp; exact rfl) (by simp [*]; fail_if_success (show _)))
 | refine ar_end rfl ?_
 | refine ar_go3 _ rfl (by simp [rl_len, hd]; exact ⟨rfl, rfl, rfl⟩) rfl ?_
 | refine aw_sregK 6 [5, 6, 7] ?_
 | refine aw_sregK 10 [] ?_
 | refine aw_ifF (b := false) rfl rfl ?_
 | refine aw_seq ?_
 | refine aw_exit ?_)
set_option maxHeartbeats 16000000 in
theorem c_nums10 {l : List (List Int)} (hl : l.length ≤ 1000) (hm : ∀ x ∈ l, x.length ≤ 1000) : SC Tryz.prog 19 [.pv (.sl 1 (rgL l)), .pv (.sl 1 (rgL l))] (B true) := by
  refine scx_of Tryz.func19 rfl rfl rfl (Nat.le_of_ble_eq_true rfl) ?_
  repeat' (first
 | refine ar_end rfl ?_
 | refine ar_go3 _ rfl (by simp [rgL_len]; exact ⟨rfl, rfl, rfl⟩) rfl ?_
 | refine aw_sregK 0 [0, 1] ?_
 | refine aw_sregK 1 [0, 1] ?_
 | refine aw_sregK 3 [0, 1] ?_
 | refine aw_ifF (b := false) rfl rfl ?_
 | refine aw_seq ?_
 | refine aw_block ?_
 | refine aw_skip ?_)
  refine aw_loopN [0, 1, 5] [] (by simp; exact rfl) (ι := {i : Nat // i ≤ l.length}) (fun i => ⟨53, [(0, .pv (.sl 1 (rgL l))), (1, .pv (.sl 1 (rgL l))), (5, I .i64 i.1)], []⟩) (fun i => l.length - i.1) ⟨0, by omega⟩ (by simp) ?_
  rintro ⟨i, hi⟩
  by_cases hlt : i < l.length
  · have hw : IntKind.wrap .i64 ((i : Int) + 1) = (i : Int) + 1 := wrap64s (by omega) (by omega)
    have hd : (i : Int) < (l.length : Int) := by omega
    have hml := hm _ (List.getElem_mem hlt)
    generalize hx : l[i] = x at *
    repeat' (first
 | refine ar_end rfl ?_
 | refine ar_endD rfl (by kernel_rfl) ?_
 | refine ar_go3 _ rfl (by simp [rgL_len, rgL_getE, ints_len, hlt, hd, hx]; exact ⟨rfl, rfl, rfl⟩) rfl ?_
 | refine aw_sregK 4 [0, 1, 5] ?_
 | refine aw_sregKD mixed 6 [0, 1, 5] (by simp; exact rfl) ?_
 | refine aw_sregK 8 [0, 1, 5] ?_
 | refine aw_ifT (b := true) rfl rfl ?_
 | refine aw_ifF (b := false) rfl rfl ?_
 | refine aw_seq ?_
 | refine aw_block ?_
 | refine aw_skip ?_)
    refine aw_loopN [0, 1, 5, 6] [] (by simp; exact rfl) (ι := {k : Nat // k ≤ x.length}) (fun k => ⟨53, [(0, .pv (.sl 1 (rgL l))), (1, .pv (.sl 1 (rgL l))), (5, I .i64 i), (6, I .i64 k.1)], []⟩) (fun k => x.length - k.1) ⟨0, by omega⟩ (by simp) ?_
    rintro ⟨k, hk⟩
    by_cases hkl : k < x.length
    · have hw2 : IntKind.wrap .i64 ((k : Int) + 1) = (k : Int) + 1 := wrap64s (by omega) (by omega)
      have hd2 : (k : Int) < (x.length : Int) := by omega
      generalize hy : x[k] = y at *
      repeat' (first
 | refine ar_end rfl ?_
 | refine ar_endD rfl (by kernel_rfl) ?_
 | refine ar_fin rfl ?_
 | refine bq_norm ?_
 | refine lq_normN [0, 1, 5, 6] [] (by simp; exact rfl) ⟨k + 1, by omega⟩ (by dsimp only; omega) (by simp [])
 | refine ar_go3 _ rfl (by simp [rgL_len, rgL_getE, ints_len, ints_getE, hlt, hx, hkl, hd2, hy, hw2]; exact ⟨rfl, rfl, rfl⟩) rfl ?_
 | refine aw_sregK 9 [0, 1, 5, 6] ?_
 | refine aw_regK 10 [0, 1, 5, 6] ?_
 | refine aw_sregKD mixed 11 [0, 1, 5, 6] (by simp; exact rfl) ?_
 | refine aw_ifT (b := true) rfl rfl ?_
 | refine aw_ifF (b := false) rfl rfl ?_
 | refine aw_seq ?_
 | refine aw_block ?_
 | refine aw_skip ?_)
    have hd2 : ¬(k : Int) < (x.length : Int) := by omega
    repeat' (first
 | refine ar_end rfl ?_
 | refine ar_fin rfl ?_
 | refine lq_normN [0, 1, 5] [] (by simp; exact rfl) ⟨i + 1, by omega⟩ (by dsimp only; omega) (by simp [])
 | refine ar_go3 _ rfl (by simp [rgL_len, rgL_getE, ints_len, hlt, hx, hd2, hw]; exact ⟨rfl, rfl, rfl⟩) rfl ?_
 | refine aw_regK 5 [0, 1, 5] ?_
 | refine aw_sregK 9 [0, 1, 5, 6] ?_
 | refine aw_ifF (b := false) rfl rfl ?_
 | refine aw_seq ?_
 | refine aw_exit ?_)
  have hd : ¬(i : Int) < (l.length : Int) := by omega
  repeat' (first
 | exact aw_ret (ret_vals (by simp; exact rfl) (by simp [*]; fail_if_success (show _)))
 | refine ar_end rfl ?_
 | refine ar_go3 _ rfl (by simp [rgL_len, hd]; exact ⟨rfl, rfl, rfl⟩) rfl ?_
 | refine aw_sregK 4 [0, 1, 5] ?_
 | refine aw_sregK 13 [] ?_
 | refine aw_ifF (b := false) rfl rfl ?_
 | refine aw_seq ?_
 | refine aw_exit ?_)
set_option maxHeartbeats 16000000 in
theorem c_real10 {e : Ex} : SC Tryz.prog 9 [.agg (exA e)] (.agg (exA e)) := by
  refine scx_of Tryz.func9 rfl rfl rfl (Nat.le_of_ble_eq_true rfl) ?_
  repeat' (first
 | exact aw_ret (ret_vals (by simp; exact rfl) (by simp [*]; fail_if_success (show _)))
 | refine ar_end rfl ?_
 | refine ar_go3 _ rfl (by simp [*]; exact ⟨rfl, rfl, rfl⟩) rfl ?_
 | refine aw_sregK 0 [0] ?_
 | refine aw_sregK 1 [1, 2] ?_)
end Go.Eng
set_option linter.unusedSimpArgs false
set_option linter.unusedVariables false
set_option linter.constructorNameAsVariable false
set_option autoImplicit false
namespace Go.Eng
open Go Go.RowKit Go.Proofs
set_option maxHeartbeats 16000000 in
theorem c_bit10 {w : Wd} {k : Nat} (hk : k ≤ 1000) : SC Tryz.prog 42 [I .u32 (ub w), I .i64 k] (B (w.getLsbD k)) := by
  refine scx_of Tryz.func42 rfl rfl rfl (Nat.le_of_ble_eq_true rfl) ?_
  repeat' (first
 | refine ar_end rfl ?_
 | refine ar_go3 _ rfl (by simp [*]; exact ⟨rfl, rfl, rfl⟩) rfl ?_
 | refine aw_sregK 0 [0, 1] ?_
 | refine aw_sregK 1 [0, 1] ?_
 | refine aw_seq ?_
 | refine aw_block ?_)
  refine aw_loopN [0, 1, 5] [] (by simp; exact rfl) (ι := {i : Nat // i ≤ k}) (fun i => ⟨16, [(0, I .u32 (ub (w >>> i.1))), (1, I .i64 k), (5, I .i64 i.1)], []⟩) (fun i => k - i.1) ⟨0, by omega⟩ (by simp) ?_
  rintro ⟨i, hi⟩
  by_cases hlt : i < k
  · have hd : (i : Int) < (k : Int) := by omega
    have hw : IntKind.wrap .i64 ((i : Int) + 1) = (i : Int) + 1 := wrap64s (by omega) (by omega)
    have hh := ub_half w i
    have hb := wrap_ub (w >>> (i + 1))
    repeat' (first
 | refine ar_end rfl ?_
 | refine ar_fin rfl ?_
 | refine lq_normN [0, 1, 5] [] (by simp; exact rfl) ⟨i + 1, by omega⟩ (by dsimp only; omega) (by simp [])
 | refine ar_go3 _ rfl (by simp [hd, hw, hh, hb]; exact ⟨rfl, rfl, rfl⟩) rfl ?_
 | refine aw_sregK 2 [0, 1, 5] ?_
 | refine aw_regK 3 [0, 1, 5] ?_
 | refine aw_regK 4 [0, 1, 5] ?_
 | refine aw_ifT (b := true) rfl rfl ?_
 | refine aw_seq ?_
 | refine aw_block ?_
 | refine aw_skip ?_)
  have hd : ¬(i : Int) < (k : Int) := by omega
  have hie : i = k := by omega
  subst hie
  have ho := ub_odd (w >>> i)
  have e0 : (w >>> i).getLsbD 0 = w.getLsbD i := by rw [BitVec.getLsbD_ushiftRight, Nat.add_zero]
  rw [e0] at ho
  cases hb : w.getLsbD i
  · rw [hb, if_neg (by decide)] at ho
    repeat' (first
 | exact aw_ret (ret_vals (by simp; exact rfl) (by simp [*]; fail_if_success (show _)))
 | refine ar_end rfl ?_
 | refine ar_go3 _ rfl (by simp [hd, ho]; exact ⟨rfl, rfl, rfl⟩) rfl ?_
 | refine aw_sregK 2 [0, 1, 5] ?_
 | refine aw_sregK 5 [0] ?_
 | refine aw_ifF (b := false) rfl rfl ?_
 | refine aw_seq ?_
 | refine aw_exit ?_)
  · rw [hb, if_pos rfl] at ho
    repeat' (first
 | exact aw_ret (ret_vals (by simp; exact rfl) (by simp [*]; fail_if_success (show _)))
 | refine ar_end rfl ?_
 | refine ar_go3 _ rfl (by simp [hd, ho]; exact ⟨rfl, rfl, rfl⟩) rfl ?_
 | refine aw_sregK 2 [0, 1, 5] ?_
 | refine aw_sregK 5 [0] ?_
 | refine aw_ifF (b := false) rfl rfl ?_
 | refine aw_seq ?_
 | refine aw_exit ?_)
theorem low_bits {a b c : Wd} {i k : Nat} (h : ((a ||| b) ||| c) >>> i = 0#32) (hk : i ≤ k) : a.getLsbD k = false ∧ b.getLsbD k = false ∧ c.getLsbD k = false := by
  have := congrArg (fun v => v.getLsbD (k - i)) h
  simp only [BitVec.getLsbD_ushiftRight, BitVec.getLsbD_or, BitVec.getLsbD_zero] at this
  rw [show i + (k - i) = k by omega, Bool.or_eq_false_iff, Bool.or_eq_false_iff] at this
  exact ⟨this.1.1, this.1.2, this.2⟩
set_option maxHeartbeats 16000000 in
theorem c_fine10 {R : Rn} (hR : FineR R) : SC Tryz.prog 41 [.agg (trL R)] (B true) := by
  obtain ⟨ok, h1, h2, h3, hlow, hpair, hev⟩ := hR
  have hes := ok.es
  have la : (R.ad.length : Int) = (R.es.length : Int) := by rw [ok.ad]
  have ld : (R.da.length : Int) = (R.es.length : Int) := by rw [ok.da]
  have lc : (R.ct.length : Int) = (R.es.length : Int) := by rw [ok.ct]
  have lp : (R.pa.length : Int) = (R.es.length : Int) := by rw [ok.pa]
  refine scx_of Tryz.func41 rfl rfl rfl (Nat.le_of_ble_eq_true rfl) ?_
  repeat' (first
 | refine ar_end rfl ?_
 | refine ar_go3 _ rfl (by simp [trL, evsL_len, u32s_len, ints_len, la, ld, lc, lp]; exact ⟨rfl, rfl, rfl⟩) rfl ?_
 | refine aw_sregK 0 [0] ?_
 | refine aw_sregK 1 [1] ?_
 | refine aw_sregK 2 [1, 3] ?_
 | refine aw_sregK 4 [1, 3] ?_
 | refine aw_ifF (b := false) rfl rfl ?_
 | refine aw_seq ?_
 | refine aw_block ?_
 | refine aw_skip ?_)
  refine aw_loopN [1, 3, 4] [.loc 1] (by simp; exact rfl) (ι := {i : Nat // i ≤ R.es.length}) (fun i => ⟨77, [(1, .ptr (.loc 1) 0), (3, I .i64 R.es.length), (4, I .i64 i.1)], [(.loc 1, some (.box 72 [.pv (.sl 7 (evsL R.es)), .pv (.sl 1 (u32s R.ad)), .pv (.sl 1 (u32s R.da)), .pv (.sl 1 (u32s R.ct)), .pv (.sl 1 (ints R.pa)), I .i64 R.v0, I .i64 R.v1, I .i64 R.v2, I .i64 R.v3, I .u32 R.d0, I .u32 R.d1, I .u32 R.d2, I .u32 R.d3, I .i64 R.nv, I .i64 R.nl, I .i64 R.more]))]⟩) (fun i => R.es.length - i.1) ⟨0, by omega⟩ (by simp) ?_
  rintro ⟨i, hi⟩
  by_cases hlt : i < R.es.length
  · have hd : (i : Int) < (R.es.length : Int) := by omega
    have hw : IntKind.wrap .i64 ((i : Int) + 1) = (i : Int) + 1 := wrap64s (by omega) (by omega)
    have ha : i < R.ad.length := by rw [ok.ad]; exact hlt
    have hda : i < R.da.length := by rw [ok.da]; exact hlt
    have hct : i < R.ct.length := by rw [ok.ct]; exact hlt
    have hpa : i < R.pa.length := by rw [ok.pa]; exact hlt
    have b1 := ub_of (h1 _ (List.getElem_mem ha))
    have b2 := ub_of (h2 _ (List.getElem_mem hda))
    have b3 := ub_of (h3 _ (List.getElem_mem hct))
    have hz := hlow i hlt
    have hpp := hpair i hlt
    generalize BitVec.ofInt 32 R.ad[i] = x1 at *
    generalize BitVec.ofInt 32 R.da[i] = x2 at *
    generalize BitVec.ofInt 32 R.ct[i] = x3 at *
    have hpn : ¬((i : Int) ≤ R.pa[i]) := by omega
    generalize hp : R.pa[i] = p at *
    repeat' (first
 | refine ar_end rfl ?_
 | refine ar_go3 _ rfl (by simp [hd]; exact ⟨rfl, rfl, rfl⟩) rfl ?_
 | refine aw_sregK 5 [1, 3, 4] ?_
 | refine aw_sregK 7 [1, 3, 4] ?_
 | refine aw_ifT (b := true) rfl rfl ?_
 | refine aw_seq ?_
 | refine aw_block ?_
 | refine aw_skip ?_)
    refine aw_loopN [1, 3, 4, 5] [.loc 1] (by simp; exact rfl) (ι := {k : Nat // i ≤ k ∧ k ≤ 32}) (fun k => ⟨77, [(1, .ptr (.loc 1) 0), (3, I .i64 R.es.length), (4, I .i64 i), (5, I .i64 k.1)], [(.loc 1, some (.box 72 [.pv (.sl 7 (evsL R.es)), .pv (.sl 1 (u32s R.ad)), .pv (.sl 1 (u32s R.da)), .pv (.sl 1 (u32s R.ct)), .pv (.sl 1 (ints R.pa)), I .i64 R.v0, I .i64 R.v1, I .i64 R.v2, I .i64 R.v3, I .u32 R.d0, I .u32 R.d1, I .u32 R.d2, I .u32 R.d3, I .i64 R.nv, I .i64 R.nl, I .i64 R.more]))]⟩) (fun k => 32 - k.1) ⟨i, by omega, by omega⟩ (by simp) ?_
    rintro ⟨k, hki, hk⟩
    by_cases hkl : k < 32
    · have hd2 : (k : Int) < 32 := by omega
      have hw2 : IntKind.wrap .i64 ((k : Int) + 1) = (k : Int) + 1 := wrap64s (by omega) (by omega)
      obtain ⟨z1, z2, z3⟩ := low_bits hz hki
      have c1 := c_bit10 (w := x1) (k := k) (by omega)
      have c2 := c_bit10 (w := x2) (k := k) (by omega)
      have c3 := c_bit10 (w := x3) (k := k) (by omega)
      rw [z1] at c1
      rw [z2] at c2
      rw [z3] at c3
      repeat' (first
 | refine ar_end rfl ?_
 | refine ar_fin rfl ?_
 | refine ar_callV Tryz.call42 c1 rfl rfl rfl rfl rfl (by simp; done) (by rfl) (by simp; done) ?_
 | refine ar_callV_if Tryz.call42 c2 rfl rfl rfl rfl rfl rfl (by simp; done) rfl (by rfl) (by simp; done) ?_
 | refine ar_callV_if Tryz.call42 c3 rfl rfl rfl rfl rfl rfl (by simp; done) rfl (by rfl) (by simp; done) ?_
 | refine bq_norm ?_
 | refine lq_normN [1, 3, 4, 5] [.loc 1] (by simp; exact rfl) ⟨k + 1, by omega, by omega⟩ (by dsimp only; omega) (by simp)
 | refine ar_go3 _ rfl (by simp [u32s_len, u32s_getE, hlt, ha, hda, hct, ← b1, ← b2, ← b3, hd2, hw2]; exact ⟨rfl, rfl, rfl⟩) rfl ?_
 | refine aw_sregK 8 [1, 3, 4, 5] ?_
 | refine aw_regK 9 [1, 3, 4, 5] ?_
 | refine aw_sregK 10 [1, 3, 4, 5] ?_
 | refine aw_ifT (b := true) rfl rfl ?_
 | refine aw_ifF (b := false) rfl rfl ?_
 | refine aw_seq ?_
 | refine aw_block ?_
 | refine aw_skip ?_)
    have hd2 : ¬(k : Int) < 32 := by omega
    repeat' (first
 | refine ar_end rfl ?_
 | refine ar_fin rfl ?_
 | refine bq_norm ?_
 | refine lq_normN [1, 3, 4] [.loc 1] (by simp; exact rfl) ⟨i + 1, by omega⟩ (by dsimp only; omega) (by simp [])
 | refine ar_go3 _ rfl (by simp [ints_len, ints_getE, hpa, hp, hpn, hd2, hw]; exact ⟨rfl, rfl, rfl⟩) rfl ?_
 | refine aw_regK 6 [1, 3, 4] ?_
 | refine aw_sregK 8 [1, 3, 4, 5] ?_
 | refine aw_sregK 12 [1, 3, 4] ?_
 | refine aw_ifF (b := false) rfl rfl ?_
 | refine aw_seq ?_
 | refine aw_skip ?_
 | refine aw_exit ?_)
  have hd : ¬(i : Int) < (R.es.length : Int) := by omega
  repeat' (first
 | exact aw_ret (ret_vals (by simp; exact rfl) (by simp [*]; fail_if_success (show _)))
 | refine ar_end rfl ?_
 | refine ar_go3 _ rfl (by simp [hd]; exact ⟨rfl, rfl, rfl⟩) rfl ?_
 | refine aw_sregK 5 [1, 3, 4] ?_
 | refine aw_sregK 14 [] ?_
 | refine aw_ifF (b := false) rfl rfl ?_
 | refine aw_seq ?_
 | refine aw_exit ?_)
end Go.Eng
set_option linter.unusedSimpArgs false
set_option linter.unusedVariables false
set_option autoImplicit false
namespace Go.Eng
open Go Go.RowKit
variable {P : Program}
/-- Behind this code all is as 'st2' says. (No definition: a goal of another form is told apart at once.) -/
inductive meetQ (st2 : AState) : Exit → AState → Prop
  | norm {st : AState} (h : Sub st st2) : meetQ st2 .normal st
theorem aw_meet {x y : Code} {Q : Exit → AState → Prop} {st : AState} (st2 : AState) (h : AW P x (meetQ st2) st) (k : AW P y Q st2) : AW P (.seq x y) Q st := by
  refine aw_seq fun Γ ρ a w hok => ?_
  refine wp_mono (h Γ ρ a w hok) ?_
  rintro e a' w' ⟨st', ρ', h1, h2⟩
  cases h1 with
  | norm h => exact ⟨st', ρ', aw_sub h k, h2⟩
theorem meet_norm {st st2 : AState} (l : List (Name × Name)) (L : List Nat) (N : List Name) (hs : (st.rens l).keepN L N = st2) : meetQ st2 .normal st := by
  subst hs
  exact .norm ((Sub.rens l st).trans (Sub.keepN _ L N))
end Go.Eng
namespace Go.Eng
open Go Go.RowKit
variable {P : Program}
theorem aw_meetN {x y : Code} {Q : Exit → AState → Prop} {st st1 st2 : AState} (l : List (Name × Name)) (L : List Nat) (N : List Name) (hs : (st.rens l).keepN L N = st1) (h : AW P x (meetQ st2) st1) (k : AW P y Q st2) : AW P (.seq x y) Q st := by
  subst hs
  exact aw_sub ((Sub.rens l st).trans (Sub.keepN _ L N)) (aw_meet st2 h k)
end Go.Eng
set_option autoImplicit false
set_option linter.unusedVariables false
set_option linter.unusedSimpArgs false
namespace Go.Eng
open Go Go.RowKit
def pathC : List Nat → Code → Option Code
  | [], c => some c
  | 0 :: p, .seq a _ => pathC p a
  | 1 :: p, .seq _ b => pathC p b
  | 0 :: p, .cond _ a _ => pathC p a
  | 1 :: p, .cond _ _ b => pathC p b
  | 0 :: p, .block _ c => pathC p c
  | 0 :: p, .scope c => pathC p c
  | 0 :: p, .loop c => pathC p c
  | _, _ => none
def codeAt (fn : Func) (k : Nat) (p : List Nat) : Option Code := match loopAt fn k with
  | some c => pathC p c
  | none => none
end Go.Eng
