import Derived.Test.YtclegllogeanlaaRelA
set_option linter.unusedSimpArgs false
set_option linter.unusedVariables false
set_option linter.constructorNameAsVariable false
set_option autoImplicit false
namespace Go.Eng
open Go Go.RowKit Go.Proofs
structure Ev where
  th : Int
  k : Int
  l : Int
  v : Int
  acq : Bool
  rel : Bool
  ex : Bool
abbrev bo (b : Bool) : PV := .v (.bool b)
def evL (e : Ev) : List PV := [C .i64 e.th, C .i64 e.k, C .i64 e.l, C .i64 e.v, bo e.acq, bo e.rel, bo e.ex]
def evsL (l : List Ev) : List (List PV) := l.map evL
theorem evsL_len {l : List Ev} : (evsL l).length = l.length := by simp [evsL]
theorem evsL_getE {l : List Ev} {i : Nat} (h : i < (evsL l).length) : (evsL l)[i] = evL (l[i]'(by simpa [evsL] using h)) := by simp [evsL]
abbrev exL (l : List Ev) : List PV := [.sl 7 (evsL l), .v (.slice none 0 0), .v (.slice none 0 0), .v (.slice none 0 0), .v (.slice none 0 0), .v (.slice none 0 0), .v (.slice none 0 0)]
def prs (l : List (Nat × Nat)) : List (List PV) := l.map fun p => [C .i64 p.1, C .i64 p.2]
theorem prs_len {l : List (Nat × Nat)} : (prs l).length = l.length := by simp [prs]
theorem prs_getE {l : List (Nat × Nat)} {i : Nat} (h : i < (prs l).length) : (prs l)[i] = [C .i64 ((l[i]'(by simpa [prs] using h)).1 : Int), C .i64 ((l[i]'(by simpa [prs] using h)).2 : Int)] := by simp [prs]
theorem prs_app (s l : List (Nat × Nat)) : prs (s ++ l) = prs s ++ prs l := by simp [prs]
theorem ub_and0 (y : Wd) : bits .and .u32 0 (ub y) = 0 := by rw [← ub_zero, ub_and]; simp [ub_zero]
theorem rl_set0 {r : RL} {i : Nat} : (rl r).set i [C .u32 0] = rl (r.set i 0#32) := by rw [← ub_zero]; exact rl_set
set_option maxHeartbeats 16000000 in
theorem c_only {a : RL} {fr to : Wd} (hl : a.length ≤ maxLen) : SCO Try.prog 18 [.pv (.sl 1 (rl a)), I .u32 (ub fr), I .u32 (ub to)] 33 1 (rl (onlyR a fr to)) := by
  have hC := c_clean hl
  have hcl := clean_le a
  unfold onlyR
  generalize cleanR a = x at *
  generalize hz : x.mapIdx (fun i x => (if fr.getLsbD i = true then x else 0#32) &&& to) = z
  have hzl : z.length = x.length := by rw [← hz]; simp
  refine scx_of Try.func18 rfl rfl rfl (Nat.le_of_ble_eq_true rfl) ?_
  repeat' (first
    | refine ar_end rfl ?_
    | refine ar_endD rfl (by kernel_rfl) ?_
    | refine ar_fin rfl ?_
    | refine ar_finD rfl (by kernel_rfl) ?_
    | refine ar_callO Try.call54 hC rfl rfl rfl rfl (by simp; exact rfl) rfl (by simp; done) (by rfl) rfl ?_
    | refine ar_go3 _ rfl (by simp [rl_len, rl_getE, rl_set, rl_nil, List.length_set, List.getElem_set, IntKind.bits, ub_shl1', ub_shr, ub_or, ub_and, ub_andNot, ub_bit, Int.toNat_natCast, ub_zero, ub_and0, rl_set0, List.set_set, List.getElem_set_self]; exact ⟨rfl, rfl, rfl⟩) rfl ?_
    | refine aw_sregK 0 [0, 1, 2] ?_
    | refine aw_regK 0 [0, 1, 2] ?_
    | refine aw_sregK 1 [0, 1, 2] ?_
    | refine aw_regK 1 [0, 1, 2] ?_
    | refine aw_sregK 2 [1, 2, 7] ?_
    | refine aw_regK 2 [1, 2, 7] ?_
    | refine aw_sregK 3 [1, 2, 7, 12, 13] ?_
    | refine aw_regK 3 [1, 2, 7, 12, 13] ?_
    | refine aw_sregK 4 [1, 2, 7, 12, 13] ?_
    | refine aw_regK 4 [1, 2, 7, 12, 13] ?_
    | refine aw_sregK 5 [1, 2, 7, 8, 12, 13] ?_
    | refine aw_regK 5 [1, 2, 7, 8, 12, 13] ?_
    | refine aw_sregK 6 [1, 2, 7, 8, 12, 13] ?_
    | refine aw_regK 6 [1, 2, 7, 8, 12, 13] ?_
    | refine aw_sregK 7 [1, 2, 7, 8, 12, 13] ?_
    | refine aw_regK 7 [1, 2, 7, 8, 12, 13] ?_
    | refine aw_sregK 8 [1, 2, 7, 12, 13] ?_
    | refine aw_regK 8 [1, 2, 7, 12, 13] ?_
    | refine aw_sregK 9 [7] ?_
    | refine aw_regK 9 [7] ?_
    | refine aw_sreg ?_
    | refine aw_sregD mixed ?_
    | refine aw_ifT (b := true) rfl rfl ?_
    | refine aw_ifF (b := false) rfl rfl ?_
    | refine aw_ifT rfl (by assumption) ?_
    | refine aw_ifF rfl (by assumption) ?_
    | refine aw_ifT rfl (decide_eq_true (by assumption)) ?_
    | refine aw_ifF rfl (decide_eq_false (by assumption)) ?_
    | refine aw_seq ?_
    | refine aw_block ?_
    | refine aw_skip ?_
    | refine aw_region ?_
    | refine aw_region_draw mixed ?_
    | refine aw_exit ?_
    | refine rq_exit ?_
    | refine blockQ_hit ?_
    | refine blockQ_miss (by decide) ?_
    | (refine ar_guard rfl rfl rfl rfl (fun h => ?_) (fun h => ?_) <;> (fail_if_success (cases h; done)) <;> (try simp at h) <;> (try subst h))
    | (refine aw_both rfl (fun h => ?_) (fun h => ?_) <;> (fail_if_success (cases h; done)) <;> (try simp at h) <;> (try subst h)))
  refine aw_loopN [1, 2, 7, 12, 13] [.loc 10] (by simp; exact rfl) (ι := {i : Nat // i ≤ x.length}) (fun i => ⟨34, [(1, I .u32 (ub fr)), (2, I .u32 (ub to)), (7, .own (.loc 10)), (12, I .i64 x.length), (13, I .i64 i.1)], [(.loc 10, some (.own 33 1 (rl (mixR x z i.1))))]⟩) (fun i => x.length - i.1) ⟨0, by omega⟩ (by simp [mix_zero, rl_len]) ?_
  rintro ⟨i, hi⟩
  by_cases hlt : i < x.length
  · have hw : IntKind.wrap .i64 ((i : Int) + 1) = (i : Int) + 1 := wrap64s (by omega) (by omega)
    have hwu := wrap64u (n := i) (by omega)
    have hd : (i : Int) < (x.length : Int) := by omega
    have hml := mix_len (i := i) hzl (by omega)
    have hmg : ∀ h, (mixR x z i)[i]'h = x[i] := fun h => mix_get (i := i) hzl hlt
    have hms := mix_set (b := (if fr.getLsbD i = true then x[i] else 0#32) &&& to) hzl hlt (by simp [← hz])
    generalize mixR x z i = m at hml hms hmg
    have hlm : i < m.length := by omega
    generalize x[i] = p at hmg hms
    cases hb : fr.getLsbD i
    · simp only [hb, Bool.false_eq_true, if_false, BitVec.zero_and] at hms
      repeat' (first
        | refine ar_end rfl ?_
        | refine ar_endD rfl (by kernel_rfl) ?_
        | refine ar_fin rfl ?_
        | refine ar_finD rfl (by kernel_rfl) ?_
        | refine bq_norm ?_
        | refine lq_normN [1, 2, 7, 12, 13] [.loc 10] (by simp; exact rfl) ⟨i + 1, by omega⟩ (by dsimp only; omega) (by simp [hms])
        | refine ar_go3 _ rfl (by simp [rl_len, rl_getE, rl_set, rl_nil, List.length_set, List.getElem_set, IntKind.bits, ub_shl1', ub_shr, ub_or, ub_and, ub_andNot, ub_bit, Int.toNat_natCast, ub_zero, ub_and0, rl_set0, List.set_set, List.getElem_set_self, hlt, hlm, hd, hmg, hb, hw, hwu]; exact ⟨rfl, rfl, rfl⟩) rfl ?_
        | refine aw_sregK 0 [0, 1, 2] ?_
        | refine aw_regK 0 [0, 1, 2] ?_
        | refine aw_sregK 1 [0, 1, 2] ?_
        | refine aw_regK 1 [0, 1, 2] ?_
        | refine aw_sregK 2 [1, 2, 7] ?_
        | refine aw_regK 2 [1, 2, 7] ?_
        | refine aw_sregK 3 [1, 2, 7, 12, 13] ?_
        | refine aw_regK 3 [1, 2, 7, 12, 13] ?_
        | refine aw_sregK 4 [1, 2, 7, 12, 13] ?_
        | refine aw_regK 4 [1, 2, 7, 12, 13] ?_
        | refine aw_sregK 5 [1, 2, 7, 8, 12, 13] ?_
        | refine aw_regK 5 [1, 2, 7, 8, 12, 13] ?_
        | refine aw_sregK 6 [1, 2, 7, 8, 12, 13] ?_
        | refine aw_regK 6 [1, 2, 7, 8, 12, 13] ?_
        | refine aw_sregK 7 [1, 2, 7, 8, 12, 13] ?_
        | refine aw_regK 7 [1, 2, 7, 8, 12, 13] ?_
        | refine aw_sregK 8 [1, 2, 7, 12, 13] ?_
        | refine aw_regK 8 [1, 2, 7, 12, 13] ?_
        | refine aw_sregK 9 [7] ?_
        | refine aw_regK 9 [7] ?_
        | refine aw_sreg ?_
        | refine aw_sregD mixed ?_
        | refine aw_ifT (b := true) rfl rfl ?_
        | refine aw_ifF (b := false) rfl rfl ?_
        | refine aw_ifT rfl (by assumption) ?_
        | refine aw_ifF rfl (by assumption) ?_
        | refine aw_ifT rfl (decide_eq_true (by assumption)) ?_
        | refine aw_ifF rfl (decide_eq_false (by assumption)) ?_
        | refine aw_seq ?_
        | refine aw_block ?_
        | refine aw_skip ?_
        | refine aw_region ?_
        | refine aw_region_draw mixed ?_
        | refine aw_exit ?_
        | refine rq_exit ?_
        | refine blockQ_hit ?_
        | refine blockQ_miss (by decide) ?_
        | (refine ar_guard rfl rfl rfl rfl (fun h => ?_) (fun h => ?_) <;> (fail_if_success (cases h; done)) <;> (try simp at h) <;> (try subst h))
        | (refine aw_both rfl (fun h => ?_) (fun h => ?_) <;> (fail_if_success (cases h; done)) <;> (try simp at h) <;> (try subst h)))
    · simp only [hb, if_true] at hms
      repeat' (first
        | refine ar_end rfl ?_
        | refine ar_endD rfl (by kernel_rfl) ?_
        | refine ar_fin rfl ?_
        | refine ar_finD rfl (by kernel_rfl) ?_
        | refine bq_norm ?_
        | refine lq_normN [1, 2, 7, 12, 13] [.loc 10] (by simp; exact rfl) ⟨i + 1, by omega⟩ (by dsimp only; omega) (by simp [hms])
        | refine ar_go3 _ rfl (by simp [rl_len, rl_getE, rl_set, rl_nil, List.length_set, List.getElem_set, IntKind.bits, ub_shl1', ub_shr, ub_or, ub_and, ub_andNot, ub_bit, Int.toNat_natCast, ub_zero, ub_and0, rl_set0, List.set_set, List.getElem_set_self, hlt, hlm, hd, hmg, hb, hw, hwu]; exact ⟨rfl, rfl, rfl⟩) rfl ?_
        | refine aw_sregK 0 [0, 1, 2] ?_
        | refine aw_regK 0 [0, 1, 2] ?_
        | refine aw_sregK 1 [0, 1, 2] ?_
        | refine aw_regK 1 [0, 1, 2] ?_
        | refine aw_sregK 2 [1, 2, 7] ?_
        | refine aw_regK 2 [1, 2, 7] ?_
        | refine aw_sregK 3 [1, 2, 7, 12, 13] ?_
        | refine aw_regK 3 [1, 2, 7, 12, 13] ?_
        | refine aw_sregK 4 [1, 2, 7, 12, 13] ?_
        | refine aw_regK 4 [1, 2, 7, 12, 13] ?_
        | refine aw_sregK 5 [1, 2, 7, 8, 12, 13] ?_
        | refine aw_regK 5 [1, 2, 7, 8, 12, 13] ?_
        | refine aw_sregK 6 [1, 2, 7, 8, 12, 13] ?_
        | refine aw_regK 6 [1, 2, 7, 8, 12, 13] ?_
        | refine aw_sregK 7 [1, 2, 7, 8, 12, 13] ?_
        | refine aw_regK 7 [1, 2, 7, 8, 12, 13] ?_
        | refine aw_sregK 8 [1, 2, 7, 12, 13] ?_
        | refine aw_regK 8 [1, 2, 7, 12, 13] ?_
        | refine aw_sregK 9 [7] ?_
        | refine aw_regK 9 [7] ?_
        | refine aw_sreg ?_
        | refine aw_sregD mixed ?_
        | refine aw_ifT (b := true) rfl rfl ?_
        | refine aw_ifF (b := false) rfl rfl ?_
        | refine aw_ifT rfl (by assumption) ?_
        | refine aw_ifF rfl (by assumption) ?_
        | refine aw_ifT rfl (decide_eq_true (by assumption)) ?_
        | refine aw_ifF rfl (decide_eq_false (by assumption)) ?_
        | refine aw_seq ?_
        | refine aw_block ?_
        | refine aw_skip ?_
        | refine aw_region ?_
        | refine aw_region_draw mixed ?_
        | refine aw_exit ?_
        | refine rq_exit ?_
        | refine blockQ_hit ?_
        | refine blockQ_miss (by decide) ?_
        | (refine ar_guard rfl rfl rfl rfl (fun h => ?_) (fun h => ?_) <;> (fail_if_success (cases h; done)) <;> (try simp at h) <;> (try subst h))
        | (refine aw_both rfl (fun h => ?_) (fun h => ?_) <;> (fail_if_success (cases h; done)) <;> (try simp at h) <;> (try subst h)))
  · have hd : ¬(i : Int) < (x.length : Int) := by omega
    have hie : i = x.length := by omega
    have hme := mix_end hzl
    subst hie
    repeat' (first
      | refine ar_end rfl ?_
      | refine ar_endD rfl (by kernel_rfl) ?_
      | refine ar_fin rfl ?_
      | refine ar_finD rfl (by kernel_rfl) ?_
      | refine lq_exit ?_
      | exact aw_ret (ret_own (.loc 10) (by simp; exact rfl) (by simp) (by simp [hme]))
      | refine ar_go3 _ rfl (by simp [rl_len, rl_getE, rl_set, rl_nil, List.length_set, List.getElem_set, IntKind.bits, ub_shl1', ub_shr, ub_or, ub_and, ub_andNot, ub_bit, Int.toNat_natCast, ub_zero, ub_and0, rl_set0, List.set_set, List.getElem_set_self, hd]; exact ⟨rfl, rfl, rfl⟩) rfl ?_
      | refine aw_sregK 0 [0, 1, 2] ?_
      | refine aw_regK 0 [0, 1, 2] ?_
      | refine aw_sregK 1 [0, 1, 2] ?_
      | refine aw_regK 1 [0, 1, 2] ?_
      | refine aw_sregK 2 [1, 2, 7] ?_
      | refine aw_regK 2 [1, 2, 7] ?_
      | refine aw_sregK 3 [1, 2, 7, 12, 13] ?_
      | refine aw_regK 3 [1, 2, 7, 12, 13] ?_
      | refine aw_sregK 4 [1, 2, 7, 12, 13] ?_
      | refine aw_regK 4 [1, 2, 7, 12, 13] ?_
      | refine aw_sregK 5 [1, 2, 7, 8, 12, 13] ?_
      | refine aw_regK 5 [1, 2, 7, 8, 12, 13] ?_
      | refine aw_sregK 6 [1, 2, 7, 8, 12, 13] ?_
      | refine aw_regK 6 [1, 2, 7, 8, 12, 13] ?_
      | refine aw_sregK 7 [1, 2, 7, 8, 12, 13] ?_
      | refine aw_regK 7 [1, 2, 7, 8, 12, 13] ?_
      | refine aw_sregK 8 [1, 2, 7, 12, 13] ?_
      | refine aw_regK 8 [1, 2, 7, 12, 13] ?_
      | refine aw_sregK 9 [7] ?_
      | refine aw_regK 9 [7] ?_
      | refine aw_sreg ?_
      | refine aw_sregD mixed ?_
      | refine aw_ifT (b := true) rfl rfl ?_
      | refine aw_ifF (b := false) rfl rfl ?_
      | refine aw_ifT rfl (by assumption) ?_
      | refine aw_ifF rfl (by assumption) ?_
      | refine aw_ifT rfl (decide_eq_true (by assumption)) ?_
      | refine aw_ifF rfl (decide_eq_false (by assumption)) ?_
      | refine aw_seq ?_
      | refine aw_block ?_
      | refine aw_skip ?_
      | refine aw_region ?_
      | refine aw_region_draw mixed ?_
      | refine aw_exit ?_
      | refine rq_exit ?_
      | refine blockQ_hit ?_
      | refine blockQ_miss (by decide) ?_
      | (refine ar_guard rfl rfl rfl rfl (fun h => ?_) (fun h => ?_) <;> (fail_if_success (cases h; done)) <;> (try simp at h) <;> (try subst h))
      | (refine aw_both rfl (fun h => ?_) (fun h => ?_) <;> (fail_if_success (cases h; done)) <;> (try simp at h) <;> (try subst h)))
set_option maxHeartbeats 16000000 in
theorem c_onlyV {a : RL} {fr to : Wd} (hl : a.length ≤ maxLen) : SC Try.prog 18 [.pv (.sl 1 (rl a)), I .u32 (ub fr), I .u32 (ub to)] (.pv (.sl 1 (rl (onlyR a fr to)))) := sco_sc (c_only hl)
theorem take_eq_succ {α : Type} {a b : List α} {i : Nat} (h : a.take i = b.take i) (ha : i < a.length) (hb : i < b.length) (he : a[i] = b[i]) : a.take (i + 1) = b.take (i + 1) := by
  rw [List.take_add_one, List.take_add_one, List.getElem?_eq_getElem ha, List.getElem?_eq_getElem hb, h, he]
set_option maxHeartbeats 16000000 in
theorem c_equal {a b : RL} (ha : a.length ≤ maxLen) : SC Try.prog 56 [.pv (.sl 1 (rl a)), .pv (.sl 1 (rl b))] (B (decide (a = b))) := by
  by_cases hl : a.length = b.length
  · refine scx_of Try.func56 rfl rfl rfl (Nat.le_of_ble_eq_true rfl) ?_
    repeat' (first
      | exact aw_ret (ret_vals (by simp; exact rfl) (by simp [*]; fail_if_success (show _)))
      | exact aw_ret (ret_vals (by simp; exact rfl) (by simp [*]; omega))
      | refine ar_end rfl ?_
      | refine ar_endD rfl (by kernel_rfl) ?_
      | refine ar_fin rfl ?_
      | refine ar_finD rfl (by kernel_rfl) ?_
      | refine ar_go3 _ rfl (by simp [rl_len, rl_getE, rl_set, rl_nil, List.length_set, List.getElem_set, IntKind.bits, ub_shl1', ub_shr, ub_or, ub_and, ub_andNot, ub_bit, Int.toNat_natCast, ub_zero, hl]; exact ⟨rfl, rfl, rfl⟩) rfl ?_
      | refine aw_sregK 0 [0, 1] ?_
      | refine aw_regK 0 [0, 1] ?_
      | refine aw_sregK 1 [0, 1] ?_
      | refine aw_regK 1 [0, 1] ?_
      | refine aw_sregK 2 [] ?_
      | refine aw_regK 2 [] ?_
      | refine aw_sregK 3 [0, 1] ?_
      | refine aw_regK 3 [0, 1] ?_
      | refine aw_sregK 4 [0, 1, 12, 13] ?_
      | refine aw_regK 4 [0, 1, 12, 13] ?_
      | refine aw_sregK 5 [0, 1, 12, 13] ?_
      | refine aw_regK 5 [0, 1, 12, 13] ?_
      | refine aw_sregKD mixed 6 [0, 1, 5, 12, 13] (by simp; exact rfl) ?_
      | refine aw_regKD mixed 6 [0, 1, 5, 12, 13] (by simp; exact rfl) ?_
      | refine aw_sregK 7 [] ?_
      | refine aw_regK 7 [] ?_
      | refine aw_sregK 8 [0, 1, 12, 13] ?_
      | refine aw_regK 8 [0, 1, 12, 13] ?_
      | refine aw_sregK 9 [] ?_
      | refine aw_regK 9 [] ?_
      | refine aw_sreg ?_
      | refine aw_sregD mixed ?_
      | refine aw_ifT (b := true) rfl rfl ?_
      | refine aw_ifF (b := false) rfl rfl ?_
      | refine aw_ifT rfl (by assumption) ?_
      | refine aw_ifF rfl (by assumption) ?_
      | refine aw_ifT rfl (decide_eq_true (by assumption)) ?_
      | refine aw_ifF rfl (decide_eq_false (by assumption)) ?_
      | refine aw_seq ?_
      | refine aw_block ?_
      | refine aw_skip ?_
      | refine aw_region ?_
      | refine aw_region_draw mixed ?_
      | refine aw_exit ?_
      | refine rq_exit ?_
      | refine blockQ_hit ?_
      | refine blockQ_miss (by decide) ?_
      | (refine ar_guard rfl rfl rfl rfl (fun h => ?_) (fun h => ?_) <;> (fail_if_success (cases h; done)) <;> (try simp at h) <;> (try subst h))
      | (refine aw_both rfl (fun h => ?_) (fun h => ?_) <;> (fail_if_success (cases h; done)) <;> (try simp at h) <;> (try subst h)))
    refine aw_loopN [0, 1, 12, 13] [] (by simp; exact rfl) (ι := {i : Nat // i ≤ b.length ∧ a.take i = b.take i}) (fun i => ⟨26, [(0, .pv (.sl 1 (rl a))), (1, .pv (.sl 1 (rl b))), (12, I .i64 b.length), (13, I .i64 i.1)], []⟩) (fun i => b.length - i.1) ⟨0, by simp⟩ (by simp [rl_len, hl]) ?_
    rintro ⟨i, hi, hpre⟩
    have hM : maxLen = 9223372036854775807 := rfl
    by_cases hlt : i < b.length
    · have hw : IntKind.wrap .i64 ((i : Int) + 1) = (i : Int) + 1 := wrap64s (by omega) (by omega)
      have hd : (i : Int) < (b.length : Int) := by omega
      have hla : i < a.length := by omega
      have hnx := take_eq_succ hpre hla hlt
      have hne : ¬a[i] = b[i] → ¬a = b := fun h e => h (by subst e; rfl)
      generalize hp : a[i] = p at hnx hne
      generalize hq : b[i] = q at hnx hne
      by_cases hpq : p = q
      · have hn2 := hnx hpq
        subst hpq
        repeat' (first
          | refine ar_end rfl ?_
          | refine ar_endD rfl (by kernel_rfl) ?_
          | refine ar_fin rfl ?_
          | refine ar_finD rfl (by kernel_rfl) ?_
          | refine bq_norm ?_
          | refine lq_normN [0, 1, 12, 13] [] (by simp; exact rfl) ⟨i + 1, by omega, hn2⟩ (by dsimp only; omega) (by simp [hd])
          | refine ar_go3 _ rfl (by simp [rl_len, rl_getE, rl_set, rl_nil, List.length_set, List.getElem_set, IntKind.bits, ub_shl1', ub_shr, ub_or, ub_and, ub_andNot, ub_bit, Int.toNat_natCast, ub_zero, hlt, hla, hd, hp, hq, hw]; exact ⟨rfl, rfl, rfl⟩) rfl ?_
          | refine aw_sregK 0 [0, 1] ?_
          | refine aw_regK 0 [0, 1] ?_
          | refine aw_sregK 1 [0, 1] ?_
          | refine aw_regK 1 [0, 1] ?_
          | refine aw_sregK 2 [] ?_
          | refine aw_regK 2 [] ?_
          | refine aw_sregK 3 [0, 1] ?_
          | refine aw_regK 3 [0, 1] ?_
          | refine aw_sregK 4 [0, 1, 12, 13] ?_
          | refine aw_regK 4 [0, 1, 12, 13] ?_
          | refine aw_sregK 5 [0, 1, 12, 13] ?_
          | refine aw_regK 5 [0, 1, 12, 13] ?_
          | refine aw_sregKD mixed 6 [0, 1, 5, 12, 13] (by simp; exact rfl) ?_
          | refine aw_regKD mixed 6 [0, 1, 5, 12, 13] (by simp; exact rfl) ?_
          | refine aw_sregK 7 [] ?_
          | refine aw_regK 7 [] ?_
          | refine aw_sregK 8 [0, 1, 12, 13] ?_
          | refine aw_regK 8 [0, 1, 12, 13] ?_
          | refine aw_sregK 9 [] ?_
          | refine aw_regK 9 [] ?_
          | refine aw_sreg ?_
          | refine aw_sregD mixed ?_
          | refine aw_ifT (b := true) rfl rfl ?_
          | refine aw_ifF (b := false) rfl rfl ?_
          | refine aw_ifT rfl (by assumption) ?_
          | refine aw_ifF rfl (by assumption) ?_
          | refine aw_ifT rfl (decide_eq_true (by assumption)) ?_
          | refine aw_ifF rfl (decide_eq_false (by assumption)) ?_
          | refine aw_seq ?_
          | refine aw_block ?_
          | refine aw_skip ?_
          | refine aw_region ?_
          | refine aw_region_draw mixed ?_
          | refine aw_exit ?_
          | refine rq_exit ?_
          | refine blockQ_hit ?_
          | refine blockQ_miss (by decide) ?_
          | (refine ar_guard rfl rfl rfl rfl (fun h => ?_) (fun h => ?_) <;> (fail_if_success (cases h; done)) <;> (try simp at h) <;> (try subst h))
          | (refine aw_both rfl (fun h => ?_) (fun h => ?_) <;> (fail_if_success (cases h; done)) <;> (try simp at h) <;> (try subst h)))
      · have hne2 := hne hpq
        have huq : ¬ub p = ub q := fun e => hpq (ub_inj.1 e)
        repeat' (first
          | exact aw_ret (ret_vals (by simp; exact rfl) (by simp [hne2]; fail_if_success (show _)))
          | exact aw_ret (ret_vals (by simp; exact rfl) (by simp [hne2]; omega))
          | refine ar_end rfl ?_
          | refine ar_endD rfl (by kernel_rfl) ?_
          | refine ar_fin rfl ?_
          | refine ar_finD rfl (by kernel_rfl) ?_
          | refine ar_go3 _ rfl (by simp [rl_len, rl_getE, rl_set, rl_nil, List.length_set, List.getElem_set, IntKind.bits, ub_shl1', ub_shr, ub_or, ub_and, ub_andNot, ub_bit, Int.toNat_natCast, ub_zero, hlt, hla, hd, hp, hq, hw, huq]; exact ⟨rfl, rfl, rfl⟩) rfl ?_
          | refine aw_sregK 0 [0, 1] ?_
          | refine aw_regK 0 [0, 1] ?_
          | refine aw_sregK 1 [0, 1] ?_
          | refine aw_regK 1 [0, 1] ?_
          | refine aw_sregK 2 [] ?_
          | refine aw_regK 2 [] ?_
          | refine aw_sregK 3 [0, 1] ?_
          | refine aw_regK 3 [0, 1] ?_
          | refine aw_sregK 4 [0, 1, 12, 13] ?_
          | refine aw_regK 4 [0, 1, 12, 13] ?_
          | refine aw_sregK 5 [0, 1, 12, 13] ?_
          | refine aw_regK 5 [0, 1, 12, 13] ?_
          | refine aw_sregKD mixed 6 [0, 1, 5, 12, 13] (by simp; exact rfl) ?_
          | refine aw_regKD mixed 6 [0, 1, 5, 12, 13] (by simp; exact rfl) ?_
          | refine aw_sregK 7 [] ?_
          | refine aw_regK 7 [] ?_
          | refine aw_sregK 8 [0, 1, 12, 13] ?_
          | refine aw_regK 8 [0, 1, 12, 13] ?_
          | refine aw_sregK 9 [] ?_
          | refine aw_regK 9 [] ?_
          | refine aw_sreg ?_
          | refine aw_sregD mixed ?_
          | refine aw_ifT (b := true) rfl rfl ?_
          | refine aw_ifF (b := false) rfl rfl ?_
          | refine aw_ifT rfl (by assumption) ?_
          | refine aw_ifF rfl (by assumption) ?_
          | refine aw_ifT rfl (decide_eq_true (by assumption)) ?_
          | refine aw_ifF rfl (decide_eq_false (by assumption)) ?_
          | refine aw_seq ?_
          | refine aw_block ?_
          | refine aw_skip ?_
          | refine aw_region ?_
          | refine aw_region_draw mixed ?_
          | refine aw_exit ?_
          | refine rq_exit ?_
          | refine blockQ_hit ?_
          | refine blockQ_miss (by decide) ?_
          | (refine ar_guard rfl rfl rfl rfl (fun h => ?_) (fun h => ?_) <;> (fail_if_success (cases h; done)) <;> (try simp at h) <;> (try subst h))
          | (refine aw_both rfl (fun h => ?_) (fun h => ?_) <;> (fail_if_success (cases h; done)) <;> (try simp at h) <;> (try subst h)))
    · have hd : ¬(i : Int) < (b.length : Int) := by omega
      have e : a = b := by rw [List.take_of_length_le (by omega), List.take_of_length_le (by omega)] at hpre; exact hpre
      repeat' (first
        | exact aw_ret (ret_vals (by simp; exact rfl) (by simp [e]; fail_if_success (show _)))
        | exact aw_ret (ret_vals (by simp; exact rfl) (by simp [e]; omega))
        | refine ar_end rfl ?_
        | refine ar_endD rfl (by kernel_rfl) ?_
        | refine ar_fin rfl ?_
        | refine ar_finD rfl (by kernel_rfl) ?_
        | refine lq_exit ?_
        | refine ar_go3 _ rfl (by simp [rl_len, rl_getE, rl_set, rl_nil, List.length_set, List.getElem_set, IntKind.bits, ub_shl1', ub_shr, ub_or, ub_and, ub_andNot, ub_bit, Int.toNat_natCast, ub_zero, hd]; exact ⟨rfl, rfl, rfl⟩) rfl ?_
        | refine aw_sregK 0 [0, 1] ?_
        | refine aw_regK 0 [0, 1] ?_
        | refine aw_sregK 1 [0, 1] ?_
        | refine aw_regK 1 [0, 1] ?_
        | refine aw_sregK 2 [] ?_
        | refine aw_regK 2 [] ?_
        | refine aw_sregK 3 [0, 1] ?_
        | refine aw_regK 3 [0, 1] ?_
        | refine aw_sregK 4 [0, 1, 12, 13] ?_
        | refine aw_regK 4 [0, 1, 12, 13] ?_
        | refine aw_sregK 5 [0, 1, 12, 13] ?_
        | refine aw_regK 5 [0, 1, 12, 13] ?_
        | refine aw_sregKD mixed 6 [0, 1, 5, 12, 13] (by simp; exact rfl) ?_
        | refine aw_regKD mixed 6 [0, 1, 5, 12, 13] (by simp; exact rfl) ?_
        | refine aw_sregK 7 [] ?_
        | refine aw_regK 7 [] ?_
        | refine aw_sregK 8 [0, 1, 12, 13] ?_
        | refine aw_regK 8 [0, 1, 12, 13] ?_
        | refine aw_sregK 9 [] ?_
        | refine aw_regK 9 [] ?_
        | refine aw_sreg ?_
        | refine aw_sregD mixed ?_
        | refine aw_ifT (b := true) rfl rfl ?_
        | refine aw_ifF (b := false) rfl rfl ?_
        | refine aw_ifT rfl (by assumption) ?_
        | refine aw_ifF rfl (by assumption) ?_
        | refine aw_ifT rfl (decide_eq_true (by assumption)) ?_
        | refine aw_ifF rfl (decide_eq_false (by assumption)) ?_
        | refine aw_seq ?_
        | refine aw_block ?_
        | refine aw_skip ?_
        | refine aw_region ?_
        | refine aw_region_draw mixed ?_
        | refine aw_exit ?_
        | refine rq_exit ?_
        | refine blockQ_hit ?_
        | refine blockQ_miss (by decide) ?_
        | (refine ar_guard rfl rfl rfl rfl (fun h => ?_) (fun h => ?_) <;> (fail_if_success (cases h; done)) <;> (try simp at h) <;> (try subst h))
        | (refine aw_both rfl (fun h => ?_) (fun h => ?_) <;> (fail_if_success (cases h; done)) <;> (try simp at h) <;> (try subst h)))
  · have e : ¬a = b := fun e => hl (by rw [e])
    have hc : ¬(a.length : Int) = (b.length : Int) := by omega
    refine scx_of Try.func56 rfl rfl rfl (Nat.le_of_ble_eq_true rfl) ?_
    repeat' (first
      | exact aw_ret (ret_vals (by simp; exact rfl) (by simp [e]; fail_if_success (show _)))
      | exact aw_ret (ret_vals (by simp; exact rfl) (by simp [e]; omega))
      | refine ar_end rfl ?_
      | refine ar_endD rfl (by kernel_rfl) ?_
      | refine ar_fin rfl ?_
      | refine ar_finD rfl (by kernel_rfl) ?_
      | refine ar_go3 _ rfl (by simp [rl_len, rl_getE, rl_set, rl_nil, List.length_set, List.getElem_set, IntKind.bits, ub_shl1', ub_shr, ub_or, ub_and, ub_andNot, ub_bit, Int.toNat_natCast, ub_zero, hl, hc]; exact ⟨rfl, rfl, rfl⟩) rfl ?_
      | refine aw_sregK 0 [0, 1] ?_
      | refine aw_regK 0 [0, 1] ?_
      | refine aw_sregK 1 [0, 1] ?_
      | refine aw_regK 1 [0, 1] ?_
      | refine aw_sregK 2 [] ?_
      | refine aw_regK 2 [] ?_
      | refine aw_sregK 3 [0, 1] ?_
      | refine aw_regK 3 [0, 1] ?_
      | refine aw_sregK 4 [0, 1, 12, 13] ?_
      | refine aw_regK 4 [0, 1, 12, 13] ?_
      | refine aw_sregK 5 [0, 1, 12, 13] ?_
      | refine aw_regK 5 [0, 1, 12, 13] ?_
      | refine aw_sregKD mixed 6 [0, 1, 5, 12, 13] (by simp; exact rfl) ?_
      | refine aw_regKD mixed 6 [0, 1, 5, 12, 13] (by simp; exact rfl) ?_
      | refine aw_sregK 7 [] ?_
      | refine aw_regK 7 [] ?_
      | refine aw_sregK 8 [0, 1, 12, 13] ?_
      | refine aw_regK 8 [0, 1, 12, 13] ?_
      | refine aw_sregK 9 [] ?_
      | refine aw_regK 9 [] ?_
      | refine aw_sreg ?_
      | refine aw_sregD mixed ?_
      | refine aw_ifT (b := true) rfl rfl ?_
      | refine aw_ifF (b := false) rfl rfl ?_
      | refine aw_ifT rfl (by assumption) ?_
      | refine aw_ifF rfl (by assumption) ?_
      | refine aw_ifT rfl (decide_eq_true (by assumption)) ?_
      | refine aw_ifF rfl (decide_eq_false (by assumption)) ?_
      | refine aw_seq ?_
      | refine aw_block ?_
      | refine aw_skip ?_
      | refine aw_region ?_
      | refine aw_region_draw mixed ?_
      | refine aw_exit ?_
      | refine rq_exit ?_
      | refine blockQ_hit ?_
      | refine blockQ_miss (by decide) ?_
      | (refine ar_guard rfl rfl rfl rfl (fun h => ?_) (fun h => ?_) <;> (fail_if_success (cases h; done)) <;> (try simp at h) <;> (try subst h))
      | (refine aw_both rfl (fun h => ?_) (fun h => ?_) <;> (fail_if_success (cases h; done)) <;> (try simp at h) <;> (try subst h)))
set_option maxHeartbeats 16000000 in
theorem c_same {a b : RL} (ha : a.length ≤ maxLen) (hb : b.length ≤ maxLen) : SC Try.prog 21 [.pv (.sl 1 (rl a)), .pv (.sl 1 (rl b))] (B (sameR a b)) := by
  have hA := c_cleanV ha
  have hB := c_cleanV hb
  have hE := c_equal (a := cleanR a) (b := cleanR b) (by have := clean_le a; simp [maxLen]; omega)
  refine scx_of Try.func21 rfl rfl rfl (Nat.le_of_ble_eq_true rfl) ?_
  repeat' (first
    | exact aw_ret (ret_vals (by simp; exact rfl) (by simp [sameR]; fail_if_success (show _)))
    | exact aw_ret (ret_vals (by simp; exact rfl) (by simp [sameR]; omega))
    | refine ar_end rfl ?_
    | refine ar_endD rfl (by kernel_rfl) ?_
    | refine ar_fin rfl ?_
    | refine ar_finD rfl (by kernel_rfl) ?_
    | refine ar_callV Try.call54 hA rfl rfl rfl rfl rfl (by simp; done) (by rfl) (by simp; done) ?_
    | refine ar_callV_if Try.call54 hA rfl rfl rfl rfl rfl rfl (by simp; done) rfl (by rfl) (by simp; done) ?_
    | refine ar_callV Try.call54 hB rfl rfl rfl rfl rfl (by simp; done) (by rfl) (by simp; done) ?_
    | refine ar_callV_if Try.call54 hB rfl rfl rfl rfl rfl rfl (by simp; done) rfl (by rfl) (by simp; done) ?_
    | refine ar_callV Try.call56 hE rfl rfl rfl rfl rfl (by simp; done) (by rfl) (by simp; done) ?_
    | refine ar_callV_if Try.call56 hE rfl rfl rfl rfl rfl rfl (by simp; done) rfl (by rfl) (by simp; done) ?_
    | refine ar_go3 _ rfl (by simp [*]; exact ⟨rfl, rfl, rfl⟩) rfl ?_
    | refine aw_sregK 0 [0, 1] ?_
    | refine aw_regK 0 [0, 1] ?_
    | refine aw_sregK 1 [0, 1] ?_
    | refine aw_regK 1 [0, 1] ?_
    | refine aw_sreg ?_
    | refine aw_sregD mixed ?_
    | refine aw_ifT (b := true) rfl rfl ?_
    | refine aw_ifF (b := false) rfl rfl ?_
    | refine aw_ifT rfl (by assumption) ?_
    | refine aw_ifF rfl (by assumption) ?_
    | refine aw_ifT rfl (decide_eq_true (by assumption)) ?_
    | refine aw_ifF rfl (decide_eq_false (by assumption)) ?_
    | refine aw_seq ?_
    | refine aw_block ?_
    | refine aw_skip ?_
    | refine aw_region ?_
    | refine aw_region_draw mixed ?_
    | refine aw_exit ?_
    | refine rq_exit ?_
    | refine blockQ_hit ?_
    | refine blockQ_miss (by decide) ?_
    | (refine ar_guard rfl rfl rfl rfl (fun h => ?_) (fun h => ?_) <;> (fail_if_success (cases h; done)) <;> (try simp at h) <;> (try subst h))
    | (refine aw_both rfl (fun h => ?_) (fun h => ?_) <;> (fail_if_success (cases h; done)) <;> (try simp at h) <;> (try subst h)))
set_option maxHeartbeats 16000000 in
theorem c_pairs {r : RL} (hl : r.length ≤ maxLen) : SCO Try.prog 19 [.pv (.sl 1 (rl r))] 75 2 (prs (pairsR r)) := by
  have hC := c_cleanV hl
  have hcl := clean_le r
  have hlen : 0 < (cleanR r).length → r.length = (cleanR r).length := by
    intro h
    by_cases h2 : r.length ≤ 32
    · exact (clean_len h2).symm
    · unfold cleanR at h; rw [if_pos (by omega)] at h; simp at h
  rw [pairs_eq]
  generalize cleanR r = x at *
  generalize hq : (fun p : Nat × Nat => bitR x p.1 p.2) = q
  refine scx_of Try.func19 rfl rfl rfl (Nat.le_of_ble_eq_true rfl) ?_
  repeat' (first
    | exact aw_ret (ret_vals (by simp; exact rfl) (by simp [*]; fail_if_success (show _)))
    | exact aw_ret (ret_vals (by simp; exact rfl) (by simp [*]; omega))
    | refine ar_end rfl ?_
    | refine ar_endD rfl (by kernel_rfl) ?_
    | refine ar_fin rfl ?_
    | refine ar_finD rfl (by kernel_rfl) ?_
    | refine ar_callV Try.call54 hC rfl rfl rfl rfl rfl (by simp; done) (by rfl) (by simp; done) ?_
    | refine ar_callV_if Try.call54 hC rfl rfl rfl rfl rfl rfl (by simp; done) rfl (by rfl) (by simp; done) ?_
    | refine ar_go3 _ rfl (by simp [rl_len, rl_getE, rl_set, rl_nil, List.length_set, List.getElem_set, IntKind.bits, ub_shl1', ub_shr, ub_or, ub_and, ub_andNot, ub_bit, Int.toNat_natCast, ub_zero]; exact ⟨rfl, rfl, rfl⟩) rfl ?_
    | refine aw_sregK 0 [0] ?_
    | refine aw_regK 0 [0] ?_
    | refine aw_sregK 1 [0] ?_
    | refine aw_regK 1 [0] ?_
    | refine aw_sregK 2 [0, 3] ?_
    | refine aw_regK 2 [0, 3] ?_
    | refine aw_sregK 3 [0, 3, 8, 9, 10] ?_
    | refine aw_regK 3 [0, 3, 8, 9, 10] ?_
    | refine aw_sregK 4 [0, 3, 8, 9, 10] ?_
    | refine aw_regK 4 [0, 3, 8, 9, 10] ?_
    | refine aw_sregK 5 [0, 3, 4, 5, 8, 9, 10] ?_
    | refine aw_regK 5 [0, 3, 4, 5, 8, 9, 10] ?_
    | refine aw_sregK 6 [0, 3, 4, 5, 8, 9, 10, 16, 17] ?_
    | refine aw_regK 6 [0, 3, 4, 5, 8, 9, 10, 16, 17] ?_
    | refine aw_sregK 7 [0, 3, 4, 5, 8, 9, 10, 16, 17] ?_
    | refine aw_regK 7 [0, 3, 4, 5, 8, 9, 10, 16, 17] ?_
    | refine aw_sregK 8 [0, 3, 4, 5, 6, 8, 9, 10, 16, 17] ?_
    | refine aw_regK 8 [0, 3, 4, 5, 6, 8, 9, 10, 16, 17] ?_
    | refine aw_sregK 9 [0, 3, 4, 5, 6, 8, 9, 10, 16, 17] ?_
    | refine aw_regK 9 [0, 3, 4, 5, 6, 8, 9, 10, 16, 17] ?_
    | refine aw_sregK 10 [0, 3, 4, 5, 8, 9, 10, 16, 17] ?_
    | refine aw_regK 10 [0, 3, 4, 5, 8, 9, 10, 16, 17] ?_
    | refine aw_sregK 11 [0, 3, 8, 9, 10] ?_
    | refine aw_regK 11 [0, 3, 8, 9, 10] ?_
    | refine aw_sregK 12 [3] ?_
    | refine aw_regK 12 [3] ?_
    | refine aw_sreg ?_
    | refine aw_sregD mixed ?_
    | refine aw_ifT (b := true) rfl rfl ?_
    | refine aw_ifF (b := false) rfl rfl ?_
    | refine aw_ifT rfl (by assumption) ?_
    | refine aw_ifF rfl (by assumption) ?_
    | refine aw_ifT rfl (decide_eq_true (by assumption)) ?_
    | refine aw_ifF rfl (decide_eq_false (by assumption)) ?_
    | refine aw_seq ?_
    | refine aw_block ?_
    | refine aw_skip ?_
    | refine aw_region ?_
    | refine aw_region_draw mixed ?_
    | refine aw_exit ?_
    | refine rq_exit ?_
    | refine blockQ_hit ?_
    | refine blockQ_miss (by decide) ?_
    | (refine ar_guard rfl rfl rfl rfl (fun h => ?_) (fun h => ?_) <;> (fail_if_success (cases h; done)) <;> (try simp at h) <;> (try subst h))
    | (refine aw_both rfl (fun h => ?_) (fun h => ?_) <;> (fail_if_success (cases h; done)) <;> (try simp at h) <;> (try subst h)))
  refine aw_nil 3 (.loc 1000) 75 2 (by simp; exact rfl) ?_
  refine aw_loopN [0, 3, 8, 9, 10] [.loc 1000] (by simp; exact rfl) (ι := {i : Nat // i ≤ x.length}) (fun i => ⟨35, [(0, .pv (.sl 1 (rl r))), (3, .own (.loc 1000)), (8, .pv (.sl 1 (rl x))), (9, I .i64 x.length), (10, I .i64 i.1)], [(.loc 1000, some (.own 75 2 (prs (uptoF q x.length i.1))))]⟩) (fun i => x.length - i.1) ⟨0, by omega⟩ (by simp [upto_zero, prs, rl_len]) ?_
  rintro ⟨i, hi⟩
  by_cases hlt : i < x.length
  · have hw : IntKind.wrap .i64 ((i : Int) + 1) = (i : Int) + 1 := wrap64s (by omega) (by omega)
    have hd : (i : Int) < (x.length : Int) := by omega
    have hrl := hlen (by omega)
    have hus := upto_succ q x.length i
    have hul := upto_len q x.length i
    have hul2 : i * x.length ≤ 1024 := Nat.le_trans (Nat.mul_le_mul (show i ≤ 32 by omega) hcl) (by decide)
    have hqi : ∀ k, q (i, k) = (x[i]).getLsbD k := fun k => by rw [← hq]; show (x.getD i 0#32).getLsbD k = _; rw [getD_in _ _ hlt]
    generalize hx : x[i] = w at hqi
    generalize uptoF q x.length i = U at *
    repeat' (first
      | refine ar_end rfl ?_
      | refine ar_endD rfl (by kernel_rfl) ?_
      | refine ar_fin rfl ?_
      | refine ar_finD rfl (by kernel_rfl) ?_
      | refine ar_go3 _ rfl (by simp [rl_len, rl_getE, rl_set, rl_nil, List.length_set, List.getElem_set, IntKind.bits, ub_shl1', ub_shr, ub_or, ub_and, ub_andNot, ub_bit, Int.toNat_natCast, ub_zero, hlt, hd, hx, hrl]; exact ⟨rfl, rfl, rfl⟩) rfl ?_
      | refine aw_sregK 3 [0, 3, 8, 9, 10] ?_
      | refine aw_regK 3 [0, 3, 8, 9, 10] ?_
      | refine aw_sregK 4 [0, 3, 8, 9, 10] ?_
      | refine aw_regK 4 [0, 3, 8, 9, 10] ?_
      | refine aw_sregK 5 [0, 3, 4, 5, 8, 9, 10] ?_
      | refine aw_regK 5 [0, 3, 4, 5, 8, 9, 10] ?_
      | refine aw_sreg ?_
      | refine aw_sregD mixed ?_
      | refine aw_ifT (b := true) rfl rfl ?_
      | refine aw_ifF (b := false) rfl rfl ?_
      | refine aw_ifT rfl (by assumption) ?_
      | refine aw_ifF rfl (by assumption) ?_
      | refine aw_ifT rfl (decide_eq_true (by assumption)) ?_
      | refine aw_ifF rfl (decide_eq_false (by assumption)) ?_
      | refine aw_seq ?_
      | refine aw_block ?_
      | refine aw_skip ?_
      | refine aw_region ?_
      | refine aw_region_draw mixed ?_
      | refine aw_exit ?_
      | refine rq_exit ?_
      | refine blockQ_hit ?_
      | refine blockQ_miss (by decide) ?_
      | (refine ar_guard rfl rfl rfl rfl (fun h => ?_) (fun h => ?_) <;> (fail_if_success (cases h; done)) <;> (try simp at h) <;> (try subst h))
      | (refine aw_both rfl (fun h => ?_) (fun h => ?_) <;> (fail_if_success (cases h; done)) <;> (try simp at h) <;> (try subst h)))
    refine aw_loopN [0, 3, 4, 5, 8, 9, 10, 16, 17] [.loc 1000] (by simp; exact rfl) (ι := {k : Nat // k ≤ x.length}) (fun k => ⟨35, [(0, .pv (.sl 1 (rl r))), (3, .own (.loc 1000)), (4, I .i64 i), (5, I .u32 (ub w)), (8, .pv (.sl 1 (rl x))), (9, I .i64 x.length), (10, I .i64 i), (16, I .i64 x.length), (17, I .i64 k.1)], [(.loc 1000, some (.own 75 2 (prs (U ++ rowF q i k.1))))]⟩) (fun k => x.length - k.1) ⟨0, by omega⟩ (by simp [row_zero, rl_len, hrl]) ?_
    rintro ⟨k, hk⟩
    by_cases hkl : k < x.length
    · have hw2 : IntKind.wrap .i64 ((k : Int) + 1) = (k : Int) + 1 := wrap64s (by omega) (by omega)
      have hwu := wrap64u (n := k) (by omega)
      have hd2 : (k : Int) < (x.length : Int) := by omega
      have hrs := row_succ q i k
      have hrle := row_len q i k
      have hqk := hqi k
      generalize rowF q i k = V at *
      cases hb : w.getLsbD k
      · rw [hb] at hqk
        rw [hqk, if_neg (by decide), List.append_nil] at hrs
        repeat' (first
          | refine ar_end rfl ?_
          | refine ar_endD rfl (by kernel_rfl) ?_
          | refine ar_fin rfl ?_
          | refine ar_finD rfl (by kernel_rfl) ?_
          | refine bq_norm ?_
          | refine lq_normN [0, 3, 4, 5, 8, 9, 10, 16, 17] [.loc 1000] (by simp; exact rfl) ⟨k + 1, by omega⟩ (by dsimp only; omega) (by simp [hrs])
          | refine ar_go3 _ rfl (by simp [rl_len, rl_getE, rl_set, rl_nil, List.length_set, List.getElem_set, IntKind.bits, ub_shl1', ub_shr, ub_or, ub_and, ub_andNot, ub_bit, Int.toNat_natCast, ub_zero, hd2, hb, hw2, hwu]; exact ⟨rfl, rfl, rfl⟩) rfl ?_
          | refine aw_sregK 6 [0, 3, 4, 5, 8, 9, 10, 16, 17] ?_
          | refine aw_regK 6 [0, 3, 4, 5, 8, 9, 10, 16, 17] ?_
          | refine aw_sregK 7 [0, 3, 4, 5, 8, 9, 10, 16, 17] ?_
          | refine aw_regK 7 [0, 3, 4, 5, 8, 9, 10, 16, 17] ?_
          | refine aw_sregK 8 [0, 3, 4, 5, 6, 8, 9, 10, 16, 17] ?_
          | refine aw_regK 8 [0, 3, 4, 5, 6, 8, 9, 10, 16, 17] ?_
          | refine aw_sregK 9 [0, 3, 4, 5, 6, 8, 9, 10, 16, 17] ?_
          | refine aw_regK 9 [0, 3, 4, 5, 6, 8, 9, 10, 16, 17] ?_
          | refine aw_sregK 10 [0, 3, 4, 5, 8, 9, 10, 16, 17] ?_
          | refine aw_regK 10 [0, 3, 4, 5, 8, 9, 10, 16, 17] ?_
          | refine aw_sreg ?_
          | refine aw_sregD mixed ?_
          | refine aw_ifT (b := true) rfl rfl ?_
          | refine aw_ifF (b := false) rfl rfl ?_
          | refine aw_ifT rfl (by assumption) ?_
          | refine aw_ifF rfl (by assumption) ?_
          | refine aw_ifT rfl (decide_eq_true (by assumption)) ?_
          | refine aw_ifF rfl (decide_eq_false (by assumption)) ?_
          | refine aw_seq ?_
          | refine aw_block ?_
          | refine aw_skip ?_
          | refine aw_region ?_
          | refine aw_region_draw mixed ?_
          | refine aw_exit ?_
          | refine rq_exit ?_
          | refine blockQ_hit ?_
          | refine blockQ_miss (by decide) ?_
          | (refine ar_guard rfl rfl rfl rfl (fun h => ?_) (fun h => ?_) <;> (fail_if_success (cases h; done)) <;> (try simp at h) <;> (try subst h))
          | (refine aw_both rfl (fun h => ?_) (fun h => ?_) <;> (fail_if_success (cases h; done)) <;> (try simp at h) <;> (try subst h)))
      · rw [hb] at hqk
        rw [hqk, if_pos rfl] at hrs
        repeat' (first
          | refine ar_end rfl ?_
          | refine ar_endD rfl (by kernel_rfl) ?_
          | refine ar_fin rfl ?_
          | refine ar_finD rfl (by kernel_rfl) ?_
          | refine ar_appO rfl rfl rfl rfl rfl (by simp; exact rfl) rfl (by simp; exact rfl) (by simp; exact rfl) (by simp; exact ⟨rfl, rfl⟩) rfl (by simp; exact rfl) (by simp; done) (by decide) (by simp [prs_len, maxLen]; try omega) ?_
          | refine bq_norm ?_
          | refine lq_normR (.loc 31) (.loc 1000) [0, 3, 4, 5, 8, 9, 10, 16, 17] [.loc 1000] (by simp; exact rfl) ⟨k + 1, by omega⟩ (by dsimp only; omega) (by rw [hrs, ← List.append_assoc, prs_app]; simp [prs])
          | refine ar_go3 _ rfl (by simp [rl_len, rl_getE, rl_set, rl_nil, List.length_set, List.getElem_set, IntKind.bits, ub_shl1', ub_shr, ub_or, ub_and, ub_andNot, ub_bit, Int.toNat_natCast, ub_zero, hd2, hb, hw2, hwu]; exact ⟨rfl, rfl, rfl⟩) rfl ?_
          | refine aw_sregK 6 [0, 3, 4, 5, 8, 9, 10, 16, 17] ?_
          | refine aw_regK 6 [0, 3, 4, 5, 8, 9, 10, 16, 17] ?_
          | refine aw_sregK 7 [0, 3, 4, 5, 8, 9, 10, 16, 17] ?_
          | refine aw_regK 7 [0, 3, 4, 5, 8, 9, 10, 16, 17] ?_
          | refine aw_sregK 8 [0, 3, 4, 5, 6, 8, 9, 10, 16, 17] ?_
          | refine aw_regK 8 [0, 3, 4, 5, 6, 8, 9, 10, 16, 17] ?_
          | refine aw_sregK 9 [0, 3, 4, 5, 6, 8, 9, 10, 16, 17] ?_
          | refine aw_regK 9 [0, 3, 4, 5, 6, 8, 9, 10, 16, 17] ?_
          | refine aw_sregK 10 [0, 3, 4, 5, 8, 9, 10, 16, 17] ?_
          | refine aw_regK 10 [0, 3, 4, 5, 8, 9, 10, 16, 17] ?_
          | refine aw_sreg ?_
          | refine aw_sregD mixed ?_
          | refine aw_ifT (b := true) rfl rfl ?_
          | refine aw_ifF (b := false) rfl rfl ?_
          | refine aw_ifT rfl (by assumption) ?_
          | refine aw_ifF rfl (by assumption) ?_
          | refine aw_ifT rfl (decide_eq_true (by assumption)) ?_
          | refine aw_ifF rfl (decide_eq_false (by assumption)) ?_
          | refine aw_seq ?_
          | refine aw_block ?_
          | refine aw_skip ?_
          | refine aw_region ?_
          | refine aw_region_draw mixed ?_
          | refine aw_exit ?_
          | refine rq_exit ?_
          | refine blockQ_hit ?_
          | refine blockQ_miss (by decide) ?_
          | (refine ar_guard rfl rfl rfl rfl (fun h => ?_) (fun h => ?_) <;> (fail_if_success (cases h; done)) <;> (try simp at h) <;> (try subst h))
          | (refine aw_both rfl (fun h => ?_) (fun h => ?_) <;> (fail_if_success (cases h; done)) <;> (try simp at h) <;> (try subst h)))
    · have hd2 : ¬(k : Int) < (x.length : Int) := by omega
      have hke : k = x.length := by omega
      subst hke
      rw [← hus]
      repeat' (first
        | refine ar_end rfl ?_
        | refine ar_endD rfl (by kernel_rfl) ?_
        | refine ar_fin rfl ?_
        | refine ar_finD rfl (by kernel_rfl) ?_
        | refine lq_exit ?_
        | refine bq_norm ?_
        | refine lq_normN [0, 3, 8, 9, 10] [.loc 1000] (by simp; exact rfl) ⟨i + 1, by omega⟩ (by dsimp only; omega) (by simp [hd])
        | refine ar_go3 _ rfl (by simp [rl_len, rl_getE, rl_set, rl_nil, List.length_set, List.getElem_set, IntKind.bits, ub_shl1', ub_shr, ub_or, ub_and, ub_andNot, ub_bit, Int.toNat_natCast, ub_zero, hd2, hw]; exact ⟨rfl, rfl, rfl⟩) rfl ?_
        | refine aw_sregK 6 [0, 3, 4, 5, 8, 9, 10, 16, 17] ?_
        | refine aw_regK 6 [0, 3, 4, 5, 8, 9, 10, 16, 17] ?_
        | refine aw_sregK 11 [0, 3, 8, 9, 10] ?_
        | refine aw_regK 11 [0, 3, 8, 9, 10] ?_
        | refine aw_sreg ?_
        | refine aw_sregD mixed ?_
        | refine aw_ifT (b := true) rfl rfl ?_
        | refine aw_ifF (b := false) rfl rfl ?_
        | refine aw_ifT rfl (by assumption) ?_
        | refine aw_ifF rfl (by assumption) ?_
        | refine aw_ifT rfl (decide_eq_true (by assumption)) ?_
        | refine aw_ifF rfl (decide_eq_false (by assumption)) ?_
        | refine aw_seq ?_
        | refine aw_block ?_
        | refine aw_skip ?_
        | refine aw_region ?_
        | refine aw_region_draw mixed ?_
        | refine aw_exit ?_
        | refine rq_exit ?_
        | refine blockQ_hit ?_
        | refine blockQ_miss (by decide) ?_
        | (refine ar_guard rfl rfl rfl rfl (fun h => ?_) (fun h => ?_) <;> (fail_if_success (cases h; done)) <;> (try simp at h) <;> (try subst h))
        | (refine aw_both rfl (fun h => ?_) (fun h => ?_) <;> (fail_if_success (cases h; done)) <;> (try simp at h) <;> (try subst h)))
  · have hd : ¬(i : Int) < (x.length : Int) := by omega
    have hie : i = x.length := by omega
    subst hie
    repeat' (first
      | refine ar_end rfl ?_
      | refine ar_endD rfl (by kernel_rfl) ?_
      | refine ar_fin rfl ?_
      | refine ar_finD rfl (by kernel_rfl) ?_
      | refine lq_exit ?_
      | exact aw_ret (ret_own (.loc 1000) (by simp; exact rfl) (by simp) (by simp []))
      | refine ar_go3 _ rfl (by simp [rl_len, rl_getE, rl_set, rl_nil, List.length_set, List.getElem_set, IntKind.bits, ub_shl1', ub_shr, ub_or, ub_and, ub_andNot, ub_bit, Int.toNat_natCast, ub_zero, hd]; exact ⟨rfl, rfl, rfl⟩) rfl ?_
      | refine aw_sregK 3 [0, 3, 8, 9, 10] ?_
      | refine aw_regK 3 [0, 3, 8, 9, 10] ?_
      | refine aw_sregK 12 [3] ?_
      | refine aw_regK 12 [3] ?_
      | refine aw_sreg ?_
      | refine aw_sregD mixed ?_
      | refine aw_ifT (b := true) rfl rfl ?_
      | refine aw_ifF (b := false) rfl rfl ?_
      | refine aw_ifT rfl (by assumption) ?_
      | refine aw_ifF rfl (by assumption) ?_
      | refine aw_ifT rfl (decide_eq_true (by assumption)) ?_
      | refine aw_ifF rfl (decide_eq_false (by assumption)) ?_
      | refine aw_seq ?_
      | refine aw_block ?_
      | refine aw_skip ?_
      | refine aw_region ?_
      | refine aw_region_draw mixed ?_
      | refine aw_exit ?_
      | refine rq_exit ?_
      | refine blockQ_hit ?_
      | refine blockQ_miss (by decide) ?_
      | (refine ar_guard rfl rfl rfl rfl (fun h => ?_) (fun h => ?_) <;> (fail_if_success (cases h; done)) <;> (try simp at h) <;> (try subst h))
      | (refine aw_both rfl (fun h => ?_) (fun h => ?_) <;> (fail_if_success (cases h; done)) <;> (try simp at h) <;> (try subst h)))
set_option maxHeartbeats 16000000 in
theorem c_pairsV {r : RL} (hl : r.length ≤ maxLen) : SC Try.prog 19 [.pv (.sl 1 (rl r))] (.pv (.sl 2 (prs (pairsR r)))) := sco_sc (c_pairs hl)
set_option maxHeartbeats 16000000 in
theorem c_inv {a : RL} (hl : a.length ≤ maxLen) : SCO Try.prog 22 [.pv (.sl 1 (rl a))] 33 1 (rl (invR a)) := by
  have hC := c_cleanV hl
  have hcl := clean_le a
  have hcc := clean_clean a
  unfold invR
  generalize cleanR a = x at *
  have hP := c_pairsV (r := x) (by simp [maxLen]; omega)
  have hin : ∀ p ∈ pairsR x, p.1 < x.length ∧ p.2 < x.length := fun p hp => by
    rw [mem_pairs, hcc] at hp; exact ⟨hp.1, hp.2.1⟩
  have hple : (pairsR x).length ≤ 1024 := by
    rw [pairs_eq, hcc]
    exact Nat.le_trans (upto_len _ _ _) (Nat.le_trans (Nat.mul_le_mul hcl hcl) (by decide))
  generalize pairsR x = ps at *
  refine scx_of Try.func22 rfl rfl rfl (Nat.le_of_ble_eq_true rfl) ?_
  repeat' (first
    | refine ar_end rfl ?_
    | refine ar_endD rfl (by kernel_rfl) ?_
    | refine ar_fin rfl ?_
    | refine ar_finD rfl (by kernel_rfl) ?_
    | refine ar_callV Try.call54 hC rfl rfl rfl rfl rfl (by simp; done) (by rfl) (by simp; done) ?_
    | refine ar_callV_if Try.call54 hC rfl rfl rfl rfl rfl rfl (by simp; done) rfl (by rfl) (by simp; done) ?_
    | refine ar_callV Try.call19 hP rfl rfl rfl rfl rfl (by simp; done) (by rfl) (by simp; done) ?_
    | refine ar_callV_if Try.call19 hP rfl rfl rfl rfl rfl rfl (by simp; done) rfl (by rfl) (by simp; done) ?_
    | refine ar_make (m := x.length) rfl rfl rfl rfl (by simp; exact rfl) (by simp; exact rfl) (by simp; exact ⟨rfl, rfl⟩) (by simp; exact rfl) rfl (by simp; done) (by decide) (by simp [rl_len, rl_getE, rl_set, rl_nil, List.length_set, List.getElem_set, IntKind.bits, ub_shl1', ub_shr, ub_or, ub_and, ub_andNot, ub_bit, Int.toNat_natCast, ub_zero]; exact rfl) (by simp [rl_len, rl_getE, rl_set, rl_nil, List.length_set, List.getElem_set, IntKind.bits, ub_shl1', ub_shr, ub_or, ub_and, ub_andNot, ub_bit, Int.toNat_natCast, ub_zero]; exact rfl) rfl (by simp [maxLen]; omega) ?_
    | refine ar_go3 _ rfl (by simp [rl_len, rl_getE, rl_set, rl_nil, List.length_set, List.getElem_set, IntKind.bits, ub_shl1', ub_shr, ub_or, ub_and, ub_andNot, ub_bit, Int.toNat_natCast, ub_zero, evsL_len, evsL_getE, evL, prs_len, prs_getE]; exact ⟨rfl, rfl, rfl⟩) rfl ?_
    | refine aw_sregK 0 [0] ?_
    | refine aw_regK 0 [0] ?_
    | refine aw_sregK 1 [0] ?_
    | refine aw_regK 1 [0] ?_
    | refine aw_sregK 2 [3] ?_
    | refine aw_regK 2 [3] ?_
    | refine aw_sregK 3 [3, 4] ?_
    | refine aw_regK 3 [3, 4] ?_
    | refine aw_sreg ?_
    | refine aw_sregD mixed ?_
    | refine aw_ifT (b := true) rfl rfl ?_
    | refine aw_ifF (b := false) rfl rfl ?_
    | refine aw_ifT rfl (by assumption) ?_
    | refine aw_ifF rfl (by assumption) ?_
    | refine aw_ifT rfl (decide_eq_true (by assumption)) ?_
    | refine aw_ifF rfl (decide_eq_false (by assumption)) ?_
    | refine aw_seq ?_
    | refine aw_block ?_
    | refine aw_skip ?_
    | refine aw_region ?_
    | refine aw_region_draw mixed ?_
    | refine aw_exit ?_
    | refine rq_exit ?_
    | refine blockQ_hit ?_
    | refine blockQ_miss (by decide) ?_
    | (refine ar_guard rfl rfl rfl rfl (fun h => ?_) (fun h => ?_) <;> (fail_if_success (cases h; done)) <;> (try simp at h) <;> (try subst h))
    | (refine aw_both rfl (fun h => ?_) (fun h => ?_) <;> (fail_if_success (cases h; done)) <;> (try simp at h) <;> (try subst h)))
  refine aw_loopN [4, 13, 14, 15] [.loc 11] (by simp; exact rfl) (ι := {i : Nat // i ≤ ps.length}) (fun i => ⟨32, [(4, .own (.loc 11)), (13, .pv (.sl 2 (prs ps))), (14, I .i64 ps.length), (15, I .i64 i.1)], [(.loc 11, some (.own 33 1 (rl (foldR x.length ((ps.map fun p => (p.2, p.1)).take i.1)))))]⟩) (fun i => ps.length - i.1) ⟨0, by omega⟩ (by simp [foldR, rl_zero, rl_len, prs_len]) ?_
  rintro ⟨i, hi⟩
  by_cases hlt : i < ps.length
  · have hw : IntKind.wrap .i64 ((i : Int) + 1) = (i : Int) + 1 := wrap64s (by omega) (by omega)
    have hd : (i : Int) < (ps.length : Int) := by omega
    obtain ⟨h1, h2⟩ := hin _ (List.getElem_mem hlt)
    have hst : foldR x.length ((ps.map fun p => (p.2, p.1)).take (i + 1)) = addR (foldR x.length ((ps.map fun p => (p.2, p.1)).take i)) (ps[i].2, ps[i].1) := by
      rw [List.take_add_one, List.getElem?_eq_getElem (by simpa using hlt), List.getElem_map, ← fold_snoc]; rfl
    have hfl := fold_len x.length ((ps.map fun p => (p.2, p.1)).take i)
    generalize foldR x.length ((ps.map fun p => (p.2, p.1)).take i) = F at *
    generalize hp : ps[i] = p at *
    obtain ⟨u, v⟩ := p
    dsimp only at h1 h2 hst
    have hvl : v < F.length := by omega
    have hwu := wrap64u (n := u) (by omega)
    have hadd : addR F (v, u) = F.set v (F[v] ||| 1#32 <<< u) := by unfold addR; rw [getD_in _ _ hvl]
    rw [hadd] at hst
    generalize hFv : F[v] = y at hst
    repeat' (first
      | refine ar_end rfl ?_
      | refine ar_endD rfl (by kernel_rfl) ?_
      | refine ar_fin rfl ?_
      | refine ar_finD rfl (by kernel_rfl) ?_
      | refine bq_norm ?_
      | refine lq_normN [4, 13, 14, 15] [.loc 11] (by simp; exact rfl) ⟨i + 1, by omega⟩ (by dsimp only; omega) (by simp [hst])
      | refine ar_go3 _ rfl (by simp [rl_len, rl_getE, rl_set, rl_nil, List.length_set, List.getElem_set, IntKind.bits, ub_shl1', ub_shr, ub_or, ub_and, ub_andNot, ub_bit, Int.toNat_natCast, ub_zero, evsL_len, evsL_getE, evL, prs_len, prs_getE, hlt, hd, hp, hvl, hFv, hwu, hw]; exact ⟨rfl, rfl, rfl⟩) rfl ?_
      | refine aw_sregK 4 [4, 13, 14, 15] ?_
      | refine aw_regK 4 [4, 13, 14, 15] ?_
      | refine aw_sregK 5 [4, 13, 14, 15] ?_
      | refine aw_regK 5 [4, 13, 14, 15] ?_
      | refine aw_sregKD mixed 6 [4, 6, 13, 14, 15] (by simp; exact rfl) ?_
      | refine aw_regKD mixed 6 [4, 6, 13, 14, 15] (by simp; exact rfl) ?_
      | refine aw_sregK 7 [4, 13, 14, 15] ?_
      | refine aw_regK 7 [4, 13, 14, 15] ?_
      | refine aw_sreg ?_
      | refine aw_sregD mixed ?_
      | refine aw_ifT (b := true) rfl rfl ?_
      | refine aw_ifF (b := false) rfl rfl ?_
      | refine aw_ifT rfl (by assumption) ?_
      | refine aw_ifF rfl (by assumption) ?_
      | refine aw_ifT rfl (decide_eq_true (by assumption)) ?_
      | refine aw_ifF rfl (decide_eq_false (by assumption)) ?_
      | refine aw_seq ?_
      | refine aw_block ?_
      | refine aw_skip ?_
      | refine aw_region ?_
      | refine aw_region_draw mixed ?_
      | refine aw_exit ?_
      | refine rq_exit ?_
      | refine blockQ_hit ?_
      | refine blockQ_miss (by decide) ?_
      | (refine ar_guard rfl rfl rfl rfl (fun h => ?_) (fun h => ?_) <;> (fail_if_success (cases h; done)) <;> (try simp at h) <;> (try subst h))
      | (refine aw_both rfl (fun h => ?_) (fun h => ?_) <;> (fail_if_success (cases h; done)) <;> (try simp at h) <;> (try subst h)))
  · have hd : ¬(i : Int) < (ps.length : Int) := by omega
    have et : (ps.map fun p => (p.2, p.1)).take i = ps.map fun p => (p.2, p.1) := List.take_of_length_le (by simp; omega)
    repeat' (first
      | refine ar_end rfl ?_
      | refine ar_endD rfl (by kernel_rfl) ?_
      | refine ar_fin rfl ?_
      | refine ar_finD rfl (by kernel_rfl) ?_
      | refine lq_exit ?_
      | exact aw_ret (ret_own (.loc 11) (by simp; exact rfl) (by simp) (by simp [et]))
      | refine ar_go3 _ rfl (by simp [rl_len, rl_getE, rl_set, rl_nil, List.length_set, List.getElem_set, IntKind.bits, ub_shl1', ub_shr, ub_or, ub_and, ub_andNot, ub_bit, Int.toNat_natCast, ub_zero, hd]; exact ⟨rfl, rfl, rfl⟩) rfl ?_
      | refine aw_sregK 4 [4, 13, 14, 15] ?_
      | refine aw_regK 4 [4, 13, 14, 15] ?_
      | refine aw_sregK 8 [4] ?_
      | refine aw_regK 8 [4] ?_
      | refine aw_sreg ?_
      | refine aw_sregD mixed ?_
      | refine aw_ifT (b := true) rfl rfl ?_
      | refine aw_ifF (b := false) rfl rfl ?_
      | refine aw_ifT rfl (by assumption) ?_
      | refine aw_ifF rfl (by assumption) ?_
      | refine aw_ifT rfl (decide_eq_true (by assumption)) ?_
      | refine aw_ifF rfl (decide_eq_false (by assumption)) ?_
      | refine aw_seq ?_
      | refine aw_block ?_
      | refine aw_skip ?_
      | refine aw_region ?_
      | refine aw_region_draw mixed ?_
      | refine aw_exit ?_
      | refine rq_exit ?_
      | refine blockQ_hit ?_
      | refine blockQ_miss (by decide) ?_
      | (refine ar_guard rfl rfl rfl rfl (fun h => ?_) (fun h => ?_) <;> (fail_if_success (cases h; done)) <;> (try simp at h) <;> (try subst h))
      | (refine aw_both rfl (fun h => ?_) (fun h => ?_) <;> (fail_if_success (cases h; done)) <;> (try simp at h) <;> (try subst h)))
set_option maxHeartbeats 16000000 in
theorem c_invV {a : RL} (hl : a.length ≤ maxLen) : SC Try.prog 22 [.pv (.sl 1 (rl a))] (.pv (.sl 1 (rl (invR a)))) := sco_sc (c_inv hl)
end Go.Eng
