import Derived.Test.YtclegllogeanlaaCohE
set_option linter.unusedSimpArgs false
set_option linter.unusedVariables false
set_option linter.constructorNameAsVariable false
set_option autoImplicit false
namespace Go.Eng
open Go Go.RowKit Go.Proofs
/-! ## Rf, Seq, Com, Obs -/
def rfUp (n : Nat) (fm : List Int) : Nat → RL
  | 0 => newR n
  | k + 1 => putR (rfUp n fm k) (fm.getD k 0) k
theorem rfUp_cl {n : Nat} (h : n ≤ 32) (fm : List Int) : ∀ k, Cl n (rfUp n fm k)
  | 0 => new_cl h
  | k + 1 => put_len (rfUp_cl h fm k) _ _
def rfR (es : List Ev) (fm : List Int) : RL := rfUp es.length fm fm.length
set_option maxHeartbeats 16000000 in
theorem c_rf {es : List Ev} {fm : List Int} (h32 : es.length ≤ 32) (hl : fm.length ≤ 1000000) : SC Try.prog 48 [.agg (exL es), .pv (.sl 1 (ints fm))] (.pv (.sl 1 (rl (rfR es fm)))) := by
  have hN := c_newV (n := es.length) h32
  unfold rfR
  refine scx_of Try.func48 rfl rfl rfl (Nat.le_of_ble_eq_true rfl) ?_
  repeat' (first
    | refine ar_end rfl ?_
    | refine ar_endD rfl (by kernel_rfl) ?_
    | refine ar_fin rfl ?_
    | refine ar_finD rfl (by kernel_rfl) ?_
    | refine ar_callV Try.call29 hN rfl rfl rfl rfl rfl (by simp; done) (by rfl) (by simp; done) ?_
    | refine ar_callV_if Try.call29 hN rfl rfl rfl rfl rfl rfl (by simp; done) rfl (by rfl) (by simp; done) ?_
    | refine ar_go3 _ rfl (by simp [evsL_len, evsL_getE, evL, prs_len, prs_getE, ints_len, ints_getE, intsL_len, intsL_getE]; exact ⟨rfl, rfl, rfl⟩) rfl ?_
    | refine aw_sregK 0 [0, 1] ?_
    | refine aw_regK 0 [0, 1] ?_
    | refine aw_sregK 1 [1, 2] ?_
    | refine aw_regK 1 [1, 2] ?_
    | refine aw_sregK 2 [1, 5] ?_
    | refine aw_regK 2 [1, 5] ?_
    | refine aw_sreg ?_
    | refine aw_sregD mixed ?_
    | refine aw_ifT (b := true) rfl rfl ?_
    | refine aw_ifF (b := false) rfl rfl ?_
    | refine aw_ifT rfl (by assumption) ?_
    | refine aw_ifF rfl (by assumption) ?_
    | refine aw_ifT rfl (decide_eq_true (by assumption)) ?_
    | refine aw_ifF rfl (decide_eq_false (by assumption)) ?_
    | refine aw_seq ?_
    | refine aw_block ?_
    | refine aw_skip ?_
    | refine aw_region ?_
    | refine aw_region_draw mixed ?_
    | refine aw_exit ?_
    | refine rq_exit ?_
    | refine blockQ_hit ?_
    | refine blockQ_miss (by decide) ?_
    | (refine ar_guard rfl rfl rfl rfl (fun h => ?_) (fun h => ?_) <;> (fail_if_success (cases h; done)) <;> (try simp at h) <;> (try subst h))
    | (refine aw_both rfl (fun h => ?_) (fun h => ?_) <;> (fail_if_success (cases h; done)) <;> (try simp at h) <;> (try subst h)))
  refine aw_loopN [5, 12, 13, 14] [] (by simp; exact rfl) (ι := {i : Nat // i ≤ fm.length}) (fun i => ⟨25, [(5, .pv (.sl 1 (rl (rfUp es.length fm i.1)))), (12, .pv (.sl 1 (ints fm))), (13, I .i64 fm.length), (14, I .i64 i.1)], []⟩) (fun i => fm.length - i.1) ⟨0, by omega⟩ (by simp [rfUp, ints_len]) ?_
  rintro ⟨i, hi⟩
  by_cases hlt : i < fm.length
  · have hw : IntKind.wrap .i64 ((i : Int) + 1) = (i : Int) + 1 := wrap64s (by omega) (by omega)
    have hd : (i : Int) < (fm.length : Int) := by omega
    have hst : rfUp es.length fm (i + 1) = putR (rfUp es.length fm i) (fm.getD i 0) i := rfl
    rw [getD_in _ _ hlt] at hst
    have hR := (rfUp_cl h32 fm i).len
    generalize rfUp es.length fm i = R at *
    generalize hx : fm[i] = x at *
    have hP := c_putV (r := R) (i := x) (k := (i : Int)) (by rw [hR]; simp [maxLen]; omega)
    repeat' (first
      | refine ar_end rfl ?_
      | refine ar_endD rfl (by kernel_rfl) ?_
      | refine ar_fin rfl ?_
      | refine ar_finD rfl (by kernel_rfl) ?_
      | refine ar_callV Try.call27 hP rfl rfl rfl rfl rfl (by simp; done) (by rfl) (by simp; done) ?_
      | refine ar_callV_if Try.call27 hP rfl rfl rfl rfl rfl rfl (by simp; done) rfl (by rfl) (by simp; done) ?_
      | refine bq_norm ?_
      | refine lq_normN [5, 12, 13, 14] [] (by simp; exact rfl) ⟨i + 1, by omega⟩ (by dsimp only; omega) (by simp [hst])
      | refine ar_go3 _ rfl (by simp [ints_len, ints_getE, intsL_len, intsL_getE, hlt, hd, hx, hw]; exact ⟨rfl, rfl, rfl⟩) rfl ?_
      | refine aw_sregK 3 [5, 12, 13, 14] ?_
      | refine aw_regK 3 [5, 12, 13, 14] ?_
      | refine aw_sregK 4 [5, 12, 13, 14] ?_
      | refine aw_regK 4 [5, 12, 13, 14] ?_
      | refine aw_sregK 5 [5, 6, 7, 12, 13, 14] ?_
      | refine aw_regK 5 [5, 6, 7, 12, 13, 14] ?_
      | refine aw_sregK 6 [5, 12, 13, 14] ?_
      | refine aw_regK 6 [5, 12, 13, 14] ?_
      | refine aw_sreg ?_
      | refine aw_sregD mixed ?_
      | refine aw_ifT (b := true) rfl rfl ?_
      | refine aw_ifF (b := false) rfl rfl ?_
      | refine aw_ifT rfl (by assumption) ?_
      | refine aw_ifF rfl (by assumption) ?_
      | refine aw_ifT rfl (decide_eq_true (by assumption)) ?_
      | refine aw_ifF rfl (decide_eq_false (by assumption)) ?_
      | refine aw_seq ?_
      | refine aw_block ?_
      | refine aw_skip ?_
      | refine aw_region ?_
      | refine aw_region_draw mixed ?_
      | refine aw_exit ?_
      | refine rq_exit ?_
      | refine blockQ_hit ?_
      | refine blockQ_miss (by decide) ?_
      | (refine ar_guard rfl rfl rfl rfl (fun h => ?_) (fun h => ?_) <;> (fail_if_success (cases h; done)) <;> (try simp at h) <;> (try subst h))
      | (refine aw_both rfl (fun h => ?_) (fun h => ?_) <;> (fail_if_success (cases h; done)) <;> (try simp at h) <;> (try subst h)))
  · have hd : ¬(i : Int) < (fm.length : Int) := by omega
    have hie : i = fm.length := by omega
    subst hie
    repeat' (first
      | exact aw_ret (ret_vals (by simp; exact rfl) (by simp [*]; fail_if_success (show _)))
      | exact aw_ret (ret_vals (by simp; exact rfl) (by simp [*]; omega))
      | refine ar_end rfl ?_
      | refine ar_endD rfl (by kernel_rfl) ?_
      | refine ar_fin rfl ?_
      | refine ar_finD rfl (by kernel_rfl) ?_
      | refine lq_exit ?_
      | refine ar_go3 _ rfl (by simp [ints_len, ints_getE, intsL_len, intsL_getE, hd]; exact ⟨rfl, rfl, rfl⟩) rfl ?_
      | refine aw_sregK 3 [5, 12, 13, 14] ?_
      | refine aw_regK 3 [5, 12, 13, 14] ?_
      | refine aw_sregK 7 [5] ?_
      | refine aw_regK 7 [5] ?_
      | refine aw_sreg ?_
      | refine aw_sregD mixed ?_
      | refine aw_ifT (b := true) rfl rfl ?_
      | refine aw_ifF (b := false) rfl rfl ?_
      | refine aw_ifT rfl (by assumption) ?_
      | refine aw_ifF rfl (by assumption) ?_
      | refine aw_ifT rfl (decide_eq_true (by assumption)) ?_
      | refine aw_ifF rfl (decide_eq_false (by assumption)) ?_
      | refine aw_seq ?_
      | refine aw_block ?_
      | refine aw_skip ?_
      | refine aw_region ?_
      | refine aw_region_draw mixed ?_
      | refine aw_exit ?_
      | refine rq_exit ?_
      | refine blockQ_hit ?_
      | refine blockQ_miss (by decide) ?_
      | (refine ar_guard rfl rfl rfl rfl (fun h => ?_) (fun h => ?_) <;> (fail_if_success (cases h; done)) <;> (try simp at h) <;> (try subst h))
      | (refine aw_both rfl (fun h => ?_) (fun h => ?_) <;> (fail_if_success (cases h; done)) <;> (try simp at h) <;> (try subst h)))
def unionR (n : Nat) (l : List RL) : RL := l.foldl (fun o r => bothR (· ||| ·) o r) (newR n)
set_option maxHeartbeats 16000000 in
theorem c_union {n : Nat} {l : List RL} (h32 : n ≤ 32) (hll : l.length ≤ 1000000) (hl : ∀ r ∈ l, r.length ≤ maxLen) : SC Try.prog 74 [I .i64 n, .pv (.sl 1 (rlsL l))] (.pv (.sl 1 (rl (unionR n l)))) := by
  have hN := c_newV (n := n) h32
  unfold unionR
  refine scx_of Try.func74 rfl rfl rfl (Nat.le_of_ble_eq_true rfl) ?_
  repeat' (first
    | refine ar_end rfl ?_
    | refine ar_endD rfl (by kernel_rfl) ?_
    | refine ar_fin rfl ?_
    | refine ar_finD rfl (by kernel_rfl) ?_
    | refine ar_callV Try.call29 hN rfl rfl rfl rfl rfl (by simp; done) (by rfl) (by simp; done) ?_
    | refine ar_callV_if Try.call29 hN rfl rfl rfl rfl rfl rfl (by simp; done) rfl (by rfl) (by simp; done) ?_
    | refine ar_go3 _ rfl (by simp [ints_len, ints_getE, intsL_len, intsL_getE, rlsL_len, rlsL_getE]; exact ⟨rfl, rfl, rfl⟩) rfl ?_
    | refine aw_sregK 0 [0, 1] ?_
    | refine aw_regK 0 [0, 1] ?_
    | refine aw_sregK 1 [0, 1] ?_
    | refine aw_regK 1 [0, 1] ?_
    | refine aw_sregK 2 [1, 5] ?_
    | refine aw_regK 2 [1, 5] ?_
    | refine aw_sreg ?_
    | refine aw_sregD mixed ?_
    | refine aw_ifT (b := true) rfl rfl ?_
    | refine aw_ifF (b := false) rfl rfl ?_
    | refine aw_ifT rfl (by assumption) ?_
    | refine aw_ifF rfl (by assumption) ?_
    | refine aw_ifT rfl (decide_eq_true (by assumption)) ?_
    | refine aw_ifF rfl (decide_eq_false (by assumption)) ?_
    | refine aw_seq ?_
    | refine aw_block ?_
    | refine aw_skip ?_
    | refine aw_region ?_
    | refine aw_region_draw mixed ?_
    | refine aw_exit ?_
    | refine rq_exit ?_
    | refine blockQ_hit ?_
    | refine blockQ_miss (by decide) ?_
    | (refine ar_guard rfl rfl rfl rfl (fun h => ?_) (fun h => ?_) <;> (fail_if_success (cases h; done)) <;> (try simp at h) <;> (try subst h))
    | (refine aw_both rfl (fun h => ?_) (fun h => ?_) <;> (fail_if_success (cases h; done)) <;> (try simp at h) <;> (try subst h)))
  refine aw_loopN [5, 10, 11, 12] [] (by simp; exact rfl) (ι := {i : Nat // i ≤ l.length}) (fun i => ⟨21, [(5, .pv (.sl 1 (rl ((l.take i.1).foldl (fun o r => bothR (· ||| ·) o r) (newR n))))), (10, .pv (.sl 1 (rlsL l))), (11, I .i64 l.length), (12, I .i64 i.1)], []⟩) (fun i => l.length - i.1) ⟨0, by omega⟩ (by simp [rlsL_len]) ?_
  rintro ⟨i, hi⟩
  by_cases hlt : i < l.length
  · have hw : IntKind.wrap .i64 ((i : Int) + 1) = (i : Int) + 1 := wrap64s (by omega) (by omega)
    have hd : (i : Int) < (l.length : Int) := by omega
    have hst : (l.take (i + 1)).foldl (fun o r => bothR (· ||| ·) o r) (newR n) = bothR (· ||| ·) ((l.take i).foldl (fun o r => bothR (· ||| ·) o r) (newR n)) l[i] := by
      rw [List.take_add_one, List.getElem?_eq_getElem hlt, List.foldl_append]; rfl
    have hol : ((l.take i).foldl (fun o r => bothR (· ||| ·) o r) (newR n)).length ≤ maxLen := by
      cases i with
      | zero => simp [newR, maxLen]; omega
      | succ i =>
        rw [List.take_add_one, List.getElem?_eq_getElem (by omega), List.foldl_append]
        exact both_le _ _ _
    have hxl := hl l[i] (List.getElem_mem hlt)
    generalize (l.take i).foldl (fun o r => bothR (· ||| ·) o r) (newR n) = R at *
    generalize hx : l[i] = x at *
    have hO := c_orV (a := R) (b := x) hol hxl
    repeat' (first
      | refine ar_end rfl ?_
      | refine ar_endD rfl (by kernel_rfl) ?_
      | refine ar_fin rfl ?_
      | refine ar_finD rfl (by kernel_rfl) ?_
      | refine ar_callV Try.call16 hO rfl rfl rfl rfl rfl (by simp; done) (by rfl) (by simp; done) ?_
      | refine ar_callV_if Try.call16 hO rfl rfl rfl rfl rfl rfl (by simp; done) rfl (by rfl) (by simp; done) ?_
      | refine bq_norm ?_
      | refine lq_normN [5, 10, 11, 12] [] (by simp; exact rfl) ⟨i + 1, by omega⟩ (by dsimp only; omega) (by simp [hst])
      | refine ar_go3 _ rfl (by simp [ints_len, ints_getE, intsL_len, intsL_getE, rlsL_len, rlsL_getE, hlt, hd, hx, hw]; exact ⟨rfl, rfl, rfl⟩) rfl ?_
      | refine aw_sregK 3 [5, 10, 11, 12] ?_
      | refine aw_regK 3 [5, 10, 11, 12] ?_
      | refine aw_sregK 4 [5, 10, 11, 12] ?_
      | refine aw_regK 4 [5, 10, 11, 12] ?_
      | refine aw_sregK 5 [5, 7, 10, 11, 12] ?_
      | refine aw_regK 5 [5, 7, 10, 11, 12] ?_
      | refine aw_sregK 6 [5, 10, 11, 12] ?_
      | refine aw_regK 6 [5, 10, 11, 12] ?_
      | refine aw_sreg ?_
      | refine aw_sregD mixed ?_
      | refine aw_ifT (b := true) rfl rfl ?_
      | refine aw_ifF (b := false) rfl rfl ?_
      | refine aw_ifT rfl (by assumption) ?_
      | refine aw_ifF rfl (by assumption) ?_
      | refine aw_ifT rfl (decide_eq_true (by assumption)) ?_
      | refine aw_ifF rfl (decide_eq_false (by assumption)) ?_
      | refine aw_seq ?_
      | refine aw_block ?_
      | refine aw_skip ?_
      | refine aw_region ?_
      | refine aw_region_draw mixed ?_
      | refine aw_exit ?_
      | refine rq_exit ?_
      | refine blockQ_hit ?_
      | refine blockQ_miss (by decide) ?_
      | (refine ar_guard rfl rfl rfl rfl (fun h => ?_) (fun h => ?_) <;> (fail_if_success (cases h; done)) <;> (try simp at h) <;> (try subst h))
      | (refine aw_both rfl (fun h => ?_) (fun h => ?_) <;> (fail_if_success (cases h; done)) <;> (try simp at h) <;> (try subst h)))
  · have hd : ¬(i : Int) < (l.length : Int) := by omega
    have hie : l.take i = l := List.take_of_length_le (by omega)
    rw [hie]
    repeat' (first
      | exact aw_ret (ret_vals (by simp; exact rfl) (by simp [*]; fail_if_success (show _)))
      | exact aw_ret (ret_vals (by simp; exact rfl) (by simp [*]; omega))
      | refine ar_end rfl ?_
      | refine ar_endD rfl (by kernel_rfl) ?_
      | refine ar_fin rfl ?_
      | refine ar_finD rfl (by kernel_rfl) ?_
      | refine lq_exit ?_
      | refine ar_go3 _ rfl (by simp [ints_len, ints_getE, intsL_len, intsL_getE, hd]; exact ⟨rfl, rfl, rfl⟩) rfl ?_
      | refine aw_sregK 3 [5, 10, 11, 12] ?_
      | refine aw_regK 3 [5, 10, 11, 12] ?_
      | refine aw_sregK 7 [5] ?_
      | refine aw_regK 7 [5] ?_
      | refine aw_sreg ?_
      | refine aw_sregD mixed ?_
      | refine aw_ifT (b := true) rfl rfl ?_
      | refine aw_ifF (b := false) rfl rfl ?_
      | refine aw_ifT rfl (by assumption) ?_
      | refine aw_ifF rfl (by assumption) ?_
      | refine aw_ifT rfl (decide_eq_true (by assumption)) ?_
      | refine aw_ifF rfl (decide_eq_false (by assumption)) ?_
      | refine aw_seq ?_
      | refine aw_block ?_
      | refine aw_skip ?_
      | refine aw_region ?_
      | refine aw_region_draw mixed ?_
      | refine aw_exit ?_
      | refine rq_exit ?_
      | refine blockQ_hit ?_
      | refine blockQ_miss (by decide) ?_
      | (refine ar_guard rfl rfl rfl rfl (fun h => ?_) (fun h => ?_) <;> (fail_if_success (cases h; done)) <;> (try simp at h) <;> (try subst h))
      | (refine aw_both rfl (fun h => ?_) (fun h => ?_) <;> (fail_if_success (cases h; done)) <;> (try simp at h) <;> (try subst h)))
def seqUp (y : RL) (x : Wd) : Nat → Wd
  | 0 => 0#32
  | j + 1 => if x.getLsbD j = true then seqUp y x j ||| y.getD j 0#32 else seqUp y x j
set_option maxHeartbeats 16000000 in
theorem c_seq1 {y : RL} {x z : Wd} (hy : y.length ≤ 32) : SCX Try.prog 73 [I .u32 (ub x), I .u32 (ub z), .ptr (.ext 0) 0] [(.ext 0, some (.box 25 [.pv (.sl 1 (rl y))]))] (I .u32 (ub (seqUp y x y.length))) [(.ext 0, some (.box 25 [.pv (.sl 1 (rl y))]))] := by
  refine scx_of Try.func73 rfl rfl rfl (Nat.le_of_ble_eq_true rfl) ?_
  repeat' (first
    | refine ar_end rfl ?_
    | refine ar_endD rfl (by kernel_rfl) ?_
    | refine ar_fin rfl ?_
    | refine ar_finD rfl (by kernel_rfl) ?_
    | refine ar_go3 _ rfl (by simp [rl_len, rl_getE, rl_set, rl_nil, List.length_set, List.getElem_set, IntKind.bits, ub_shl1', ub_shr, ub_or, ub_and, ub_andNot, ub_bit, Int.toNat_natCast, ub_zero]; exact ⟨rfl, rfl, rfl⟩) rfl ?_
    | refine aw_sregK 0 [0, 2] ?_
    | refine aw_regK 0 [0, 2] ?_
    | refine aw_sregK 1 [0, 2] ?_
    | refine aw_regK 1 [0, 2] ?_
    | refine aw_sregK 2 [0, 2, 6] ?_
    | refine aw_regK 2 [0, 2, 6] ?_
    | refine aw_sreg ?_
    | refine aw_sregD mixed ?_
    | refine aw_ifT (b := true) rfl rfl ?_
    | refine aw_ifF (b := false) rfl rfl ?_
    | refine aw_ifT rfl (by assumption) ?_
    | refine aw_ifF rfl (by assumption) ?_
    | refine aw_ifT rfl (decide_eq_true (by assumption)) ?_
    | refine aw_ifF rfl (decide_eq_false (by assumption)) ?_
    | refine aw_seq ?_
    | refine aw_block ?_
    | refine aw_skip ?_
    | refine aw_region ?_
    | refine aw_region_draw mixed ?_
    | refine aw_exit ?_
    | refine rq_exit ?_
    | refine blockQ_hit ?_
    | refine blockQ_miss (by decide) ?_
    | (refine ar_guard rfl rfl rfl rfl (fun h => ?_) (fun h => ?_) <;> (fail_if_success (cases h; done)) <;> (try simp at h) <;> (try subst h))
    | (refine aw_both rfl (fun h => ?_) (fun h => ?_) <;> (fail_if_success (cases h; done)) <;> (try simp at h) <;> (try subst h)))
  refine aw_loopN [0, 2, 6, 9, 10] [.ext 0] (by simp; exact rfl) (ι := {i : Nat // i ≤ y.length}) (fun i => ⟨27, [(0, I .u32 (ub x)), (2, .ptr (.ext 0) 0), (6, I .u32 (ub (seqUp y x i.1))), (9, I .i64 y.length), (10, I .i64 i.1)], [(.ext 0, some (.box 25 [.pv (.sl 1 (rl y))]))]⟩) (fun i => y.length - i.1) ⟨0, by omega⟩ (by simp [seqUp, ub_zero, rl_len]) ?_
  rintro ⟨i, hi⟩
  by_cases hlt : i < y.length
  · have hw : IntKind.wrap .i64 ((i : Int) + 1) = (i : Int) + 1 := wrap64s (by omega) (by omega)
    have hwu := wrap64u (n := i) (by omega)
    have hd : (i : Int) < (y.length : Int) := by omega
    have hst : seqUp y x (i + 1) = if x.getLsbD i = true then seqUp y x i ||| y.getD i 0#32 else seqUp y x i := rfl
    rw [getD_in _ _ hlt] at hst
    generalize seqUp y x i = R at *
    generalize hv : y[i] = v at *
    cases hb : x.getLsbD i
    · rw [hb, if_neg (by decide)] at hst
      repeat' (first
        | refine ar_end rfl ?_
        | refine ar_endD rfl (by kernel_rfl) ?_
        | refine ar_fin rfl ?_
        | refine ar_finD rfl (by kernel_rfl) ?_
        | refine bq_norm ?_
        | refine lq_normN [0, 2, 6, 9, 10] [.ext 0] (by simp; exact rfl) ⟨i + 1, by omega⟩ (by dsimp only; omega) (by simp [hst])
        | refine ar_go3 _ rfl (by simp [rl_len, rl_getE, rl_set, rl_nil, List.length_set, List.getElem_set, IntKind.bits, ub_shl1', ub_shr, ub_or, ub_and, ub_andNot, ub_bit, Int.toNat_natCast, ub_zero, hlt, hd, hv, hb, hw, hwu]; exact ⟨rfl, rfl, rfl⟩) rfl ?_
        | refine aw_sregK 3 [0, 2, 6, 9, 10] ?_
        | refine aw_regK 3 [0, 2, 6, 9, 10] ?_
        | refine aw_sregK 4 [0, 2, 6, 9, 10] ?_
        | refine aw_regK 4 [0, 2, 6, 9, 10] ?_
        | refine aw_sregK 5 [0, 2, 6, 7, 9, 10] ?_
        | refine aw_regK 5 [0, 2, 6, 7, 9, 10] ?_
        | refine aw_sregK 6 [0, 2, 6, 7, 9, 10] ?_
        | refine aw_regK 6 [0, 2, 6, 7, 9, 10] ?_
        | refine aw_sregK 7 [0, 2, 6, 9, 10] ?_
        | refine aw_regK 7 [0, 2, 6, 9, 10] ?_
        | refine aw_sreg ?_
        | refine aw_sregD mixed ?_
        | refine aw_ifT (b := true) rfl rfl ?_
        | refine aw_ifF (b := false) rfl rfl ?_
        | refine aw_ifT rfl (by assumption) ?_
        | refine aw_ifF rfl (by assumption) ?_
        | refine aw_ifT rfl (decide_eq_true (by assumption)) ?_
        | refine aw_ifF rfl (decide_eq_false (by assumption)) ?_
        | refine aw_seq ?_
        | refine aw_block ?_
        | refine aw_skip ?_
        | refine aw_region ?_
        | refine aw_region_draw mixed ?_
        | refine aw_exit ?_
        | refine rq_exit ?_
        | refine blockQ_hit ?_
        | refine blockQ_miss (by decide) ?_
        | (refine ar_guard rfl rfl rfl rfl (fun h => ?_) (fun h => ?_) <;> (fail_if_success (cases h; done)) <;> (try simp at h) <;> (try subst h))
        | (refine aw_both rfl (fun h => ?_) (fun h => ?_) <;> (fail_if_success (cases h; done)) <;> (try simp at h) <;> (try subst h)))
    · rw [hb, if_pos rfl] at hst
      repeat' (first
        | refine ar_end rfl ?_
        | refine ar_endD rfl (by kernel_rfl) ?_
        | refine ar_fin rfl ?_
        | refine ar_finD rfl (by kernel_rfl) ?_
        | refine bq_norm ?_
        | refine lq_normN [0, 2, 6, 9, 10] [.ext 0] (by simp; exact rfl) ⟨i + 1, by omega⟩ (by dsimp only; omega) (by simp [hst])
        | refine ar_go3 _ rfl (by simp [rl_len, rl_getE, rl_set, rl_nil, List.length_set, List.getElem_set, IntKind.bits, ub_shl1', ub_shr, ub_or, ub_and, ub_andNot, ub_bit, Int.toNat_natCast, ub_zero, hlt, hd, hv, hb, hw, hwu]; exact ⟨rfl, rfl, rfl⟩) rfl ?_
        | refine aw_sregK 3 [0, 2, 6, 9, 10] ?_
        | refine aw_regK 3 [0, 2, 6, 9, 10] ?_
        | refine aw_sregK 4 [0, 2, 6, 9, 10] ?_
        | refine aw_regK 4 [0, 2, 6, 9, 10] ?_
        | refine aw_sregK 5 [0, 2, 6, 7, 9, 10] ?_
        | refine aw_regK 5 [0, 2, 6, 7, 9, 10] ?_
        | refine aw_sregK 6 [0, 2, 6, 7, 9, 10] ?_
        | refine aw_regK 6 [0, 2, 6, 7, 9, 10] ?_
        | refine aw_sregK 7 [0, 2, 6, 9, 10] ?_
        | refine aw_regK 7 [0, 2, 6, 9, 10] ?_
        | refine aw_sreg ?_
        | refine aw_sregD mixed ?_
        | refine aw_ifT (b := true) rfl rfl ?_
        | refine aw_ifF (b := false) rfl rfl ?_
        | refine aw_ifT rfl (by assumption) ?_
        | refine aw_ifF rfl (by assumption) ?_
        | refine aw_ifT rfl (decide_eq_true (by assumption)) ?_
        | refine aw_ifF rfl (decide_eq_false (by assumption)) ?_
        | refine aw_seq ?_
        | refine aw_block ?_
        | refine aw_skip ?_
        | refine aw_region ?_
        | refine aw_region_draw mixed ?_
        | refine aw_exit ?_
        | refine rq_exit ?_
        | refine blockQ_hit ?_
        | refine blockQ_miss (by decide) ?_
        | (refine ar_guard rfl rfl rfl rfl (fun h => ?_) (fun h => ?_) <;> (fail_if_success (cases h; done)) <;> (try simp at h) <;> (try subst h))
        | (refine aw_both rfl (fun h => ?_) (fun h => ?_) <;> (fail_if_success (cases h; done)) <;> (try simp at h) <;> (try subst h)))
  · have hd : ¬(i : Int) < (y.length : Int) := by omega
    have hie : i = y.length := by omega
    subst hie
    repeat' (first
      | refine ar_end rfl ?_
      | refine ar_endD rfl (by kernel_rfl) ?_
      | refine ar_fin rfl ?_
      | refine ar_finD rfl (by kernel_rfl) ?_
      | refine lq_exit ?_
      | exact aw_ret (ret_rens .ret (.inr rfl) [] [.ext 0] (by simp; exact rfl) (by simp; exact rfl) (by simp []; fail_if_success (show _)) (by simp []; fail_if_success (show _)) (by simp))
      | refine ar_go3 _ rfl (by simp [rl_len, rl_getE, rl_set, rl_nil, List.length_set, List.getElem_set, IntKind.bits, ub_shl1', ub_shr, ub_or, ub_and, ub_andNot, ub_bit, Int.toNat_natCast, ub_zero, hd]; exact ⟨rfl, rfl, rfl⟩) rfl ?_
      | refine aw_sregK 3 [0, 2, 6, 9, 10] ?_
      | refine aw_regK 3 [0, 2, 6, 9, 10] ?_
      | refine aw_sregK 8 [6] ?_
      | refine aw_regK 8 [6] ?_
      | refine aw_sreg ?_
      | refine aw_sregD mixed ?_
      | refine aw_ifT (b := true) rfl rfl ?_
      | refine aw_ifF (b := false) rfl rfl ?_
      | refine aw_ifT rfl (by assumption) ?_
      | refine aw_ifF rfl (by assumption) ?_
      | refine aw_ifT rfl (decide_eq_true (by assumption)) ?_
      | refine aw_ifF rfl (decide_eq_false (by assumption)) ?_
      | refine aw_seq ?_
      | refine aw_block ?_
      | refine aw_skip ?_
      | refine aw_region ?_
      | refine aw_region_draw mixed ?_
      | refine aw_exit ?_
      | refine rq_exit ?_
      | refine blockQ_hit ?_
      | refine blockQ_miss (by decide) ?_
      | (refine ar_guard rfl rfl rfl rfl (fun h => ?_) (fun h => ?_) <;> (fail_if_success (cases h; done)) <;> (try simp at h) <;> (try subst h))
      | (refine aw_both rfl (fun h => ?_) (fun h => ?_) <;> (fail_if_success (cases h; done)) <;> (try simp at h) <;> (try subst h)))
set_option maxHeartbeats 16000000 in
theorem c_bothC {g : FuncId} {f : Wd → Wd → Wd} {T : TypeId} {p : PV} (hent : Enters Try.prog g) (hg : ∀ x y, SCX Try.prog g [I .u32 (ub x), I .u32 (ub y), .ptr (.ext 0) 0] [(.ext 0, some (.box T [.pv p]))] (I .u32 (ub (f x y))) [(.ext 0, some (.box T [.pv p]))]) {a b : RL} (ha : a.length ≤ maxLen) (hb : b.length ≤ maxLen) : SCX Try.prog 51 [.pv (.sl 1 (rl a)), .pv (.sl 1 (rl b)), .fn g [] [.ptr (.ext 0) 0]] [(.ext 0, some (.box T [.pv p]))] (.pv (.sl 1 (rl (bothR f a b)))) [(.ext 0, some (.box T [.pv p]))] := by
  have hA := c_clean ha
  have hB := c_cleanV hb
  have hal := clean_le a
  unfold bothR
  generalize cleanR a = x at *
  generalize cleanR b = y at *
  by_cases hl : x.length = y.length
  · rw [if_pos hl]
    have hc : ¬((x.length : Int) ≠ (y.length : Int)) := by omega
    generalize hz : List.zipWith f x y = z
    have hzl : z.length = x.length := by rw [← hz]; simp; omega
    refine scx_of Try.func51 rfl rfl rfl (Nat.le_of_ble_eq_true rfl) ?_
    repeat' (first
      | refine ar_end rfl ?_
      | refine ar_endD rfl (by kernel_rfl) ?_
      | refine ar_fin rfl ?_
      | refine ar_finD rfl (by kernel_rfl) ?_
      | refine ar_callV Try.call54 hB rfl rfl rfl rfl rfl (by simp; done) (by rfl) (by simp; done) ?_
      | refine ar_callV_if Try.call54 hB rfl rfl rfl rfl rfl rfl (by simp; done) rfl (by rfl) (by simp; done) ?_
      | refine ar_callO Try.call54 hA rfl rfl rfl rfl (by simp; exact rfl) rfl (by simp; done) (by rfl) rfl ?_
      | refine ar_go3 _ rfl (by simp [rl_len, rl_getE, rl_set, rl_nil, List.length_set, List.getElem_set, IntKind.bits, ub_shl1', ub_shr, ub_or, ub_and, ub_andNot, ub_bit, Int.toNat_natCast, ub_zero, hl]; exact ⟨rfl, rfl, rfl⟩) rfl ?_
      | refine aw_sregK 0 [0, 1, 2] ?_
      | refine aw_regK 0 [0, 1, 2] ?_
      | refine aw_sregK 1 [0, 1, 2] ?_
      | refine aw_regK 1 [0, 1, 2] ?_
      | refine aw_sregK 2 [2, 7, 8] ?_
      | refine aw_regK 2 [2, 7, 8] ?_
      | refine aw_sregK 3 [] ?_
      | refine aw_regK 3 [] ?_
      | refine aw_sregK 4 [2, 7, 8] ?_
      | refine aw_regK 4 [2, 7, 8] ?_
      | refine aw_sregK 5 [2, 7, 8, 21, 22] ?_
      | refine aw_regK 5 [2, 7, 8, 21, 22] ?_
      | refine aw_sreg ?_
      | refine aw_sregD mixed ?_
      | refine aw_ifT (b := true) rfl rfl ?_
      | refine aw_ifF (b := false) rfl rfl ?_
      | refine aw_ifT rfl (by assumption) ?_
      | refine aw_ifF rfl (by assumption) ?_
      | refine aw_ifT rfl (decide_eq_true (by assumption)) ?_
      | refine aw_ifF rfl (decide_eq_false (by assumption)) ?_
      | refine aw_seq ?_
      | refine aw_block ?_
      | refine aw_skip ?_
      | refine aw_region ?_
      | refine aw_region_draw mixed ?_
      | refine aw_exit ?_
      | refine rq_exit ?_
      | refine blockQ_hit ?_
      | refine blockQ_miss (by decide) ?_
      | (refine ar_guard rfl rfl rfl rfl (fun h => ?_) (fun h => ?_) <;> (fail_if_success (cases h; done)) <;> (try simp at h) <;> (try subst h))
      | (refine aw_both rfl (fun h => ?_) (fun h => ?_) <;> (fail_if_success (cases h; done)) <;> (try simp at h) <;> (try subst h)))
    refine aw_loopN [2, 7, 8, 21, 22] [.loc 11, .ext 0] (by simp; exact rfl) (ι := {i : Nat // i ≤ x.length}) (fun i => ⟨40, [(2, .fn g [] [.ptr (.ext 0) 0]), (7, .own (.loc 11)), (8, .pv (.sl 1 (rl y))), (21, I .i64 x.length), (22, I .i64 i.1)], [(.loc 11, some (.own 33 1 (rl (mixR x z i.1)))), (.ext 0, some (.box T [.pv p]))]⟩) (fun i => x.length - i.1) ⟨0, by omega⟩ (by simp [mix_zero, rl_len, hl]) ?_
    rintro ⟨i, hi⟩
    by_cases hlt : i < x.length
    · have hw : IntKind.wrap .i64 ((i : Int) + 1) = (i : Int) + 1 := wrap64s (by omega) (by omega)
      have hd : (i : Int) < (x.length : Int) := by omega
      have hml := mix_len (i := i) hzl (by omega)
      have hmg : ∀ h, (mixR x z i)[i]'h = x[i] := fun h => mix_get (i := i) hzl hlt
      have hly : i < y.length := by omega
      have hms := mix_set (b := f x[i] y[i]) hzl hlt (by simp [← hz])
      generalize mixR x z i = m at hml hms hmg
      have hlm : i < m.length := by omega
      generalize x[i] = u at hmg hms
      generalize hyi : y[i] = q at hms
      have hG := hg u q
      repeat' (first
        | refine ar_end rfl ?_
        | refine ar_endD rfl (by kernel_rfl) ?_
        | refine ar_fin rfl ?_
        | refine ar_finD rfl (by kernel_rfl) ?_
        | refine ar_callE [.ext 0] [.ext 0] [] hent hG rfl rfl rfl rfl (by simp; exact rfl) rfl (by simp; done) (by rfl) (by simp; fail_if_success (show _)) rfl ⟨by simp, by simp, (by simp [okY]; fail_if_success (show _)), by simp, by simp⟩ (by simp; fail_if_success (show _)) ?_
        | refine bq_norm ?_
        | refine lq_normN [2, 7, 8, 21, 22] [.loc 11, .ext 0] (by simp; exact rfl) ⟨i + 1, by omega⟩ (by dsimp only; omega) (by simp [hms])
        | refine ar_go3 _ rfl (by simp [rl_len, rl_getE, rl_set, rl_nil, List.length_set, List.getElem_set, IntKind.bits, ub_shl1', ub_shr, ub_or, ub_and, ub_andNot, ub_bit, Int.toNat_natCast, ub_zero, hlt, hlm, hly, hd, hmg, hyi, hw]; exact ⟨rfl, rfl, rfl⟩) rfl ?_
        | refine aw_sregK 0 [0, 1, 2] ?_
        | refine aw_regK 0 [0, 1, 2] ?_
        | refine aw_sregK 1 [0, 1, 2] ?_
        | refine aw_regK 1 [0, 1, 2] ?_
        | refine aw_sregK 2 [2, 7, 8] ?_
        | refine aw_regK 2 [2, 7, 8] ?_
        | refine aw_sregK 3 [] ?_
        | refine aw_regK 3 [] ?_
        | refine aw_sregK 4 [2, 7, 8] ?_
        | refine aw_regK 4 [2, 7, 8] ?_
        | refine aw_sregK 5 [2, 7, 8, 21, 22] ?_
        | refine aw_regK 5 [2, 7, 8, 21, 22] ?_
        | refine aw_sregK 6 [2, 7, 8, 21, 22] ?_
        | refine aw_regK 6 [2, 7, 8, 21, 22] ?_
        | refine aw_sregKD mixed 7 [2, 7, 8, 9, 21, 22] (by simp; exact rfl) ?_
        | refine aw_regKD mixed 7 [2, 7, 8, 9, 21, 22] (by simp; exact rfl) ?_
        | refine aw_sregK 8 [2, 7, 8, 21, 22] ?_
        | refine aw_regK 8 [2, 7, 8, 21, 22] ?_
        | refine aw_sregK 9 [7] ?_
        | refine aw_regK 9 [7] ?_
        | refine aw_sreg ?_
        | refine aw_sregD mixed ?_
        | refine aw_ifT (b := true) rfl rfl ?_
        | refine aw_ifF (b := false) rfl rfl ?_
        | refine aw_ifT rfl (by assumption) ?_
        | refine aw_ifF rfl (by assumption) ?_
        | refine aw_ifT rfl (decide_eq_true (by assumption)) ?_
        | refine aw_ifF rfl (decide_eq_false (by assumption)) ?_
        | refine aw_seq ?_
        | refine aw_block ?_
        | refine aw_skip ?_
        | refine aw_region ?_
        | refine aw_region_draw mixed ?_
        | refine aw_exit ?_
        | refine rq_exit ?_
        | refine blockQ_hit ?_
        | refine blockQ_miss (by decide) ?_
        | (refine ar_guard rfl rfl rfl rfl (fun h => ?_) (fun h => ?_) <;> (fail_if_success (cases h; done)) <;> (try simp at h) <;> (try subst h))
        | (refine aw_both rfl (fun h => ?_) (fun h => ?_) <;> (fail_if_success (cases h; done)) <;> (try simp at h) <;> (try subst h)))
    · have hd : ¬(i : Int) < (x.length : Int) := by omega
      have hie : i = x.length := by omega
      have hme := mix_end hzl
      subst hie
      rw [hme]
      refine aw_frz (.loc 11) (by simp; exact rfl) ?_
      repeat' (first
        | refine ar_end rfl ?_
        | refine ar_endD rfl (by kernel_rfl) ?_
        | refine ar_fin rfl ?_
        | refine ar_finD rfl (by kernel_rfl) ?_
        | refine lq_exit ?_
        | exact aw_ret (ret_rens .ret (.inr rfl) [] [.ext 0] (by simp; exact rfl) (by simp; exact rfl) (by simp [hme]; fail_if_success (show _)) (by simp [hme]; fail_if_success (show _)) (by simp))
        | refine ar_go3 _ rfl (by simp [rl_len, rl_getE, rl_set, rl_nil, List.length_set, List.getElem_set, IntKind.bits, ub_shl1', ub_shr, ub_or, ub_and, ub_andNot, ub_bit, Int.toNat_natCast, ub_zero, hd]; exact ⟨rfl, rfl, rfl⟩) rfl ?_
        | refine aw_sregK 0 [0, 1, 2] ?_
        | refine aw_regK 0 [0, 1, 2] ?_
        | refine aw_sregK 1 [0, 1, 2] ?_
        | refine aw_regK 1 [0, 1, 2] ?_
        | refine aw_sregK 2 [2, 7, 8] ?_
        | refine aw_regK 2 [2, 7, 8] ?_
        | refine aw_sregK 3 [] ?_
        | refine aw_regK 3 [] ?_
        | refine aw_sregK 4 [2, 7, 8] ?_
        | refine aw_regK 4 [2, 7, 8] ?_
        | refine aw_sregK 5 [2, 7, 8, 21, 22] ?_
        | refine aw_regK 5 [2, 7, 8, 21, 22] ?_
        | refine aw_sregK 6 [2, 7, 8, 21, 22] ?_
        | refine aw_regK 6 [2, 7, 8, 21, 22] ?_
        | refine aw_sregKD mixed 7 [2, 7, 8, 9, 21, 22] (by simp; exact rfl) ?_
        | refine aw_regKD mixed 7 [2, 7, 8, 9, 21, 22] (by simp; exact rfl) ?_
        | refine aw_sregK 8 [2, 7, 8, 21, 22] ?_
        | refine aw_regK 8 [2, 7, 8, 21, 22] ?_
        | refine aw_sregK 9 [7] ?_
        | refine aw_regK 9 [7] ?_
        | refine aw_sreg ?_
        | refine aw_sregD mixed ?_
        | refine aw_ifT (b := true) rfl rfl ?_
        | refine aw_ifF (b := false) rfl rfl ?_
        | refine aw_ifT rfl (by assumption) ?_
        | refine aw_ifF rfl (by assumption) ?_
        | refine aw_ifT rfl (decide_eq_true (by assumption)) ?_
        | refine aw_ifF rfl (decide_eq_false (by assumption)) ?_
        | refine aw_seq ?_
        | refine aw_block ?_
        | refine aw_skip ?_
        | refine aw_region ?_
        | refine aw_region_draw mixed ?_
        | refine aw_exit ?_
        | refine rq_exit ?_
        | refine blockQ_hit ?_
        | refine blockQ_miss (by decide) ?_
        | (refine ar_guard rfl rfl rfl rfl (fun h => ?_) (fun h => ?_) <;> (fail_if_success (cases h; done)) <;> (try simp at h) <;> (try subst h))
        | (refine aw_both rfl (fun h => ?_) (fun h => ?_) <;> (fail_if_success (cases h; done)) <;> (try simp at h) <;> (try subst h)))
  · rw [if_neg hl]
    have hc : ¬(x.length : Int) = (y.length : Int) := by omega
    refine scx_of Try.func51 rfl rfl rfl (Nat.le_of_ble_eq_true rfl) ?_
    repeat' (first
      | refine ar_end rfl ?_
      | refine ar_endD rfl (by kernel_rfl) ?_
      | refine ar_fin rfl ?_
      | refine ar_finD rfl (by kernel_rfl) ?_
      | refine ar_callV Try.call54 hB rfl rfl rfl rfl rfl (by simp; done) (by rfl) (by simp; done) ?_
      | refine ar_callV_if Try.call54 hB rfl rfl rfl rfl rfl rfl (by simp; done) rfl (by rfl) (by simp; done) ?_
      | refine ar_callO Try.call54 hA rfl rfl rfl rfl (by simp; exact rfl) rfl (by simp; done) (by rfl) rfl ?_
      | refine ar_go3 _ rfl (by simp [rl_len, rl_getE, rl_set, rl_nil, List.length_set, List.getElem_set, IntKind.bits, ub_shl1', ub_shr, ub_or, ub_and, ub_andNot, ub_bit, Int.toNat_natCast, ub_zero, hl, hc]; exact ⟨rfl, rfl, rfl⟩) rfl ?_
      | refine aw_sregK 0 [0, 1, 2] ?_
      | refine aw_regK 0 [0, 1, 2] ?_
      | refine aw_sregK 1 [0, 1, 2] ?_
      | refine aw_regK 1 [0, 1, 2] ?_
      | refine aw_sregK 2 [2, 7, 8] ?_
      | refine aw_regK 2 [2, 7, 8] ?_
      | refine aw_sregK 3 [] ?_
      | refine aw_regK 3 [] ?_
      | refine aw_sregK 4 [2, 7, 8] ?_
      | refine aw_regK 4 [2, 7, 8] ?_
      | refine aw_sregK 5 [2, 7, 8, 21, 22] ?_
      | refine aw_regK 5 [2, 7, 8, 21, 22] ?_
      | refine aw_sregK 6 [2, 7, 8, 21, 22] ?_
      | refine aw_regK 6 [2, 7, 8, 21, 22] ?_
      | refine aw_sregKD mixed 7 [2, 7, 8, 9, 21, 22] (by simp; exact rfl) ?_
      | refine aw_regKD mixed 7 [2, 7, 8, 9, 21, 22] (by simp; exact rfl) ?_
      | refine aw_sregK 8 [2, 7, 8, 21, 22] ?_
      | refine aw_regK 8 [2, 7, 8, 21, 22] ?_
      | refine aw_sregK 9 [7] ?_
      | refine aw_regK 9 [7] ?_
      | refine aw_sreg ?_
      | refine aw_sregD mixed ?_
      | refine aw_ifT (b := true) rfl rfl ?_
      | refine aw_ifF (b := false) rfl rfl ?_
      | refine aw_ifT rfl (by assumption) ?_
      | refine aw_ifF rfl (by assumption) ?_
      | refine aw_ifT rfl (decide_eq_true (by assumption)) ?_
      | refine aw_ifF rfl (decide_eq_false (by assumption)) ?_
      | refine aw_seq ?_
      | refine aw_block ?_
      | refine aw_skip ?_
      | refine aw_region ?_
      | refine aw_region_draw mixed ?_
      | refine aw_exit ?_
      | refine rq_exit ?_
      | refine blockQ_hit ?_
      | refine blockQ_miss (by decide) ?_
      | (refine ar_guard rfl rfl rfl rfl (fun h => ?_) (fun h => ?_) <;> (fail_if_success (cases h; done)) <;> (try simp at h) <;> (try subst h))
      | (refine aw_both rfl (fun h => ?_) (fun h => ?_) <;> (fail_if_success (cases h; done)) <;> (try simp at h) <;> (try subst h)))
    refine aw_frz (.loc 19) (by simp; exact rfl) ?_
    exact aw_ret (ret_rens .ret (.inr rfl) [] [.ext 0] (by simp; exact rfl) (by simp; exact rfl) (by simp [rl_nil]; fail_if_success (show _)) (by simp [rl_nil]; fail_if_success (show _)) (by simp))
def seqR (a b : RL) : RL := bothR (fun x _ => seqUp (cleanR b) x (cleanR b).length) a b
set_option maxHeartbeats 16000000 in
theorem c_seq {a b : RL} (ha : a.length ≤ maxLen) (hb : b.length ≤ maxLen) : SC Try.prog 45 [.pv (.sl 1 (rl a)), .pv (.sl 1 (rl b))] (.pv (.sl 1 (rl (seqR a b)))) := by
  have hB := c_cleanV hb
  have hcl := clean_le b
  unfold seqR
  have hM := c_bothC (g := 73) (T := 25) (p := .sl 1 (rl (cleanR b))) (f := fun x _ => seqUp (cleanR b) x (cleanR b).length) Try.call73 (fun x z => c_seq1 (y := cleanR b) (x := x) (z := z) hcl) ha hb
  generalize bothR (fun x _ => seqUp (cleanR b) x (cleanR b).length) a b = Z at *
  generalize cleanR b = y at *
  refine scx_of Try.func45 rfl rfl rfl (Nat.le_of_ble_eq_true rfl) ?_
  repeat' (first
    | exact aw_ret (ret_vals (by simp; exact rfl) (by simp [*]; fail_if_success (show _)))
    | exact aw_ret (ret_vals (by simp; exact rfl) (by simp [*]; omega))
    | refine ar_end rfl ?_
    | refine ar_endD rfl (by kernel_rfl) ?_
    | refine ar_fin rfl ?_
    | refine ar_finD rfl (by kernel_rfl) ?_
    | refine ar_callV Try.call54 hB rfl rfl rfl rfl rfl (by simp; done) (by rfl) (by simp; done) ?_
    | refine ar_callV_if Try.call54 hB rfl rfl rfl rfl rfl rfl (by simp; done) rfl (by rfl) (by simp; done) ?_
    | refine ar_callE [.loc 5] [.loc 5] [] Try.call51 hM rfl rfl rfl rfl (by simp; exact rfl) rfl (by simp; done) (by rfl) (by simp; fail_if_success (show _)) rfl ⟨by simp, by simp, (by simp [okY]; fail_if_success (show _)), by simp, by simp⟩ (by simp; fail_if_success (show _)) ?_
    | refine ar_go3 _ rfl (by simp [*]; exact ⟨rfl, rfl, rfl⟩) rfl ?_
    | refine aw_sregK 0 [0, 1] ?_
    | refine aw_regK 0 [0, 1] ?_
    | refine aw_sregK 1 [0, 1] ?_
    | refine aw_regK 1 [0, 1] ?_
    | refine aw_sregK 2 [0, 1, 5] ?_
    | refine aw_regK 2 [0, 1, 5] ?_
    | refine aw_sreg ?_
    | refine aw_sregD mixed ?_
    | refine aw_ifT (b := true) rfl rfl ?_
    | refine aw_ifF (b := false) rfl rfl ?_
    | refine aw_ifT rfl (by assumption) ?_
    | refine aw_ifF rfl (by assumption) ?_
    | refine aw_ifT rfl (decide_eq_true (by assumption)) ?_
    | refine aw_ifF rfl (decide_eq_false (by assumption)) ?_
    | refine aw_seq ?_
    | refine aw_block ?_
    | refine aw_skip ?_
    | refine aw_region ?_
    | refine aw_region_draw mixed ?_
    | refine aw_exit ?_
    | refine rq_exit ?_
    | refine blockQ_hit ?_
    | refine blockQ_miss (by decide) ?_
    | (refine ar_guard rfl rfl rfl rfl (fun h => ?_) (fun h => ?_) <;> (fail_if_success (cases h; done)) <;> (try simp at h) <;> (try subst h))
    | (refine aw_both rfl (fun h => ?_) (fun h => ?_) <;> (fail_if_success (cases h; done)) <;> (try simp at h) <;> (try subst h)))
def comR (es : List Ev) (fm : List Int) (co : RL) : RL := unionR es.length [rfR es fm, co, frR es fm co]
set_option maxHeartbeats 16000000 in
theorem c_com {es : List Ev} {fm : List Int} {co : RL} (h32 : es.length ≤ 32) (hl : fm.length ≤ 1000000) (hc : co.length ≤ maxLen) : SC Try.prog 47 [.agg (exL es), .pv (.sl 1 (ints fm)), .pv (.sl 1 (rl co))] (.pv (.sl 1 (rl (comR es fm co)))) := by
  have hR := c_rf (es := es) (fm := fm) h32 hl
  have hF := c_fr (es := es) (fm := fm) (co := co) h32
  have hrl : (rfR es fm).length = es.length := (rfUp_cl h32 fm _).len
  have hfl : (frR es fm co).length = es.length := (fr_len h32 _).len
  have hml : maxLen = 9223372036854775807 := rfl
  unfold comR
  generalize rfR es fm = R at *
  generalize frR es fm co = F at *
  have hU := c_union (n := es.length) (l := [R, co, F]) h32 (by simp) (by
    intro r hr
    simp only [List.mem_cons, List.not_mem_nil, or_false] at hr
    rcases hr with rfl | rfl | rfl
    · omega
    · exact hc
    · omega)
  simp only [rlsL, List.map_cons, List.map_nil] at hU
  generalize unionR es.length [R, co, F] = Z at *
  refine scx_of Try.func47 rfl rfl rfl (Nat.le_of_ble_eq_true rfl) ?_
  repeat' (first
    | exact aw_ret (ret_vals (by simp; exact rfl) (by simp [*]; fail_if_success (show _)))
    | exact aw_ret (ret_vals (by simp; exact rfl) (by simp [*]; omega))
    | refine ar_end rfl ?_
    | refine ar_endD rfl (by kernel_rfl) ?_
    | refine ar_fin rfl ?_
    | refine ar_finD rfl (by kernel_rfl) ?_
    | refine ar_callV Try.call48 hR rfl rfl rfl rfl rfl (by simp; done) (by rfl) (by simp; done) ?_
    | refine ar_callV_if Try.call48 hR rfl rfl rfl rfl rfl rfl (by simp; done) rfl (by rfl) (by simp; done) ?_
    | refine ar_callV Try.call44 hF rfl rfl rfl rfl rfl (by simp; done) (by rfl) (by simp; done) ?_
    | refine ar_callV_if Try.call44 hF rfl rfl rfl rfl rfl rfl (by simp; done) rfl (by rfl) (by simp; done) ?_
    | refine ar_callV Try.call74 hU rfl rfl rfl rfl rfl (by simp; done) (by rfl) (by simp; done) ?_
    | refine ar_callV_if Try.call74 hU rfl rfl rfl rfl rfl rfl (by simp; done) rfl (by rfl) (by simp; done) ?_
    | refine ar_frzV Try.call74 hU rfl rfl rfl rfl (by simp; exact rfl) (by simp; fail_if_success (show _)) (by simp; exact rfl) rfl (by simp; done) (by first | (simp; done) | (simp; exact rfl)) ⟨by rfl, by rfl, by rfl⟩ ?_
    | refine ar_go3 _ rfl (by simp [evsL_len, evsL_getE, evL, prs_len, prs_getE]; exact ⟨rfl, rfl, rfl⟩) rfl ?_
    | refine aw_sregK 0 [0, 1, 2] ?_
    | refine aw_regK 0 [0, 1, 2] ?_
    | refine aw_sregKD mixed 1 [1, 2, 3] (by simp; exact rfl) ?_
    | refine aw_regKD mixed 1 [1, 2, 3] (by simp; exact rfl) ?_
    | refine aw_sreg ?_
    | refine aw_sregD mixed ?_
    | refine aw_ifT (b := true) rfl rfl ?_
    | refine aw_ifF (b := false) rfl rfl ?_
    | refine aw_ifT rfl (by assumption) ?_
    | refine aw_ifF rfl (by assumption) ?_
    | refine aw_ifT rfl (decide_eq_true (by assumption)) ?_
    | refine aw_ifF rfl (decide_eq_false (by assumption)) ?_
    | refine aw_seq ?_
    | refine aw_block ?_
    | refine aw_skip ?_
    | refine aw_region ?_
    | refine aw_region_draw mixed ?_
    | refine aw_exit ?_
    | refine rq_exit ?_
    | refine blockQ_hit ?_
    | refine blockQ_miss (by decide) ?_
    | (refine ar_guard rfl rfl rfl rfl (fun h => ?_) (fun h => ?_) <;> (fail_if_success (cases h; done)) <;> (try simp at h) <;> (try subst h))
    | (refine aw_both rfl (fun h => ?_) (fun h => ?_) <;> (fail_if_success (cases h; done)) <;> (try simp at h) <;> (try subst h)))
def obsR (es : List Ev) (fm : List Int) (co : RL) : RL := outerR es (comR es fm co)
set_option maxHeartbeats 16000000 in
theorem c_obs {es : List Ev} {fm : List Int} {co : RL} (h32 : es.length ≤ 32) (hl : fm.length ≤ 1000000) (hc : co.length ≤ maxLen) : SC Try.prog 46 [.agg (exL es), .pv (.sl 1 (ints fm)), .pv (.sl 1 (rl co))] (.pv (.sl 1 (rl (obsR es fm co)))) := by
  have hC := c_com (es := es) (fm := fm) (co := co) h32 hl hc
  have hO := c_outer (es := es) (r := comR es fm co) (by unfold comR unionR; exact both_le _ _ _) h32
  unfold obsR
  generalize comR es fm co = Z at *
  refine scx_of Try.func46 rfl rfl rfl (Nat.le_of_ble_eq_true rfl) ?_
  repeat' (first
    | exact aw_ret (ret_vals (by simp; exact rfl) (by simp [*]; fail_if_success (show _)))
    | exact aw_ret (ret_vals (by simp; exact rfl) (by simp [*]; omega))
    | refine ar_end rfl ?_
    | refine ar_endD rfl (by kernel_rfl) ?_
    | refine ar_fin rfl ?_
    | refine ar_finD rfl (by kernel_rfl) ?_
    | refine ar_callV Try.call47 hC rfl rfl rfl rfl rfl (by simp; done) (by rfl) (by simp; done) ?_
    | refine ar_callV_if Try.call47 hC rfl rfl rfl rfl rfl rfl (by simp; done) rfl (by rfl) (by simp; done) ?_
    | refine ar_callV Try.call15 hO rfl rfl rfl rfl rfl (by simp; done) (by rfl) (by simp; done) ?_
    | refine ar_callV_if Try.call15 hO rfl rfl rfl rfl rfl rfl (by simp; done) rfl (by rfl) (by simp; done) ?_
    | refine ar_go3 _ rfl (by simp [*]; exact ⟨rfl, rfl, rfl⟩) rfl ?_
    | refine aw_sregK 0 [0, 1, 2] ?_
    | refine aw_regK 0 [0, 1, 2] ?_
    | refine aw_sregKD mixed 1 [1, 2, 3] (by simp; exact rfl) ?_
    | refine aw_regKD mixed 1 [1, 2, 3] (by simp; exact rfl) ?_
    | refine aw_sreg ?_
    | refine aw_sregD mixed ?_
    | refine aw_ifT (b := true) rfl rfl ?_
    | refine aw_ifF (b := false) rfl rfl ?_
    | refine aw_ifT rfl (by assumption) ?_
    | refine aw_ifF rfl (by assumption) ?_
    | refine aw_ifT rfl (decide_eq_true (by assumption)) ?_
    | refine aw_ifF rfl (decide_eq_false (by assumption)) ?_
    | refine aw_seq ?_
    | refine aw_block ?_
    | refine aw_skip ?_
    | refine aw_region ?_
    | refine aw_region_draw mixed ?_
    | refine aw_exit ?_
    | refine rq_exit ?_
    | refine blockQ_hit ?_
    | refine blockQ_miss (by decide) ?_
    | (refine ar_guard rfl rfl rfl rfl (fun h => ?_) (fun h => ?_) <;> (fail_if_success (cases h; done)) <;> (try simp at h) <;> (try subst h))
    | (refine aw_both rfl (fun h => ?_) (fun h => ?_) <;> (fail_if_success (cases h; done)) <;> (try simp at h) <;> (try subst h)))
end Go.Eng
