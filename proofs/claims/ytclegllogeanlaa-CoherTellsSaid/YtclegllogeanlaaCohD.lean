import Derived.Test.YtclegllogeanlaaCohC
import Derived.Test.YtclegllogeanlaaEngE
set_option linter.unusedSimpArgs false
set_option linter.unusedVariables false
set_option linter.constructorNameAsVariable false
set_option autoImplicit false
namespace Go.Eng
open Go Go.RowKit Go.Proofs
def lastG (p : Int → Bool) : List Int → Int
  | [] => -1
  | w :: r => if p w = true then w else lastG p r
def topB (co : RL) (l : List Int) (w : Int) : Bool := l.all fun x => !hasR co w x
def lastF (es : List Ev) (co : RL) (loc : Int) : Int := lastG (topB co (writesF es loc)) (writesF es loc)
theorem writes_len (es : List Ev) (loc : Int) : (writesF es loc).length ≤ es.length := by
  unfold writesF; simp; exact Nat.le_trans (List.length_filter_le _ _) (by simp)
def plusStep (x : RL) (j i : Nat) : RL := if bitR x i j = true then x.set i (x.getD i 0#32 ||| x.getD j 0#32) else x
def plusIn (x : RL) (j : Nat) : Nat → RL
  | 0 => x
  | i + 1 => plusStep (plusIn x j i) j i
def plusUp (n : Nat) (x : RL) : Nat → RL
  | 0 => x
  | j + 1 => plusIn (plusUp n x j) j n
def plusR (r : RL) : RL := plusUp (cleanR r).length (cleanR r) (cleanR r).length
theorem plusStep_len (x : RL) (j i : Nat) : (plusStep x j i).length = x.length := by unfold plusStep; split <;> simp
theorem plusIn_len (x : RL) (j : Nat) : ∀ i, (plusIn x j i).length = x.length
  | 0 => rfl
  | i + 1 => by rw [plusIn, plusStep_len, plusIn_len x j i]
theorem plusUp_len (n : Nat) (x : RL) : ∀ j, (plusUp n x j).length = x.length
  | 0 => rfl
  | j + 1 => by rw [plusUp, plusIn_len, plusUp_len n x j]
def acyF (r : RL) : Bool := (List.range (plusR r).length).all fun i => !bitR (plusR r) i i
def memQ (x : Ev) : Bool := decide (x.k = 1) || decide (x.k = 2)
def alikeQ (x y : Ev) : Bool := memQ x && memQ y && decide (x.l = y.l)
def fitsF (es : List Ev) (co : RL) : Bool := decide (co.length = es.length) && sameR (bothR (· ||| ·) co (invR co)) (onlyR (eventsR alikeQ es) (maskE (fun x => decide (x.k = 2)) es) (maskE (fun x => decide (x.k = 2)) es)) && decide (pairsR (bothR (· &&& ·) co (invR co)) = []) && sameR (plusR co) co
set_option maxHeartbeats 16000000 in
theorem c_last {es : List Ev} {co : RL} {loc : Int} (h32 : es.length ≤ 32) : SC Try.prog 30 [.agg (exL es), .pv (.sl 1 (rl co)), I .i64 loc] (I .i64 (lastF es co loc)) := by
  have hW := c_writes (loc := loc) h32
  have hWl := writes_len es loc
  unfold lastF
  generalize writesF es loc = W at *
  generalize hZ : lastG (topB co W) W = Z
  refine scx_of Try.func30 rfl rfl rfl (Nat.le_of_ble_eq_true rfl) ?_
  repeat' (first
    | refine ar_end rfl ?_
    | refine ar_endD rfl (by kernel_rfl) ?_
    | refine ar_fin rfl ?_
    | refine ar_finD rfl (by kernel_rfl) ?_
    | refine ar_callV Try.call31 hW rfl rfl rfl rfl rfl (by simp; done) (by rfl) (by simp; done) ?_
    | refine ar_callV_if Try.call31 hW rfl rfl rfl rfl rfl rfl (by simp; done) rfl (by rfl) (by simp; done) ?_
    | refine aw_scope ?_
    | refine aw_label ?_
    | refine sq_norm ?_
    | refine sq_exit ?_
    | refine tq_exit ?_
    | refine lq_exit ?_
    | refine bq_norm ?_
    | refine ar_go3 _ rfl (by simp [ints_len, ints_getE, intsL_len, intsL_getE]; exact ⟨rfl, rfl, rfl⟩) rfl ?_
    | refine aw_sregK 0 [0, 1, 2] ?_
    | refine aw_regK 0 [0, 1, 2] ?_
    | refine aw_sregK 1 [1, 2, 3] ?_
    | refine aw_regK 1 [1, 2, 3] ?_
    | refine aw_sregK 2 [1, 7] ?_
    | refine aw_regK 2 [1, 7] ?_
    | refine aw_sreg ?_
    | refine aw_sregD mixed ?_
    | refine aw_ifT (b := true) rfl rfl ?_
    | refine aw_ifF (b := false) rfl rfl ?_
    | refine aw_ifT rfl (by assumption) ?_
    | refine aw_ifF rfl (by assumption) ?_
    | refine aw_ifT rfl (decide_eq_true (by assumption)) ?_
    | refine aw_ifF rfl (decide_eq_false (by assumption)) ?_
    | refine aw_seq ?_
    | refine aw_block ?_
    | refine aw_skip ?_
    | refine aw_region ?_
    | refine aw_region_draw mixed ?_
    | refine aw_exit ?_
    | refine rq_exit ?_
    | refine blockQ_hit ?_
    | refine blockQ_miss (by decide) ?_
    | (refine ar_guard rfl rfl rfl rfl (fun h => ?_) (fun h => ?_) <;> (fail_if_success (cases h; done)) <;> (try simp at h) <;> (try subst h))
    | (refine aw_both rfl (fun h => ?_) (fun h => ?_) <;> (fail_if_success (cases h; done)) <;> (try simp at h) <;> (try subst h)))
  refine aw_loopN [1, 7, 15, 16, 17] [] (by simp; exact rfl) (ι := {i : Nat // i ≤ W.length ∧ lastG (topB co W) (W.drop i) = Z}) (fun i => ⟨34, [(1, .pv (.sl 1 (rl co))), (7, .pv (.sl 1 (ints W))), (15, .pv (.sl 1 (ints W))), (16, I .i64 W.length), (17, I .i64 i.1)], []⟩) (fun i => W.length - i.1) ⟨0, by simp, by simpa using hZ⟩ (by simp [ints_len]) ?_
  clear hZ
  rintro ⟨i, hi, hq⟩
  by_cases hlt : i < W.length
  · have hw : IntKind.wrap .i64 ((i : Int) + 1) = (i : Int) + 1 := wrap64s (by omega) (by omega)
    have hd : (i : Int) < (W.length : Int) := by omega
    rw [List.drop_eq_getElem_cons hlt, lastG] at hq
    generalize hx : W[i] = x at *
    repeat' (first
      | refine ar_end rfl ?_
      | refine ar_endD rfl (by kernel_rfl) ?_
      | refine ar_fin rfl ?_
      | refine ar_finD rfl (by kernel_rfl) ?_
      | refine aw_scope ?_
      | refine aw_label ?_
      | refine sq_norm ?_
      | refine sq_exit ?_
      | refine tq_exit ?_
      | refine lq_exit ?_
      | refine bq_norm ?_
      | refine ar_go3 _ rfl (by simp [ints_len, ints_getE, intsL_len, intsL_getE, hlt, hd, hx]; exact ⟨rfl, rfl, rfl⟩) rfl ?_
      | refine aw_sregK 3 [1, 7, 15, 16, 17] ?_
      | refine aw_regK 3 [1, 7, 15, 16, 17] ?_
      | refine aw_sregK 4 [1, 7, 15, 16, 17] ?_
      | refine aw_regK 4 [1, 7, 15, 16, 17] ?_
      | refine aw_sregK 5 [1, 7, 9, 15, 16, 17] ?_
      | refine aw_regK 5 [1, 7, 9, 15, 16, 17] ?_
      | refine aw_sreg ?_
      | refine aw_sregD mixed ?_
      | refine aw_ifT (b := true) rfl rfl ?_
      | refine aw_ifF (b := false) rfl rfl ?_
      | refine aw_ifT rfl (by assumption) ?_
      | refine aw_ifF rfl (by assumption) ?_
      | refine aw_ifT rfl (decide_eq_true (by assumption)) ?_
      | refine aw_ifF rfl (decide_eq_false (by assumption)) ?_
      | refine aw_seq ?_
      | refine aw_block ?_
      | refine aw_skip ?_
      | refine aw_region ?_
      | refine aw_region_draw mixed ?_
      | refine aw_exit ?_
      | refine rq_exit ?_
      | refine blockQ_hit ?_
      | refine blockQ_miss (by decide) ?_
      | (refine ar_guard rfl rfl rfl rfl (fun h => ?_) (fun h => ?_) <;> (fail_if_success (cases h; done)) <;> (try simp at h) <;> (try subst h))
      | (refine aw_both rfl (fun h => ?_) (fun h => ?_) <;> (fail_if_success (cases h; done)) <;> (try simp at h) <;> (try subst h)))
    refine aw_loopN [1, 7, 9, 15, 16, 17, 21, 22, 23] [] (by simp; exact rfl) (ι := {j : Nat // j ≤ W.length ∧ ∀ y ∈ W.take j, hasR co x y = false}) (fun j => ⟨34, [(1, .pv (.sl 1 (rl co))), (7, .pv (.sl 1 (ints W))), (9, I .i64 x), (15, .pv (.sl 1 (ints W))), (16, I .i64 W.length), (17, I .i64 i), (21, .pv (.sl 1 (ints W))), (22, I .i64 W.length), (23, I .i64 j.1)], []⟩) (fun j => W.length - j.1) ⟨0, by simp, by simp⟩ (by simp [ints_len]) ?_
    rintro ⟨j, hj, hpre⟩
    by_cases hjl : j < W.length
    · have hw2 : IntKind.wrap .i64 ((j : Int) + 1) = (j : Int) + 1 := wrap64s (by omega) (by omega)
      have hd2 : (j : Int) < (W.length : Int) := by omega
      have hmem : W[j] ∈ W := List.getElem_mem hjl
      have hnx : hasR co x W[j] = false → ∀ y ∈ W.take (j + 1), hasR co x y = false := fun h y hy => by
        rw [List.take_add_one, List.getElem?_eq_getElem hjl, List.mem_append] at hy
        rcases hy with hy | hy
        · exact hpre y hy
        · have : y = W[j] := by simpa using hy
          rw [this]; exact h
      generalize hy : W[j] = y at *
      have hH := c_has (r := co) (i := x) (k := y)
      cases hb : hasR co x y
      · rw [hb] at hH
        have hn2 := hnx hb
        repeat' (first
          | refine ar_end rfl ?_
          | refine ar_endD rfl (by kernel_rfl) ?_
          | refine ar_fin rfl ?_
          | refine ar_finD rfl (by kernel_rfl) ?_
          | refine ar_callV Try.call17 hH rfl rfl rfl rfl rfl (by simp; done) (by rfl) (by simp; done) ?_
          | refine ar_callV_if Try.call17 hH rfl rfl rfl rfl rfl rfl (by simp; done) rfl (by rfl) (by simp; done) ?_
          | refine bq_norm ?_
          | refine lq_normN [1, 7, 9, 15, 16, 17, 21, 22, 23] [] (by simp; exact rfl) ⟨j + 1, by omega, hn2⟩ (by dsimp only; omega) (by simp)
          | refine ar_go3 _ rfl (by simp [ints_len, ints_getE, intsL_len, intsL_getE, hjl, hd2, hy, hw2]; exact ⟨rfl, rfl, rfl⟩) rfl ?_
          | refine aw_sregK 6 [1, 7, 9, 15, 16, 17, 21, 22, 23] ?_
          | refine aw_regK 6 [1, 7, 9, 15, 16, 17, 21, 22, 23] ?_
          | refine aw_sregK 7 [1, 7, 9, 15, 16, 17, 21, 22, 23] ?_
          | refine aw_regK 7 [1, 7, 9, 15, 16, 17, 21, 22, 23] ?_
          | refine aw_sregK 8 [1, 7, 9, 11, 15, 16, 17, 21, 22, 23] ?_
          | refine aw_regK 8 [1, 7, 9, 11, 15, 16, 17, 21, 22, 23] ?_
          | refine aw_sregK 9 [1, 7, 9, 15, 16, 17, 21, 22, 23] ?_
          | refine aw_regK 9 [1, 7, 9, 15, 16, 17, 21, 22, 23] ?_
          | refine aw_sreg ?_
          | refine aw_sregD mixed ?_
          | refine aw_ifT (b := true) rfl rfl ?_
          | refine aw_ifF (b := false) rfl rfl ?_
          | refine aw_ifT rfl (by assumption) ?_
          | refine aw_ifF rfl (by assumption) ?_
          | refine aw_ifT rfl (decide_eq_true (by assumption)) ?_
          | refine aw_ifF rfl (decide_eq_false (by assumption)) ?_
          | refine aw_seq ?_
          | refine aw_block ?_
          | refine aw_skip ?_
          | refine aw_region ?_
          | refine aw_region_draw mixed ?_
          | refine aw_exit ?_
          | refine rq_exit ?_
          | refine blockQ_hit ?_
          | refine blockQ_miss (by decide) ?_
          | (refine ar_guard rfl rfl rfl rfl (fun h => ?_) (fun h => ?_) <;> (fail_if_success (cases h; done)) <;> (try simp at h) <;> (try subst h))
          | (refine aw_both rfl (fun h => ?_) (fun h => ?_) <;> (fail_if_success (cases h; done)) <;> (try simp at h) <;> (try subst h)))
      · rw [hb] at hH
        have ht : topB co W x = false := by
          unfold topB
          rw [List.all_eq_false]
          exact ⟨y, hmem, by rw [hb]; decide⟩
        rw [ht, if_neg (by decide)] at hq
        repeat' (first
          | refine ar_end rfl ?_
          | refine ar_endD rfl (by kernel_rfl) ?_
          | refine ar_fin rfl ?_
          | refine ar_finD rfl (by kernel_rfl) ?_
          | refine ar_callV Try.call17 hH rfl rfl rfl rfl rfl (by simp; done) (by rfl) (by simp; done) ?_
          | refine ar_callV_if Try.call17 hH rfl rfl rfl rfl rfl rfl (by simp; done) rfl (by rfl) (by simp; done) ?_
          | refine aw_scope ?_
          | refine aw_label ?_
          | refine sq_norm ?_
          | refine sq_exit ?_
          | refine tq_exit ?_
          | refine lq_exit ?_
          | refine bq_norm ?_
          | refine lq_normN [1, 7, 15, 16, 17] [] (by simp; exact rfl) ⟨i + 1, by omega, hq⟩ (by dsimp only; omega) (by simp)
          | refine ar_go3 _ rfl (by simp [ints_len, ints_getE, intsL_len, intsL_getE, hjl, hd2, hy, hw]; exact ⟨rfl, rfl, rfl⟩) rfl ?_
          | refine aw_sregK 6 [1, 7, 9, 15, 16, 17, 21, 22, 23] ?_
          | refine aw_regK 6 [1, 7, 9, 15, 16, 17, 21, 22, 23] ?_
          | refine aw_sregK 7 [1, 7, 9, 15, 16, 17, 21, 22, 23] ?_
          | refine aw_regK 7 [1, 7, 9, 15, 16, 17, 21, 22, 23] ?_
          | refine aw_sregK 8 [1, 7, 9, 11, 15, 16, 17, 21, 22, 23] ?_
          | refine aw_regK 8 [1, 7, 9, 11, 15, 16, 17, 21, 22, 23] ?_
          | refine aw_sregK 11 [1, 7, 15, 16, 17] ?_
          | refine aw_regK 11 [1, 7, 15, 16, 17] ?_
          | refine aw_sreg ?_
          | refine aw_sregD mixed ?_
          | refine aw_ifT (b := true) rfl rfl ?_
          | refine aw_ifF (b := false) rfl rfl ?_
          | refine aw_ifT rfl (by assumption) ?_
          | refine aw_ifF rfl (by assumption) ?_
          | refine aw_ifT rfl (decide_eq_true (by assumption)) ?_
          | refine aw_ifF rfl (decide_eq_false (by assumption)) ?_
          | refine aw_seq ?_
          | refine aw_block ?_
          | refine aw_skip ?_
          | refine aw_region ?_
          | refine aw_region_draw mixed ?_
          | refine aw_exit ?_
          | refine rq_exit ?_
          | refine blockQ_hit ?_
          | refine blockQ_miss (by decide) ?_
          | (refine ar_guard rfl rfl rfl rfl (fun h => ?_) (fun h => ?_) <;> (fail_if_success (cases h; done)) <;> (try simp at h) <;> (try subst h))
          | (refine aw_both rfl (fun h => ?_) (fun h => ?_) <;> (fail_if_success (cases h; done)) <;> (try simp at h) <;> (try subst h)))
    · have hd2 : ¬(j : Int) < (W.length : Int) := by omega
      have hte : W.take j = W := List.take_of_length_le (by omega)
      rw [hte] at hpre
      have ht : topB co W x = true := by
        unfold topB
        rw [List.all_eq_true]
        intro y hy; rw [hpre y hy]; rfl
      rw [ht, if_pos rfl] at hq
      subst hq
      repeat' (first
        | exact aw_ret (ret_vals (by simp; exact rfl) (by simp [*]; fail_if_success (show _)))
        | exact aw_ret (ret_vals (by simp; exact rfl) (by simp [*]; omega))
        | refine ar_end rfl ?_
        | refine ar_endD rfl (by kernel_rfl) ?_
        | refine ar_fin rfl ?_
        | refine ar_finD rfl (by kernel_rfl) ?_
        | refine aw_scope ?_
        | refine aw_label ?_
        | refine sq_norm ?_
        | refine sq_exit ?_
        | refine tq_exit ?_
        | refine lq_exit ?_
        | refine bq_norm ?_
        | refine ar_go3 _ rfl (by simp [ints_len, ints_getE, intsL_len, intsL_getE, hd2]; exact ⟨rfl, rfl, rfl⟩) rfl ?_
        | refine aw_sregK 6 [1, 7, 9, 15, 16, 17, 21, 22, 23] ?_
        | refine aw_regK 6 [1, 7, 9, 15, 16, 17, 21, 22, 23] ?_
        | refine aw_sregK 10 [9] ?_
        | refine aw_regK 10 [9] ?_
        | refine aw_sreg ?_
        | refine aw_sregD mixed ?_
        | refine aw_ifT (b := true) rfl rfl ?_
        | refine aw_ifF (b := false) rfl rfl ?_
        | refine aw_ifT rfl (by assumption) ?_
        | refine aw_ifF rfl (by assumption) ?_
        | refine aw_ifT rfl (decide_eq_true (by assumption)) ?_
        | refine aw_ifF rfl (decide_eq_false (by assumption)) ?_
        | refine aw_seq ?_
        | refine aw_block ?_
        | refine aw_skip ?_
        | refine aw_region ?_
        | refine aw_region_draw mixed ?_
        | refine aw_exit ?_
        | refine rq_exit ?_
        | refine blockQ_hit ?_
        | refine blockQ_miss (by decide) ?_
        | (refine ar_guard rfl rfl rfl rfl (fun h => ?_) (fun h => ?_) <;> (fail_if_success (cases h; done)) <;> (try simp at h) <;> (try subst h))
        | (refine aw_both rfl (fun h => ?_) (fun h => ?_) <;> (fail_if_success (cases h; done)) <;> (try simp at h) <;> (try subst h)))
  · have hd : ¬(i : Int) < (W.length : Int) := by omega
    rw [List.drop_eq_nil_of_le (by omega), lastG] at hq
    subst hq
    repeat' (first
      | exact aw_ret (ret_vals (by simp; exact rfl) (by simp [*]; fail_if_success (show _)))
      | exact aw_ret (ret_vals (by simp; exact rfl) (by simp [*]; omega))
      | refine ar_end rfl ?_
      | refine ar_endD rfl (by kernel_rfl) ?_
      | refine ar_fin rfl ?_
      | refine ar_finD rfl (by kernel_rfl) ?_
      | refine aw_scope ?_
      | refine aw_label ?_
      | refine sq_norm ?_
      | refine sq_exit ?_
      | refine tq_exit ?_
      | refine lq_exit ?_
      | refine bq_norm ?_
      | refine ar_go3 _ rfl (by simp [ints_len, ints_getE, intsL_len, intsL_getE, hd]; exact ⟨rfl, rfl, rfl⟩) rfl ?_
      | refine aw_sregK 3 [1, 7, 15, 16, 17] ?_
      | refine aw_regK 3 [1, 7, 15, 16, 17] ?_
      | refine aw_sregK 12 [] ?_
      | refine aw_regK 12 [] ?_
      | refine aw_sreg ?_
      | refine aw_sregD mixed ?_
      | refine aw_ifT (b := true) rfl rfl ?_
      | refine aw_ifF (b := false) rfl rfl ?_
      | refine aw_ifT rfl (by assumption) ?_
      | refine aw_ifF rfl (by assumption) ?_
      | refine aw_ifT rfl (decide_eq_true (by assumption)) ?_
      | refine aw_ifF rfl (decide_eq_false (by assumption)) ?_
      | refine aw_seq ?_
      | refine aw_block ?_
      | refine aw_skip ?_
      | refine aw_region ?_
      | refine aw_region_draw mixed ?_
      | refine aw_exit ?_
      | refine rq_exit ?_
      | refine blockQ_hit ?_
      | refine blockQ_miss (by decide) ?_
      | (refine ar_guard rfl rfl rfl rfl (fun h => ?_) (fun h => ?_) <;> (fail_if_success (cases h; done)) <;> (try simp at h) <;> (try subst h))
      | (refine aw_both rfl (fun h => ?_) (fun h => ?_) <;> (fail_if_success (cases h; done)) <;> (try simp at h) <;> (try subst h)))
set_option maxHeartbeats 16000000 in
theorem c_plus {r : RL} (hl : r.length ≤ maxLen) : SCO Try.prog 61 [.pv (.sl 1 (rl r))] 33 1 (rl (plusR r)) := by
  have hC := c_clean hl
  have hcl := clean_le r
  unfold plusR
  generalize cleanR r = x at *
  refine scx_of Try.func61 rfl rfl rfl (Nat.le_of_ble_eq_true rfl) ?_
  repeat' (first
    | refine ar_end rfl ?_
    | refine ar_endD rfl (by kernel_rfl) ?_
    | refine ar_fin rfl ?_
    | refine ar_finD rfl (by kernel_rfl) ?_
    | refine ar_callO Try.call54 hC rfl rfl rfl rfl (by simp; exact rfl) rfl (by simp; done) (by rfl) rfl ?_
    | refine ar_go3 _ rfl (by simp [rl_len, rl_getE, rl_set, rl_nil, List.length_set, List.getElem_set, IntKind.bits, ub_shl1', ub_shr, ub_or, ub_and, ub_andNot, ub_bit, Int.toNat_natCast, ub_zero]; exact ⟨rfl, rfl, rfl⟩) rfl ?_
    | refine aw_sregK 0 [0] ?_
    | refine aw_regK 0 [0] ?_
    | refine aw_sregK 1 [0] ?_
    | refine aw_regK 1 [0] ?_
    | refine aw_sregK 2 [3] ?_
    | refine aw_regK 2 [3] ?_
    | refine aw_sreg ?_
    | refine aw_sregD mixed ?_
    | refine aw_ifT (b := true) rfl rfl ?_
    | refine aw_ifF (b := false) rfl rfl ?_
    | refine aw_ifT rfl (by assumption) ?_
    | refine aw_ifF rfl (by assumption) ?_
    | refine aw_ifT rfl (decide_eq_true (by assumption)) ?_
    | refine aw_ifF rfl (decide_eq_false (by assumption)) ?_
    | refine aw_seq ?_
    | refine aw_block ?_
    | refine aw_skip ?_
    | refine aw_region ?_
    | refine aw_region_draw mixed ?_
    | refine aw_exit ?_
    | refine rq_exit ?_
    | refine blockQ_hit ?_
    | refine blockQ_miss (by decide) ?_
    | (refine ar_guard rfl rfl rfl rfl (fun h => ?_) (fun h => ?_) <;> (fail_if_success (cases h; done)) <;> (try simp at h) <;> (try subst h))
    | (refine aw_both rfl (fun h => ?_) (fun h => ?_) <;> (fail_if_success (cases h; done)) <;> (try simp at h) <;> (try subst h)))
  refine aw_loopN [3, 9, 10] [.loc 7] (by simp; exact rfl) (ι := {j : Nat // j ≤ x.length}) (fun j => ⟨40, [(3, .own (.loc 7)), (9, I .i64 x.length), (10, I .i64 j.1)], [(.loc 7, some (.own 33 1 (rl (plusUp x.length x j.1))))]⟩) (fun j => x.length - j.1) ⟨0, by omega⟩ (by simp [plusUp, rl_len]) ?_
  rintro ⟨j, hj⟩
  by_cases hlt : j < x.length
  · have hw : IntKind.wrap .i64 ((j : Int) + 1) = (j : Int) + 1 := wrap64s (by omega) (by omega)
    have hwu := wrap64u (n := j) (by omega)
    have hd : (j : Int) < (x.length : Int) := by omega
    have hst : plusUp x.length x (j + 1) = plusIn (plusUp x.length x j) j x.length := rfl
    have hul := plusUp_len x.length x j
    generalize plusUp x.length x j = U at *
    repeat' (first
      | refine ar_end rfl ?_
      | refine ar_endD rfl (by kernel_rfl) ?_
      | refine ar_fin rfl ?_
      | refine ar_finD rfl (by kernel_rfl) ?_
      | refine ar_go3 _ rfl (by simp [rl_len, rl_getE, rl_set, rl_nil, List.length_set, List.getElem_set, IntKind.bits, ub_shl1', ub_shr, ub_or, ub_and, ub_andNot, ub_bit, Int.toNat_natCast, ub_zero, hd, hul]; exact ⟨rfl, rfl, rfl⟩) rfl ?_
      | refine aw_sregK 3 [3, 9, 10] ?_
      | refine aw_regK 3 [3, 9, 10] ?_
      | refine aw_sregK 4 [3, 9, 10] ?_
      | refine aw_regK 4 [3, 9, 10] ?_
      | refine aw_sregK 5 [3, 4, 9, 10] ?_
      | refine aw_regK 5 [3, 4, 9, 10] ?_
      | refine aw_sreg ?_
      | refine aw_sregD mixed ?_
      | refine aw_ifT (b := true) rfl rfl ?_
      | refine aw_ifF (b := false) rfl rfl ?_
      | refine aw_ifT rfl (by assumption) ?_
      | refine aw_ifF rfl (by assumption) ?_
      | refine aw_ifT rfl (decide_eq_true (by assumption)) ?_
      | refine aw_ifF rfl (decide_eq_false (by assumption)) ?_
      | refine aw_seq ?_
      | refine aw_block ?_
      | refine aw_skip ?_
      | refine aw_region ?_
      | refine aw_region_draw mixed ?_
      | refine aw_exit ?_
      | refine rq_exit ?_
      | refine blockQ_hit ?_
      | refine blockQ_miss (by decide) ?_
      | (refine ar_guard rfl rfl rfl rfl (fun h => ?_) (fun h => ?_) <;> (fail_if_success (cases h; done)) <;> (try simp at h) <;> (try subst h))
      | (refine aw_both rfl (fun h => ?_) (fun h => ?_) <;> (fail_if_success (cases h; done)) <;> (try simp at h) <;> (try subst h)))
    refine aw_loopN [3, 4, 9, 10, 14, 15] [.loc 7] (by simp; exact rfl) (ι := {i : Nat // i ≤ x.length}) (fun i => ⟨40, [(3, .own (.loc 7)), (4, I .i64 j), (9, I .i64 x.length), (10, I .i64 j), (14, I .i64 x.length), (15, I .i64 i.1)], [(.loc 7, some (.own 33 1 (rl (plusIn U j i.1))))]⟩) (fun i => x.length - i.1) ⟨0, by omega⟩ (by simp [plusIn, rl_len, hul]) ?_
    rintro ⟨i, hi⟩
    by_cases hil : i < x.length
    · have hw2 : IntKind.wrap .i64 ((i : Int) + 1) = (i : Int) + 1 := wrap64s (by omega) (by omega)
      have hd2 : (i : Int) < (x.length : Int) := by omega
      have hs2 : plusIn U j (i + 1) = plusStep (plusIn U j i) j i := rfl
      have hpl := plusIn_len U j i
      generalize plusIn U j i = V at *
      have hiV : i < V.length := by omega
      have hjV : j < V.length := by omega
      unfold plusStep bitR at hs2
      rw [getD_in _ _ hiV, getD_in _ _ hjV] at hs2
      generalize hp : V[i] = p at *
      generalize hq : V[j] = q at *
      cases hb : p.getLsbD j
      · rw [hb, if_neg (by decide)] at hs2
        repeat' (first
          | refine ar_end rfl ?_
          | refine ar_endD rfl (by kernel_rfl) ?_
          | refine ar_fin rfl ?_
          | refine ar_finD rfl (by kernel_rfl) ?_
          | refine bq_norm ?_
          | refine lq_normN [3, 4, 9, 10, 14, 15] [.loc 7] (by simp; exact rfl) ⟨i + 1, by omega⟩ (by dsimp only; omega) (by simp [hs2])
          | refine ar_go3 _ rfl (by simp [rl_len, rl_getE, rl_set, rl_nil, List.length_set, List.getElem_set, IntKind.bits, ub_shl1', ub_shr, ub_or, ub_and, ub_andNot, ub_bit, Int.toNat_natCast, ub_zero, hiV, hjV, hd2, hp, hq, hb, hw2, hwu]; exact ⟨rfl, rfl, rfl⟩) rfl ?_
          | refine aw_sregK 6 [3, 4, 9, 10, 14, 15] ?_
          | refine aw_regK 6 [3, 4, 9, 10, 14, 15] ?_
          | refine aw_sregK 7 [3, 4, 9, 10, 14, 15] ?_
          | refine aw_regK 7 [3, 4, 9, 10, 14, 15] ?_
          | refine aw_sregK 8 [3, 4, 5, 9, 10, 14, 15] ?_
          | refine aw_regK 8 [3, 4, 5, 9, 10, 14, 15] ?_
          | refine aw_sregKD mixed 9 [3, 4, 5, 9, 10, 14, 15] (by simp; exact rfl) ?_
          | refine aw_regKD mixed 9 [3, 4, 5, 9, 10, 14, 15] (by simp; exact rfl) ?_
          | refine aw_sregK 10 [3, 4, 9, 10, 14, 15] ?_
          | refine aw_regK 10 [3, 4, 9, 10, 14, 15] ?_
          | refine aw_sreg ?_
          | refine aw_sregD mixed ?_
          | refine aw_ifT (b := true) rfl rfl ?_
          | refine aw_ifF (b := false) rfl rfl ?_
          | refine aw_ifT rfl (by assumption) ?_
          | refine aw_ifF rfl (by assumption) ?_
          | refine aw_ifT rfl (decide_eq_true (by assumption)) ?_
          | refine aw_ifF rfl (decide_eq_false (by assumption)) ?_
          | refine aw_seq ?_
          | refine aw_block ?_
          | refine aw_skip ?_
          | refine aw_region ?_
          | refine aw_region_draw mixed ?_
          | refine aw_exit ?_
          | refine rq_exit ?_
          | refine blockQ_hit ?_
          | refine blockQ_miss (by decide) ?_
          | (refine ar_guard rfl rfl rfl rfl (fun h => ?_) (fun h => ?_) <;> (fail_if_success (cases h; done)) <;> (try simp at h) <;> (try subst h))
          | (refine aw_both rfl (fun h => ?_) (fun h => ?_) <;> (fail_if_success (cases h; done)) <;> (try simp at h) <;> (try subst h)))
      · rw [hb, if_pos rfl] at hs2
        repeat' (first
          | refine ar_end rfl ?_
          | refine ar_endD rfl (by kernel_rfl) ?_
          | refine ar_fin rfl ?_
          | refine ar_finD rfl (by kernel_rfl) ?_
          | refine bq_norm ?_
          | refine lq_normN [3, 4, 9, 10, 14, 15] [.loc 7] (by simp; exact rfl) ⟨i + 1, by omega⟩ (by dsimp only; omega) (by simp [hs2])
          | refine ar_go3 _ rfl (by simp [rl_len, rl_getE, rl_set, rl_nil, List.length_set, List.getElem_set, IntKind.bits, ub_shl1', ub_shr, ub_or, ub_and, ub_andNot, ub_bit, Int.toNat_natCast, ub_zero, hiV, hjV, hd2, hp, hq, hb, hw2, hwu]; exact ⟨rfl, rfl, rfl⟩) rfl ?_
          | refine aw_sregK 6 [3, 4, 9, 10, 14, 15] ?_
          | refine aw_regK 6 [3, 4, 9, 10, 14, 15] ?_
          | refine aw_sregK 7 [3, 4, 9, 10, 14, 15] ?_
          | refine aw_regK 7 [3, 4, 9, 10, 14, 15] ?_
          | refine aw_sregK 8 [3, 4, 5, 9, 10, 14, 15] ?_
          | refine aw_regK 8 [3, 4, 5, 9, 10, 14, 15] ?_
          | refine aw_sregKD mixed 9 [3, 4, 5, 9, 10, 14, 15] (by simp; exact rfl) ?_
          | refine aw_regKD mixed 9 [3, 4, 5, 9, 10, 14, 15] (by simp; exact rfl) ?_
          | refine aw_sregK 10 [3, 4, 9, 10, 14, 15] ?_
          | refine aw_regK 10 [3, 4, 9, 10, 14, 15] ?_
          | refine aw_sreg ?_
          | refine aw_sregD mixed ?_
          | refine aw_ifT (b := true) rfl rfl ?_
          | refine aw_ifF (b := false) rfl rfl ?_
          | refine aw_ifT rfl (by assumption) ?_
          | refine aw_ifF rfl (by assumption) ?_
          | refine aw_ifT rfl (decide_eq_true (by assumption)) ?_
          | refine aw_ifF rfl (decide_eq_false (by assumption)) ?_
          | refine aw_seq ?_
          | refine aw_block ?_
          | refine aw_skip ?_
          | refine aw_region ?_
          | refine aw_region_draw mixed ?_
          | refine aw_exit ?_
          | refine rq_exit ?_
          | refine blockQ_hit ?_
          | refine blockQ_miss (by decide) ?_
          | (refine ar_guard rfl rfl rfl rfl (fun h => ?_) (fun h => ?_) <;> (fail_if_success (cases h; done)) <;> (try simp at h) <;> (try subst h))
          | (refine aw_both rfl (fun h => ?_) (fun h => ?_) <;> (fail_if_success (cases h; done)) <;> (try simp at h) <;> (try subst h)))
    · have hd2 : ¬(i : Int) < (x.length : Int) := by omega
      have hie : i = x.length := by omega
      subst hie
      rw [← hst]
      repeat' (first
        | refine ar_end rfl ?_
        | refine ar_endD rfl (by kernel_rfl) ?_
        | refine ar_fin rfl ?_
        | refine ar_finD rfl (by kernel_rfl) ?_
        | refine lq_exit ?_
        | refine bq_norm ?_
        | refine lq_normN [3, 9, 10] [.loc 7] (by simp; exact rfl) ⟨j + 1, by omega⟩ (by dsimp only; omega) (by simp [hd2])
        | refine ar_go3 _ rfl (by simp [rl_len, rl_getE, rl_set, rl_nil, List.length_set, List.getElem_set, IntKind.bits, ub_shl1', ub_shr, ub_or, ub_and, ub_andNot, ub_bit, Int.toNat_natCast, ub_zero, hd2, hw]; exact ⟨rfl, rfl, rfl⟩) rfl ?_
        | refine aw_sregK 6 [3, 4, 9, 10, 14, 15] ?_
        | refine aw_regK 6 [3, 4, 9, 10, 14, 15] ?_
        | refine aw_sregK 11 [3, 9, 10] ?_
        | refine aw_regK 11 [3, 9, 10] ?_
        | refine aw_sreg ?_
        | refine aw_sregD mixed ?_
        | refine aw_ifT (b := true) rfl rfl ?_
        | refine aw_ifF (b := false) rfl rfl ?_
        | refine aw_ifT rfl (by assumption) ?_
        | refine aw_ifF rfl (by assumption) ?_
        | refine aw_ifT rfl (decide_eq_true (by assumption)) ?_
        | refine aw_ifF rfl (decide_eq_false (by assumption)) ?_
        | refine aw_seq ?_
        | refine aw_block ?_
        | refine aw_skip ?_
        | refine aw_region ?_
        | refine aw_region_draw mixed ?_
        | refine aw_exit ?_
        | refine rq_exit ?_
        | refine blockQ_hit ?_
        | refine blockQ_miss (by decide) ?_
        | (refine ar_guard rfl rfl rfl rfl (fun h => ?_) (fun h => ?_) <;> (fail_if_success (cases h; done)) <;> (try simp at h) <;> (try subst h))
        | (refine aw_both rfl (fun h => ?_) (fun h => ?_) <;> (fail_if_success (cases h; done)) <;> (try simp at h) <;> (try subst h)))
  · have hd : ¬(j : Int) < (x.length : Int) := by omega
    have hie : j = x.length := by omega
    subst hie
    repeat' (first
      | refine ar_end rfl ?_
      | refine ar_endD rfl (by kernel_rfl) ?_
      | refine ar_fin rfl ?_
      | refine ar_finD rfl (by kernel_rfl) ?_
      | refine lq_exit ?_
      | exact aw_ret (ret_own (.loc 7) (by simp; exact rfl) (by simp) (by simp []))
      | refine ar_go3 _ rfl (by simp [rl_len, rl_getE, rl_set, rl_nil, List.length_set, List.getElem_set, IntKind.bits, ub_shl1', ub_shr, ub_or, ub_and, ub_andNot, ub_bit, Int.toNat_natCast, ub_zero, hd]; exact ⟨rfl, rfl, rfl⟩) rfl ?_
      | refine aw_sregK 3 [3, 9, 10] ?_
      | refine aw_regK 3 [3, 9, 10] ?_
      | refine aw_sregK 12 [3] ?_
      | refine aw_regK 12 [3] ?_
      | refine aw_sreg ?_
      | refine aw_sregD mixed ?_
      | refine aw_ifT (b := true) rfl rfl ?_
      | refine aw_ifF (b := false) rfl rfl ?_
      | refine aw_ifT rfl (by assumption) ?_
      | refine aw_ifF rfl (by assumption) ?_
      | refine aw_ifT rfl (decide_eq_true (by assumption)) ?_
      | refine aw_ifF rfl (decide_eq_false (by assumption)) ?_
      | refine aw_seq ?_
      | refine aw_block ?_
      | refine aw_skip ?_
      | refine aw_region ?_
      | refine aw_region_draw mixed ?_
      | refine aw_exit ?_
      | refine rq_exit ?_
      | refine blockQ_hit ?_
      | refine blockQ_miss (by decide) ?_
      | (refine ar_guard rfl rfl rfl rfl (fun h => ?_) (fun h => ?_) <;> (fail_if_success (cases h; done)) <;> (try simp at h) <;> (try subst h))
      | (refine aw_both rfl (fun h => ?_) (fun h => ?_) <;> (fail_if_success (cases h; done)) <;> (try simp at h) <;> (try subst h)))
set_option maxHeartbeats 16000000 in
theorem c_plusV {r : RL} (hl : r.length ≤ maxLen) : SC Try.prog 61 [.pv (.sl 1 (rl r))] (.pv (.sl 1 (rl (plusR r)))) := sco_sc (c_plus hl)
theorem plus_le (r : RL) : (plusR r).length ≤ 32 := by unfold plusR; rw [plusUp_len]; exact clean_le r
set_option maxHeartbeats 16000000 in
theorem c_acyclic {r : RL} (hl : r.length ≤ maxLen) : SC Try.prog 32 [.pv (.sl 1 (rl r))] (B (acyF r)) := by
  have hP := c_plusV hl
  have hpl := plus_le r
  unfold acyF
  generalize plusR r = x at *
  generalize hZ : (List.range x.length).all (fun i => !bitR x i i) = Z
  have hno : ∀ i, i < x.length → bitR x i i = true → Z = false := fun i hi h => by
    rw [← hZ, List.all_eq_false]
    exact ⟨i, List.mem_range.2 hi, by rw [h]; decide⟩
  refine scx_of Try.func32 rfl rfl rfl (Nat.le_of_ble_eq_true rfl) ?_
  repeat' (first
    | refine ar_end rfl ?_
    | refine ar_endD rfl (by kernel_rfl) ?_
    | refine ar_fin rfl ?_
    | refine ar_finD rfl (by kernel_rfl) ?_
    | refine ar_callV Try.call61 hP rfl rfl rfl rfl rfl (by simp; done) (by rfl) (by simp; done) ?_
    | refine ar_callV_if Try.call61 hP rfl rfl rfl rfl rfl rfl (by simp; done) rfl (by rfl) (by simp; done) ?_
    | refine ar_go3 _ rfl (by simp [rl_len, rl_getE, rl_set, rl_nil, List.length_set, List.getElem_set, IntKind.bits, ub_shl1', ub_shr, ub_or, ub_and, ub_andNot, ub_bit, Int.toNat_natCast, ub_zero]; exact ⟨rfl, rfl, rfl⟩) rfl ?_
    | refine aw_sregK 0 [0] ?_
    | refine aw_regK 0 [0] ?_
    | refine aw_sregK 1 [0] ?_
    | refine aw_regK 1 [0] ?_
    | refine aw_sreg ?_
    | refine aw_sregD mixed ?_
    | refine aw_ifT (b := true) rfl rfl ?_
    | refine aw_ifF (b := false) rfl rfl ?_
    | refine aw_ifT rfl (by assumption) ?_
    | refine aw_ifF rfl (by assumption) ?_
    | refine aw_ifT rfl (decide_eq_true (by assumption)) ?_
    | refine aw_ifF rfl (decide_eq_false (by assumption)) ?_
    | refine aw_seq ?_
    | refine aw_block ?_
    | refine aw_skip ?_
    | refine aw_region ?_
    | refine aw_region_draw mixed ?_
    | refine aw_exit ?_
    | refine rq_exit ?_
    | refine blockQ_hit ?_
    | refine blockQ_miss (by decide) ?_
    | (refine ar_guard rfl rfl rfl rfl (fun h => ?_) (fun h => ?_) <;> (fail_if_success (cases h; done)) <;> (try simp at h) <;> (try subst h))
    | (refine aw_both rfl (fun h => ?_) (fun h => ?_) <;> (fail_if_success (cases h; done)) <;> (try simp at h) <;> (try subst h)))
  refine aw_loopN [6, 7, 8] [] (by simp; exact rfl) (ι := {i : Nat // i ≤ x.length ∧ ∀ k, k < i → bitR x k k = false}) (fun i => ⟨20, [(6, .pv (.sl 1 (rl x))), (7, I .i64 x.length), (8, I .i64 i.1)], []⟩) (fun i => x.length - i.1) ⟨0, by omega, by omega⟩ (by simp [rl_len]) ?_
  rintro ⟨i, hi, hpre⟩
  by_cases hlt : i < x.length
  · have hw : IntKind.wrap .i64 ((i : Int) + 1) = (i : Int) + 1 := wrap64s (by omega) (by omega)
    have hwu := wrap64u (n := i) (by omega)
    have hd : (i : Int) < (x.length : Int) := by omega
    have hbit : bitR x i i = (x[i]).getLsbD i := by unfold bitR; rw [getD_in _ _ hlt]
    have hn1 := hno i hlt
    generalize hy : x[i] = y at *
    cases hb : y.getLsbD i
    · rw [hb] at hbit
      have hn2 : ∀ k, k < i + 1 → bitR x k k = false := fun k hk => by
        by_cases h : k = i
        · subst h; exact hbit
        · exact hpre k (by omega)
      repeat' (first
        | refine ar_end rfl ?_
        | refine ar_endD rfl (by kernel_rfl) ?_
        | refine ar_fin rfl ?_
        | refine ar_finD rfl (by kernel_rfl) ?_
        | refine bq_norm ?_
        | refine lq_normN [6, 7, 8] [] (by simp; exact rfl) ⟨i + 1, by omega, hn2⟩ (by dsimp only; omega) (by simp)
        | refine ar_go3 _ rfl (by simp [rl_len, rl_getE, rl_set, rl_nil, List.length_set, List.getElem_set, IntKind.bits, ub_shl1', ub_shr, ub_or, ub_and, ub_andNot, ub_bit, Int.toNat_natCast, ub_zero, hlt, hd, hy, hb, hw, hwu]; exact ⟨rfl, rfl, rfl⟩) rfl ?_
        | refine aw_sregK 2 [6, 7, 8] ?_
        | refine aw_regK 2 [6, 7, 8] ?_
        | refine aw_sregK 3 [6, 7, 8] ?_
        | refine aw_regK 3 [6, 7, 8] ?_
        | refine aw_sregK 4 [3, 4, 6, 7, 8] ?_
        | refine aw_regK 4 [3, 4, 6, 7, 8] ?_
        | refine aw_sregK 5 [] ?_
        | refine aw_regK 5 [] ?_
        | refine aw_sregK 6 [6, 7, 8] ?_
        | refine aw_regK 6 [6, 7, 8] ?_
        | refine aw_sreg ?_
        | refine aw_sregD mixed ?_
        | refine aw_ifT (b := true) rfl rfl ?_
        | refine aw_ifF (b := false) rfl rfl ?_
        | refine aw_ifT rfl (by assumption) ?_
        | refine aw_ifF rfl (by assumption) ?_
        | refine aw_ifT rfl (decide_eq_true (by assumption)) ?_
        | refine aw_ifF rfl (decide_eq_false (by assumption)) ?_
        | refine aw_seq ?_
        | refine aw_block ?_
        | refine aw_skip ?_
        | refine aw_region ?_
        | refine aw_region_draw mixed ?_
        | refine aw_exit ?_
        | refine rq_exit ?_
        | refine blockQ_hit ?_
        | refine blockQ_miss (by decide) ?_
        | (refine ar_guard rfl rfl rfl rfl (fun h => ?_) (fun h => ?_) <;> (fail_if_success (cases h; done)) <;> (try simp at h) <;> (try subst h))
        | (refine aw_both rfl (fun h => ?_) (fun h => ?_) <;> (fail_if_success (cases h; done)) <;> (try simp at h) <;> (try subst h)))
    · rw [hb] at hbit
      have hz := hn1 hbit
      subst hz
      repeat' (first
        | exact aw_ret (ret_vals (by simp; exact rfl) (by simp [*]; fail_if_success (show _)))
        | exact aw_ret (ret_vals (by simp; exact rfl) (by simp [*]; omega))
        | refine ar_end rfl ?_
        | refine ar_endD rfl (by kernel_rfl) ?_
        | refine ar_fin rfl ?_
        | refine ar_finD rfl (by kernel_rfl) ?_
        | refine ar_go3 _ rfl (by simp [rl_len, rl_getE, rl_set, rl_nil, List.length_set, List.getElem_set, IntKind.bits, ub_shl1', ub_shr, ub_or, ub_and, ub_andNot, ub_bit, Int.toNat_natCast, ub_zero, hlt, hd, hy, hb, hw, hwu]; exact ⟨rfl, rfl, rfl⟩) rfl ?_
        | refine aw_sregK 2 [6, 7, 8] ?_
        | refine aw_regK 2 [6, 7, 8] ?_
        | refine aw_sregK 3 [6, 7, 8] ?_
        | refine aw_regK 3 [6, 7, 8] ?_
        | refine aw_sregK 4 [3, 4, 6, 7, 8] ?_
        | refine aw_regK 4 [3, 4, 6, 7, 8] ?_
        | refine aw_sregK 5 [] ?_
        | refine aw_regK 5 [] ?_
        | refine aw_sregK 6 [6, 7, 8] ?_
        | refine aw_regK 6 [6, 7, 8] ?_
        | refine aw_sreg ?_
        | refine aw_sregD mixed ?_
        | refine aw_ifT (b := true) rfl rfl ?_
        | refine aw_ifF (b := false) rfl rfl ?_
        | refine aw_ifT rfl (by assumption) ?_
        | refine aw_ifF rfl (by assumption) ?_
        | refine aw_ifT rfl (decide_eq_true (by assumption)) ?_
        | refine aw_ifF rfl (decide_eq_false (by assumption)) ?_
        | refine aw_seq ?_
        | refine aw_block ?_
        | refine aw_skip ?_
        | refine aw_region ?_
        | refine aw_region_draw mixed ?_
        | refine aw_exit ?_
        | refine rq_exit ?_
        | refine blockQ_hit ?_
        | refine blockQ_miss (by decide) ?_
        | (refine ar_guard rfl rfl rfl rfl (fun h => ?_) (fun h => ?_) <;> (fail_if_success (cases h; done)) <;> (try simp at h) <;> (try subst h))
        | (refine aw_both rfl (fun h => ?_) (fun h => ?_) <;> (fail_if_success (cases h; done)) <;> (try simp at h) <;> (try subst h)))
  · have hd : ¬(i : Int) < (x.length : Int) := by omega
    have hz : Z = true := by
      rw [← hZ, List.all_eq_true]
      intro k hk
      rw [hpre k (by have := List.mem_range.1 hk; omega)]; rfl
    subst hz
    repeat' (first
      | exact aw_ret (ret_vals (by simp; exact rfl) (by simp [*]; fail_if_success (show _)))
      | exact aw_ret (ret_vals (by simp; exact rfl) (by simp [*]; omega))
      | refine ar_end rfl ?_
      | refine ar_endD rfl (by kernel_rfl) ?_
      | refine ar_fin rfl ?_
      | refine ar_finD rfl (by kernel_rfl) ?_
      | refine lq_exit ?_
      | refine ar_go3 _ rfl (by simp [rl_len, rl_getE, rl_set, rl_nil, List.length_set, List.getElem_set, IntKind.bits, ub_shl1', ub_shr, ub_or, ub_and, ub_andNot, ub_bit, Int.toNat_natCast, ub_zero, hd]; exact ⟨rfl, rfl, rfl⟩) rfl ?_
      | refine aw_sregK 2 [6, 7, 8] ?_
      | refine aw_regK 2 [6, 7, 8] ?_
      | refine aw_sregK 7 [] ?_
      | refine aw_regK 7 [] ?_
      | refine aw_sreg ?_
      | refine aw_sregD mixed ?_
      | refine aw_ifT (b := true) rfl rfl ?_
      | refine aw_ifF (b := false) rfl rfl ?_
      | refine aw_ifT rfl (by assumption) ?_
      | refine aw_ifF rfl (by assumption) ?_
      | refine aw_ifT rfl (decide_eq_true (by assumption)) ?_
      | refine aw_ifF rfl (decide_eq_false (by assumption)) ?_
      | refine aw_seq ?_
      | refine aw_block ?_
      | refine aw_skip ?_
      | refine aw_region ?_
      | refine aw_region_draw mixed ?_
      | refine aw_exit ?_
      | refine rq_exit ?_
      | refine blockQ_hit ?_
      | refine blockQ_miss (by decide) ?_
      | (refine ar_guard rfl rfl rfl rfl (fun h => ?_) (fun h => ?_) <;> (fail_if_success (cases h; done)) <;> (try simp at h) <;> (try subst h))
      | (refine aw_both rfl (fun h => ?_) (fun h => ?_) <;> (fail_if_success (cases h; done)) <;> (try simp at h) <;> (try subst h)))
set_option maxHeartbeats 16000000 in
theorem c_memory {x : Ev} : SC Try.prog 77 [.agg (evL x)] (B (memQ x)) := by
  refine scx_of Try.func77 rfl rfl rfl (Nat.le_of_ble_eq_true rfl) ?_
  by_cases h1 : x.k = 1
  ·
    repeat' (first
      | exact aw_ret (ret_vals (by simp; exact rfl) (by simp [memQ, h1]; fail_if_success (show _)))
      | exact aw_ret (ret_vals (by simp; exact rfl) (by simp [memQ, h1]; omega))
      | refine ar_end rfl ?_
      | refine ar_endD rfl (by kernel_rfl) ?_
      | refine ar_fin rfl ?_
      | refine ar_finD rfl (by kernel_rfl) ?_
      | refine ar_go3 _ rfl (by simp [evL, h1]; exact ⟨rfl, rfl, rfl⟩) rfl ?_
      | refine aw_sregK 0 [0] ?_
      | refine aw_regK 0 [0] ?_
      | refine aw_sregK 1 [1] ?_
      | refine aw_regK 1 [1] ?_
      | refine aw_sreg ?_
      | refine aw_sregD mixed ?_
      | refine aw_ifT (b := true) rfl rfl ?_
      | refine aw_ifF (b := false) rfl rfl ?_
      | refine aw_ifT rfl (by assumption) ?_
      | refine aw_ifF rfl (by assumption) ?_
      | refine aw_ifT rfl (decide_eq_true (by assumption)) ?_
      | refine aw_ifF rfl (decide_eq_false (by assumption)) ?_
      | refine aw_seq ?_
      | refine aw_block ?_
      | refine aw_skip ?_
      | refine aw_region ?_
      | refine aw_region_draw mixed ?_
      | refine aw_exit ?_
      | refine rq_exit ?_
      | refine blockQ_hit ?_
      | refine blockQ_miss (by decide) ?_
      | (refine ar_guard rfl rfl rfl rfl (fun h => ?_) (fun h => ?_) <;> (fail_if_success (cases h; done)) <;> (try simp at h) <;> (try subst h))
      | (refine aw_both rfl (fun h => ?_) (fun h => ?_) <;> (fail_if_success (cases h; done)) <;> (try simp at h) <;> (try subst h)))
  ·
    repeat' (first
      | exact aw_ret (ret_vals (by simp; exact rfl) (by simp [memQ, h1]; fail_if_success (show _)))
      | exact aw_ret (ret_vals (by simp; exact rfl) (by simp [memQ, h1]; omega))
      | refine ar_end rfl ?_
      | refine ar_endD rfl (by kernel_rfl) ?_
      | refine ar_fin rfl ?_
      | refine ar_finD rfl (by kernel_rfl) ?_
      | refine ar_go3 _ rfl (by simp [evL, h1]; exact ⟨rfl, rfl, rfl⟩) rfl ?_
      | refine aw_sregK 0 [0] ?_
      | refine aw_regK 0 [0] ?_
      | refine aw_sregK 1 [1] ?_
      | refine aw_regK 1 [1] ?_
      | refine aw_sreg ?_
      | refine aw_sregD mixed ?_
      | refine aw_ifT (b := true) rfl rfl ?_
      | refine aw_ifF (b := false) rfl rfl ?_
      | refine aw_ifT rfl (by assumption) ?_
      | refine aw_ifF rfl (by assumption) ?_
      | refine aw_ifT rfl (decide_eq_true (by assumption)) ?_
      | refine aw_ifF rfl (decide_eq_false (by assumption)) ?_
      | refine aw_seq ?_
      | refine aw_block ?_
      | refine aw_skip ?_
      | refine aw_region ?_
      | refine aw_region_draw mixed ?_
      | refine aw_exit ?_
      | refine rq_exit ?_
      | refine blockQ_hit ?_
      | refine blockQ_miss (by decide) ?_
      | (refine ar_guard rfl rfl rfl rfl (fun h => ?_) (fun h => ?_) <;> (fail_if_success (cases h; done)) <;> (try simp at h) <;> (try subst h))
      | (refine aw_both rfl (fun h => ?_) (fun h => ?_) <;> (fail_if_success (cases h; done)) <;> (try simp at h) <;> (try subst h)))
set_option maxHeartbeats 16000000 in
theorem c_alike1 {x y : Ev} : SC Try.prog 76 [.agg (evL x), .agg (evL y)] (B (alikeQ x y)) := by
  have hx := c_memory (x := x)
  have hy := c_memory (x := y)
  refine scx_of Try.func76 rfl rfl rfl (Nat.le_of_ble_eq_true rfl) ?_
  unfold alikeQ
  cases h1 : memQ x
  · rw [h1] at hx
    repeat' (first
      | exact aw_ret (ret_vals (by simp; exact rfl) (by simp [*]; fail_if_success (show _)))
      | exact aw_ret (ret_vals (by simp; exact rfl) (by simp [*]; omega))
      | refine ar_end rfl ?_
      | refine ar_endD rfl (by kernel_rfl) ?_
      | refine ar_fin rfl ?_
      | refine ar_finD rfl (by kernel_rfl) ?_
      | refine ar_callV Try.call77 hx rfl rfl rfl rfl rfl (by simp; done) (by rfl) (by simp; done) ?_
      | refine ar_callV_if Try.call77 hx rfl rfl rfl rfl rfl rfl (by simp; done) rfl (by rfl) (by simp; done) ?_
      | refine ar_callV Try.call77 hy rfl rfl rfl rfl rfl (by simp; done) (by rfl) (by simp; done) ?_
      | refine ar_callV_if Try.call77 hy rfl rfl rfl rfl rfl rfl (by simp; done) rfl (by rfl) (by simp; done) ?_
      | refine ar_go3 _ rfl (by simp [evL]; exact ⟨rfl, rfl, rfl⟩) rfl ?_
      | refine aw_sregK 0 [0, 1] ?_
      | refine aw_regK 0 [0, 1] ?_
      | refine aw_sregK 1 [2, 3] ?_
      | refine aw_regK 1 [2, 3] ?_
      | refine aw_sreg ?_
      | refine aw_sregD mixed ?_
      | refine aw_ifT (b := true) rfl rfl ?_
      | refine aw_ifF (b := false) rfl rfl ?_
      | refine aw_ifT rfl (by assumption) ?_
      | refine aw_ifF rfl (by assumption) ?_
      | refine aw_ifT rfl (decide_eq_true (by assumption)) ?_
      | refine aw_ifF rfl (decide_eq_false (by assumption)) ?_
      | refine aw_seq ?_
      | refine aw_block ?_
      | refine aw_skip ?_
      | refine aw_region ?_
      | refine aw_region_draw mixed ?_
      | refine aw_exit ?_
      | refine rq_exit ?_
      | refine blockQ_hit ?_
      | refine blockQ_miss (by decide) ?_
      | (refine ar_guard rfl rfl rfl rfl (fun h => ?_) (fun h => ?_) <;> (fail_if_success (cases h; done)) <;> (try simp at h) <;> (try subst h))
      | (refine aw_both rfl (fun h => ?_) (fun h => ?_) <;> (fail_if_success (cases h; done)) <;> (try simp at h) <;> (try subst h)))
  · rw [h1] at hx
    cases h2 : memQ y
    · rw [h2] at hy
      repeat' (first
        | exact aw_ret (ret_vals (by simp; exact rfl) (by simp [*]; fail_if_success (show _)))
        | exact aw_ret (ret_vals (by simp; exact rfl) (by simp [*]; omega))
        | refine ar_end rfl ?_
        | refine ar_endD rfl (by kernel_rfl) ?_
        | refine ar_fin rfl ?_
        | refine ar_finD rfl (by kernel_rfl) ?_
        | refine ar_callV Try.call77 hx rfl rfl rfl rfl rfl (by simp; done) (by rfl) (by simp; done) ?_
        | refine ar_callV_if Try.call77 hx rfl rfl rfl rfl rfl rfl (by simp; done) rfl (by rfl) (by simp; done) ?_
        | refine ar_callV Try.call77 hy rfl rfl rfl rfl rfl (by simp; done) (by rfl) (by simp; done) ?_
        | refine ar_callV_if Try.call77 hy rfl rfl rfl rfl rfl rfl (by simp; done) rfl (by rfl) (by simp; done) ?_
        | refine ar_go3 _ rfl (by simp [evL]; exact ⟨rfl, rfl, rfl⟩) rfl ?_
        | refine aw_sregK 0 [0, 1] ?_
        | refine aw_regK 0 [0, 1] ?_
        | refine aw_sregK 1 [2, 3] ?_
        | refine aw_regK 1 [2, 3] ?_
        | refine aw_sreg ?_
        | refine aw_sregD mixed ?_
        | refine aw_ifT (b := true) rfl rfl ?_
        | refine aw_ifF (b := false) rfl rfl ?_
        | refine aw_ifT rfl (by assumption) ?_
        | refine aw_ifF rfl (by assumption) ?_
        | refine aw_ifT rfl (decide_eq_true (by assumption)) ?_
        | refine aw_ifF rfl (decide_eq_false (by assumption)) ?_
        | refine aw_seq ?_
        | refine aw_block ?_
        | refine aw_skip ?_
        | refine aw_region ?_
        | refine aw_region_draw mixed ?_
        | refine aw_exit ?_
        | refine rq_exit ?_
        | refine blockQ_hit ?_
        | refine blockQ_miss (by decide) ?_
        | (refine ar_guard rfl rfl rfl rfl (fun h => ?_) (fun h => ?_) <;> (fail_if_success (cases h; done)) <;> (try simp at h) <;> (try subst h))
        | (refine aw_both rfl (fun h => ?_) (fun h => ?_) <;> (fail_if_success (cases h; done)) <;> (try simp at h) <;> (try subst h)))
    · rw [h2] at hy
      repeat' (first
        | exact aw_ret (ret_vals (by simp; exact rfl) (by simp [*]; fail_if_success (show _)))
        | exact aw_ret (ret_vals (by simp; exact rfl) (by simp [*]; omega))
        | refine ar_end rfl ?_
        | refine ar_endD rfl (by kernel_rfl) ?_
        | refine ar_fin rfl ?_
        | refine ar_finD rfl (by kernel_rfl) ?_
        | refine ar_callV Try.call77 hx rfl rfl rfl rfl rfl (by simp; done) (by rfl) (by simp; done) ?_
        | refine ar_callV_if Try.call77 hx rfl rfl rfl rfl rfl rfl (by simp; done) rfl (by rfl) (by simp; done) ?_
        | refine ar_callV Try.call77 hy rfl rfl rfl rfl rfl (by simp; done) (by rfl) (by simp; done) ?_
        | refine ar_callV_if Try.call77 hy rfl rfl rfl rfl rfl rfl (by simp; done) rfl (by rfl) (by simp; done) ?_
        | refine ar_go3 _ rfl (by simp [evL]; exact ⟨rfl, rfl, rfl⟩) rfl ?_
        | refine aw_sregK 0 [0, 1] ?_
        | refine aw_regK 0 [0, 1] ?_
        | refine aw_sregK 1 [2, 3] ?_
        | refine aw_regK 1 [2, 3] ?_
        | refine aw_sreg ?_
        | refine aw_sregD mixed ?_
        | refine aw_ifT (b := true) rfl rfl ?_
        | refine aw_ifF (b := false) rfl rfl ?_
        | refine aw_ifT rfl (by assumption) ?_
        | refine aw_ifF rfl (by assumption) ?_
        | refine aw_ifT rfl (decide_eq_true (by assumption)) ?_
        | refine aw_ifF rfl (decide_eq_false (by assumption)) ?_
        | refine aw_seq ?_
        | refine aw_block ?_
        | refine aw_skip ?_
        | refine aw_region ?_
        | refine aw_region_draw mixed ?_
        | refine aw_exit ?_
        | refine rq_exit ?_
        | refine blockQ_hit ?_
        | refine blockQ_miss (by decide) ?_
        | (refine ar_guard rfl rfl rfl rfl (fun h => ?_) (fun h => ?_) <;> (fail_if_success (cases h; done)) <;> (try simp at h) <;> (try subst h))
        | (refine aw_both rfl (fun h => ?_) (fun h => ?_) <;> (fail_if_success (cases h; done)) <;> (try simp at h) <;> (try subst h)))
set_option maxHeartbeats 16000000 in
theorem c_alike {es : List Ev} (h32 : es.length ≤ 32) : SC Try.prog 49 [.agg (exL es)] (.pv (.sl 1 (rl (eventsR alikeQ es)))) := by
  have h := c_evpairs Try.call76 (fun x y => c_alike1) h32
  refine scx_of Try.func49 rfl rfl rfl (Nat.le_of_ble_eq_true rfl) ?_
  repeat' (first
    | exact aw_ret (ret_vals (by simp; exact rfl) (by simp [*]; fail_if_success (show _)))
    | exact aw_ret (ret_vals (by simp; exact rfl) (by simp [*]; omega))
    | refine ar_end rfl ?_
    | refine ar_endD rfl (by kernel_rfl) ?_
    | refine ar_fin rfl ?_
    | refine ar_finD rfl (by kernel_rfl) ?_
    | refine ar_callV Try.call75 h rfl rfl rfl rfl rfl (by simp; done) (by rfl) (by simp; done) ?_
    | refine ar_callV_if Try.call75 h rfl rfl rfl rfl rfl rfl (by simp; done) rfl (by rfl) (by simp; done) ?_
    | refine ar_go3 _ rfl (by simp [*]; exact ⟨rfl, rfl, rfl⟩) rfl ?_
    | refine aw_sregK 0 [0] ?_
    | refine aw_regK 0 [0] ?_
    | refine aw_sregK 1 [1] ?_
    | refine aw_regK 1 [1] ?_
    | refine aw_sreg ?_
    | refine aw_sregD mixed ?_
    | refine aw_ifT (b := true) rfl rfl ?_
    | refine aw_ifF (b := false) rfl rfl ?_
    | refine aw_ifT rfl (by assumption) ?_
    | refine aw_ifF rfl (by assumption) ?_
    | refine aw_ifT rfl (decide_eq_true (by assumption)) ?_
    | refine aw_ifF rfl (decide_eq_false (by assumption)) ?_
    | refine aw_seq ?_
    | refine aw_block ?_
    | refine aw_skip ?_
    | refine aw_region ?_
    | refine aw_region_draw mixed ?_
    | refine aw_exit ?_
    | refine rq_exit ?_
    | refine blockQ_hit ?_
    | refine blockQ_miss (by decide) ?_
    | (refine ar_guard rfl rfl rfl rfl (fun h => ?_) (fun h => ?_) <;> (fail_if_success (cases h; done)) <;> (try simp at h) <;> (try subst h))
    | (refine aw_both rfl (fun h => ?_) (fun h => ?_) <;> (fail_if_success (cases h; done)) <;> (try simp at h) <;> (try subst h)))
set_option maxHeartbeats 16000000 in
theorem c_contains {l : List Int} {x : Int} (hl : l.length ≤ 1000000) : SC Try.prog 86 [.pv (.sl 1 (ints l)), I .i64 x] (B (l.contains x)) :=
  sc_contains (fun b off n c zs x w h1 h2 h3 => Try.slices_Contains_int b off n c zs x w h1 h2 h3) (fun a c x w => Try.slices_Contains_int_empty a c x w) hl
set_option maxHeartbeats 16000000 in
theorem c_kinds1 {l : List Int} {x : Ev} (hl : l.length ≤ 1000000) : SCX Try.prog 85 [.agg (evL x), .ptr (.ext 0) 0] [(.ext 0, some (.box 53 [.pv (.sl 1 (ints l))]))] (B (l.contains x.k)) [(.ext 0, some (.box 53 [.pv (.sl 1 (ints l))]))] := by
  have hC := c_contains (x := x.k) hl
  generalize l.contains x.k = b at *
  refine scx_of Try.func85 rfl rfl rfl (Nat.le_of_ble_eq_true rfl) ?_
  repeat' (first
    | refine ar_end rfl ?_
    | refine ar_endD rfl (by kernel_rfl) ?_
    | refine ar_fin rfl ?_
    | refine ar_finD rfl (by kernel_rfl) ?_
    | refine ar_callV Try.call86 hC rfl rfl rfl rfl rfl (by simp; done) (by rfl) (by simp; done) ?_
    | refine ar_callV_if Try.call86 hC rfl rfl rfl rfl rfl rfl (by simp; done) rfl (by rfl) (by simp; done) ?_
    | exact aw_ret (ret_rens .ret (.inr rfl) [] [.ext 0] (by simp; exact rfl) (by simp; exact rfl) (by simp []; fail_if_success (show _)) (by simp []; fail_if_success (show _)) (by simp))
    | refine ar_go3 _ rfl (by simp [evL]; exact ⟨rfl, rfl, rfl⟩) rfl ?_
    | refine aw_sregK 0 [0, 1] ?_
    | refine aw_regK 0 [0, 1] ?_
    | refine aw_sregK 1 [1, 2] ?_
    | refine aw_regK 1 [1, 2] ?_
    | refine aw_sreg ?_
    | refine aw_sregD mixed ?_
    | refine aw_ifT (b := true) rfl rfl ?_
    | refine aw_ifF (b := false) rfl rfl ?_
    | refine aw_ifT rfl (by assumption) ?_
    | refine aw_ifF rfl (by assumption) ?_
    | refine aw_ifT rfl (decide_eq_true (by assumption)) ?_
    | refine aw_ifF rfl (decide_eq_false (by assumption)) ?_
    | refine aw_seq ?_
    | refine aw_block ?_
    | refine aw_skip ?_
    | refine aw_region ?_
    | refine aw_region_draw mixed ?_
    | refine aw_exit ?_
    | refine rq_exit ?_
    | refine blockQ_hit ?_
    | refine blockQ_miss (by decide) ?_
    | (refine ar_guard rfl rfl rfl rfl (fun h => ?_) (fun h => ?_) <;> (fail_if_success (cases h; done)) <;> (try simp at h) <;> (try subst h))
    | (refine aw_both rfl (fun h => ?_) (fun h => ?_) <;> (fail_if_success (cases h; done)) <;> (try simp at h) <;> (try subst h)))
set_option maxHeartbeats 16000000 in
theorem c_kinds {es : List Ev} {l : List Int} (h32 : es.length ≤ 32) (hl : l.length ≤ 1000000) : SC Try.prog 60 [.agg (exL es), .pv (.sl 1 (ints l))] (I .u32 (ub (maskE (fun x => l.contains x.k) es))) := by
  have hM := c_mask (T := 53) Try.call85 (fun x => c_kinds1 (l := l) (x := x) hl) h32
  refine scx_of Try.func60 rfl rfl rfl (Nat.le_of_ble_eq_true rfl) ?_
  repeat' (first
    | exact aw_ret (ret_vals (by simp; exact rfl) (by simp [*]; fail_if_success (show _)))
    | exact aw_ret (ret_vals (by simp; exact rfl) (by simp [*]; omega))
    | refine ar_end rfl ?_
    | refine ar_endD rfl (by kernel_rfl) ?_
    | refine ar_fin rfl ?_
    | refine ar_finD rfl (by kernel_rfl) ?_
    | refine ar_callE [.loc 3] [.loc 3] [] Try.call84 hM rfl rfl rfl rfl (by simp; exact rfl) rfl (by simp; done) (by rfl) (by simp; fail_if_success (show _)) rfl ⟨by simp, by simp, (by simp [okY]; fail_if_success (show _)), by simp, by simp⟩ (by simp; fail_if_success (show _)) ?_
    | refine ar_go3 _ rfl (by simp [*]; exact ⟨rfl, rfl, rfl⟩) rfl ?_
    | refine aw_sregK 0 [0, 1] ?_
    | refine aw_regK 0 [0, 1] ?_
    | refine aw_sregK 1 [2, 3] ?_
    | refine aw_regK 1 [2, 3] ?_
    | refine aw_sreg ?_
    | refine aw_sregD mixed ?_
    | refine aw_ifT (b := true) rfl rfl ?_
    | refine aw_ifF (b := false) rfl rfl ?_
    | refine aw_ifT rfl (by assumption) ?_
    | refine aw_ifF rfl (by assumption) ?_
    | refine aw_ifT rfl (decide_eq_true (by assumption)) ?_
    | refine aw_ifF rfl (decide_eq_false (by assumption)) ?_
    | refine aw_seq ?_
    | refine aw_block ?_
    | refine aw_skip ?_
    | refine aw_region ?_
    | refine aw_region_draw mixed ?_
    | refine aw_exit ?_
    | refine rq_exit ?_
    | refine blockQ_hit ?_
    | refine blockQ_miss (by decide) ?_
    | (refine ar_guard rfl rfl rfl rfl (fun h => ?_) (fun h => ?_) <;> (fail_if_success (cases h; done)) <;> (try simp at h) <;> (try subst h))
    | (refine aw_both rfl (fun h => ?_) (fun h => ?_) <;> (fail_if_success (cases h; done)) <;> (try simp at h) <;> (try subst h)))
end Go.Eng
