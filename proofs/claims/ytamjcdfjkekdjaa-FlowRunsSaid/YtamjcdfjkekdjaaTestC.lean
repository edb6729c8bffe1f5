import Derived.Test.YtamjcdfjkekdjaaTestB
import Derived.Test.YtamjcdfjkekdjaaEngC
set_option linter.unusedSimpArgs false
set_option linter.unusedVariables false
set_option linter.constructorNameAsVariable false
set_option autoImplicit false
namespace Go.Eng
open Go Go.RowKit Go.Proofs
def barF (op : Int) : Bool := decide (op = 11 ∨ op = 12)
def braF (op : Int) : Bool := decide (op = 13 ∨ op = 14)
set_option maxHeartbeats 16000000 in
theorem c_barrier {op d a b l m : Int} : SC Try.prog 102 [.agg [C .i64 op, C .i64 d, C .i64 a, C .i64 b, C .i64 l, C .i64 m]] (B (barF op)) := by
  refine scx_of Try.func102 rfl rfl rfl (Nat.le_of_ble_eq_true rfl) ?_
  repeat' (first
    | exact aw_ret (ret_vals (by simp; exact rfl) (by simp [barF, *]; fail_if_success (show _)))
    | exact aw_ret (ret_vals (by simp; exact rfl) (by simp [barF, *]; omega))
    | refine ar_end rfl ?_
    | refine ar_endD rfl (by kernel_rfl) ?_
    | refine ar_fin rfl ?_
    | refine ar_finD rfl (by kernel_rfl) ?_
    | refine ar_go3 _ rfl (by simp [*]; exact ⟨rfl, rfl, rfl⟩) rfl ?_
    | refine aw_sregK 0 [0] ?_
    | refine aw_regK 0 [0] ?_
    | refine aw_sregK 1 [1] ?_
    | refine aw_regK 1 [1] ?_
    | refine aw_sreg ?_
    | refine aw_sregD mixed ?_
    | refine aw_ifT (b := true) rfl rfl ?_
    | refine aw_ifF (b := false) rfl rfl ?_
    | refine aw_ifT rfl (by assumption) ?_
    | refine aw_ifF rfl (by assumption) ?_
    | refine aw_ifT rfl (decide_eq_true (by assumption)) ?_
    | refine aw_ifF rfl (decide_eq_false (by assumption)) ?_
    | refine aw_seq ?_
    | refine aw_block ?_
    | refine aw_skip ?_
    | refine aw_region ?_
    | refine aw_region_draw mixed ?_
    | refine aw_exit ?_
    | refine rq_exit ?_
    | refine blockQ_hit ?_
    | refine blockQ_miss (by decide) ?_
    | (refine ar_guard rfl rfl rfl rfl (fun h => ?_) (fun h => ?_) <;> (fail_if_success (cases h; done)) <;> (try simp at h) <;> (try subst h))
    | (refine aw_both rfl (fun h => ?_) (fun h => ?_) <;> (fail_if_success (cases h; done)) <;> (try simp at h) <;> (try subst h)))
set_option maxHeartbeats 16000000 in
theorem c_fence {op d a b l m : Int} : SC Try.prog 104 [.agg [C .i64 op, C .i64 d, C .i64 a, C .i64 b, C .i64 l, C .i64 m]] (B (barF op)) := by
  refine scx_of Try.func104 rfl rfl rfl (Nat.le_of_ble_eq_true rfl) ?_
  repeat' (first
    | exact aw_ret (ret_vals (by simp; exact rfl) (by simp [barF, *]; fail_if_success (show _)))
    | exact aw_ret (ret_vals (by simp; exact rfl) (by simp [barF, *]; omega))
    | refine ar_end rfl ?_
    | refine ar_endD rfl (by kernel_rfl) ?_
    | refine ar_fin rfl ?_
    | refine ar_finD rfl (by kernel_rfl) ?_
    | refine ar_go3 _ rfl (by simp [*]; exact ⟨rfl, rfl, rfl⟩) rfl ?_
    | refine aw_sregK 0 [0] ?_
    | refine aw_regK 0 [0] ?_
    | refine aw_sregK 1 [1] ?_
    | refine aw_regK 1 [1] ?_
    | refine aw_sreg ?_
    | refine aw_sregD mixed ?_
    | refine aw_ifT (b := true) rfl rfl ?_
    | refine aw_ifF (b := false) rfl rfl ?_
    | refine aw_ifT rfl (by assumption) ?_
    | refine aw_ifF rfl (by assumption) ?_
    | refine aw_ifT rfl (decide_eq_true (by assumption)) ?_
    | refine aw_ifF rfl (decide_eq_false (by assumption)) ?_
    | refine aw_seq ?_
    | refine aw_block ?_
    | refine aw_skip ?_
    | refine aw_region ?_
    | refine aw_region_draw mixed ?_
    | refine aw_exit ?_
    | refine rq_exit ?_
    | refine blockQ_hit ?_
    | refine blockQ_miss (by decide) ?_
    | (refine ar_guard rfl rfl rfl rfl (fun h => ?_) (fun h => ?_) <;> (fail_if_success (cases h; done)) <;> (try simp at h) <;> (try subst h))
    | (refine aw_both rfl (fun h => ?_) (fun h => ?_) <;> (fail_if_success (cases h; done)) <;> (try simp at h) <;> (try subst h)))
set_option maxHeartbeats 16000000 in
theorem c_branch {op d a b l m : Int} : SC Try.prog 135 [.agg [C .i64 op, C .i64 d, C .i64 a, C .i64 b, C .i64 l, C .i64 m]] (B (braF op)) := by
  refine scx_of Try.func135 rfl rfl rfl (Nat.le_of_ble_eq_true rfl) ?_
  repeat' (first
    | exact aw_ret (ret_vals (by simp; exact rfl) (by simp [braF, *]; fail_if_success (show _)))
    | exact aw_ret (ret_vals (by simp; exact rfl) (by simp [braF, *]; omega))
    | refine ar_end rfl ?_
    | refine ar_endD rfl (by kernel_rfl) ?_
    | refine ar_fin rfl ?_
    | refine ar_finD rfl (by kernel_rfl) ?_
    | refine ar_go3 _ rfl (by simp [*]; exact ⟨rfl, rfl, rfl⟩) rfl ?_
    | refine aw_sregK 0 [0] ?_
    | refine aw_regK 0 [0] ?_
    | refine aw_sregK 1 [1] ?_
    | refine aw_regK 1 [1] ?_
    | refine aw_sreg ?_
    | refine aw_sregD mixed ?_
    | refine aw_ifT (b := true) rfl rfl ?_
    | refine aw_ifF (b := false) rfl rfl ?_
    | refine aw_ifT rfl (by assumption) ?_
    | refine aw_ifF rfl (by assumption) ?_
    | refine aw_ifT rfl (decide_eq_true (by assumption)) ?_
    | refine aw_ifF rfl (decide_eq_false (by assumption)) ?_
    | refine aw_seq ?_
    | refine aw_block ?_
    | refine aw_skip ?_
    | refine aw_region ?_
    | refine aw_region_draw mixed ?_
    | refine aw_exit ?_
    | refine rq_exit ?_
    | refine blockQ_hit ?_
    | refine blockQ_miss (by decide) ?_
    | (refine ar_guard rfl rfl rfl rfl (fun h => ?_) (fun h => ?_) <;> (fail_if_success (cases h; done)) <;> (try simp at h) <;> (try subst h))
    | (refine aw_both rfl (fun h => ?_) (fun h => ?_) <;> (fail_if_success (cases h; done)) <;> (try simp at h) <;> (try subst h)))
def setM (x : In) (n : Int) : In := { x with m := n }
def skipsF (x : In) (n : Int) : In := if braF x.op = true then setM x n else x
set_option maxHeartbeats 16000000 in
theorem c_skips {x : In} {n : Int} : SC Try.prog 105 [.agg (inL x), I .i64 n] (.agg (inL (skipsF x n))) := by
  refine scx_of Try.func105 rfl rfl rfl (Nat.le_of_ble_eq_true rfl) ?_
  repeat' (first
    | exact aw_ret (ret_vals (by simp; exact rfl) (by simp [inL, skipsF, setM, braF, *]; fail_if_success (show _)))
    | exact aw_ret (ret_vals (by simp; exact rfl) (by simp [inL, skipsF, setM, braF, *]; omega))
    | refine ar_end rfl ?_
    | refine ar_endD rfl (by kernel_rfl) ?_
    | refine ar_fin rfl ?_
    | refine ar_finD rfl (by kernel_rfl) ?_
    | refine ar_go3 _ rfl (by simp [inL, *]; exact ⟨rfl, rfl, rfl⟩) rfl ?_
    | refine aw_sregK 0 [0, 1] ?_
    | refine aw_regK 0 [0, 1] ?_
    | refine aw_sregK 1 [1, 2, 4] ?_
    | refine aw_regK 1 [1, 2, 4] ?_
    | refine aw_sregK 2 [1, 2, 4] ?_
    | refine aw_regK 2 [1, 2, 4] ?_
    | refine aw_sregK 3 [2, 4] ?_
    | refine aw_regK 3 [2, 4] ?_
    | refine aw_sreg ?_
    | refine aw_sregD mixed ?_
    | refine aw_ifT (b := true) rfl rfl ?_
    | refine aw_ifF (b := false) rfl rfl ?_
    | refine aw_ifT rfl (by assumption) ?_
    | refine aw_ifF rfl (by assumption) ?_
    | refine aw_ifT rfl (decide_eq_true (by assumption)) ?_
    | refine aw_ifF rfl (decide_eq_false (by assumption)) ?_
    | refine aw_seq ?_
    | refine aw_block ?_
    | refine aw_skip ?_
    | refine aw_region ?_
    | refine aw_region_draw mixed ?_
    | refine aw_exit ?_
    | refine rq_exit ?_
    | refine blockQ_hit ?_
    | refine blockQ_miss (by decide) ?_
    | (refine ar_guard rfl rfl rfl rfl (fun h => ?_) (fun h => ?_) <;> (fail_if_success (cases h; done)) <;> (try simp at h) <;> (try subst h))
    | (refine aw_both rfl (fun h => ?_) (fun h => ?_) <;> (fail_if_success (cases h; done)) <;> (try simp at h) <;> (try subst h)))
def bareF (x : In) : List In := bif barF x.op then [] else [x]
def dmb : In := ⟨11, 0, 0, 0, 0, 0⟩
def fencedF (x : In) : List In := bif hasL x.op then [dmb, x] else [x]
set_option maxHeartbeats 16000000 in
theorem c_Bare1_t {x : In} (h : barF x.op = true) : SCO Try.prog 101 [.agg (inL x)] 31 6 (insL (bareF x)) := by
  refine scx_of Try.func101 rfl rfl rfl (Nat.le_of_ble_eq_true rfl) ?_
  repeat' (first
    | refine ar_end rfl ?_
    | refine ar_endD rfl (by kernel_rfl) ?_
    | refine ar_fin rfl ?_
    | refine ar_finD rfl (by kernel_rfl) ?_
    | refine ar_callV Try.call102 c_barrier rfl rfl rfl rfl rfl (by simp; done) (by rfl) (by simp; done) ?_
    | refine ar_callV_if Try.call102 c_barrier rfl rfl rfl rfl rfl rfl (by simp; done) rfl (by rfl) (by simp; done) ?_
    | exact aw_ret (ret_ownNil 2 (e := 31) (es := 6) (by simp; exact rfl) (by simp) (by simp [bareF, h, insL]))
    | refine ar_go3 _ rfl (by simp [inL, h]; exact ⟨rfl, rfl, rfl⟩) rfl ?_
    | refine aw_sregK 0 [0] ?_
    | refine aw_regK 0 [0] ?_
    | refine aw_sregK 1 [1] ?_
    | refine aw_regK 1 [1] ?_
    | refine aw_sregK 2 [] ?_
    | refine aw_regK 2 [] ?_
    | refine aw_sregK 3 [1] ?_
    | refine aw_regK 3 [1] ?_
    | refine aw_sreg ?_
    | refine aw_sregD mixed ?_
    | refine aw_ifT (b := true) rfl rfl ?_
    | refine aw_ifF (b := false) rfl rfl ?_
    | refine aw_ifT rfl (by assumption) ?_
    | refine aw_ifF rfl (by assumption) ?_
    | refine aw_ifT rfl (decide_eq_true (by assumption)) ?_
    | refine aw_ifF rfl (decide_eq_false (by assumption)) ?_
    | refine aw_seq ?_
    | refine aw_block ?_
    | refine aw_skip ?_
    | refine aw_region ?_
    | refine aw_region_draw mixed ?_
    | refine aw_exit ?_
    | refine rq_exit ?_
    | refine blockQ_hit ?_
    | refine blockQ_miss (by decide) ?_
    | (refine ar_guard rfl rfl rfl rfl (fun h => ?_) (fun h => ?_) <;> (fail_if_success (cases h; done)) <;> (try simp at h) <;> (try subst h))
    | (refine aw_both rfl (fun h => ?_) (fun h => ?_) <;> (fail_if_success (cases h; done)) <;> (try simp at h) <;> (try subst h)))
set_option maxHeartbeats 16000000 in
theorem c_Bare1_f {x : In} (h : barF x.op = false) : SCO Try.prog 101 [.agg (inL x)] 31 6 (insL (bareF x)) := by
  refine scx_of Try.func101 rfl rfl rfl (Nat.le_of_ble_eq_true rfl) ?_
  repeat' (first
    | refine ar_end rfl ?_
    | refine ar_endD rfl (by kernel_rfl) ?_
    | refine ar_fin rfl ?_
    | refine ar_finD rfl (by kernel_rfl) ?_
    | refine ar_callV Try.call102 c_barrier rfl rfl rfl rfl rfl (by simp; done) (by rfl) (by simp; done) ?_
    | refine ar_callV_if Try.call102 c_barrier rfl rfl rfl rfl rfl rfl (by simp; done) rfl (by rfl) (by simp; done) ?_
    | exact aw_ret (ret_own (.loc 6) (by simp; exact rfl) (by simp) (by simp [bareF, h, insL, inL]))
    | refine ar_go3 _ rfl (by simp [inL, h]; exact ⟨rfl, rfl, rfl⟩) rfl ?_
    | refine aw_sregK 0 [0] ?_
    | refine aw_regK 0 [0] ?_
    | refine aw_sregK 1 [1] ?_
    | refine aw_regK 1 [1] ?_
    | refine aw_sregK 2 [] ?_
    | refine aw_regK 2 [] ?_
    | refine aw_sregK 3 [1] ?_
    | refine aw_regK 3 [1] ?_
    | refine aw_sreg ?_
    | refine aw_sregD mixed ?_
    | refine aw_ifT (b := true) rfl rfl ?_
    | refine aw_ifF (b := false) rfl rfl ?_
    | refine aw_ifT rfl (by assumption) ?_
    | refine aw_ifF rfl (by assumption) ?_
    | refine aw_ifT rfl (decide_eq_true (by assumption)) ?_
    | refine aw_ifF rfl (decide_eq_false (by assumption)) ?_
    | refine aw_seq ?_
    | refine aw_block ?_
    | refine aw_skip ?_
    | refine aw_region ?_
    | refine aw_region_draw mixed ?_
    | refine aw_exit ?_
    | refine rq_exit ?_
    | refine blockQ_hit ?_
    | refine blockQ_miss (by decide) ?_
    | (refine ar_guard rfl rfl rfl rfl (fun h => ?_) (fun h => ?_) <;> (fail_if_success (cases h; done)) <;> (try simp at h) <;> (try subst h))
    | (refine aw_both rfl (fun h => ?_) (fun h => ?_) <;> (fail_if_success (cases h; done)) <;> (try simp at h) <;> (try subst h)))
set_option maxHeartbeats 16000000 in
theorem c_Bare1 (x : In) : SCO Try.prog 101 [.agg (inL x)] 31 6 (insL (bareF x)) := by
  cases h : barF x.op
  · exact c_Bare1_f h
  · exact c_Bare1_t h
set_option maxHeartbeats 16000000 in
theorem c_Fenced1 (x : In) : SCO Try.prog 103 [.agg (inL x)] 31 6 (insL (fencedF x)) := by
  refine scx_of Try.func103 rfl rfl rfl (Nat.le_of_ble_eq_true rfl) ?_
  cases h : hasL x.op
  ·
    repeat' (first
      | refine ar_end rfl ?_
      | refine ar_endD rfl (by kernel_rfl) ?_
      | refine ar_fin rfl ?_
      | refine ar_finD rfl (by kernel_rfl) ?_
      | refine ar_callV Try.call44 c_ins_Kind rfl rfl rfl rfl rfl (by simp; done) (by rfl) (by simp; done) ?_
      | refine ar_callV_if Try.call44 c_ins_Kind rfl rfl rfl rfl rfl rfl (by simp; done) rfl (by rfl) (by simp; done) ?_
      | exact aw_ret (ret_own (.loc 7) (by simp; exact rfl) (by simp) (by simp [fencedF, h, insL, inL]))
      | refine ar_go3 _ rfl (by simp [inL, kind0, h]; exact ⟨rfl, rfl, rfl⟩) rfl ?_
      | refine aw_sregK 0 [0] ?_
      | refine aw_regK 0 [0] ?_
      | refine aw_sregK 1 [1] ?_
      | refine aw_regK 1 [1] ?_
      | refine aw_sregK 2 [1] ?_
      | refine aw_regK 2 [1] ?_
      | refine aw_sregK 3 [1] ?_
      | refine aw_regK 3 [1] ?_
      | refine aw_sreg ?_
      | refine aw_sregD mixed ?_
      | refine aw_ifT (b := true) rfl rfl ?_
      | refine aw_ifF (b := false) rfl rfl ?_
      | refine aw_ifT rfl (by assumption) ?_
      | refine aw_ifF rfl (by assumption) ?_
      | refine aw_ifT rfl (decide_eq_true (by assumption)) ?_
      | refine aw_ifF rfl (decide_eq_false (by assumption)) ?_
      | refine aw_seq ?_
      | refine aw_block ?_
      | refine aw_skip ?_
      | refine aw_region ?_
      | refine aw_region_draw mixed ?_
      | refine aw_exit ?_
      | refine rq_exit ?_
      | refine blockQ_hit ?_
      | refine blockQ_miss (by decide) ?_
      | (refine ar_guard rfl rfl rfl rfl (fun h => ?_) (fun h => ?_) <;> (fail_if_success (cases h; done)) <;> (try simp at h) <;> (try subst h))
      | (refine aw_both rfl (fun h => ?_) (fun h => ?_) <;> (fail_if_success (cases h; done)) <;> (try simp at h) <;> (try subst h)))
  ·
    repeat' (first
      | refine ar_end rfl ?_
      | refine ar_endD rfl (by kernel_rfl) ?_
      | refine ar_fin rfl ?_
      | refine ar_finD rfl (by kernel_rfl) ?_
      | refine ar_callV Try.call44 c_ins_Kind rfl rfl rfl rfl rfl (by simp; done) (by rfl) (by simp; done) ?_
      | refine ar_callV_if Try.call44 c_ins_Kind rfl rfl rfl rfl rfl rfl (by simp; done) rfl (by rfl) (by simp; done) ?_
      | exact aw_ret (ret_own (.loc 10) (by simp; exact rfl) (by simp) (by simp [fencedF, h, insL, inL, dmb]))
      | refine ar_go3 _ rfl (by simp [inL, kind0, h]; exact ⟨rfl, rfl, rfl⟩) rfl ?_
      | refine aw_sregK 0 [0] ?_
      | refine aw_regK 0 [0] ?_
      | refine aw_sregK 1 [1] ?_
      | refine aw_regK 1 [1] ?_
      | refine aw_sregK 2 [1] ?_
      | refine aw_regK 2 [1] ?_
      | refine aw_sregK 3 [1] ?_
      | refine aw_regK 3 [1] ?_
      | refine aw_sreg ?_
      | refine aw_sregD mixed ?_
      | refine aw_ifT (b := true) rfl rfl ?_
      | refine aw_ifF (b := false) rfl rfl ?_
      | refine aw_ifT rfl (by assumption) ?_
      | refine aw_ifF rfl (by assumption) ?_
      | refine aw_ifT rfl (decide_eq_true (by assumption)) ?_
      | refine aw_ifF rfl (decide_eq_false (by assumption)) ?_
      | refine aw_seq ?_
      | refine aw_block ?_
      | refine aw_skip ?_
      | refine aw_region ?_
      | refine aw_region_draw mixed ?_
      | refine aw_exit ?_
      | refine rq_exit ?_
      | refine blockQ_hit ?_
      | refine blockQ_miss (by decide) ?_
      | (refine ar_guard rfl rfl rfl rfl (fun h => ?_) (fun h => ?_) <;> (fail_if_success (cases h; done)) <;> (try simp at h) <;> (try subst h))
      | (refine aw_both rfl (fun h => ?_) (fun h => ?_) <;> (fail_if_success (cases h; done)) <;> (try simp at h) <;> (try subst h)))
def okTest (i : List Int) (t : List (List In)) : Bool := decide ((checkF i t).2.2 = 0)
set_option maxHeartbeats 16000000 in
theorem c_fine {i : List Int} {t : List (List In)} (hl : i.length ≤ maxLen) : SC Try.prog 99 [.agg (testL i t)] (B (okTest i t)) := by
  refine scx_of Try.func99 rfl rfl rfl (Nat.le_of_ble_eq_true rfl) ?_
  repeat' (first
    | exact aw_ret (ret_vals (by simp; exact rfl) (by simp [okTest]; fail_if_success (show _)))
    | exact aw_ret (ret_vals (by simp; exact rfl) (by simp [okTest]; omega))
    | refine ar_end rfl ?_
    | refine ar_endD rfl (by kernel_rfl) ?_
    | refine ar_fin rfl ?_
    | refine ar_finD rfl (by kernel_rfl) ?_
    | refine ar_callV Try.call55 (c_Check hl) rfl rfl rfl rfl rfl (by simp; done) (by rfl) (by simp; done) ?_
    | refine ar_callV_if Try.call55 (c_Check hl) rfl rfl rfl rfl rfl rfl (by simp; done) rfl (by rfl) (by simp; done) ?_
    | refine ar_go3 _ rfl (by simp [*]; exact ⟨rfl, rfl, rfl⟩) rfl ?_
    | refine aw_sregK 0 [0] ?_
    | refine aw_regK 0 [0] ?_
    | refine aw_sregK 1 [1] ?_
    | refine aw_regK 1 [1] ?_
    | refine aw_sregK 2 [5] ?_
    | refine aw_regK 2 [5] ?_
    | refine aw_sreg ?_
    | refine aw_sregD mixed ?_
    | refine aw_ifT (b := true) rfl rfl ?_
    | refine aw_ifF (b := false) rfl rfl ?_
    | refine aw_ifT rfl (by assumption) ?_
    | refine aw_ifF rfl (by assumption) ?_
    | refine aw_ifT rfl (decide_eq_true (by assumption)) ?_
    | refine aw_ifF rfl (decide_eq_false (by assumption)) ?_
    | refine aw_seq ?_
    | refine aw_block ?_
    | refine aw_skip ?_
    | refine aw_region ?_
    | refine aw_region_draw mixed ?_
    | refine aw_exit ?_
    | refine rq_exit ?_
    | refine blockQ_hit ?_
    | refine blockQ_miss (by decide) ?_
    | (refine ar_guard rfl rfl rfl rfl (fun h => ?_) (fun h => ?_) <;> (fail_if_success (cases h; done)) <;> (try simp at h) <;> (try subst h))
    | (refine aw_both rfl (fun h => ?_) (fun h => ?_) <;> (fail_if_success (cases h; done)) <;> (try simp at h) <;> (try subst h)))
end Go.Eng
set_option linter.unusedSimpArgs false
set_option linter.unusedVariables false
set_option linter.constructorNameAsVariable false
set_option autoImplicit false
namespace Go.Eng
open Go Go.RowKit Go.Proofs
def cntF (T : In → List In) : List In → Int
  | [] => 0
  | x :: l => ((T x).length : Int) + cntF T l
theorem cntF_append (T : In → List In) : ∀ s t : List In, cntF T (s ++ t) = cntF T s + cntF T t
  | [], t => by simp [cntF]
  | x :: s, t => by simp only [List.cons_append, cntF, cntF_append T s t]; omega
theorem cntF_succ (T : In → List In) {l : List In} {i : Nat} (h : i < l.length) : cntF T (l.take (i + 1)) = cntF T (l.take i) + (T l[i]).length := by
  rw [List.take_add_one, List.getElem?_eq_getElem h, cntF_append]
  simp [cntF]
theorem cntF_bnd {T : In → List In} (h2 : ∀ x, (T x).length ≤ 2) : ∀ l : List In, 0 ≤ cntF T l ∧ cntF T l ≤ 2 * l.length
  | [] => by simp [cntF]
  | x :: l => by
    have := cntF_bnd h2 l
    have := h2 x
    simp only [cntF, List.length_cons]
    omega
def oneF (T : In → List In) (x : In) (rest : List In) : List In := if braF x.op = true then [setM x (cntF T (rest.take x.m.toNat))] else T x
def turnL (T : In → List In) : List In → List In
  | [] => []
  | x :: rest => oneF T x rest ++ turnL T rest
theorem insL_append (s t : List In) : insL s ++ insL t = insL (s ++ t) := by simp [insL]
theorem thsL_append (s t : List (List In)) : thsL s ++ thsL t = thsL (s ++ t) := by simp [thsL]
/-- Branches stay within their thread. -/
def BraOk (th : List In) : Prop := ∀ (k : Nat) (h : k < th.length), braF (th[k]).op = true → 0 ≤ (th[k]).m ∧ (k : Int) + 1 + (th[k]).m ≤ th.length
theorem slice_eq (th : List In) (j M : Nat) : List.drop (j + 1) (List.take (j + 1 + M) (insL th)) = insL ((th.drop (j + 1)).take M) := by
  rw [List.drop_take]
  simp [insL, List.map_take, List.map_drop]
set_option maxHeartbeats 16000000 in
theorem c_turned {i : List Int} {t : List (List In)} {g : FuncId} {T : In → List In} (hent : Enters Try.prog g) (hT : ∀ x, SCO Try.prog g [.agg (inL x)] 31 6 (insL (T x))) (hbr : ∀ x, braF x.op = true → T x = [x]) (h2 : ∀ x, (T x).length ≤ 2)
    (ht : t.length ≤ 10) (hlen : ∀ th ∈ t, th.length ≤ 40) (hok : ∀ th ∈ t, BraOk th) : SC Try.prog 100 [.agg (testL i t), .fn g [] []] (.agg (testL i (t.map (turnL T)))) := by
  refine scx_of Try.func100 rfl rfl rfl (Nat.le_of_ble_eq_true rfl) ?_
  repeat' (first
    | exact aw_ret (ret_vals (by simp; exact rfl) (by simp [*]; fail_if_success (show _)))
    | exact aw_ret (ret_vals (by simp; exact rfl) (by simp [*]; omega))
    | refine ar_end rfl ?_
    | refine ar_endD rfl (by kernel_rfl) ?_
    | refine ar_fin rfl ?_
    | refine ar_finD rfl (by kernel_rfl) ?_
    | refine ar_go3 _ rfl (by simp [insL_len, thsL_len, insL_getE, thsL_getE, inL, ints_len]; exact ⟨rfl, rfl, rfl⟩) rfl ?_
    | refine aw_sregK 0 [0, 1] ?_
    | refine aw_regK 0 [0, 1] ?_
    | refine aw_sregK 1 [1, 2, 4] ?_
    | refine aw_regK 1 [1, 2, 4] ?_
    | refine aw_sregK 2 [1, 2, 4, 5] ?_
    | refine aw_regK 2 [1, 2, 4, 5] ?_
    | refine aw_sregK 3 [1, 4, 5, 19, 20, 21] ?_
    | refine aw_regK 3 [1, 4, 5, 19, 20, 21] ?_
    | refine aw_sregK 4 [1, 4, 5, 19, 20, 21] ?_
    | refine aw_regK 4 [1, 4, 5, 19, 20, 21] ?_
    | refine aw_sregK 5 [1, 4, 5, 7, 19, 20, 21] ?_
    | refine aw_regK 5 [1, 4, 5, 7, 19, 20, 21] ?_
    | refine aw_sregK 6 [1, 4, 5, 7, 8, 19, 20, 21] ?_
    | refine aw_regK 6 [1, 4, 5, 7, 8, 19, 20, 21] ?_
    | refine aw_sregK 7 [1, 4, 5, 7, 8, 19, 20, 21, 25, 26, 27] ?_
    | refine aw_regK 7 [1, 4, 5, 7, 8, 19, 20, 21, 25, 26, 27] ?_
    | refine aw_sregK 8 [1, 4, 5, 7, 8, 19, 20, 21, 25, 26, 27] ?_
    | refine aw_regK 8 [1, 4, 5, 7, 8, 19, 20, 21, 25, 26, 27] ?_
    | refine aw_sregK 9 [1, 4, 5, 7, 8, 9, 10, 19, 20, 21, 25, 26, 27] ?_
    | refine aw_regK 9 [1, 4, 5, 7, 8, 9, 10, 19, 20, 21, 25, 26, 27] ?_
    | refine aw_sregK 10 [1, 4, 5, 7, 8, 9, 10, 11, 19, 20, 21, 25, 26, 27] ?_
    | refine aw_regK 10 [1, 4, 5, 7, 8, 9, 10, 11, 19, 20, 21, 25, 26, 27] ?_
    | refine aw_sregK 11 [1, 4, 5, 7, 8, 9, 10, 11, 19, 20, 21, 25, 26, 27] ?_
    | refine aw_regK 11 [1, 4, 5, 7, 8, 9, 10, 11, 19, 20, 21, 25, 26, 27] ?_
    | refine aw_sregK 12 [1, 4, 5, 7, 8, 9, 10, 11, 12, 19, 20, 21, 25, 26, 27] ?_
    | refine aw_regK 12 [1, 4, 5, 7, 8, 9, 10, 11, 12, 19, 20, 21, 25, 26, 27] ?_
    | refine aw_sregK 13 [1, 4, 5, 7, 8, 11, 12, 19, 20, 21, 25, 26, 27, 45, 46, 47] ?_
    | refine aw_regK 13 [1, 4, 5, 7, 8, 11, 12, 19, 20, 21, 25, 26, 27, 45, 46, 47] ?_
    | refine aw_sregK 14 [1, 4, 5, 7, 8, 11, 12, 19, 20, 21, 25, 26, 27, 45, 46, 47] ?_
    | refine aw_regK 14 [1, 4, 5, 7, 8, 11, 12, 19, 20, 21, 25, 26, 27, 45, 46, 47] ?_
    | refine aw_sregK 15 [1, 4, 5, 7, 8, 11, 12, 14, 19, 20, 21, 25, 26, 27, 45, 46, 47] ?_
    | refine aw_regK 15 [1, 4, 5, 7, 8, 11, 12, 14, 19, 20, 21, 25, 26, 27, 45, 46, 47] ?_
    | refine aw_sregK 16 [1, 4, 5, 7, 8, 11, 12, 19, 20, 21, 25, 26, 27, 45, 46, 47] ?_
    | refine aw_regK 16 [1, 4, 5, 7, 8, 11, 12, 19, 20, 21, 25, 26, 27, 45, 46, 47] ?_
    | refine aw_sregK 17 [1, 4, 5, 7, 8, 11, 12, 19, 20, 21, 25, 26, 27] ?_
    | refine aw_regK 17 [1, 4, 5, 7, 8, 11, 12, 19, 20, 21, 25, 26, 27] ?_
    | refine aw_sregK 18 [1, 4, 5, 7, 8, 11, 19, 20, 21, 25, 26, 27] ?_
    | refine aw_regK 18 [1, 4, 5, 7, 8, 11, 19, 20, 21, 25, 26, 27] ?_
    | refine aw_sregK 19 [1, 4, 5, 7, 8, 19, 20, 21, 25, 26, 27] ?_
    | refine aw_regK 19 [1, 4, 5, 7, 8, 19, 20, 21, 25, 26, 27] ?_
    | refine aw_sregK 20 [1, 4, 5, 8, 19, 20, 21] ?_
    | refine aw_regK 20 [1, 4, 5, 8, 19, 20, 21] ?_
    | refine aw_sregK 21 [1, 4, 5, 19, 20, 21] ?_
    | refine aw_regK 21 [1, 4, 5, 19, 20, 21] ?_
    | refine aw_sregK 22 [4, 5] ?_
    | refine aw_regK 22 [4, 5] ?_
    | refine aw_sreg ?_
    | refine aw_sregD mixed ?_
    | refine aw_ifT (b := true) rfl rfl ?_
    | refine aw_ifF (b := false) rfl rfl ?_
    | refine aw_ifT rfl (by assumption) ?_
    | refine aw_ifF rfl (by assumption) ?_
    | refine aw_ifT rfl (decide_eq_true (by assumption)) ?_
    | refine aw_ifF rfl (decide_eq_false (by assumption)) ?_
    | refine aw_seq ?_
    | refine aw_block ?_
    | refine aw_skip ?_
    | refine aw_region ?_
    | refine aw_region_draw mixed ?_
    | refine aw_exit ?_
    | refine rq_exit ?_
    | refine blockQ_hit ?_
    | refine blockQ_miss (by decide) ?_
    | (refine ar_guard rfl rfl rfl rfl (fun h => ?_) (fun h => ?_) <;> (fail_if_success (cases h; done)) <;> (try simp at h) <;> (try subst h))
    | (refine aw_both rfl (fun h => ?_) (fun h => ?_) <;> (fail_if_success (cases h; done)) <;> (try simp at h) <;> (try subst h)))
  refine aw_nilC (.loc 5) 1 (.loc 1001) 64 1 (by simp; exact rfl) ?_
  refine aw_loopN [1, 4, 5, 19, 20, 21] [.loc 4, .loc 5, .loc 1001] (by simp; exact rfl) (ι := {n : Nat // n ≤ t.length}) (fun n => ⟨77, [(1, .fn g [] []), (4, .ptr (.loc 4) 0), (5, .ptr (.loc 5) 0), (19, .pv (.sl 1 (thsL t))), (20, I .i64 t.length), (21, I .i64 n.1)], [(.loc 4, some (.box 55 [.pv (.v (.slice none 0 0)), .pv (.v (.slice none 0 0))])), (.loc 5, some (.box 55 [.pv (.sl 1 (ints i)), .own (.loc 1001)])), (.loc 1001, some (.own 64 1 (thsL ((t.take n.1).map (turnL T)))))]⟩) (fun n => t.length - n.1) ⟨0, by omega⟩ (by simp [thsL_len, thsL]) ?_
  rintro ⟨n, hn⟩
  by_cases hlt : n < t.length
  · have hc : (n : Int) < (t.length : Int) := by omega
    have hw : IntKind.wrap .i64 ((n : Int) + 1) = (n : Int) + 1 := wrap64s (by omega) (by omega)
    have l40 := hlen _ (List.getElem_mem hlt)
    have hbo := hok _ (List.getElem_mem hlt)
    have htk : (t.take (n + 1)).map (turnL T) = (t.take n).map (turnL T) ++ [turnL T t[n]] := by rw [List.take_add_one, List.getElem?_eq_getElem hlt, List.map_append]; rfl
    generalize hth : t[n] = th at l40 hbo htk
    repeat' (first
      | exact aw_ret (ret_vals (by simp; exact rfl) (by simp [*]; fail_if_success (show _)))
      | exact aw_ret (ret_vals (by simp; exact rfl) (by simp [*]; omega))
      | refine ar_end rfl ?_
      | refine ar_endD rfl (by kernel_rfl) ?_
      | refine ar_fin rfl ?_
      | refine ar_finD rfl (by kernel_rfl) ?_
      | refine ar_go3 _ rfl (by simp [insL_len, thsL_len, insL_getE, thsL_getE, inL, ints_len, hc, hlt, hth]; exact ⟨rfl, rfl, rfl⟩) rfl ?_
      | refine aw_sregK 0 [0, 1] ?_
      | refine aw_regK 0 [0, 1] ?_
      | refine aw_sregK 1 [1, 2, 4] ?_
      | refine aw_regK 1 [1, 2, 4] ?_
      | refine aw_sregK 2 [1, 2, 4, 5] ?_
      | refine aw_regK 2 [1, 2, 4, 5] ?_
      | refine aw_sregK 3 [1, 4, 5, 19, 20, 21] ?_
      | refine aw_regK 3 [1, 4, 5, 19, 20, 21] ?_
      | refine aw_sregK 4 [1, 4, 5, 19, 20, 21] ?_
      | refine aw_regK 4 [1, 4, 5, 19, 20, 21] ?_
      | refine aw_sregK 5 [1, 4, 5, 7, 19, 20, 21] ?_
      | refine aw_regK 5 [1, 4, 5, 7, 19, 20, 21] ?_
      | refine aw_sregK 6 [1, 4, 5, 7, 8, 19, 20, 21] ?_
      | refine aw_regK 6 [1, 4, 5, 7, 8, 19, 20, 21] ?_
      | refine aw_sregK 7 [1, 4, 5, 7, 8, 19, 20, 21, 25, 26, 27] ?_
      | refine aw_regK 7 [1, 4, 5, 7, 8, 19, 20, 21, 25, 26, 27] ?_
      | refine aw_sregK 8 [1, 4, 5, 7, 8, 19, 20, 21, 25, 26, 27] ?_
      | refine aw_regK 8 [1, 4, 5, 7, 8, 19, 20, 21, 25, 26, 27] ?_
      | refine aw_sregK 9 [1, 4, 5, 7, 8, 9, 10, 19, 20, 21, 25, 26, 27] ?_
      | refine aw_regK 9 [1, 4, 5, 7, 8, 9, 10, 19, 20, 21, 25, 26, 27] ?_
      | refine aw_sregK 10 [1, 4, 5, 7, 8, 9, 10, 11, 19, 20, 21, 25, 26, 27] ?_
      | refine aw_regK 10 [1, 4, 5, 7, 8, 9, 10, 11, 19, 20, 21, 25, 26, 27] ?_
      | refine aw_sregK 11 [1, 4, 5, 7, 8, 9, 10, 11, 19, 20, 21, 25, 26, 27] ?_
      | refine aw_regK 11 [1, 4, 5, 7, 8, 9, 10, 11, 19, 20, 21, 25, 26, 27] ?_
      | refine aw_sregK 12 [1, 4, 5, 7, 8, 9, 10, 11, 12, 19, 20, 21, 25, 26, 27] ?_
      | refine aw_regK 12 [1, 4, 5, 7, 8, 9, 10, 11, 12, 19, 20, 21, 25, 26, 27] ?_
      | refine aw_sregK 13 [1, 4, 5, 7, 8, 11, 12, 19, 20, 21, 25, 26, 27, 45, 46, 47] ?_
      | refine aw_regK 13 [1, 4, 5, 7, 8, 11, 12, 19, 20, 21, 25, 26, 27, 45, 46, 47] ?_
      | refine aw_sregK 14 [1, 4, 5, 7, 8, 11, 12, 19, 20, 21, 25, 26, 27, 45, 46, 47] ?_
      | refine aw_regK 14 [1, 4, 5, 7, 8, 11, 12, 19, 20, 21, 25, 26, 27, 45, 46, 47] ?_
      | refine aw_sregK 15 [1, 4, 5, 7, 8, 11, 12, 14, 19, 20, 21, 25, 26, 27, 45, 46, 47] ?_
      | refine aw_regK 15 [1, 4, 5, 7, 8, 11, 12, 14, 19, 20, 21, 25, 26, 27, 45, 46, 47] ?_
      | refine aw_sregK 16 [1, 4, 5, 7, 8, 11, 12, 19, 20, 21, 25, 26, 27, 45, 46, 47] ?_
      | refine aw_regK 16 [1, 4, 5, 7, 8, 11, 12, 19, 20, 21, 25, 26, 27, 45, 46, 47] ?_
      | refine aw_sregK 17 [1, 4, 5, 7, 8, 11, 12, 19, 20, 21, 25, 26, 27] ?_
      | refine aw_regK 17 [1, 4, 5, 7, 8, 11, 12, 19, 20, 21, 25, 26, 27] ?_
      | refine aw_sregK 18 [1, 4, 5, 7, 8, 11, 19, 20, 21, 25, 26, 27] ?_
      | refine aw_regK 18 [1, 4, 5, 7, 8, 11, 19, 20, 21, 25, 26, 27] ?_
      | refine aw_sregK 19 [1, 4, 5, 7, 8, 19, 20, 21, 25, 26, 27] ?_
      | refine aw_regK 19 [1, 4, 5, 7, 8, 19, 20, 21, 25, 26, 27] ?_
      | refine aw_sregK 20 [1, 4, 5, 8, 19, 20, 21] ?_
      | refine aw_regK 20 [1, 4, 5, 8, 19, 20, 21] ?_
      | refine aw_sregK 21 [1, 4, 5, 19, 20, 21] ?_
      | refine aw_regK 21 [1, 4, 5, 19, 20, 21] ?_
      | refine aw_sregK 22 [4, 5] ?_
      | refine aw_regK 22 [4, 5] ?_
      | refine aw_sreg ?_
      | refine aw_sregD mixed ?_
      | refine aw_ifT (b := true) rfl rfl ?_
      | refine aw_ifF (b := false) rfl rfl ?_
      | refine aw_ifT rfl (by assumption) ?_
      | refine aw_ifF rfl (by assumption) ?_
      | refine aw_ifT rfl (decide_eq_true (by assumption)) ?_
      | refine aw_ifF rfl (decide_eq_false (by assumption)) ?_
      | refine aw_seq ?_
      | refine aw_block ?_
      | refine aw_skip ?_
      | refine aw_region ?_
      | refine aw_region_draw mixed ?_
      | refine aw_exit ?_
      | refine rq_exit ?_
      | refine blockQ_hit ?_
      | refine blockQ_miss (by decide) ?_
      | (refine ar_guard rfl rfl rfl rfl (fun h => ?_) (fun h => ?_) <;> (fail_if_success (cases h; done)) <;> (try simp at h) <;> (try subst h))
      | (refine aw_both rfl (fun h => ?_) (fun h => ?_) <;> (fail_if_success (cases h; done)) <;> (try simp at h) <;> (try subst h)))
    refine aw_nil 8 (.loc 1000) 31 6 (by simp; exact rfl) ?_
    refine aw_loopN [1, 4, 5, 7, 8, 19, 20, 21, 25, 26, 27] [.loc 4, .loc 5, .loc 1001, .loc 1000] (by simp; exact rfl) (ι := {p : Nat × List In // p.1 ≤ th.length ∧ p.2 ++ turnL T (th.drop p.1) = turnL T th ∧ p.2.length ≤ 2 * p.1}) (fun p => ⟨77, [(1, .fn g [] []), (4, .ptr (.loc 4) 0), (5, .ptr (.loc 5) 0), (7, .pv (.sl 6 (insL th))), (8, .own (.loc 1000)), (19, .pv (.sl 1 (thsL t))), (20, I .i64 t.length), (21, I .i64 n), (25, .pv (.sl 6 (insL th))), (26, I .i64 th.length), (27, I .i64 p.1.1)], [(.loc 4, some (.box 55 [.pv (.v (.slice none 0 0)), .pv (.v (.slice none 0 0))])), (.loc 5, some (.box 55 [.pv (.sl 1 (ints i)), .own (.loc 1001)])), (.loc 1001, some (.own 64 1 (thsL ((t.take n).map (turnL T))))), (.loc 1000, some (.own 31 6 (insL p.1.2)))]⟩) (fun p => th.length - p.1.1) ⟨(0, []), by simp, by simp, by simp⟩ (by simp [insL_len, insL]) ?_
    rintro ⟨⟨j, acc⟩, hj, hq, ha⟩
    dsimp only at hj hq ha
    by_cases hjl : j < th.length
    · have hd : (j : Int) < (th.length : Int) := by omega
      have w3 : IntKind.wrap .i64 ((j : Int) + 1) = (j : Int) + 1 := wrap64s (by omega) (by omega)
      rw [List.drop_eq_getElem_cons hjl, turnL] at hq
      have hb := hbo j hjl
      generalize hx : th[j] = x at hq hb
      have hx2 := h2 x
      cases hbx : braF x.op
      · have ho : oneF T x (th.drop (j + 1)) = T x := by simp [oneF, hbx]
        rw [ho, ← List.append_assoc] at hq
        repeat' (first
          | refine ar_end rfl ?_
          | refine ar_endD rfl (by kernel_rfl) ?_
          | refine ar_fin rfl ?_
          | refine ar_finD rfl (by kernel_rfl) ?_
          | refine ar_callV Try.call135 c_branch rfl rfl rfl rfl rfl (by simp; done) (by rfl) (by simp; done) ?_
          | refine ar_callV_if Try.call135 c_branch rfl rfl rfl rfl rfl rfl (by simp; done) rfl (by rfl) (by simp; done) ?_
          | refine ar_callO hent (hT _) rfl rfl rfl rfl (by simp; exact rfl) rfl (by simp; done) (by rfl) rfl ?_
          | refine ar_appO rfl rfl rfl rfl rfl (by simp; exact rfl) rfl (by simp; exact rfl) (by simp; exact rfl) (by simp; exact ⟨rfl, rfl⟩) rfl (by simp; exact rfl) (by simp; done) (by decide) (by simp [insL_len, thsL_len, maxLen]; omega) ?_
          | refine lq_normR (.loc 67) (.loc 1000) [1, 4, 5, 7, 8, 19, 20, 21, 25, 26, 27] [.loc 4, .loc 5, .loc 1001, .loc 1000] (by simp; exact rfl) ⟨(j + 1, acc ++ T x), by dsimp only; omega, hq, by simp; omega⟩ (by dsimp only; omega) (by simp [insL_append])
          | refine ar_go3 _ rfl (by simp [insL_len, thsL_len, insL_getE, thsL_getE, inL, ints_len, hd, hjl, hx, w3, hbx]; exact ⟨rfl, rfl, rfl⟩) rfl ?_
          | refine aw_sregK 0 [0, 1] ?_
          | refine aw_regK 0 [0, 1] ?_
          | refine aw_sregK 1 [1, 2, 4] ?_
          | refine aw_regK 1 [1, 2, 4] ?_
          | refine aw_sregK 2 [1, 2, 4, 5] ?_
          | refine aw_regK 2 [1, 2, 4, 5] ?_
          | refine aw_sregK 3 [1, 4, 5, 19, 20, 21] ?_
          | refine aw_regK 3 [1, 4, 5, 19, 20, 21] ?_
          | refine aw_sregK 4 [1, 4, 5, 19, 20, 21] ?_
          | refine aw_regK 4 [1, 4, 5, 19, 20, 21] ?_
          | refine aw_sregK 5 [1, 4, 5, 7, 19, 20, 21] ?_
          | refine aw_regK 5 [1, 4, 5, 7, 19, 20, 21] ?_
          | refine aw_sregK 6 [1, 4, 5, 7, 8, 19, 20, 21] ?_
          | refine aw_regK 6 [1, 4, 5, 7, 8, 19, 20, 21] ?_
          | refine aw_sregK 7 [1, 4, 5, 7, 8, 19, 20, 21, 25, 26, 27] ?_
          | refine aw_regK 7 [1, 4, 5, 7, 8, 19, 20, 21, 25, 26, 27] ?_
          | refine aw_sregK 8 [1, 4, 5, 7, 8, 19, 20, 21, 25, 26, 27] ?_
          | refine aw_regK 8 [1, 4, 5, 7, 8, 19, 20, 21, 25, 26, 27] ?_
          | refine aw_sregK 9 [1, 4, 5, 7, 8, 9, 10, 19, 20, 21, 25, 26, 27] ?_
          | refine aw_regK 9 [1, 4, 5, 7, 8, 9, 10, 19, 20, 21, 25, 26, 27] ?_
          | refine aw_sregK 10 [1, 4, 5, 7, 8, 9, 10, 11, 19, 20, 21, 25, 26, 27] ?_
          | refine aw_regK 10 [1, 4, 5, 7, 8, 9, 10, 11, 19, 20, 21, 25, 26, 27] ?_
          | refine aw_sregK 11 [1, 4, 5, 7, 8, 9, 10, 11, 19, 20, 21, 25, 26, 27] ?_
          | refine aw_regK 11 [1, 4, 5, 7, 8, 9, 10, 11, 19, 20, 21, 25, 26, 27] ?_
          | refine aw_sregK 12 [1, 4, 5, 7, 8, 9, 10, 11, 12, 19, 20, 21, 25, 26, 27] ?_
          | refine aw_regK 12 [1, 4, 5, 7, 8, 9, 10, 11, 12, 19, 20, 21, 25, 26, 27] ?_
          | refine aw_sregK 13 [1, 4, 5, 7, 8, 11, 12, 19, 20, 21, 25, 26, 27, 45, 46, 47] ?_
          | refine aw_regK 13 [1, 4, 5, 7, 8, 11, 12, 19, 20, 21, 25, 26, 27, 45, 46, 47] ?_
          | refine aw_sregK 14 [1, 4, 5, 7, 8, 11, 12, 19, 20, 21, 25, 26, 27, 45, 46, 47] ?_
          | refine aw_regK 14 [1, 4, 5, 7, 8, 11, 12, 19, 20, 21, 25, 26, 27, 45, 46, 47] ?_
          | refine aw_sregK 15 [1, 4, 5, 7, 8, 11, 12, 14, 19, 20, 21, 25, 26, 27, 45, 46, 47] ?_
          | refine aw_regK 15 [1, 4, 5, 7, 8, 11, 12, 14, 19, 20, 21, 25, 26, 27, 45, 46, 47] ?_
          | refine aw_sregK 16 [1, 4, 5, 7, 8, 11, 12, 19, 20, 21, 25, 26, 27, 45, 46, 47] ?_
          | refine aw_regK 16 [1, 4, 5, 7, 8, 11, 12, 19, 20, 21, 25, 26, 27, 45, 46, 47] ?_
          | refine aw_sregK 17 [1, 4, 5, 7, 8, 11, 12, 19, 20, 21, 25, 26, 27] ?_
          | refine aw_regK 17 [1, 4, 5, 7, 8, 11, 12, 19, 20, 21, 25, 26, 27] ?_
          | refine aw_sregK 18 [1, 4, 5, 7, 8, 11, 19, 20, 21, 25, 26, 27] ?_
          | refine aw_regK 18 [1, 4, 5, 7, 8, 11, 19, 20, 21, 25, 26, 27] ?_
          | refine aw_sregK 19 [1, 4, 5, 7, 8, 19, 20, 21, 25, 26, 27] ?_
          | refine aw_regK 19 [1, 4, 5, 7, 8, 19, 20, 21, 25, 26, 27] ?_
          | refine aw_sregK 20 [1, 4, 5, 8, 19, 20, 21] ?_
          | refine aw_regK 20 [1, 4, 5, 8, 19, 20, 21] ?_
          | refine aw_sregK 21 [1, 4, 5, 19, 20, 21] ?_
          | refine aw_regK 21 [1, 4, 5, 19, 20, 21] ?_
          | refine aw_sregK 22 [4, 5] ?_
          | refine aw_regK 22 [4, 5] ?_
          | refine aw_sreg ?_
          | refine aw_sregD mixed ?_
          | refine aw_ifT (b := true) rfl rfl ?_
          | refine aw_ifF (b := false) rfl rfl ?_
          | refine aw_ifT rfl (by assumption) ?_
          | refine aw_ifF rfl (by assumption) ?_
          | refine aw_ifT rfl (decide_eq_true (by assumption)) ?_
          | refine aw_ifF rfl (decide_eq_false (by assumption)) ?_
          | refine aw_seq ?_
          | refine aw_block ?_
          | refine aw_skip ?_
          | refine aw_region ?_
          | refine aw_region_draw mixed ?_
          | refine aw_exit ?_
          | refine rq_exit ?_
          | refine blockQ_hit ?_
          | refine blockQ_miss (by decide) ?_
          | (refine ar_guard rfl rfl rfl rfl (fun h => ?_) (fun h => ?_) <;> (fail_if_success (cases h; done)) <;> (try simp at h) <;> (try subst h))
          | (refine aw_both rfl (fun h => ?_) (fun h => ?_) <;> (fail_if_success (cases h; done)) <;> (try simp at h) <;> (try subst h)))
      · have hTb : SCO Try.prog g [.agg (inL x)] 31 6 (insL [x]) := by rw [← hbr x hbx]; exact hT x
        obtain ⟨m0, m1⟩ := hb hbx
        obtain ⟨M, hM⟩ : ∃ M : Nat, x.m = (M : Int) := ⟨x.m.toNat, by omega⟩
        have ho : oneF T x (th.drop (j + 1)) = [setM x (cntF T ((th.drop (j + 1)).take M))] := by simp [oneF, hbx, hM]
        rw [ho, ← List.append_assoc] at hq
        have hsl := slice_eq th j M
        have hyl : ((th.drop (j + 1)).take M).length ≤ 40 := by simp; omega
        generalize (th.drop (j + 1)).take M = ys at hq hsl hyl
        have w4 : IntKind.wrap .i64 ((j : Int) + 1 + x.m) = (j : Int) + 1 + x.m := wrap64s (by omega) (by omega)
        have t1 : ((j : Int) + 1).toNat = j + 1 := by omega
        have t2 : ((j : Int) + 1 + x.m).toNat = j + 1 + M := by omega
        have p1 : 0 ≤ (j : Int) + 1 := by omega
        have p2 : 0 ≤ (j : Int) + 1 + x.m := by omega
        have p3 : j + 1 + M ≤ th.length := by omega
        have p4 : j + 1 ≤ j + 1 + M := by omega
        repeat' (first
          | refine ar_end rfl ?_
          | refine ar_endD rfl (by kernel_rfl) ?_
          | refine ar_fin rfl ?_
          | refine ar_finD rfl (by kernel_rfl) ?_
          | refine ar_callV Try.call135 c_branch rfl rfl rfl rfl rfl (by simp; done) (by rfl) (by simp; done) ?_
          | refine ar_callV_if Try.call135 c_branch rfl rfl rfl rfl rfl rfl (by simp; done) rfl (by rfl) (by simp; done) ?_
          | refine ar_callO hent hTb rfl rfl rfl rfl (by simp; exact rfl) rfl (by simp; done) (by rfl) rfl ?_
          | refine ar_go3 _ rfl (by simp [insL_len, thsL_len, insL_getE, thsL_getE, inL, ints_len, hd, hjl, hx, w3, w4, hbx, t1, t2, p1, p2, p3, p4, hsl]; exact ⟨rfl, rfl, rfl⟩) rfl ?_
          | refine aw_sregK 0 [0, 1] ?_
          | refine aw_regK 0 [0, 1] ?_
          | refine aw_sregK 1 [1, 2, 4] ?_
          | refine aw_regK 1 [1, 2, 4] ?_
          | refine aw_sregK 2 [1, 2, 4, 5] ?_
          | refine aw_regK 2 [1, 2, 4, 5] ?_
          | refine aw_sregK 3 [1, 4, 5, 19, 20, 21] ?_
          | refine aw_regK 3 [1, 4, 5, 19, 20, 21] ?_
          | refine aw_sregK 4 [1, 4, 5, 19, 20, 21] ?_
          | refine aw_regK 4 [1, 4, 5, 19, 20, 21] ?_
          | refine aw_sregK 5 [1, 4, 5, 7, 19, 20, 21] ?_
          | refine aw_regK 5 [1, 4, 5, 7, 19, 20, 21] ?_
          | refine aw_sregK 6 [1, 4, 5, 7, 8, 19, 20, 21] ?_
          | refine aw_regK 6 [1, 4, 5, 7, 8, 19, 20, 21] ?_
          | refine aw_sregK 7 [1, 4, 5, 7, 8, 19, 20, 21, 25, 26, 27] ?_
          | refine aw_regK 7 [1, 4, 5, 7, 8, 19, 20, 21, 25, 26, 27] ?_
          | refine aw_sregK 8 [1, 4, 5, 7, 8, 19, 20, 21, 25, 26, 27] ?_
          | refine aw_regK 8 [1, 4, 5, 7, 8, 19, 20, 21, 25, 26, 27] ?_
          | refine aw_sregK 9 [1, 4, 5, 7, 8, 9, 10, 19, 20, 21, 25, 26, 27] ?_
          | refine aw_regK 9 [1, 4, 5, 7, 8, 9, 10, 19, 20, 21, 25, 26, 27] ?_
          | refine aw_sregK 10 [1, 4, 5, 7, 8, 9, 10, 11, 19, 20, 21, 25, 26, 27] ?_
          | refine aw_regK 10 [1, 4, 5, 7, 8, 9, 10, 11, 19, 20, 21, 25, 26, 27] ?_
          | refine aw_sregK 11 [1, 4, 5, 7, 8, 9, 10, 11, 19, 20, 21, 25, 26, 27] ?_
          | refine aw_regK 11 [1, 4, 5, 7, 8, 9, 10, 11, 19, 20, 21, 25, 26, 27] ?_
          | refine aw_sregK 12 [1, 4, 5, 7, 8, 9, 10, 11, 12, 19, 20, 21, 25, 26, 27] ?_
          | refine aw_regK 12 [1, 4, 5, 7, 8, 9, 10, 11, 12, 19, 20, 21, 25, 26, 27] ?_
          | refine aw_sregK 13 [1, 4, 5, 7, 8, 11, 12, 19, 20, 21, 25, 26, 27, 45, 46, 47] ?_
          | refine aw_regK 13 [1, 4, 5, 7, 8, 11, 12, 19, 20, 21, 25, 26, 27, 45, 46, 47] ?_
          | refine aw_sregK 14 [1, 4, 5, 7, 8, 11, 12, 19, 20, 21, 25, 26, 27, 45, 46, 47] ?_
          | refine aw_regK 14 [1, 4, 5, 7, 8, 11, 12, 19, 20, 21, 25, 26, 27, 45, 46, 47] ?_
          | refine aw_sregK 15 [1, 4, 5, 7, 8, 11, 12, 14, 19, 20, 21, 25, 26, 27, 45, 46, 47] ?_
          | refine aw_regK 15 [1, 4, 5, 7, 8, 11, 12, 14, 19, 20, 21, 25, 26, 27, 45, 46, 47] ?_
          | refine aw_sregK 16 [1, 4, 5, 7, 8, 11, 12, 19, 20, 21, 25, 26, 27, 45, 46, 47] ?_
          | refine aw_regK 16 [1, 4, 5, 7, 8, 11, 12, 19, 20, 21, 25, 26, 27, 45, 46, 47] ?_
          | refine aw_sregK 17 [1, 4, 5, 7, 8, 11, 12, 19, 20, 21, 25, 26, 27] ?_
          | refine aw_regK 17 [1, 4, 5, 7, 8, 11, 12, 19, 20, 21, 25, 26, 27] ?_
          | refine aw_sregK 18 [1, 4, 5, 7, 8, 11, 19, 20, 21, 25, 26, 27] ?_
          | refine aw_regK 18 [1, 4, 5, 7, 8, 11, 19, 20, 21, 25, 26, 27] ?_
          | refine aw_sregK 19 [1, 4, 5, 7, 8, 19, 20, 21, 25, 26, 27] ?_
          | refine aw_regK 19 [1, 4, 5, 7, 8, 19, 20, 21, 25, 26, 27] ?_
          | refine aw_sregK 20 [1, 4, 5, 8, 19, 20, 21] ?_
          | refine aw_regK 20 [1, 4, 5, 8, 19, 20, 21] ?_
          | refine aw_sregK 21 [1, 4, 5, 19, 20, 21] ?_
          | refine aw_regK 21 [1, 4, 5, 19, 20, 21] ?_
          | refine aw_sregK 22 [4, 5] ?_
          | refine aw_regK 22 [4, 5] ?_
          | refine aw_sreg ?_
          | refine aw_sregD mixed ?_
          | refine aw_ifT (b := true) rfl rfl ?_
          | refine aw_ifF (b := false) rfl rfl ?_
          | refine aw_ifT rfl (by assumption) ?_
          | refine aw_ifF rfl (by assumption) ?_
          | refine aw_ifT rfl (decide_eq_true (by assumption)) ?_
          | refine aw_ifF rfl (decide_eq_false (by assumption)) ?_
          | refine aw_seq ?_
          | refine aw_block ?_
          | refine aw_skip ?_
          | refine aw_region ?_
          | refine aw_region_draw mixed ?_
          | refine aw_exit ?_
          | refine rq_exit ?_
          | refine blockQ_hit ?_
          | refine blockQ_miss (by decide) ?_
          | (refine ar_guard rfl rfl rfl rfl (fun h => ?_) (fun h => ?_) <;> (fail_if_success (cases h; done)) <;> (try simp at h) <;> (try subst h))
          | (refine aw_both rfl (fun h => ?_) (fun h => ?_) <;> (fail_if_success (cases h; done)) <;> (try simp at h) <;> (try subst h)))
        refine aw_loopN [1, 4, 5, 7, 8, 11, 12, 19, 20, 21, 25, 26, 27, 45, 46, 47] [.loc 4, .loc 5, .loc 1001, .loc 1000, .loc 34] (by simp; exact rfl) (ι := {q : Nat // q ≤ ys.length}) (fun q => ⟨77, [(1, .fn g [] []), (4, .ptr (.loc 4) 0), (5, .ptr (.loc 5) 0), (7, .pv (.sl 6 (insL th))), (8, .own (.loc 1000)), (11, .own (.loc 34)), (12, I .i64 (cntF T (ys.take q.1))), (19, .pv (.sl 1 (thsL t))), (20, I .i64 t.length), (21, I .i64 n), (25, .pv (.sl 6 (insL th))), (26, I .i64 th.length), (27, I .i64 j), (45, .pv (.sl 6 (insL ys))), (46, I .i64 ys.length), (47, I .i64 q.1)], [(.loc 4, some (.box 55 [.pv (.v (.slice none 0 0)), .pv (.v (.slice none 0 0))])), (.loc 5, some (.box 55 [.pv (.sl 1 (ints i)), .own (.loc 1001)])), (.loc 1001, some (.own 64 1 (thsL ((t.take n).map (turnL T))))), (.loc 1000, some (.own 31 6 (insL acc))), (.loc 34, some (.own 31 6 [inL x]))]⟩) (fun q => ys.length - q.1) ⟨0, by omega⟩ (by simp [insL_len, insL, cntF, inL]) ?_
        rintro ⟨q, hq1⟩
        by_cases hql : q < ys.length
        · have hqd : (q : Int) < (ys.length : Int) := by omega
          have w5 : IntKind.wrap .i64 ((q : Int) + 1) = (q : Int) + 1 := wrap64s (by omega) (by omega)
          have e1 := cntF_succ T hql
          have e2 := cntF_bnd h2 (ys.take q)
          have e3 : ((ys.take q).length : Int) ≤ 40 := by rw [List.length_take]; omega
          generalize hy : ys[q] = y at e1
          have e4 := h2 y
          have w6 : IntKind.wrap .i64 (cntF T (ys.take q) + ((T y).length : Int)) = cntF T (ys.take q) + ((T y).length : Int) := wrap64s (by omega) (by omega)
          repeat' (first
            | refine ar_end rfl ?_
            | refine ar_endD rfl (by kernel_rfl) ?_
            | refine ar_fin rfl ?_
            | refine ar_finD rfl (by kernel_rfl) ?_
            | refine ar_callO hent (hT _) rfl rfl rfl rfl (by simp; exact rfl) rfl (by simp; done) (by rfl) rfl ?_
            | refine lq_normN [1, 4, 5, 7, 8, 11, 12, 19, 20, 21, 25, 26, 27, 45, 46, 47] [.loc 4, .loc 5, .loc 1001, .loc 1000, .loc 34] (by simp; exact rfl) ⟨q + 1, by omega⟩ (by dsimp only; omega) (by simp [e1, inL])
            | refine ar_go3 _ rfl (by simp [insL_len, thsL_len, insL_getE, thsL_getE, inL, ints_len, hqd, hql, hy, w5, w6, e1]; exact ⟨rfl, rfl, rfl⟩) rfl ?_
            | refine aw_sregK 0 [0, 1] ?_
            | refine aw_regK 0 [0, 1] ?_
            | refine aw_sregK 1 [1, 2, 4] ?_
            | refine aw_regK 1 [1, 2, 4] ?_
            | refine aw_sregK 2 [1, 2, 4, 5] ?_
            | refine aw_regK 2 [1, 2, 4, 5] ?_
            | refine aw_sregK 3 [1, 4, 5, 19, 20, 21] ?_
            | refine aw_regK 3 [1, 4, 5, 19, 20, 21] ?_
            | refine aw_sregK 4 [1, 4, 5, 19, 20, 21] ?_
            | refine aw_regK 4 [1, 4, 5, 19, 20, 21] ?_
            | refine aw_sregK 5 [1, 4, 5, 7, 19, 20, 21] ?_
            | refine aw_regK 5 [1, 4, 5, 7, 19, 20, 21] ?_
            | refine aw_sregK 6 [1, 4, 5, 7, 8, 19, 20, 21] ?_
            | refine aw_regK 6 [1, 4, 5, 7, 8, 19, 20, 21] ?_
            | refine aw_sregK 7 [1, 4, 5, 7, 8, 19, 20, 21, 25, 26, 27] ?_
            | refine aw_regK 7 [1, 4, 5, 7, 8, 19, 20, 21, 25, 26, 27] ?_
            | refine aw_sregK 8 [1, 4, 5, 7, 8, 19, 20, 21, 25, 26, 27] ?_
            | refine aw_regK 8 [1, 4, 5, 7, 8, 19, 20, 21, 25, 26, 27] ?_
            | refine aw_sregK 9 [1, 4, 5, 7, 8, 9, 10, 19, 20, 21, 25, 26, 27] ?_
            | refine aw_regK 9 [1, 4, 5, 7, 8, 9, 10, 19, 20, 21, 25, 26, 27] ?_
            | refine aw_sregK 10 [1, 4, 5, 7, 8, 9, 10, 11, 19, 20, 21, 25, 26, 27] ?_
            | refine aw_regK 10 [1, 4, 5, 7, 8, 9, 10, 11, 19, 20, 21, 25, 26, 27] ?_
            | refine aw_sregK 11 [1, 4, 5, 7, 8, 9, 10, 11, 19, 20, 21, 25, 26, 27] ?_
            | refine aw_regK 11 [1, 4, 5, 7, 8, 9, 10, 11, 19, 20, 21, 25, 26, 27] ?_
            | refine aw_sregK 12 [1, 4, 5, 7, 8, 9, 10, 11, 12, 19, 20, 21, 25, 26, 27] ?_
            | refine aw_regK 12 [1, 4, 5, 7, 8, 9, 10, 11, 12, 19, 20, 21, 25, 26, 27] ?_
            | refine aw_sregK 13 [1, 4, 5, 7, 8, 11, 12, 19, 20, 21, 25, 26, 27, 45, 46, 47] ?_
            | refine aw_regK 13 [1, 4, 5, 7, 8, 11, 12, 19, 20, 21, 25, 26, 27, 45, 46, 47] ?_
            | refine aw_sregK 14 [1, 4, 5, 7, 8, 11, 12, 19, 20, 21, 25, 26, 27, 45, 46, 47] ?_
            | refine aw_regK 14 [1, 4, 5, 7, 8, 11, 12, 19, 20, 21, 25, 26, 27, 45, 46, 47] ?_
            | refine aw_sregK 15 [1, 4, 5, 7, 8, 11, 12, 14, 19, 20, 21, 25, 26, 27, 45, 46, 47] ?_
            | refine aw_regK 15 [1, 4, 5, 7, 8, 11, 12, 14, 19, 20, 21, 25, 26, 27, 45, 46, 47] ?_
            | refine aw_sregK 16 [1, 4, 5, 7, 8, 11, 12, 19, 20, 21, 25, 26, 27, 45, 46, 47] ?_
            | refine aw_regK 16 [1, 4, 5, 7, 8, 11, 12, 19, 20, 21, 25, 26, 27, 45, 46, 47] ?_
            | refine aw_sregK 17 [1, 4, 5, 7, 8, 11, 12, 19, 20, 21, 25, 26, 27] ?_
            | refine aw_regK 17 [1, 4, 5, 7, 8, 11, 12, 19, 20, 21, 25, 26, 27] ?_
            | refine aw_sregK 18 [1, 4, 5, 7, 8, 11, 19, 20, 21, 25, 26, 27] ?_
            | refine aw_regK 18 [1, 4, 5, 7, 8, 11, 19, 20, 21, 25, 26, 27] ?_
            | refine aw_sregK 19 [1, 4, 5, 7, 8, 19, 20, 21, 25, 26, 27] ?_
            | refine aw_regK 19 [1, 4, 5, 7, 8, 19, 20, 21, 25, 26, 27] ?_
            | refine aw_sregK 20 [1, 4, 5, 8, 19, 20, 21] ?_
            | refine aw_regK 20 [1, 4, 5, 8, 19, 20, 21] ?_
            | refine aw_sregK 21 [1, 4, 5, 19, 20, 21] ?_
            | refine aw_regK 21 [1, 4, 5, 19, 20, 21] ?_
            | refine aw_sregK 22 [4, 5] ?_
            | refine aw_regK 22 [4, 5] ?_
            | refine aw_sreg ?_
            | refine aw_sregD mixed ?_
            | refine aw_ifT (b := true) rfl rfl ?_
            | refine aw_ifF (b := false) rfl rfl ?_
            | refine aw_ifT rfl (by assumption) ?_
            | refine aw_ifF rfl (by assumption) ?_
            | refine aw_ifT rfl (decide_eq_true (by assumption)) ?_
            | refine aw_ifF rfl (decide_eq_false (by assumption)) ?_
            | refine aw_seq ?_
            | refine aw_block ?_
            | refine aw_skip ?_
            | refine aw_region ?_
            | refine aw_region_draw mixed ?_
            | refine aw_exit ?_
            | refine rq_exit ?_
            | refine blockQ_hit ?_
            | refine blockQ_miss (by decide) ?_
            | (refine ar_guard rfl rfl rfl rfl (fun h => ?_) (fun h => ?_) <;> (fail_if_success (cases h; done)) <;> (try simp at h) <;> (try subst h))
            | (refine aw_both rfl (fun h => ?_) (fun h => ?_) <;> (fail_if_success (cases h; done)) <;> (try simp at h) <;> (try subst h)))
        · have hqd : ¬(q : Int) < (ys.length : Int) := by omega
          have et : ys.take q = ys := List.take_of_length_le (by omega)
          repeat' (first
            | refine ar_end rfl ?_
            | refine ar_endD rfl (by kernel_rfl) ?_
            | refine ar_fin rfl ?_
            | refine ar_finD rfl (by kernel_rfl) ?_
            | refine ar_appO rfl rfl rfl rfl rfl (by simp; exact rfl) rfl (by simp; exact rfl) (by simp; exact rfl) (by simp; exact ⟨rfl, rfl⟩) rfl (by simp; exact rfl) (by simp; done) (by decide) (by simp [insL_len, thsL_len, maxLen]; omega) ?_
            | refine lq_exit ?_
            | refine lq_normR (.loc 67) (.loc 1000) [1, 4, 5, 7, 8, 19, 20, 21, 25, 26, 27] [.loc 4, .loc 5, .loc 1001, .loc 1000] (by simp; exact rfl) ⟨(j + 1, acc ++ [setM x (cntF T ys)]), by dsimp only; omega, hq, by simp; omega⟩ (by dsimp only; omega) (by simp [← insL_append]; simp [insL, setM, inL])
            | refine ar_go3 _ rfl (by simp [insL_len, thsL_len, insL_getE, thsL_getE, inL, ints_len, hqd, et, w3, wrap64s]; exact ⟨rfl, rfl, rfl⟩) rfl ?_
            | refine aw_sregK 0 [0, 1] ?_
            | refine aw_regK 0 [0, 1] ?_
            | refine aw_sregK 1 [1, 2, 4] ?_
            | refine aw_regK 1 [1, 2, 4] ?_
            | refine aw_sregK 2 [1, 2, 4, 5] ?_
            | refine aw_regK 2 [1, 2, 4, 5] ?_
            | refine aw_sregK 3 [1, 4, 5, 19, 20, 21] ?_
            | refine aw_regK 3 [1, 4, 5, 19, 20, 21] ?_
            | refine aw_sregK 4 [1, 4, 5, 19, 20, 21] ?_
            | refine aw_regK 4 [1, 4, 5, 19, 20, 21] ?_
            | refine aw_sregK 5 [1, 4, 5, 7, 19, 20, 21] ?_
            | refine aw_regK 5 [1, 4, 5, 7, 19, 20, 21] ?_
            | refine aw_sregK 6 [1, 4, 5, 7, 8, 19, 20, 21] ?_
            | refine aw_regK 6 [1, 4, 5, 7, 8, 19, 20, 21] ?_
            | refine aw_sregK 7 [1, 4, 5, 7, 8, 19, 20, 21, 25, 26, 27] ?_
            | refine aw_regK 7 [1, 4, 5, 7, 8, 19, 20, 21, 25, 26, 27] ?_
            | refine aw_sregK 8 [1, 4, 5, 7, 8, 19, 20, 21, 25, 26, 27] ?_
            | refine aw_regK 8 [1, 4, 5, 7, 8, 19, 20, 21, 25, 26, 27] ?_
            | refine aw_sregK 9 [1, 4, 5, 7, 8, 9, 10, 19, 20, 21, 25, 26, 27] ?_
            | refine aw_regK 9 [1, 4, 5, 7, 8, 9, 10, 19, 20, 21, 25, 26, 27] ?_
            | refine aw_sregK 10 [1, 4, 5, 7, 8, 9, 10, 11, 19, 20, 21, 25, 26, 27] ?_
            | refine aw_regK 10 [1, 4, 5, 7, 8, 9, 10, 11, 19, 20, 21, 25, 26, 27] ?_
            | refine aw_sregK 11 [1, 4, 5, 7, 8, 9, 10, 11, 19, 20, 21, 25, 26, 27] ?_
            | refine aw_regK 11 [1, 4, 5, 7, 8, 9, 10, 11, 19, 20, 21, 25, 26, 27] ?_
            | refine aw_sregK 12 [1, 4, 5, 7, 8, 9, 10, 11, 12, 19, 20, 21, 25, 26, 27] ?_
            | refine aw_regK 12 [1, 4, 5, 7, 8, 9, 10, 11, 12, 19, 20, 21, 25, 26, 27] ?_
            | refine aw_sregK 13 [1, 4, 5, 7, 8, 11, 12, 19, 20, 21, 25, 26, 27, 45, 46, 47] ?_
            | refine aw_regK 13 [1, 4, 5, 7, 8, 11, 12, 19, 20, 21, 25, 26, 27, 45, 46, 47] ?_
            | refine aw_sregK 14 [1, 4, 5, 7, 8, 11, 12, 19, 20, 21, 25, 26, 27, 45, 46, 47] ?_
            | refine aw_regK 14 [1, 4, 5, 7, 8, 11, 12, 19, 20, 21, 25, 26, 27, 45, 46, 47] ?_
            | refine aw_sregK 15 [1, 4, 5, 7, 8, 11, 12, 14, 19, 20, 21, 25, 26, 27, 45, 46, 47] ?_
            | refine aw_regK 15 [1, 4, 5, 7, 8, 11, 12, 14, 19, 20, 21, 25, 26, 27, 45, 46, 47] ?_
            | refine aw_sregK 16 [1, 4, 5, 7, 8, 11, 12, 19, 20, 21, 25, 26, 27, 45, 46, 47] ?_
            | refine aw_regK 16 [1, 4, 5, 7, 8, 11, 12, 19, 20, 21, 25, 26, 27, 45, 46, 47] ?_
            | refine aw_sregK 17 [1, 4, 5, 7, 8, 11, 12, 19, 20, 21, 25, 26, 27] ?_
            | refine aw_regK 17 [1, 4, 5, 7, 8, 11, 12, 19, 20, 21, 25, 26, 27] ?_
            | refine aw_sregK 18 [1, 4, 5, 7, 8, 11, 19, 20, 21, 25, 26, 27] ?_
            | refine aw_regK 18 [1, 4, 5, 7, 8, 11, 19, 20, 21, 25, 26, 27] ?_
            | refine aw_sregK 19 [1, 4, 5, 7, 8, 19, 20, 21, 25, 26, 27] ?_
            | refine aw_regK 19 [1, 4, 5, 7, 8, 19, 20, 21, 25, 26, 27] ?_
            | refine aw_sregK 20 [1, 4, 5, 8, 19, 20, 21] ?_
            | refine aw_regK 20 [1, 4, 5, 8, 19, 20, 21] ?_
            | refine aw_sregK 21 [1, 4, 5, 19, 20, 21] ?_
            | refine aw_regK 21 [1, 4, 5, 19, 20, 21] ?_
            | refine aw_sregK 22 [4, 5] ?_
            | refine aw_regK 22 [4, 5] ?_
            | refine aw_sreg ?_
            | refine aw_sregD mixed ?_
            | refine aw_ifT (b := true) rfl rfl ?_
            | refine aw_ifF (b := false) rfl rfl ?_
            | refine aw_ifT rfl (by assumption) ?_
            | refine aw_ifF rfl (by assumption) ?_
            | refine aw_ifT rfl (decide_eq_true (by assumption)) ?_
            | refine aw_ifF rfl (decide_eq_false (by assumption)) ?_
            | refine aw_seq ?_
            | refine aw_block ?_
            | refine aw_skip ?_
            | refine aw_region ?_
            | refine aw_region_draw mixed ?_
            | refine aw_exit ?_
            | refine rq_exit ?_
            | refine blockQ_hit ?_
            | refine blockQ_miss (by decide) ?_
            | (refine ar_guard rfl rfl rfl rfl (fun h => ?_) (fun h => ?_) <;> (fail_if_success (cases h; done)) <;> (try simp at h) <;> (try subst h))
            | (refine aw_both rfl (fun h => ?_) (fun h => ?_) <;> (fail_if_success (cases h; done)) <;> (try simp at h) <;> (try subst h)))
    · have hd : ¬(j : Int) < (th.length : Int) := by omega
      have hq2 : acc = turnL T th := by rw [← hq, List.drop_eq_nil_of_le (by omega), turnL, List.append_nil]
      subst hq2
      repeat' (first
        | refine ar_end rfl ?_
        | refine ar_endD rfl (by kernel_rfl) ?_
        | refine ar_fin rfl ?_
        | refine ar_finD rfl (by kernel_rfl) ?_
        | refine ar_frz rfl rfl (by simp; exact rfl) rfl (by simp; fail_if_success (show _)) (by simp; exact rfl) (by simp; exact rfl) rfl (by simp; fail_if_success (show _)) ?_
        | refine ar_appO rfl rfl rfl rfl rfl (by simp; exact rfl) rfl (by simp; exact rfl) (by simp; exact rfl) (by simp; exact ⟨rfl, rfl⟩) rfl (by simp; exact rfl) (by simp; done) (by decide) (by simp [insL_len, thsL_len, maxLen]; omega) ?_
        | refine lq_exit ?_
        | refine lq_normR (.loc 73) (.loc 1001) [1, 4, 5, 19, 20, 21] [.loc 4, .loc 5, .loc 1001] (by simp; exact rfl) ⟨n + 1, by omega⟩ (by dsimp only; omega) (by rw [htk]; simp [thsL])
        | refine ar_go3 _ rfl (by simp [insL_len, thsL_len, insL_getE, thsL_getE, inL, ints_len, hd, hw]; exact ⟨rfl, rfl, rfl⟩) rfl ?_
        | refine aw_sregK 0 [0, 1] ?_
        | refine aw_regK 0 [0, 1] ?_
        | refine aw_sregK 1 [1, 2, 4] ?_
        | refine aw_regK 1 [1, 2, 4] ?_
        | refine aw_sregK 2 [1, 2, 4, 5] ?_
        | refine aw_regK 2 [1, 2, 4, 5] ?_
        | refine aw_sregK 3 [1, 4, 5, 19, 20, 21] ?_
        | refine aw_regK 3 [1, 4, 5, 19, 20, 21] ?_
        | refine aw_sregK 4 [1, 4, 5, 19, 20, 21] ?_
        | refine aw_regK 4 [1, 4, 5, 19, 20, 21] ?_
        | refine aw_sregK 5 [1, 4, 5, 7, 19, 20, 21] ?_
        | refine aw_regK 5 [1, 4, 5, 7, 19, 20, 21] ?_
        | refine aw_sregK 6 [1, 4, 5, 7, 8, 19, 20, 21] ?_
        | refine aw_regK 6 [1, 4, 5, 7, 8, 19, 20, 21] ?_
        | refine aw_sregK 7 [1, 4, 5, 7, 8, 19, 20, 21, 25, 26, 27] ?_
        | refine aw_regK 7 [1, 4, 5, 7, 8, 19, 20, 21, 25, 26, 27] ?_
        | refine aw_sregK 8 [1, 4, 5, 7, 8, 19, 20, 21, 25, 26, 27] ?_
        | refine aw_regK 8 [1, 4, 5, 7, 8, 19, 20, 21, 25, 26, 27] ?_
        | refine aw_sregK 9 [1, 4, 5, 7, 8, 9, 10, 19, 20, 21, 25, 26, 27] ?_
        | refine aw_regK 9 [1, 4, 5, 7, 8, 9, 10, 19, 20, 21, 25, 26, 27] ?_
        | refine aw_sregK 10 [1, 4, 5, 7, 8, 9, 10, 11, 19, 20, 21, 25, 26, 27] ?_
        | refine aw_regK 10 [1, 4, 5, 7, 8, 9, 10, 11, 19, 20, 21, 25, 26, 27] ?_
        | refine aw_sregK 11 [1, 4, 5, 7, 8, 9, 10, 11, 19, 20, 21, 25, 26, 27] ?_
        | refine aw_regK 11 [1, 4, 5, 7, 8, 9, 10, 11, 19, 20, 21, 25, 26, 27] ?_
        | refine aw_sregK 12 [1, 4, 5, 7, 8, 9, 10, 11, 12, 19, 20, 21, 25, 26, 27] ?_
        | refine aw_regK 12 [1, 4, 5, 7, 8, 9, 10, 11, 12, 19, 20, 21, 25, 26, 27] ?_
        | refine aw_sregK 13 [1, 4, 5, 7, 8, 11, 12, 19, 20, 21, 25, 26, 27, 45, 46, 47] ?_
        | refine aw_regK 13 [1, 4, 5, 7, 8, 11, 12, 19, 20, 21, 25, 26, 27, 45, 46, 47] ?_
        | refine aw_sregK 14 [1, 4, 5, 7, 8, 11, 12, 19, 20, 21, 25, 26, 27, 45, 46, 47] ?_
        | refine aw_regK 14 [1, 4, 5, 7, 8, 11, 12, 19, 20, 21, 25, 26, 27, 45, 46, 47] ?_
        | refine aw_sregK 15 [1, 4, 5, 7, 8, 11, 12, 14, 19, 20, 21, 25, 26, 27, 45, 46, 47] ?_
        | refine aw_regK 15 [1, 4, 5, 7, 8, 11, 12, 14, 19, 20, 21, 25, 26, 27, 45, 46, 47] ?_
        | refine aw_sregK 16 [1, 4, 5, 7, 8, 11, 12, 19, 20, 21, 25, 26, 27, 45, 46, 47] ?_
        | refine aw_regK 16 [1, 4, 5, 7, 8, 11, 12, 19, 20, 21, 25, 26, 27, 45, 46, 47] ?_
        | refine aw_sregK 17 [1, 4, 5, 7, 8, 11, 12, 19, 20, 21, 25, 26, 27] ?_
        | refine aw_regK 17 [1, 4, 5, 7, 8, 11, 12, 19, 20, 21, 25, 26, 27] ?_
        | refine aw_sregK 18 [1, 4, 5, 7, 8, 11, 19, 20, 21, 25, 26, 27] ?_
        | refine aw_regK 18 [1, 4, 5, 7, 8, 11, 19, 20, 21, 25, 26, 27] ?_
        | refine aw_sregK 19 [1, 4, 5, 7, 8, 19, 20, 21, 25, 26, 27] ?_
        | refine aw_regK 19 [1, 4, 5, 7, 8, 19, 20, 21, 25, 26, 27] ?_
        | refine aw_sregK 20 [1, 4, 5, 8, 19, 20, 21] ?_
        | refine aw_regK 20 [1, 4, 5, 8, 19, 20, 21] ?_
        | refine aw_sregK 21 [1, 4, 5, 19, 20, 21] ?_
        | refine aw_regK 21 [1, 4, 5, 19, 20, 21] ?_
        | refine aw_sregK 22 [4, 5] ?_
        | refine aw_regK 22 [4, 5] ?_
        | refine aw_sreg ?_
        | refine aw_sregD mixed ?_
        | refine aw_ifT (b := true) rfl rfl ?_
        | refine aw_ifF (b := false) rfl rfl ?_
        | refine aw_ifT rfl (by assumption) ?_
        | refine aw_ifF rfl (by assumption) ?_
        | refine aw_ifT rfl (decide_eq_true (by assumption)) ?_
        | refine aw_ifF rfl (decide_eq_false (by assumption)) ?_
        | refine aw_seq ?_
        | refine aw_block ?_
        | refine aw_skip ?_
        | refine aw_region ?_
        | refine aw_region_draw mixed ?_
        | refine aw_exit ?_
        | refine rq_exit ?_
        | refine blockQ_hit ?_
        | refine blockQ_miss (by decide) ?_
        | (refine ar_guard rfl rfl rfl rfl (fun h => ?_) (fun h => ?_) <;> (fail_if_success (cases h; done)) <;> (try simp at h) <;> (try subst h))
        | (refine aw_both rfl (fun h => ?_) (fun h => ?_) <;> (fail_if_success (cases h; done)) <;> (try simp at h) <;> (try subst h)))
  · have hc : ¬(n : Int) < (t.length : Int) := by omega
    have et : t.take n = t := List.take_of_length_le (by omega)
    have et2 : List.take n (List.map (turnL T) t) = List.map (turnL T) t := List.take_of_length_le (by simp; omega)
    refine aw_frz (.loc 1001) (by simp; exact rfl) ?_
    repeat' (first
      | exact aw_ret (ret_vals (by simp; exact rfl) (by simp [et, et2]; fail_if_success (show _)))
      | exact aw_ret (ret_vals (by simp; exact rfl) (by simp [et, et2]; omega))
      | refine ar_end rfl ?_
      | refine ar_endD rfl (by kernel_rfl) ?_
      | refine ar_fin rfl ?_
      | refine ar_finD rfl (by kernel_rfl) ?_
      | refine lq_exit ?_
      | refine ar_go3 _ rfl (by simp [insL_len, thsL_len, insL_getE, thsL_getE, inL, ints_len, hc, et, et2]; exact ⟨rfl, rfl, rfl⟩) rfl ?_
      | refine aw_sregK 0 [0, 1] ?_
      | refine aw_regK 0 [0, 1] ?_
      | refine aw_sregK 1 [1, 2, 4] ?_
      | refine aw_regK 1 [1, 2, 4] ?_
      | refine aw_sregK 2 [1, 2, 4, 5] ?_
      | refine aw_regK 2 [1, 2, 4, 5] ?_
      | refine aw_sregK 3 [1, 4, 5, 19, 20, 21] ?_
      | refine aw_regK 3 [1, 4, 5, 19, 20, 21] ?_
      | refine aw_sregK 4 [1, 4, 5, 19, 20, 21] ?_
      | refine aw_regK 4 [1, 4, 5, 19, 20, 21] ?_
      | refine aw_sregK 5 [1, 4, 5, 7, 19, 20, 21] ?_
      | refine aw_regK 5 [1, 4, 5, 7, 19, 20, 21] ?_
      | refine aw_sregK 6 [1, 4, 5, 7, 8, 19, 20, 21] ?_
      | refine aw_regK 6 [1, 4, 5, 7, 8, 19, 20, 21] ?_
      | refine aw_sregK 7 [1, 4, 5, 7, 8, 19, 20, 21, 25, 26, 27] ?_
      | refine aw_regK 7 [1, 4, 5, 7, 8, 19, 20, 21, 25, 26, 27] ?_
      | refine aw_sregK 8 [1, 4, 5, 7, 8, 19, 20, 21, 25, 26, 27] ?_
      | refine aw_regK 8 [1, 4, 5, 7, 8, 19, 20, 21, 25, 26, 27] ?_
      | refine aw_sregK 9 [1, 4, 5, 7, 8, 9, 10, 19, 20, 21, 25, 26, 27] ?_
      | refine aw_regK 9 [1, 4, 5, 7, 8, 9, 10, 19, 20, 21, 25, 26, 27] ?_
      | refine aw_sregK 10 [1, 4, 5, 7, 8, 9, 10, 11, 19, 20, 21, 25, 26, 27] ?_
      | refine aw_regK 10 [1, 4, 5, 7, 8, 9, 10, 11, 19, 20, 21, 25, 26, 27] ?_
      | refine aw_sregK 11 [1, 4, 5, 7, 8, 9, 10, 11, 19, 20, 21, 25, 26, 27] ?_
      | refine aw_regK 11 [1, 4, 5, 7, 8, 9, 10, 11, 19, 20, 21, 25, 26, 27] ?_
      | refine aw_sregK 12 [1, 4, 5, 7, 8, 9, 10, 11, 12, 19, 20, 21, 25, 26, 27] ?_
      | refine aw_regK 12 [1, 4, 5, 7, 8, 9, 10, 11, 12, 19, 20, 21, 25, 26, 27] ?_
      | refine aw_sregK 13 [1, 4, 5, 7, 8, 11, 12, 19, 20, 21, 25, 26, 27, 45, 46, 47] ?_
      | refine aw_regK 13 [1, 4, 5, 7, 8, 11, 12, 19, 20, 21, 25, 26, 27, 45, 46, 47] ?_
      | refine aw_sregK 14 [1, 4, 5, 7, 8, 11, 12, 19, 20, 21, 25, 26, 27, 45, 46, 47] ?_
      | refine aw_regK 14 [1, 4, 5, 7, 8, 11, 12, 19, 20, 21, 25, 26, 27, 45, 46, 47] ?_
      | refine aw_sregK 15 [1, 4, 5, 7, 8, 11, 12, 14, 19, 20, 21, 25, 26, 27, 45, 46, 47] ?_
      | refine aw_regK 15 [1, 4, 5, 7, 8, 11, 12, 14, 19, 20, 21, 25, 26, 27, 45, 46, 47] ?_
      | refine aw_sregK 16 [1, 4, 5, 7, 8, 11, 12, 19, 20, 21, 25, 26, 27, 45, 46, 47] ?_
      | refine aw_regK 16 [1, 4, 5, 7, 8, 11, 12, 19, 20, 21, 25, 26, 27, 45, 46, 47] ?_
      | refine aw_sregK 17 [1, 4, 5, 7, 8, 11, 12, 19, 20, 21, 25, 26, 27] ?_
      | refine aw_regK 17 [1, 4, 5, 7, 8, 11, 12, 19, 20, 21, 25, 26, 27] ?_
      | refine aw_sregK 18 [1, 4, 5, 7, 8, 11, 19, 20, 21, 25, 26, 27] ?_
      | refine aw_regK 18 [1, 4, 5, 7, 8, 11, 19, 20, 21, 25, 26, 27] ?_
      | refine aw_sregK 19 [1, 4, 5, 7, 8, 19, 20, 21, 25, 26, 27] ?_
      | refine aw_regK 19 [1, 4, 5, 7, 8, 19, 20, 21, 25, 26, 27] ?_
      | refine aw_sregK 20 [1, 4, 5, 8, 19, 20, 21] ?_
      | refine aw_regK 20 [1, 4, 5, 8, 19, 20, 21] ?_
      | refine aw_sregK 21 [1, 4, 5, 19, 20, 21] ?_
      | refine aw_regK 21 [1, 4, 5, 19, 20, 21] ?_
      | refine aw_sregK 22 [4, 5] ?_
      | refine aw_regK 22 [4, 5] ?_
      | refine aw_sreg ?_
      | refine aw_sregD mixed ?_
      | refine aw_ifT (b := true) rfl rfl ?_
      | refine aw_ifF (b := false) rfl rfl ?_
      | refine aw_ifT rfl (by assumption) ?_
      | refine aw_ifF rfl (by assumption) ?_
      | refine aw_ifT rfl (decide_eq_true (by assumption)) ?_
      | refine aw_ifF rfl (decide_eq_false (by assumption)) ?_
      | refine aw_seq ?_
      | refine aw_block ?_
      | refine aw_skip ?_
      | refine aw_region ?_
      | refine aw_region_draw mixed ?_
      | refine aw_exit ?_
      | refine rq_exit ?_
      | refine blockQ_hit ?_
      | refine blockQ_miss (by decide) ?_
      | (refine ar_guard rfl rfl rfl rfl (fun h => ?_) (fun h => ?_) <;> (fail_if_success (cases h; done)) <;> (try simp at h) <;> (try subst h))
      | (refine aw_both rfl (fun h => ?_) (fun h => ?_) <;> (fail_if_success (cases h; done)) <;> (try simp at h) <;> (try subst h)))
end Go.Eng
set_option linter.unusedSimpArgs false
set_option linter.unusedVariables false
set_option linter.constructorNameAsVariable false
set_option autoImplicit false
namespace Go.Eng
open Go Go.RowKit Go.Proofs
theorem badI_none {L len : Int} : ∀ {l : List In} {k : Nat}, badI L len k l = none → ∀ (j : Nat) (h : j < l.length), mayI l[j] (len - 1 - ((k + j : Nat) : Int)) L = true
  | [], _, _, j, h => absurd h (by simp)
  | x :: l, k, hb, j, h => by
    simp only [badI] at hb
    split at hb
    · rename_i hm
      cases j with
      | zero => simpa using hm
      | succ j =>
        have := badI_none hb j (by simpa using h)
        simp only [List.getElem_cons_succ]
        rw [show k + (j + 1) = k + 1 + j by omega]
        exact this
    · cases hb
theorem badT_may {L : Int} : ∀ {t : List (List In)} {n : Nat}, badT L n t = none → ∀ th ∈ t, (1 ≤ th.length ∧ th.length ≤ 8) ∧ ∀ (j : Nat) (h : j < th.length), mayI th[j] ((th.length : Int) - 1 - (j : Int)) L = true
  | [], _, _, th, h => by cases h
  | x :: t, n, hb, th, h => by
    have h0 := badT_none hb th h
    refine ⟨h0, ?_⟩
    simp only [badT] at hb
    split at hb
    · cases hb
    split at hb
    · cases hb
    rename_i hi
    rcases List.mem_cons.1 h with rfl | h
    · intro j hj
      have := badI_none hi j hj
      simpa using this
    · exact (badT_may hb th h).2
theorem badT_code {L : Int} : ∀ {t : List (List In)} {n : Nat} {p : Int × Int × Int}, badT L n t = some p → p.2.2 = 1 ∨ p.2.2 = 2
  | [], _, _, h => by cases h
  | x :: t, n, p, h => by
    simp only [badT] at h
    split at h
    · cases h; exact .inl rfl
    split at h
    · cases h; exact .inr rfl
    · exact badT_code h
theorem okTest_iff {i : List Int} {t : List (List In)} : okTest i t = true ↔ sizedF i t = true ∧ badT i.length 0 t = none ∧ fullF t = false := by
  unfold okTest checkF
  cases hs : sizedF i t
  · simp
  · cases hb : badT i.length 0 t with
    | some p => have := badT_code hb; simp; omega
    | none => cases hf : fullF t <;> simp
theorem bra_may {x : In} {behind L : Int} (h : mayI x behind L = true) (hb : braF x.op = true) : 0 ≤ x.m ∧ x.m ≤ behind := by
  unfold braF at hb
  simp at hb
  have hI : hasI x.op = true := by unfold hasI; simp; omega
  unfold mayI mayF at h
  simp only [Bool.and_eq_true, hI, cond_true] at h
  have h5 := h.2.2.2.2
  unfold immF at h5
  rw [if_neg (by omega), if_neg (by omega)] at h5
  unfold betw at h5
  simpa using h5
def BraR : List In → Prop
  | [] => True
  | x :: l => (braF x.op = true → 0 ≤ x.m ∧ x.m ≤ l.length) ∧ BraR l
theorem BraR.ok : ∀ {l : List In}, BraR l → BraOk l
  | [], _, k, h => absurd h (by simp)
  | x :: l, hr, k, h => by
    intro hb
    cases k with
    | zero =>
      have := hr.1 hb
      simp at this ⊢
      omega
    | succ k =>
      have h' : k < l.length := by simpa using h
      have := BraR.ok hr.2 k h' hb
      simp only [List.getElem_cons_succ, List.length_cons]
      omega
theorem BraR.of {L : Int} : ∀ {l : List In}, (∀ (j : Nat) (h : j < l.length), mayI l[j] ((l.length : Int) - 1 - (j : Int)) L = true) → BraR l
  | [], _ => trivial
  | x :: l, h => by
    refine ⟨fun hb => ?_, BraR.of (L := L) fun j hj => ?_⟩
    · have := bra_may (h 0 (by simp)) hb
      simp at this; omega
    · have := h (j + 1) (by simpa using hj)
      simp only [List.getElem_cons_succ, List.length_cons] at this
      rw [show ((l.length : Int) - 1 - (j : Int)) = ((l.length + 1 : Nat) : Int) - 1 - ((j + 1 : Nat) : Int) by omega]
      exact this
theorem BraR.nb {s r : List In} (hs : ∀ y ∈ s, braF y.op = false) (hr : BraR r) : BraR (s ++ r) := by
  induction s with
  | nil => exact hr
  | cons y s ih =>
    refine ⟨fun hb => ?_, ih fun z hz => hs z (by simp [hz])⟩
    rw [hs y (by simp)] at hb; cases hb
theorem turnL_len {T : In → List In} (hbr : ∀ x, braF x.op = true → T x = [x]) : ∀ l : List In, ((turnL T l).length : Int) = cntF T l
  | [] => rfl
  | x :: l => by
    have h := turnL_len hbr l
    simp only [turnL, cntF, List.length_append]
    have : (oneF T x l).length = (T x).length := by
      unfold oneF
      split
      · rename_i hb; rw [hbr x hb]; rfl
      · rfl
    omega
theorem cntF_nonneg (T : In → List In) : ∀ l : List In, 0 ≤ cntF T l
  | [] => Int.le_refl 0
  | x :: l => by have := cntF_nonneg T l; simp only [cntF]; omega
theorem cntF_take (T : In → List In) (M : Nat) (l : List In) : cntF T (l.take M) ≤ cntF T l := by
  have h := cntF_append T (l.take M) (l.drop M)
  rw [List.take_append_drop] at h
  have := cntF_nonneg T (l.drop M)
  omega
theorem BraR.turn {T : In → List In} (hbr : ∀ x, braF x.op = true → T x = [x]) (hnb : ∀ x, braF x.op = false → ∀ y ∈ T x, braF y.op = false) : ∀ l : List In, BraR (turnL T l)
  | [] => trivial
  | x :: l => by
    have h := BraR.turn hbr hnb l
    simp only [turnL]
    unfold oneF
    split
    · refine ⟨fun _ => ?_, h⟩
      have h1 := turnL_len hbr l
      have h2 := cntF_take T x.m.toNat l
      have h3 := cntF_nonneg T (l.take x.m.toNat)
      show 0 ≤ cntF T (l.take x.m.toNat) ∧ cntF T (l.take x.m.toNat) ≤ ((turnL T l).length : Int)
      omega
    · rename_i hb
      exact BraR.nb (hnb x (by simpa using hb)) h
theorem bare_br (x : In) (h : braF x.op = true) : bareF x = [x] := by
  have : barF x.op = false := by unfold braF at h; unfold barF; simp at h ⊢; omega
  simp [bareF, this]
theorem bare_nb (x : In) (h : braF x.op = false) : ∀ y ∈ bareF x, braF y.op = false := by
  intro y hy
  unfold bareF at hy
  cases hb : barF x.op
  · rw [hb] at hy; simp at hy; rw [hy]; exact h
  · rw [hb] at hy; simp at hy
theorem fenced_br (x : In) (h : braF x.op = true) : fencedF x = [x] := by
  have : hasL x.op = false := by unfold braF at h; unfold hasL; simp at h ⊢; omega
  simp [fencedF, this]
theorem bare_2 (x : In) : (bareF x).length ≤ 2 := by unfold bareF; cases barF x.op <;> simp
theorem bare_1 (x : In) : (bareF x).length ≤ 1 := by unfold bareF; cases barF x.op <;> simp
theorem fenced_2 (x : In) : (fencedF x).length ≤ 2 := by unfold fencedF; cases hasL x.op <;> simp
theorem cnt_bare : ∀ l : List In, cntF bareF l ≤ l.length
  | [] => Int.le_refl 0
  | x :: l => by have := cnt_bare l; have := bare_1 x; simp only [cntF, List.length_cons]; omega
theorem bare_len (l : List In) : (turnL bareF l).length ≤ l.length := by
  have h1 := turnL_len bare_br l
  have h2 := cnt_bare l
  omega
def bareT (t : List (List In)) : List (List In) := t.map (turnL bareF)
def fencedT (t : List (List In)) : List (List In) := (bareT t).map (turnL fencedF)
theorem ok_facts {i : List Int} {t : List (List In)} (h : okTest i t = true) : i.length ≤ 3 ∧ t.length ≤ 3 ∧ 1 ≤ i.length ∧ 1 ≤ t.length ∧ ∀ th ∈ t, (1 ≤ th.length ∧ th.length ≤ 8) ∧ BraR th := by
  obtain ⟨h1, h2, h3⟩ := okTest_iff.1 h
  simp [sizedF] at h1
  refine ⟨by omega, by omega, by omega, by omega, fun th hth => ?_⟩
  have := badT_may h2 th hth
  exact ⟨this.1, BraR.of this.2⟩
set_option maxHeartbeats 16000000 in
theorem c_turnBare {i : List Int} {t : List (List In)} (h : okTest i t = true) : SC Try.prog 100 [.agg (testL i t), .fn 101 [] []] (.agg (testL i (bareT t))) := by
  obtain ⟨h1, h2, h3, h4, h5⟩ := ok_facts h
  exact c_turned Try.call101 c_Bare1 bare_br bare_2 (by omega) (fun th hth => by have := (h5 th hth).1; omega) (fun th hth => (h5 th hth).2.ok)
set_option maxHeartbeats 16000000 in
theorem c_turnFenced {i : List Int} {t : List (List In)} (h : okTest i t = true) : SC Try.prog 100 [.agg (testL i (bareT t)), .fn 103 [] []] (.agg (testL i (fencedT t))) := by
  obtain ⟨h1, h2, h3, h4, h5⟩ := ok_facts h
  refine c_turned Try.call103 c_Fenced1 fenced_br fenced_2 (by simp [bareT]; omega) (fun th hth => ?_) (fun th hth => ?_)
  · obtain ⟨s, hs, rfl⟩ := List.mem_map.1 hth
    have := (h5 s hs).1
    have := bare_len s
    omega
  · obtain ⟨s, hs, rfl⟩ := List.mem_map.1 hth
    exact (BraR.turn bare_br bare_nb s).ok
set_option maxHeartbeats 16000000 in
theorem c_Bare {i : List Int} {t : List (List In)} (hl : i.length ≤ maxLen) : SC Try.prog 59 [.agg (testL i t)] (.agg (testL i (if okTest i t = true then bareT t else t))) := by
  refine scx_of Try.func59 rfl rfl rfl (Nat.le_of_ble_eq_true rfl) ?_
  cases h : okTest i t
  ·
    repeat' (first
      | exact aw_ret (ret_vals (by simp; exact rfl) (by simp [*]; fail_if_success (show _)))
      | exact aw_ret (ret_vals (by simp; exact rfl) (by simp [*]; omega))
      | refine ar_end rfl ?_
      | refine ar_endD rfl (by kernel_rfl) ?_
      | refine ar_fin rfl ?_
      | refine ar_finD rfl (by kernel_rfl) ?_
      | refine ar_callV Try.call99 (c_fine hl) rfl rfl rfl rfl rfl (by simp; done) (by rfl) (by simp; done) ?_
      | refine ar_callV_if Try.call99 (c_fine hl) rfl rfl rfl rfl rfl rfl (by simp; done) rfl (by rfl) (by simp; done) ?_
      | refine ar_go3 _ rfl (by simp [h]; exact ⟨rfl, rfl, rfl⟩) rfl ?_
      | refine aw_sregK 0 [0] ?_
      | refine aw_regK 0 [0] ?_
      | refine aw_sregK 1 [1, 2] ?_
      | refine aw_regK 1 [1, 2] ?_
      | refine aw_sregK 2 [1, 2] ?_
      | refine aw_regK 2 [1, 2] ?_
      | refine aw_sregK 3 [1, 2] ?_
      | refine aw_regK 3 [1, 2] ?_
      | refine aw_sreg ?_
      | refine aw_sregD mixed ?_
      | refine aw_ifT (b := true) rfl rfl ?_
      | refine aw_ifF (b := false) rfl rfl ?_
      | refine aw_ifT rfl (by assumption) ?_
      | refine aw_ifF rfl (by assumption) ?_
      | refine aw_ifT rfl (decide_eq_true (by assumption)) ?_
      | refine aw_ifF rfl (decide_eq_false (by assumption)) ?_
      | refine aw_seq ?_
      | refine aw_block ?_
      | refine aw_skip ?_
      | refine aw_region ?_
      | refine aw_region_draw mixed ?_
      | refine aw_exit ?_
      | refine rq_exit ?_
      | refine blockQ_hit ?_
      | refine blockQ_miss (by decide) ?_
      | (refine ar_guard rfl rfl rfl rfl (fun h => ?_) (fun h => ?_) <;> (fail_if_success (cases h; done)) <;> (try simp at h) <;> (try subst h))
      | (refine aw_both rfl (fun h => ?_) (fun h => ?_) <;> (fail_if_success (cases h; done)) <;> (try simp at h) <;> (try subst h)))
  ·
    repeat' (first
      | exact aw_ret (ret_vals (by simp; exact rfl) (by simp [*]; fail_if_success (show _)))
      | exact aw_ret (ret_vals (by simp; exact rfl) (by simp [*]; omega))
      | refine ar_end rfl ?_
      | refine ar_endD rfl (by kernel_rfl) ?_
      | refine ar_fin rfl ?_
      | refine ar_finD rfl (by kernel_rfl) ?_
      | refine ar_callV Try.call99 (c_fine hl) rfl rfl rfl rfl rfl (by simp; done) (by rfl) (by simp; done) ?_
      | refine ar_callV_if Try.call99 (c_fine hl) rfl rfl rfl rfl rfl rfl (by simp; done) rfl (by rfl) (by simp; done) ?_
      | refine ar_callV Try.call100 (c_turnBare h) rfl rfl rfl rfl rfl (by simp; done) (by rfl) (by simp; done) ?_
      | refine ar_callV_if Try.call100 (c_turnBare h) rfl rfl rfl rfl rfl rfl (by simp; done) rfl (by rfl) (by simp; done) ?_
      | refine ar_go3 _ rfl (by simp [h]; exact ⟨rfl, rfl, rfl⟩) rfl ?_
      | refine aw_sregK 0 [0] ?_
      | refine aw_regK 0 [0] ?_
      | refine aw_sregK 1 [1, 2] ?_
      | refine aw_regK 1 [1, 2] ?_
      | refine aw_sregK 2 [1, 2] ?_
      | refine aw_regK 2 [1, 2] ?_
      | refine aw_sregK 3 [1, 2] ?_
      | refine aw_regK 3 [1, 2] ?_
      | refine aw_sreg ?_
      | refine aw_sregD mixed ?_
      | refine aw_ifT (b := true) rfl rfl ?_
      | refine aw_ifF (b := false) rfl rfl ?_
      | refine aw_ifT rfl (by assumption) ?_
      | refine aw_ifF rfl (by assumption) ?_
      | refine aw_ifT rfl (decide_eq_true (by assumption)) ?_
      | refine aw_ifF rfl (decide_eq_false (by assumption)) ?_
      | refine aw_seq ?_
      | refine aw_block ?_
      | refine aw_skip ?_
      | refine aw_region ?_
      | refine aw_region_draw mixed ?_
      | refine aw_exit ?_
      | refine rq_exit ?_
      | refine blockQ_hit ?_
      | refine blockQ_miss (by decide) ?_
      | (refine ar_guard rfl rfl rfl rfl (fun h => ?_) (fun h => ?_) <;> (fail_if_success (cases h; done)) <;> (try simp at h) <;> (try subst h))
      | (refine aw_both rfl (fun h => ?_) (fun h => ?_) <;> (fail_if_success (cases h; done)) <;> (try simp at h) <;> (try subst h)))
set_option maxHeartbeats 16000000 in
theorem c_Fenced {i : List Int} {t : List (List In)} (hl : i.length ≤ maxLen) : SC Try.prog 60 [.agg (testL i t)] (.agg (testL i (if okTest i t = true then fencedT t else t))) := by
  refine scx_of Try.func60 rfl rfl rfl (Nat.le_of_ble_eq_true rfl) ?_
  cases h : okTest i t
  ·
    repeat' (first
      | exact aw_ret (ret_vals (by simp; exact rfl) (by simp [*]; fail_if_success (show _)))
      | exact aw_ret (ret_vals (by simp; exact rfl) (by simp [*]; omega))
      | refine ar_end rfl ?_
      | refine ar_endD rfl (by kernel_rfl) ?_
      | refine ar_fin rfl ?_
      | refine ar_finD rfl (by kernel_rfl) ?_
      | refine ar_callV Try.call99 (c_fine hl) rfl rfl rfl rfl rfl (by simp; done) (by rfl) (by simp; done) ?_
      | refine ar_callV_if Try.call99 (c_fine hl) rfl rfl rfl rfl rfl rfl (by simp; done) rfl (by rfl) (by simp; done) ?_
      | refine ar_go3 _ rfl (by simp [h]; exact ⟨rfl, rfl, rfl⟩) rfl ?_
      | refine aw_sregK 0 [0] ?_
      | refine aw_regK 0 [0] ?_
      | refine aw_sregK 1 [1, 2] ?_
      | refine aw_regK 1 [1, 2] ?_
      | refine aw_sregK 2 [1, 2] ?_
      | refine aw_regK 2 [1, 2] ?_
      | refine aw_sregK 3 [1, 2] ?_
      | refine aw_regK 3 [1, 2] ?_
      | refine aw_sreg ?_
      | refine aw_sregD mixed ?_
      | refine aw_ifT (b := true) rfl rfl ?_
      | refine aw_ifF (b := false) rfl rfl ?_
      | refine aw_ifT rfl (by assumption) ?_
      | refine aw_ifF rfl (by assumption) ?_
      | refine aw_ifT rfl (decide_eq_true (by assumption)) ?_
      | refine aw_ifF rfl (decide_eq_false (by assumption)) ?_
      | refine aw_seq ?_
      | refine aw_block ?_
      | refine aw_skip ?_
      | refine aw_region ?_
      | refine aw_region_draw mixed ?_
      | refine aw_exit ?_
      | refine rq_exit ?_
      | refine blockQ_hit ?_
      | refine blockQ_miss (by decide) ?_
      | (refine ar_guard rfl rfl rfl rfl (fun h => ?_) (fun h => ?_) <;> (fail_if_success (cases h; done)) <;> (try simp at h) <;> (try subst h))
      | (refine aw_both rfl (fun h => ?_) (fun h => ?_) <;> (fail_if_success (cases h; done)) <;> (try simp at h) <;> (try subst h)))
  · have hb : SC Try.prog 59 [.agg (testL i t)] (.agg (testL i (bareT t))) := by have := c_Bare (i := i) (t := t) hl; rwa [h, if_pos rfl] at this
    repeat' (first
      | exact aw_ret (ret_vals (by simp; exact rfl) (by simp [*]; fail_if_success (show _)))
      | exact aw_ret (ret_vals (by simp; exact rfl) (by simp [*]; omega))
      | refine ar_end rfl ?_
      | refine ar_endD rfl (by kernel_rfl) ?_
      | refine ar_fin rfl ?_
      | refine ar_finD rfl (by kernel_rfl) ?_
      | refine ar_callV Try.call99 (c_fine hl) rfl rfl rfl rfl rfl (by simp; done) (by rfl) (by simp; done) ?_
      | refine ar_callV_if Try.call99 (c_fine hl) rfl rfl rfl rfl rfl rfl (by simp; done) rfl (by rfl) (by simp; done) ?_
      | refine ar_callV Try.call59 hb rfl rfl rfl rfl rfl (by simp; done) (by rfl) (by simp; done) ?_
      | refine ar_callV_if Try.call59 hb rfl rfl rfl rfl rfl rfl (by simp; done) rfl (by rfl) (by simp; done) ?_
      | refine ar_callV Try.call100 (c_turnFenced h) rfl rfl rfl rfl rfl (by simp; done) (by rfl) (by simp; done) ?_
      | refine ar_callV_if Try.call100 (c_turnFenced h) rfl rfl rfl rfl rfl rfl (by simp; done) rfl (by rfl) (by simp; done) ?_
      | refine ar_go3 _ rfl (by simp [h]; exact ⟨rfl, rfl, rfl⟩) rfl ?_
      | refine aw_sregK 0 [0] ?_
      | refine aw_regK 0 [0] ?_
      | refine aw_sregK 1 [1, 2] ?_
      | refine aw_regK 1 [1, 2] ?_
      | refine aw_sregK 2 [1, 2] ?_
      | refine aw_regK 2 [1, 2] ?_
      | refine aw_sregK 3 [1, 2] ?_
      | refine aw_regK 3 [1, 2] ?_
      | refine aw_sreg ?_
      | refine aw_sregD mixed ?_
      | refine aw_ifT (b := true) rfl rfl ?_
      | refine aw_ifF (b := false) rfl rfl ?_
      | refine aw_ifT rfl (by assumption) ?_
      | refine aw_ifF rfl (by assumption) ?_
      | refine aw_ifT rfl (decide_eq_true (by assumption)) ?_
      | refine aw_ifF rfl (decide_eq_false (by assumption)) ?_
      | refine aw_seq ?_
      | refine aw_block ?_
      | refine aw_skip ?_
      | refine aw_region ?_
      | refine aw_region_draw mixed ?_
      | refine aw_exit ?_
      | refine rq_exit ?_
      | refine blockQ_hit ?_
      | refine blockQ_miss (by decide) ?_
      | (refine ar_guard rfl rfl rfl rfl (fun h => ?_) (fun h => ?_) <;> (fail_if_success (cases h; done)) <;> (try simp at h) <;> (try subst h))
      | (refine aw_both rfl (fun h => ?_) (fun h => ?_) <;> (fail_if_success (cases h; done)) <;> (try simp at h) <;> (try subst h)))
def tI : List Int := [0]
def tT : List (List In) := [[⟨6, 0, -1, 0, 0, 0⟩, ⟨11, 0, 0, 0, 0, 0⟩, ⟨5, 0, -1, 0, 0, 0⟩]]
theorem tOk : okTest tI tT = true := by kernel_rfl
theorem tCheck : checkF tI tT = (0, 0, 0) := by kernel_rfl
set_option maxHeartbeats 16000000 in
theorem c_BareX : SC Try.prog 59 [.agg (testL tI tT)] (.agg [.sl 1 [[C .i64 0]], .sl 1 [[.sl 6 [[C .i64 6, C .i64 0, C .i64 (-1), C .i64 0, C .i64 0, C .i64 0], [C .i64 5, C .i64 0, C .i64 (-1), C .i64 0, C .i64 0, C .i64 0]]]]]) := by
  have := c_Bare (i := tI) (t := tT) (by decide)
  rw [tOk, if_pos rfl] at this
  exact this
set_option maxHeartbeats 16000000 in
theorem c_CheckX : SC Try.prog 55 [.agg (testL tI tT)] (.tup [I .i64 0, I .i64 0, I .i64 0]) := by
  have := c_Check (i := tI) (t := tT) (by decide)
  rw [tCheck] at this
  exact this
set_option maxHeartbeats 16000000 in
theorem c_shown2 : SC Try.prog 53 [] (B true) := by
  refine scx_of Try.func53 rfl rfl rfl (Nat.le_of_ble_eq_true rfl) ?_
  repeat' (first
    | exact aw_ret (ret_vals (by simp; exact rfl) (by simp [*]; fail_if_success (show _)))
    | exact aw_ret (ret_vals (by simp; exact rfl) (by simp [*]; omega))
    | refine ar_end rfl ?_
    | refine ar_endD rfl (by kernel_rfl) ?_
    | refine ar_fin rfl ?_
    | refine ar_finD rfl (by kernel_rfl) ?_
    | refine ar_callV Try.call59 c_BareX rfl rfl rfl rfl rfl (by simp; done) (by rfl) (by simp; done) ?_
    | refine ar_callV_if Try.call59 c_BareX rfl rfl rfl rfl rfl rfl (by simp; done) rfl (by rfl) (by simp; done) ?_
    | refine ar_callV Try.call55 c_CheckX rfl rfl rfl rfl rfl (by simp; done) (by rfl) (by simp; done) ?_
    | refine ar_callV_if Try.call55 c_CheckX rfl rfl rfl rfl rfl rfl (by simp; done) rfl (by rfl) (by simp; done) ?_
    | refine ar_frz rfl rfl (by simp; exact rfl) rfl (by simp; fail_if_success (show _)) (by simp; exact rfl) (by simp; exact rfl) rfl (by simp; fail_if_success (show _)) ?_
    | refine ar_go3 _ rfl (by simp [*]; exact ⟨rfl, rfl, rfl⟩) rfl ?_
    | refine aw_sregK 0 [] ?_
    | refine aw_regK 0 [] ?_
    | refine aw_sregK 1 [] ?_
    | refine aw_regK 1 [] ?_
    | refine aw_sregK 2 [1] ?_
    | refine aw_regK 2 [1] ?_
    | refine aw_sregK 3 [1, 2] ?_
    | refine aw_regK 3 [1, 2] ?_
    | refine aw_sregK 4 [2, 5] ?_
    | refine aw_regK 4 [2, 5] ?_
    | refine aw_sreg ?_
    | refine aw_sregD mixed ?_
    | refine aw_ifT (b := true) rfl rfl ?_
    | refine aw_ifF (b := false) rfl rfl ?_
    | refine aw_ifT rfl (by assumption) ?_
    | refine aw_ifF rfl (by assumption) ?_
    | refine aw_ifT rfl (decide_eq_true (by assumption)) ?_
    | refine aw_ifF rfl (decide_eq_false (by assumption)) ?_
    | refine aw_seq ?_
    | refine aw_block ?_
    | refine aw_skip ?_
    | refine aw_region ?_
    | refine aw_region_draw mixed ?_
    | refine aw_exit ?_
    | refine rq_exit ?_
    | refine blockQ_hit ?_
    | refine blockQ_miss (by decide) ?_
    | (refine ar_guard rfl rfl rfl rfl (fun h => ?_) (fun h => ?_) <;> (fail_if_success (cases h; done)) <;> (try simp at h) <;> (try subst h))
    | (refine aw_both rfl (fun h => ?_) (fun h => ?_) <;> (fail_if_success (cases h; done)) <;> (try simp at h) <;> (try subst h)))
end Go.Eng
