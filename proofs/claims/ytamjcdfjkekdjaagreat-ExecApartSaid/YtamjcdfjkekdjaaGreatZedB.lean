import Derived.Test.YtamjcdfjkekdjaaGreatZedA
import Derived.Test.YtamjcdfjkekdjaaGreatEngE
import Derived.Test.YtamjcdfjkekdjaaGreatExecR
import Derived.Test.YtamjcdfjkekdjaaGreatExecF
import Derived.Test.YtamjcdfjkekdjaaGreatTestB
set_option linter.unusedSimpArgs false
set_option linter.unusedVariables false
set_option linter.constructorNameAsVariable false
set_option autoImplicit false
namespace Go.Eng
open Go Go.RowKit Go.Proofs
set_option maxHeartbeats 16000000 in
theorem c_inner1 {x y : Ev} : SC Tryz.prog 42 [.agg (evL x), .agg (evL y)] (B (innerQ x y)) := by
  refine scx_of Tryz.func42 rfl rfl rfl (Nat.le_of_ble_eq_true rfl) ?_
  repeat' (first
    | exact aw_ret (ret_vals (by simp; exact rfl) (by simp [innerQ]; fail_if_success (show _)))
    | exact aw_ret (ret_vals (by simp; exact rfl) (by simp [innerQ]; omega))
    | refine ar_end rfl ?_
    | refine ar_endD rfl (by kernel_rfl) ?_
    | refine ar_fin rfl ?_
    | refine ar_finD rfl (by kernel_rfl) ?_
    | refine ar_go3 _ rfl (by simp [evL]; exact ⟨rfl, rfl, rfl⟩) rfl ?_
    | refine aw_sregK 0 [0, 1] ?_
    | refine aw_regK 0 [0, 1] ?_
    | refine aw_sregK 1 [2, 3] ?_
    | refine aw_regK 1 [2, 3] ?_
    | refine aw_sreg ?_
    | refine aw_sregD mixed ?_
    | refine aw_ifT (b := true) rfl rfl ?_
    | refine aw_ifF (b := false) rfl rfl ?_
    | refine aw_ifT rfl (by assumption) ?_
    | refine aw_ifF rfl (by assumption) ?_
    | refine aw_ifT rfl (decide_eq_true (by assumption)) ?_
    | refine aw_ifF rfl (decide_eq_false (by assumption)) ?_
    | refine aw_seq ?_
    | refine aw_block ?_
    | refine aw_skip ?_
    | refine aw_region ?_
    | refine aw_region_draw mixed ?_
    | refine aw_exit ?_
    | refine rq_exit ?_
    | refine blockQ_hit ?_
    | refine blockQ_miss (by decide) ?_
    | (refine ar_guard rfl rfl rfl rfl (fun h => ?_) (fun h => ?_) <;> (fail_if_success (cases h; done)) <;> (try simp at h) <;> (try subst h))
    | (refine aw_both rfl (fun h => ?_) (fun h => ?_) <;> (fail_if_success (cases h; done)) <;> (try simp at h) <;> (try subst h)))
set_option maxHeartbeats 16000000 in
theorem c_inner {e : Ex} (h32 : e.es.length ≤ 32) : SC Tryz.prog 19 [.agg (exA e)] (.pv (.sl 1 (rl (eventsR innerQ e.es)))) := by
  have h := c_evpairs (e := e) Tryz.call42 (fun x y => c_inner1) h32
  refine scx_of Tryz.func19 rfl rfl rfl (Nat.le_of_ble_eq_true rfl) ?_
  repeat' (first
    | exact aw_ret (ret_vals (by simp; exact rfl) (by simp [*]; fail_if_success (show _)))
    | exact aw_ret (ret_vals (by simp; exact rfl) (by simp [*]; omega))
    | refine ar_end rfl ?_
    | refine ar_endD rfl (by kernel_rfl) ?_
    | refine ar_fin rfl ?_
    | refine ar_finD rfl (by kernel_rfl) ?_
    | refine ar_callV Tryz.call41 h rfl rfl rfl rfl rfl (by simp; done) (by rfl) (by simp; done) ?_
    | refine ar_callV_if Tryz.call41 h rfl rfl rfl rfl rfl rfl (by simp; done) rfl (by rfl) (by simp; done) ?_
    | refine ar_go3 _ rfl (by simp [*]; exact ⟨rfl, rfl, rfl⟩) rfl ?_
    | refine aw_sregK 0 [0] ?_
    | refine aw_regK 0 [0] ?_
    | refine aw_sregK 1 [1] ?_
    | refine aw_regK 1 [1] ?_
    | refine aw_sreg ?_
    | refine aw_sregD mixed ?_
    | refine aw_ifT (b := true) rfl rfl ?_
    | refine aw_ifF (b := false) rfl rfl ?_
    | refine aw_ifT rfl (by assumption) ?_
    | refine aw_ifF rfl (by assumption) ?_
    | refine aw_ifT rfl (decide_eq_true (by assumption)) ?_
    | refine aw_ifF rfl (decide_eq_false (by assumption)) ?_
    | refine aw_seq ?_
    | refine aw_block ?_
    | refine aw_skip ?_
    | refine aw_region ?_
    | refine aw_region_draw mixed ?_
    | refine aw_exit ?_
    | refine rq_exit ?_
    | refine blockQ_hit ?_
    | refine blockQ_miss (by decide) ?_
    | (refine ar_guard rfl rfl rfl rfl (fun h => ?_) (fun h => ?_) <;> (fail_if_success (cases h; done)) <;> (try simp at h) <;> (try subst h))
    | (refine aw_both rfl (fun h => ?_) (fun h => ?_) <;> (fail_if_success (cases h; done)) <;> (try simp at h) <;> (try subst h)))
theorem filter_range_succ (p : Nat → Bool) (i : Nat) : (List.range (i + 1)).filter p = (List.range i).filter p ++ (if p i = true then [i] else []) := by
  rw [List.range_succ, List.filter_append]
  congr 1
  cases h : p i <;> simp [h]
theorem mask_snoc (l : List Nat) (k : Nat) : maskW (l ++ [k]) = maskW l ||| 1#32 <<< k := by simp [maskW, List.foldl_append]
set_option maxHeartbeats 16000000 in
theorem c_mask {g : FuncId} {q : Ev → Bool} {T : TypeId} {p : PV} (hent : Enters Tryz.prog g) (hg : ∀ x : Ev, SCX Tryz.prog g [.agg (evL x), .ptr (.ext 0) 0] [(.ext 0, some (.box T [.pv p]))] (B (q x)) [(.ext 0, some (.box T [.pv p]))]) {e : Ex} (h32 : e.es.length ≤ 32) : SCX Tryz.prog 14 [.agg (exA e), .fn g [] [.ptr (.ext 0) 0]] [(.ext 0, some (.box T [.pv p]))] (I .u32 (ub (maskE q e.es))) [(.ext 0, some (.box T [.pv p]))] := by
  unfold maskE
  have hqs : ∀ i, (hi : i < e.es.length) → someE q e.es i = q e.es[i] := fun i hi => by unfold someE; rw [List.getElem?_eq_getElem hi]
  generalize someE q e.es = qs at *
  refine scx_of Tryz.func14 rfl rfl rfl (Nat.le_of_ble_eq_true rfl) ?_
  repeat' (first
    | refine ar_end rfl ?_
    | refine ar_endD rfl (by kernel_rfl) ?_
    | refine ar_fin rfl ?_
    | refine ar_finD rfl (by kernel_rfl) ?_
    | refine ar_go3 _ rfl (by simp [rl_len, rl_getE, rl_set, rl_nil, List.length_set, List.getElem_set, IntKind.bits, ub_shl1', ub_shr, ub_or, ub_and, ub_andNot, ub_bit, Int.toNat_natCast, ub_zero, evsL_len, evsL_getE, evL, prs_len, prs_getE]; exact ⟨rfl, rfl, rfl⟩) rfl ?_
    | refine aw_sregK 0 [0, 1] ?_
    | refine aw_regK 0 [0, 1] ?_
    | refine aw_sregK 1 [1, 2] ?_
    | refine aw_regK 1 [1, 2] ?_
    | refine aw_sregK 2 [1, 2, 5] ?_
    | refine aw_regK 2 [1, 2, 5] ?_
    | refine aw_sreg ?_
    | refine aw_sregD mixed ?_
    | refine aw_ifT (b := true) rfl rfl ?_
    | refine aw_ifF (b := false) rfl rfl ?_
    | refine aw_ifT rfl (by assumption) ?_
    | refine aw_ifF rfl (by assumption) ?_
    | refine aw_ifT rfl (decide_eq_true (by assumption)) ?_
    | refine aw_ifF rfl (decide_eq_false (by assumption)) ?_
    | refine aw_seq ?_
    | refine aw_block ?_
    | refine aw_skip ?_
    | refine aw_region ?_
    | refine aw_region_draw mixed ?_
    | refine aw_exit ?_
    | refine rq_exit ?_
    | refine blockQ_hit ?_
    | refine blockQ_miss (by decide) ?_
    | (refine ar_guard rfl rfl rfl rfl (fun h => ?_) (fun h => ?_) <;> (fail_if_success (cases h; done)) <;> (try simp at h) <;> (try subst h))
    | (refine aw_both rfl (fun h => ?_) (fun h => ?_) <;> (fail_if_success (cases h; done)) <;> (try simp at h) <;> (try subst h)))
  refine aw_loopN [1, 5, 9, 10, 11] [.ext 0] (by simp; exact rfl) (ι := {i : Nat // i ≤ e.es.length}) (fun i => ⟨26, [(1, .fn g [] [.ptr (.ext 0) 0]), (5, I .u32 (ub (maskW ((List.range i.1).filter qs)))), (9, .pv (.sl 7 (evsL e.es))), (10, I .i64 e.es.length), (11, I .i64 i.1)], [(.ext 0, some (.box T [.pv p]))]⟩) (fun i => e.es.length - i.1) ⟨0, by omega⟩ (by simp [maskW, ub_zero, evsL_len]) ?_
  rintro ⟨i, hi⟩
  by_cases hlt : i < e.es.length
  · have hw : IntKind.wrap .i64 ((i : Int) + 1) = (i : Int) + 1 := wrap64s (by omega) (by omega)
    have hwu := wrap64u (n := i) (by omega)
    have hd : (i : Int) < (e.es.length : Int) := by omega
    have hfs := filter_range_succ qs i
    have hqi := hqs i hlt
    generalize hx : e.es[i] = x at hqi
    have hG := hg x
    rw [hqi] at hfs
    generalize (List.range i).filter qs = F at *
    cases hb : q x
    · rw [hb] at hfs hG
      rw [if_neg (by decide), List.append_nil] at hfs
      repeat' (first
        | refine ar_end rfl ?_
        | refine ar_endD rfl (by kernel_rfl) ?_
        | refine ar_fin rfl ?_
        | refine ar_finD rfl (by kernel_rfl) ?_
        | refine ar_callE [.ext 0] [.ext 0] [] hent hG rfl rfl rfl rfl (by simp; exact rfl) rfl (by simp; done) (by rfl) (by simp; fail_if_success (show _)) rfl ⟨by simp, by simp, (by simp [okY]; fail_if_success (show _)), by simp, by simp⟩ (by simp; fail_if_success (show _)) ?_
        | refine bq_norm ?_
        | refine lq_normN [1, 5, 9, 10, 11] [.ext 0] (by simp; exact rfl) ⟨i + 1, by omega⟩ (by dsimp only; omega) (by simp [hfs])
        | refine ar_go3 _ rfl (by simp [rl_len, rl_getE, rl_set, rl_nil, List.length_set, List.getElem_set, IntKind.bits, ub_shl1', ub_shr, ub_or, ub_and, ub_andNot, ub_bit, Int.toNat_natCast, ub_zero, evsL_len, evsL_getE, evL, prs_len, prs_getE, hlt, hd, hx, hw, hwu]; exact ⟨rfl, rfl, rfl⟩) rfl ?_
        | refine aw_sregK 3 [1, 5, 9, 10, 11] ?_
        | refine aw_regK 3 [1, 5, 9, 10, 11] ?_
        | refine aw_sregK 4 [1, 5, 9, 10, 11] ?_
        | refine aw_regK 4 [1, 5, 9, 10, 11] ?_
        | refine aw_sregK 5 [1, 5, 6, 7, 9, 10, 11] ?_
        | refine aw_regK 5 [1, 5, 6, 7, 9, 10, 11] ?_
        | refine aw_sregK 6 [1, 5, 6, 9, 10, 11] ?_
        | refine aw_regK 6 [1, 5, 6, 9, 10, 11] ?_
        | refine aw_sregK 7 [1, 5, 9, 10, 11] ?_
        | refine aw_regK 7 [1, 5, 9, 10, 11] ?_
        | refine aw_sreg ?_
        | refine aw_sregD mixed ?_
        | refine aw_ifT (b := true) rfl rfl ?_
        | refine aw_ifF (b := false) rfl rfl ?_
        | refine aw_ifT rfl (by assumption) ?_
        | refine aw_ifF rfl (by assumption) ?_
        | refine aw_ifT rfl (decide_eq_true (by assumption)) ?_
        | refine aw_ifF rfl (decide_eq_false (by assumption)) ?_
        | refine aw_seq ?_
        | refine aw_block ?_
        | refine aw_skip ?_
        | refine aw_region ?_
        | refine aw_region_draw mixed ?_
        | refine aw_exit ?_
        | refine rq_exit ?_
        | refine blockQ_hit ?_
        | refine blockQ_miss (by decide) ?_
        | (refine ar_guard rfl rfl rfl rfl (fun h => ?_) (fun h => ?_) <;> (fail_if_success (cases h; done)) <;> (try simp at h) <;> (try subst h))
        | (refine aw_both rfl (fun h => ?_) (fun h => ?_) <;> (fail_if_success (cases h; done)) <;> (try simp at h) <;> (try subst h)))
    · rw [hb] at hfs hG
      rw [if_pos rfl] at hfs
      have hms := mask_snoc F i
      rw [← hfs] at hms
      repeat' (first
        | refine ar_end rfl ?_
        | refine ar_endD rfl (by kernel_rfl) ?_
        | refine ar_fin rfl ?_
        | refine ar_finD rfl (by kernel_rfl) ?_
        | refine ar_callE [.ext 0] [.ext 0] [] hent hG rfl rfl rfl rfl (by simp; exact rfl) rfl (by simp; done) (by rfl) (by simp; fail_if_success (show _)) rfl ⟨by simp, by simp, (by simp [okY]; fail_if_success (show _)), by simp, by simp⟩ (by simp; fail_if_success (show _)) ?_
        | refine bq_norm ?_
        | refine lq_normN [1, 5, 9, 10, 11] [.ext 0] (by simp; exact rfl) ⟨i + 1, by omega⟩ (by dsimp only; omega) (by simp [hms])
        | refine ar_go3 _ rfl (by simp [rl_len, rl_getE, rl_set, rl_nil, List.length_set, List.getElem_set, IntKind.bits, ub_shl1', ub_shr, ub_or, ub_and, ub_andNot, ub_bit, Int.toNat_natCast, ub_zero, evsL_len, evsL_getE, evL, prs_len, prs_getE, hlt, hd, hx, hw, hwu]; exact ⟨rfl, rfl, rfl⟩) rfl ?_
        | refine aw_sregK 3 [1, 5, 9, 10, 11] ?_
        | refine aw_regK 3 [1, 5, 9, 10, 11] ?_
        | refine aw_sregK 4 [1, 5, 9, 10, 11] ?_
        | refine aw_regK 4 [1, 5, 9, 10, 11] ?_
        | refine aw_sregK 5 [1, 5, 6, 7, 9, 10, 11] ?_
        | refine aw_regK 5 [1, 5, 6, 7, 9, 10, 11] ?_
        | refine aw_sregK 6 [1, 5, 6, 9, 10, 11] ?_
        | refine aw_regK 6 [1, 5, 6, 9, 10, 11] ?_
        | refine aw_sregK 7 [1, 5, 9, 10, 11] ?_
        | refine aw_regK 7 [1, 5, 9, 10, 11] ?_
        | refine aw_sreg ?_
        | refine aw_sregD mixed ?_
        | refine aw_ifT (b := true) rfl rfl ?_
        | refine aw_ifF (b := false) rfl rfl ?_
        | refine aw_ifT rfl (by assumption) ?_
        | refine aw_ifF rfl (by assumption) ?_
        | refine aw_ifT rfl (decide_eq_true (by assumption)) ?_
        | refine aw_ifF rfl (decide_eq_false (by assumption)) ?_
        | refine aw_seq ?_
        | refine aw_block ?_
        | refine aw_skip ?_
        | refine aw_region ?_
        | refine aw_region_draw mixed ?_
        | refine aw_exit ?_
        | refine rq_exit ?_
        | refine blockQ_hit ?_
        | refine blockQ_miss (by decide) ?_
        | (refine ar_guard rfl rfl rfl rfl (fun h => ?_) (fun h => ?_) <;> (fail_if_success (cases h; done)) <;> (try simp at h) <;> (try subst h))
        | (refine aw_both rfl (fun h => ?_) (fun h => ?_) <;> (fail_if_success (cases h; done)) <;> (try simp at h) <;> (try subst h)))
  · have hd : ¬(i : Int) < (e.es.length : Int) := by omega
    have hie : i = e.es.length := by omega
    subst hie
    repeat' (first
      | refine ar_end rfl ?_
      | refine ar_endD rfl (by kernel_rfl) ?_
      | refine ar_fin rfl ?_
      | refine ar_finD rfl (by kernel_rfl) ?_
      | refine lq_exit ?_
      | exact aw_ret (ret_rens .ret (.inr rfl) [] [.ext 0] (by simp; exact rfl) (by simp; exact rfl) (by simp []; fail_if_success (show _)) (by simp []; fail_if_success (show _)) (by simp))
      | refine ar_go3 _ rfl (by simp [rl_len, rl_getE, rl_set, rl_nil, List.length_set, List.getElem_set, IntKind.bits, ub_shl1', ub_shr, ub_or, ub_and, ub_andNot, ub_bit, Int.toNat_natCast, ub_zero, evsL_len, evsL_getE, evL, prs_len, prs_getE, hd]; exact ⟨rfl, rfl, rfl⟩) rfl ?_
      | refine aw_sregK 3 [1, 5, 9, 10, 11] ?_
      | refine aw_regK 3 [1, 5, 9, 10, 11] ?_
      | refine aw_sregK 8 [5] ?_
      | refine aw_regK 8 [5] ?_
      | refine aw_sreg ?_
      | refine aw_sregD mixed ?_
      | refine aw_ifT (b := true) rfl rfl ?_
      | refine aw_ifF (b := false) rfl rfl ?_
      | refine aw_ifT rfl (by assumption) ?_
      | refine aw_ifF rfl (by assumption) ?_
      | refine aw_ifT rfl (decide_eq_true (by assumption)) ?_
      | refine aw_ifF rfl (decide_eq_false (by assumption)) ?_
      | refine aw_seq ?_
      | refine aw_block ?_
      | refine aw_skip ?_
      | refine aw_region ?_
      | refine aw_region_draw mixed ?_
      | refine aw_exit ?_
      | refine rq_exit ?_
      | refine blockQ_hit ?_
      | refine blockQ_miss (by decide) ?_
      | (refine ar_guard rfl rfl rfl rfl (fun h => ?_) (fun h => ?_) <;> (fail_if_success (cases h; done)) <;> (try simp at h) <;> (try subst h))
      | (refine aw_both rfl (fun h => ?_) (fun h => ?_) <;> (fail_if_success (cases h; done)) <;> (try simp at h) <;> (try subst h)))
set_option maxHeartbeats 16000000 in
theorem c_maskP {g : FuncId} {q : Ev → Bool} (hent : Enters Tryz.prog g) (hg : ∀ x : Ev, SC Tryz.prog g [.agg (evL x)] (B (q x))) {e : Ex} (h32 : e.es.length ≤ 32) : SC Tryz.prog 14 [.agg (exA e), .fn g [] []] (I .u32 (ub (maskE q e.es))) := by
  unfold maskE
  have hqs : ∀ i, (hi : i < e.es.length) → someE q e.es i = q e.es[i] := fun i hi => by unfold someE; rw [List.getElem?_eq_getElem hi]
  generalize someE q e.es = qs at *
  refine scx_of Tryz.func14 rfl rfl rfl (Nat.le_of_ble_eq_true rfl) ?_
  repeat' (first
    | refine ar_end rfl ?_
    | refine ar_endD rfl (by kernel_rfl) ?_
    | refine ar_fin rfl ?_
    | refine ar_finD rfl (by kernel_rfl) ?_
    | refine ar_go3 _ rfl (by simp [rl_len, rl_getE, rl_set, rl_nil, List.length_set, List.getElem_set, IntKind.bits, ub_shl1', ub_shr, ub_or, ub_and, ub_andNot, ub_bit, Int.toNat_natCast, ub_zero, evsL_len, evsL_getE, evL, prs_len, prs_getE]; exact ⟨rfl, rfl, rfl⟩) rfl ?_
    | refine aw_sregK 0 [0, 1] ?_
    | refine aw_regK 0 [0, 1] ?_
    | refine aw_sregK 1 [1, 2] ?_
    | refine aw_regK 1 [1, 2] ?_
    | refine aw_sregK 2 [1, 2, 5] ?_
    | refine aw_regK 2 [1, 2, 5] ?_
    | refine aw_sreg ?_
    | refine aw_sregD mixed ?_
    | refine aw_ifT (b := true) rfl rfl ?_
    | refine aw_ifF (b := false) rfl rfl ?_
    | refine aw_ifT rfl (by assumption) ?_
    | refine aw_ifF rfl (by assumption) ?_
    | refine aw_ifT rfl (decide_eq_true (by assumption)) ?_
    | refine aw_ifF rfl (decide_eq_false (by assumption)) ?_
    | refine aw_seq ?_
    | refine aw_block ?_
    | refine aw_skip ?_
    | refine aw_region ?_
    | refine aw_region_draw mixed ?_
    | refine aw_exit ?_
    | refine rq_exit ?_
    | refine blockQ_hit ?_
    | refine blockQ_miss (by decide) ?_
    | (refine ar_guard rfl rfl rfl rfl (fun h => ?_) (fun h => ?_) <;> (fail_if_success (cases h; done)) <;> (try simp at h) <;> (try subst h))
    | (refine aw_both rfl (fun h => ?_) (fun h => ?_) <;> (fail_if_success (cases h; done)) <;> (try simp at h) <;> (try subst h)))
  refine aw_loopN [1, 5, 9, 10, 11] [] (by simp; exact rfl) (ι := {i : Nat // i ≤ e.es.length}) (fun i => ⟨26, [(1, .fn g [] []), (5, I .u32 (ub (maskW ((List.range i.1).filter qs)))), (9, .pv (.sl 7 (evsL e.es))), (10, I .i64 e.es.length), (11, I .i64 i.1)], []⟩) (fun i => e.es.length - i.1) ⟨0, by omega⟩ (by simp [maskW, ub_zero, evsL_len]) ?_
  rintro ⟨i, hi⟩
  by_cases hlt : i < e.es.length
  · have hw : IntKind.wrap .i64 ((i : Int) + 1) = (i : Int) + 1 := wrap64s (by omega) (by omega)
    have hwu := wrap64u (n := i) (by omega)
    have hd : (i : Int) < (e.es.length : Int) := by omega
    have hfs := filter_range_succ qs i
    have hqi := hqs i hlt
    generalize hx : e.es[i] = x at hqi
    have hG := hg x
    rw [hqi] at hfs
    generalize (List.range i).filter qs = F at *
    cases hb : q x
    · rw [hb] at hfs hG
      rw [if_neg (by decide), List.append_nil] at hfs
      repeat' (first
        | refine ar_end rfl ?_
        | refine ar_endD rfl (by kernel_rfl) ?_
        | refine ar_fin rfl ?_
        | refine ar_finD rfl (by kernel_rfl) ?_
        | refine ar_callV hent hG rfl rfl rfl rfl rfl (by simp; done) (by rfl) (by simp; done) ?_
        | refine bq_norm ?_
        | refine lq_normN [1, 5, 9, 10, 11] [] (by simp; exact rfl) ⟨i + 1, by omega⟩ (by dsimp only; omega) (by simp [hfs])
        | refine ar_go3 _ rfl (by simp [rl_len, rl_getE, rl_set, rl_nil, List.length_set, List.getElem_set, IntKind.bits, ub_shl1', ub_shr, ub_or, ub_and, ub_andNot, ub_bit, Int.toNat_natCast, ub_zero, evsL_len, evsL_getE, evL, prs_len, prs_getE, hlt, hd, hx, hw, hwu]; exact ⟨rfl, rfl, rfl⟩) rfl ?_
        | refine aw_sregK 3 [1, 5, 9, 10, 11] ?_
        | refine aw_regK 3 [1, 5, 9, 10, 11] ?_
        | refine aw_sregK 4 [1, 5, 9, 10, 11] ?_
        | refine aw_regK 4 [1, 5, 9, 10, 11] ?_
        | refine aw_sregK 5 [1, 5, 6, 7, 9, 10, 11] ?_
        | refine aw_regK 5 [1, 5, 6, 7, 9, 10, 11] ?_
        | refine aw_sregK 6 [1, 5, 6, 9, 10, 11] ?_
        | refine aw_regK 6 [1, 5, 6, 9, 10, 11] ?_
        | refine aw_sregK 7 [1, 5, 9, 10, 11] ?_
        | refine aw_regK 7 [1, 5, 9, 10, 11] ?_
        | refine aw_sreg ?_
        | refine aw_sregD mixed ?_
        | refine aw_ifT (b := true) rfl rfl ?_
        | refine aw_ifF (b := false) rfl rfl ?_
        | refine aw_ifT rfl (by assumption) ?_
        | refine aw_ifF rfl (by assumption) ?_
        | refine aw_ifT rfl (decide_eq_true (by assumption)) ?_
        | refine aw_ifF rfl (decide_eq_false (by assumption)) ?_
        | refine aw_seq ?_
        | refine aw_block ?_
        | refine aw_skip ?_
        | refine aw_region ?_
        | refine aw_region_draw mixed ?_
        | refine aw_exit ?_
        | refine rq_exit ?_
        | refine blockQ_hit ?_
        | refine blockQ_miss (by decide) ?_
        | (refine ar_guard rfl rfl rfl rfl (fun h => ?_) (fun h => ?_) <;> (fail_if_success (cases h; done)) <;> (try simp at h) <;> (try subst h))
        | (refine aw_both rfl (fun h => ?_) (fun h => ?_) <;> (fail_if_success (cases h; done)) <;> (try simp at h) <;> (try subst h)))
    · rw [hb] at hfs hG
      rw [if_pos rfl] at hfs
      have hms := mask_snoc F i
      rw [← hfs] at hms
      repeat' (first
        | refine ar_end rfl ?_
        | refine ar_endD rfl (by kernel_rfl) ?_
        | refine ar_fin rfl ?_
        | refine ar_finD rfl (by kernel_rfl) ?_
        | refine ar_callV hent hG rfl rfl rfl rfl rfl (by simp; done) (by rfl) (by simp; done) ?_
        | refine bq_norm ?_
        | refine lq_normN [1, 5, 9, 10, 11] [] (by simp; exact rfl) ⟨i + 1, by omega⟩ (by dsimp only; omega) (by simp [hms])
        | refine ar_go3 _ rfl (by simp [rl_len, rl_getE, rl_set, rl_nil, List.length_set, List.getElem_set, IntKind.bits, ub_shl1', ub_shr, ub_or, ub_and, ub_andNot, ub_bit, Int.toNat_natCast, ub_zero, evsL_len, evsL_getE, evL, prs_len, prs_getE, hlt, hd, hx, hw, hwu]; exact ⟨rfl, rfl, rfl⟩) rfl ?_
        | refine aw_sregK 3 [1, 5, 9, 10, 11] ?_
        | refine aw_regK 3 [1, 5, 9, 10, 11] ?_
        | refine aw_sregK 4 [1, 5, 9, 10, 11] ?_
        | refine aw_regK 4 [1, 5, 9, 10, 11] ?_
        | refine aw_sregK 5 [1, 5, 6, 7, 9, 10, 11] ?_
        | refine aw_regK 5 [1, 5, 6, 7, 9, 10, 11] ?_
        | refine aw_sregK 6 [1, 5, 6, 9, 10, 11] ?_
        | refine aw_regK 6 [1, 5, 6, 9, 10, 11] ?_
        | refine aw_sregK 7 [1, 5, 9, 10, 11] ?_
        | refine aw_regK 7 [1, 5, 9, 10, 11] ?_
        | refine aw_sreg ?_
        | refine aw_sregD mixed ?_
        | refine aw_ifT (b := true) rfl rfl ?_
        | refine aw_ifF (b := false) rfl rfl ?_
        | refine aw_ifT rfl (by assumption) ?_
        | refine aw_ifF rfl (by assumption) ?_
        | refine aw_ifT rfl (decide_eq_true (by assumption)) ?_
        | refine aw_ifF rfl (decide_eq_false (by assumption)) ?_
        | refine aw_seq ?_
        | refine aw_block ?_
        | refine aw_skip ?_
        | refine aw_region ?_
        | refine aw_region_draw mixed ?_
        | refine aw_exit ?_
        | refine rq_exit ?_
        | refine blockQ_hit ?_
        | refine blockQ_miss (by decide) ?_
        | (refine ar_guard rfl rfl rfl rfl (fun h => ?_) (fun h => ?_) <;> (fail_if_success (cases h; done)) <;> (try simp at h) <;> (try subst h))
        | (refine aw_both rfl (fun h => ?_) (fun h => ?_) <;> (fail_if_success (cases h; done)) <;> (try simp at h) <;> (try subst h)))
  · have hd : ¬(i : Int) < (e.es.length : Int) := by omega
    have hie : i = e.es.length := by omega
    subst hie
    repeat' (first
      | refine ar_end rfl ?_
      | refine ar_endD rfl (by kernel_rfl) ?_
      | refine ar_fin rfl ?_
      | refine ar_finD rfl (by kernel_rfl) ?_
      | refine lq_exit ?_
      | exact aw_ret (ret_rens .ret (.inr rfl) [] [] (by simp; exact rfl) (by simp; exact rfl) (by simp []; fail_if_success (show _)) (by simp []; fail_if_success (show _)) (by simp))
      | refine ar_go3 _ rfl (by simp [rl_len, rl_getE, rl_set, rl_nil, List.length_set, List.getElem_set, IntKind.bits, ub_shl1', ub_shr, ub_or, ub_and, ub_andNot, ub_bit, Int.toNat_natCast, ub_zero, evsL_len, evsL_getE, evL, prs_len, prs_getE, hd]; exact ⟨rfl, rfl, rfl⟩) rfl ?_
      | refine aw_sregK 3 [1, 5, 9, 10, 11] ?_
      | refine aw_regK 3 [1, 5, 9, 10, 11] ?_
      | refine aw_sregK 8 [5] ?_
      | refine aw_regK 8 [5] ?_
      | refine aw_sreg ?_
      | refine aw_sregD mixed ?_
      | refine aw_ifT (b := true) rfl rfl ?_
      | refine aw_ifF (b := false) rfl rfl ?_
      | refine aw_ifT rfl (by assumption) ?_
      | refine aw_ifF rfl (by assumption) ?_
      | refine aw_ifT rfl (decide_eq_true (by assumption)) ?_
      | refine aw_ifF rfl (decide_eq_false (by assumption)) ?_
      | refine aw_seq ?_
      | refine aw_block ?_
      | refine aw_skip ?_
      | refine aw_region ?_
      | refine aw_region_draw mixed ?_
      | refine aw_exit ?_
      | refine rq_exit ?_
      | refine blockQ_hit ?_
      | refine blockQ_miss (by decide) ?_
      | (refine ar_guard rfl rfl rfl rfl (fun h => ?_) (fun h => ?_) <;> (fail_if_success (cases h; done)) <;> (try simp at h) <;> (try subst h))
      | (refine aw_both rfl (fun h => ?_) (fun h => ?_) <;> (fail_if_success (cases h; done)) <;> (try simp at h) <;> (try subst h)))
def idxF (x : Int) : List Int → Nat → Int
  | [], _ => -1
  | y :: l, i => if x = y then (i : Int) else idxF x l (i + 1)
theorem idx_mem (x : Int) : ∀ (l : List Int) (i : Nat), decide (0 ≤ idxF x l i) = l.contains x
  | [], i => by simp [idxF]
  | y :: l, i => by
    rw [idxF, List.contains_cons]
    by_cases h : x = y
    · rw [if_pos h]; subst h; simp
    · rw [if_neg h, idx_mem x l (i + 1)]; simp [h]
set_option maxHeartbeats 16000000 in
theorem c_index {l : List Int} {x : Int} (hl : l.length ≤ 1000000) : SC Tryz.prog 69 [.pv (.sl 1 (ints l)), I .i64 x] (I .i64 (idxF x l 0)) := by
  refine scx_of Tryz.func69 rfl rfl rfl (Nat.le_of_ble_eq_true rfl) ?_
  repeat' (first
    | refine ar_end rfl ?_
    | refine ar_endD rfl (by kernel_rfl) ?_
    | refine ar_fin rfl ?_
    | refine ar_finD rfl (by kernel_rfl) ?_
    | refine ar_go3 _ rfl (by simp [ints_len]; exact ⟨rfl, rfl, rfl⟩) rfl ?_
    | refine aw_sregK 0 [0, 1] ?_
    | refine aw_regK 0 [0, 1] ?_
    | refine aw_sregK 1 [0, 1] ?_
    | refine aw_regK 1 [0, 1] ?_
    | refine aw_sreg ?_
    | refine aw_sregD mixed ?_
    | refine aw_ifT (b := true) rfl rfl ?_
    | refine aw_ifF (b := false) rfl rfl ?_
    | refine aw_ifT rfl (by assumption) ?_
    | refine aw_ifF rfl (by assumption) ?_
    | refine aw_ifT rfl (decide_eq_true (by assumption)) ?_
    | refine aw_ifF rfl (decide_eq_false (by assumption)) ?_
    | refine aw_seq ?_
    | refine aw_block ?_
    | refine aw_skip ?_
    | refine aw_region ?_
    | refine aw_region_draw mixed ?_
    | refine aw_exit ?_
    | refine rq_exit ?_
    | refine blockQ_hit ?_
    | refine blockQ_miss (by decide) ?_
    | (refine ar_guard rfl rfl rfl rfl (fun h => ?_) (fun h => ?_) <;> (fail_if_success (cases h; done)) <;> (try simp at h) <;> (try subst h))
    | (refine aw_both rfl (fun h => ?_) (fun h => ?_) <;> (fail_if_success (cases h; done)) <;> (try simp at h) <;> (try subst h)))
  refine aw_loopN [0, 1, 7, 8] [] (by simp; exact rfl) (ι := {i : Nat // i ≤ l.length ∧ idxF x (l.drop i) i = idxF x l 0}) (fun i => ⟨19, [(0, .pv (.sl 1 (ints l))), (1, I .i64 x), (7, I .i64 l.length), (8, I .i64 i.1)], []⟩) (fun i => l.length - i.1) ⟨0, by omega, rfl⟩ (by simp [ints_len]) ?_
  rintro ⟨i, hi, hq⟩
  by_cases hlt : i < l.length
  · have hw : IntKind.wrap .i64 ((i : Int) + 1) = (i : Int) + 1 := wrap64s (by omega) (by omega)
    have hd : (i : Int) < (l.length : Int) := by omega
    rw [List.drop_eq_getElem_cons hlt, idxF] at hq
    generalize hy : l[i] = y at *
    by_cases hxy : x = y
    · rw [if_pos hxy] at hq
      subst hxy
      repeat' (first
        | exact aw_ret (ret_vals (by simp; exact rfl) (by simp [← hq]; fail_if_success (show _)))
        | exact aw_ret (ret_vals (by simp; exact rfl) (by simp [← hq]; omega))
        | refine ar_end rfl ?_
        | refine ar_endD rfl (by kernel_rfl) ?_
        | refine ar_fin rfl ?_
        | refine ar_finD rfl (by kernel_rfl) ?_
        | refine ar_go3 _ rfl (by simp [ints_len, ints_getE, hlt, hd, hy, hw]; exact ⟨rfl, rfl, rfl⟩) rfl ?_
        | refine aw_sregK 0 [0, 1] ?_
        | refine aw_regK 0 [0, 1] ?_
        | refine aw_sregK 1 [0, 1] ?_
        | refine aw_regK 1 [0, 1] ?_
        | refine aw_sregK 2 [0, 1, 7, 8] ?_
        | refine aw_regK 2 [0, 1, 7, 8] ?_
        | refine aw_sregK 3 [0, 1, 7, 8] ?_
        | refine aw_regK 3 [0, 1, 7, 8] ?_
        | refine aw_sregK 4 [0, 1, 5, 7, 8] ?_
        | refine aw_regK 4 [0, 1, 5, 7, 8] ?_
        | refine aw_sregK 5 [5] ?_
        | refine aw_regK 5 [5] ?_
        | refine aw_sregK 6 [0, 1, 7, 8] ?_
        | refine aw_regK 6 [0, 1, 7, 8] ?_
        | refine aw_sregK 7 [] ?_
        | refine aw_regK 7 [] ?_
        | refine aw_sreg ?_
        | refine aw_sregD mixed ?_
        | refine aw_ifT (b := true) rfl rfl ?_
        | refine aw_ifF (b := false) rfl rfl ?_
        | refine aw_ifT rfl (by assumption) ?_
        | refine aw_ifF rfl (by assumption) ?_
        | refine aw_ifT rfl (decide_eq_true (by assumption)) ?_
        | refine aw_ifF rfl (decide_eq_false (by assumption)) ?_
        | refine aw_seq ?_
        | refine aw_block ?_
        | refine aw_skip ?_
        | refine aw_region ?_
        | refine aw_region_draw mixed ?_
        | refine aw_exit ?_
        | refine rq_exit ?_
        | refine blockQ_hit ?_
        | refine blockQ_miss (by decide) ?_
        | (refine ar_guard rfl rfl rfl rfl (fun h => ?_) (fun h => ?_) <;> (fail_if_success (cases h; done)) <;> (try simp at h) <;> (try subst h))
        | (refine aw_both rfl (fun h => ?_) (fun h => ?_) <;> (fail_if_success (cases h; done)) <;> (try simp at h) <;> (try subst h)))
    · rw [if_neg hxy] at hq
      have hyx : ¬y = x := fun h => hxy h.symm
      repeat' (first
        | refine ar_end rfl ?_
        | refine ar_endD rfl (by kernel_rfl) ?_
        | refine ar_fin rfl ?_
        | refine ar_finD rfl (by kernel_rfl) ?_
        | refine bq_norm ?_
        | refine lq_normN [0, 1, 7, 8] [] (by simp; exact rfl) ⟨i + 1, by omega, hq⟩ (by dsimp only; omega) (by simp)
        | refine ar_go3 _ rfl (by simp [ints_len, ints_getE, hlt, hd, hy, hw, hxy, hyx]; exact ⟨rfl, rfl, rfl⟩) rfl ?_
        | refine aw_sregK 0 [0, 1] ?_
        | refine aw_regK 0 [0, 1] ?_
        | refine aw_sregK 1 [0, 1] ?_
        | refine aw_regK 1 [0, 1] ?_
        | refine aw_sregK 2 [0, 1, 7, 8] ?_
        | refine aw_regK 2 [0, 1, 7, 8] ?_
        | refine aw_sregK 3 [0, 1, 7, 8] ?_
        | refine aw_regK 3 [0, 1, 7, 8] ?_
        | refine aw_sregK 4 [0, 1, 5, 7, 8] ?_
        | refine aw_regK 4 [0, 1, 5, 7, 8] ?_
        | refine aw_sregK 5 [5] ?_
        | refine aw_regK 5 [5] ?_
        | refine aw_sregK 6 [0, 1, 7, 8] ?_
        | refine aw_regK 6 [0, 1, 7, 8] ?_
        | refine aw_sregK 7 [] ?_
        | refine aw_regK 7 [] ?_
        | refine aw_sreg ?_
        | refine aw_sregD mixed ?_
        | refine aw_ifT (b := true) rfl rfl ?_
        | refine aw_ifF (b := false) rfl rfl ?_
        | refine aw_ifT rfl (by assumption) ?_
        | refine aw_ifF rfl (by assumption) ?_
        | refine aw_ifT rfl (decide_eq_true (by assumption)) ?_
        | refine aw_ifF rfl (decide_eq_false (by assumption)) ?_
        | refine aw_seq ?_
        | refine aw_block ?_
        | refine aw_skip ?_
        | refine aw_region ?_
        | refine aw_region_draw mixed ?_
        | refine aw_exit ?_
        | refine rq_exit ?_
        | refine blockQ_hit ?_
        | refine blockQ_miss (by decide) ?_
        | (refine ar_guard rfl rfl rfl rfl (fun h => ?_) (fun h => ?_) <;> (fail_if_success (cases h; done)) <;> (try simp at h) <;> (try subst h))
        | (refine aw_both rfl (fun h => ?_) (fun h => ?_) <;> (fail_if_success (cases h; done)) <;> (try simp at h) <;> (try subst h)))
  have hd : ¬(i : Int) < (l.length : Int) := by omega
  rw [List.drop_eq_nil_of_le (by omega), idxF] at hq
  repeat' (first
    | exact aw_ret (ret_vals (by simp; exact rfl) (by simp [← hq]; fail_if_success (show _)))
    | exact aw_ret (ret_vals (by simp; exact rfl) (by simp [← hq]; omega))
    | refine ar_end rfl ?_
    | refine ar_endD rfl (by kernel_rfl) ?_
    | refine ar_fin rfl ?_
    | refine ar_finD rfl (by kernel_rfl) ?_
    | refine lq_exit ?_
    | refine ar_go3 _ rfl (by simp [ints_len, hd]; exact ⟨rfl, rfl, rfl⟩) rfl ?_
    | refine aw_sregK 0 [0, 1] ?_
    | refine aw_regK 0 [0, 1] ?_
    | refine aw_sregK 1 [0, 1] ?_
    | refine aw_regK 1 [0, 1] ?_
    | refine aw_sregK 2 [0, 1, 7, 8] ?_
    | refine aw_regK 2 [0, 1, 7, 8] ?_
    | refine aw_sregK 3 [0, 1, 7, 8] ?_
    | refine aw_regK 3 [0, 1, 7, 8] ?_
    | refine aw_sregK 4 [0, 1, 5, 7, 8] ?_
    | refine aw_regK 4 [0, 1, 5, 7, 8] ?_
    | refine aw_sregK 5 [5] ?_
    | refine aw_regK 5 [5] ?_
    | refine aw_sregK 6 [0, 1, 7, 8] ?_
    | refine aw_regK 6 [0, 1, 7, 8] ?_
    | refine aw_sregK 7 [] ?_
    | refine aw_regK 7 [] ?_
    | refine aw_sreg ?_
    | refine aw_sregD mixed ?_
    | refine aw_ifT (b := true) rfl rfl ?_
    | refine aw_ifF (b := false) rfl rfl ?_
    | refine aw_ifT rfl (by assumption) ?_
    | refine aw_ifF rfl (by assumption) ?_
    | refine aw_ifT rfl (decide_eq_true (by assumption)) ?_
    | refine aw_ifF rfl (decide_eq_false (by assumption)) ?_
    | refine aw_seq ?_
    | refine aw_block ?_
    | refine aw_skip ?_
    | refine aw_region ?_
    | refine aw_region_draw mixed ?_
    | refine aw_exit ?_
    | refine rq_exit ?_
    | refine blockQ_hit ?_
    | refine blockQ_miss (by decide) ?_
    | (refine ar_guard rfl rfl rfl rfl (fun h => ?_) (fun h => ?_) <;> (fail_if_success (cases h; done)) <;> (try simp at h) <;> (try subst h))
    | (refine aw_both rfl (fun h => ?_) (fun h => ?_) <;> (fail_if_success (cases h; done)) <;> (try simp at h) <;> (try subst h)))
set_option maxHeartbeats 16000000 in
theorem c_contains {l : List Int} {x : Int} (hl : l.length ≤ 1000000) : SC Tryz.prog 37 [.pv (.sl 1 (ints l)), I .i64 x] (B (l.contains x)) := by
  have hI := c_index (x := x) hl
  have hm := idx_mem x l 0
  generalize idxF x l 0 = k at *
  refine scx_of Tryz.func37 rfl rfl rfl (Nat.le_of_ble_eq_true rfl) ?_
  repeat' (first
    | exact aw_ret (ret_vals (by simp; exact rfl) (by simp [← hm]; fail_if_success (show _)))
    | exact aw_ret (ret_vals (by simp; exact rfl) (by simp [← hm]; omega))
    | refine ar_end rfl ?_
    | refine ar_endD rfl (by kernel_rfl) ?_
    | refine ar_fin rfl ?_
    | refine ar_finD rfl (by kernel_rfl) ?_
    | refine ar_callV Tryz.call69 hI rfl rfl rfl rfl rfl (by simp; done) (by rfl) (by simp; done) ?_
    | refine ar_callV_if Tryz.call69 hI rfl rfl rfl rfl rfl rfl (by simp; done) rfl (by rfl) (by simp; done) ?_
    | refine ar_go3 _ rfl (by simp [*]; exact ⟨rfl, rfl, rfl⟩) rfl ?_
    | refine aw_sregK 0 [0, 1] ?_
    | refine aw_regK 0 [0, 1] ?_
    | refine aw_sregK 1 [0, 1] ?_
    | refine aw_regK 1 [0, 1] ?_
    | refine aw_sreg ?_
    | refine aw_sregD mixed ?_
    | refine aw_ifT (b := true) rfl rfl ?_
    | refine aw_ifF (b := false) rfl rfl ?_
    | refine aw_ifT rfl (by assumption) ?_
    | refine aw_ifF rfl (by assumption) ?_
    | refine aw_ifT rfl (decide_eq_true (by assumption)) ?_
    | refine aw_ifF rfl (decide_eq_false (by assumption)) ?_
    | refine aw_seq ?_
    | refine aw_block ?_
    | refine aw_skip ?_
    | refine aw_region ?_
    | refine aw_region_draw mixed ?_
    | refine aw_exit ?_
    | refine rq_exit ?_
    | refine blockQ_hit ?_
    | refine blockQ_miss (by decide) ?_
    | (refine ar_guard rfl rfl rfl rfl (fun h => ?_) (fun h => ?_) <;> (fail_if_success (cases h; done)) <;> (try simp at h) <;> (try subst h))
    | (refine aw_both rfl (fun h => ?_) (fun h => ?_) <;> (fail_if_success (cases h; done)) <;> (try simp at h) <;> (try subst h)))
set_option maxHeartbeats 16000000 in
theorem c_kinds1 {l : List Int} {x : Ev} (hl : l.length ≤ 1000000) : SCX Tryz.prog 36 [.agg (evL x), .ptr (.ext 0) 0] [(.ext 0, some (.box 69 [.pv (.sl 1 (ints l))]))] (B (l.contains x.k)) [(.ext 0, some (.box 69 [.pv (.sl 1 (ints l))]))] := by
  have hC := c_contains (x := x.k) hl
  generalize l.contains x.k = b at *
  refine scx_of Tryz.func36 rfl rfl rfl (Nat.le_of_ble_eq_true rfl) ?_
  repeat' (first
    | refine ar_end rfl ?_
    | refine ar_endD rfl (by kernel_rfl) ?_
    | refine ar_fin rfl ?_
    | refine ar_finD rfl (by kernel_rfl) ?_
    | refine ar_callV Tryz.call37 hC rfl rfl rfl rfl rfl (by simp; done) (by rfl) (by simp; done) ?_
    | refine ar_callV_if Tryz.call37 hC rfl rfl rfl rfl rfl rfl (by simp; done) rfl (by rfl) (by simp; done) ?_
    | exact aw_ret (ret_rens .ret (.inr rfl) [] [.ext 0] (by simp; exact rfl) (by simp; exact rfl) (by simp []; fail_if_success (show _)) (by simp []; fail_if_success (show _)) (by simp))
    | refine ar_go3 _ rfl (by simp [evL]; exact ⟨rfl, rfl, rfl⟩) rfl ?_
    | refine aw_sregK 0 [0, 1] ?_
    | refine aw_regK 0 [0, 1] ?_
    | refine aw_sregK 1 [1, 2] ?_
    | refine aw_regK 1 [1, 2] ?_
    | refine aw_sreg ?_
    | refine aw_sregD mixed ?_
    | refine aw_ifT (b := true) rfl rfl ?_
    | refine aw_ifF (b := false) rfl rfl ?_
    | refine aw_ifT rfl (by assumption) ?_
    | refine aw_ifF rfl (by assumption) ?_
    | refine aw_ifT rfl (decide_eq_true (by assumption)) ?_
    | refine aw_ifF rfl (decide_eq_false (by assumption)) ?_
    | refine aw_seq ?_
    | refine aw_block ?_
    | refine aw_skip ?_
    | refine aw_region ?_
    | refine aw_region_draw mixed ?_
    | refine aw_exit ?_
    | refine rq_exit ?_
    | refine blockQ_hit ?_
    | refine blockQ_miss (by decide) ?_
    | (refine ar_guard rfl rfl rfl rfl (fun h => ?_) (fun h => ?_) <;> (fail_if_success (cases h; done)) <;> (try simp at h) <;> (try subst h))
    | (refine aw_both rfl (fun h => ?_) (fun h => ?_) <;> (fail_if_success (cases h; done)) <;> (try simp at h) <;> (try subst h)))
set_option maxHeartbeats 16000000 in
theorem c_kinds {e : Ex} {l : List Int} (h32 : e.es.length ≤ 32) (hl : l.length ≤ 1000000) : SC Tryz.prog 13 [.agg (exA e), .pv (.sl 1 (ints l))] (I .u32 (ub (maskE (fun x => l.contains x.k) e.es))) := by
  have hM := c_mask (T := 69) Tryz.call36 (fun x => c_kinds1 (l := l) (x := x) hl) h32
  refine scx_of Tryz.func13 rfl rfl rfl (Nat.le_of_ble_eq_true rfl) ?_
  repeat' (first
    | exact aw_ret (ret_vals (by simp; exact rfl) (by simp [*]; fail_if_success (show _)))
    | exact aw_ret (ret_vals (by simp; exact rfl) (by simp [*]; omega))
    | refine ar_end rfl ?_
    | refine ar_endD rfl (by kernel_rfl) ?_
    | refine ar_fin rfl ?_
    | refine ar_finD rfl (by kernel_rfl) ?_
    | refine ar_callE [.loc 3] [.loc 3] [] Tryz.call14 hM rfl rfl rfl rfl (by simp; exact rfl) rfl (by simp; done) (by rfl) (by simp; fail_if_success (show _)) rfl ⟨by simp, by simp, (by simp [okY]; fail_if_success (show _)), by simp, by simp⟩ (by simp; fail_if_success (show _)) ?_
    | refine ar_go3 _ rfl (by simp [*]; exact ⟨rfl, rfl, rfl⟩) rfl ?_
    | refine aw_sregK 0 [0, 1] ?_
    | refine aw_regK 0 [0, 1] ?_
    | refine aw_sregK 1 [2, 3] ?_
    | refine aw_regK 1 [2, 3] ?_
    | refine aw_sreg ?_
    | refine aw_sregD mixed ?_
    | refine aw_ifT (b := true) rfl rfl ?_
    | refine aw_ifF (b := false) rfl rfl ?_
    | refine aw_ifT rfl (by assumption) ?_
    | refine aw_ifF rfl (by assumption) ?_
    | refine aw_ifT rfl (decide_eq_true (by assumption)) ?_
    | refine aw_ifF rfl (decide_eq_false (by assumption)) ?_
    | refine aw_seq ?_
    | refine aw_block ?_
    | refine aw_skip ?_
    | refine aw_region ?_
    | refine aw_region_draw mixed ?_
    | refine aw_exit ?_
    | refine rq_exit ?_
    | refine blockQ_hit ?_
    | refine blockQ_miss (by decide) ?_
    | (refine ar_guard rfl rfl rfl rfl (fun h => ?_) (fun h => ?_) <;> (fail_if_success (cases h; done)) <;> (try simp at h) <;> (try subst h))
    | (refine aw_both rfl (fun h => ?_) (fun h => ?_) <;> (fail_if_success (cases h; done)) <;> (try simp at h) <;> (try subst h)))
def storesQ (x : Ev) : Bool := x.ex && decide (x.k = 2)
set_option maxHeartbeats 16000000 in
theorem c_stores {x : Ev} : SC Tryz.prog 15 [.agg (evL x)] (B (storesQ x)) := by
  refine scx_of Tryz.func15 rfl rfl rfl (Nat.le_of_ble_eq_true rfl) ?_
  cases hx : x.ex
  ·
    repeat' (first
      | exact aw_ret (ret_vals (by simp; exact rfl) (by simp [storesQ, hx]; fail_if_success (show _)))
      | exact aw_ret (ret_vals (by simp; exact rfl) (by simp [storesQ, hx]; omega))
      | refine ar_end rfl ?_
      | refine ar_endD rfl (by kernel_rfl) ?_
      | refine ar_fin rfl ?_
      | refine ar_finD rfl (by kernel_rfl) ?_
      | refine ar_go3 _ rfl (by simp [evL, hx]; exact ⟨rfl, rfl, rfl⟩) rfl ?_
      | refine aw_sregK 0 [0] ?_
      | refine aw_regK 0 [0] ?_
      | refine aw_sregK 1 [1] ?_
      | refine aw_regK 1 [1] ?_
      | refine aw_sreg ?_
      | refine aw_sregD mixed ?_
      | refine aw_ifT (b := true) rfl rfl ?_
      | refine aw_ifF (b := false) rfl rfl ?_
      | refine aw_ifT rfl (by assumption) ?_
      | refine aw_ifF rfl (by assumption) ?_
      | refine aw_ifT rfl (decide_eq_true (by assumption)) ?_
      | refine aw_ifF rfl (decide_eq_false (by assumption)) ?_
      | refine aw_seq ?_
      | refine aw_block ?_
      | refine aw_skip ?_
      | refine aw_region ?_
      | refine aw_region_draw mixed ?_
      | refine aw_exit ?_
      | refine rq_exit ?_
      | refine blockQ_hit ?_
      | refine blockQ_miss (by decide) ?_
      | (refine ar_guard rfl rfl rfl rfl (fun h => ?_) (fun h => ?_) <;> (fail_if_success (cases h; done)) <;> (try simp at h) <;> (try subst h))
      | (refine aw_both rfl (fun h => ?_) (fun h => ?_) <;> (fail_if_success (cases h; done)) <;> (try simp at h) <;> (try subst h)))
  · by_cases h2 : x.k = 2
    ·
      repeat' (first
        | exact aw_ret (ret_vals (by simp; exact rfl) (by simp [storesQ, hx, h2]; fail_if_success (show _)))
        | exact aw_ret (ret_vals (by simp; exact rfl) (by simp [storesQ, hx, h2]; omega))
        | refine ar_end rfl ?_
        | refine ar_endD rfl (by kernel_rfl) ?_
        | refine ar_fin rfl ?_
        | refine ar_finD rfl (by kernel_rfl) ?_
        | refine ar_go3 _ rfl (by simp [evL, hx, h2]; exact ⟨rfl, rfl, rfl⟩) rfl ?_
        | refine aw_sregK 0 [0] ?_
        | refine aw_regK 0 [0] ?_
        | refine aw_sregK 1 [1] ?_
        | refine aw_regK 1 [1] ?_
        | refine aw_sreg ?_
        | refine aw_sregD mixed ?_
        | refine aw_ifT (b := true) rfl rfl ?_
        | refine aw_ifF (b := false) rfl rfl ?_
        | refine aw_ifT rfl (by assumption) ?_
        | refine aw_ifF rfl (by assumption) ?_
        | refine aw_ifT rfl (decide_eq_true (by assumption)) ?_
        | refine aw_ifF rfl (decide_eq_false (by assumption)) ?_
        | refine aw_seq ?_
        | refine aw_block ?_
        | refine aw_skip ?_
        | refine aw_region ?_
        | refine aw_region_draw mixed ?_
        | refine aw_exit ?_
        | refine rq_exit ?_
        | refine blockQ_hit ?_
        | refine blockQ_miss (by decide) ?_
        | (refine ar_guard rfl rfl rfl rfl (fun h => ?_) (fun h => ?_) <;> (fail_if_success (cases h; done)) <;> (try simp at h) <;> (try subst h))
        | (refine aw_both rfl (fun h => ?_) (fun h => ?_) <;> (fail_if_success (cases h; done)) <;> (try simp at h) <;> (try subst h)))
    ·
      repeat' (first
        | exact aw_ret (ret_vals (by simp; exact rfl) (by simp [storesQ, hx, h2]; fail_if_success (show _)))
        | exact aw_ret (ret_vals (by simp; exact rfl) (by simp [storesQ, hx, h2]; omega))
        | refine ar_end rfl ?_
        | refine ar_endD rfl (by kernel_rfl) ?_
        | refine ar_fin rfl ?_
        | refine ar_finD rfl (by kernel_rfl) ?_
        | refine ar_go3 _ rfl (by simp [evL, hx, h2]; exact ⟨rfl, rfl, rfl⟩) rfl ?_
        | refine aw_sregK 0 [0] ?_
        | refine aw_regK 0 [0] ?_
        | refine aw_sregK 1 [1] ?_
        | refine aw_regK 1 [1] ?_
        | refine aw_sreg ?_
        | refine aw_sregD mixed ?_
        | refine aw_ifT (b := true) rfl rfl ?_
        | refine aw_ifF (b := false) rfl rfl ?_
        | refine aw_ifT rfl (by assumption) ?_
        | refine aw_ifF rfl (by assumption) ?_
        | refine aw_ifT rfl (decide_eq_true (by assumption)) ?_
        | refine aw_ifF rfl (decide_eq_false (by assumption)) ?_
        | refine aw_seq ?_
        | refine aw_block ?_
        | refine aw_skip ?_
        | refine aw_region ?_
        | refine aw_region_draw mixed ?_
        | refine aw_exit ?_
        | refine rq_exit ?_
        | refine blockQ_hit ?_
        | refine blockQ_miss (by decide) ?_
        | (refine ar_guard rfl rfl rfl rfl (fun h => ?_) (fun h => ?_) <;> (fail_if_success (cases h; done)) <;> (try simp at h) <;> (try subst h))
        | (refine aw_both rfl (fun h => ?_) (fun h => ?_) <;> (fail_if_success (cases h; done)) <;> (try simp at h) <;> (try subst h)))
end Go.Eng
set_option linter.unusedSimpArgs false
set_option linter.unusedVariables false
set_option linter.constructorNameAsVariable false
set_option autoImplicit false
namespace Go.Eng
open Go Go.RowKit Go.Proofs
theorem maskE_out {q : Ev → Bool} {es : List Ev} {j : Nat} (hj : es.length ≤ j) : (maskE q es).getLsbD j = false := by
  by_cases h32 : j < 32
  · unfold maskE
    rw [mask_bit h32]
    refine decide_eq_false fun hm => ?_
    have := List.mem_range.1 (List.mem_filter.1 hm).1
    omega
  · exact BitVec.getLsbD_of_ge _ _ (by omega)
theorem exsL_getE {l : List Ex} {i : Nat} (h : i < (exsL l).length) : (exsL l)[i] = exA (l[i]'(by simpa [exsL] using h)) := by simp [exsL]
theorem to_own {n : Nat} {e : Ex} (h : ExR n e) : maskW ((pairsR e.rm).map (·.2)) = maskE storesQ e.es := by
  have hcl := h.crm.clean
  have hl := h.len
  have hrl := h.crm.len
  refine wd_ext fun j hj => ?_
  rw [mask_bit hj]
  by_cases hn : j < n
  · rw [kind_bit h _ hn]
    cases hs : storesQ (evA e j)
    · refine decide_eq_false fun hm => ?_
      obtain ⟨p, hp, rfl⟩ := List.mem_map.1 hm
      have hb := (mem_pairs.1 hp).2.2
      rw [hcl] at hb
      have r := h.rm2 _ _ hb
      simp [storesQ, r.1, r.2.1] at hs
    · simp only [storesQ, Bool.and_eq_true, decide_eq_true_eq] at hs
      obtain ⟨x, hx, hb⟩ := h.rm3 j hn hs.2 hs.1
      exact decide_eq_true (List.mem_map.2 ⟨(x, j), mem_pairs.2 ⟨by rw [hcl, hrl]; exact hx, by rw [hcl, hrl]; exact hn, by rw [hcl]; exact hb⟩, rfl⟩)
  · rw [maskE_out (by omega)]
    refine decide_eq_false fun hm => ?_
    obtain ⟨p, hp, rfl⟩ := List.mem_map.1 hm
    have hb := (mem_pairs.1 hp).2.2
    rw [hcl, h.crm.out _ _ (by omega)] at hb
    cases hb
theorem kinds_eq {p q : Ev → Bool} {es : List Ev} (h : ∀ x, p x = q x) : maskE p es = maskE q es := by
  have : p = q := funext h
  rw [this]
set_option maxHeartbeats 16000000 in
theorem c_kinds12 {e : Ex} (h32 : e.es.length ≤ 32) : SC Tryz.prog 13 [.agg (exA e), .pv (.sl 1 [[C .i64 1], [C .i64 2]])] (I .u32 (ub (maskE memE e.es))) := by
  have h := c_kinds (e := e) (l := [1, 2]) h32 (by decide)
  rw [kinds_eq (q := memE) (fun x => by simp [memE])] at h
  exact h
set_option maxHeartbeats 16000000 in
theorem c_kindsR {e : Ex} (h32 : e.es.length ≤ 32) : SC Tryz.prog 13 [.agg (exA e), .pv (.sl 1 [[C .i64 1]])] (I .u32 (ub (maskE (fun x => decide (x.k = 1)) e.es))) := by
  have h := c_kinds (e := e) (l := [1]) h32 (by decide)
  rw [kinds_eq (q := fun x => decide (x.k = 1)) (fun x => by simp)] at h
  exact h
set_option maxHeartbeats 16000000 in
theorem c_kindsW {e : Ex} (h32 : e.es.length ≤ 32) : SC Tryz.prog 13 [.agg (exA e), .pv (.sl 1 [[C .i64 2]])] (I .u32 (ub (maskE (fun x => decide (x.k = 2)) e.es))) := by
  have h := c_kinds (e := e) (l := [2]) h32 (by decide)
  rw [kinds_eq (q := fun x => decide (x.k = 2)) (fun x => by simp)] at h
  exact h
theorem both_le (f : Wd → Wd → Wd) (a b : RL) : (bothR f a b).length ≤ 32 := by
  unfold bothR
  split
  · rw [List.length_zipWith]; have := clean_le a; omega
  · simp
theorem only_le (a : RL) (fr to : Wd) : (onlyR a fr to).length ≤ 32 := by unfold onlyR; rw [List.length_mapIdx]; exact clean_le a
theorem all_pos {i : List Int} {t : List (List In)} (h : (allF i t).2 = 0) : 0 < (allF i t).1.length ∧ (allF i t).1.length ≤ 20000 := by
  by_cases ho : (ofF i t).2 = 0
  · rcases all_many ho with ⟨_, h1⟩ | ⟨h0, _, h2, h3⟩
    · rw [h1] at h; cases h
    · omega
  · rw [all_bad ho] at h; exact absurd h ho
end Go.Eng
