import Derived.Test.YtamjcdfjkekdjaaInsShown
set_option linter.unusedSimpArgs false
set_option linter.unusedVariables false
set_option linter.constructorNameAsVariable false
set_option autoImplicit false
namespace Go.Eng
open Go Go.RowKit Go.Proofs
theorem wf8' {n : Int} (h : (Lit.int .u8 n).wf = true) : 0 ≤ n ∧ n ≤ 255 := by
  simp [Lit.wf, IntKind.min, IntKind.max, IntKind.signed, IntKind.bits] at h; omega
set_option maxHeartbeats 16000000 in
theorem law_InsWider_w {op d a b l m u v c U V W UW VW : Int} (hU : IntKind.wrap .i64 u = U) (hV : IntKind.wrap .i64 v = V) (hW : IntKind.wrap .i64 c = W) (hUW : IntKind.wrap .i64 (U + W) = UW) (hVW : IntKind.wrap .i64 (V + W) = VW)
    (k1 : mayF op d a b l m U V = true → mayF op d a b l m UW V = true) (k2 : mayF op d a b l m U V = true → mayF op d a b l m U VW = true) (k3 : kindF op = 0 → mayF op d a b l m U 0 = mayF op d a b l m U V) :
    SC Try.prog 9 [.agg [C .i64 op, C .i64 d, C .i64 a, C .i64 b, C .i64 l, C .i64 m], I .u8 u, I .u8 v, I .u8 c] (B true) := by
  refine scx_of Try.func9 rfl rfl rfl (Nat.le_of_ble_eq_true rfl) ?_
  cases hm : mayF op d a b l m U V
  · clear k1 k2
    repeat' (first
      | exact aw_ret (ret_vals (by simp; exact rfl) (by simp [*]; fail_if_success (show _)))
      | exact aw_ret (ret_vals (by simp; exact rfl) (by simp [*]; omega))
      | refine ar_end rfl ?_
      | refine ar_endD rfl (by kernel_rfl) ?_
      | refine ar_fin rfl ?_
      | refine ar_finD rfl (by kernel_rfl) ?_
      | refine ar_callV Try.call41 c_shown1 rfl rfl rfl rfl rfl (by simp; done) (by rfl) (by simp; done) ?_
      | refine ar_callV_if Try.call41 c_shown1 rfl rfl rfl rfl rfl rfl (by simp; done) rfl (by rfl) (by simp; done) ?_
      | refine ar_callV Try.call51 c_May rfl rfl rfl rfl rfl (by simp; done) (by rfl) (by simp; done) ?_
      | refine ar_callV_if Try.call51 c_May rfl rfl rfl rfl rfl rfl (by simp; done) rfl (by rfl) (by simp; done) ?_
      | refine ar_callV Try.call44 c_ins_Kind rfl rfl rfl rfl rfl (by simp; done) (by rfl) (by simp; done) ?_
      | refine ar_callV_if Try.call44 c_ins_Kind rfl rfl rfl rfl rfl rfl (by simp; done) rfl (by rfl) (by simp; done) ?_
      | refine ar_go3 _ rfl (by simp [*]; exact ⟨rfl, rfl, rfl⟩) rfl ?_
      | refine aw_sregK 0 [0, 1, 2, 3] ?_
      | refine aw_regK 0 [0, 1, 2, 3] ?_
      | refine aw_sregK 1 [1, 2, 3, 4] ?_
      | refine aw_regK 1 [1, 2, 3, 4] ?_
      | refine aw_sregK 2 [1, 2, 3, 4, 9] ?_
      | refine aw_regK 2 [1, 2, 3, 4, 9] ?_
      | refine aw_sregK 3 [2, 3, 4, 9, 10] ?_
      | refine aw_regK 3 [2, 3, 4, 9, 10] ?_
      | refine aw_sregK 4 [3, 4, 9, 10, 11] ?_
      | refine aw_regK 4 [3, 4, 9, 10, 11] ?_
      | refine aw_sregKD mixed 5 [4, 9, 10, 11, 12] (by simp; exact rfl) ?_
      | refine aw_regKD mixed 5 [4, 9, 10, 11, 12] (by simp; exact rfl) ?_
      | refine aw_sreg ?_
      | refine aw_sregD mixed ?_
      | refine aw_ifT (b := true) rfl rfl ?_
      | refine aw_ifF (b := false) rfl rfl ?_
      | refine aw_ifT rfl (decide_eq_true (by assumption)) ?_
      | refine aw_ifF rfl (decide_eq_false (by assumption)) ?_
      | refine aw_seq ?_
      | refine aw_block ?_
      | refine aw_skip ?_
      | refine aw_region ?_
      | refine aw_region_draw mixed ?_
      | refine aw_exit ?_
      | refine rq_exit ?_
      | refine blockQ_hit ?_
      | refine blockQ_miss (by decide) ?_
      | (refine ar_guard rfl rfl rfl rfl (fun h => ?_) (fun h => ?_) <;> (fail_if_success (cases h; done)) <;> (try simp at h) <;> (try subst h))
      | (refine aw_both rfl (fun h => ?_) (fun h => ?_) <;> (fail_if_success (cases h; done)) <;> (try simp at h) <;> (try subst h)))
  · have k1' := k1 hm
    have k2' := k2 hm
    clear k1 k2
    repeat' (first
      | exact aw_ret (ret_vals (by simp; exact rfl) (by simp [*]; fail_if_success (show _)))
      | exact aw_ret (ret_vals (by simp; exact rfl) (by simp [*]; omega))
      | refine ar_end rfl ?_
      | refine ar_endD rfl (by kernel_rfl) ?_
      | refine ar_fin rfl ?_
      | refine ar_finD rfl (by kernel_rfl) ?_
      | refine ar_callV Try.call41 c_shown1 rfl rfl rfl rfl rfl (by simp; done) (by rfl) (by simp; done) ?_
      | refine ar_callV_if Try.call41 c_shown1 rfl rfl rfl rfl rfl rfl (by simp; done) rfl (by rfl) (by simp; done) ?_
      | refine ar_callV Try.call51 c_May rfl rfl rfl rfl rfl (by simp; done) (by rfl) (by simp; done) ?_
      | refine ar_callV_if Try.call51 c_May rfl rfl rfl rfl rfl rfl (by simp; done) rfl (by rfl) (by simp; done) ?_
      | refine ar_callV Try.call44 c_ins_Kind rfl rfl rfl rfl rfl (by simp; done) (by rfl) (by simp; done) ?_
      | refine ar_callV_if Try.call44 c_ins_Kind rfl rfl rfl rfl rfl rfl (by simp; done) rfl (by rfl) (by simp; done) ?_
      | refine ar_go3 _ rfl (by simp [*]; exact ⟨rfl, rfl, rfl⟩) rfl ?_
      | refine aw_sregK 0 [0, 1, 2, 3] ?_
      | refine aw_regK 0 [0, 1, 2, 3] ?_
      | refine aw_sregK 1 [1, 2, 3, 4] ?_
      | refine aw_regK 1 [1, 2, 3, 4] ?_
      | refine aw_sregK 2 [1, 2, 3, 4, 9] ?_
      | refine aw_regK 2 [1, 2, 3, 4, 9] ?_
      | refine aw_sregK 3 [2, 3, 4, 9, 10] ?_
      | refine aw_regK 3 [2, 3, 4, 9, 10] ?_
      | refine aw_sregK 4 [3, 4, 9, 10, 11] ?_
      | refine aw_regK 4 [3, 4, 9, 10, 11] ?_
      | refine aw_sregKD mixed 5 [4, 9, 10, 11, 12] (by simp; exact rfl) ?_
      | refine aw_regKD mixed 5 [4, 9, 10, 11, 12] (by simp; exact rfl) ?_
      | refine aw_sreg ?_
      | refine aw_sregD mixed ?_
      | refine aw_ifT (b := true) rfl rfl ?_
      | refine aw_ifF (b := false) rfl rfl ?_
      | refine aw_ifT rfl (decide_eq_true (by assumption)) ?_
      | refine aw_ifF rfl (decide_eq_false (by assumption)) ?_
      | refine aw_seq ?_
      | refine aw_block ?_
      | refine aw_skip ?_
      | refine aw_region ?_
      | refine aw_region_draw mixed ?_
      | refine aw_exit ?_
      | refine rq_exit ?_
      | refine blockQ_hit ?_
      | refine blockQ_miss (by decide) ?_
      | (refine ar_guard rfl rfl rfl rfl (fun h => ?_) (fun h => ?_) <;> (fail_if_success (cases h; done)) <;> (try simp at h) <;> (try subst h))
      | (refine aw_both rfl (fun h => ?_) (fun h => ?_) <;> (fail_if_success (cases h; done)) <;> (try simp at h) <;> (try subst h)))
theorem imm_wider {op m U V : Int} (h : U ≤ V) (k : immF op m U = true) : immF op m V = true := by
  unfold immF at *
  split at k
  · rw [if_pos (by assumption)]; exact k
  split at k
  · rw [if_neg (by assumption), if_pos (by assumption)]; exact k
  · rw [if_neg (by assumption), if_neg (by assumption)]
    unfold betw at *
    simp at *; omega
theorem loc_wider {h : Bool} {l U V : Int} (hh : U ≤ V) (k : okF h l 0 U = true) : okF h l 0 V = true := by
  cases h
  · exact k
  · unfold okF betw at *; simp at *; omega
theorem mm_wrap {V : Int} (h : -9223372036854775808 ≤ V ∧ V ≤ 9223372036854775807) : IntKind.wrap .i64 (mm true V 0 - 1) = mm true V 0 - 1 :=
  wrap64s (by unfold mm; simp only [if_true]; split <;> omega) (by unfold mm; simp only [if_true]; split <;> omega)
set_option maxHeartbeats 16000000 in
theorem law_InsWider {op d a b l m u v c : Int} (hu : (Lit.int .u8 u).wf = true) (hv : (Lit.int .u8 v).wf = true) (hc : (Lit.int .u8 c).wf = true) :
    SC Try.prog 9 [.agg [C .i64 op, C .i64 d, C .i64 a, C .i64 b, C .i64 l, C .i64 m], I .u8 u, I .u8 v, I .u8 c] (B true) := by
  have hu' := wf8' hu
  have hv' := wf8' hv
  have hc' := wf8' hc
  have e1 : ∀ n : Int, 0 ≤ n → n ≤ 510 → IntKind.wrap .i64 n = n := fun n h0 h1 => wrap64s (by omega) (by omega)
  refine law_InsWider_w (e1 u (by omega) (by omega)) (e1 v (by omega) (by omega)) (e1 c (by omega) (by omega)) (e1 (u + c) (by omega) (by omega)) (e1 (v + c) (by omega) (by omega)) ?_ ?_ ?_
  · intro h
    simp only [mayF, Bool.and_eq_true] at h ⊢
    refine ⟨h.1, h.2.1, h.2.2.1, h.2.2.2.1, ?_⟩
    cases hI : hasI op <;> simp only [hI, cond_true, cond_false] at h ⊢
    · exact h.2.2.2.2
    · exact imm_wider (by omega) h.2.2.2.2
  · intro h
    simp only [mayF, Bool.and_eq_true] at h ⊢
    refine ⟨h.1, h.2.1, h.2.2.1, ?_, h.2.2.2.2⟩
    rw [mm_wrap (by omega)] at h ⊢
    exact loc_wider (by unfold mm; simp only [if_true]; split <;> split <;> omega) h.2.2.2.1
  · intro h
    rw [kind0] at h
    simp [mayF, h, okF]
end Go.Eng
