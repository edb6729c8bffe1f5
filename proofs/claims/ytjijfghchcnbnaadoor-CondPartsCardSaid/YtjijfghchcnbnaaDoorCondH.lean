import Derived.Test.YtjijfghchcnbnaaDoorCondG
import Derived.Test.YtjijfghchcnbnaaDoorEngC
import Derived.Test.YtjijfghchcnbnaaDoorEngE
set_option linter.unusedSimpArgs false
set_option linter.unusedVariables false
set_option linter.constructorNameAsVariable false
set_option autoImplicit false
namespace Go.Eng
open Go Go.RowKit Go.Proofs
theorem hd_txt [Trk] (c : Co) : txtF c 0 = (if c.all = true then [102, 111, 114, 97, 108, 108] else [101, 120, 105, 115, 116, 115]) := rfl
set_option maxHeartbeats 16000000 in
theorem c_Text [Trk] {c : Co} (hT : ¬Trk.on) (hc : CoFew c) : SC Tryd.prog 17 [.agg (coC c)] (S (textF c)) := by
  have hM : maxLen = 9223372036854775807 := rfl
  obtain ⟨hf1, hf2⟩ := fewB_iff.1 hc.few
  have hat := hc.at_
  have htl := txt_len hc
  have hnx : ∀ i, (h : i < c.any.length) → txtF c (i + 1) = txtF c i ++ segF i c.any[i] := fun i h => by rw [txtF, getD_at h]
  have hend : textF c = txtF c c.any.length := rfl
  have h00 := hd_txt c
  have h : True := trivial
  rw [hend]
  generalize txtF c = T at *
  refine scx_of Tryd.func17 rfl rfl rfl (Nat.le_of_ble_eq_true rfl) ?_
  repeat' (first
    | refine ar_end rfl ?_
    | refine ar_endD rfl (by kernel_rfl) ?_
    | refine ar_fin rfl ?_
    | refine ar_finD rfl (by kernel_rfl) ?_
    | refine aw_meetC 10 ⟨46, [(1, .ptr (.loc 1) 0), (3, S (T 0))], [(.loc 1, some (.box 36 [.pv (.v (.bool c.all)), .pv (.sl 1 (cosL c.any))]))]⟩ ?_ ?_
    | exact meet_norm [] [1, 3] [.loc 1] (by simp [h00, h, sb_lit])
    | refine ar_go3 _ rfl (by simp [ints_len, ints_getE, rgL_len, rgL_getE, atsL_len, atsL_getE, cosL_len, cosL_getE, ousL_len, ousL_getE, atC, ouC, coC, sb_lit]; exact ⟨rfl, rfl, rfl⟩) rfl ?_
    | refine aw_sregK 0 [0] ?_
    | refine aw_regK 0 [0] ?_
    | refine aw_sregK 1 [1] ?_
    | refine aw_regK 1 [1] ?_
    | refine aw_sregK 2 [1, 3] ?_
    | refine aw_regK 2 [1, 3] ?_
    | refine aw_sregK 3 [1] ?_
    | refine aw_regK 3 [1] ?_
    | refine aw_sregK 4 [1, 3] ?_
    | refine aw_regK 4 [1, 3] ?_
    | refine aw_sreg ?_
    | refine aw_sregD mixed ?_
    | refine aw_ifT (b := true) rfl rfl ?_
    | refine aw_ifF (b := false) rfl rfl ?_
    | refine aw_ifT rfl (by assumption) ?_
    | refine aw_ifF rfl (by assumption) ?_
    | refine aw_ifT rfl (decide_eq_true (by assumption)) ?_
    | refine aw_ifF rfl (decide_eq_false (by assumption)) ?_
    | refine aw_seq ?_
    | refine aw_block ?_
    | refine aw_skip ?_
    | refine aw_region ?_
    | refine aw_region_draw mixed ?_
    | refine aw_exit ?_
    | refine rq_exit ?_
    | refine blockQ_hit ?_
    | refine blockQ_miss (by decide) ?_
    | (refine ar_guard rfl rfl rfl rfl (fun h => ?_) (fun h => ?_) <;> (fail_if_success (cases h; done)) <;> (try simp at h) <;> (try subst h))
    | (refine aw_both rfl (fun h => ?_) (fun h => ?_) <;> (fail_if_success (cases h; done)) <;> (try simp at h) <;> (try subst h)))
  refine aw_loopN [3, 12, 13, 14] [] (by simp; exact rfl) (ι := {i : Nat // i ≤ c.any.length}) (fun i => ⟨46, [(3, S (T i.1)), (12, .pv (.sl 1 (cosL c.any))), (13, I .i64 c.any.length), (14, I .i64 i.1)], []⟩) (fun i => c.any.length - i.1) ⟨0, by omega⟩ (by simp [cosL_len]) ?_
  rintro ⟨i, hi⟩
  by_cases hlt : i < c.any.length
  · have hd : (i : Int) < (c.any.length : Int) := by omega
    have hw : IntKind.wrap .i64 ((i : Int) + 1) = (i : Int) + 1 := wrap64s (by omega) (by omega)
    have hTl := htl i (by omega)
    have hTn := hnx i hlt
    have hxl := hf2 _ (List.getElem_mem hlt)
    have hxa := hat _ (List.getElem_mem hlt)
    generalize hx : c.any[i] = l at *
    generalize T i = T1 at *
    have hin := inter_len (l.map wordF) (fun s hs => by
      obtain ⟨a, ha, rfl⟩ := List.mem_map.1 hs
      exact word_len (hxa a ha))
    rw [List.length_map] at hin
    obtain ⟨T1', hT1', hT1l⟩ : ∃ T1' : List UInt8, T1' = T1 ++ (if 0 < i then [32, 124] else []) ∧ T1'.length ≤ T1.length + 2 := ⟨_, rfl, by rw [List.length_append]; split <;> simp⟩
    have hfront : T (i + 1) = T1' ++ ([32] ++ (if l = [] then [116, 114, 117, 101] else [38].intercalate (l.map wordF))) := by rw [hTn, hT1']; unfold segF; rw [List.append_assoc]
    have b1 : T1.length + 2 ≤ 9223372036854775807 := by omega
    repeat' (first
      | refine ar_end rfl ?_
      | refine ar_endD rfl (by kernel_rfl) ?_
      | refine ar_fin rfl ?_
      | refine ar_finD rfl (by kernel_rfl) ?_
      | refine aw_meetC 20 ⟨46, [(3, S T1'), (5, .pv (.sl 4 (atsL l))), (12, .pv (.sl 1 (cosL c.any))), (13, I .i64 c.any.length), (14, I .i64 i)], []⟩ ?_ ?_
      | exact meet_norm [] [3, 5, 12, 13, 14] [] (by simp [h, hT1', sb_lit, sb_app])
      | exact meet_norm [] [3, 5, 12, 13, 14] [] (by simp [hT1', sb_lit, sb_app])
      | refine ar_go3 _ rfl (by simp [ints_len, ints_getE, rgL_len, rgL_getE, atsL_len, atsL_getE, cosL_len, cosL_getE, ousL_len, ousL_getE, atC, ouC, coC, sb_lit, sb_app, sb_size, hd, hlt, hx, b1]; exact ⟨rfl, rfl, rfl⟩) rfl ?_
      | refine aw_sregK 5 [3, 12, 13, 14] ?_
      | refine aw_regK 5 [3, 12, 13, 14] ?_
      | refine aw_sregK 6 [3, 12, 13, 14] ?_
      | refine aw_regK 6 [3, 12, 13, 14] ?_
      | refine aw_sregK 7 [3, 4, 5, 12, 13, 14] ?_
      | refine aw_regK 7 [3, 4, 5, 12, 13, 14] ?_
      | refine aw_sregK 8 [3, 5, 12, 13, 14] ?_
      | refine aw_regK 8 [3, 5, 12, 13, 14] ?_
      | refine aw_sreg ?_
      | refine aw_sregD mixed ?_
      | refine aw_ifT (b := true) rfl rfl ?_
      | refine aw_ifF (b := false) rfl rfl ?_
      | refine aw_ifT rfl (by assumption) ?_
      | refine aw_ifF rfl (by assumption) ?_
      | refine aw_ifT rfl (decide_eq_true (by assumption)) ?_
      | refine aw_ifF rfl (decide_eq_false (by assumption)) ?_
      | refine aw_seq ?_
      | refine aw_block ?_
      | refine aw_skip ?_
      | refine aw_region ?_
      | refine aw_region_draw mixed ?_
      | refine aw_exit ?_
      | refine rq_exit ?_
      | refine blockQ_hit ?_
      | refine blockQ_miss (by decide) ?_
      | (refine ar_guard rfl rfl rfl rfl (fun h => ?_) (fun h => ?_) <;> (fail_if_success (cases h; done)) <;> (try simp at h) <;> (try subst h))
      | (refine aw_both rfl (fun h => ?_) (fun h => ?_) <;> (fail_if_success (cases h; done)) <;> (try simp at h) <;> (try subst h)))
    refine aw_nil 6 (.loc 1006) 9 1 (by simp; exact rfl) ?_
    refine aw_loopN [3, 6, 12, 13, 14, 23, 24, 25] [.loc 1006] (by simp; exact rfl) (ι := {k : Nat // k ≤ l.length}) (fun k => ⟨46, [(3, S T1'), (6, .own (.loc 1006)), (12, .pv (.sl 1 (cosL c.any))), (13, I .i64 c.any.length), (14, I .i64 i), (23, .pv (.sl 4 (atsL l))), (24, I .i64 l.length), (25, I .i64 k.1)], [(.loc 1006, some (.own 9 1 (strL ((l.take k.1).map wordF))))]⟩) (fun k => l.length - k.1) ⟨0, by omega⟩ (by simp [strL, atsL_len]) ?_
    rintro ⟨k, hk⟩
    by_cases hkl : k < l.length
    · have hd2 : (k : Int) < (l.length : Int) := by omega
      have hw2 : IntKind.wrap .i64 ((k : Int) + 1) = (k : Int) + 1 := wrap64s (by omega) (by omega)
      have hW := c_word (hxa _ (List.getElem_mem hkl))
      have hnt : strL ((l.take (k + 1)).map wordF) = strL ((l.take k).map wordF) ++ [[.v (.string (sb (wordF l[k])))]] := by unfold strL; rw [List.take_add_one, List.getElem?_eq_getElem hkl, List.map_append, List.map_append]; rfl
      have hnt2 : strL ((l.map wordF).take (k + 1)) = strL ((l.take k).map wordF) ++ [[.v (.string (sb (wordF l[k])))]] := by rw [← List.map_take]; exact hnt
      have hal : (strL ((l.take k).map wordF)).length ≤ 20 := by rw [strL_len, List.length_map, List.length_take]; omega
      generalize strL ((l.take k).map wordF) = A at *
      generalize hy : l[k] = a at *
      generalize wordF a = wa at *
      repeat' (first
        | refine ar_end rfl ?_
        | refine ar_endD rfl (by kernel_rfl) ?_
        | refine ar_fin rfl ?_
        | refine ar_finD rfl (by kernel_rfl) ?_
        | refine ar_callV Tryd.call33 hW rfl rfl rfl rfl rfl (by simp; done) (by rfl) (by simp; done) ?_
        | refine ar_callV_if Tryd.call33 hW rfl rfl rfl rfl rfl rfl (by simp; done) rfl (by rfl) (by simp; done) ?_
        | refine ar_appO rfl rfl rfl rfl rfl (by simp; exact rfl) rfl (by simp; exact rfl) (by simp; exact rfl) (by simp; exact ⟨rfl, rfl⟩) rfl (by simp; exact rfl) (by simp; done) (by decide) (by simp [hal, maxLen]; try omega) ?_
        | refine bq_norm ?_
        | refine lq_normR (.loc 33) (.loc 1006) [3, 6, 12, 13, 14, 23, 24, 25] [.loc 1006] (by simp; exact rfl) ⟨k + 1, by omega⟩ (by dsimp only; omega) (by simp [hnt, hnt2])
        | refine ar_go3 _ rfl (by simp [ints_len, ints_getE, rgL_len, rgL_getE, atsL_len, atsL_getE, cosL_len, cosL_getE, ousL_len, ousL_getE, atC, ouC, coC, hd2, hkl, hy, hw2]; exact ⟨rfl, rfl, rfl⟩) rfl ?_
        | refine aw_sregK 11 [3, 6, 12, 13, 14, 23, 24, 25] ?_
        | refine aw_regK 11 [3, 6, 12, 13, 14, 23, 24, 25] ?_
        | refine aw_sregK 12 [3, 6, 12, 13, 14, 23, 24, 25] ?_
        | refine aw_regK 12 [3, 6, 12, 13, 14, 23, 24, 25] ?_
        | refine aw_sregK 13 [3, 6, 8, 12, 13, 14, 23, 24, 25] ?_
        | refine aw_regK 13 [3, 6, 8, 12, 13, 14, 23, 24, 25] ?_
        | refine aw_sregK 14 [3, 6, 12, 13, 14, 23, 24, 25] ?_
        | refine aw_regK 14 [3, 6, 12, 13, 14, 23, 24, 25] ?_
        | refine aw_sreg ?_
        | refine aw_sregD mixed ?_
        | refine aw_ifT (b := true) rfl rfl ?_
        | refine aw_ifF (b := false) rfl rfl ?_
        | refine aw_ifT rfl (by assumption) ?_
        | refine aw_ifF rfl (by assumption) ?_
        | refine aw_ifT rfl (decide_eq_true (by assumption)) ?_
        | refine aw_ifF rfl (decide_eq_false (by assumption)) ?_
        | refine aw_seq ?_
        | refine aw_block ?_
        | refine aw_skip ?_
        | refine aw_region ?_
        | refine aw_region_draw mixed ?_
        | refine aw_exit ?_
        | refine rq_exit ?_
        | refine blockQ_hit ?_
        | refine blockQ_miss (by decide) ?_)
    have hd2 : ¬(k : Int) < (l.length : Int) := by omega
    have hke : l.take k = l := List.take_of_length_le (by omega)
    rw [hke]
    refine aw_frz (.loc 1006) (by simp; exact rfl) ?_
    by_cases hl0 : l = []
    · subst hl0
      have hJ : SC Tryd.prog 34 [.pv (.sl 1 [[.v (.string ⟨#[116, 114, 117, 101]⟩)]]), .pv (.v (.string ⟨#[38]⟩))] (S [116, 114, 117, 101]) := c_Join (xs := [[116, 114, 117, 101]]) (sep := [38]) hT (by decide) (by decide)
      rw [if_pos rfl] at hfront
      have b2 : T1'.length + 5 ≤ 9223372036854775807 := by omega
      repeat' (first
        | refine ar_end rfl ?_
        | refine ar_endD rfl (by kernel_rfl) ?_
        | refine ar_fin rfl ?_
        | refine ar_finD rfl (by kernel_rfl) ?_
        | refine lq_exit ?_
        | refine ar_frzV_if Tryd.call34 hJ rfl rfl rfl rfl rfl rfl (by simp; exact rfl) (by simp; fail_if_success (show _)) (by simp; exact rfl) rfl (by simp; done) (by first | (simp; done) | (simp; exact rfl)) ⟨by rfl, by rfl, by rfl⟩ ?_
        | refine ar_frzV Tryd.call34 hJ rfl rfl rfl rfl (by simp; exact rfl) (by simp; fail_if_success (show _)) (by simp; exact rfl) rfl (by simp; done) (by first | (simp; done) | (simp; exact rfl)) ⟨by rfl, by rfl, by rfl⟩ ?_
        | refine bq_norm ?_
        | refine lq_normN [3, 12, 13, 14] [] (by simp; exact rfl) ⟨i + 1, by omega⟩ (by dsimp only; omega) (by simp [hfront, sb_lit, sb_app])
        | refine ar_go3 _ rfl (by simp [ints_len, ints_getE, rgL_len, rgL_getE, atsL_len, atsL_getE, cosL_len, cosL_getE, ousL_len, ousL_getE, atC, ouC, coC, sb_lit, sb_app, sb_size, strL, hd2, hw, b2]; exact ⟨rfl, rfl, rfl⟩) rfl ?_
        | refine aw_sregK 11 [3, 6, 12, 13, 14, 23, 24, 25] ?_
        | refine aw_regK 11 [3, 6, 12, 13, 14, 23, 24, 25] ?_
        | refine aw_sregK 15 [3, 6, 12, 13, 14] ?_
        | refine aw_regK 15 [3, 6, 12, 13, 14] ?_
        | refine aw_sregK 16 [3, 12, 13, 14] ?_
        | refine aw_regK 16 [3, 12, 13, 14] ?_
        | refine aw_sregK 17 [3, 6, 12, 13, 14] ?_
        | refine aw_regK 17 [3, 6, 12, 13, 14] ?_
        | refine aw_sregK 18 [3, 12, 13, 14] ?_
        | refine aw_regK 18 [3, 12, 13, 14] ?_
        | refine aw_sreg ?_
        | refine aw_sregD mixed ?_
        | refine aw_ifT (b := true) rfl rfl ?_
        | refine aw_ifF (b := false) rfl rfl ?_
        | refine aw_ifT rfl (by assumption) ?_
        | refine aw_ifF rfl (by assumption) ?_
        | refine aw_ifT rfl (decide_eq_true (by assumption)) ?_
        | refine aw_ifF rfl (decide_eq_false (by assumption)) ?_
        | refine aw_seq ?_
        | refine aw_block ?_
        | refine aw_skip ?_
        | refine aw_region ?_
        | refine aw_region_draw mixed ?_
        | refine aw_exit ?_
        | refine rq_exit ?_
        | refine blockQ_hit ?_
        | refine blockQ_miss (by decide) ?_)
    · have hll : ¬l.length = 0 := fun e => hl0 (List.eq_nil_of_length_eq_zero e)
      have hll2 : ¬(l.length : Int) = 0 := by omega
      have hJ0 := c_Join (xs := l.map wordF) (sep := [38]) hT (by rw [List.length_map]; omega) (by omega)
      have hsl : (strL (l.map wordF)).length = l.length := by rw [strL_len, List.length_map]
      rw [if_neg hl0] at hfront
      generalize strL (l.map wordF) = A at *
      generalize [38].intercalate (l.map wordF) = J at *
      have hJ : SC Tryd.prog 34 [.pv (.sl 1 A), .pv (.v (.string ⟨#[38]⟩))] (S J) := hJ0
      have b2 : T1'.length + (1 + J.length) ≤ 9223372036854775807 := by omega
      have b3 : T1'.length + (J.length + 1) ≤ 9223372036854775807 := by omega
      have b4 : 1 + J.length ≤ 9223372036854775807 := by omega
      have b5 : J.length + 1 ≤ 9223372036854775807 := by omega
      repeat' (first
        | refine ar_end rfl ?_
        | refine ar_endD rfl (by kernel_rfl) ?_
        | refine ar_fin rfl ?_
        | refine ar_finD rfl (by kernel_rfl) ?_
        | refine ar_callV Tryd.call34 hJ rfl rfl rfl rfl rfl (by simp; done) (by rfl) (by simp; done) ?_
        | refine ar_callV_if Tryd.call34 hJ rfl rfl rfl rfl rfl rfl (by simp; done) rfl (by rfl) (by simp; done) ?_
        | refine lq_exit ?_
        | refine bq_norm ?_
        | refine lq_normN [3, 12, 13, 14] [] (by simp; exact rfl) ⟨i + 1, by omega⟩ (by dsimp only; omega) (by simp [hfront, sb_lit, sb_app])
        | refine ar_go3 _ rfl (by simp [ints_len, ints_getE, rgL_len, rgL_getE, atsL_len, atsL_getE, cosL_len, cosL_getE, ousL_len, ousL_getE, atC, ouC, coC, sb_lit, sb_app, sb_size, hsl, hl0, hll, hll2, hd2, hw, b2, b3, b4, b5]; exact ⟨rfl, rfl, rfl⟩) rfl ?_
        | refine aw_sregK 11 [3, 6, 12, 13, 14, 23, 24, 25] ?_
        | refine aw_regK 11 [3, 6, 12, 13, 14, 23, 24, 25] ?_
        | refine aw_sregK 15 [3, 6, 12, 13, 14] ?_
        | refine aw_regK 15 [3, 6, 12, 13, 14] ?_
        | refine aw_sregK 17 [3, 6, 12, 13, 14] ?_
        | refine aw_regK 17 [3, 6, 12, 13, 14] ?_
        | refine aw_sregK 18 [3, 12, 13, 14] ?_
        | refine aw_regK 18 [3, 12, 13, 14] ?_
        | refine aw_sreg ?_
        | refine aw_sregD mixed ?_
        | refine aw_ifT (b := true) rfl rfl ?_
        | refine aw_ifF (b := false) rfl rfl ?_
        | refine aw_ifT rfl (by assumption) ?_
        | refine aw_ifF rfl (by assumption) ?_
        | refine aw_ifT rfl (decide_eq_true (by assumption)) ?_
        | refine aw_ifF rfl (decide_eq_false (by assumption)) ?_
        | refine aw_seq ?_
        | refine aw_block ?_
        | refine aw_skip ?_
        | refine aw_region ?_
        | refine aw_region_draw mixed ?_
        | refine aw_exit ?_
        | refine rq_exit ?_
        | refine blockQ_hit ?_
        | refine blockQ_miss (by decide) ?_)
  have hd : ¬(i : Int) < (c.any.length : Int) := by omega
  have hie : i = c.any.length := by omega
  subst hie
  repeat' (first
    | exact aw_ret (ret_vals (by simp; exact rfl) (by simp [*]; fail_if_success (show _)))
    | exact aw_ret (ret_vals (by simp; exact rfl) (by simp [*]; omega))
    | refine ar_end rfl ?_
    | refine ar_endD rfl (by kernel_rfl) ?_
    | refine ar_fin rfl ?_
    | refine ar_finD rfl (by kernel_rfl) ?_
    | refine lq_exit ?_
    | refine ar_go3 _ rfl (by simp [ints_len, ints_getE, rgL_len, rgL_getE, atsL_len, atsL_getE, cosL_len, cosL_getE, ousL_len, ousL_getE, atC, ouC, coC, hd]; exact ⟨rfl, rfl, rfl⟩) rfl ?_
    | refine aw_sregK 5 [3, 12, 13, 14] ?_
    | refine aw_regK 5 [3, 12, 13, 14] ?_
    | refine aw_sregK 19 [3] ?_
    | refine aw_regK 19 [3] ?_
    | refine aw_sreg ?_
    | refine aw_sregD mixed ?_
    | refine aw_ifT (b := true) rfl rfl ?_
    | refine aw_ifF (b := false) rfl rfl ?_
    | refine aw_ifT rfl (by assumption) ?_
    | refine aw_ifF rfl (by assumption) ?_
    | refine aw_ifT rfl (decide_eq_true (by assumption)) ?_
    | refine aw_ifF rfl (decide_eq_false (by assumption)) ?_
    | refine aw_seq ?_
    | refine aw_block ?_
    | refine aw_skip ?_
    | refine aw_region ?_
    | refine aw_region_draw mixed ?_
    | refine aw_exit ?_
    | refine rq_exit ?_
    | refine blockQ_hit ?_
    | refine blockQ_miss (by decide) ?_)
def co0 : Co := ⟨false, [[⟨0, 1, 5, false⟩, ⟨-1, 0, 2, true⟩]]⟩
theorem co0_few [Trk] : CoFew co0 := ⟨by decide, by
  intro l hl a ha
  simp only [co0, List.mem_singleton] at hl
  subst hl
  simp only [List.mem_cons, List.not_mem_nil, or_false] at ha
  rcases ha with rfl | rfl <;> exact ⟨by decide, by decide, by decide⟩⟩
theorem co0_text [Trk] : textF co0 = [101, 120, 105, 115, 116, 115, 32, 48, 58, 49, 61, 53, 38, 120, 48, 33, 61, 50] := by
  simp [textF, txtF, segF, co0, wordF, itoaF, Lib.itoa, Lib.decDigits, List.intercalate, List.intersperse]
set_option maxHeartbeats 16000000 in
theorem c_shown4 [Trk] (hT : ¬Trk.on) : SC Tryd.prog 9 [] (B true) := by
  have h := c_Text (c := co0) hT co0_few
  rw [co0_text] at h
  have hh : SC Tryd.prog 17 [.agg [.v (.bool false), .sl 1 [[.sl 4 [[C .i64 0, C .i64 1, C .i64 5, .v (.bool false)], [C .i64 (-1), C .i64 0, C .i64 2, .v (.bool true)]]]]]] (S [101, 120, 105, 115, 116, 115, 32, 48, 58, 49, 61, 53, 38, 120, 48, 33, 61, 50]) := h
  refine scx_of Tryd.func9 rfl rfl rfl (Nat.le_of_ble_eq_true rfl) ?_
  repeat' (first
    | exact aw_ret (ret_vals (by simp; exact rfl) (by simp [*]; fail_if_success (show _)))
    | exact aw_ret (ret_vals (by simp; exact rfl) (by simp [*]; omega))
    | refine ar_end rfl ?_
    | refine ar_endD rfl (by kernel_rfl) ?_
    | refine ar_fin rfl ?_
    | refine ar_finD rfl (by kernel_rfl) ?_
    | refine ar_callV Tryd.call17 hh rfl rfl rfl rfl rfl (by simp; done) (by rfl) (by simp; done) ?_
    | refine ar_callV_if Tryd.call17 hh rfl rfl rfl rfl rfl rfl (by simp; done) rfl (by rfl) (by simp; done) ?_
    | refine ar_frzT [3] rfl rfl (by simp; exact rfl) (by simp; exact rfl) (by simp; exact rfl) rfl (by simp; fail_if_success (show _)) ?_
    | refine ar_frzT [4] rfl rfl (by simp; exact rfl) (by simp; exact rfl) (by simp; exact rfl) rfl (by simp; fail_if_success (show _)) ?_
    | refine ar_frzT [5] rfl rfl (by simp; exact rfl) (by simp; exact rfl) (by simp; exact rfl) rfl (by simp; fail_if_success (show _)) ?_
    | refine ar_go3 _ rfl (by simp [sb_lit]; exact ⟨rfl, rfl, rfl⟩) rfl ?_
    | refine aw_sregK 0 [] ?_
    | refine aw_regK 0 [] ?_
    | refine aw_sregK 1 [] ?_
    | refine aw_regK 1 [] ?_
    | refine aw_sreg ?_
    | refine aw_sregD mixed ?_
    | refine aw_ifT (b := true) rfl rfl ?_
    | refine aw_ifF (b := false) rfl rfl ?_
    | refine aw_ifT rfl (by assumption) ?_
    | refine aw_ifF rfl (by assumption) ?_
    | refine aw_ifT rfl (decide_eq_true (by assumption)) ?_
    | refine aw_ifF rfl (decide_eq_false (by assumption)) ?_
    | refine aw_seq ?_
    | refine aw_block ?_
    | refine aw_skip ?_
    | refine aw_region ?_
    | refine aw_region_draw mixed ?_
    | refine aw_exit ?_
    | refine rq_exit ?_
    | refine blockQ_hit ?_
    | refine blockQ_miss (by decide) ?_
    | (refine ar_guard rfl rfl rfl rfl (fun h => ?_) (fun h => ?_) <;> (fail_if_success (cases h; done)) <;> (try simp at h) <;> (try subst h))
    | (refine aw_both rfl (fun h => ?_) (fun h => ?_) <;> (fail_if_success (cases h; done)) <;> (try simp at h) <;> (try subst h)))
end Go.Eng
