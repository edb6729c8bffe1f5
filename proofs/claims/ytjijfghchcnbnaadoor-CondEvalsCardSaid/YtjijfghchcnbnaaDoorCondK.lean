import Derived.Test.YtjijfghchcnbnaaDoorCondJ
import Derived.Test.YtjijfghchcnbnaaDoorCondH
set_option linter.unusedSimpArgs false
set_option linter.unusedVariables false
set_option linter.constructorNameAsVariable false
set_option autoImplicit false
namespace Go.Eng
open Go Go.RowKit Go.Proofs
theorem inter_snoc [Trk] (s : List UInt8) : ∀ (xs : List (List UInt8)) (y : List UInt8), s.intercalate (xs ++ [y]) = s.intercalate xs ++ ((if xs = [] then [] else s) ++ y)
  | [], y => by simp [List.intercalate]
  | [x], y => by simp [List.intercalate, List.intersperse]
  | x :: z :: xs, y => by
    have h := inter_snoc s (z :: xs) y
    have e1 : s.intercalate (x :: z :: xs ++ [y]) = x ++ s ++ s.intercalate (z :: xs ++ [y]) := by simp [List.intercalate, List.intersperse]
    have e2 : s.intercalate (x :: z :: xs) = x ++ s ++ s.intercalate (z :: xs) := by simp [List.intercalate, List.intersperse]
    rw [e1, h, e2]; simp
theorem inter_step [Trk] {l : List At} {k : Nat} (h : k < l.length) : [(38 : UInt8)].intercalate ((l.take (k + 1)).map wordF) = [38].intercalate ((l.take k).map wordF) ++ ((if 0 < k then [38] else []) ++ wordF l[k]) := by
  rw [List.take_add_one, List.getElem?_eq_getElem h, List.map_append]
  show [(38 : UInt8)].intercalate (_ ++ [wordF l[k]]) = _
  rw [inter_snoc]
  congr 2
  by_cases hk : 0 < k
  · have hn : ¬(l.take k).map wordF = [] := fun e => by
      have := congrArg List.length e
      rw [List.length_map, List.length_take, List.length_nil] at this; omega
    rw [if_pos hk, if_neg hn]
  · have hk0 : k = 0 := by omega
    subst hk0
    rfl
set_option maxHeartbeats 16000000 in
theorem c_rText [Trk] {c : Co} (hc : CoFew c) : SC Tryd.prog 18 [.agg (coC c)] (S (textF c)) := by
  have hM : maxLen = 9223372036854775807 := rfl
  obtain ⟨hf1, hf2⟩ := fewB_iff.1 hc.few
  have hat := hc.at_
  have htl := txt_len hc
  have hnx : ∀ i, (h : i < c.any.length) → txtF c (i + 1) = txtF c i ++ segF i c.any[i] := fun i h => by rw [txtF, getD_at h]
  have hend : textF c = txtF c c.any.length := rfl
  have h00 := hd_txt c
  have h : True := trivial
  rw [hend]
  generalize txtF c = T at *
  refine scx_of Tryd.func18 rfl rfl rfl (Nat.le_of_ble_eq_true rfl) ?_
  repeat' (first
    | refine ar_end rfl ?_
    | refine ar_endD rfl (by kernel_rfl) ?_
    | refine ar_fin rfl ?_
    | refine ar_finD rfl (by kernel_rfl) ?_
    | refine aw_meetC 7 ⟨56, [(1, .ptr (.loc 1) 0), (3, S (T 0))], [(.loc 1, some (.box 24 [.pv (.v (.bool c.all)), .pv (.sl 1 (cosL c.any))]))]⟩ ?_ ?_
    | exact meet_norm [] [1, 3] [.loc 1] (by simp [h00, h, sb_lit])
    | refine ar_go3 _ rfl (by simp [ints_len, ints_getE, rgL_len, rgL_getE, atsL_len, atsL_getE, cosL_len, cosL_getE, ousL_len, ousL_getE, atC, ouC, coC, sb_lit]; exact ⟨rfl, rfl, rfl⟩) rfl ?_
    | refine aw_sregK 0 [0] ?_
    | refine aw_regK 0 [0] ?_
    | refine aw_sregK 1 [1] ?_
    | refine aw_regK 1 [1] ?_
    | refine aw_sregK 2 [1, 3] ?_
    | refine aw_regK 2 [1, 3] ?_
    | refine aw_sregK 3 [1] ?_
    | refine aw_regK 3 [1] ?_
    | refine aw_sregK 4 [1, 3] ?_
    | refine aw_regK 4 [1, 3] ?_
    | refine aw_sreg ?_
    | refine aw_sregD mixed ?_
    | refine aw_ifT (b := true) rfl rfl ?_
    | refine aw_ifF (b := false) rfl rfl ?_
    | refine aw_ifT rfl (by assumption) ?_
    | refine aw_ifF rfl (by assumption) ?_
    | refine aw_ifT rfl (decide_eq_true (by assumption)) ?_
    | refine aw_ifF rfl (decide_eq_false (by assumption)) ?_
    | refine aw_seq ?_
    | refine aw_block ?_
    | refine aw_skip ?_
    | refine aw_region ?_
    | refine aw_region_draw mixed ?_
    | refine aw_exit ?_
    | refine rq_exit ?_
    | refine blockQ_hit ?_
    | refine blockQ_miss (by decide) ?_
    | (refine ar_guard rfl rfl rfl rfl (fun h => ?_) (fun h => ?_) <;> (fail_if_success (cases h; done)) <;> (try simp at h) <;> (try subst h))
    | (refine aw_both rfl (fun h => ?_) (fun h => ?_) <;> (fail_if_success (cases h; done)) <;> (try simp at h) <;> (try subst h)))
  refine aw_loopN [1, 3, 4] [.loc 1] (by simp; exact rfl) (ι := {i : Nat // i ≤ c.any.length}) (fun i => ⟨56, [(1, .ptr (.loc 1) 0), (3, S (T i.1)), (4, I .i64 i.1)], [(.loc 1, some (.box 24 [.pv (.v (.bool c.all)), .pv (.sl 1 (cosL c.any))]))]⟩) (fun i => c.any.length - i.1) ⟨0, by omega⟩ (by simp [cosL_len]) ?_
  rintro ⟨i, hi⟩
  by_cases hlt : i < c.any.length
  · have hd : (i : Int) < (c.any.length : Int) := by omega
    have hw : IntKind.wrap .i64 ((i : Int) + 1) = (i : Int) + 1 := wrap64s (by omega) (by omega)
    have hTl := htl i (by omega)
    have hTn := hnx i hlt
    have hxl := hf2 _ (List.getElem_mem hlt)
    have hxa := hat _ (List.getElem_mem hlt)
    generalize hx : c.any[i] = l at *
    generalize T i = T1 at *
    obtain ⟨T1', hT1', hT1l⟩ : ∃ T1' : List UInt8, T1' = T1 ++ (if 0 < i then [32, 124] else []) ∧ T1'.length ≤ T1.length + 2 := ⟨_, rfl, by rw [List.length_append]; split <;> simp⟩
    have hfront : T (i + 1) = T1' ++ ([32] ++ (if l = [] then [116, 114, 117, 101] else [38].intercalate (l.map wordF))) := by rw [hTn, hT1']; unfold segF; rw [List.append_assoc]
    have b1 : T1.length + 2 ≤ 9223372036854775807 := by omega
    have b1' : T1'.length + 1 ≤ 9223372036854775807 := by omega
    obtain ⟨G, hGd⟩ : ∃ G : Nat → List UInt8, G = fun k => T1' ++ ([32] ++ [38].intercalate ((l.take k).map wordF)) := ⟨_, rfl⟩
    have hG0 : G 0 = T1' ++ [32] := by rw [hGd]; rfl
    have hGe : G l.length = T1' ++ ([32] ++ [38].intercalate (l.map wordF)) := by rw [hGd]; simp only [List.take_length]
    have hGs : ∀ k, (h : k < l.length) → G (k + 1) = G k ++ (if 0 < k then [38] else []) ++ wordF l[k] := fun k h => by
      rw [hGd]; simp only [inter_step h, List.append_assoc]
    have hGl : ∀ k, k ≤ l.length → (G k).length ≤ T1'.length + 1 + k * 64 := fun k hk => by
      rw [hGd]
      have h1 := inter_len ((l.take k).map wordF) (fun s hs => by
        obtain ⟨a, ha, rfl⟩ := List.mem_map.1 hs
        exact word_len (hxa a (List.mem_of_mem_take ha)))
      rw [List.length_map, List.length_take, Nat.min_eq_left hk] at h1
      simp only [List.length_append, List.length_cons, List.length_nil]; omega
    clear hGd
    repeat' (first
      | refine ar_end rfl ?_
      | refine ar_endD rfl (by kernel_rfl) ?_
      | refine ar_fin rfl ?_
      | refine ar_finD rfl (by kernel_rfl) ?_
      | refine aw_meetC 16 ⟨56, [(1, .ptr (.loc 1) 0), (3, S T1'), (4, I .i64 i)], [(.loc 1, some (.box 24 [.pv (.v (.bool c.all)), .pv (.sl 1 (cosL c.any))]))]⟩ ?_ ?_
      | exact meet_norm [] [1, 3, 4] [.loc 1] (by simp [h, hT1', sb_lit, sb_app])
      | exact meet_norm [] [1, 3, 4] [.loc 1] (by simp [hT1', sb_lit, sb_app])
      | refine ar_go3 _ rfl (by simp [ints_len, ints_getE, rgL_len, rgL_getE, atsL_len, atsL_getE, cosL_len, cosL_getE, ousL_len, ousL_getE, atC, ouC, coC, sb_lit, sb_app, sb_size, hd, hlt, hx, b1, b1']; exact ⟨rfl, rfl, rfl⟩) rfl ?_
      | refine aw_sregK 5 [1, 3, 4] ?_
      | refine aw_regK 5 [1, 3, 4] ?_
      | refine aw_sregK 7 [1, 3, 4] ?_
      | refine aw_regK 7 [1, 3, 4] ?_
      | refine aw_sregK 8 [1, 3, 4] ?_
      | refine aw_regK 8 [1, 3, 4] ?_
      | refine aw_sregK 9 [1, 3, 4] ?_
      | refine aw_regK 9 [1, 3, 4] ?_
      | refine aw_sregK 10 [1, 3, 4] ?_
      | refine aw_regK 10 [1, 3, 4] ?_
      | refine aw_sreg ?_
      | refine aw_sregD mixed ?_
      | refine aw_ifT (b := true) rfl rfl ?_
      | refine aw_ifF (b := false) rfl rfl ?_
      | refine aw_ifT rfl (by assumption) ?_
      | refine aw_ifF rfl (by assumption) ?_
      | refine aw_ifT rfl (decide_eq_true (by assumption)) ?_
      | refine aw_ifF rfl (decide_eq_false (by assumption)) ?_
      | refine aw_seq ?_
      | refine aw_block ?_
      | refine aw_skip ?_
      | refine aw_region ?_
      | refine aw_region_draw mixed ?_
      | refine aw_exit ?_
      | refine rq_exit ?_
      | refine blockQ_hit ?_
      | refine blockQ_miss (by decide) ?_
      | (refine ar_guard rfl rfl rfl rfl (fun h => ?_) (fun h => ?_) <;> (fail_if_success (cases h; done)) <;> (try simp at h) <;> (try subst h))
      | (refine aw_both rfl (fun h => ?_) (fun h => ?_) <;> (fail_if_success (cases h; done)) <;> (try simp at h) <;> (try subst h)))
    refine aw_loopN [1, 3, 4, 5] [.loc 1] (by simp; exact rfl) (ι := {k : Nat // k ≤ l.length}) (fun k => ⟨56, [(1, .ptr (.loc 1) 0), (3, S (G k.1)), (4, I .i64 i), (5, I .i64 k.1)], [(.loc 1, some (.box 24 [.pv (.v (.bool c.all)), .pv (.sl 1 (cosL c.any))]))]⟩) (fun k => l.length - k.1) ⟨0, by omega⟩ (by simp [hG0]) ?_
    rintro ⟨k, hk⟩
    have hGk := hGl k hk
    by_cases hkl : k < l.length
    · have hd2 : (k : Int) < (l.length : Int) := by omega
      have hw2 : IntKind.wrap .i64 ((k : Int) + 1) = (k : Int) + 1 := wrap64s (by omega) (by omega)
      have hW := c_rword (hxa _ (List.getElem_mem hkl))
      have hWl := word_len (hxa _ (List.getElem_mem hkl))
      have hGn := hGs k hkl
      generalize hy : l[k] = a at *
      generalize wordF a = wa at *
      generalize G k = G1 at *
      obtain ⟨G1', hG1', hG1l⟩ : ∃ G1' : List UInt8, G1' = G1 ++ (if 0 < k then [38] else []) ∧ G1'.length ≤ G1.length + 1 := ⟨_, rfl, by rw [List.length_append]; split <;> simp⟩
      have b2 : G1.length + 1 ≤ 9223372036854775807 := by omega
      have b3 : G1'.length + wa.length ≤ 9223372036854775807 := by omega
      have hGn2 : G (k + 1) = G1' ++ wa := by rw [hGn, hG1']
      repeat' (first
        | refine ar_end rfl ?_
        | refine ar_endD rfl (by kernel_rfl) ?_
        | refine ar_fin rfl ?_
        | refine ar_finD rfl (by kernel_rfl) ?_
        | refine ar_callV Tryd.call35 hW rfl rfl rfl rfl rfl (by simp; done) (by rfl) (by simp; done) ?_
        | refine ar_callV_if Tryd.call35 hW rfl rfl rfl rfl rfl rfl (by simp; done) rfl (by rfl) (by simp; done) ?_
        | refine aw_meetC 32 ⟨56, [(1, .ptr (.loc 1) 0), (3, S G1'), (4, I .i64 i), (5, I .i64 k)], [(.loc 1, some (.box 24 [.pv (.v (.bool c.all)), .pv (.sl 1 (cosL c.any))]))]⟩ ?_ ?_
        | exact meet_norm [] [1, 3, 4, 5] [.loc 1] (by simp [h, hG1', sb_lit, sb_app])
        | exact meet_norm [] [1, 3, 4, 5] [.loc 1] (by simp [hG1', sb_lit, sb_app])
        | refine bq_norm ?_
        | refine lq_normN [1, 3, 4, 5] [.loc 1] (by simp; exact rfl) ⟨k + 1, by omega⟩ (by dsimp only; omega) (by simp [hGn2, sb_lit, sb_app])
        | refine ar_go3 _ rfl (by simp [ints_len, ints_getE, rgL_len, rgL_getE, atsL_len, atsL_getE, cosL_len, cosL_getE, ousL_len, ousL_getE, atC, ouC, coC, sb_lit, sb_app, sb_size, hd, hlt, hx, hd2, hkl, hy, hw2, b2, b3]; exact ⟨rfl, rfl, rfl⟩) rfl ?_
        | refine aw_sregK 11 [1, 3, 4, 5] ?_
        | refine aw_regK 11 [1, 3, 4, 5] ?_
        | refine aw_sregK 12 [1, 3, 4, 5] ?_
        | refine aw_regK 12 [1, 3, 4, 5] ?_
        | refine aw_sregK 13 [1, 3, 4, 5] ?_
        | refine aw_regK 13 [1, 3, 4, 5] ?_
        | refine aw_sregK 14 [1, 3, 4, 5] ?_
        | refine aw_regK 14 [1, 3, 4, 5] ?_
        | refine aw_sregK 15 [1, 3, 4, 5] ?_
        | refine aw_regK 15 [1, 3, 4, 5] ?_
        | refine aw_sreg ?_
        | refine aw_sregD mixed ?_
        | refine aw_ifT (b := true) rfl rfl ?_
        | refine aw_ifF (b := false) rfl rfl ?_
        | refine aw_ifT rfl (by assumption) ?_
        | refine aw_ifF rfl (by assumption) ?_
        | refine aw_ifT rfl (decide_eq_true (by assumption)) ?_
        | refine aw_ifF rfl (decide_eq_false (by assumption)) ?_
        | refine aw_seq ?_
        | refine aw_block ?_
        | refine aw_skip ?_
        | refine aw_region ?_
        | refine aw_region_draw mixed ?_
        | refine aw_exit ?_
        | refine rq_exit ?_
        | refine blockQ_hit ?_
        | refine blockQ_miss (by decide) ?_
        | (refine ar_guard rfl rfl rfl rfl (fun h => ?_) (fun h => ?_) <;> (fail_if_success (cases h; done)) <;> (try simp at h) <;> (try subst h))
        | (refine aw_both rfl (fun h => ?_) (fun h => ?_) <;> (fail_if_success (cases h; done)) <;> (try simp at h) <;> (try subst h)))
    have hd2 : ¬(k : Int) < (l.length : Int) := by omega
    have hke : k = l.length := by omega
    subst hke
    by_cases hl0 : l = []
    · subst hl0
      rw [if_pos rfl] at hfront
      have hg0 : G ([] : List At).length = T1' ++ [32] := hG0
      have b4 : T1'.length + 5 ≤ 9223372036854775807 := by omega
      repeat' (first
        | refine ar_end rfl ?_
        | refine ar_endD rfl (by kernel_rfl) ?_
        | refine ar_fin rfl ?_
        | refine ar_finD rfl (by kernel_rfl) ?_
        | refine lq_exit ?_
        | refine bq_norm ?_
        | refine lq_normN [1, 3, 4] [.loc 1] (by simp; exact rfl) ⟨i + 1, by omega⟩ (by dsimp only; omega) (by simp [hfront, hG0, sb_lit, sb_app])
        | refine ar_go3 _ rfl (by simp [ints_len, ints_getE, rgL_len, rgL_getE, atsL_len, atsL_getE, cosL_len, cosL_getE, ousL_len, ousL_getE, atC, ouC, coC, sb_lit, sb_app, sb_size, hd, hlt, hx, hd2, hw, hG0, b4]; exact ⟨rfl, rfl, rfl⟩) rfl ?_
        | refine aw_sregK 6 [1, 3, 4] ?_
        | refine aw_regK 6 [1, 3, 4] ?_
        | refine aw_sregK 11 [1, 3, 4, 5] ?_
        | refine aw_regK 11 [1, 3, 4, 5] ?_
        | refine aw_sregK 16 [1, 3, 4] ?_
        | refine aw_regK 16 [1, 3, 4] ?_
        | refine aw_sregK 17 [1, 3, 4] ?_
        | refine aw_regK 17 [1, 3, 4] ?_
        | refine aw_sreg ?_
        | refine aw_sregD mixed ?_
        | refine aw_ifT (b := true) rfl rfl ?_
        | refine aw_ifF (b := false) rfl rfl ?_
        | refine aw_ifT rfl (by assumption) ?_
        | refine aw_ifF rfl (by assumption) ?_
        | refine aw_ifT rfl (decide_eq_true (by assumption)) ?_
        | refine aw_ifF rfl (decide_eq_false (by assumption)) ?_
        | refine aw_seq ?_
        | refine aw_block ?_
        | refine aw_skip ?_
        | refine aw_region ?_
        | refine aw_region_draw mixed ?_
        | refine aw_exit ?_
        | refine rq_exit ?_
        | refine blockQ_hit ?_
        | refine blockQ_miss (by decide) ?_)
    · have hll : ¬l.length = 0 := fun e => hl0 (List.eq_nil_of_length_eq_zero e)
      have hll2 : ¬(l.length : Int) = 0 := by omega
      rw [if_neg hl0, ← hGe] at hfront
      generalize G l.length = G1 at *
      repeat' (first
        | refine ar_end rfl ?_
        | refine ar_endD rfl (by kernel_rfl) ?_
        | refine ar_fin rfl ?_
        | refine ar_finD rfl (by kernel_rfl) ?_
        | refine lq_exit ?_
        | refine bq_norm ?_
        | refine lq_normN [1, 3, 4] [.loc 1] (by simp; exact rfl) ⟨i + 1, by omega⟩ (by dsimp only; omega) (by simp [hfront, sb_lit, sb_app])
        | refine ar_go3 _ rfl (by simp [ints_len, ints_getE, rgL_len, rgL_getE, atsL_len, atsL_getE, cosL_len, cosL_getE, ousL_len, ousL_getE, atC, ouC, coC, sb_lit, sb_app, sb_size, hd, hlt, hx, hd2, hl0, hll, hll2, hw]; exact ⟨rfl, rfl, rfl⟩) rfl ?_
        | refine aw_sregK 6 [1, 3, 4] ?_
        | refine aw_regK 6 [1, 3, 4] ?_
        | refine aw_sregK 11 [1, 3, 4, 5] ?_
        | refine aw_regK 11 [1, 3, 4, 5] ?_
        | refine aw_sregK 16 [1, 3, 4] ?_
        | refine aw_regK 16 [1, 3, 4] ?_
        | refine aw_sreg ?_
        | refine aw_sregD mixed ?_
        | refine aw_ifT (b := true) rfl rfl ?_
        | refine aw_ifF (b := false) rfl rfl ?_
        | refine aw_ifT rfl (by assumption) ?_
        | refine aw_ifF rfl (by assumption) ?_
        | refine aw_ifT rfl (decide_eq_true (by assumption)) ?_
        | refine aw_ifF rfl (decide_eq_false (by assumption)) ?_
        | refine aw_seq ?_
        | refine aw_block ?_
        | refine aw_skip ?_
        | refine aw_region ?_
        | refine aw_region_draw mixed ?_
        | refine aw_exit ?_
        | refine rq_exit ?_
        | refine blockQ_hit ?_
        | refine blockQ_miss (by decide) ?_)
  have hd : ¬(i : Int) < (c.any.length : Int) := by omega
  have hie : i = c.any.length := by omega
  subst hie
  repeat' (first
    | exact aw_ret (ret_vals (by simp; exact rfl) (by simp [*]; fail_if_success (show _)))
    | exact aw_ret (ret_vals (by simp; exact rfl) (by simp [*]; omega))
    | refine ar_end rfl ?_
    | refine ar_endD rfl (by kernel_rfl) ?_
    | refine ar_fin rfl ?_
    | refine ar_finD rfl (by kernel_rfl) ?_
    | refine lq_exit ?_
    | refine ar_go3 _ rfl (by simp [ints_len, ints_getE, rgL_len, rgL_getE, atsL_len, atsL_getE, cosL_len, cosL_getE, ousL_len, ousL_getE, atC, ouC, coC, hd]; exact ⟨rfl, rfl, rfl⟩) rfl ?_
    | refine aw_sregK 5 [1, 3, 4] ?_
    | refine aw_regK 5 [1, 3, 4] ?_
    | refine aw_sregK 18 [3] ?_
    | refine aw_regK 18 [3] ?_
    | refine aw_sreg ?_
    | refine aw_sregD mixed ?_
    | refine aw_ifT (b := true) rfl rfl ?_
    | refine aw_ifF (b := false) rfl rfl ?_
    | refine aw_ifT rfl (by assumption) ?_
    | refine aw_ifF rfl (by assumption) ?_
    | refine aw_ifT rfl (decide_eq_true (by assumption)) ?_
    | refine aw_ifF rfl (decide_eq_false (by assumption)) ?_
    | refine aw_seq ?_
    | refine aw_block ?_
    | refine aw_skip ?_
    | refine aw_region ?_
    | refine aw_region_draw mixed ?_
    | refine aw_exit ?_
    | refine rq_exit ?_
    | refine blockQ_hit ?_
    | refine blockQ_miss (by decide) ?_)
end Go.Eng
