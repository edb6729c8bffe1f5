import Derived.Test.YtamjcdfjkekdjaaValsK
import Derived.Test.YtamjcdfjkekdjaaValsH
import Derived.Test.YtamjcdfjkekdjaaTestA
set_option linter.unusedSimpArgs false
set_option linter.unusedVariables false
set_option linter.constructorNameAsVariable false
set_option autoImplicit false
namespace Go.Eng
open Go Go.RowKit Go.Proofs
theorem few_of_ok {i : List Int} {t : List (List In)} (h : okTest i t = true) : Few i t := by
  obtain ⟨hi3, ht3, hi1, _, hts⟩ := ok_facts h
  exact ⟨by omega, by omega, fun th hh => by have := (hts th hh).1.2; omega⟩
theorem sortU_put {a l : List Int} {j : Nat} (h : j < l.length) : sortU (a ++ l.take (j + 1)) = putF (sortU (a ++ l.take j)) l[j] := by
  unfold sortU
  rw [List.take_add_one, List.getElem?_eq_getElem h, ← List.append_assoc, List.foldl_append]
  rfl
set_option maxHeartbeats 16000000 in
theorem law_ValsQuiet {i : List Int} {t : List (List In)} (hth : ∀ th ∈ t, ∀ x ∈ th, wfIn x) : SC Try.prog 30 [.agg (testL i t)] (B true) := by
  have hM : maxLen = 9223372036854775807 := rfl
  have hK := c_refCheck (i := i) (t := t)
  cases hok : okTest i t
  · have hbad : ¬(checkF i t).2.2 = 0 := by simpa [okTest] using hok
    generalize checkF i t = p at *
    refine scx_of Try.func30 rfl rfl rfl (Nat.le_of_ble_eq_true rfl) ?_
    repeat' (first
 | exact aw_ret (ret_vals (by simp; exact rfl) (by simp [*]; fail_if_success (show _)))
 | refine ar_end rfl ?_
 | refine ar_callV Try.call72 c_shown9 rfl rfl rfl rfl rfl (by simp; done) (by rfl) (by simp; done) ?_
 | refine ar_callV Try.call56 hK rfl rfl rfl rfl rfl (by simp; done) (by rfl) (by simp; done) ?_
 | refine ar_go3 _ rfl (by simp [trsL_len, trsL_getE, evsL_len, evsL_getE, trL, evL, insL_len, insL_getE, inL, ints_len, ints_getE, thsL_len, thsL_getE, hbad]; exact ⟨rfl, rfl, rfl⟩) rfl ?_
 | refine aw_sregK 0 [0] ?_
 | refine aw_sregK 1 [1] ?_
 | refine aw_sregK 2 [1, 3] ?_
 | refine aw_sregK 3 [1, 3, 6] ?_
 | refine aw_sregK 4 [3] ?_
 | refine aw_ifT (b := true) rfl rfl ?_
 | refine aw_seq ?_)
  have hgood : (checkF i t).2.2 = 0 := by simpa [okTest] using hok
  have hf := few_of_ok hok
  obtain ⟨hi3, ht3, hi1, _, hts⟩ := ok_facts hok
  have hiw := ok_init hok
  have hO := c_Of hf hth
  have hC := c_refCount hf
  have hstill := @of_still i t hok
  have hq := @of_quiet i t hok
  have hs0 := kcT_nn 2 t
  have hc0 := kcT_nn 1 t
  have hlen : (ofF i t).1.length ≤ maxLen := ofF_len hf
  generalize checkF i t = p at *
  generalize ofF i t = p2 at *
  obtain ⟨l, e⟩ := p2
  dsimp only at hO hstill hq hlen
  generalize kcT 1 t = c1 at *
  generalize kcT 2 t = c2 at *
  refine scx_of Try.func30 rfl rfl rfl (Nat.le_of_ble_eq_true rfl) ?_
  repeat' (first
 | refine ar_end rfl ?_
 | refine ar_callV Try.call72 c_shown9 rfl rfl rfl rfl rfl (by simp; done) (by rfl) (by simp; done) ?_
 | refine ar_callV Try.call56 hK rfl rfl rfl rfl rfl (by simp; done) (by rfl) (by simp; done) ?_
 | refine ar_callV Try.call58 hC rfl rfl rfl rfl rfl (by simp; done) (by rfl) (by simp; done) ?_
 | refine ar_callV Try.call79 hO rfl rfl rfl rfl rfl (by simp; done) (by rfl) (by simp; done) ?_
 | refine ar_go3 _ rfl (by simp [trsL_len, trsL_getE, evsL_len, evsL_getE, trL, evL, insL_len, insL_getE, inL, ints_len, ints_getE, thsL_len, thsL_getE, hgood]; exact ⟨rfl, rfl, rfl⟩) rfl ?_
 | refine aw_sregK 0 [0] ?_
 | refine aw_sregK 1 [1] ?_
 | refine aw_sregK 2 [1, 3] ?_
 | refine aw_sregK 3 [1, 3, 6] ?_
 | refine aw_sregK 5 [1, 3] ?_
 | refine aw_sregK 6 [1, 3, 7, 8] ?_
 | refine aw_sregK 7 [1, 3, 7, 8, 9, 10] ?_
 | refine aw_sregK 8 [1, 3, 7, 8, 9, 10, 11] ?_
 | refine aw_ifF (b := false) rfl rfl ?_
 | refine aw_seq ?_
 | refine aw_block ?_
 | refine aw_skip ?_)
  refine aw_nilS 11 1 (by simp; exact rfl) ?_
  refine aw_loopN [1, 3, 7, 8, 9, 10, 11, 12] [.loc 1] (by simp; exact rfl) (ι := {k : Nat // k ≤ i.length}) (fun k => ⟨105, [(1, .ptr (.loc 1) 0), (3, B true), (7, I .i64 c1), (8, I .i64 c2), (9, .pv (.sl 1 (ints l))), (10, I .i64 e), (11, .pv (.sl 1 (ints (sortU (i.take k.1))))), (12, I .i64 k.1)], [(.loc 1, some (.box 55 [.pv (.sl 1 (ints i)), .pv (.sl 1 (thsL t))]))]⟩) (fun k => i.length - k.1) ⟨0, by omega⟩ (by simp [sortU, ints]) ?_
  rintro ⟨k, hk⟩
  by_cases hlt : k < i.length
  · have hc : (k : Int) < (i.length : Int) := by omega
    have hw : IntKind.wrap .i64 ((k : Int) + 1) = (k : Int) + 1 := wrap64s (by omega) (by omega)
    have hsn := sortU_snoc hlt
    have hle0 := sortU_le (i.take k)
    rw [List.length_take] at hle0
    generalize sortU (i.take k) = G at *
    generalize hx : i[k] = x at *
    have hP := c_putR (l := G) (n := x) (by omega)
    repeat' (first
 | refine ar_end rfl ?_
 | refine ar_fin rfl ?_
 | refine ar_callV Try.call82 hP rfl rfl rfl rfl rfl (by simp; done) (by rfl) (by simp; done) ?_
 | refine lq_normN [1, 3, 7, 8, 9, 10, 11, 12] [.loc 1] (by simp; exact rfl) ⟨k + 1, by omega⟩ (by dsimp only; omega) (by simp [hsn])
 | refine ar_go3 _ rfl (by simp [trsL_len, trsL_getE, evsL_len, evsL_getE, trL, evL, insL_len, insL_getE, inL, ints_len, ints_getE, thsL_len, thsL_getE, hlt, hc, hx, hw]; exact ⟨rfl, rfl, rfl⟩) rfl ?_
 | refine aw_sregK 9 [1, 3, 7, 8, 9, 10, 11, 12] ?_
 | refine aw_regK 10 [1, 3, 7, 8, 9, 10, 11, 12] ?_
 | refine aw_regK 11 [1, 3, 7, 8, 9, 10, 11, 12] ?_
 | refine aw_ifT (b := true) rfl rfl ?_
 | refine aw_seq ?_
 | refine aw_block ?_
 | refine aw_skip ?_)
  have hc : ¬(k : Int) < (i.length : Int) := by omega
  have hke : i.take k = i := List.take_of_length_le (by omega)
  rw [hke]
  have hsl := sortU_le i
  by_cases hs : c2 = 0
  · have h := hstill hs
    rw [Prod.mk.injEq] at h
    obtain ⟨rfl, rfl⟩ := h
    have hN := c_NumsV (l := sortU i) (by omega)
    generalize sortU i = G at *
    repeat' (first
 | exact aw_ret (ret_vals (by simp; exact rfl) (by simp [*]; fail_if_success (show _)))
 | refine ar_end rfl ?_
 | refine ar_callV_if Try.call76 hN rfl rfl rfl rfl rfl rfl (by simp; done) rfl (by rfl) (by simp; done) ?_
 | refine ar_go3 _ rfl (by simp [trsL_len, trsL_getE, evsL_len, evsL_getE, trL, evL, insL_len, insL_getE, inL, ints_len, ints_getE, thsL_len, thsL_getE, hc, hs]; exact ⟨rfl, rfl, rfl⟩) rfl ?_
 | refine aw_sregK 9 [1, 3, 7, 8, 9, 10, 11, 12] ?_
 | refine aw_sregK 12 [1, 3, 7, 8, 9, 10, 11] ?_
 | refine aw_sregK 13 [3, 9, 10, 11] ?_
 | refine aw_ifT (b := true) rfl rfl ?_
 | refine aw_ifF (b := false) rfl rfl ?_
 | refine aw_seq ?_
 | refine aw_exit ?_)
  repeat' (first
 | refine ar_end rfl ?_
 | refine ar_go3 _ rfl (by simp [trsL_len, trsL_getE, evsL_len, evsL_getE, trL, evL, insL_len, insL_getE, inL, ints_len, ints_getE, thsL_len, thsL_getE, hc, hs]; exact ⟨rfl, rfl, rfl⟩) rfl ?_
 | refine aw_sregK 9 [1, 3, 7, 8, 9, 10, 11, 12] ?_
 | refine aw_sregK 12 [1, 3, 7, 8, 9, 10, 11] ?_
 | refine aw_sregK 14 [1, 3, 7, 9, 10, 11] ?_
 | refine aw_ifF (b := false) rfl rfl ?_
 | refine aw_seq ?_
 | refine aw_block ?_
 | refine aw_skip ?_
 | refine aw_exit ?_)
  have hrl : ∀ k, ((t.take k).flatMap (rowF i.length [])).length ≤ 25165824 := fun k => by
    have h1 := flatMap_len (l := t.take k) (g := rowF i.length []) (m := 8388608) (fun th hx => row_len (by simp) (hth th (List.mem_of_mem_take hx)) (by simp))
    have h2 : (t.take k).length ≤ 3 := by rw [List.length_take]; omega
    have h3 := Nat.mul_le_mul_right 8388608 h2
    omega
  refine aw_loopN [1, 3, 7, 9, 10, 11, 13] [.loc 1] (by simp; exact rfl) (ι := {k : Nat // k ≤ t.length}) (fun k => ⟨105, [(1, .ptr (.loc 1) 0), (3, B true), (7, I .i64 c1), (9, .pv (.sl 1 (ints l))), (10, I .i64 e), (11, .pv (.sl 1 (ints (sortU (sortU i ++ (t.take k.1).flatMap (rowF i.length [])))))), (13, I .i64 k.1)], [(.loc 1, some (.box 55 [.pv (.sl 1 (ints i)), .pv (.sl 1 (thsL t))]))]⟩) (fun k => t.length - k.1) ⟨0, by omega⟩ (by simp [sortU_id (sortU_asc i)]) ?_
  rintro ⟨k2, hk2⟩
  by_cases hlt2 : k2 < t.length
  · have hc2 : (k2 : Int) < (t.length : Int) := by omega
    have hw : IntKind.wrap .i64 ((k2 : Int) + 1) = (k2 : Int) + 1 := wrap64s (by omega) (by omega)
    have hthk := hth _ (List.getElem_mem hlt2)
    have hlenk := (hts _ (List.getElem_mem hlt2)).1.2
    have hft := (flat_take (rowF i.length []) hlt2).1
    have hrk := hrl k2
    have hT0 := c_Traces (th := t[k2]) (locs := (i.length : Int)) (vals := []) (by omega) (by simp)
    obtain ⟨hW, hWl⟩ := c_WroteV (traces_len (th := t[k2]) (locs := (i.length : Int)) (vals := []) (by simp)) (traces_ok hthk (by simp))
    have hrw : rowF i.length [] t[k2] = sortU (wvals (tracesF t[k2] i.length [])) := rfl
    rw [hrw] at hft
    generalize (t.take k2).flatMap (rowF i.length []) = F at *
    generalize tracesF t[k2] i.length [] = ts at *
    generalize sortU (wvals ts) = w at *
    generalize hx : t[k2] = th at *
    have hT : SC Try.prog 73 [.pv (.sl 6 (insL th)), I .i64 i.length, .pv (.v (.slice none 0 0))] (.pv (.sl 16 (trsL ts))) := by
      refine SCX.pre (args' := [.pv (.sl 6 (insL th)), I .i64 i.length, .pv (.sl 1 (ints []))]) ?_ rfl hT0
      refine (Sub.nilSl _ 2 1).trans (Sub.of ?_ (fun p hp => ?_) (fun p hp => ?_))
      · simp [AState.nilSl, isNilV, ints]
      · simp [AState.nilSl, isNilV, ints] at hp ⊢
        rcases hp with rfl | rfl | rfl <;> simp
      · cases hp
    repeat' (first
 | refine ar_end rfl ?_
 | refine ar_endD rfl (by kernel_rfl) ?_
 | refine ar_callV Try.call73 hT rfl rfl rfl rfl rfl (by simp; done) (by rfl) (by simp; done) ?_
 | refine ar_callV Try.call77 hW rfl rfl rfl rfl rfl (by simp; done) (by rfl) (by simp; done) ?_
 | refine ar_go3 _ rfl (by simp [trsL_len, trsL_getE, evsL_len, evsL_getE, trL, evL, insL_len, insL_getE, inL, ints_len, ints_getE, thsL_len, thsL_getE, hlt2, hc2, hx]; exact ⟨rfl, rfl, rfl⟩) rfl ?_
 | refine aw_sregK 15 [1, 3, 7, 9, 10, 11, 13] ?_
 | refine aw_sregKD mixed 17 [1, 3, 7, 9, 10, 11, 13] (by simp; exact rfl) ?_
 | refine aw_sregK 18 [1, 3, 7, 9, 10, 11, 13, 14] ?_
 | refine aw_ifT (b := true) rfl rfl ?_
 | refine aw_seq ?_
 | refine aw_block ?_
 | refine aw_skip ?_)
    refine aw_loopN [1, 3, 7, 9, 10, 11, 13, 14, 15] [.loc 1] (by simp; exact rfl) (ι := {j : Nat // j ≤ w.length}) (fun j => ⟨105, [(1, .ptr (.loc 1) 0), (3, B true), (7, I .i64 c1), (9, .pv (.sl 1 (ints l))), (10, I .i64 e), (11, .pv (.sl 1 (ints (sortU (sortU i ++ F ++ w.take j.1))))), (13, I .i64 k2), (14, .pv (.sl 1 (ints w))), (15, I .i64 j.1)], [(.loc 1, some (.box 55 [.pv (.sl 1 (ints i)), .pv (.sl 1 (thsL t))]))]⟩) (fun j => w.length - j.1) ⟨0, by omega⟩ (by simp) ?_
    rintro ⟨j, hj⟩
    by_cases hjl : j < w.length
    · have hd : (j : Int) < (w.length : Int) := by omega
      have hw2 : IntKind.wrap .i64 ((j : Int) + 1) = (j : Int) + 1 := wrap64s (by omega) (by omega)
      have hsp := sortU_put (a := sortU i ++ F) hjl
      rw [List.append_assoc (sortU i) F (w.take (j + 1))] at hsp
      have hll := sortU_le (sortU i ++ F ++ w.take j)
      rw [List.length_append, List.length_append, List.length_take] at hll
      generalize sortU (sortU i ++ F ++ w.take j) = G at *
      generalize hy : w[j] = y at *
      have hP := c_putR (l := G) (n := y) (by omega)
      repeat' (first
 | refine ar_end rfl ?_
 | refine ar_fin rfl ?_
 | refine ar_callV Try.call82 hP rfl rfl rfl rfl rfl (by simp; done) (by rfl) (by simp; done) ?_
 | refine lq_normN [1, 3, 7, 9, 10, 11, 13, 14, 15] [.loc 1] (by simp; exact rfl) ⟨j + 1, by omega⟩ (by dsimp only; omega) (by simp [hsp])
 | refine ar_go3 _ rfl (by simp [trsL_len, trsL_getE, evsL_len, evsL_getE, trL, evL, insL_len, insL_getE, inL, ints_len, ints_getE, thsL_len, thsL_getE, hjl, hd, hy, hw2]; exact ⟨rfl, rfl, rfl⟩) rfl ?_
 | refine aw_sregK 19 [1, 3, 7, 9, 10, 11, 13, 14, 15] ?_
 | refine aw_regK 20 [1, 3, 7, 9, 10, 11, 13, 14, 15] ?_
 | refine aw_regK 21 [1, 3, 7, 9, 10, 11, 13, 14, 15] ?_
 | refine aw_ifT (b := true) rfl rfl ?_
 | refine aw_seq ?_
 | refine aw_block ?_
 | refine aw_skip ?_)
    have hd : ¬(j : Int) < (w.length : Int) := by omega
    have hje : w.take j = w := List.take_of_length_le (by omega)
    have hfin : sortU (sortU i ++ (t.take (k2 + 1)).flatMap (rowF i.length [])) = sortU (sortU i ++ F ++ w) := by rw [hft, List.append_assoc]
    rw [hje, ← hfin]
    repeat' (first
 | refine ar_end rfl ?_
 | refine ar_fin rfl ?_
 | refine lq_normN [1, 3, 7, 9, 10, 11, 13] [.loc 1] (by simp; exact rfl) ⟨k2 + 1, by omega⟩ (by dsimp only; omega) (by simp [])
 | refine ar_go3 _ rfl (by simp [trsL_len, trsL_getE, evsL_len, evsL_getE, trL, evL, insL_len, insL_getE, inL, ints_len, ints_getE, thsL_len, thsL_getE, hd, hw]; exact ⟨rfl, rfl, rfl⟩) rfl ?_
 | refine aw_regK 16 [1, 3, 7, 9, 10, 11, 13] ?_
 | refine aw_sregK 19 [1, 3, 7, 9, 10, 11, 13, 14, 15] ?_
 | refine aw_ifF (b := false) rfl rfl ?_
 | refine aw_seq ?_
 | refine aw_exit ?_)
  have hc2 : ¬(k2 : Int) < (t.length : Int) := by omega
  have hke2 : t.take k2 = t := List.take_of_length_le (by omega)
  have hrk := hrl k2
  rw [hke2] at hrk ⊢
  have hll := sortU_le (sortU i ++ t.flatMap (rowF i.length []))
  rw [List.length_append] at hll
  have hNN := c_NumsV (l := sortU (sortU i ++ t.flatMap (rowF i.length []))) (by omega)
  generalize sortU (sortU i ++ t.flatMap (rowF i.length [])) = G at *
  by_cases hl0 : 0 < c1
  ·
    repeat' (first
 | exact aw_ret (ret_vals (by simp; exact rfl) (by simp [*]; fail_if_success (show _)))
 | refine ar_end rfl ?_
 | refine ar_go3 _ rfl (by simp [trsL_len, trsL_getE, evsL_len, evsL_getE, trL, evL, insL_len, insL_getE, inL, ints_len, ints_getE, thsL_len, thsL_getE, hc2, hl0]; exact ⟨rfl, rfl, rfl⟩) rfl ?_
 | refine aw_sregK 15 [1, 3, 7, 9, 10, 11, 13] ?_
 | refine aw_sregK 22 [3, 7, 9, 10, 11] ?_
 | refine aw_ifF (b := false) rfl rfl ?_
 | refine aw_seq ?_
 | refine aw_exit ?_)
  by_cases he : e = 0
  · have hl := hq he (by omega) (by omega)
    subst hl
    repeat' (first
 | exact aw_ret (ret_vals (by simp; exact rfl) (by simp [*]; fail_if_success (show _)))
 | refine ar_end rfl ?_
 | refine ar_callV_if Try.call76 hNN rfl rfl rfl rfl rfl rfl (by simp; done) rfl (by rfl) (by simp; done) ?_
 | refine ar_go3 _ rfl (by simp [trsL_len, trsL_getE, evsL_len, evsL_getE, trL, evL, insL_len, insL_getE, inL, ints_len, ints_getE, thsL_len, thsL_getE, hc2, hl0, he]; exact ⟨rfl, rfl, rfl⟩) rfl ?_
 | refine aw_sregK 15 [1, 3, 7, 9, 10, 11, 13] ?_
 | refine aw_sregK 22 [3, 7, 9, 10, 11] ?_
 | refine aw_ifF (b := false) rfl rfl ?_
 | refine aw_seq ?_
 | refine aw_exit ?_)
  ·
    repeat' (first
 | exact aw_ret (ret_vals (by simp; exact rfl) (by simp [*]; fail_if_success (show _)))
 | refine ar_end rfl ?_
 | refine ar_go3 _ rfl (by simp [trsL_len, trsL_getE, evsL_len, evsL_getE, trL, evL, insL_len, insL_getE, inL, ints_len, ints_getE, thsL_len, thsL_getE, hc2, hl0, he]; exact ⟨rfl, rfl, rfl⟩) rfl ?_
 | refine aw_sregK 15 [1, 3, 7, 9, 10, 11, 13] ?_
 | refine aw_sregK 22 [3, 7, 9, 10, 11] ?_
 | refine aw_ifF (b := false) rfl rfl ?_
 | refine aw_seq ?_
 | refine aw_exit ?_)
end Go.Eng
