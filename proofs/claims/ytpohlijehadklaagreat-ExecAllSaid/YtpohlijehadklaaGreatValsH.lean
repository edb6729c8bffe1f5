import Derived.Test.YtpohlijehadklaaGreatValsF
import Derived.Test.YtpohlijehadklaaGreatValsG
import Derived.Test.YtpohlijehadklaaGreatTestB
import Derived.Test.YtpohlijehadklaaGreatTestA
import Derived.Test.YtpohlijehadklaaGreatEngF
set_option linter.unusedSimpArgs false
set_option linter.unusedVariables false
set_option linter.constructorNameAsVariable false
set_option autoImplicit false
namespace Go.Eng
open Go Go.RowKit Go.Proofs
theorem sortU_snoc {l : List Int} {k : Nat} (h : k < l.length) : sortU (l.take (k + 1)) = putF (sortU (l.take k)) l[k] := by
  unfold sortU
  rw [List.take_add_one, List.getElem?_eq_getElem h, List.foldl_append]
  rfl
theorem round_step {L : Int} {l : List Int} {t : List (List In)} {k : Nat} (h : k < t.length) : sortU (l ++ (t.take (k + 1)).flatMap (rowF L l)) = (wvals (tracesF t[k] L l)).foldl putF (sortU (l ++ (t.take k).flatMap (rowF L l))) := by
  rw [foldl_sortU (sortU_asc _)]
  refine sortU_congr fun x => ?_
  rw [(flat_take (rowF L l) h).1]
  simp only [List.mem_append, sortU_mem, rowF]
  rw [or_assoc]
set_option maxHeartbeats 16000000 in
theorem c_r9Of {i : List Int} {t : List (List In)} (hf : Few i t) (hth : ∀ th ∈ t, ∀ x ∈ th, wfIn x) : SC Tryz.prog 14 [.agg (testL i t)] (.tup [.pv (.sl 1 (ints (ofF i t).1)), I .i64 (ofF i t).2]) := by
  have hM : maxLen = 9223372036854775807 := rfl
  have hC := c_refCheck (i := i) (t := t)
  have hN := c_refCount hf
  unfold ofF
  cases hok : okTest i t
  · have hbad : ¬(checkF i t).2.2 = 0 := by simpa [okTest] using hok
    rw [if_neg (by simp)]
    generalize checkF i t = p at *
    refine scx_of Tryz.func14 rfl rfl rfl (Nat.le_of_ble_eq_true rfl) ?_
    repeat' (first
 | refine ar_end rfl ?_
 | refine ar_callV Tryz.call35 hC rfl rfl rfl rfl rfl (by simp; done) (by rfl) (by simp; done) ?_
 | exact aw_ret (ret_nil 2 1 (by simp; exact rfl) (by simp [ints]; fail_if_success (show _)))
 | refine ar_go3 _ rfl (by simp [insL_len, insL_getE, inL, ints_len, ints_getE, thsL_len, thsL_getE, trsL_len, hbad]; exact ⟨rfl, rfl, rfl⟩) rfl ?_
 | refine aw_sregK 0 [0] ?_
 | refine aw_sregK 1 [1] ?_
 | refine aw_sregK 2 [1, 6] ?_
 | refine aw_sregK 3 [6] ?_
 | refine aw_ifT (b := true) rfl rfl ?_
 | refine aw_seq ?_)
  · rw [if_pos rfl]
    have hi := ok_init hok
    have hgood : (checkF i t).2.2 = 0 := by simpa [okTest] using hok
    obtain ⟨hi3, ht3, hi1, _, hts⟩ := ok_facts hok
    obtain ⟨hs0, hs6⟩ := ok_stores hok hf
    generalize checkF i t = p at *
    generalize kcT 1 t = q1 at *
    generalize kcT 2 t = q2 at *
    obtain ⟨n, rfl⟩ := Int.eq_ofNat_of_zero_le hs0
    have hs6' : ((n : Nat) : Int) ≤ 6 := hs6
    rw [show ((n : Int)).toNat = n from Int.toNat_natCast n]
    refine scx_of Tryz.func14 rfl rfl rfl (Nat.le_of_ble_eq_true rfl) ?_
    repeat' (first
 | refine ar_end rfl ?_
 | refine ar_callV Tryz.call35 hC rfl rfl rfl rfl rfl (by simp; done) (by rfl) (by simp; done) ?_
 | refine ar_go3 _ rfl (by simp [insL_len, insL_getE, inL, ints_len, ints_getE, thsL_len, thsL_getE, trsL_len, hgood]; exact ⟨rfl, rfl, rfl⟩) rfl ?_
 | refine aw_sregK 0 [0] ?_
 | refine aw_sregK 1 [1] ?_
 | refine aw_sregK 2 [1, 6] ?_
 | refine aw_sregK 4 [1] ?_
 | refine aw_sregK 5 [1, 7] ?_
 | refine aw_ifF (b := false) rfl rfl ?_
 | refine aw_seq ?_
 | refine aw_block ?_
 | refine aw_skip ?_)
    refine aw_nilS 7 1 (by simp; exact rfl) ?_
    refine aw_loopN [1, 7, 8] [.loc 1] (by simp; exact rfl) (ι := {k : Nat // k ≤ i.length}) (fun k => ⟨72, [(1, .ptr (.loc 1) 0), (7, .pv (.sl 1 (ints (sortU (i.take k.1))))), (8, I .i64 k.1)], [(.loc 1, some (.box 25 [.pv (.sl 1 (ints i)), .pv (.sl 1 (thsL t))]))]⟩) (fun k => i.length - k.1) ⟨0, by omega⟩ (by simp [sortU, ints]) ?_
    rintro ⟨k0, hk0⟩
    by_cases hkl0 : k0 < i.length
    · have hw0 : IntKind.wrap .i64 ((k0 : Int) + 1) = (k0 : Int) + 1 := wrap64s (by omega) (by omega)
      have hd0 : (k0 : Int) < (i.length : Int) := by omega
      have hsn := sortU_snoc hkl0
      have hle0 := sortU_le (i.take k0)
      rw [List.length_take] at hle0
      generalize sortU (i.take k0) = G at *
      generalize hx : i[k0] = x at *
      have hP := c_putR (l := G) (n := x) (by omega)
      repeat' (first
 | refine ar_end rfl ?_
 | refine ar_fin rfl ?_
 | refine ar_callV Tryz.call36 hP rfl rfl rfl rfl rfl (by simp; done) (by rfl) (by simp; done) ?_
 | refine lq_normN [1, 7, 8] [.loc 1] (by simp; exact rfl) ⟨k0 + 1, by omega⟩ (by dsimp only; omega) (by simp [hsn])
 | refine ar_go3 _ rfl (by simp [insL_len, insL_getE, inL, ints_len, ints_getE, thsL_len, thsL_getE, trsL_len, hkl0, hd0, hx, hw0]; exact ⟨rfl, rfl, rfl⟩) rfl ?_
 | refine aw_sregK 6 [1, 7, 8] ?_
 | refine aw_regK 7 [1, 7, 8] ?_
 | refine aw_regK 8 [1, 7, 8] ?_
 | refine aw_ifT (b := true) rfl rfl ?_
 | refine aw_seq ?_
 | refine aw_block ?_
 | refine aw_skip ?_)
    have hd0 : ¬(k0 : Int) < (i.length : Int) := by omega
    have hke0 : i.take k0 = i := List.take_of_length_le (by omega)
    rw [hke0]
    have hl0 := sortU_le i
    have hw0 : ∀ n ∈ sortU i, W64 n := fun n hn => hi n ((sortU_mem i n).1 hn)
    have ha0 := sortU_asc i
    generalize hfin : ofN i.length t n (sortU i) = fin at *
    generalize sortU i = l0 at *
    repeat' (first
 | refine ar_end rfl ?_
 | refine ar_callV Tryz.call37 hN rfl rfl rfl rfl rfl (by simp; done) (by rfl) (by simp; done) ?_
 | refine ar_go3 _ rfl (by simp [insL_len, insL_getE, inL, ints_len, ints_getE, thsL_len, thsL_getE, trsL_len, hd0]; exact ⟨rfl, rfl, rfl⟩) rfl ?_
 | refine aw_sregK 6 [1, 7, 8] ?_
 | refine aw_sregK 9 [1, 7] ?_
 | refine aw_sregK 10 [1, 7, 10] ?_
 | refine aw_ifF (b := false) rfl rfl ?_
 | refine aw_seq ?_
 | refine aw_block ?_
 | refine aw_exit ?_)
    refine aw_loopN [1, 7, 10, 11] [.loc 1] (by simp; exact rfl) (ι := {p : Nat × List Int // p.1 ≤ n ∧ p.2.length ≤ 8 ∧ (∀ x ∈ p.2, W64 x) ∧ Asc p.2 ∧ ofN i.length t (n - p.1) p.2 = fin}) (fun p => ⟨72, [(1, .ptr (.loc 1) 0), (7, .pv (.sl 1 (ints p.1.2))), (10, I .i64 n), (11, I .i64 p.1.1)], [(.loc 1, some (.box 25 [.pv (.sl 1 (ints i)), .pv (.sl 1 (thsL t))]))]⟩) (fun p => n - p.1.1) ⟨(0, l0), by omega, by simp; omega, hw0, ha0, hfin⟩ (by simp) ?_
    rintro ⟨⟨j, l⟩, hj, hl8, hlw, hla, hpf⟩
    dsimp only at hj hl8 hlw hla hpf ⊢
    by_cases hjn : j < n
    · have hd : (j : Int) < (n : Int) := by omega
      have hwj : IntKind.wrap .i64 ((j : Int) + 1) = (j : Int) + 1 := wrap64s (by omega) (by omega)
      obtain ⟨d, hdd⟩ : ∃ d, n - j = d + 1 := ⟨n - j - 1, by omega⟩
      rw [hdd, ofN] at hpf
      repeat' (first
 | refine ar_end rfl ?_
 | refine ar_go3 _ rfl (by simp [insL_len, insL_getE, inL, ints_len, ints_getE, thsL_len, thsL_getE, trsL_len, hd]; exact ⟨rfl, rfl, rfl⟩) rfl ?_
 | refine aw_sregK 11 [1, 7, 10, 11] ?_
 | refine aw_sregK 13 [1, 7, 10, 11] ?_
 | refine aw_sregK 14 [1, 7, 10, 11, 12] ?_
 | refine aw_ifT (b := true) rfl rfl ?_
 | refine aw_seq ?_
 | refine aw_block ?_
 | refine aw_skip ?_)
      refine aw_loopN [1, 7, 10, 11, 12, 13] [.loc 1] (by simp; exact rfl) (ι := {k : Nat // k ≤ t.length}) (fun k => ⟨72, [(1, .ptr (.loc 1) 0), (7, .pv (.sl 1 (ints l))), (10, I .i64 n), (11, I .i64 j), (12, .pv (.sl 1 (ints (sortU (l ++ (t.take k.1).flatMap (rowF i.length l)))))), (13, I .i64 k.1)], [(.loc 1, some (.box 25 [.pv (.sl 1 (ints i)), .pv (.sl 1 (thsL t))]))]⟩) (fun k => t.length - k.1) ⟨0, by omega⟩ (by simp [sortU_id hla]) ?_
      rintro ⟨k, hk⟩
      have hFl : ∀ k, (sortU (l ++ (t.take k).flatMap (rowF i.length l))).length ≤ 90000000 := fun k => by
        have h1 := flatMap_len (l := t.take k) (g := rowF i.length l) (m := 8388608) (fun th hx => row_len hl8 (hth th (List.mem_of_mem_take hx)) hlw)
        refine Nat.le_trans (sortU_le _) ?_
        rw [List.length_append]
        have h2 : (t.take k).length ≤ 3 := by rw [List.length_take]; omega
        have h3 := Nat.mul_le_mul_right 8388608 h2
        omega
      by_cases hkl : k < t.length
      · have hw2 : IntKind.wrap .i64 ((k : Int) + 1) = (k : Int) + 1 := wrap64s (by omega) (by omega)
        have hd2 : (k : Int) < (t.length : Int) := by omega
        have hft := round_step (L := i.length) (l := l) hkl
        have hF0 := hFl k
        have hthk := hth _ (List.getElem_mem hkl)
        have hlenk := (hts _ (List.getElem_mem hkl)).1.2
        have hT := c_r9Traces (th := t[k]) (locs := (i.length : Int)) (vals := l) (by omega) (W64.small (by omega)) hl8
        have hW := c_r9Wrote (out := sortU (l ++ (t.take k).flatMap (rowF i.length l))) (ts := tracesF t[k] i.length l) (Nat.le_trans (traces_len hl8) (by decide)) (fun R hR => Nat.le_trans (traces_wf hthk hlw R hR).2.1 (by decide)) (by omega)
        generalize sortU (l ++ (t.take k).flatMap (rowF i.length l)) = F at *
        generalize (wvals (tracesF t[k] i.length l)).foldl putF F = G at *
        generalize tracesF t[k] i.length l = ts at *
        generalize hx : t[k] = th at *
        repeat' (first
 | refine ar_end rfl ?_
 | refine ar_endD rfl (by kernel_rfl) ?_
 | refine ar_fin rfl ?_
 | refine ar_callV Tryz.call15 hT rfl rfl rfl rfl rfl (by simp; done) (by rfl) (by simp; done) ?_
 | refine ar_callV Tryz.call38 hW rfl rfl rfl rfl rfl (by simp; done) (by rfl) (by simp; done) ?_
 | refine lq_normN [1, 7, 10, 11, 12, 13] [.loc 1] (by simp; exact rfl) ⟨k + 1, by omega⟩ (by dsimp only; omega) (by simp [hft])
 | refine ar_go3 _ rfl (by simp [insL_len, insL_getE, inL, ints_len, ints_getE, thsL_len, thsL_getE, trsL_len, hkl, hd2, hx, hw2]; exact ⟨rfl, rfl, rfl⟩) rfl ?_
 | refine aw_sregK 15 [1, 7, 10, 11, 12, 13] ?_
 | refine aw_regK 16 [1, 7, 10, 11, 12, 13] ?_
 | refine aw_regKD mixed 17 [1, 7, 10, 11, 12, 13] (by simp; exact rfl) ?_
 | refine aw_ifT (b := true) rfl rfl ?_
 | refine aw_seq ?_
 | refine aw_block ?_
 | refine aw_skip ?_)
      · have hd2 : ¬(k : Int) < (t.length : Int) := by omega
        have hke : t.take k = t := List.take_of_length_le (by omega)
        rw [hke]
        have hrw := round_wf (L := i.length) hth hlw
        have hra : Asc (roundF i.length t l) := sortU_asc _
        have hrd : sortU (l ++ t.flatMap (rowF i.length l)) = roundF i.length t l := rfl
        rw [hrd]
        generalize roundF i.length t l = r at *
        by_cases h9 : 8 < r.length
        · rw [if_pos h9] at hpf
          subst hpf
          have h9' : (8 : Int) < (r.length : Int) := by omega
          repeat' (first
 | refine ar_end rfl ?_
 | exact aw_ret (ret_nil 2 1 (by simp; exact rfl) (by simp [ints]; fail_if_success (show _)))
 | refine ar_go3 _ rfl (by simp [insL_len, insL_getE, inL, ints_len, ints_getE, thsL_len, thsL_getE, trsL_len, hd2, h9']; exact ⟨rfl, rfl, rfl⟩) rfl ?_
 | refine aw_sregK 15 [1, 7, 10, 11, 12, 13] ?_
 | refine aw_sregK 18 [1, 10, 11, 12] ?_
 | refine aw_sregK 19 [1, 7, 10, 11] ?_
 | refine aw_sregK 20 [] ?_
 | refine aw_ifT (b := true) rfl rfl ?_
 | refine aw_ifF (b := false) rfl rfl ?_
 | refine aw_seq ?_
 | refine aw_exit ?_)
        · rw [if_neg h9] at hpf
          have h9' : ¬(8 : Int) < (r.length : Int) := by omega
          repeat' (first
 | refine ar_end rfl ?_
 | refine ar_fin rfl ?_
 | refine bq_norm ?_
 | refine lq_normN [1, 7, 10, 11] [.loc 1] (by simp; exact rfl) ⟨(j + 1, r), by dsimp only; omega, by dsimp only; omega, hrw, hra, by dsimp only; rw [show n - (j + 1) = d by omega]; exact hpf⟩ (by dsimp only; omega) (by simp)
 | refine ar_go3 _ rfl (by simp [insL_len, insL_getE, inL, ints_len, ints_getE, thsL_len, thsL_getE, trsL_len, hd2, h9', hwj]; exact ⟨rfl, rfl, rfl⟩) rfl ?_
 | refine aw_regK 12 [1, 7, 10, 11] ?_
 | refine aw_sregK 15 [1, 7, 10, 11, 12, 13] ?_
 | refine aw_sregK 18 [1, 10, 11, 12] ?_
 | refine aw_sregK 19 [1, 7, 10, 11] ?_
 | refine aw_ifF (b := false) rfl rfl ?_
 | refine aw_seq ?_
 | refine aw_skip ?_
 | refine aw_exit ?_)
    · have hd : ¬(j : Int) < (n : Int) := by omega
      rw [show n - j = 0 by omega, ofN] at hpf
      subst hpf
      repeat' (first
 | refine ar_end rfl ?_
 | exact aw_ret (ret_vals (by simp; exact rfl) (by simp; fail_if_success (show _)))
 | refine ar_go3 _ rfl (by simp [insL_len, insL_getE, inL, ints_len, ints_getE, thsL_len, thsL_getE, trsL_len, hd]; exact ⟨rfl, rfl, rfl⟩) rfl ?_
 | refine aw_sregK 11 [1, 7, 10, 11] ?_
 | refine aw_sregK 21 [7] ?_
 | refine aw_ifF (b := false) rfl rfl ?_
 | refine aw_seq ?_
 | refine aw_exit ?_)
end Go.Eng
