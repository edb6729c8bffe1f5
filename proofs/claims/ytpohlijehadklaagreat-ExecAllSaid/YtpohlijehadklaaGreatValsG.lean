import Derived.Test.YtpohlijehadklaaGreatValsD
import Derived.Test.YtpohlijehadklaaGreatValsQ
import Derived.Test.YtpohlijehadklaaGreatTestC
import Derived.Test.YtpohlijehadklaaGreatTestB
import Derived.Test.YtpohlijehadklaaGreatTestA
set_option linter.unusedSimpArgs false
set_option linter.unusedVariables false
set_option linter.constructorNameAsVariable false
set_option autoImplicit false
namespace Go.Eng
open Go Go.RowKit Go.Proofs
def rowF (L : Int) (l : List Int) (th : List In) : List Int := sortU (wvals (tracesF th L l))
def roundF (L : Int) (t : List (List In)) (l : List Int) : List Int := sortU (l ++ t.flatMap (rowF L l))
def ofN (L : Int) (t : List (List In)) : Nat → List Int → List Int × Int
  | 0, l => (l, 0)
  | n + 1, l => if 8 < (roundF L t l).length then ([], 3) else ofN L t n (roundF L t l)
def ofF (i : List Int) (t : List (List In)) : List Int × Int := if okTest i t = true then ofN i.length t (kcT 2 t).toNat (sortU i) else ([], (checkF i t).2.2)
theorem putF_le (l : List Int) (n : Int) : (putF l n).length ≤ l.length + 1 := by
  induction l with
  | nil => simp [putF]
  | cons x l ih =>
    unfold putF
    split
    · simp only [List.length_cons]; omega
    · split <;> simp only [List.length_cons] <;> omega
theorem foldl_le : ∀ (l s : List Int), (l.foldl putF s).length ≤ s.length + l.length
  | [], s => by simp
  | n :: l, s => by
    have h1 := foldl_le l (putF s n)
    have h2 := putF_le s n
    rw [List.foldl_cons, List.length_cons]
    omega
theorem sortU_le (l : List Int) : (sortU l).length ≤ l.length := by
  have := foldl_le l []
  simpa [sortU] using this
theorem row_mem {L : Int} {l : List Int} {th : List In} {x : Int} (h : x ∈ rowF L l th) : ∃ R ∈ tracesF th L l, ∃ e ∈ R.es, e.k = 2 ∧ e.v = x := by
  have h := (sortU_mem _ x).1 h
  obtain ⟨R, hR, h⟩ := List.mem_flatMap.1 h
  obtain ⟨e, he, rfl⟩ := List.mem_map.1 h
  obtain ⟨h1, h2⟩ := List.mem_filter.1 he
  exact ⟨R, hR, e, h1, by simpa using h2, rfl⟩
theorem row_wf {L : Int} {l : List Int} {th : List In} (hth : ∀ x ∈ th, wfIn x) (hl : ∀ n ∈ l, W64 n) : ∀ x ∈ rowF L l th, W64 x := by
  intro x h
  obtain ⟨R, hR, e, he, _, rfl⟩ := row_mem h
  exact ((traces_wf hth hl R hR).1.es e he).2.2.2
theorem round_wf {L : Int} {l : List Int} {t : List (List In)} (hth : ∀ th ∈ t, ∀ x ∈ th, wfIn x) (hl : ∀ n ∈ l, W64 n) : ∀ x ∈ roundF L t l, W64 x := by
  intro x h
  rcases List.mem_append.1 ((sortU_mem _ x).1 h) with h | h
  · exact hl x h
  · obtain ⟨th, h1, h2⟩ := List.mem_flatMap.1 h
    exact row_wf (hth th h1) hl x h2
theorem row_len {L : Int} {l : List Int} {th : List In} (h8 : l.length ≤ 8) (hth : ∀ x ∈ th, wfIn x) (hl : ∀ n ∈ l, W64 n) : (rowF L l th).length ≤ 8388608 := by
  refine Nat.le_trans (sortU_le _) ?_
  have h1 := traces_len (th := th) (locs := L) h8
  have h2 := fun R hR => (traces_wf (locs := L) hth hl R hR).2.1
  generalize tracesF th L l = ts at *
  have key : ∀ ts : List Rn, (∀ R ∈ ts, R.es.length ≤ 8) → (wvals ts).length ≤ ts.length * 8 := by
    intro ts
    induction ts with
    | nil => intro _; simp [wvals]
    | cons R ts ih =>
      intro h
      have h1 := ih fun R' h' => h R' (by simp [h'])
      have h2 := h R (by simp)
      have h3 := wvE_len R.es
      have h4 : wvalR R = wvE R.es := rfl
      unfold wvals at h1 ⊢
      rw [List.flatMap_cons, List.length_append, h4, List.length_cons]
      omega
  have := key ts h2
  omega
theorem ok_init {i : List Int} {t : List (List In)} (h : okTest i t = true) : ∀ n ∈ i, W64 n := by
  obtain ⟨h1, _, _⟩ := okTest_iff.1 h
  simp only [sizedF, Bool.and_eq_true] at h1
  intro n hn
  have := List.all_eq_true.1 h1.1 n hn
  simp at this
  exact W64.small (by omega)
theorem ok_stores {i : List Int} {t : List (List In)} (h : okTest i t = true) (hf : Few i t) : 0 ≤ kcT 2 t ∧ kcT 2 t ≤ 6 := by
  obtain ⟨_, _, h3⟩ := okTest_iff.1 h
  have h1 := hf.kcT 1 t.length
  have h2 := hf.kcT 2 t.length
  rw [List.take_length] at h1 h2
  simp [fullF] at h3
  omega
theorem lq_normF {ι : Type} {head : ι → AState} {μ : ι → Nat} {i : ι} {Q : Exit → AState → Prop} {st st' : AState} (n : Name) (L : List Nat) (N : List Name) (hs : (st.freeze n).keepN L N = st') (j : ι) (hj : μ j < μ i) (h : head j = st') : loopQ head μ i Q .normal st :=
  ⟨j, hj, by rw [h, ← hs]; exact (Sub.freeze st n).trans (Sub.keepN _ L N)⟩
set_option maxHeartbeats 16000000 in
theorem c_Of {i : List Int} {t : List (List In)} (hf : Few i t) (hth : ∀ th ∈ t, ∀ x ∈ th, wfIn x) : SC Tryz.prog 11 [.agg (testL i t)] (.tup [.pv (.sl 1 (ints (ofF i t).1)), I .i64 (ofF i t).2]) := by
  have hM : maxLen = 9223372036854775807 := rfl
  have hC := c_Check (i := i) (t := t) (by have := hf.1; omega)
  have hN := c_Count hf
  unfold ofF
  cases hok : okTest i t
  · have hbad : ¬(checkF i t).2.2 = 0 := by simpa [okTest] using hok
    rw [if_neg (by simp)]
    generalize checkF i t = p at *
    refine scx_of Tryz.func11 rfl rfl rfl (Nat.le_of_ble_eq_true rfl) ?_
    repeat' (first
 | refine ar_end rfl ?_
 | refine ar_callV Tryz.call21 hC rfl rfl rfl rfl rfl (by simp; done) (by rfl) (by simp; done) ?_
 | exact aw_ret (ret_nil 2 1 (by simp; exact rfl) (by simp [ints]; fail_if_success (show _)))
 | refine ar_go3 _ rfl (by simp [insL_len, insL_getE, inL, ints_len, ints_getE, thsL_len, thsL_getE, trsL_len, hbad]; exact ⟨rfl, rfl, rfl⟩) rfl ?_
 | refine aw_sregK 0 [0] ?_
 | refine aw_sregK 1 [1] ?_
 | refine aw_sregK 2 [1, 6] ?_
 | refine aw_sregK 3 [6] ?_
 | refine aw_ifT (b := true) rfl rfl ?_
 | refine aw_seq ?_)
  · rw [if_pos rfl]
    have hi := ok_init hok
    have hgood : (checkF i t).2.2 = 0 := by simpa [okTest] using hok
    obtain ⟨hi3, ht3, _, _, hts⟩ := ok_facts hok
    obtain ⟨hs0, hs6⟩ := ok_stores hok hf
    have hO := c_once (l := i) (by omega)
    have hl0 := sortU_le i
    have hw0 : ∀ n ∈ sortU i, W64 n := fun n hn => hi n ((sortU_mem i n).1 hn)
    generalize checkF i t = p at *
    generalize kcT 1 t = q1 at *
    generalize kcT 2 t = q2 at *
    obtain ⟨n, rfl⟩ := Int.eq_ofNat_of_zero_le hs0
    have hs6' : ((n : Nat) : Int) ≤ 6 := hs6
    rw [show ((n : Int)).toNat = n from Int.toNat_natCast n]
    have hmin : mm false (n : Int) 6 = n := by unfold mm; first | (simp; omega) | (split <;> omega)
    generalize hfin : ofN i.length t n (sortU i) = fin at *
    generalize sortU i = l0 at *
    refine scx_of Tryz.func11 rfl rfl rfl (Nat.le_of_ble_eq_true rfl) ?_
    repeat' (first
 | refine ar_end rfl ?_
 | refine ar_callV Tryz.call21 hC rfl rfl rfl rfl rfl (by simp; done) (by rfl) (by simp; done) ?_
 | refine ar_callV Tryz.call22 hN rfl rfl rfl rfl rfl (by simp; done) (by rfl) (by simp; done) ?_
 | refine ar_callO Tryz.call23 hO rfl rfl rfl rfl (by simp; exact rfl) rfl (by simp; done) (by rfl) rfl ?_
 | refine ar_go3 _ rfl (by simp [insL_len, insL_getE, inL, ints_len, ints_getE, thsL_len, thsL_getE, trsL_len, hgood, hmin, hs6']; exact ⟨rfl, rfl, rfl⟩) rfl ?_
 | refine aw_sregK 0 [0] ?_
 | refine aw_sregK 1 [1] ?_
 | refine aw_sregK 2 [1, 6] ?_
 | refine aw_sregK 4 [1] ?_
 | refine aw_sregK 5 [1, 8] ?_
 | refine aw_sregK 6 [1, 8, 9] ?_
 | refine aw_ifF (b := false) rfl rfl ?_
 | refine aw_seq ?_
 | refine aw_block ?_
 | refine aw_skip ?_)
    refine aw_frz (.loc 29) (by simp; exact rfl) ?_
    refine aw_loopN [1, 9, 31, 32] [.loc 1] (by simp; exact rfl) (ι := {p : Nat × List Int // p.1 ≤ n ∧ p.2.length ≤ 8 ∧ (∀ x ∈ p.2, W64 x) ∧ ofN i.length t (n - p.1) p.2 = fin}) (fun p => ⟨60, [(1, .ptr (.loc 1) 0), (9, .pv (.sl 1 (ints p.1.2))), (31, I .i64 n), (32, I .i64 p.1.1)], [(.loc 1, some (.box 25 [.pv (.sl 1 (ints i)), .pv (.sl 1 (thsL t))]))]⟩) (fun p => n - p.1.1) ⟨(0, l0), by omega, by simp; omega, hw0, hfin⟩ (by simp [hmin]) ?_
    rintro ⟨⟨j, l⟩, hj, hl8, hlw, hpf⟩
    dsimp only at hj hl8 hlw hpf ⊢
    by_cases hjn : j < n
    · have hd : (j : Int) < (n : Int) := by omega
      have hwj : IntKind.wrap .i64 ((j : Int) + 1) = (j : Int) + 1 := wrap64s (by omega) (by omega)
      have hK := c_CloneI (l := l) (by omega)
      obtain ⟨d, hdd⟩ : ∃ d, n - j = d + 1 := ⟨n - j - 1, by omega⟩
      rw [hdd, ofN] at hpf
      have hlt3 : t.length ≤ 3 := ht3
      repeat' (first
 | refine ar_end rfl ?_
 | refine ar_callO Tryz.call24 hK rfl rfl rfl rfl (by simp; exact rfl) rfl (by simp; done) (by rfl) rfl ?_
 | refine ar_go3 _ rfl (by simp [insL_len, insL_getE, inL, ints_len, ints_getE, thsL_len, thsL_getE, trsL_len, hd]; exact ⟨rfl, rfl, rfl⟩) rfl ?_
 | refine aw_sregK 7 [1, 9, 31, 32] ?_
 | refine aw_sregK 8 [1, 9, 31, 32] ?_
 | refine aw_sregK 9 [1, 9, 10, 31, 32] ?_
 | refine aw_ifT (b := true) rfl rfl ?_
 | refine aw_seq ?_
 | refine aw_block ?_
 | refine aw_skip ?_)
      refine aw_ren (.loc 35) (.loc 1000) (by simp; exact rfl) ?_
      refine aw_loopN [1, 9, 10, 31, 32, 37, 38, 39] [.loc 1, .loc 1000] (by simp; exact rfl) (ι := {k : Nat // k ≤ t.length}) (fun k => ⟨60, [(1, .ptr (.loc 1) 0), (9, .pv (.sl 1 (ints l))), (10, .own (.loc 1000)), (31, I .i64 n), (32, I .i64 j), (37, .pv (.sl 1 (thsL t))), (38, I .i64 t.length), (39, I .i64 k.1)], [(.loc 1, some (.box 25 [.pv (.sl 1 (ints i)), .pv (.sl 1 (thsL t))])), (.loc 1000, some (.own 2 1 (ints (l ++ (t.take k.1).flatMap (rowF i.length l)))))]⟩) (fun k => t.length - k.1) ⟨0, by omega⟩ (by simp [thsL_len]) ?_
      rintro ⟨k, hk⟩
      have hFl : ∀ k, (l ++ (t.take k).flatMap (rowF i.length l)).length ≤ 90000000 := fun k => by
        have h1 := flatMap_len (l := t.take k) (g := rowF i.length l) (m := 8388608) (fun th hx => row_len hl8 (hth th (List.mem_of_mem_take hx)) hlw)
        rw [List.length_append]
        have h2 : (t.take k).length ≤ 3 := by rw [List.length_take]; omega
        have h3 := Nat.mul_le_mul_right 8388608 h2
        omega
      by_cases hkl : k < t.length
      · have hw2 : IntKind.wrap .i64 ((k : Int) + 1) = (k : Int) + 1 := wrap64s (by omega) (by omega)
        have hd2 : (k : Int) < (t.length : Int) := by omega
        have hft : l ++ (t.take (k + 1)).flatMap (rowF i.length l) = l ++ (t.take k).flatMap (rowF i.length l) ++ rowF i.length l t[k] := by rw [(flat_take (rowF i.length l) hkl).1, List.append_assoc]
        have hF0 := hFl k
        have hthk := hth _ (List.getElem_mem hkl)
        have hrl := row_len (L := i.length) hl8 hthk hlw
        have hlenk := (hts _ (List.getElem_mem hkl)).1.2
        have hT := c_Traces (th := t[k]) (locs := (i.length : Int)) (vals := l) (by omega) hl8
        have hW := c_Wrote (ts := tracesF t[k] i.length l) (Nat.le_trans (traces_len hl8) (by decide)) (fun R hR => Nat.le_trans (traces_wf hthk hlw R hR).2.1 (by decide)) (fun R hR e he => ((traces_wf hthk hlw R hR).1.es e he).2.2.2)
        have hrow : rowF i.length l t[k] = sortU (wvals (tracesF t[k] i.length l)) := rfl
        rw [← hrow] at hW
        clear hrow
        generalize l ++ (t.take k).flatMap (rowF i.length l) = F at *
        generalize rowF i.length l t[k] = G at *
        generalize tracesF t[k] i.length l = ts at *
        generalize hx : t[k] = th at *
        have hft : ints (l ++ (t.take (k + 1)).flatMap (rowF i.length l)) = ints F ++ ints G := by rw [hft, ints_app]
        repeat' (first
 | refine ar_end rfl ?_
 | refine ar_fin rfl ?_
 | refine ar_callV Tryz.call12 hT rfl rfl rfl rfl rfl (by simp; done) (by rfl) (by simp; done) ?_
 | refine ar_callO Tryz.call25 hW rfl rfl rfl rfl (by simp; exact rfl) rfl (by simp; done) (by rfl) rfl ?_
 | refine ar_appO rfl rfl rfl rfl rfl (by simp; exact rfl) rfl (by simp; exact rfl) (by simp; exact rfl) (by simp; exact ⟨rfl, rfl⟩) rfl (by simp; exact rfl) (by simp; done) (by decide) (by simp [ints_len, maxLen]; try omega) ?_
 | refine lq_normR (.loc 51) (.loc 1000) [1, 9, 10, 31, 32, 37, 38, 39] [.loc 1, .loc 1000] (by simp; exact rfl) ⟨k + 1, by omega⟩ (by dsimp only; omega) (by simp [hft])
 | refine ar_go3 _ rfl (by simp [insL_len, insL_getE, inL, ints_len, ints_getE, thsL_len, thsL_getE, trsL_len, hkl, hd2, hx, hw2]; exact ⟨rfl, rfl, rfl⟩) rfl ?_
 | refine aw_sregK 10 [1, 9, 10, 31, 32, 37, 38, 39] ?_
 | refine aw_sregK 11 [1, 9, 10, 31, 32, 37, 38, 39] ?_
 | refine aw_regK 12 [1, 9, 10, 12, 31, 32, 37, 38, 39] ?_
 | refine aw_regK 13 [1, 9, 10, 31, 32, 37, 38, 39] ?_
 | refine aw_ifT (b := true) rfl rfl ?_
 | refine aw_seq ?_
 | refine aw_block ?_
 | refine aw_skip ?_)
      · have hd2 : ¬(k : Int) < (t.length : Int) := by omega
        have hke : t.take k = t := List.take_of_length_le (by omega)
        have hF0 := hFl k
        rw [hke] at hF0 ⊢
        have hO2 := c_once (l := l ++ t.flatMap (rowF i.length l)) (by omega)
        have hrd : sortU (l ++ t.flatMap (rowF i.length l)) = roundF i.length t l := rfl
        rw [hrd] at hO2
        have hrw := round_wf (L := i.length) hth hlw
        generalize roundF i.length t l = r at *
        generalize l ++ t.flatMap (rowF i.length l) = F at *
        by_cases h9 : 8 < r.length
        · rw [if_pos h9] at hpf
          subst hpf
          have h9' : (8 : Int) < (r.length : Int) := by omega
          repeat' (first
 | refine ar_end rfl ?_
 | refine ar_frzE [53] [] [.loc 54] [.loc 54] Tryz.call23 hO2 rfl rfl rfl rfl (by simp; exact rfl) (by simp; exact rfl) rfl (by simp; done) (by rfl) (by simp; fail_if_success (show _)) rfl ⟨by simp, by simp, (by simp [okY]; fail_if_success (show _)), by simp, by simp⟩ (by simp; fail_if_success (show _)) (by simp; done) ?_
 | exact aw_ret (ret_nil 2 1 (by simp; exact rfl) (by simp [ints]; fail_if_success (show _)))
 | refine ar_go3 _ rfl (by simp [insL_len, insL_getE, inL, ints_len, ints_getE, thsL_len, thsL_getE, trsL_len, hd2, h9']; exact ⟨rfl, rfl, rfl⟩) rfl ?_
 | refine aw_sregK 10 [1, 9, 10, 31, 32, 37, 38, 39] ?_
 | refine aw_sregK 14 [1, 10, 31, 32] ?_
 | refine aw_sregK 15 [1, 9, 31, 32] ?_
 | refine aw_sregK 16 [] ?_
 | refine aw_ifT (b := true) rfl rfl ?_
 | refine aw_ifF (b := false) rfl rfl ?_
 | refine aw_seq ?_
 | refine aw_exit ?_)
        · rw [if_neg h9] at hpf
          have h9' : ¬(8 : Int) < (r.length : Int) := by omega
          repeat' (first
 | refine ar_end rfl ?_
 | refine ar_fin rfl ?_
 | refine ar_frzE [53] [] [.loc 54] [.loc 54] Tryz.call23 hO2 rfl rfl rfl rfl (by simp; exact rfl) (by simp; exact rfl) rfl (by simp; done) (by rfl) (by simp; fail_if_success (show _)) rfl ⟨by simp, by simp, (by simp [okY]; fail_if_success (show _)), by simp, by simp⟩ (by simp; fail_if_success (show _)) (by simp; done) ?_
 | refine bq_norm ?_
 | refine lq_normF (.loc 54) [1, 9, 31, 32] [.loc 1] (by simp; exact rfl) ⟨(j + 1, r), by dsimp only; omega, by dsimp only; omega, hrw, by dsimp only; rw [show n - (j + 1) = d by omega]; exact hpf⟩ (by dsimp only; omega) (by simp)
 | refine ar_go3 _ rfl (by simp [insL_len, insL_getE, inL, ints_len, ints_getE, thsL_len, thsL_getE, trsL_len, hd2, h9', hwj]; exact ⟨rfl, rfl, rfl⟩) rfl ?_
 | refine aw_sregK 10 [1, 9, 10, 31, 32, 37, 38, 39] ?_
 | refine aw_sregK 14 [1, 10, 31, 32] ?_
 | refine aw_sregK 15 [1, 9, 31, 32] ?_
 | refine aw_regK 17 [1, 9, 31, 32] ?_
 | refine aw_ifF (b := false) rfl rfl ?_
 | refine aw_seq ?_
 | refine aw_skip ?_
 | refine aw_exit ?_)
    · have hd : ¬(j : Int) < (n : Int) := by omega
      rw [show n - j = 0 by omega, ofN] at hpf
      subst hpf
      repeat' (first
 | refine ar_end rfl ?_
 | exact aw_ret (ret_vals (by simp; exact rfl) (by simp; fail_if_success (show _)))
 | refine ar_go3 _ rfl (by simp [insL_len, insL_getE, inL, ints_len, ints_getE, thsL_len, thsL_getE, trsL_len, hd]; exact ⟨rfl, rfl, rfl⟩) rfl ?_
 | refine aw_sregK 7 [1, 9, 31, 32] ?_
 | refine aw_sregK 18 [9] ?_
 | refine aw_ifF (b := false) rfl rfl ?_
 | refine aw_seq ?_
 | refine aw_exit ?_)
end Go.Eng
