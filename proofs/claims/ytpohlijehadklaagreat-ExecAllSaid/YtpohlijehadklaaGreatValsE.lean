import Derived.Test.YtpohlijehadklaaGreatValsD
import Derived.Test.YtpohlijehadklaaGreatFlowJ8
set_option linter.unusedSimpArgs false
set_option linter.unusedVariables false
set_option linter.constructorNameAsVariable false
set_option autoImplicit false
namespace Go.Eng
open Go Go.RowKit Go.Proofs
theorem putF_at : ∀ (l : List Int) (n : Int) (k : Nat), (∀ j, (h : j < l.length) → j < k → l[j] < n) → k ≤ l.length → putF l n = l.take k ++ putF (l.drop k) n
  | l, n, 0, _, _ => by simp
  | [], n, k + 1, _, hk => by simp at hk
  | x :: l, n, k + 1, h, hk => by
    have h0 := h 0 (by simp) (by omega)
    have := putF_at l n k (fun j hj hjk => by have := h (j + 1) (by simp; omega) (by omega); simpa using this) (by simpa using hk)
    simp only [List.getElem_cons_zero] at h0
    rw [putF, if_pos h0, this]
    simp
theorem vints_take (l : List Int) (k : Nat) : List.take k (ints l) = ints (l.take k) := by simp [ints, List.map_take]
theorem ints_drop (l : List Int) (k : Nat) : List.drop k (ints l) = ints (l.drop k) := by simp [ints, List.map_drop]
set_option maxHeartbeats 16000000 in
theorem c_putR {l : List Int} {n : Int} (hl : l.length ≤ 1000000000) : SC Tryz.prog 36 [.pv (.sl 1 (ints l)), I .i64 n] (.pv (.sl 1 (ints (putF l n)))) := by
  refine scx_of Tryz.func36 rfl rfl rfl (Nat.le_of_ble_eq_true rfl) ?_
  repeat' (first
 | refine ar_end rfl ?_
 | refine ar_go3 _ rfl (by simp [ints_len, ints_getE]; exact ⟨rfl, rfl, rfl⟩) rfl ?_
 | refine aw_sregK 0 [0, 1] ?_
 | refine aw_sregK 1 [0, 1] ?_
 | refine aw_seq ?_
 | refine aw_block ?_)
  refine aw_loopN [0, 1, 5] [] (by simp; exact rfl) (ι := {k : Nat // k ≤ l.length ∧ ∀ j, (h : j < l.length) → j < k → l[j] < n}) (fun k => ⟨49, [(0, .pv (.sl 1 (ints l))), (1, I .i64 n), (5, I .i64 k.1)], []⟩) (fun k => l.length - k.1) ⟨0, by omega, by omega⟩ (by simp) ?_
  rintro ⟨k, hk, hj⟩
  have hat := putF_at l n k hj hk
  by_cases hlt : k < l.length
  · have hw : IntKind.wrap .i64 ((k : Int) + 1) = (k : Int) + 1 := wrap64s (by omega) (by omega)
    have hd : (k : Int) < (l.length : Int) := by omega
    have hk2 : ¬(k : Int) < 0 := by omega
    have ed : l.drop k = l[k] :: l.drop (k + 1) := by rw [List.drop_eq_getElem_cons hlt]
    have hj2 : l[k] < n → ∀ j, (h : j < l.length) → j < k + 1 → l[j] < n := fun hx j h h' => by
      rcases Nat.lt_or_ge j k with h1 | h1
      · exact hj j h h1
      · have : j = k := by omega
        subst this; exact hx
    have hp : putF (l.drop k) n = if l[k] < n then l[k] :: putF (l.drop (k + 1)) n else if l[k] = n then l.drop k else n :: l.drop k := by
      rw [ed, putF]
    generalize hx : l[k] = x at *
    by_cases h1 : x < n
    ·
      repeat' (first
 | refine ar_end rfl ?_
 | refine ar_fin rfl ?_
 | refine bq_norm ?_
 | refine lq_normN [0, 1, 5] [] (by simp; exact rfl) ⟨k + 1, by omega, hj2 h1⟩ (by dsimp only; omega) (by simp)
 | refine ar_go3 _ rfl (by simp [ints_len, ints_getE, hlt, hd, hx, h1, hw]; exact ⟨rfl, rfl, rfl⟩) rfl ?_
 | refine aw_sregK 2 [0, 1, 5] ?_
 | refine aw_regK 3 [0, 1, 5] ?_
 | refine aw_ifT (b := true) rfl rfl ?_
 | refine aw_seq ?_
 | refine aw_block ?_
 | refine aw_skip ?_)
    · rw [if_neg h1] at hp
      by_cases h2 : x = n
      · rw [if_pos h2] at hp
        have e : putF l n = l := by rw [hat, hp, List.take_append_drop]
        rw [e]
        repeat' (first
 | refine ar_end rfl ?_
 | exact aw_ret (ret_vals (by simp; exact rfl) (by simp []; fail_if_success (show _)))
 | refine ar_go3 _ rfl (by simp [ints_len, ints_getE, hlt, hd, hx, h1, h2]; exact ⟨rfl, rfl, rfl⟩) rfl ?_
 | refine aw_sregK 2 [0, 1, 5] ?_
 | refine aw_sregK 4 [0, 1, 5] ?_
 | refine aw_sregK 5 [0] ?_
 | refine aw_ifT (b := true) rfl rfl ?_
 | refine aw_ifF (b := false) rfl rfl ?_
 | refine aw_seq ?_
 | refine aw_exit ?_)
      · rw [if_neg h2] at hp
        rw [hat, hp]
        repeat' (first
 | refine ar_end rfl ?_
 | refine ar_appO rfl rfl rfl rfl rfl (by simp; exact rfl) rfl (by simp; exact rfl) (by simp; exact rfl) (by simp; exact ⟨rfl, rfl⟩) rfl (by simp; exact rfl) (by simp; done) (by decide) (by simp [ints_len, maxLen]; try omega) ?_
 | exact aw_ret (ret_frz (.loc 47) (by simp; exact rfl) (by simp [ints]; fail_if_success (show _)))
 | refine ar_go3 _ rfl (by simp [ints_len, ints_getE, hlt, hd, hx, h1, h2, hk2, hk, vints_take, ints_drop]; exact ⟨rfl, rfl, rfl⟩) rfl ?_
 | refine aw_sregK 2 [0, 1, 5] ?_
 | refine aw_sregK 4 [0, 1, 5] ?_
 | refine aw_sregK 6 [0, 1, 5] ?_
 | refine aw_sregK 7 [0, 1, 5, 6] ?_
 | refine aw_sregK 8 [0, 5, 6] ?_
 | refine aw_sregK 9 [6] ?_
 | refine aw_ifF (b := false) rfl rfl ?_
 | refine aw_seq ?_
 | refine aw_skip ?_
 | refine aw_exit ?_)
  · have hd : ¬(k : Int) < (l.length : Int) := by omega
    have hk2 : ¬(k : Int) < 0 := by omega
    have hke : k = l.length := by omega
    have hed : l.drop k = [] := List.drop_of_length_le (by omega)
    have hp : putF (l.drop k) n = [n] := by rw [hed]; rfl
    rw [hat, hp]
    repeat' (first
 | refine ar_end rfl ?_
 | refine ar_appO rfl rfl rfl rfl rfl (by simp; exact rfl) rfl (by simp; exact rfl) (by simp; exact rfl) (by simp; exact ⟨rfl, rfl⟩) rfl (by simp; exact rfl) (by simp; done) (by decide) (by simp [ints_len, maxLen]; try omega) ?_
 | exact aw_ret (ret_frz (.loc 47) (by simp; exact rfl) (by simp [ints, hed]; fail_if_success (show _)))
 | refine ar_go3 _ rfl (by simp [ints_len, ints_getE, hlt, hd, hk2, hk, vints_take, ints_drop]; exact ⟨rfl, rfl, rfl⟩) rfl ?_
 | refine aw_sregK 2 [0, 1, 5] ?_
 | refine aw_sregK 4 [0, 1, 5] ?_
 | refine aw_sregK 6 [0, 1, 5] ?_
 | refine aw_sregK 7 [0, 1, 5, 6] ?_
 | refine aw_sregK 8 [0, 5, 6] ?_
 | refine aw_sregK 9 [6] ?_
 | refine aw_ifF (b := false) rfl rfl ?_
 | refine aw_seq ?_
 | refine aw_skip ?_
 | refine aw_exit ?_)
theorem putF_len (l : List Int) (n : Int) : (putF l n).length ≤ l.length + 1 := by
  induction l with
  | nil => simp [putF]
  | cons x l ih =>
    unfold putF
    split
    · simp only [List.length_cons]; omega
    · split <;> simp only [List.length_cons] <;> omega
theorem foldl_len : ∀ (l s : List Int), (l.foldl putF s).length ≤ s.length + l.length
  | [], s => by simp
  | n :: l, s => by
    have h1 := foldl_len l (putF s n)
    have h2 := putF_len s n
    rw [List.foldl_cons, List.length_cons]
    omega
set_option maxHeartbeats 16000000 in
theorem c_r9Wrote {out : List Int} {ts : List Rn} (hts : ts.length ≤ 2000000) (h40 : ∀ R ∈ ts, R.es.length ≤ 40) (hout : out.length ≤ 100000000) : SC Tryz.prog 38 [.pv (.sl 1 (ints out)), .pv (.sl 16 (trsL ts))] (.pv (.sl 1 (ints ((wvals ts).foldl putF out)))) := by
  have hlen : ∀ i, ((ts.take i).flatMap wvalR).length ≤ 80000000 := fun i => by
    have h1 : ((ts.take i).flatMap wvalR).length ≤ (ts.take i).length * 40 := by
      have key : ∀ l : List Rn, (∀ R ∈ l, R.es.length ≤ 40) → (l.flatMap wvalR).length ≤ l.length * 40 := by
        intro l
        induction l with
        | nil => intro _; simp
        | cons R l ih =>
          intro h
          have h1 := ih fun R' h' => h R' (by simp [h'])
          have h2 := h R (by simp)
          have h3 := wvE_len R.es
          have h4 : wvalR R = wvE R.es := rfl
          rw [List.flatMap_cons, List.length_append, h4, List.length_cons]
          omega
      exact key _ fun R hR => h40 R (List.mem_of_mem_take hR)
    have h2 : (ts.take i).length ≤ ts.length := by simp; omega
    omega
  refine scx_of Tryz.func38 rfl rfl rfl (Nat.le_of_ble_eq_true rfl) ?_
  repeat' (first
 | refine ar_end rfl ?_
 | refine ar_go3 _ rfl (by simp [trsL_len, trsL_getE, evsL_len, evsL_getE, trL, evL, ints_len]; exact ⟨rfl, rfl, rfl⟩) rfl ?_
 | refine aw_sregK 0 [0, 1] ?_
 | refine aw_sregK 1 [0, 1] ?_
 | refine aw_seq ?_
 | refine aw_block ?_)
  refine aw_loopN [0, 1, 5] [] (by simp; exact rfl) (ι := {i : Nat // i ≤ ts.length}) (fun i => ⟨45, [(0, .pv (.sl 1 (ints (((ts.take i.1).flatMap wvalR).foldl putF out)))), (1, .pv (.sl 16 (trsL ts))), (5, I .i64 i.1)], []⟩) (fun i => ts.length - i.1) ⟨0, by omega⟩ (by simp) ?_
  rintro ⟨i, hi⟩
  by_cases hlt : i < ts.length
  · have hw : IntKind.wrap .i64 ((i : Int) + 1) = (i : Int) + 1 := wrap64s (by omega) (by omega)
    have hd : (i : Int) < (ts.length : Int) := by omega
    have hfo : ((ts.take (i + 1)).flatMap wvalR).foldl putF out = (wvE ts[i].es).foldl putF (((ts.take i).flatMap wvalR).foldl putF out) := by
      rw [(flat_take wvalR hlt).1, List.foldl_append]; rfl
    have hF := foldl_len ((ts.take i).flatMap wvalR) out
    have hl0 := hlen i
    have h40R := h40 _ (List.getElem_mem hlt)
    have hFl : (((ts.take i).flatMap wvalR).foldl putF out).length ≤ 180000000 := by omega
    generalize ((ts.take i).flatMap wvalR).foldl putF out = F at *
    generalize hx : ts[i] = R at *
    repeat' (first
 | refine ar_end rfl ?_
 | refine ar_go3 _ rfl (by simp [trsL_len, trsL_getE, evsL_len, evsL_getE, trL, evL, ints_len, hlt, hd, hx]; exact ⟨rfl, rfl, rfl⟩) rfl ?_
 | refine aw_sregK 2 [0, 1, 5] ?_
 | refine aw_sregK 4 [0, 1, 5] ?_
 | refine aw_ifT (b := true) rfl rfl ?_
 | refine aw_seq ?_
 | refine aw_block ?_
 | refine aw_skip ?_)
    refine aw_loopN [0, 1, 5, 6] [] (by simp; exact rfl) (ι := {k : Nat // k ≤ R.es.length}) (fun k => ⟨45, [(0, .pv (.sl 1 (ints ((wvE (R.es.take k.1)).foldl putF F)))), (1, .pv (.sl 16 (trsL ts))), (5, I .i64 i), (6, I .i64 k.1)], []⟩) (fun k => R.es.length - k.1) ⟨0, by omega⟩ (by simp [wvE]) ?_
    rintro ⟨k, hk⟩
    by_cases hkl : k < R.es.length
    · have hw2 : IntKind.wrap .i64 ((k : Int) + 1) = (k : Int) + 1 := wrap64s (by omega) (by omega)
      have hd2 : (k : Int) < (R.es.length : Int) := by omega
      have hwt := wvE_take hkl
      have hG := foldl_len (wvE (R.es.take k)) F
      have hwl := wvE_len (R.es.take k)
      rw [List.length_take] at hwl
      have hpo : (wvE (R.es.take (k + 1))).foldl putF F = (if R.es[k].k = 2 then [R.es[k].v] else []).foldl putF ((wvE (R.es.take k)).foldl putF F) := by rw [hwt, List.foldl_append]
      have hGl : ((wvE (R.es.take k)).foldl putF F).length ≤ 1000000000 := by omega
      generalize (wvE (R.es.take k)).foldl putF F = G at *
      generalize hy : R.es[k] = e at *
      have hP := c_putR (n := e.v) hGl
      by_cases he : e.k = 2
      · rw [if_pos he] at hpo
        have hpo : (wvE (R.es.take (k + 1))).foldl putF F = putF G e.v := hpo
        repeat' (first
 | refine ar_end rfl ?_
 | refine ar_fin rfl ?_
 | refine ar_callV Tryz.call36 hP rfl rfl rfl rfl rfl (by simp; done) (by rfl) (by simp; done) ?_
 | refine lq_normN [0, 1, 5, 6] [] (by simp; exact rfl) ⟨k + 1, by omega⟩ (by dsimp only; omega) (by simp [hpo])
 | refine ar_go3 _ rfl (by simp [trsL_len, trsL_getE, evsL_len, evsL_getE, trL, evL, ints_len, hlt, hd, hx, hkl, hd2, hy, he, hw2]; exact ⟨rfl, rfl, rfl⟩) rfl ?_
 | refine aw_sregK 5 [0, 1, 5, 6] ?_
 | refine aw_regK 6 [0, 1, 5, 6] ?_
 | refine aw_sregK 7 [0, 1, 5, 6] ?_
 | refine aw_regK 8 [0, 1, 5, 6] ?_
 | refine aw_ifT (b := true) rfl rfl ?_
 | refine aw_seq ?_
 | refine aw_block ?_
 | refine aw_skip ?_)
      · rw [if_neg he] at hpo
        have hpo : (wvE (R.es.take (k + 1))).foldl putF F = G := hpo
        repeat' (first
 | refine ar_end rfl ?_
 | refine ar_fin rfl ?_
 | refine bq_norm ?_
 | refine lq_normN [0, 1, 5, 6] [] (by simp; exact rfl) ⟨k + 1, by omega⟩ (by dsimp only; omega) (by simp [hpo])
 | refine ar_go3 _ rfl (by simp [trsL_len, trsL_getE, evsL_len, evsL_getE, trL, evL, ints_len, hlt, hd, hx, hkl, hd2, hy, he, hw2]; exact ⟨rfl, rfl, rfl⟩) rfl ?_
 | refine aw_sregK 5 [0, 1, 5, 6] ?_
 | refine aw_regK 6 [0, 1, 5, 6] ?_
 | refine aw_sregK 7 [0, 1, 5, 6] ?_
 | refine aw_ifT (b := true) rfl rfl ?_
 | refine aw_ifF (b := false) rfl rfl ?_
 | refine aw_seq ?_
 | refine aw_block ?_
 | refine aw_skip ?_)
    · have hd2 : ¬(k : Int) < (R.es.length : Int) := by omega
      have hke : R.es.take k = R.es := List.take_of_length_le (by omega)
      rw [hke]
      repeat' (first
 | refine ar_end rfl ?_
 | refine ar_fin rfl ?_
 | refine lq_normN [0, 1, 5] [] (by simp; exact rfl) ⟨i + 1, by omega⟩ (by dsimp only; omega) (by simp [hfo])
 | refine ar_go3 _ rfl (by simp [trsL_len, trsL_getE, evsL_len, evsL_getE, trL, evL, ints_len, hlt, hd, hx, hd2, hw]; exact ⟨rfl, rfl, rfl⟩) rfl ?_
 | refine aw_regK 3 [0, 1, 5] ?_
 | refine aw_sregK 5 [0, 1, 5, 6] ?_
 | refine aw_ifF (b := false) rfl rfl ?_
 | refine aw_seq ?_
 | refine aw_exit ?_)
  · have hd : ¬(i : Int) < (ts.length : Int) := by omega
    have hie : ts.take i = ts := List.take_of_length_le (by omega)
    rw [hie]
    repeat' (first
 | refine ar_end rfl ?_
 | exact aw_ret (ret_vals (by simp; exact rfl) (by simp [wvals]; fail_if_success (show _)))
 | refine ar_go3 _ rfl (by simp [trsL_len, trsL_getE, evsL_len, evsL_getE, trL, evL, ints_len, hd]; exact ⟨rfl, rfl, rfl⟩) rfl ?_
 | refine aw_sregK 2 [0, 1, 5] ?_
 | refine aw_sregK 9 [0] ?_
 | refine aw_ifF (b := false) rfl rfl ?_
 | refine aw_seq ?_
 | refine aw_exit ?_)
end Go.Eng
