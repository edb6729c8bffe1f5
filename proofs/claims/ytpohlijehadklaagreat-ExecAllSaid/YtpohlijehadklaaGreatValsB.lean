import Derived.Test.YtpohlijehadklaaGreatValsA
import Derived.Test.YtpohlijehadklaaGreatEngF
set_option linter.unusedSimpArgs false
set_option linter.unusedVariables false
set_option linter.constructorNameAsVariable false
set_option autoImplicit false
namespace Go.Eng
open Go Go.RowKit Go.Proofs
def trsL (l : List Rn) : List (List PV) := l.map trL
theorem trsL_len {l : List Rn} : (trsL l).length = l.length := by simp [trsL]
theorem trsL_getE {l : List Rn} {i : Nat} (h : i < (trsL l).length) : (trsL l)[i] = trL (l[i]'(by simpa [trsL] using h)) := by simp [trsL]
theorem trsL_app (s l : List Rn) : trsL (s ++ l) = trsL s ++ trsL l := by simp [trsL]
theorem flat_take {α β : Type} (g : α → List β) {L : List α} {i : Nat} (h : i < L.length) : (L.take (i + 1)).flatMap g = (L.take i).flatMap g ++ g L[i] ∧ ((L.take i).flatMap g).length + (g L[i]).length ≤ (L.flatMap g).length := by
  have e : (L.take (i + 1)).flatMap g = (L.take i).flatMap g ++ g L[i] := by
    rw [List.take_add_one, List.getElem?_eq_getElem h, List.flatMap_append]; simp
  refine ⟨e, ?_⟩
  rw [← List.length_append, ← e]
  conv => rhs; rw [← List.take_append_drop (i + 1) L, List.flatMap_append, List.length_append]
  omega
set_option maxHeartbeats 16000000 in
theorem c_tellT {th : List In} {locs : Int} {vals : List Int} (hl : th.length ≤ maxLen) (h4 : ldN th ≤ 4) (h8 : vals.length ≤ 8) : ∀ (f : Nat) (v : List Int) (b : List Bool), v.length ≤ 4 → b.length ≤ 8 → meas v b < f → ∀ outs : List Rn, outs.length + (tellF th locs vals f v b).length ≤ 2000000 → SCX Tryz.prog 27 [.pv (.sl 1 (ints v)), .pv (.sl 1 (bls b)), .ptr (.ext 0) 0, .ptr (.ext 1) 0, .ptr (.ext 2) 0, .ptr (.ext 3) 0, .ptr (.ext 4) 0] [(.ext 0, some (.box 47 [.pv (.sl 6 (insL th))])), (.ext 1, some (.box 3 [I .i64 locs])), (.ext 2, some (.box 53 [.own (.ext 5)])), (.ext 3, some (.box 22 [.pv (.sl 1 (ints vals))])), (.ext 4, some (.box 88 [.fn 27 [] [.ptr (.ext 0) 0, .ptr (.ext 1) 0, .ptr (.ext 2) 0, .ptr (.ext 3) 0, .ptr (.ext 4) 0]])), ((.ext 5), some (.own 62 16 (trsL (outs))))] (.tup []) [(.ext 0, some (.box 47 [.pv (.sl 6 (insL th))])), (.ext 1, some (.box 3 [I .i64 locs])), (.ext 2, some (.box 53 [.own (.ext 5)])), (.ext 3, some (.box 22 [.pv (.sl 1 (ints vals))])), (.ext 4, some (.box 88 [.fn 27 [] [.ptr (.ext 0) 0, .ptr (.ext 1) 0, .ptr (.ext 2) 0, .ptr (.ext 3) 0, .ptr (.ext 4) 0]])), ((.ext 5), some (.own 62 16 (trsL (outs ++ tellF th locs vals f v b))))]
  | 0, v, b, _, _, hm, outs, hB => by omega
  | f + 1, v, b, hv, hb, hm, outs, hB => by
    have hR := c_Run (th := th) (locs := locs) (vals := v) (lucks := b) hl (by omega) (by omega)
    obtain ⟨w1, w2, w3⟩ := run_wants (th := th) (locs := locs) (vals := v) (lucks := b)
    have hK1 := c_CloneI (l := v) (by omega)
    have hK2 := c_CloneB (l := b) (by omega)
    have hIV : ∀ n, ldN th > v.length → ∀ outs : List Rn, outs.length + (tellF th locs vals f (v ++ [n]) b).length ≤ 2000000 → SCX Tryz.prog 27 [.pv (.sl 1 (ints v ++ [[C .i64 n]])), .pv (.sl 1 (bls b)), .ptr (.ext 0) 0, .ptr (.ext 1) 0, .ptr (.ext 2) 0, .ptr (.ext 3) 0, .ptr (.ext 4) 0] [(.ext 0, some (.box 47 [.pv (.sl 6 (insL th))])), (.ext 1, some (.box 3 [I .i64 locs])), (.ext 2, some (.box 53 [.own (.ext 5)])), (.ext 3, some (.box 22 [.pv (.sl 1 (ints vals))])), (.ext 4, some (.box 88 [.fn 27 [] [.ptr (.ext 0) 0, .ptr (.ext 1) 0, .ptr (.ext 2) 0, .ptr (.ext 3) 0, .ptr (.ext 4) 0]])), ((.ext 5), some (.own 62 16 (trsL (outs))))] (.tup []) [(.ext 0, some (.box 47 [.pv (.sl 6 (insL th))])), (.ext 1, some (.box 3 [I .i64 locs])), (.ext 2, some (.box 53 [.own (.ext 5)])), (.ext 3, some (.box 22 [.pv (.sl 1 (ints vals))])), (.ext 4, some (.box 88 [.fn 27 [] [.ptr (.ext 0) 0, .ptr (.ext 1) 0, .ptr (.ext 2) 0, .ptr (.ext 3) 0, .ptr (.ext 4) 0]])), ((.ext 5), some (.own 62 16 (trsL (outs ++ tellF th locs vals f (v ++ [n]) b))))] := fun n h outs hB => by
      have h1 := c_tellT hl h4 h8 f (v ++ [n]) b (by simp; omega) hb (by unfold meas at hm ⊢; simp; omega) outs hB
      have e : ints (v ++ [n]) = ints v ++ [[C .i64 n]] := by simp [ints]
      rw [e] at h1; exact h1
    have hIB : ∀ q, b.length < 8 → ∀ outs : List Rn, outs.length + (tellF th locs vals f v (b ++ [q])).length ≤ 2000000 → SCX Tryz.prog 27 [.pv (.sl 1 (ints v)), .pv (.sl 1 (bls b ++ [[bo q]])), .ptr (.ext 0) 0, .ptr (.ext 1) 0, .ptr (.ext 2) 0, .ptr (.ext 3) 0, .ptr (.ext 4) 0] [(.ext 0, some (.box 47 [.pv (.sl 6 (insL th))])), (.ext 1, some (.box 3 [I .i64 locs])), (.ext 2, some (.box 53 [.own (.ext 5)])), (.ext 3, some (.box 22 [.pv (.sl 1 (ints vals))])), (.ext 4, some (.box 88 [.fn 27 [] [.ptr (.ext 0) 0, .ptr (.ext 1) 0, .ptr (.ext 2) 0, .ptr (.ext 3) 0, .ptr (.ext 4) 0]])), ((.ext 5), some (.own 62 16 (trsL (outs))))] (.tup []) [(.ext 0, some (.box 47 [.pv (.sl 6 (insL th))])), (.ext 1, some (.box 3 [I .i64 locs])), (.ext 2, some (.box 53 [.own (.ext 5)])), (.ext 3, some (.box 22 [.pv (.sl 1 (ints vals))])), (.ext 4, some (.box 88 [.fn 27 [] [.ptr (.ext 0) 0, .ptr (.ext 1) 0, .ptr (.ext 2) 0, .ptr (.ext 3) 0, .ptr (.ext 4) 0]])), ((.ext 5), some (.own 62 16 (trsL (outs ++ tellF th locs vals f v (b ++ [q])))))] := fun q h outs hB => by
      have h1 := c_tellT hl h4 h8 f v (b ++ [q]) hv (by simp; omega) (by unfold meas at hm ⊢; simp; omega) outs hB
      have e : bls (b ++ [q]) = bls b ++ [[bo q]] := by simp [bls]
      rw [e] at h1; exact h1
    have hres : tellF th locs vals (f + 1) v b = if (runF th locs v b).more = 0 then [runF th locs v b] else if (runF th locs v b).more = 1 then vals.flatMap (fun n => tellF th locs vals f (v ++ [n]) b) else [true, false].flatMap (fun q => tellF th locs vals f v (b ++ [q])) := by
      rw [tellF]; simp
    rw [hres] at hB ⊢
    clear hres
    generalize runF th locs v b = R at *
    refine scx_of Tryz.func27 rfl rfl rfl (Nat.le_of_ble_eq_true rfl) ?_
    by_cases m0 : R.more = 0
    · rw [if_pos m0]
      rw [if_pos m0] at hB
      have hol : outs.length ≤ 2000000 := by omega
      repeat' (first
 | refine ar_end rfl ?_
 | refine ar_fin rfl ?_
 | refine ar_callV Tryz.call28 hR rfl rfl rfl rfl rfl (by simp; done) (by rfl) (by simp; done) ?_
 | refine ar_appO rfl rfl rfl rfl rfl (by simp; exact rfl) rfl (by simp; exact rfl) (by simp; exact rfl) (by simp; exact ⟨rfl, rfl⟩) rfl (by simp; exact rfl) (by simp; done) (by decide) (by simp [trsL_len, maxLen]; try omega) ?_
 | refine bq_norm ?_
 | exact ret_rens .normal (.inl rfl) [(.loc 26, .ext 5)] [.ext 0, .ext 1, .ext 2, .ext 3, .ext 4, .ext 5] (by simp; exact rfl) (by simp; exact rfl) rfl (by simp [trsL, m0]; fail_if_success (show _)) (by simp)
 | refine ar_go3 _ rfl (by simp [insL_len, insL_getE, inL, ints_len, ints_getE, bls_len, bls_getE, trsL_len, m0]; exact ⟨rfl, rfl, rfl⟩) rfl ?_
 | refine aw_sregK 0 [0, 1, 2, 3, 4, 5, 6] ?_
 | refine aw_sregK 1 [0, 1, 4, 5, 6, 9] ?_
 | refine aw_sregK 2 [0, 1, 4, 5, 6, 9, 20] ?_
 | refine aw_regK 3 [4, 9] ?_
 | refine aw_ifT (b := true) rfl rfl ?_
 | refine aw_block ?_)
    rw [if_neg m0]
    rw [if_neg m0] at hB
    by_cases m1 : R.more = 1
    · rw [if_pos m1]
      rw [if_pos m1] at hB
      have hlt := (w1 m1).1
      generalize hg : (fun n => tellF th locs vals f (v ++ [n]) b) = g at *
      have hgn : ∀ n, tellF th locs vals f (v ++ [n]) b = g n := fun n => by rw [← hg]
      simp only [hgn] at hIV
      clear hgn hg
      repeat' (first
 | refine ar_end rfl ?_
 | refine ar_callV Tryz.call28 hR rfl rfl rfl rfl rfl (by simp; done) (by rfl) (by simp; done) ?_
 | refine ar_go3 _ rfl (by simp [insL_len, insL_getE, inL, ints_len, ints_getE, bls_len, bls_getE, trsL_len, m0, m1]; exact ⟨rfl, rfl, rfl⟩) rfl ?_
 | refine aw_sregK 0 [0, 1, 2, 3, 4, 5, 6] ?_
 | refine aw_sregK 1 [0, 1, 4, 5, 6, 9] ?_
 | refine aw_sregK 2 [0, 1, 4, 5, 6, 9, 20] ?_
 | refine aw_sregK 4 [0, 1, 5, 6, 20] ?_
 | refine aw_sregK 5 [0, 1, 5, 6] ?_
 | refine aw_ifT (b := true) rfl rfl ?_
 | refine aw_ifF (b := false) rfl rfl ?_
 | refine aw_block ?_)
      refine aw_ren (.ext 5) (.loc 1000) (by simp; exact rfl) ?_
      refine aw_loopN [0, 1, 6, 29, 30, 31] [.ext 0, .ext 1, .ext 2, .ext 3, .ext 4, .loc 1000] (by simp; exact rfl) (ι := {i : Nat // i ≤ vals.length}) (fun i => ⟨61, [(0, .pv (.sl 1 (ints v))), (1, .pv (.sl 1 (bls b))), (6, .ptr (.ext 4) 0), (29, .pv (.sl 1 (ints vals))), (30, I .i64 vals.length), (31, I .i64 i.1)], [(.ext 0, some (.box 47 [.pv (.sl 6 (insL th))])), (.ext 1, some (.box 3 [I .i64 locs])), (.ext 2, some (.box 53 [.own (.loc 1000)])), (.ext 3, some (.box 22 [.pv (.sl 1 (ints vals))])), (.ext 4, some (.box 88 [.fn 27 [] [.ptr (.ext 0) 0, .ptr (.ext 1) 0, .ptr (.ext 2) 0, .ptr (.ext 3) 0, .ptr (.ext 4) 0]])), ((.loc 1000), some (.own 62 16 (trsL (outs ++ (vals.take i.1).flatMap g))))]⟩) (fun i => vals.length - i.1) ⟨0, by omega⟩ (by simp [ints_len]) ?_
      rintro ⟨i, hi⟩
      by_cases hil : i < vals.length
      · have hw : IntKind.wrap .i64 ((i : Int) + 1) = (i : Int) + 1 := wrap64s (by omega) (by omega)
        have hd : (i : Int) < (vals.length : Int) := by omega
        obtain ⟨hft, hfl⟩ := flat_take g hil
        generalize (vals.take i).flatMap g = F at *
        generalize hx : vals[i] = x at *
        have hT2 := hIV x hlt (outs ++ F) (by rw [List.length_append]; omega)
        generalize g x = G at *
        repeat' (first
 | refine ar_end rfl ?_
 | refine ar_endD rfl (by kernel_rfl) ?_
 | refine ar_fin rfl ?_
 | refine ar_callO Tryz.call24 hK1 rfl rfl rfl rfl (by simp; exact rfl) rfl (by simp; done) (by rfl) rfl ?_
 | refine ar_appO rfl rfl rfl rfl rfl (by simp; exact rfl) rfl (by simp; exact rfl) (by simp; exact rfl) (by simp; exact ⟨rfl, rfl⟩) rfl (by simp; exact rfl) (by simp; done) (by decide) (by simp [ints_len, maxLen]; try omega) ?_
 | refine ar_frzE [40] [.ext 0, .ext 1, .ext 2, .ext 3, .ext 4, .loc 1000] [.ext 0, .ext 1, .ext 2, .ext 3, .ext 4, .loc 42] [.loc 42] Tryz.call27 hT2 rfl rfl rfl rfl (by simp; exact rfl) (by simp; exact rfl) rfl (by simp; done) (by rfl) (by simp; fail_if_success (show _)) rfl ⟨by simp, by simp, (by simp [okY]; fail_if_success (show _)), by simp, by simp⟩ (by simp; fail_if_success (show _)) (by simp; done) ?_
 | refine lq_normR (.loc 42) (.loc 1000) [0, 1, 6, 29, 30, 31] [.ext 0, .ext 1, .ext 2, .ext 3, .ext 4, .loc 1000] (by simp; exact rfl) ⟨i + 1, by omega⟩ (by dsimp only; omega) (by simp [hft])
 | refine ar_go3 _ rfl (by simp [insL_len, insL_getE, inL, ints_len, ints_getE, bls_len, bls_getE, trsL_len, hil, hd, hx, hw]; exact ⟨rfl, rfl, rfl⟩) rfl ?_
 | refine aw_sregK 6 [0, 1, 6, 29, 30, 31] ?_
 | refine aw_sregK 7 [0, 1, 6, 29, 30, 31] ?_
 | refine aw_regKD mixed 8 [0, 1, 6, 11, 29, 30, 31] (by simp; exact rfl) ?_
 | refine aw_regK 9 [0, 1, 6, 29, 30, 31] ?_
 | refine aw_ifT (b := true) rfl rfl ?_
 | refine aw_seq ?_
 | refine aw_block ?_
 | refine aw_skip ?_)
      · have hd : ¬(i : Int) < (vals.length : Int) := by omega
        have hie : vals.take i = vals := List.take_of_length_le (by omega)
        rw [hie]
        repeat' (first
 | refine ar_end rfl ?_
 | exact ret_rens .normal (.inl rfl) [(.loc 1000, .ext 5)] [.ext 0, .ext 1, .ext 2, .ext 3, .ext 4, .ext 5] (by simp; exact rfl) (by simp; exact rfl) rfl (by simp []; fail_if_success (show _)) (by simp)
 | refine ar_go3 _ rfl (by simp [insL_len, insL_getE, inL, ints_len, ints_getE, bls_len, bls_getE, trsL_len, hd]; exact ⟨rfl, rfl, rfl⟩) rfl ?_
 | refine aw_sregK 6 [0, 1, 6, 29, 30, 31] ?_
 | refine aw_ifF (b := false) rfl rfl ?_
 | refine aw_seq ?_
 | refine aw_exit ?_)
    · rw [if_neg m1]
      rw [if_neg m1] at hB
      have m2 : R.more = 2 := by omega
      have hlt := w2 m2
      generalize hg : (fun q => tellF th locs vals f v (b ++ [q])) = g at *
      have hgn : ∀ q, tellF th locs vals f v (b ++ [q]) = g q := fun q => by rw [← hg]
      simp only [hgn] at hIB
      clear hgn hg
      generalize hLL : [true, false] = LL at *
      have hL2 : LL.length = 2 := by rw [← hLL]; rfl
      repeat' (first
 | refine ar_end rfl ?_
 | refine ar_callV Tryz.call28 hR rfl rfl rfl rfl rfl (by simp; done) (by rfl) (by simp; done) ?_
 | refine ar_go3 _ rfl (by simp [insL_len, insL_getE, inL, ints_len, ints_getE, bls_len, bls_getE, trsL_len, m0, m1, m2]; exact ⟨rfl, rfl, rfl⟩) rfl ?_
 | refine aw_sregK 0 [0, 1, 2, 3, 4, 5, 6] ?_
 | refine aw_sregK 1 [0, 1, 4, 5, 6, 9] ?_
 | refine aw_sregK 2 [0, 1, 4, 5, 6, 9, 20] ?_
 | refine aw_sregK 4 [0, 1, 5, 6, 20] ?_
 | refine aw_sregK 10 [0, 1, 6, 20] ?_
 | refine aw_sregK 11 [0, 1, 6] ?_
 | refine aw_ifT (b := true) rfl rfl ?_
 | refine aw_ifF (b := false) rfl rfl ?_
 | refine aw_block ?_)
      refine aw_ren (.ext 5) (.loc 1000) (by simp; exact rfl) ?_
      refine aw_frz (.loc 46) (by simp; exact rfl) ?_
      refine aw_loopN [0, 1, 6, 46, 47, 48] [.ext 0, .ext 1, .ext 2, .ext 3, .ext 4, .loc 1000] (by simp; exact rfl) (ι := {i : Nat // i ≤ 2}) (fun i => ⟨61, [(0, .pv (.sl 1 (ints v))), (1, .pv (.sl 1 (bls b))), (6, .ptr (.ext 4) 0), (46, .pv (.sl 1 (bls LL))), (47, I .i64 2), (48, I .i64 i.1)], [(.ext 0, some (.box 47 [.pv (.sl 6 (insL th))])), (.ext 1, some (.box 3 [I .i64 locs])), (.ext 2, some (.box 53 [.own (.loc 1000)])), (.ext 3, some (.box 22 [.pv (.sl 1 (ints vals))])), (.ext 4, some (.box 88 [.fn 27 [] [.ptr (.ext 0) 0, .ptr (.ext 1) 0, .ptr (.ext 2) 0, .ptr (.ext 3) 0, .ptr (.ext 4) 0]])), ((.loc 1000), some (.own 62 16 (trsL (outs ++ (LL.take i.1).flatMap g))))]⟩) (fun i => 2 - i.1) ⟨0, by omega⟩ (by simp [← hLL, bls]) ?_
      rintro ⟨i, hi⟩
      by_cases hil : i < LL.length
      · have hw : IntKind.wrap .i64 ((i : Int) + 1) = (i : Int) + 1 := wrap64s (by omega) (by omega)
        have hd : (i : Int) < 2 := by omega
        obtain ⟨hft, hfl⟩ := flat_take g hil
        generalize (LL.take i).flatMap g = F at *
        generalize hx : LL[i] = x at *
        have hT2 := hIB x hlt (outs ++ F) (by rw [List.length_append]; omega)
        generalize g x = G at *
        repeat' (first
 | refine ar_end rfl ?_
 | refine ar_endD rfl (by kernel_rfl) ?_
 | refine ar_fin rfl ?_
 | refine ar_callO Tryz.call29 hK2 rfl rfl rfl rfl (by simp; exact rfl) rfl (by simp; done) (by rfl) rfl ?_
 | refine ar_appO rfl rfl rfl rfl rfl (by simp; exact rfl) rfl (by simp; exact rfl) (by simp; exact rfl) (by simp; exact ⟨rfl, rfl⟩) rfl (by simp; exact rfl) (by simp; done) (by decide) (by simp [bls_len, maxLen]; try omega) ?_
 | refine ar_frzE [58] [.ext 0, .ext 1, .ext 2, .ext 3, .ext 4, .loc 1000] [.ext 0, .ext 1, .ext 2, .ext 3, .ext 4, .loc 59] [.loc 59] Tryz.call27 hT2 rfl rfl rfl rfl (by simp; exact rfl) (by simp; exact rfl) rfl (by simp; done) (by rfl) (by simp; fail_if_success (show _)) rfl ⟨by simp, by simp, (by simp [okY]; fail_if_success (show _)), by simp, by simp⟩ (by simp; fail_if_success (show _)) (by simp; done) ?_
 | refine lq_normR (.loc 59) (.loc 1000) [0, 1, 6, 46, 47, 48] [.ext 0, .ext 1, .ext 2, .ext 3, .ext 4, .loc 1000] (by simp; exact rfl) ⟨i + 1, by omega⟩ (by dsimp only; omega) (by simp [hft])
 | refine ar_go3 _ rfl (by simp [insL_len, insL_getE, inL, ints_len, ints_getE, bls_len, bls_getE, trsL_len, hil, hd, hx, hw]; exact ⟨rfl, rfl, rfl⟩) rfl ?_
 | refine aw_sregK 12 [0, 1, 6, 46, 47, 48] ?_
 | refine aw_sregK 13 [0, 1, 6, 46, 47, 48] ?_
 | refine aw_regKD mixed 14 [0, 1, 6, 13, 46, 47, 48] (by simp; exact rfl) ?_
 | refine aw_regK 15 [0, 1, 6, 46, 47, 48] ?_
 | refine aw_ifT (b := true) rfl rfl ?_
 | refine aw_seq ?_
 | refine aw_block ?_
 | refine aw_skip ?_)
      · have hd : ¬(i : Int) < 2 := by omega
        have hie : LL.take i = LL := List.take_of_length_le (by omega)
        rw [hie]
        repeat' (first
 | refine ar_end rfl ?_
 | exact ret_rens .normal (.inl rfl) [(.loc 1000, .ext 5)] [.ext 0, .ext 1, .ext 2, .ext 3, .ext 4, .ext 5] (by simp; exact rfl) (by simp; exact rfl) rfl (by simp []; fail_if_success (show _)) (by simp)
 | refine ar_go3 _ rfl (by simp [insL_len, insL_getE, inL, ints_len, ints_getE, bls_len, bls_getE, trsL_len, hd]; exact ⟨rfl, rfl, rfl⟩) rfl ?_
 | refine aw_sregK 12 [0, 1, 6, 46, 47, 48] ?_
 | refine aw_ifF (b := false) rfl rfl ?_
 | refine aw_seq ?_
 | refine aw_exit ?_)
set_option maxHeartbeats 16000000 in
theorem c_tellT0 {th : List In} {locs : Int} {vals : List Int} (hl : th.length ≤ maxLen) (h4 : ldN th ≤ 4) (h8 : vals.length ≤ 8) : SCX Tryz.prog 27 [.pv (.v (.slice none 0 0)), .pv (.v (.slice none 0 0)), .ptr (.ext 0) 0, .ptr (.ext 1) 0, .ptr (.ext 2) 0, .ptr (.ext 3) 0, .ptr (.ext 4) 0] [(.ext 0, some (.box 47 [.pv (.sl 6 (insL th))])), (.ext 1, some (.box 3 [I .i64 locs])), (.ext 2, some (.box 53 [.pv (.v (.slice none 0 0))])), (.ext 3, some (.box 22 [.pv (.sl 1 (ints vals))])), (.ext 4, some (.box 88 [.fn 27 [] [.ptr (.ext 0) 0, .ptr (.ext 1) 0, .ptr (.ext 2) 0, .ptr (.ext 3) 0, .ptr (.ext 4) 0]]))] (.tup []) [(.ext 0, some (.box 47 [.pv (.sl 6 (insL th))])), (.ext 1, some (.box 3 [I .i64 locs])), (.ext 2, some (.box 53 [.own (.ext 5)])), (.ext 3, some (.box 22 [.pv (.sl 1 (ints vals))])), (.ext 4, some (.box 88 [.fn 27 [] [.ptr (.ext 0) 0, .ptr (.ext 1) 0, .ptr (.ext 2) 0, .ptr (.ext 3) 0, .ptr (.ext 4) 0]])), ((.ext 5), some (.own 62 16 (trsL (tellF th locs vals 13 [] []))))] := by
  have hb := tell_len (locs := locs) h4 h8 13 [] []
  have h := c_tellT (locs := locs) hl h4 h8 13 [] [] (by simp) (by simp) (by decide) [] (by simp at hb ⊢; omega)
  rw [List.nil_append] at h
  refine SCX.pre (args' := [.pv (.sl 1 (ints [])), .pv (.sl 1 (bls [])), .ptr (.ext 0) 0, .ptr (.ext 1) 0, .ptr (.ext 2) 0, .ptr (.ext 3) 0, .ptr (.ext 4) 0]) ?_ rfl h
  refine (Sub.nilSl _ 0 1).trans ((Sub.nilSl _ 1 1).trans ((Sub.ownNilC _ (.ext 2) 0 (.ext 5) 62 16).trans (Sub.of ?_ (fun p hp => ?_) (fun p hp => ?_))))
  · simp [AState.nilSl, AState.ownNilC, isNilV, ints, bls, trsL]
  · simp [AState.nilSl, AState.ownNilC, isNilV, ints, bls, trsL] at hp ⊢
    rcases hp with rfl | rfl | rfl | rfl | rfl | rfl | rfl <;> simp
  · simp [AState.nilSl, AState.ownNilC, isNilV, ints, bls, trsL] at hp ⊢
    rcases hp with rfl | rfl | rfl | rfl | rfl | rfl <;> simp
set_option maxHeartbeats 16000000 in
theorem c_Traces {th : List In} {locs : Int} {vals : List Int} (hl : th.length ≤ maxLen) (h8 : vals.length ≤ 8) : SC Tryz.prog 12 [.pv (.sl 6 (insL th)), I .i64 locs, .pv (.sl 1 (ints vals))] (.pv (.sl 16 (trsL (tracesF th locs vals)))) := by
  have hN := c_loads (th := th) hl
  unfold tracesF
  by_cases h4 : 4 < ldN th
  · rw [if_pos h4]
    have h4' : (4 : Int) < (ldN th : Int) := by omega
    refine scx_of Tryz.func12 rfl rfl rfl (Nat.le_of_ble_eq_true rfl) ?_
    repeat' (first
 | refine ar_end rfl ?_
 | refine ar_callV Tryz.call26 hN rfl rfl rfl rfl rfl (by simp; done) (by rfl) (by simp; done) ?_
 | exact aw_ret (ret_nil 6 16 (by simp; exact rfl) (by simp [trsL]; fail_if_success (show _)))
 | refine ar_go3 _ rfl (by simp [insL_len, insL_getE, inL, ints_len, ints_getE, bls_len, bls_getE, trsL_len, h4']; exact ⟨rfl, rfl, rfl⟩) rfl ?_
 | refine aw_sregK 0 [0, 1, 2] ?_
 | refine aw_sregK 1 [3, 4, 5] ?_
 | refine aw_sregK 2 [] ?_
 | refine aw_ifT (b := true) rfl rfl ?_
 | refine aw_seq ?_)
  · rw [if_neg h4]
    have h4' : ¬(4 : Int) < (ldN th : Int) := by omega
    have hT := c_tellT0 (locs := locs) hl (by omega) h8
    generalize tellF th locs vals 13 [] [] = W at *
    refine scx_of Tryz.func12 rfl rfl rfl (Nat.le_of_ble_eq_true rfl) ?_
    repeat' (first
 | refine ar_end rfl ?_
 | refine ar_callV Tryz.call26 hN rfl rfl rfl rfl rfl (by simp; done) (by rfl) (by simp; done) ?_
 | refine ar_callE [.loc 3, .loc 4, .loc 7, .loc 5, .loc 8] [.loc 3, .loc 4, .loc 7, .loc 5, .loc 8, .loc 14] [.loc 14] Tryz.call27 hT rfl rfl rfl rfl (by simp; exact rfl) rfl (by simp; done) (by rfl) (by simp; fail_if_success (show _)) rfl ⟨by simp, by simp, (by simp [okY]; fail_if_success (show _)), by simp, by simp⟩ (by simp; fail_if_success (show _)) ?_
 | exact aw_ret (ret_frz (.loc 14) (by simp; exact rfl) (by simp; fail_if_success (show _)))
 | refine ar_go3 _ rfl (by simp [insL_len, insL_getE, inL, ints_len, ints_getE, bls_len, bls_getE, trsL_len, h4']; exact ⟨rfl, rfl, rfl⟩) rfl ?_
 | refine aw_sregK 0 [0, 1, 2] ?_
 | refine aw_sregK 1 [3, 4, 5] ?_
 | refine aw_sregK 3 [3, 4, 5] ?_
 | refine aw_sregK 4 [3, 4, 5, 7] ?_
 | refine aw_sregK 5 [3, 4, 5, 7, 8] ?_
 | refine aw_sregK 6 [7, 8] ?_
 | refine aw_sregK 7 [7] ?_
 | refine aw_ifF (b := false) rfl rfl ?_
 | refine aw_seq ?_
 | refine aw_skip ?_)
end Go.Eng
