import Derived.Test.YtjijfghchcnbnaaDoorCondG
import Derived.Test.YtjijfghchcnbnaaDoorEngF
set_option linter.unusedSimpArgs false
set_option linter.unusedVariables false
set_option linter.constructorNameAsVariable false
set_option autoImplicit false
namespace Go.Eng
open Go Go.RowKit Go.Proofs
/-! ## The figures of a number -/
theorem txt_one {x : Int} {b : UInt8} (h : UInt8.ofNat x.toNat = b) : txtOf [x] = sb [b] := by
  subst h; rfl
theorem dec_small {n : Nat} (h : n < 10) : Lib.decDigits n = [UInt8.ofNat (48 + n)] := by rw [Lib.decDigits, dif_pos h]
theorem dec_more {n : Nat} (h : ¬n < 10) : Lib.decDigits n = Lib.decDigits (n / 10) ++ [UInt8.ofNat (48 + n % 10)] := by rw [Lib.decDigits, dif_neg h]
theorem fig_neg {n : Int} (h : -10 < n) (h0 : n < 0) : ∃ d : List UInt8, txtOf [48 - n] = sb d ∧ d.length = 1 ∧ itoaF n = 45 :: d := by
  refine ⟨[UInt8.ofNat (48 + n.natAbs)], txt_one (by congr 1; omega), rfl, ?_⟩
  unfold itoaF Lib.itoa
  rw [if_pos h0, dec_small (by omega)]
theorem fig_pos {n : Int} (h : n < 10) (h0 : 0 ≤ n) : ∃ d : List UInt8, txtOf [48 + n] = sb d ∧ d.length = 1 ∧ itoaF n = d := by
  refine ⟨[UInt8.ofNat (48 + n.toNat)], txt_one (by congr 1; omega), rfl, ?_⟩
  unfold itoaF Lib.itoa
  rw [if_neg (by omega), dec_small (by omega)]
theorem wrap8 {n : Int} (h0 : 0 ≤ n) (h1 : n ≤ 255) : IntKind.wrap .u8 n = n := by
  have hz : IntKind.wrap .u8 n = n % 256 := by simp [IntKind.wrap, IntKind.bits, IntKind.signed]
  rw [hz]; omega
theorem quo_neg {m : Int} : (-m).tdiv 10 = -(m.tdiv 10) := Int.neg_tdiv ..
theorem rem_neg {m : Int} : (-m).tmod 10 = -(m.tmod 10) := Int.neg_tmod ..
theorem quo_abs (n : Int) : (n.tdiv 10).natAbs = n.natAbs / 10 ∧ (n.tmod 10).natAbs = n.natAbs % 10 ∧ (0 ≤ n → 0 ≤ n.tdiv 10 ∧ 0 ≤ n.tmod 10) ∧ (n ≤ 0 → n.tdiv 10 ≤ 0 ∧ n.tmod 10 ≤ 0) := by
  rcases Int.le_total 0 n with h | h
  · have h1 := Int.tdiv_eq_ediv_of_nonneg (b := 10) h
    have h2 := Int.tmod_eq_emod_of_nonneg (b := 10) h
    rw [h1, h2]; omega
  · obtain ⟨m, rfl⟩ : ∃ m, n = -m := ⟨-n, by omega⟩
    have h1 := Int.tdiv_eq_ediv_of_nonneg (a := m) (b := 10) (by omega)
    have h2 := Int.tmod_eq_emod_of_nonneg (a := m) (b := 10) (by omega)
    rw [quo_neg, rem_neg, h1, h2]; omega
theorem fig_more {n : Int} (h : n ≤ -10 ∨ 10 ≤ n) : ∃ d : List UInt8, txtOf [48 + (n.tmod 10).natAbs] = sb d ∧ d.length = 1 ∧ itoaF n = itoaF (n.tdiv 10) ++ d := by
  obtain ⟨q1, q2, q3, q4⟩ := quo_abs n
  refine ⟨[UInt8.ofNat (48 + n.natAbs % 10)], txt_one (by congr 1; omega), rfl, ?_⟩
  unfold itoaF Lib.itoa
  rcases h with h | h
  · have := q4 (by omega)
    rw [if_pos (by omega), if_pos (by omega), q1, dec_more (n := n.natAbs) (by omega)]; rfl
  · have := q3 (by omega)
    rw [if_neg (by omega), if_neg (by omega), dec_more (n := n.toNat) (by omega)]
    congr 2
    · congr 1; omega
    · congr 2; omega
end Go.Eng
set_option linter.unusedSimpArgs false
set_option linter.unusedVariables false
set_option linter.constructorNameAsVariable false
set_option autoImplicit false
namespace Go.Eng
open Go Go.RowKit Go.Proofs
set_option maxHeartbeats 16000000 in
theorem c_fig [Trk] : ∀ (k : Nat) {n : Int}, n.natAbs < k → W64 n → SC Tryd.prog 56 [I .i64 n] (S (itoaF n)) := by
  intro k
  induction k with
  | zero => intro n h _; omega
  | succ k ih =>
  intro n hk hw
  have hw' := w64 hw
  have h : True := trivial
  by_cases h1 : -10 < n
  · by_cases h2 : n < 10
    · by_cases h0 : n < 0
      · obtain ⟨d, hd, hl, hr⟩ := fig_neg h1 h0
        rw [hr]
        have w1 : IntKind.wrap .i64 (48 - n) = 48 - n := wrap64s (by omega) (by omega)
        have w2 : IntKind.wrap .u8 (48 - n) = 48 - n := wrap8 (by omega) (by omega)
        refine scx_of Tryd.func56 rfl rfl rfl (Nat.le_of_ble_eq_true rfl) ?_
        repeat' (first
          | exact aw_ret (ret_vals (by simp; exact rfl) (by simp [hd, hl, sb_lit, sb_app]; fail_if_success (show _)))
          | exact aw_ret (ret_vals (by simp; exact rfl) (by simp [hd, hl, sb_lit, sb_app]; omega))
          | refine ar_end rfl ?_
          | refine ar_endD rfl (by kernel_rfl) ?_
          | refine ar_fin rfl ?_
          | refine ar_finD rfl (by kernel_rfl) ?_
          | refine ar_convB [48 - n] rfl rfl rfl rfl (by simp; done) Tryd.underlying86 Tryd.underlying5 Tryd.underlying9 (by simp [u8L, w1, w2]; done) ?_
          | refine ar_go3 _ rfl (by simp [sb_lit, sb_app, sb_size, hd, hl, h1, h2, h0, w1, w2]; exact ⟨rfl, rfl, rfl⟩) rfl ?_
          | refine aw_sregK 0 [0] ?_
          | refine aw_regK 0 [0] ?_
          | refine aw_sregK 1 [0] ?_
          | refine aw_regK 1 [0] ?_
          | refine aw_sregK 2 [0] ?_
          | refine aw_regK 2 [0] ?_
          | refine aw_sregK 3 [0] ?_
          | refine aw_regK 3 [0] ?_
          | refine aw_sreg ?_
          | refine aw_sregD mixed ?_
          | refine aw_ifT (b := true) rfl rfl ?_
          | refine aw_ifF (b := false) rfl rfl ?_
          | refine aw_ifT rfl (by assumption) ?_
          | refine aw_ifF rfl (by assumption) ?_
          | refine aw_ifT rfl (decide_eq_true (by assumption)) ?_
          | refine aw_ifF rfl (decide_eq_false (by assumption)) ?_
          | refine aw_seq ?_
          | refine aw_block ?_
          | refine aw_skip ?_
          | refine aw_region ?_
          | refine aw_region_draw mixed ?_
          | refine aw_exit ?_
          | refine rq_exit ?_
          | refine blockQ_hit ?_
          | refine blockQ_miss (by decide) ?_)
      · obtain ⟨d, hd, hl, hr⟩ := fig_pos h2 (by omega)
        rw [hr]
        have w1 : IntKind.wrap .i64 (48 + n) = 48 + n := wrap64s (by omega) (by omega)
        have w2 : IntKind.wrap .u8 (48 + n) = 48 + n := wrap8 (by omega) (by omega)
        refine scx_of Tryd.func56 rfl rfl rfl (Nat.le_of_ble_eq_true rfl) ?_
        repeat' (first
          | exact aw_ret (ret_vals (by simp; exact rfl) (by simp [hd, hl, sb_lit, sb_app]; fail_if_success (show _)))
          | exact aw_ret (ret_vals (by simp; exact rfl) (by simp [hd, hl, sb_lit, sb_app]; omega))
          | refine ar_end rfl ?_
          | refine ar_endD rfl (by kernel_rfl) ?_
          | refine ar_fin rfl ?_
          | refine ar_finD rfl (by kernel_rfl) ?_
          | refine ar_convB [48 + n] rfl rfl rfl rfl (by simp; done) Tryd.underlying86 Tryd.underlying5 Tryd.underlying9 (by simp [u8L, w1, w2]; done) ?_
          | refine ar_go3 _ rfl (by simp [sb_lit, sb_app, sb_size, hd, hl, h1, h2, h0, w1, w2]; exact ⟨rfl, rfl, rfl⟩) rfl ?_
          | refine aw_sregK 0 [0] ?_
          | refine aw_regK 0 [0] ?_
          | refine aw_sregK 1 [0] ?_
          | refine aw_regK 1 [0] ?_
          | refine aw_sregK 2 [0] ?_
          | refine aw_regK 2 [0] ?_
          | refine aw_sregK 4 [0] ?_
          | refine aw_regK 4 [0] ?_
          | refine aw_sreg ?_
          | refine aw_sregD mixed ?_
          | refine aw_ifT (b := true) rfl rfl ?_
          | refine aw_ifF (b := false) rfl rfl ?_
          | refine aw_ifT rfl (by assumption) ?_
          | refine aw_ifF rfl (by assumption) ?_
          | refine aw_ifT rfl (decide_eq_true (by assumption)) ?_
          | refine aw_ifF rfl (decide_eq_false (by assumption)) ?_
          | refine aw_seq ?_
          | refine aw_block ?_
          | refine aw_skip ?_
          | refine aw_region ?_
          | refine aw_region_draw mixed ?_
          | refine aw_exit ?_
          | refine rq_exit ?_
          | refine blockQ_hit ?_
          | refine blockQ_miss (by decide) ?_)
    · have hq := quo_abs n
      obtain ⟨d, hd, hl, hr⟩ := fig_more (n := n) (by omega)
      rw [hr]
      have hR := ih (n := n.tdiv 10) (by omega) (by unfold W64; simp [Lit.wf, IntKind.min, IntKind.max, IntKind.signed, IntKind.bits]; omega)
      have hil := itoa_len (n := n.tdiv 10) (by unfold W64; simp [Lit.wf, IntKind.min, IntKind.max, IntKind.signed, IntKind.bits]; omega)
      have w0 : IntKind.wrap .i64 (n.tdiv 10) = n.tdiv 10 := wrap64s (by omega) (by omega)
      have hm0 : ¬n.tmod 10 < 0 := by omega
      have hma : ((n.tmod 10).natAbs : Int) = n.tmod 10 := by omega
      rw [hma] at hd
      generalize hr0 : n.tmod 10 = r at *
      generalize hq0 : n.tdiv 10 = q at *
      generalize itoaF q = s at *
      have w1 : IntKind.wrap .i64 (48 + r) = 48 + r := wrap64s (by omega) (by omega)
      have w2 : IntKind.wrap .u8 (48 + r) = 48 + r := wrap8 (by omega) (by omega)
      have hb : s.length + 1 ≤ 9223372036854775807 := by omega
      refine scx_of Tryd.func56 rfl rfl rfl (Nat.le_of_ble_eq_true rfl) ?_
      repeat' (first
        | exact aw_ret (ret_vals (by simp; exact rfl) (by simp [hd, hl, sb_lit, sb_app]; fail_if_success (show _)))
        | exact aw_ret (ret_vals (by simp; exact rfl) (by simp [hd, hl, sb_lit, sb_app]; omega))
        | refine ar_end rfl ?_
        | refine ar_endD rfl (by kernel_rfl) ?_
        | refine ar_fin rfl ?_
        | refine ar_finD rfl (by kernel_rfl) ?_
        | refine ar_callV Tryd.call56 hR rfl rfl rfl rfl rfl (by simp; done) (by rfl) (by simp; done) ?_
        | refine ar_callV_if Tryd.call56 hR rfl rfl rfl rfl rfl rfl (by simp; done) rfl (by rfl) (by simp; done) ?_
        | refine ar_convB [48 + r] rfl rfl rfl rfl (by simp; done) Tryd.underlying86 Tryd.underlying5 Tryd.underlying9 (by simp [u8L, w1, w2]; done) ?_
        | refine ar_go3 _ rfl (by simp [sb_lit, sb_app, sb_size, hd, hl, hr0, hq0, h1, h2, hm0, w0, w1, w2, hb]; exact ⟨rfl, rfl, rfl⟩) rfl ?_
        | refine aw_sregK 0 [0] ?_
        | refine aw_regK 0 [0] ?_
        | refine aw_sregK 1 [0] ?_
        | refine aw_regK 1 [0] ?_
        | refine aw_sregK 5 [0] ?_
        | refine aw_regK 5 [0] ?_
        | refine aw_sregK 6 [0, 3] ?_
        | refine aw_regK 6 [0, 3] ?_
        | refine aw_sregK 7 [0, 3] ?_
        | refine aw_regK 7 [0, 3] ?_
        | refine aw_sregKD mixed 8 [0, 3] (by simp; exact rfl) ?_
        | refine aw_regKD mixed 8 [0, 3] (by simp; exact rfl) ?_
        | refine aw_sreg ?_
        | refine aw_sregD mixed ?_
        | refine aw_ifT (b := true) rfl rfl ?_
        | refine aw_ifF (b := false) rfl rfl ?_
        | refine aw_ifT rfl (by assumption) ?_
        | refine aw_ifF rfl (by assumption) ?_
        | refine aw_ifT rfl (decide_eq_true (by assumption)) ?_
        | refine aw_ifF rfl (decide_eq_false (by assumption)) ?_
        | refine aw_seq ?_
        | refine aw_block ?_
        | refine aw_skip ?_
        | refine aw_region ?_
        | refine aw_region_draw mixed ?_
        | refine aw_exit ?_
        | refine rq_exit ?_
        | refine blockQ_hit ?_
        | refine blockQ_miss (by decide) ?_)
  · have hq := quo_abs n
    obtain ⟨d, hd, hl, hr⟩ := fig_more (n := n) (by omega)
    rw [hr]
    have hR := ih (n := n.tdiv 10) (by omega) (by unfold W64; simp [Lit.wf, IntKind.min, IntKind.max, IntKind.signed, IntKind.bits]; omega)
    have hil := itoa_len (n := n.tdiv 10) (by unfold W64; simp [Lit.wf, IntKind.min, IntKind.max, IntKind.signed, IntKind.bits]; omega)
    have w0 : IntKind.wrap .i64 (n.tdiv 10) = n.tdiv 10 := wrap64s (by omega) (by omega)
    generalize hr0 : n.tmod 10 = r at *
    generalize hq0 : n.tdiv 10 = q at *
    generalize itoaF q = s at *
    have hb : s.length + 1 ≤ 9223372036854775807 := by omega
    by_cases hm0 : r < 0
    · have hma : ((r.natAbs : Nat) : Int) = -r := by omega
      rw [hma] at hd
      have w3 : IntKind.wrap .i64 (-r) = -r := wrap64s (by omega) (by omega)
      have w1 : IntKind.wrap .i64 (48 + -r) = 48 + -r := wrap64s (by omega) (by omega)
      have w2 : IntKind.wrap .u8 (48 + -r) = 48 + -r := wrap8 (by omega) (by omega)
      refine scx_of Tryd.func56 rfl rfl rfl (Nat.le_of_ble_eq_true rfl) ?_
      repeat' (first
        | exact aw_ret (ret_vals (by simp; exact rfl) (by simp [hd, hl, sb_lit, sb_app]; fail_if_success (show _)))
        | exact aw_ret (ret_vals (by simp; exact rfl) (by simp [hd, hl, sb_lit, sb_app]; omega))
        | refine ar_end rfl ?_
        | refine ar_endD rfl (by kernel_rfl) ?_
        | refine ar_fin rfl ?_
        | refine ar_finD rfl (by kernel_rfl) ?_
        | refine ar_callV Tryd.call56 hR rfl rfl rfl rfl rfl (by simp; done) (by rfl) (by simp; done) ?_
        | refine ar_callV_if Tryd.call56 hR rfl rfl rfl rfl rfl rfl (by simp; done) rfl (by rfl) (by simp; done) ?_
        | refine ar_convB [48 + -r] rfl rfl rfl rfl (by simp; done) Tryd.underlying86 Tryd.underlying5 Tryd.underlying9 (by simp [u8L, w1, w2, w3]; done) ?_
        | refine ar_neg rfl rfl rfl rfl (by simp; done) (by rfl) w3 ?_
        | refine ar_go3 _ rfl (by simp [sb_lit, sb_app, sb_size, hd, hl, hr0, hq0, h1, hm0, w0, w1, w2, w3, hb]; exact ⟨rfl, rfl, rfl⟩) rfl ?_
        | refine aw_sregK 0 [0] ?_
        | refine aw_regK 0 [0] ?_
        | refine aw_sregK 1 [0] ?_
        | refine aw_regK 1 [0] ?_
        | refine aw_sregK 5 [0] ?_
        | refine aw_regK 5 [0] ?_
        | refine aw_sregK 6 [0, 3] ?_
        | refine aw_regK 6 [0, 3] ?_
        | refine aw_sregK 7 [0, 3] ?_
        | refine aw_regK 7 [0, 3] ?_
        | refine aw_sregKD mixed 8 [0, 3] (by simp; exact rfl) ?_
        | refine aw_regKD mixed 8 [0, 3] (by simp; exact rfl) ?_
        | refine aw_sreg ?_
        | refine aw_sregD mixed ?_
        | refine aw_ifT (b := true) rfl rfl ?_
        | refine aw_ifF (b := false) rfl rfl ?_
        | refine aw_ifT rfl (by assumption) ?_
        | refine aw_ifF rfl (by assumption) ?_
        | refine aw_ifT rfl (decide_eq_true (by assumption)) ?_
        | refine aw_ifF rfl (decide_eq_false (by assumption)) ?_
        | refine aw_seq ?_
        | refine aw_block ?_
        | refine aw_skip ?_
        | refine aw_region ?_
        | refine aw_region_draw mixed ?_
        | refine aw_exit ?_
        | refine rq_exit ?_
        | refine blockQ_hit ?_
        | refine blockQ_miss (by decide) ?_)
    · have hma : ((r.natAbs : Nat) : Int) = r := by omega
      rw [hma] at hd
      have w1 : IntKind.wrap .i64 (48 + r) = 48 + r := wrap64s (by omega) (by omega)
      have w2 : IntKind.wrap .u8 (48 + r) = 48 + r := wrap8 (by omega) (by omega)
      refine scx_of Tryd.func56 rfl rfl rfl (Nat.le_of_ble_eq_true rfl) ?_
      repeat' (first
        | exact aw_ret (ret_vals (by simp; exact rfl) (by simp [hd, hl, sb_lit, sb_app]; fail_if_success (show _)))
        | exact aw_ret (ret_vals (by simp; exact rfl) (by simp [hd, hl, sb_lit, sb_app]; omega))
        | refine ar_end rfl ?_
        | refine ar_endD rfl (by kernel_rfl) ?_
        | refine ar_fin rfl ?_
        | refine ar_finD rfl (by kernel_rfl) ?_
        | refine ar_callV Tryd.call56 hR rfl rfl rfl rfl rfl (by simp; done) (by rfl) (by simp; done) ?_
        | refine ar_callV_if Tryd.call56 hR rfl rfl rfl rfl rfl rfl (by simp; done) rfl (by rfl) (by simp; done) ?_
        | refine ar_convB [48 + r] rfl rfl rfl rfl (by simp; done) Tryd.underlying86 Tryd.underlying5 Tryd.underlying9 (by simp [u8L, w1, w2]; done) ?_
        | refine ar_go3 _ rfl (by simp [sb_lit, sb_app, sb_size, hd, hl, hr0, hq0, h1, hm0, w0, w1, w2, hb]; exact ⟨rfl, rfl, rfl⟩) rfl ?_
        | refine aw_sregK 0 [0] ?_
        | refine aw_regK 0 [0] ?_
        | refine aw_sregK 1 [0] ?_
        | refine aw_regK 1 [0] ?_
        | refine aw_sregK 5 [0] ?_
        | refine aw_regK 5 [0] ?_
        | refine aw_sregK 6 [0, 3] ?_
        | refine aw_regK 6 [0, 3] ?_
        | refine aw_sregKD mixed 8 [0, 3] (by simp; exact rfl) ?_
        | refine aw_regKD mixed 8 [0, 3] (by simp; exact rfl) ?_
        | refine aw_sreg ?_
        | refine aw_sregD mixed ?_
        | refine aw_ifT (b := true) rfl rfl ?_
        | refine aw_ifF (b := false) rfl rfl ?_
        | refine aw_ifT rfl (by assumption) ?_
        | refine aw_ifF rfl (by assumption) ?_
        | refine aw_ifT rfl (decide_eq_true (by assumption)) ?_
        | refine aw_ifF rfl (decide_eq_false (by assumption)) ?_
        | refine aw_seq ?_
        | refine aw_block ?_
        | refine aw_skip ?_
        | refine aw_region ?_
        | refine aw_region_draw mixed ?_
        | refine aw_exit ?_
        | refine rq_exit ?_
        | refine blockQ_hit ?_
        | refine blockQ_miss (by decide) ?_)
set_option maxHeartbeats 16000000 in
theorem c_Figures [Trk] {n : Int} (h : W64 n) : SC Tryd.prog 56 [I .i64 n] (S (itoaF n)) := c_fig _ (Nat.lt_succ_self _) h
set_option maxHeartbeats 16000000 in
theorem c_rword [Trk] {a : At} (h : AtOk a) : SC Tryd.prog 35 [.agg (atC a)] (S (wordF a)) := by
  have h1 := c_Figures h.th
  have h2 := c_Figures h.pl
  have h3 := c_Figures h.v
  have l1 := itoa_len h.th
  have l2 := itoa_len h.pl
  have l3 := itoa_len h.v
  unfold wordF
  obtain ⟨th, pl, v, neg⟩ := a
  dsimp only at h1 h2 h3 l1 l2 l3 ⊢
  generalize itoaF th = t at *
  generalize itoaF pl = p at *
  generalize itoaF v = q at *
  have a1 : t.length + 1 ≤ 9223372036854775807 := by omega
  have b1 : p.length + 1 ≤ 9223372036854775807 := by omega
  have b2 : 1 + p.length ≤ 9223372036854775807 := by omega
  have b3 : p.length + 1 + 1 ≤ 9223372036854775807 := by omega
  have b4 : p.length + 1 + 1 + 1 ≤ 9223372036854775807 := by omega
  have b5 : p.length + 1 + 1 + q.length ≤ 9223372036854775807 := by omega
  have b6 : p.length + 1 + 1 + 1 + q.length ≤ 9223372036854775807 := by omega
  have c2 : t.length + (1 + p.length) ≤ 9223372036854775807 := by omega
  have c2' : t.length + (p.length + 1) ≤ 9223372036854775807 := by omega
  have c3 : t.length + (p.length + 1) + 1 ≤ 9223372036854775807 := by omega
  have c3' : t.length + (p.length + 1 + 1) ≤ 9223372036854775807 := by omega
  have c4 : t.length + (p.length + 1) + 1 + 1 ≤ 9223372036854775807 := by omega
  have c4' : t.length + (p.length + 1 + 1) + 1 ≤ 9223372036854775807 := by omega
  have c5 : t.length + (p.length + 1) + 1 + 1 + q.length ≤ 9223372036854775807 := by omega
  have c6 : t.length + (p.length + 1 + 1) + q.length ≤ 9223372036854775807 := by omega
  have c7 : t.length + 1 + p.length ≤ 9223372036854775807 := by omega
  have c8 : t.length + (p.length + 1 + 1 + 1) + q.length ≤ 9223372036854775807 := by omega
  by_cases h0 : th = -1
  · subst h0
    cases neg
    · refine scx_of Tryd.func35 rfl rfl rfl (Nat.le_of_ble_eq_true rfl) ?_
      repeat' (first
        | exact aw_ret (ret_vals (by simp; exact rfl) (by simp [sb_lit, sb_app]; fail_if_success (show _)))
        | exact aw_ret (ret_vals (by simp; exact rfl) (by simp [sb_lit, sb_app]; omega))
        | refine ar_end rfl ?_
        | refine ar_endD rfl (by kernel_rfl) ?_
        | refine ar_fin rfl ?_
        | refine ar_finD rfl (by kernel_rfl) ?_
        | refine ar_callV Tryd.call56 h1 rfl rfl rfl rfl rfl (by simp; done) (by rfl) (by simp; done) ?_
        | refine ar_callV_if Tryd.call56 h1 rfl rfl rfl rfl rfl rfl (by simp; done) rfl (by rfl) (by simp; done) ?_
        | refine ar_callV Tryd.call56 h2 rfl rfl rfl rfl rfl (by simp; done) (by rfl) (by simp; done) ?_
        | refine ar_callV_if Tryd.call56 h2 rfl rfl rfl rfl rfl rfl (by simp; done) rfl (by rfl) (by simp; done) ?_
        | refine ar_callV Tryd.call56 h3 rfl rfl rfl rfl rfl (by simp; done) (by rfl) (by simp; done) ?_
        | refine ar_callV_if Tryd.call56 h3 rfl rfl rfl rfl rfl rfl (by simp; done) rfl (by rfl) (by simp; done) ?_
        | refine ar_go3 _ rfl (by simp [ints_len, ints_getE, rgL_len, rgL_getE, atsL_len, atsL_getE, cosL_len, cosL_getE, ousL_len, ousL_getE, atC, ouC, coC, sb_lit, sb_app, sb_size, a1, b1, b2, b3, b4, b5, b6]; exact ⟨rfl, rfl, rfl⟩) rfl ?_
        | refine aw_sregK 0 [0] ?_
        | refine aw_regK 0 [0] ?_
        | refine aw_sregK 1 [1] ?_
        | refine aw_regK 1 [1] ?_
        | refine aw_sregK 2 [1, 3] ?_
        | refine aw_regK 2 [1, 3] ?_
        | refine aw_sregK 3 [1] ?_
        | refine aw_regK 3 [1] ?_
        | refine aw_sregK 4 [1, 3] ?_
        | refine aw_regK 4 [1, 3] ?_
        | refine aw_sregK 5 [1, 3] ?_
        | refine aw_regK 5 [1, 3] ?_
        | refine aw_sregK 7 [1, 3] ?_
        | refine aw_regK 7 [1, 3] ?_
        | refine aw_sreg ?_
        | refine aw_sregD mixed ?_
        | refine aw_ifT (b := true) rfl rfl ?_
        | refine aw_ifF (b := false) rfl rfl ?_
        | refine aw_ifT rfl (by assumption) ?_
        | refine aw_ifF rfl (by assumption) ?_
        | refine aw_ifT rfl (decide_eq_true (by assumption)) ?_
        | refine aw_ifF rfl (decide_eq_false (by assumption)) ?_
        | refine aw_seq ?_
        | refine aw_block ?_
        | refine aw_skip ?_
        | refine aw_region ?_
        | refine aw_region_draw mixed ?_
        | refine aw_exit ?_
        | refine rq_exit ?_
        | refine blockQ_hit ?_
        | refine blockQ_miss (by decide) ?_
        | (refine ar_guard rfl rfl rfl rfl (fun h => ?_) (fun h => ?_) <;> (fail_if_success (cases h; done)) <;> (try simp at h) <;> (try subst h))
        | (refine aw_both rfl (fun h => ?_) (fun h => ?_) <;> (fail_if_success (cases h; done)) <;> (try simp at h) <;> (try subst h)))
    · refine scx_of Tryd.func35 rfl rfl rfl (Nat.le_of_ble_eq_true rfl) ?_
      repeat' (first
        | exact aw_ret (ret_vals (by simp; exact rfl) (by simp [sb_lit, sb_app]; fail_if_success (show _)))
        | exact aw_ret (ret_vals (by simp; exact rfl) (by simp [sb_lit, sb_app]; omega))
        | refine ar_end rfl ?_
        | refine ar_endD rfl (by kernel_rfl) ?_
        | refine ar_fin rfl ?_
        | refine ar_finD rfl (by kernel_rfl) ?_
        | refine ar_callV Tryd.call56 h1 rfl rfl rfl rfl rfl (by simp; done) (by rfl) (by simp; done) ?_
        | refine ar_callV_if Tryd.call56 h1 rfl rfl rfl rfl rfl rfl (by simp; done) rfl (by rfl) (by simp; done) ?_
        | refine ar_callV Tryd.call56 h2 rfl rfl rfl rfl rfl (by simp; done) (by rfl) (by simp; done) ?_
        | refine ar_callV_if Tryd.call56 h2 rfl rfl rfl rfl rfl rfl (by simp; done) rfl (by rfl) (by simp; done) ?_
        | refine ar_callV Tryd.call56 h3 rfl rfl rfl rfl rfl (by simp; done) (by rfl) (by simp; done) ?_
        | refine ar_callV_if Tryd.call56 h3 rfl rfl rfl rfl rfl rfl (by simp; done) rfl (by rfl) (by simp; done) ?_
        | refine ar_go3 _ rfl (by simp [ints_len, ints_getE, rgL_len, rgL_getE, atsL_len, atsL_getE, cosL_len, cosL_getE, ousL_len, ousL_getE, atC, ouC, coC, sb_lit, sb_app, sb_size, a1, b1, b2, b3, b4, b5, b6]; exact ⟨rfl, rfl, rfl⟩) rfl ?_
        | refine aw_sregK 0 [0] ?_
        | refine aw_regK 0 [0] ?_
        | refine aw_sregK 1 [1] ?_
        | refine aw_regK 1 [1] ?_
        | refine aw_sregK 2 [1, 3] ?_
        | refine aw_regK 2 [1, 3] ?_
        | refine aw_sregK 3 [1] ?_
        | refine aw_regK 3 [1] ?_
        | refine aw_sregK 4 [1, 3] ?_
        | refine aw_regK 4 [1, 3] ?_
        | refine aw_sregK 5 [1, 3] ?_
        | refine aw_regK 5 [1, 3] ?_
        | refine aw_sregK 6 [1, 3] ?_
        | refine aw_regK 6 [1, 3] ?_
        | refine aw_sregK 7 [1, 3] ?_
        | refine aw_regK 7 [1, 3] ?_
        | refine aw_sreg ?_
        | refine aw_sregD mixed ?_
        | refine aw_ifT (b := true) rfl rfl ?_
        | refine aw_ifF (b := false) rfl rfl ?_
        | refine aw_ifT rfl (by assumption) ?_
        | refine aw_ifF rfl (by assumption) ?_
        | refine aw_ifT rfl (decide_eq_true (by assumption)) ?_
        | refine aw_ifF rfl (decide_eq_false (by assumption)) ?_
        | refine aw_seq ?_
        | refine aw_block ?_
        | refine aw_skip ?_
        | refine aw_region ?_
        | refine aw_region_draw mixed ?_
        | refine aw_exit ?_
        | refine rq_exit ?_
        | refine blockQ_hit ?_
        | refine blockQ_miss (by decide) ?_
        | (refine ar_guard rfl rfl rfl rfl (fun h => ?_) (fun h => ?_) <;> (fail_if_success (cases h; done)) <;> (try simp at h) <;> (try subst h))
        | (refine aw_both rfl (fun h => ?_) (fun h => ?_) <;> (fail_if_success (cases h; done)) <;> (try simp at h) <;> (try subst h)))
  · cases neg
    · refine scx_of Tryd.func35 rfl rfl rfl (Nat.le_of_ble_eq_true rfl) ?_
      repeat' (first
        | exact aw_ret (ret_vals (by simp; exact rfl) (by simp [sb_lit, sb_app, h0]; fail_if_success (show _)))
        | exact aw_ret (ret_vals (by simp; exact rfl) (by simp [sb_lit, sb_app, h0]; omega))
        | refine ar_end rfl ?_
        | refine ar_endD rfl (by kernel_rfl) ?_
        | refine ar_fin rfl ?_
        | refine ar_finD rfl (by kernel_rfl) ?_
        | refine ar_callV Tryd.call56 h1 rfl rfl rfl rfl rfl (by simp; done) (by rfl) (by simp; done) ?_
        | refine ar_callV_if Tryd.call56 h1 rfl rfl rfl rfl rfl rfl (by simp; done) rfl (by rfl) (by simp; done) ?_
        | refine ar_callV Tryd.call56 h2 rfl rfl rfl rfl rfl (by simp; done) (by rfl) (by simp; done) ?_
        | refine ar_callV_if Tryd.call56 h2 rfl rfl rfl rfl rfl rfl (by simp; done) rfl (by rfl) (by simp; done) ?_
        | refine ar_callV Tryd.call56 h3 rfl rfl rfl rfl rfl (by simp; done) (by rfl) (by simp; done) ?_
        | refine ar_callV_if Tryd.call56 h3 rfl rfl rfl rfl rfl rfl (by simp; done) rfl (by rfl) (by simp; done) ?_
        | refine ar_go3 _ rfl (by simp [ints_len, ints_getE, rgL_len, rgL_getE, atsL_len, atsL_getE, cosL_len, cosL_getE, ousL_len, ousL_getE, atC, ouC, coC, sb_lit, sb_app, sb_size, h0, a1, b1, b2, b3, b4, b5, b6, c2, c2', c3, c3', c4, c4', c5, c6, c7, c8]; exact ⟨rfl, rfl, rfl⟩) rfl ?_
        | refine aw_sregK 0 [0] ?_
        | refine aw_regK 0 [0] ?_
        | refine aw_sregK 1 [1] ?_
        | refine aw_regK 1 [1] ?_
        | refine aw_sregK 2 [1, 3] ?_
        | refine aw_regK 2 [1, 3] ?_
        | refine aw_sregK 4 [1, 3] ?_
        | refine aw_regK 4 [1, 3] ?_
        | refine aw_sregK 5 [1, 3] ?_
        | refine aw_regK 5 [1, 3] ?_
        | refine aw_sregK 7 [1, 3] ?_
        | refine aw_regK 7 [1, 3] ?_
        | refine aw_sreg ?_
        | refine aw_sregD mixed ?_
        | refine aw_ifT (b := true) rfl rfl ?_
        | refine aw_ifF (b := false) rfl rfl ?_
        | refine aw_ifT rfl (by assumption) ?_
        | refine aw_ifF rfl (by assumption) ?_
        | refine aw_ifT rfl (decide_eq_true (by assumption)) ?_
        | refine aw_ifF rfl (decide_eq_false (by assumption)) ?_
        | refine aw_seq ?_
        | refine aw_block ?_
        | refine aw_skip ?_
        | refine aw_region ?_
        | refine aw_region_draw mixed ?_
        | refine aw_exit ?_
        | refine rq_exit ?_
        | refine blockQ_hit ?_
        | refine blockQ_miss (by decide) ?_
        | (refine ar_guard rfl rfl rfl rfl (fun h => ?_) (fun h => ?_) <;> (fail_if_success (cases h; done)) <;> (try simp at h) <;> (try subst h))
        | (refine aw_both rfl (fun h => ?_) (fun h => ?_) <;> (fail_if_success (cases h; done)) <;> (try simp at h) <;> (try subst h)))
    · refine scx_of Tryd.func35 rfl rfl rfl (Nat.le_of_ble_eq_true rfl) ?_
      repeat' (first
        | exact aw_ret (ret_vals (by simp; exact rfl) (by simp [sb_lit, sb_app, h0]; fail_if_success (show _)))
        | exact aw_ret (ret_vals (by simp; exact rfl) (by simp [sb_lit, sb_app, h0]; omega))
        | refine ar_end rfl ?_
        | refine ar_endD rfl (by kernel_rfl) ?_
        | refine ar_fin rfl ?_
        | refine ar_finD rfl (by kernel_rfl) ?_
        | refine ar_callV Tryd.call56 h1 rfl rfl rfl rfl rfl (by simp; done) (by rfl) (by simp; done) ?_
        | refine ar_callV_if Tryd.call56 h1 rfl rfl rfl rfl rfl rfl (by simp; done) rfl (by rfl) (by simp; done) ?_
        | refine ar_callV Tryd.call56 h2 rfl rfl rfl rfl rfl (by simp; done) (by rfl) (by simp; done) ?_
        | refine ar_callV_if Tryd.call56 h2 rfl rfl rfl rfl rfl rfl (by simp; done) rfl (by rfl) (by simp; done) ?_
        | refine ar_callV Tryd.call56 h3 rfl rfl rfl rfl rfl (by simp; done) (by rfl) (by simp; done) ?_
        | refine ar_callV_if Tryd.call56 h3 rfl rfl rfl rfl rfl rfl (by simp; done) rfl (by rfl) (by simp; done) ?_
        | refine ar_go3 _ rfl (by simp [ints_len, ints_getE, rgL_len, rgL_getE, atsL_len, atsL_getE, cosL_len, cosL_getE, ousL_len, ousL_getE, atC, ouC, coC, sb_lit, sb_app, sb_size, h0, a1, b1, b2, b3, b4, b5, b6, c2, c2', c3, c3', c4, c4', c5, c6, c7, c8]; exact ⟨rfl, rfl, rfl⟩) rfl ?_
        | refine aw_sregK 0 [0] ?_
        | refine aw_regK 0 [0] ?_
        | refine aw_sregK 1 [1] ?_
        | refine aw_regK 1 [1] ?_
        | refine aw_sregK 2 [1, 3] ?_
        | refine aw_regK 2 [1, 3] ?_
        | refine aw_sregK 4 [1, 3] ?_
        | refine aw_regK 4 [1, 3] ?_
        | refine aw_sregK 5 [1, 3] ?_
        | refine aw_regK 5 [1, 3] ?_
        | refine aw_sregK 6 [1, 3] ?_
        | refine aw_regK 6 [1, 3] ?_
        | refine aw_sregK 7 [1, 3] ?_
        | refine aw_regK 7 [1, 3] ?_
        | refine aw_sreg ?_
        | refine aw_sregD mixed ?_
        | refine aw_ifT (b := true) rfl rfl ?_
        | refine aw_ifF (b := false) rfl rfl ?_
        | refine aw_ifT rfl (by assumption) ?_
        | refine aw_ifF rfl (by assumption) ?_
        | refine aw_ifT rfl (decide_eq_true (by assumption)) ?_
        | refine aw_ifF rfl (decide_eq_false (by assumption)) ?_
        | refine aw_seq ?_
        | refine aw_block ?_
        | refine aw_skip ?_
        | refine aw_region ?_
        | refine aw_region_draw mixed ?_
        | refine aw_exit ?_
        | refine rq_exit ?_
        | refine blockQ_hit ?_
        | refine blockQ_miss (by decide) ?_
        | (refine ar_guard rfl rfl rfl rfl (fun h => ?_) (fun h => ?_) <;> (fail_if_success (cases h; done)) <;> (try simp at h) <;> (try subst h))
        | (refine aw_both rfl (fun h => ?_) (fun h => ?_) <;> (fail_if_success (cases h; done)) <;> (try simp at h) <;> (try subst h)))
end Go.Eng
