import Derived.Test.YtpohlijehadklaaGreatFlowF
import Derived.Test.YtpohlijehadklaaGreatValsJ
import Derived.Test.YtpohlijehadklaaGreatExecA
import Derived.Test.YtpohlijehadklaaGreatValsB
set_option linter.unusedSimpArgs false
set_option linter.unusedVariables false
set_option linter.constructorNameAsVariable false
set_option autoImplicit false
namespace Go.Eng
open Go Go.RowKit Go.Proofs
structure MaskQ (R : Rn) : Prop where
  ad : ∀ a ∈ R.ad, W32 a
  da : ∀ a ∈ R.da, W32 a
  ct : ∀ a ∈ R.ct, W32 a
  d0 : W32 R.d0
  d1 : W32 R.d1
  d2 : W32 R.d2
  d3 : W32 R.d3
  c : W32 R.ctrl
theorem mem_snoc {α : Type} {P : α → Prop} {l : List α} {a : α} (h : ∀ x ∈ l, P x) (ha : P a) : ∀ x ∈ l ++ [a], P x := by
  intro x hx
  rcases List.mem_append.1 hx with hx | hx
  · exact h x hx
  · rw [List.mem_singleton] at hx; rw [hx]; exact ha
theorem mask_gd {R : Rn} (h : MaskQ R) (n : Int) : W32 (R.gd n) := by
  unfold Rn.gd get4
  repeat' split
  · exact h.d0
  · exact h.d1
  · exact h.d2
  · exact h.d3
  · decide
theorem mask_adr {R : Rn} (h : MaskQ R) (x : In) (L : Int) : W32 (R.adr x L) := by
  unfold Rn.adr
  split
  · decide
  · exact mask_gd h _
theorem mask_event {R : Rn} (h : MaskQ R) {e : Ev} {a d p : Int} (ha : W32 a) (hd : W32 d) : MaskQ (R.event e a d p) :=
  ⟨mem_snoc h.ad ha, mem_snoc h.da hd, mem_snoc h.ct h.c, h.d0, h.d1, h.d2, h.d3, h.c⟩
theorem mask_reg {R : Rn} (h : MaskQ R) {n v d : Int} (hd : W32 d) : MaskQ (R.reg n v d) :=
  ⟨h.ad, h.da, h.ct, W32.ite hd h.d0, W32.ite hd h.d1, W32.ite hd h.d2, W32.ite hd h.d3, h.c⟩
theorem mask_same {R R' : Rn} (h : MaskQ R) (e2 : R'.ad = R.ad) (e3 : R'.da = R.da) (e4 : R'.ct = R.ct) (e6 : R'.d0 = R.d0) (e7 : R'.d1 = R.d1) (e8 : R'.d2 = R.d2) (e9 : R'.d3 = R.d3) (e10 : R'.ctrl = R.ctrl) : MaskQ R' :=
  ⟨by rw [e2]; exact h.ad, by rw [e3]; exact h.da, by rw [e4]; exact h.ct, by rw [e6]; exact h.d0, by rw [e7]; exact h.d1, by rw [e8]; exact h.d2, by rw [e9]; exact h.d3, by rw [e10]; exact h.c⟩
theorem run_mask {th : List In} {locs : Int} {vals : List Int} {lucks : List Bool} : MaskQ (runF th locs vals lucks) := by
  have z : W32 0 := by decide
  refine (run_ind (Q := MaskQ) ⟨by simp [Rn0], by simp [Rn0], by simp [Rn0], z, z, z, z, z⟩ (fun R h => mask_same h rfl rfl rfl rfl rfl rfl rfl rfl) ?_).1
  intro l1 l3 R x β k hx hI hk hm hβ h0 hQ
  refine step_elim (M := MaskQ) (fun h1 h => ?_) (fun _ _ => mask_same hQ rfl rfl rfl rfl rfl rfl rfl rfl) (fun _ h he hkk hb => ?_) (fun _ _ _ _ => ?_) (fun _ _ _ => mask_same hQ rfl rfl rfl rfl rfl rfl rfl rfl) (fun _ _ => ?_) (fun _ => mask_event hQ (mask_adr hQ x locs) (mask_gd hQ _)) (fun h => mask_event hQ z z) (fun _ => ?_) (fun _ => ?_)
  · have I1 : MaskQ (R.load1 x locs vals[R.nv.toNat]) := mask_event (mask_same hQ (R' := { R with nv := R.nv + 1 }) rfl rfl rfl rfl rfl rfl rfl rfl) (mask_adr hQ x locs) z
    have hbt : W32 (bitAt R.es.length) := wf_wrap _ _
    unfold Rn.load
    split
    · exact mask_reg (mask_same I1 (R' := { R.load1 x locs vals[R.nv.toNat] with last := (R.es.length : Int) }) rfl rfl rfl rfl rfl rfl rfl rfl) hbt
    · exact mask_reg I1 hbt
  · have hQ' := mask_same hQ (R' := { R with last := -1, nl := R.nl + 1 }) rfl rfl rfl rfl rfl rfl rfl rfl
    exact mask_reg (mask_event hQ' (mask_adr hQ' x locs) (mask_gd hQ' _)) z
  · exact mask_reg (mask_same hQ (R' := { R with last := -1, nl := R.nl + 1 }) rfl rfl rfl rfl rfl rfl rfl rfl) z
  · exact mask_reg (mask_same hQ (R' := { R with last := -1 }) rfl rfl rfl rfl rfl rfl rfl rfl) z
  · have hc : W32 (R.branch x).ctrl := wf_bits .or .u32 R.ctrl (R.gd x.a)
    exact ⟨hQ.ad, hQ.da, hQ.ct, hQ.d0, hQ.d1, hQ.d2, hQ.d3, hc⟩
  · unfold Rn.alone
    split
    · exact mask_reg hQ z
    · exact mask_reg hQ (wf_bits _ _ _ _)
/-- A mask in range, as bits. -/
theorem ub_of {n : Int} (h : W32 n) : ub (BitVec.ofInt 32 n) = n := by
  have h1 : 0 ≤ n ∧ n < 4294967296 := by
    have h : (Lit.int .u32 n).wf = true := h
    simp [Lit.wf, IntKind.min, IntKind.max, IntKind.signed, IntKind.bits] at h
    omega
  unfold ub
  rw [BitVec.toNat_ofInt]
  omega
theorem bitAt_eq {n : Nat} (h : n < 32) : BV (bitAt n) = 1#32 <<< n := by
  have : ∀ m : Fin 32, BV (bitAt m.1) = 1#32 <<< m.1 := by decide
  exact this ⟨n, h⟩
theorem ldM_low (es : List Ev) : ∀ i, i ≤ 32 → ∀ j, (BV (ldM es i)).getLsbD j = true → j < i
  | 0, _, j, h => by
    have e : BV 0 = 0#32 := by rfl
    rw [ldM, e, BitVec.getLsbD_zero] at h; cases h
  | i + 1, hi, j, h => by
    rw [ldM] at h
    split at h
    · rw [bv_or, BitVec.getLsbD_or, Bool.or_eq_true] at h
      rcases h with h | h
      · have := ldM_low es i (by omega) j h; omega
      · rw [bitAt_eq (by omega), BitVec.getLsbD_shiftLeft] at h
        simp at h
        omega
    · have := ldM_low es i (by omega) j h; omega
theorem low_shr {a : Wd} {i : Nat} (h : ∀ j, a.getLsbD j = true → j < i) : a >>> i = 0#32 := by
  apply BitVec.eq_of_getLsbD_eq
  intro j hj
  rw [BitVec.getLsbD_ushiftRight, BitVec.getLsbD_zero]
  cases hb : a.getLsbD (i + j)
  · rfl
  · have := h _ hb; omega
structure FineR (R : Rn) : Prop where
  ok : TrOk R
  ad : ∀ a ∈ R.ad, W32 a
  da : ∀ a ∈ R.da, W32 a
  ct : ∀ a ∈ R.ct, W32 a
  low : ∀ i, (hi : i < R.es.length) → ((BitVec.ofInt 32 (R.ad[i]'(by rw [ok.ad]; exact hi)) ||| BitVec.ofInt 32 (R.da[i]'(by rw [ok.da]; exact hi))) ||| BitVec.ofInt 32 (R.ct[i]'(by rw [ok.ct]; exact hi))) >>> i = 0#32
  pair : ∀ i, (hi : i < R.es.length) → (R.pa[i]'(by rw [ok.pa]; exact hi)) < (i : Int)
  ev : ∀ e ∈ R.es, 1 ≤ e.k ∧ e.k ≤ 6
theorem traces_fine {th : List In} {locs : Int} {vals : List Int} (hth : ∀ x ∈ th, wfIn x) (hv : ∀ n ∈ vals, W64 n) : ∀ R ∈ tracesF th locs vals, FineR R := by
  intro R hR
  have ok := traces_ok hth hv R hR
  obtain ⟨v, b, rfl, h1, h2⟩ := traces_run R hR
  have hm := run_mask (th := th) (locs := locs) (vals := v) (lucks := b)
  have hh := run_hang (th := th) (locs := locs) (vals := v) (lucks := b)
  generalize runF th locs v b = R at *
  have hes := ok.es
  refine ⟨ok, hm.ad, hm.da, hm.ct, fun i hi => ?_, fun i hi => ?_, fun e he => ?_⟩
  · have he := hh.ev i hi
    have ea : R.ad.getD i 0 = R.ad[i]'(by rw [ok.ad]; exact hi) := getD_at (by rw [ok.ad]; exact hi)
    have ed : R.da.getD i 0 = R.da[i]'(by rw [ok.da]; exact hi) := getD_at (by rw [ok.da]; exact hi)
    have ec : R.ct.getD i 0 = R.ct[i]'(by rw [ok.ct]; exact hi) := getD_at (by rw [ok.ct]; exact hi)
    have q1 := he.ha
    have q2 := he.hd
    have q3 := he.hc
    rw [ea] at q1
    rw [ed] at q2
    rw [ec] at q3
    refine low_shr fun j hj => ?_
    rw [BitVec.getLsbD_or, BitVec.getLsbD_or, Bool.or_eq_true, Bool.or_eq_true] at hj
    refine ldM_low R.es i (by omega) j ?_
    rcases hj with (hj | hj) | hj
    · exact sb_bit.1 q1 j hj
    · exact sb_bit.1 q2 j hj
    · exact sb_bit.1 q3 j hj
  · have he := (hh.ev i hi).pair
    have ep : R.pa.getD i 0 = R.pa[i]'(by rw [ok.pa]; exact hi) := getD_at (by rw [ok.pa]; exact hi)
    rw [ep] at he
    by_cases h0 : 0 ≤ R.pa[i]'(by rw [ok.pa]; exact hi)
    · have := he.lt h0; omega
    · omega
  · obtain ⟨i, hi, rfl⟩ := List.mem_iff_getElem.1 he
    have := (hh.ev i hi).k
    have e0 : R.es.getD i ev0 = R.es[i] := getD_at hi
    rw [e0] at this
    exact this
end Go.Eng
set_option linter.unusedSimpArgs false
set_option linter.unusedVariables false
set_option linter.constructorNameAsVariable false
set_option autoImplicit false
namespace Go.Eng
open Go Go.RowKit Go.Proofs
def leadR (b : Nat) (w : Wd) (to : Nat) (r : RL) : Nat → RL
  | 0 => r
  | i + 1 => if w.getLsbD i = true then putR (leadR b w to r i) ((b + i : Nat) : Int) (to : Int) else leadR b w to r i
theorem addR_len (o : RL) (p : Nat × Nat) : (addR o p).length = o.length := by simp [addR]
theorem put_le (r : RL) (i k : Int) : (putR r i k).length ≤ 32 := by
  unfold putR
  split
  · rw [addR_len]; exact clean_le r
  · exact clean_le r
theorem lead_le {b : Nat} {w : Wd} {to : Nat} {r : RL} (h : r.length ≤ 32) : ∀ i, (leadR b w to r i).length ≤ 32
  | 0 => h
  | i + 1 => by
    rw [leadR]; split
    · exact put_le _ _ _
    · exact lead_le h i
set_option maxHeartbeats 16000000 in
theorem c_lead {r : RL} {b to : Nat} {w : Wd} (hl : r.length ≤ 32) (hb : b ≤ to) (ht : to ≤ 32) : SC Tryz.prog 56 [.pv (.sl 1 (rl r)), I .i64 b, I .u32 (ub w), I .i64 to] (.pv (.sl 1 (rl (leadR b w to r (to - b))))) := by
  have hM : maxLen = 9223372036854775807 := rfl
  have hw0 : IntKind.wrap .i64 ((to : Int) - (b : Int)) = ((to - b : Nat) : Int) := by rw [wrap64s (by omega) (by omega)]; omega
  generalize hN : to - b = N at *
  refine scx_of Tryz.func56 rfl rfl rfl (Nat.le_of_ble_eq_true rfl) ?_
  repeat' (first
 | refine ar_end rfl ?_
 | refine ar_go3 _ rfl (by simp [rl_len, rl_getE, rl_set, rl_nil, List.length_set, List.getElem_set, IntKind.bits, ub_shl1', ub_shr, ub_or, ub_and, ub_andNot, ub_bit, Int.toNat_natCast, ub_zero, hw0]; exact ⟨rfl, rfl, rfl⟩) rfl ?_
 | refine aw_sregK 0 [0, 1, 2, 3] ?_
 | refine aw_sregK 1 [0, 1, 2, 3] ?_
 | refine aw_seq ?_
 | refine aw_block ?_)
  refine aw_loopN [0, 1, 2, 3, 12, 13] [] (by simp; exact rfl) (ι := {i : Nat // i ≤ N}) (fun i => ⟨30, [(0, .pv (.sl 1 (rl (leadR b w to r i.1)))), (1, I .i64 b), (2, I .u32 (ub w)), (3, I .i64 to), (12, I .i64 N), (13, I .i64 i.1)], []⟩) (fun i => N - i.1) ⟨0, by omega⟩ (by simp [leadR]) ?_
  rintro ⟨i, hi⟩
  by_cases hlt : i < N
  · have hd : (i : Int) < (N : Int) := by omega
    have hw : IntKind.wrap .i64 ((i : Int) + 1) = (i : Int) + 1 := wrap64s (by omega) (by omega)
    have hwu := wrap64u (n := i) (by omega)
    have hwb : IntKind.wrap .i64 ((b : Int) + (i : Int)) = ((b + i : Nat) : Int) := by rw [wrap64s (by omega) (by omega)]; omega
    have hle := lead_le (b := b) (w := w) (to := to) hl i
    have hs : leadR b w to r (i + 1) = if w.getLsbD i = true then putR (leadR b w to r i) ((b + i : Nat) : Int) (to : Int) else leadR b w to r i := rfl
    generalize leadR b w to r i = q at *
    have hP := c_putV (r := q) (i := ((b + i : Nat) : Int)) (k := (to : Int)) (by omega)
    cases hbit : w.getLsbD i
    · rw [hbit, if_neg (by decide)] at hs
      repeat' (first
 | refine ar_end rfl ?_
 | refine ar_fin rfl ?_
 | refine bq_norm ?_
 | refine lq_normN [0, 1, 2, 3, 12, 13] [] (by simp; exact rfl) ⟨i + 1, by omega⟩ (by dsimp only; omega) (by simp [hs])
 | refine ar_go3 _ rfl (by simp [rl_len, rl_getE, rl_set, rl_nil, List.length_set, List.getElem_set, IntKind.bits, ub_shl1', ub_shr, ub_or, ub_and, ub_andNot, ub_bit, Int.toNat_natCast, ub_zero, hd, hwu, hbit, hw]; exact ⟨rfl, rfl, rfl⟩) rfl ?_
 | refine aw_sregK 2 [0, 1, 2, 3, 12, 13] ?_
 | refine aw_sregK 3 [0, 1, 2, 3, 12, 13] ?_
 | refine aw_sregK 4 [0, 1, 2, 3, 9, 12, 13] ?_
 | refine aw_regK 6 [0, 1, 2, 3, 12, 13] ?_
 | refine aw_ifT (b := true) rfl rfl ?_
 | refine aw_ifF (b := false) rfl rfl ?_
 | refine aw_seq ?_
 | refine aw_block ?_
 | refine aw_skip ?_)
    · rw [hbit, if_pos rfl] at hs
      repeat' (first
 | refine ar_end rfl ?_
 | refine ar_fin rfl ?_
 | refine ar_callV Tryz.call57 hP rfl rfl rfl rfl rfl (by simp; done) (by rfl) (by simp; done) ?_
 | refine lq_normN [0, 1, 2, 3, 12, 13] [] (by simp; exact rfl) ⟨i + 1, by omega⟩ (by dsimp only; omega) (by simp [hs])
 | refine ar_go3 _ rfl (by simp [rl_len, rl_getE, rl_set, rl_nil, List.length_set, List.getElem_set, IntKind.bits, ub_shl1', ub_shr, ub_or, ub_and, ub_andNot, ub_bit, Int.toNat_natCast, ub_zero, hd, hwu, hbit, hw, hwb]; exact ⟨rfl, rfl, rfl⟩) rfl ?_
 | refine aw_sregK 2 [0, 1, 2, 3, 12, 13] ?_
 | refine aw_sregK 3 [0, 1, 2, 3, 12, 13] ?_
 | refine aw_sregK 4 [0, 1, 2, 3, 9, 12, 13] ?_
 | refine aw_regK 5 [0, 1, 2, 3, 9, 12, 13] ?_
 | refine aw_regK 6 [0, 1, 2, 3, 12, 13] ?_
 | refine aw_ifT (b := true) rfl rfl ?_
 | refine aw_seq ?_
 | refine aw_block ?_
 | refine aw_skip ?_)
  have hd : ¬(i : Int) < (N : Int) := by omega
  have hie : i = N := by omega
  subst hie
  repeat' (first
 | exact aw_ret (ret_vals (by simp; exact rfl) (by simp [*]; fail_if_success (show _)))
 | refine ar_end rfl ?_
 | refine ar_go3 _ rfl (by simp [rl_len, rl_getE, rl_set, rl_nil, List.length_set, List.getElem_set, IntKind.bits, ub_shl1', ub_shr, ub_or, ub_and, ub_andNot, ub_bit, Int.toNat_natCast, ub_zero, hd]; exact ⟨rfl, rfl, rfl⟩) rfl ?_
 | refine aw_sregK 2 [0, 1, 2, 3, 12, 13] ?_
 | refine aw_sregK 7 [0] ?_
 | refine aw_ifF (b := false) rfl rfl ?_
 | refine aw_seq ?_
 | refine aw_exit ?_)
set_option maxHeartbeats 16000000 in
theorem c_xfine {R : Rn} (hR : FineR R) : SC Tryz.prog 32 [.agg (trL R)] (B true) := by
  obtain ⟨ok, h1, h2, h3, hlow, hpair, hev⟩ := hR
  have hes := ok.es
  have la : (R.ad.length : Int) = (R.es.length : Int) := by rw [ok.ad]
  have ld : (R.da.length : Int) = (R.es.length : Int) := by rw [ok.da]
  have lc : (R.ct.length : Int) = (R.es.length : Int) := by rw [ok.ct]
  have lp : (R.pa.length : Int) = (R.es.length : Int) := by rw [ok.pa]
  refine scx_of Tryz.func32 rfl rfl rfl (Nat.le_of_ble_eq_true rfl) ?_
  repeat' (first
 | refine ar_end rfl ?_
 | refine ar_go3 _ rfl (by simp [trL, evsL_len, u32s_len, ints_len, la, ld, lc, lp]; exact ⟨rfl, rfl, rfl⟩) rfl ?_
 | refine aw_sregK 0 [0] ?_
 | refine aw_sregK 1 [1] ?_
 | refine aw_sregK 2 [1, 3] ?_
 | refine aw_sregK 4 [1, 3] ?_
 | refine aw_ifF (b := false) rfl rfl ?_
 | refine aw_seq ?_
 | refine aw_block ?_
 | refine aw_skip ?_)
  refine aw_loopN [1, 34, 35] [.loc 1] (by simp; exact rfl) (ι := {i : Nat // i ≤ R.es.length}) (fun i => ⟨69, [(1, .ptr (.loc 1) 0), (34, I .i64 R.es.length), (35, I .i64 i.1)], [(.loc 1, some (.box 62 [.pv (.sl 7 (evsL R.es)), .pv (.sl 1 (u32s R.ad)), .pv (.sl 1 (u32s R.da)), .pv (.sl 1 (u32s R.ct)), .pv (.sl 1 (ints R.pa)), I .i64 R.v0, I .i64 R.v1, I .i64 R.v2, I .i64 R.v3, I .u32 R.d0, I .u32 R.d1, I .u32 R.d2, I .u32 R.d3, I .i64 R.nv, I .i64 R.nl, I .i64 R.more]))]⟩) (fun i => R.es.length - i.1) ⟨0, by omega⟩ (by simp) ?_
  rintro ⟨i, hi⟩
  by_cases hlt : i < R.es.length
  · have hd : (i : Int) < (R.es.length : Int) := by omega
    have hw : IntKind.wrap .i64 ((i : Int) + 1) = (i : Int) + 1 := wrap64s (by omega) (by omega)
    have hwu := wrap64u (n := i) (by omega)
    have ha : i < R.ad.length := by rw [ok.ad]; exact hlt
    have hda : i < R.da.length := by rw [ok.da]; exact hlt
    have hct : i < R.ct.length := by rw [ok.ct]; exact hlt
    have hpa : i < R.pa.length := by rw [ok.pa]; exact hlt
    have b1 := ub_of (h1 _ (List.getElem_mem ha))
    have b2 := ub_of (h2 _ (List.getElem_mem hda))
    have b3 := ub_of (h3 _ (List.getElem_mem hct))
    have hz := hlow i hlt
    have hpp := hpair i hlt
    generalize BitVec.ofInt 32 R.ad[i] = x1 at *
    generalize BitVec.ofInt 32 R.da[i] = x2 at *
    generalize BitVec.ofInt 32 R.ct[i] = x3 at *
    have hz0 : ub (((x1 ||| x2) ||| x3) >>> i) = 0 := by rw [hz]; rfl
    have hpn : ¬((i : Int) ≤ R.pa[i]) := by omega
    generalize hp : R.pa[i] = p at *
    repeat' (first
 | refine ar_end rfl ?_
 | refine ar_endD rfl (by kernel_rfl) ?_
 | refine ar_fin rfl ?_
 | refine bq_norm ?_
 | refine lq_normN [1, 34, 35] [.loc 1] (by simp; exact rfl) ⟨i + 1, by omega⟩ (by dsimp only; omega) (by simp [])
 | refine ar_go3 _ rfl (by simp [evsL_len, u32s_len, u32s_getE, ints_len, ints_getE, hd, hlt, ha, hda, hct, hpa, ← b1, ← b2, ← b3, ub_or, ub_shr, IntKind.bits, hz0, hp, hpn, hwu, hw, Int.toNat_natCast]; exact ⟨rfl, rfl, rfl⟩) rfl ?_
 | refine aw_sregK 5 [1, 34, 35] ?_
 | refine aw_sregK 6 [1, 34, 35] ?_
 | refine aw_sregKD mixed 7 [1, 4, 34, 35] (by simp; exact rfl) ?_
 | refine aw_ifT (b := true) rfl rfl ?_
 | refine aw_ifF (b := false) rfl rfl ?_
 | refine aw_seq ?_
 | refine aw_block ?_
 | refine aw_skip ?_
 | refine aw_region ?_)
  have hd : ¬(i : Int) < (R.es.length : Int) := by omega
  repeat' (first
 | exact aw_ret (ret_vals (by simp; exact rfl) (by simp [*]; fail_if_success (show _)))
 | refine ar_end rfl ?_
 | refine ar_go3 _ rfl (by simp [hd]; exact ⟨rfl, rfl, rfl⟩) rfl ?_
 | refine aw_sregK 5 [1, 34, 35] ?_
 | refine aw_sregK 10 [] ?_
 | refine aw_ifF (b := false) rfl rfl ?_
 | refine aw_seq ?_
 | refine aw_exit ?_)
set_option maxHeartbeats 16000000 in
theorem c_notfine {R : Rn} (hR : FineR R) : SC Tryz.prog 31 [.agg (trL R)] (B false) := by
  have h := c_xfine hR
  refine scx_of Tryz.func31 rfl rfl rfl (Nat.le_of_ble_eq_true rfl) ?_
  repeat' (first
 | exact aw_ret (ret_vals (by simp; exact rfl) (by simp [*]; fail_if_success (show _)))
 | refine ar_end rfl ?_
 | refine ar_callV Tryz.call32 h rfl rfl rfl rfl rfl (by simp; done) (by rfl) (by simp; done) ?_
 | refine ar_go3 _ rfl (by simp [*]; exact ⟨rfl, rfl, rfl⟩) rfl ?_
 | refine aw_sregK 0 [0] ?_
 | refine aw_sregK 1 [1] ?_)
set_option maxHeartbeats 16000000 in
theorem c_indexfine {ts : List Rn} (hn : ts.length ≤ 1000) (h : ∀ R ∈ ts, FineR R) : SC Tryz.prog 55 [.pv (.sl 16 (trsL ts)), .fn 31 [] []] (I .i64 (-1)) := by
  refine scx_of Tryz.func55 rfl rfl rfl (Nat.le_of_ble_eq_true rfl) ?_
  repeat' (first
 | refine ar_end rfl ?_
 | refine ar_go3 _ rfl (by simp [trsL_len]; exact ⟨rfl, rfl, rfl⟩) rfl ?_
 | refine aw_sregK 0 [0, 1] ?_
 | refine aw_sregK 1 [0, 1] ?_
 | refine aw_seq ?_
 | refine aw_block ?_)
  refine aw_loopN [0, 1, 7, 8] [] (by simp; exact rfl) (ι := {i : Nat // i ≤ ts.length}) (fun i => ⟨19, [(0, .pv (.sl 16 (trsL ts))), (1, .fn 31 [] []), (7, I .i64 ts.length), (8, I .i64 i.1)], []⟩) (fun i => ts.length - i.1) ⟨0, by omega⟩ (by simp) ?_
  rintro ⟨i, hi⟩
  by_cases hlt : i < ts.length
  · have hd : (i : Int) < (ts.length : Int) := by omega
    have hw : IntKind.wrap .i64 ((i : Int) + 1) = (i : Int) + 1 := wrap64s (by omega) (by omega)
    have hF := c_notfine (h _ (List.getElem_mem hlt))
    generalize hx : ts[i] = R at *
    repeat' (first
 | refine ar_end rfl ?_
 | refine ar_fin rfl ?_
 | refine ar_callV Tryz.call31 hF rfl rfl rfl rfl rfl (by simp; done) (by rfl) (by simp; done) ?_
 | refine bq_norm ?_
 | refine lq_normN [0, 1, 7, 8] [] (by simp; exact rfl) ⟨i + 1, by omega⟩ (by dsimp only; omega) (by simp [])
 | refine ar_go3 _ rfl (by simp [trsL_len, trsL_getE, hd, hlt, hx, hw]; exact ⟨rfl, rfl, rfl⟩) rfl ?_
 | refine aw_sregK 2 [0, 1, 7, 8] ?_
 | refine aw_sregK 3 [0, 1, 7, 8] ?_
 | refine aw_sregK 4 [0, 1, 5, 7, 8] ?_
 | refine aw_regK 6 [0, 1, 7, 8] ?_
 | refine aw_ifT (b := true) rfl rfl ?_
 | refine aw_ifF (b := false) rfl rfl ?_
 | refine aw_seq ?_
 | refine aw_block ?_
 | refine aw_skip ?_)
  have hd : ¬(i : Int) < (ts.length : Int) := by omega
  repeat' (first
 | exact aw_ret (ret_vals (by simp; exact rfl) (by simp [*]; fail_if_success (show _)))
 | refine ar_end rfl ?_
 | refine ar_go3 _ rfl (by simp [hd]; exact ⟨rfl, rfl, rfl⟩) rfl ?_
 | refine aw_sregK 2 [0, 1, 7, 8] ?_
 | refine aw_sregK 7 [] ?_
 | refine aw_ifF (b := false) rfl rfl ?_
 | refine aw_seq ?_
 | refine aw_exit ?_)
set_option maxHeartbeats 16000000 in
theorem c_anybad {ts : List Rn} (hn : ts.length ≤ 1000) (h : ∀ R ∈ ts, FineR R) : SC Tryz.prog 30 [.pv (.sl 16 (trsL ts)), .fn 31 [] []] (B false) := by
  have hI := c_indexfine hn h
  refine scx_of Tryz.func30 rfl rfl rfl (Nat.le_of_ble_eq_true rfl) ?_
  repeat' (first
 | exact aw_ret (ret_vals (by simp; exact rfl) (by simp [*]; fail_if_success (show _)))
 | refine ar_end rfl ?_
 | refine ar_callV Tryz.call55 hI rfl rfl rfl rfl rfl (by simp; done) (by rfl) (by simp; done) ?_
 | refine ar_go3 _ rfl (by simp [*]; exact ⟨rfl, rfl, rfl⟩) rfl ?_
 | refine aw_sregK 0 [0, 1] ?_
 | refine aw_sregK 1 [0, 1] ?_)
end Go.Eng
set_option linter.unusedSimpArgs false
set_option linter.unusedVariables false
set_option linter.constructorNameAsVariable false
set_option autoImplicit false
namespace Go.Eng
open Go Go.RowKit Go.Proofs
abbrev exC (n1 n2 : Name) (e : Ex) : List AV := [.own n1, .pv (.sl 1 (rl e.po)), .pv (.sl 1 (rl e.ad)), .pv (.sl 1 (rl e.da)), .pv (.sl 1 (rl e.ct)), .pv (.sl 1 (rl e.rm)), .own n2]
abbrev exN (n0 n1 n2 : Name) (e : Ex) : SMap := [(n0, some (.box 44 (exC n1 n2 e))), (n1, some (.own 104 7 (evsL e.es))), (n2, some (.own 22 1 (rgL e.rg)))]
abbrev exS (e : Ex) : SMap := exN (.ext 0) (.ext 1) (.ext 2) e
def mw (l : List Int) (i : Nat) : Wd := BitVec.ofInt 32 (l.getD i 0)
def Ex.step (e : Ex) (b : Nat) (th : Int) (R : Rn) (i : Nat) : Ex :=
  ⟨e.es ++ [{ R.es.getD i ev0 with th := th }], leadR b (allB i) (b + i) e.po i, leadR b (mw R.ad i) (b + i) e.ad i, leadR b (mw R.da i) (b + i) e.da i, leadR b (mw R.ct i) (b + i) e.ct i,
   if 0 ≤ R.pa.getD i 0 then putR e.rm ((b : Int) + R.pa.getD i 0) ((b + i : Nat) : Int) else e.rm, e.rg⟩
def Ex.up (e : Ex) (b : Nat) (th : Int) (R : Rn) : Nat → Ex
  | 0 => e
  | i + 1 => (Ex.up e b th R i).step b th R i
def Ex.add (e : Ex) (th : Int) (R : Rn) : Ex :=
  { e.up e.es.length th R R.es.length with rg := e.rg ++ [[R.v0, R.v1, R.v2, R.v3]] }
structure ExOk (e : Ex) : Prop where
  po : e.po.length ≤ 32
  ad : e.ad.length ≤ 32
  da : e.da.length ≤ 32
  ct : e.ct.length ≤ 32
  rm : e.rm.length ≤ 32
theorem ExOk.step {e : Ex} (h : ExOk e) (b : Nat) (th : Int) (R : Rn) (i : Nat) : ExOk (e.step b th R i) := by
  refine ⟨lead_le h.po _, lead_le h.ad _, lead_le h.da _, lead_le h.ct _, ?_⟩
  unfold Ex.step
  dsimp only
  split
  · exact put_le _ _ _
  · exact h.rm
theorem ExOk.up {e : Ex} (h : ExOk e) (b : Nat) (th : Int) (R : Rn) : ∀ i, ExOk (e.up b th R i)
  | 0 => h
  | i + 1 => (ExOk.up h b th R i).step b th R i
theorem up_rg (e : Ex) (b : Nat) (th : Int) (R : Rn) : ∀ i, (e.up b th R i).rg = e.rg
  | 0 => rfl
  | i + 1 => up_rg e b th R i
theorem up_len (e : Ex) (b : Nat) (th : Int) (R : Rn) : ∀ i, (e.up b th R i).es.length = e.es.length + i
  | 0 => rfl
  | i + 1 => by
    rw [Ex.up, Ex.step, List.length_append, up_len e b th R i]; rfl
def evN (ts : List Rn) : Nat := (ts.map (·.es.length)).sum
theorem evN_succ {ts : List Rn} {i : Nat} (h : i < ts.length) : evN (ts.take (i + 1)) = evN (ts.take i) + ts[i].es.length := by
  unfold evN
  rw [List.take_add_one, List.getElem?_eq_getElem h, List.map_append, List.sum_append]
  simp
theorem evN_take (ts : List Rn) (i : Nat) : evN (ts.take i) ≤ evN ts := by
  have h : evN ts = evN (ts.take i) + evN (ts.drop i) := by
    conv => lhs; rw [← List.take_append_drop i ts]
    unfold evN
    rw [List.map_append, List.sum_append]
  omega
def joinUp (n : Nat) (ts : List Rn) : Nat → Ex
  | 0 => ⟨[], newR n, newR n, newR n, newR n, newR n, []⟩
  | i + 1 => (joinUp n ts i).add i (ts.getD i Rn0)
def joinF (ts : List Rn) : Ex := joinUp (evN ts) ts ts.length
theorem exadd_ok {e : Ex} (h : ExOk e) (th : Int) (R : Rn) : ExOk (e.add th R) := by
  have := h.up e.es.length th R R.es.length
  exact ⟨this.po, this.ad, this.da, this.ct, this.rm⟩
theorem exadd_len (e : Ex) (th : Int) (R : Rn) : (e.add th R).es.length = e.es.length + R.es.length := up_len e _ _ _ _
theorem join_ok {n : Nat} (h : n ≤ 32) (ts : List Rn) : ∀ i, ExOk (joinUp n ts i)
  | 0 => by
    have e : (newR n).length = n := by simp [newR]
    refine ⟨?_, ?_, ?_, ?_, ?_⟩ <;> (show (newR n).length ≤ 32; omega)
  | i + 1 => exadd_ok (join_ok h ts i) _ _
theorem join_len (n : Nat) (ts : List Rn) : ∀ i, i ≤ ts.length → (joinUp n ts i).es.length = evN (ts.take i)
  | 0, _ => rfl
  | i + 1, h => by
    rw [joinUp, exadd_len, join_len n ts i (by omega), evN_succ (by omega), getD_at (by omega)]
theorem join_rg (n : Nat) (ts : List Rn) : ∀ i, (joinUp n ts i).rg.length = i
  | 0 => rfl
  | i + 1 => by
    rw [joinUp, Ex.add]
    dsimp only
    rw [List.length_append, join_rg n ts i]; rfl
end Go.Eng
