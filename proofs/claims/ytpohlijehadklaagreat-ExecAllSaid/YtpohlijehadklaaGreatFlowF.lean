import Derived.Test.YtpohlijehadklaaGreatFlowE
set_option linter.unusedSimpArgs false
set_option linter.unusedVariables false
set_option linter.constructorNameAsVariable false
set_option autoImplicit false
namespace Go.Eng
open Go Go.RowKit Go.Proofs
abbrev BV (a : Int) : BitVec 32 := BitVec.ofInt 32 a
theorem bv_wrap (x : Int) : BV (IntKind.wrap .u32 x) = BV x := by
  apply BitVec.eq_of_toNat_eq
  simp only [BV, BitVec.toNat_ofInt, IntKind.wrap_u32]
  omega
theorem bv_nat (v : BitVec 32) : BV (v.toNat : Int) = v := by
  apply BitVec.eq_of_toNat_eq
  have := v.isLt
  simp only [BV, BitVec.toNat_ofInt]
  omega
theorem bv_or (a b : Int) : BV (bits .or .u32 a b) = BV a ||| BV b := by
  show BV (IntKind.wrap .u32 ((BV a ||| BV b).toNat : Int)) = _
  rw [bv_wrap, bv_nat]
def Sb (a b : Int) : Prop := BV a &&& ~~~BV b = 0#32
theorem sb_bit {a b : Int} : Sb a b ↔ ∀ i, (BV a).getLsbD i = true → (BV b).getLsbD i = true := by
  unfold Sb
  constructor
  · intro h i hi
    have hlt : i < 32 := by
      by_cases hl : i < 32
      · exact hl
      · rw [BitVec.getLsbD_of_ge _ _ (by omega)] at hi; cases hi
    have := congrArg (fun v => v.getLsbD i) h
    simp only [BitVec.getLsbD_and, BitVec.getLsbD_not, BitVec.getLsbD_zero, hi, Bool.true_and] at this
    simpa [hlt] using this
  · intro h
    apply BitVec.eq_of_getLsbD_eq
    intro i hi
    simp only [BitVec.getLsbD_and, BitVec.getLsbD_not, BitVec.getLsbD_zero]
    cases ha : (BV a).getLsbD i
    · rfl
    · simp [h i ha]
theorem sb_zero (b : Int) : Sb 0 b := by
  rw [sb_bit]; intro i h
  have e : BV 0 = 0#32 := by rfl
  rw [e, BitVec.getLsbD_zero] at h; cases h
theorem sb_refl (b : Int) : Sb b b := sb_bit.2 fun i h => h
theorem Sb.trans {a b c : Int} (h : Sb a b) (k : Sb b c) : Sb a c := sb_bit.2 fun i x => sb_bit.1 k i (sb_bit.1 h i x)
theorem Sb.or {a b c : Int} (h : Sb a c) (k : Sb b c) : Sb (bits .or .u32 a b) c := by
  rw [sb_bit] at *
  intro i hi
  rw [bv_or, BitVec.getLsbD_or, Bool.or_eq_true] at hi
  rcases hi with hi | hi
  · exact h i hi
  · exact k i hi
theorem sb_orl (a b : Int) : Sb a (bits .or .u32 a b) := by
  rw [sb_bit]; intro i hi
  rw [bv_or, BitVec.getLsbD_or, hi, Bool.true_or]
theorem sb_orr (a b : Int) : Sb b (bits .or .u32 a b) := by
  rw [sb_bit]; intro i hi
  rw [bv_or, BitVec.getLsbD_or, hi, Bool.or_true]
def ev0 : Ev := ⟨0, 0, 0, 0, false, false, false⟩
def ldM (es : List Ev) : Nat → Int
  | 0 => 0
  | i + 1 => if (es.getD i ev0).k = 1 then bits .or .u32 (ldM es i) (bitAt i) else ldM es i
def prevC (ct : List Int) : Nat → Int
  | 0 => 0
  | i + 1 => ct.getD i 0
theorem getD_snoc {α : Type} {l : List α} {a d : α} {i : Nat} (h : i < l.length) : (l ++ [a]).getD i d = l.getD i d := by
  simp [List.getD, List.getElem?_append_left h]
theorem getD_last {α : Type} {l : List α} {a d : α} {i : Nat} (h : l.length = i) : (l ++ [a]).getD i d = a := by
  subst h; simp [List.getD]
theorem ldM_snoc {es : List Ev} {e : Ev} : ∀ {i : Nat}, i ≤ es.length → ldM (es ++ [e]) i = ldM es i
  | 0, _ => rfl
  | i + 1, h => by simp only [ldM]; rw [getD_snoc (by omega), ldM_snoc (by omega)]
theorem ldM_up (es : List Ev) (i : Nat) : Sb (ldM es i) (ldM es (i + 1)) := by
  simp only [ldM]; split
  · exact sb_orl _ _
  · exact sb_refl _
theorem prevC_snoc {ct : List Int} {c : Int} : ∀ {i : Nat}, i ≤ ct.length → prevC (ct ++ [c]) i = prevC ct i
  | 0, _ => rfl
  | i + 1, h => by simp only [prevC]; rw [getD_snoc (by omega)]
structure PairOk (es : List Ev) (i : Nat) (e : Ev) (p : Int) : Prop where
  iff : 0 ≤ p ↔ (e.k = 2 ∧ e.ex = true)
  lt : 0 ≤ p → p.toNat < i
  k : 0 ≤ p → (es.getD p.toNat ev0).k = 1 ∧ (es.getD p.toNat ev0).ex = true ∧ (es.getD p.toNat ev0).l = e.l
structure EvOk (es : List Ev) (i : Nat) (e : Ev) (a d c p prev : Int) : Prop where
  ha : Sb a (ldM es i)
  hd : Sb d (ldM es i)
  hc : Sb c (ldM es i)
  hp : Sb prev c
  z : ¬e.k = 2 → d = 0
  k : 1 ≤ e.k ∧ e.k ≤ 6
  th : e.th = 0
  pair : PairOk es i e p
structure HangQ (R : Rn) : Prop where
  ad : R.ad.length = R.es.length
  da : R.da.length = R.es.length
  ct : R.ct.length = R.es.length
  pa : R.pa.length = R.es.length
  ev : ∀ i, i < R.es.length → EvOk R.es i (R.es.getD i ev0) (R.ad.getD i 0) (R.da.getD i 0) (R.ct.getD i 0) (R.pa.getD i 0) (prevC R.ct i)
  d0 : Sb R.d0 (ldM R.es R.es.length)
  d1 : Sb R.d1 (ldM R.es R.es.length)
  d2 : Sb R.d2 (ldM R.es R.es.length)
  d3 : Sb R.d3 (ldM R.es R.es.length)
  ctrl : Sb R.ctrl (ldM R.es R.es.length)
  prev : Sb (prevC R.ct R.es.length) R.ctrl
  last : 0 ≤ R.last → R.last.toNat < R.es.length ∧ (R.es.getD R.last.toNat ev0).k = 1 ∧ (R.es.getD R.last.toNat ev0).ex = true
theorem PairOk.snoc {es : List Ev} {i : Nat} {e e' : Ev} {p : Int} (hi : i ≤ es.length) (h : PairOk es i e p) : PairOk (es ++ [e']) i e p :=
  ⟨h.iff, h.lt, fun hp => by have := h.lt hp; rw [getD_snoc (by omega)]; exact h.k hp⟩
theorem EvOk.snoc {es : List Ev} {i : Nat} {e e' : Ev} {a d c p prev : Int} (hi : i ≤ es.length) (h : EvOk es i e a d c p prev) : EvOk (es ++ [e']) i e a d c p prev := by
  refine ⟨?_, ?_, ?_, h.hp, h.z, h.k, h.th, h.pair.snoc hi⟩
  all_goals rw [ldM_snoc hi]
  · exact h.ha
  · exact h.hd
  · exact h.hc
theorem hang_event {R : Rn} (h : HangQ R) {e : Ev} {a d p : Int} (ha : Sb a (ldM R.es R.es.length)) (hd : Sb d (ldM R.es R.es.length)) (hz : ¬e.k = 2 → d = 0) (hk : 1 ≤ e.k ∧ e.k ≤ 6) (hth : e.th = 0) (hp : PairOk R.es R.es.length e p) : HangQ (R.event e a d p) := by
  have hN : (R.es ++ [e]).length = R.es.length + 1 := by simp
  have hup : Sb (ldM R.es R.es.length) (ldM (R.es ++ [e]) (R.es.length + 1)) := by
    rw [← ldM_snoc (e := e) (Nat.le_refl _)]; exact ldM_up _ _
  refine ⟨by simp [Rn.event, h.ad], by simp [Rn.event, h.da], by simp [Rn.event, h.ct], by simp [Rn.event, h.pa], ?_, ?_, ?_, ?_, ?_, ?_, ?_, ?_⟩
  · intro i hi
    simp only [Rn.event] at hi ⊢
    rw [hN] at hi
    by_cases hl : i < R.es.length
    · rw [getD_snoc hl, getD_snoc (by rw [h.ad]; exact hl), getD_snoc (by rw [h.da]; exact hl), getD_snoc (by rw [h.ct]; exact hl), getD_snoc (by rw [h.pa]; exact hl), prevC_snoc (by rw [h.ct]; omega)]
      exact (h.ev i hl).snoc (by omega)
    · have he : i = R.es.length := by omega
      subst he
      rw [getD_last rfl, getD_last h.ad, getD_last h.da, getD_last h.ct, getD_last h.pa, prevC_snoc (by rw [h.ct]; omega)]
      exact EvOk.snoc (Nat.le_refl _) ⟨ha, hd, h.ctrl, h.prev, hz, hk, hth, hp⟩
  · show Sb R.d0 _; simp only [Rn.event, hN]; exact h.d0.trans hup
  · show Sb R.d1 _; simp only [Rn.event, hN]; exact h.d1.trans hup
  · show Sb R.d2 _; simp only [Rn.event, hN]; exact h.d2.trans hup
  · show Sb R.d3 _; simp only [Rn.event, hN]; exact h.d3.trans hup
  · show Sb R.ctrl _; simp only [Rn.event, hN]; exact h.ctrl.trans hup
  · simp only [Rn.event, hN, prevC]; rw [getD_last h.ct]; exact sb_refl _
  · intro hl
    obtain ⟨q1, q2, q3⟩ := h.last hl
    simp only [Rn.event, hN]
    rw [getD_snoc q1]
    exact ⟨by omega, q2, q3⟩
theorem Sb.ite {c : Prop} [Decidable c] {a b m : Int} (h : Sb a m) (k : Sb b m) : Sb (if c then a else b) m := by split <;> assumption
theorem hang_reg {R : Rn} (h : HangQ R) {n v d : Int} (hd : Sb d (ldM R.es R.es.length)) : HangQ (R.reg n v d) :=
  ⟨h.ad, h.da, h.ct, h.pa, h.ev, Sb.ite hd h.d0, Sb.ite hd h.d1, Sb.ite hd h.d2, Sb.ite hd h.d3, h.ctrl, h.prev, h.last⟩
theorem hang_gd {R : Rn} (h : HangQ R) (n : Int) : Sb (R.gd n) (ldM R.es R.es.length) := by
  unfold Rn.gd get4; exact Sb.ite h.d0 (Sb.ite h.d1 (Sb.ite h.d2 (Sb.ite h.d3 (sb_zero _))))
theorem hang_adr {R : Rn} (h : HangQ R) (x : In) (locs : Int) : Sb (R.adr x locs) (ldM R.es R.es.length) := by
  unfold Rn.adr; exact Sb.ite (sb_zero _) (hang_gd h _)
theorem no_pair {es : List Ev} {i : Nat} {e : Ev} (h : ¬(e.k = 2 ∧ e.ex = true)) : PairOk es i e (-1) :=
  ⟨⟨fun h' => absurd h' (by omega), fun h' => absurd h' h⟩, fun h' => absurd h' (by omega), fun h' => absurd h' (by omega)⟩
theorem run_hang {th : List In} {locs : Int} {vals : List Int} {lucks : List Bool} : HangQ (runF th locs vals lucks) := by
  refine (run_ind (Q := HangQ) ?_ (fun R h => ⟨h.ad, h.da, h.ct, h.pa, h.ev, h.d0, h.d1, h.d2, h.d3, h.ctrl, h.prev, h.last⟩) ?_).1
  · exact ⟨rfl, rfl, rfl, rfl, fun i hi => by simp [Rn0] at hi, sb_zero _, sb_zero _, sb_zero _, sb_zero _, sb_zero _, sb_zero _, fun h => by simp [Rn0] at h⟩
  intro l1 l3 R x β k hx hI hk hm hβ h0 hQ
  have same : ∀ R' : Rn, R'.es = R.es → R'.ad = R.ad → R'.da = R.da → R'.ct = R.ct → R'.pa = R.pa → R'.d0 = R.d0 → R'.d1 = R.d1 → R'.d2 = R.d2 → R'.d3 = R.d3 → R'.ctrl = R.ctrl → R'.last < 0 ∨ R'.last = R.last → HangQ R' := by
    intro R' e1 e2 e3 e4 e5 e6 e7 e8 e9 e10 e11
    refine ⟨by rw [e1, e2]; exact hQ.ad, by rw [e1, e3]; exact hQ.da, by rw [e1, e4]; exact hQ.ct, by rw [e1, e5]; exact hQ.pa, by rw [e1, e2, e3, e4, e5]; exact hQ.ev, by rw [e1, e6]; exact hQ.d0, by rw [e1, e7]; exact hQ.d1, by rw [e1, e8]; exact hQ.d2, by rw [e1, e9]; exact hQ.d3, by rw [e1, e10]; exact hQ.ctrl, by rw [e1, e4, e10]; exact hQ.prev, ?_⟩
    rcases e11 with e11 | e11
    · intro h; omega
    · rw [e1, e11]; exact hQ.last
  refine step_elim (M := HangQ) (fun h1 h => ?_) (fun _ _ => same _ rfl rfl rfl rfl rfl rfl rfl rfl rfl rfl (.inr rfl)) (fun _ h he hkk hb => ?_) (fun _ _ _ _ => ?_) (fun _ _ _ => same _ rfl rfl rfl rfl rfl rfl rfl rfl rfl rfl (.inr rfl)) (fun _ _ => ?_) (fun _ => ?_) (fun h => ?_) (fun _ => ?_) (fun _ => ?_)
  · have I1 : HangQ (R.load1 x locs vals[R.nv.toNat]) := by
      unfold Rn.load1
      exact hang_event (same { R with nv := R.nv + 1 } rfl rfl rfl rfl rfl rfl rfl rfl rfl rfl (.inr rfl)) (hang_adr hQ x locs) (sb_zero _) (fun _ => rfl) ⟨by dsimp only; omega, by dsimp only; omega⟩ rfl (no_pair (by simp))
    have hes : (R.load1 x locs vals[R.nv.toNat]).es = R.es ++ [⟨0, 1, R.loc x locs, vals[R.nv.toNat], decide (x.op = 7), false, decide (x.op = 9)⟩] := rfl
    have hbit : Sb (bitAt R.es.length) (ldM (R.load1 x locs vals[R.nv.toNat]).es (R.load1 x locs vals[R.nv.toNat]).es.length) := by
      rw [hes, List.length_append]
      show Sb _ (ldM _ (R.es.length + 1))
      simp only [ldM]
      rw [getD_last rfl, if_pos rfl]
      exact sb_orr _ _
    unfold Rn.load
    split
    · rename_i h9
      refine hang_reg ?_ hbit
      refine ⟨I1.ad, I1.da, I1.ct, I1.pa, I1.ev, I1.d0, I1.d1, I1.d2, I1.d3, I1.ctrl, I1.prev, ?_⟩
      intro _
      show ((R.es.length : Int)).toNat < (R.load1 x locs vals[R.nv.toNat]).es.length ∧ ((R.load1 x locs vals[R.nv.toNat]).es.getD ((R.es.length : Int)).toNat ev0).k = 1 ∧ ((R.load1 x locs vals[R.nv.toNat]).es.getD ((R.es.length : Int)).toNat ev0).ex = true
      rw [hes, Int.toNat_natCast, getD_last rfl]
      exact ⟨by simp, rfl, by simp [h9]⟩
    · exact hang_reg I1 hbit
  · unfold Rn.exclY
    have hQ' : HangQ { R with last := -1, nl := R.nl + 1 } := same { R with last := -1, nl := R.nl + 1 } rfl rfl rfl rfl rfl rfl rfl rfl rfl rfl (.inl (by show (-1 : Int) < 0; omega))
    obtain ⟨q1, q2, q3⟩ := hQ.last h.1
    refine hang_reg ?_ (sb_zero _)
    unfold Rn.store
    refine hang_event hQ' (hang_adr hQ' x locs) (hang_gd hQ' _) (fun hn => absurd rfl hn) ⟨by dsimp only; omega, by dsimp only; omega⟩ rfl ⟨⟨fun _ => ⟨rfl, by simp [h.1]⟩, fun _ => h.1⟩, fun _ => q1, fun _ => ⟨q2, q3, ?_⟩⟩
    have : (R.es.getD R.last.toNat ev0) = R.es[R.last.toNat]'h.2 := by simp [List.getD, h.2]
    show (R.es.getD R.last.toNat ev0).l = _
    rw [this, he]; rfl
  · unfold Rn.exclN
    exact hang_reg (same { R with last := -1, nl := R.nl + 1 } rfl rfl rfl rfl rfl rfl rfl rfl rfl rfl (.inl (by show (-1 : Int) < 0; omega))) (sb_zero _)
  · unfold Rn.excl0
    exact hang_reg (same { R with last := -1 } rfl rfl rfl rfl rfl rfl rfl rfl rfl rfl (.inl (by show (-1 : Int) < 0; omega))) (sb_zero _)
  · unfold Rn.store
    exact hang_event hQ (hang_adr hQ x locs) (hang_gd hQ _) (fun hn => absurd rfl hn) ⟨by dsimp only; omega, by dsimp only; omega⟩ rfl (no_pair (by simp))
  · unfold Rn.fence
    obtain ⟨q, e, q1, q2⟩ := fence_k hm h
    rw [e]
    exact hang_event hQ (sb_zero _) (sb_zero _) (fun _ => rfl) ⟨by dsimp only; omega, by dsimp only; omega⟩ rfl (no_pair (by simp))
  · refine ⟨hQ.ad, hQ.da, hQ.ct, hQ.pa, hQ.ev, hQ.d0, hQ.d1, hQ.d2, hQ.d3, ?_, ?_, hQ.last⟩
    · exact Sb.or hQ.ctrl (hang_gd hQ _)
    · exact hQ.prev.trans (sb_orl _ _)
  · unfold Rn.alone
    split
    · exact hang_reg hQ (sb_zero _)
    · exact hang_reg hQ (Sb.or (hang_gd hQ _) (hang_gd hQ _))
theorem getD_at {α : Type} {l : List α} {d : α} {i : Nat} (h : i < l.length) : l.getD i d = l[i] := by simp [List.getD, h]
end Go.Eng
