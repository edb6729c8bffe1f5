import Derived.Test.YtpohlijehadklaaGreatExecF
import Derived.Test.YtpohlijehadklaaGreatExecA
import Derived.Test.YtpohlijehadklaaGreatFlowA
set_option linter.unusedSimpArgs false
set_option linter.unusedVariables false
set_option linter.constructorNameAsVariable false
set_option autoImplicit false
namespace Go.Eng
open Go Go.RowKit Go.Proofs
theorem put_bit {n : Nat} {r : RL} (h : Cl n r) {i k : Nat} (hi : i < n) (hk : k < n) : Cl n (putR r (i : Int) (k : Int)) ∧ ∀ x y, bitR (putR r (i : Int) (k : Int)) x y = (bitR r x y || (decide (x = i) && decide (y = k))) := by
  have h32 := h.n32
  have hl := h.len
  have hk32 : k < 32 := by omega
  rw [put_cl h hi hk]
  have hb : ∀ x y, bitR (addR r (i, k)) x y = (bitR r x y || (decide (x = i) && decide (y = k))) := fun x y => by
    rw [add_bit, hl]
    by_cases hx : x = i
    · subst hx
      by_cases hy : y = k
      · subst hy; simp [hi, hk32]
      · simp [hy]
    · simp [hx]
  refine ⟨⟨h32, by rw [addR_len]; exact hl, fun x y hy => ?_⟩, hb⟩
  rw [hb, h.out x y hy]
  simp; omega
theorem lead_bit {n : Nat} {r : RL} {b to : Nat} {w : Wd} (h : Cl n r) (ht : to < n) : ∀ i, b + i ≤ to →
    Cl n (leadR b w to r i) ∧ ∀ x y, bitR (leadR b w to r i) x y = (bitR r x y || (decide (y = to) && (decide (b ≤ x ∧ x < b + i) && w.getLsbD (x - b))))
  | 0, _ => ⟨h, fun x y => by
    have : ¬(b ≤ x ∧ x < b + 0) := by omega
    rw [leadR]; simp only [this, decide_false, Bool.false_and, Bool.and_false, Bool.or_false]⟩
  | i + 1, hi => by
    obtain ⟨c, hb⟩ := lead_bit h ht i (by omega) (b := b) (w := w)
    rw [leadR]
    cases hw : w.getLsbD i
    · rw [if_neg (by decide)]
      refine ⟨c, fun x y => ?_⟩
      rw [hb]
      congr 2
      by_cases hx : x = b + i
      · subst hx
        have h1 : ¬(b ≤ b + i ∧ b + i < b + i) := by omega
        have h2 : b + i - b = i := by omega
        simp only [h1, decide_false, Bool.false_and, h2, hw, Bool.and_false]
      · have : (b ≤ x ∧ x < b + (i + 1)) ↔ (b ≤ x ∧ x < b + i) := by omega
        simp only [this]
    · rw [if_pos rfl]
      obtain ⟨c2, hb2⟩ := put_bit c (i := b + i) (k := to) (by omega) ht
      refine ⟨c2, fun x y => ?_⟩
      rw [hb2, hb, Bool.or_assoc]
      congr 1
      by_cases hx : x = b + i
      · subst hx
        have h1 : ¬(b ≤ b + i ∧ b + i < b + i) := by omega
        have h3 : (b ≤ b + i ∧ b + i < b + (i + 1)) := by omega
        have h2 : b + i - b = i := by omega
        rw [decide_eq_false h1, decide_eq_true h3, h2, hw, decide_eq_true (rfl : b + i = b + i)]
        cases decide (y = to) <;> rfl
      · have h4 : (b ≤ x ∧ x < b + (i + 1)) ↔ (b ≤ x ∧ x < b + i) := by omega
        simp only [h4, hx, decide_false, Bool.false_and, Bool.or_false]
def relUp (o : Nat) (m : Nat → Wd) (r : RL) : Nat → RL
  | 0 => r
  | k + 1 => leadR o (m k) (o + k) (relUp o m r k) k
def rmUp (o : Nat) (p : Nat → Int) (r : RL) : Nat → RL
  | 0 => r
  | k + 1 => if 0 ≤ p k then putR (rmUp o p r k) ((o : Int) + p k) ((o + k : Nat) : Int) else rmUp o p r k
abbrev inSeg (o k x y : Nat) : Prop := o ≤ x ∧ x < y ∧ y < o + k
theorem relUp_bit {n o : Nat} {m : Nat → Wd} {r : RL} (h : Cl n r) (hr : ∀ x y, o ≤ y → bitR r x y = false) : ∀ k, o + k ≤ n →
    Cl n (relUp o m r k) ∧ ∀ x y, bitR (relUp o m r k) x y = (bitR r x y || (decide (inSeg o k x y) && (m (y - o)).getLsbD (x - o)))
  | 0, _ => ⟨h, fun x y => by
    have : ¬inSeg o 0 x y := by unfold inSeg; omega
    rw [relUp]; simp only [this, decide_false, Bool.false_and, Bool.or_false]⟩
  | k + 1, hk => by
    obtain ⟨c, hb⟩ := relUp_bit h hr k (by omega) (m := m)
    rw [relUp]
    obtain ⟨c2, hb2⟩ := lead_bit c (b := o) (to := o + k) (w := m k) (by omega) k (by omega)
    refine ⟨c2, fun x y => ?_⟩
    rw [hb2, hb, Bool.or_assoc]
    congr 1
    by_cases hy : y = o + k
    · subst hy
      have h1 : ¬inSeg o k x (o + k) := by unfold inSeg; omega
      have h2 : inSeg o (k + 1) x (o + k) ↔ (o ≤ x ∧ x < o + k) := by unfold inSeg; omega
      have h3 : o + k - o = k := by omega
      simp only [h1, h2, h3, decide_false, decide_true, Bool.false_and, Bool.false_or, Bool.true_and]
    · have h2 : inSeg o (k + 1) x y ↔ inSeg o k x y := by unfold inSeg; omega
      simp only [h2, hy, decide_false, Bool.false_and, Bool.or_false]
def pw (p : Int) : Wd := if 0 ≤ p then 1#32 <<< p.toNat else 0#32
theorem pw_bit {p : Int} {k j : Nat} (hp : p < (k : Int)) (hk : k ≤ 32) : (pw p).getLsbD j = decide (p = (j : Int)) := by
  unfold pw
  split
  · rw [shl1_bit]
    by_cases h : p = (j : Int)
    · subst h
      have : j < 32 := by omega
      simp [this]
    · have h2 : ¬j = p.toNat := by omega
      simp [h, h2]
  · have : ¬p = (j : Int) := by omega
    simp [this]
theorem rmUp_bit {n o : Nat} {p : Nat → Int} {r : RL} (h : Cl n r) : ∀ k, o + k ≤ n → (∀ j, j < k → p j < (j : Int)) →
    Cl n (rmUp o p r k) ∧ ∀ x y, bitR (rmUp o p r k) x y = (bitR r x y || (decide (inSeg o k x y) && (pw (p (y - o))).getLsbD (x - o)))
  | 0, _, _ => ⟨h, fun x y => by
    have : ¬inSeg o 0 x y := by unfold inSeg; omega
    rw [rmUp]; simp only [this, decide_false, Bool.false_and, Bool.or_false]⟩
  | k + 1, hk, hp => by
    have h32 := h.n32
    obtain ⟨c, hb⟩ := rmUp_bit (o := o) (p := p) h k (by omega) (fun j hj => hp j (by omega))
    have hpk := hp k (by omega)
    rw [rmUp]
    by_cases h0 : 0 ≤ p k
    · rw [if_pos h0]
      have e : (o : Int) + p k = ((o + (p k).toNat : Nat) : Int) := by omega
      rw [e]
      obtain ⟨c2, hb2⟩ := put_bit (i := o + (p k).toNat) (k := o + k) c (by omega) (by omega)
      refine ⟨c2, fun x y => ?_⟩
      rw [hb2, hb, Bool.or_assoc]
      congr 1
      by_cases hy : y = o + k
      · subst hy
        have h1 : ¬inSeg o k x (o + k) := by unfold inSeg; omega
        have h3 : o + k - o = k := by omega
        rw [h3, pw_bit hpk (by omega)]
        simp only [h1, decide_false, decide_true, Bool.false_and, Bool.false_or, Bool.and_true]
        by_cases hx : x = o + (p k).toNat
        · have h5 : inSeg o (k + 1) x (o + k) := by unfold inSeg; omega
          have h6 : p k = ((x - o : Nat) : Int) := by omega
          simp only [hx, decide_true]
          rw [hx] at h5 h6
          rw [decide_eq_true h5, decide_eq_true h6]; rfl
        · rw [decide_eq_false hx]
          by_cases h5 : inSeg o (k + 1) x (o + k)
          · have h6 : ¬p k = ((x - o : Nat) : Int) := by unfold inSeg at h5; omega
            rw [decide_eq_false h6, Bool.and_false]
          · rw [decide_eq_false h5, Bool.false_and]
      · have h2 : inSeg o (k + 1) x y ↔ inSeg o k x y := by unfold inSeg; omega
        simp only [h2, hy, decide_false, Bool.and_false, Bool.or_false]
    · rw [if_neg h0]
      refine ⟨c, fun x y => ?_⟩
      rw [hb]
      congr 1
      by_cases hy : y = o + k
      · subst hy
        have h1 : ¬inSeg o k x (o + k) := by unfold inSeg; omega
        have h3 : o + k - o = k := by omega
        rw [h3]
        have h7 : pw (p k) = 0#32 := by unfold pw; rw [if_neg h0]
        rw [h7, decide_eq_false h1]; simp
      · have h2 : inSeg o (k + 1) x y ↔ inSeg o k x y := by unfold inSeg; omega
        simp only [h2]
def offs (ts : List Rn) (j : Nat) : Nat := evN (ts.take j)
abbrev trN (ts : List Rn) (j : Nat) : Rn := ts.getD j Rn0
theorem offs_succ {ts : List Rn} {j : Nat} (h : j < ts.length) : offs ts (j + 1) = offs ts j + (trN ts j).es.length := by
  unfold offs
  rw [evN_succ h, trN, getD_at h]
theorem offs_all (ts : List Rn) : offs ts ts.length = evN ts := by unfold offs; rw [List.take_length]
theorem offs_le (ts : List Rn) (j : Nat) : offs ts j ≤ evN ts := evN_take ts j
theorem offs_mono {ts : List Rn} {a b : Nat} (h : a ≤ b) (hb : b ≤ ts.length) : offs ts a ≤ offs ts b := by
  induction b with
  | zero => have : a = 0 := by omega
            subst this; exact Nat.le_refl _
  | succ b ih =>
    by_cases e : a = b + 1
    · subst e; exact Nat.le_refl _
    · have := ih (by omega) (by omega)
      rw [offs_succ (by omega)]; omega
def relJ (n : Nat) (ts : List Rn) (M : Rn → Nat → Wd) : Nat → RL
  | 0 => newR n
  | i + 1 => relUp (offs ts i) (M (trN ts i)) (relJ n ts M i) (trN ts i).es.length
def rmJ (n : Nat) (ts : List Rn) : Nat → RL
  | 0 => newR n
  | i + 1 => rmUp (offs ts i) (fun k => (trN ts i).pa.getD k 0) (rmJ n ts i) (trN ts i).es.length
/-- y and x are of one thread, x ahead, and the thread's mask at y has x. -/
def hasJ (ts : List Rn) (M : Rn → Nat → Wd) (i x y : Nat) : Prop := ∃ j, j < i ∧ inSeg (offs ts j) (trN ts j).es.length x y ∧ (M (trN ts j) (y - offs ts j)).getLsbD (x - offs ts j) = true
theorem hasJ_zero (ts : List Rn) (M : Rn → Nat → Wd) (x y : Nat) : ¬hasJ ts M 0 x y := fun ⟨j, h, _⟩ => by omega
theorem hasJ_succ (ts : List Rn) (M : Rn → Nat → Wd) (i x y : Nat) : hasJ ts M (i + 1) x y ↔ hasJ ts M i x y ∨ (inSeg (offs ts i) (trN ts i).es.length x y ∧ (M (trN ts i) (y - offs ts i)).getLsbD (x - offs ts i) = true) := by
  constructor
  · rintro ⟨j, h1, h2, h3⟩
    by_cases e : j = i
    · subst e; exact .inr ⟨h2, h3⟩
    · exact .inl ⟨j, by omega, h2, h3⟩
  · rintro (⟨j, h1, h2⟩ | h)
    · exact ⟨j, by omega, h2⟩
    · exact ⟨i, by omega, h⟩
theorem hasJ_lt {ts : List Rn} {M : Rn → Nat → Wd} {i x y : Nat} (hi : i ≤ ts.length) (h : hasJ ts M i x y) : y < offs ts i := by
  obtain ⟨j, h1, ⟨_, _, h3⟩, _⟩ := h
  have := offs_mono (ts := ts) (a := j + 1) (b := i) (by omega) hi
  rw [offs_succ (by omega)] at this
  omega
theorem newR_cl {n : Nat} (h : n ≤ 32) : Cl n (newR n) := ⟨h, by simp [newR], fun i k _ => bit_new n i k⟩
theorem relJ_bit {n : Nat} {ts : List Rn} {M : Rn → Nat → Wd} (hn : n = evN ts) (h32 : n ≤ 32) : ∀ i, i ≤ ts.length → Cl n (relJ n ts M i) ∧ ∀ x y, bitR (relJ n ts M i) x y = true ↔ hasJ ts M i x y
  | 0, _ => ⟨newR_cl h32, fun x y => by
    rw [relJ, newR, bit_new]
    exact ⟨fun h => (by cases h), fun h => absurd h (hasJ_zero _ _ _ _)⟩⟩
  | i + 1, hi => by
    obtain ⟨c, hb⟩ := relJ_bit hn h32 i (by omega) (M := M)
    have h1 := offs_succ (ts := ts) (j := i) (by omega)
    have h2 := offs_le ts (i + 1)
    rw [relJ]
    obtain ⟨c2, hb2⟩ := relUp_bit (o := offs ts i) (m := M (trN ts i)) c (fun x y hy => by
      cases hc : bitR (relJ n ts M i) x y
      · rfl
      · have := hasJ_lt (by omega) ((hb x y).1 hc); omega) (trN ts i).es.length (by omega)
    refine ⟨c2, fun x y => ?_⟩
    rw [hb2, Bool.or_eq_true, hb, hasJ_succ, Bool.and_eq_true, decide_eq_true_eq]
theorem rmJ_bit {n : Nat} {ts : List Rn} (hn : n = evN ts) (h32 : n ≤ 32) (hf : ∀ R ∈ ts, FineR R) : ∀ i, i ≤ ts.length → Cl n (rmJ n ts i) ∧ ∀ x y, bitR (rmJ n ts i) x y = true ↔ hasJ ts (fun R k => pw (R.pa.getD k 0)) i x y
  | 0, _ => ⟨newR_cl h32, fun x y => by
    rw [rmJ, newR, bit_new]
    exact ⟨fun h => (by cases h), fun h => absurd h (hasJ_zero _ _ _ _)⟩⟩
  | i + 1, hi => by
    obtain ⟨c, hb⟩ := rmJ_bit hn h32 hf i (by omega)
    have h1 := offs_succ (ts := ts) (j := i) (by omega)
    have h2 := offs_le ts (i + 1)
    rw [rmJ]
    have hR := hf _ (List.getElem_mem (l := ts) (n := i) (by omega))
    have e : trN ts i = ts[i] := getD_at (by omega)
    obtain ⟨c2, hb2⟩ := rmUp_bit (o := offs ts i) (p := fun k => (trN ts i).pa.getD k 0) c (trN ts i).es.length (by omega) (fun j hj => by
      rw [e] at hj ⊢
      have h3 := hR.pair j hj
      show (ts[i]).pa.getD j 0 < (j : Int)
      rw [getD_at (by rw [hR.ok.pa]; exact hj)]; exact h3)
    refine ⟨c2, fun x y => ?_⟩
    rw [hb2, Bool.or_eq_true, hb, hasJ_succ, Bool.and_eq_true, decide_eq_true_eq]
theorem up_rel (e : Ex) (b : Nat) (th : Int) (R : Rn) : ∀ k, (e.up b th R k).po = relUp b allB e.po k ∧ (e.up b th R k).ad = relUp b (mw R.ad) e.ad k ∧ (e.up b th R k).da = relUp b (mw R.da) e.da k ∧ (e.up b th R k).ct = relUp b (mw R.ct) e.ct k ∧ (e.up b th R k).rm = rmUp b (fun k => R.pa.getD k 0) e.rm k
  | 0 => ⟨rfl, rfl, rfl, rfl, rfl⟩
  | k + 1 => by
    obtain ⟨h1, h2, h3, h4, h5⟩ := up_rel e b th R k
    rw [Ex.up, Ex.step, relUp, relUp, relUp, relUp, rmUp, h1, h2, h3, h4, h5]
    exact ⟨rfl, rfl, rfl, rfl, rfl⟩
theorem join_rel (n : Nat) (ts : List Rn) : ∀ i, i ≤ ts.length → (joinUp n ts i).po = relJ n ts (fun _ => allB) i ∧ (joinUp n ts i).ad = relJ n ts (fun R => mw R.ad) i ∧ (joinUp n ts i).da = relJ n ts (fun R => mw R.da) i ∧ (joinUp n ts i).ct = relJ n ts (fun R => mw R.ct) i ∧ (joinUp n ts i).rm = rmJ n ts i
  | 0, _ => ⟨rfl, rfl, rfl, rfl, rfl⟩
  | i + 1, hi => by
    obtain ⟨h1, h2, h3, h4, h5⟩ := join_rel n ts i (by omega)
    have hl := join_len n ts i (by omega)
    obtain ⟨g1, g2, g3, g4, g5⟩ := up_rel (joinUp n ts i) (offs ts i) i (trN ts i) (trN ts i).es.length
    rw [joinUp, Ex.add, hl]
    refine ⟨?_, ?_, ?_, ?_, ?_⟩
    · exact g1.trans (by rw [h1]; rfl)
    · exact g2.trans (by rw [h2]; rfl)
    · exact g3.trans (by rw [h3]; rfl)
    · exact g4.trans (by rw [h4]; rfl)
    · exact g5.trans (by rw [h5]; rfl)
end Go.Eng
set_option linter.unusedSimpArgs false
set_option linter.unusedVariables false
set_option linter.constructorNameAsVariable false
set_option autoImplicit false
namespace Go.Eng
open Go Go.RowKit Go.Proofs
def pjF (o : Nat) (q : Nat → Bool) (k : Nat) : Nat → List (Nat × Nat)
  | 0 => []
  | j + 1 => pjF o q k j ++ (if q j = true then [(o + j, o + k)] else [])
def ptF (o : Nat) (q : Nat → Nat → Bool) : Nat → List (Nat × Nat)
  | 0 => []
  | k + 1 => ptF o q k ++ pjF o (q k) k k
def pJ (ts : List Rn) (Q : Rn → Nat → Nat → Bool) : Nat → List (Nat × Nat)
  | 0 => []
  | i + 1 => pJ ts Q i ++ ptF (offs ts i) (Q (trN ts i)) (trN ts i).es.length
theorem pj_len (o : Nat) (q : Nat → Bool) (k : Nat) : ∀ j, (pjF o q k j).length ≤ j
  | 0 => by simp [pjF]
  | j + 1 => by
    rw [pjF, List.length_append]
    have := pj_len o q k j
    split <;> simp <;> omega
theorem pt_len (o : Nat) (q : Nat → Nat → Bool) : ∀ k, (ptF o q k).length ≤ k * k
  | 0 => by simp [ptF]
  | k + 1 => by
    rw [ptF, List.length_append]
    have h1 := pt_len o q k
    have h2 := pj_len o (q k) k k
    have h3 : (k + 1) * (k + 1) = k * k + 2 * k + 1 := by rw [Nat.succ_mul, Nat.mul_succ]; omega
    omega
theorem pJ_len {ts : List Rn} (h8 : ∀ R ∈ ts, R.es.length ≤ 8) (Q : Rn → Nat → Nat → Bool) : ∀ i, i ≤ ts.length → (pJ ts Q i).length ≤ i * 64
  | 0, _ => by simp [pJ]
  | i + 1, hi => by
    rw [pJ, List.length_append, Nat.succ_mul]
    have h1 := pJ_len h8 Q i (by omega)
    have h2 := pt_len (offs ts i) (Q (trN ts i)) (trN ts i).es.length
    have h3 : (trN ts i).es.length ≤ 8 := by rw [trN, getD_at (by omega)]; exact h8 _ (List.getElem_mem (by omega))
    have h4 := Nat.mul_le_mul h3 h3
    omega
theorem mem_pj {o : Nat} {q : Nat → Bool} {k : Nat} {x y : Nat} : ∀ j, (x, y) ∈ pjF o q k j ↔ ∃ i, i < j ∧ q i = true ∧ x = o + i ∧ y = o + k
  | 0 => by simp [pjF]
  | j + 1 => by
    rw [pjF, List.mem_append, mem_pj j]
    constructor
    · rintro (⟨i, h1, h2⟩ | h)
      · exact ⟨i, by omega, h2⟩
      · split at h
        · rename_i hq
          rw [List.mem_singleton, Prod.mk.injEq] at h
          exact ⟨j, by omega, hq, h.1, h.2⟩
        · cases h
    · rintro ⟨i, h1, h2, h3, h4⟩
      by_cases e : i = j
      · subst e; right; rw [if_pos h2, h3, h4]; simp
      · exact .inl ⟨i, by omega, h2, h3, h4⟩
theorem mem_pt {o : Nat} {q : Nat → Nat → Bool} {x y : Nat} : ∀ k, (x, y) ∈ ptF o q k ↔ inSeg o k x y ∧ q (y - o) (x - o) = true
  | 0 => by simp [ptF, inSeg]; omega
  | k + 1 => by
    rw [ptF, List.mem_append, mem_pt k, mem_pj]
    constructor
    · rintro (⟨h1, h2⟩ | ⟨i, h1, h2, rfl, rfl⟩)
      · exact ⟨by unfold inSeg at *; omega, h2⟩
      · refine ⟨by unfold inSeg; omega, ?_⟩
        rw [show o + k - o = k by omega, show o + i - o = i by omega]; exact h2
    · rintro ⟨h1, h2⟩
      unfold inSeg at h1
      by_cases e : y = o + k
      · subst e
        rw [show o + k - o = k by omega] at h2
        exact .inr ⟨x - o, by omega, h2, by omega, rfl⟩
      · exact .inl ⟨by unfold inSeg; omega, h2⟩
theorem mem_pJ {ts : List Rn} {Q : Rn → Nat → Nat → Bool} {x y : Nat} : ∀ i, (x, y) ∈ pJ ts Q i ↔ ∃ j, j < i ∧ inSeg (offs ts j) (trN ts j).es.length x y ∧ Q (trN ts j) (y - offs ts j) (x - offs ts j) = true
  | 0 => by simp [pJ]
  | i + 1 => by
    rw [pJ, List.mem_append, mem_pJ i, mem_pt]
    constructor
    · rintro (⟨j, h1, h2⟩ | h)
      · exact ⟨j, by omega, h2⟩
      · exact ⟨i, by omega, h⟩
    · rintro ⟨j, h1, h2⟩
      by_cases e : j = i
      · subst e; exact .inr h2
      · exact .inl ⟨j, by omega, h2⟩
theorem pJ_in {ts : List Rn} {Q : Rn → Nat → Nat → Bool} : ∀ p ∈ pJ ts Q ts.length, p.1 < evN ts ∧ p.2 < evN ts := by
  rintro ⟨x, y⟩ hp
  obtain ⟨j, hj, ⟨h1, h2, h3⟩, _⟩ := (mem_pJ _).1 hp
  have := offs_mono (ts := ts) (a := j + 1) (b := ts.length) (by omega) (Nat.le_refl _)
  rw [offs_succ (by omega), offs_all] at this
  exact ⟨by dsimp only; omega, by dsimp only; omega⟩
/-- A relation that has just what a mask says is what the document makes of its list of pairs. -/
theorem made_eq {ts : List Rn} {r : RL} {M : Rn → Nat → Wd} {Q : Rn → Nat → Nat → Bool} (h32 : evN ts ≤ 32) (hc : Cl (evN ts) r) (hb : ∀ x y, bitR r x y = true ↔ hasJ ts M ts.length x y)
    (hq : ∀ j, j < ts.length → ∀ k, k < (trN ts j).es.length → ∀ i, i < k → Q (trN ts j) k i = (M (trN ts j) k).getLsbD i) : foldR (evN ts) (pJ ts Q ts.length) = r := by
  refine Cl.ext (fold_cl h32 fun p hp => (pJ_in p hp).2) hc fun x y hx hy => ?_
  rw [fold_bit hx (by omega)]
  have key : (x, y) ∈ pJ ts Q ts.length ↔ bitR r x y = true := by
    rw [mem_pJ, hb]
    constructor
    · rintro ⟨j, hj, hs, h⟩
      unfold inSeg at hs
      exact ⟨j, hj, hs, by rw [← hq j hj _ (by omega) _ (by omega)]; exact h⟩
    · rintro ⟨j, hj, hs, h⟩
      have hs' := hs
      unfold inSeg at hs'
      exact ⟨j, hj, hs, by rw [hq j hj _ (by omega) _ (by omega)]; exact h⟩
  cases hb2 : bitR r x y
  · exact decide_eq_false fun h => by rw [key.1 h] at hb2; cases hb2
  · exact decide_eq_true (key.2 hb2)
theorem up_es (e : Ex) (b : Nat) (th : Int) (R : Rn) : ∀ k, k ≤ R.es.length → (e.up b th R k).es = e.es ++ (R.es.take k).map fun x => { x with th := th }
  | 0, _ => by simp [Ex.up]
  | k + 1, hk => by
    rw [Ex.up, Ex.step, up_es e b th R k (by omega), List.take_add_one, List.getElem?_eq_getElem (by omega), getD_at (by omega), List.map_append, List.append_assoc]
    rfl
end Go.Eng
