import Derived.Test.YtamjcdfjkekdjaaGreatExecA
import Derived.Test.YtamjcdfjkekdjaaGreatFlowA
import Derived.Test.YtamjcdfjkekdjaaGreatExecF
set_option linter.unusedSimpArgs false
set_option linter.unusedVariables false
set_option linter.constructorNameAsVariable false
set_option autoImplicit false
namespace Go.Eng
open Go Go.RowKit Go.Proofs
def maskW (l : List Nat) : Wd := l.foldl (fun m k => m ||| 1#32 <<< k) 0#32
theorem maskl_bit (l : List Nat) : ∀ (m : Wd) (j : Nat), j < 32 → (l.foldl (fun m k => m ||| 1#32 <<< k) m).getLsbD j = (m.getLsbD j || decide (j ∈ l)) := by
  induction l with
  | nil => intro m j _; simp
  | cons k l ih =>
    intro m j hj
    rw [List.foldl_cons, ih _ _ hj, or_bit, shl1_bit]
    by_cases h : j = k
    · subst h; simp [hj]
    · simp [h]
theorem mask_bit {l : List Nat} {j : Nat} (hj : j < 32) : (maskW l).getLsbD j = decide (j ∈ l) := by
  unfold maskW; rw [maskl_bit _ _ _ hj]; simp
def someE (q : Ev → Bool) (es : List Ev) (i : Nat) : Bool := match es[i]? with | some x => q x | none => false
def maskE (q : Ev → Bool) (es : List Ev) : Wd := maskW ((List.range es.length).filter (someE q es))
theorem maskE_bit {q : Ev → Bool} {es : List Ev} (h32 : es.length ≤ 32) {j : Nat} (hj : j < es.length) : (maskE q es).getLsbD j = q es[j] := by
  unfold maskE
  rw [mask_bit (by omega)]
  have e : someE q es j = q es[j] := by unfold someE; rw [List.getElem?_eq_getElem hj]
  cases h : q es[j]
  · refine decide_eq_false fun hm => ?_
    have := (List.mem_filter.1 hm).2
    rw [e, h] at this; cases this
  · exact decide_eq_true (List.mem_filter.2 ⟨List.mem_range.2 hj, by rw [e, h]⟩)
def plusStep (x : RL) (j i : Nat) : RL := if bitR x i j = true then x.set i (x.getD i 0#32 ||| x.getD j 0#32) else x
def plusIn (x : RL) (j : Nat) : Nat → RL
  | 0 => x
  | i + 1 => plusStep (plusIn x j i) j i
def plusUp (n : Nat) (x : RL) : Nat → RL
  | 0 => x
  | j + 1 => plusIn (plusUp n x j) j n
def plusR (r : RL) : RL := plusUp (cleanR r).length (cleanR r) (cleanR r).length
theorem plusStep_len (x : RL) (j i : Nat) : (plusStep x j i).length = x.length := by unfold plusStep; split <;> simp
theorem plusIn_len (x : RL) (j : Nat) : ∀ i, (plusIn x j i).length = x.length
  | 0 => rfl
  | i + 1 => by rw [plusIn, plusStep_len, plusIn_len x j i]
theorem plusUp_len (n : Nat) (x : RL) : ∀ j, (plusUp n x j).length = x.length
  | 0 => rfl
  | j + 1 => by rw [plusUp, plusIn_len, plusUp_len n x j]
def acyF (r : RL) : Bool := (List.range (plusR r).length).all fun i => !bitR (plusR r) i i
theorem plusStep_id {n : Nat} {r : RL} (h : Cl n r) (ht : ∀ a b c, a < n → b < n → c < n → bitR r a b = true → bitR r b c = true → bitR r a c = true) {j i : Nat} (hj : j < n) (hi : i < n) : plusStep r j i = r := by
  unfold plusStep
  split
  · rename_i hb
    refine List.ext_getElem (by simp) fun k h1 h2 => ?_
    rw [List.getElem_set]
    split
    · rename_i hk
      subst hk
      rw [getD_in _ _ h2, getD_in _ _ (by rw [h.len]; exact hj)]
      refine wd_ext fun c hc => ?_
      rw [or_bit]
      have e1 : (r[i]).getLsbD c = bitR r i c := by unfold bitR; rw [getD_in _ _ h2]
      have e2 : (r[j]'(by rw [h.len]; exact hj)).getLsbD c = bitR r j c := by unfold bitR; rw [getD_in _ _ (by rw [h.len]; exact hj)]
      rw [e1, e2]
      by_cases hcn : c < n
      · cases h3 : bitR r j c
        · simp
        · rw [ht i j c hi hj hcn hb h3]; rfl
      · rw [h.out i c (by omega), h.out j c (by omega)]; rfl
    · rfl
  · rfl
theorem plus_id {n : Nat} {r : RL} (h : Cl n r) (ht : ∀ a b c, a < n → b < n → c < n → bitR r a b = true → bitR r b c = true → bitR r a c = true) : plusR r = r := by
  have h1 : ∀ j, j < n → ∀ i, i ≤ n → plusIn r j i = r := fun j hj i => by
    induction i with
    | zero => intro _; rfl
    | succ i ih => intro hi; rw [plusIn, ih (by omega)]; exact plusStep_id h ht hj (by omega)
  have h2 : ∀ j, j ≤ n → plusUp n r j = r := fun j => by
    induction j with
    | zero => intro _; rfl
    | succ j ih => intro hj; rw [plusUp, ih (by omega)]; exact h1 j (by omega) n (Nat.le_refl _)
  unfold plusR
  rw [h.clean, h.len]
  exact h2 n (Nat.le_refl _)
theorem and_same {n : Nat} {a b : RL} (ha : Cl n a) (hb : Cl n b) (h : ∀ x y, x < n → y < n → bitR a x y = true → bitR b x y = true) : sameR (bothR (· &&& ·) a b) a = true := by
  have hA := andR ha hb
  unfold sameR
  rw [hA.1.clean, ha.clean]
  refine decide_eq_true (hA.1.ext ha fun x y hx hy => ?_)
  rw [hA.2]
  cases hq : bitR a x y
  · rfl
  · rw [h x y hx hy hq]; rfl
/-- What rises is acyclic. -/
theorem plusStep_up {n : Nat} {r : RL} {g : Nat → Int} (hl : r.length = n) (h : ∀ x y, bitR r x y = true → g x < g y) {j i : Nat} : ∀ x y, bitR (plusStep r j i) x y = true → g x < g y := by
  intro x y hb
  unfold plusStep at hb
  split at hb
  · rename_i hij
    by_cases hx : x = i
    · subst hx
      have hxl : x < r.length := by
        by_cases hq : x < r.length
        · exact hq
        · rw [bit_out (by omega)] at hij; cases hij
      have hb2 : ((r.getD x 0#32 ||| r.getD j 0#32).getLsbD y) = true := by
        unfold bitR at hb
        rw [getD_in _ _ (by simpa using hxl), List.getElem_set_self] at hb
        exact hb
      rw [or_bit, Bool.or_eq_true] at hb2
      rcases hb2 with h1 | h1
      · exact h x y h1
      · have h2 := h x j hij
        have h3 := h j y h1
        omega
    · refine h x y ?_
      unfold bitR at hb ⊢
      by_cases hxl : x < r.length
      · rw [getD_in _ _ (by simpa using hxl), List.getElem_set_ne (fun e => hx e.symm)] at hb
        rw [getD_in _ _ hxl]; exact hb
      · rw [getD_out _ _ (by simp; omega)] at hb; simp at hb
  · exact h x y hb
theorem plus_up {r : RL} {g : Nat → Int} (h : ∀ x y, bitR (cleanR r) x y = true → g x < g y) : ∀ x y, bitR (plusR r) x y = true → g x < g y := by
  have h1 : ∀ (x : RL) j, (∀ a b, bitR x a b = true → g a < g b) → ∀ i, ∀ a b, bitR (plusIn x j i) a b = true → g a < g b := fun x j hx i => by
    induction i with
    | zero => exact hx
    | succ i ih => exact plusStep_up rfl ih
  have h2 : ∀ n j, ∀ a b, bitR (plusUp n (cleanR r) j) a b = true → g a < g b := fun n j => by
    induction j with
    | zero => exact h
    | succ j ih => exact h1 _ _ ih _
  exact h2 _ _
theorem acy_up {n : Nat} {r : RL} {g : Nat → Int} (hc : Cl n r) (h : ∀ x y, x < n → y < n → bitR r x y = true → g x < g y) : acyF r = true := by
  unfold acyF
  rw [List.all_eq_true]
  intro i _
  have := plus_up (r := r) (g := g) (fun x y hb => by
    rw [hc.clean] at hb
    by_cases hx : x < n
    · by_cases hy : y < n
      · exact h x y hx hy hb
      · rw [hc.out x y (by omega)] at hb; cases hb
    · rw [bit_out (by rw [hc.len]; omega)] at hb; cases hb) i i
  cases hq : bitR (plusR r) i i
  · rfl
  · have := this hq; omega
theorem plusStep_mono (r : RL) (j i : Nat) {a b : Nat} (h : bitR r a b = true) : bitR (plusStep r j i) a b = true := by
  unfold plusStep
  split
  · rename_i hij
    by_cases hx : a = i
    · subst hx
      have hxl : a < r.length := by
        by_cases hq : a < r.length
        · exact hq
        · rw [bit_out (by omega)] at h; cases h
      unfold bitR at h ⊢
      rw [getD_in _ _ (by simpa using hxl), List.getElem_set_self, or_bit, h, Bool.true_or]
    · unfold bitR at h ⊢
      by_cases hxl : a < r.length
      · rw [getD_in _ _ (by simpa using hxl), List.getElem_set_ne (fun e => hx e.symm)]
        rw [getD_in _ _ hxl] at h; exact h
      · rw [getD_out _ _ (by omega)] at h; simp at h
  · exact h
theorem plusIn_mono (r : RL) (j : Nat) {a b : Nat} (h : bitR r a b = true) : ∀ i, bitR (plusIn r j i) a b = true
  | 0 => h
  | i + 1 => plusStep_mono _ _ _ (plusIn_mono r j h i)
theorem plusUp_mono (n : Nat) (r : RL) {a b : Nat} (h : bitR r a b = true) : ∀ j, bitR (plusUp n r j) a b = true
  | 0 => h
  | j + 1 => plusIn_mono _ _ (plusUp_mono n r h j) n
theorem plusStep_adds {r : RL} {j i c : Nat} (h1 : bitR r i j = true) (h2 : bitR r j c = true) : bitR (plusStep r j i) i c = true := by
  unfold plusStep
  rw [if_pos h1]
  have hxl : i < r.length := by
    by_cases hq : i < r.length
    · exact hq
    · rw [bit_out (by omega)] at h1; cases h1
  unfold bitR at h2 ⊢
  rw [getD_in _ _ (by simpa using hxl), List.getElem_set_self, or_bit, h2, Bool.or_true]
theorem plusIn_adds {r : RL} {j i c : Nat} (h1 : bitR r i j = true) (h2 : bitR r j c = true) : ∀ k, i < k → bitR (plusIn r j k) i c = true
  | 0, h => by omega
  | k + 1, h => by
    by_cases e : i = k
    · subst e
      exact plusStep_adds (plusIn_mono r j h1 i) (plusIn_mono r j h2 i)
    · exact plusStep_mono _ _ _ (plusIn_adds h1 h2 k (by omega))
theorem plusUp_adds {n : Nat} {r : RL} {j i c : Nat} (hi : i < n) (h1 : bitR r i j = true) (h2 : bitR r j c = true) : ∀ k, j < k → bitR (plusUp n r k) i c = true
  | 0, h => by omega
  | k + 1, h => by
    by_cases e : j = k
    · subst e
      exact plusIn_adds (plusUp_mono n r h1 j) (plusUp_mono n r h2 j) n hi
    · exact plusIn_mono _ _ (plusUp_adds hi h1 h2 k (by omega)) n
theorem plus_iff {n : Nat} {r : RL} (h : Cl n r) : sameR (plusR r) r = true ↔ ∀ a b c, a < n → b < n → c < n → bitR r a b = true → bitR r b c = true → bitR r a c = true := by
  constructor
  · intro hs a b c ha hb hc h1 h2
    have hp : plusR r = r := by
      unfold sameR at hs
      have := of_decide_eq_true hs
      rw [h.clean] at this
      have hcl : cleanR (plusR r) = plusR r := by
        have hz : Cl n (plusR r) := by
          refine ⟨h.n32, by unfold plusR; rw [plusUp_len, h.clean, h.len], fun i k hk => ?_⟩
          have hno : ∀ (x : RL) j, (∀ i k, n ≤ k → bitR x i k = false) → ∀ i, ∀ a k, n ≤ k → bitR (plusStep x j i) a k = false := fun x j hx i a k hk => by
            refine Bool.eq_false_iff.2 fun hb => ?_
            unfold plusStep at hb
            split at hb
            · by_cases ha : a = i
              · subst ha
                unfold bitR at hb
                by_cases hl : a < x.length
                · rw [getD_in _ _ (by simpa using hl), List.getElem_set_self, or_bit] at hb
                  have e1 := hx a k hk
                  have e2 := hx j k hk
                  unfold bitR at e1 e2
                  rw [e1, e2] at hb; cases hb
                · rw [getD_out _ _ (by simp; omega)] at hb; simp at hb
              · have e1 := hx a k hk
                unfold bitR at hb e1
                by_cases hl : a < x.length
                · rw [getD_in _ _ (by simpa using hl), List.getElem_set_ne (fun e => ha e.symm)] at hb
                  rw [getD_in _ _ hl, hb] at e1; cases e1
                · rw [getD_out _ _ (by simp; omega)] at hb; simp at hb
            · rw [hx a k hk] at hb; cases hb
          have h1 : ∀ (x : RL) j, (∀ i k, n ≤ k → bitR x i k = false) → ∀ i, ∀ a k, n ≤ k → bitR (plusIn x j i) a k = false := fun x j hx i => by
            induction i with
            | zero => exact hx
            | succ i ih => exact hno _ _ ih i
          have h2 : ∀ m j, ∀ a k, n ≤ k → bitR (plusUp m (cleanR r) j) a k = false := fun m j => by
            induction j with
            | zero => rw [h.clean]; exact h.out
            | succ j ih => exact h1 _ _ ih _
          exact h2 _ _ i k hk
        exact hz.clean
      rw [hcl] at this; exact this
    have h3 : bitR (plusR r) a c = true := by
      unfold plusR
      rw [h.clean, h.len]
      exact plusUp_adds ha h1 h2 n hb
    rw [hp] at h3; exact h3
  · intro ht
    rw [plus_id h ht]; unfold sameR; simp
def innerQ (x y : Ev) : Bool := decide (x.th = y.th)
end Go.Eng
set_option linter.unusedSimpArgs false
set_option linter.unusedVariables false
set_option linter.constructorNameAsVariable false
set_option autoImplicit false
namespace Go.Eng
open Go Go.RowKit Go.Proofs
/-! ## Which pairs the relations of an execution have -/
theorem put_bit {n : Nat} {r : RL} (h : Cl n r) {i k : Nat} (hi : i < n) (hk : k < n) : Cl n (putR r (i : Int) (k : Int)) ∧ ∀ x y, bitR (putR r (i : Int) (k : Int)) x y = (bitR r x y || (decide (x = i) && decide (y = k))) := by
  have h32 := h.n32
  have hl := h.len
  have hk32 : k < 32 := by omega
  rw [put_cl h hi hk]
  have hb : ∀ x y, bitR (addR r (i, k)) x y = (bitR r x y || (decide (x = i) && decide (y = k))) := fun x y => by
    rw [add_bit, hl]
    by_cases hx : x = i
    · subst hx
      by_cases hy : y = k
      · subst hy; simp [hi, hk32]
      · simp [hy]
    · simp [hx]
  refine ⟨⟨h32, by rw [addR_len]; exact hl, fun x y hy => ?_⟩, hb⟩
  rw [hb, h.out x y hy]
  simp; omega
theorem lead_bit {n : Nat} {r : RL} {b to : Nat} {w : Wd} (h : Cl n r) (ht : to < n) : ∀ i, b + i ≤ to →
    Cl n (leadR b w to r i) ∧ ∀ x y, bitR (leadR b w to r i) x y = (bitR r x y || (decide (y = to) && (decide (b ≤ x ∧ x < b + i) && w.getLsbD (x - b))))
  | 0, _ => ⟨h, fun x y => by
    have : ¬(b ≤ x ∧ x < b + 0) := by omega
    rw [leadR]; simp only [this, decide_false, Bool.false_and, Bool.and_false, Bool.or_false]⟩
  | i + 1, hi => by
    obtain ⟨c, hb⟩ := lead_bit h ht i (by omega) (b := b) (w := w)
    rw [leadR]
    cases hw : w.getLsbD i
    · rw [if_neg (by decide)]
      refine ⟨c, fun x y => ?_⟩
      rw [hb]
      congr 2
      by_cases hx : x = b + i
      · subst hx
        have h1 : ¬(b ≤ b + i ∧ b + i < b + i) := by omega
        have h2 : b + i - b = i := by omega
        simp only [h1, decide_false, Bool.false_and, h2, hw, Bool.and_false]
      · have : (b ≤ x ∧ x < b + (i + 1)) ↔ (b ≤ x ∧ x < b + i) := by omega
        simp only [this]
    · rw [if_pos rfl]
      obtain ⟨c2, hb2⟩ := put_bit c (i := b + i) (k := to) (by omega) ht
      refine ⟨c2, fun x y => ?_⟩
      rw [hb2, hb, Bool.or_assoc]
      congr 1
      by_cases hx : x = b + i
      · subst hx
        have h1 : ¬(b ≤ b + i ∧ b + i < b + i) := by omega
        have h3 : (b ≤ b + i ∧ b + i < b + (i + 1)) := by omega
        have h2 : b + i - b = i := by omega
        rw [decide_eq_false h1, decide_eq_true h3, h2, hw, decide_eq_true (rfl : b + i = b + i)]
        cases decide (y = to) <;> rfl
      · have h4 : (b ≤ x ∧ x < b + (i + 1)) ↔ (b ≤ x ∧ x < b + i) := by omega
        simp only [h4, hx, decide_false, Bool.false_and, Bool.or_false]
def relUp (o : Nat) (m : Nat → Wd) (r : RL) : Nat → RL
  | 0 => r
  | k + 1 => leadR o (m k) (o + k) (relUp o m r k) k
def rmUp (o : Nat) (p : Nat → Int) (r : RL) : Nat → RL
  | 0 => r
  | k + 1 => if 0 ≤ p k then putR (rmUp o p r k) ((o : Int) + p k) ((o + k : Nat) : Int) else rmUp o p r k
abbrev inSeg (o k x y : Nat) : Prop := o ≤ x ∧ x < y ∧ y < o + k
theorem relUp_bit {n o : Nat} {m : Nat → Wd} {r : RL} (h : Cl n r) (hr : ∀ x y, o ≤ y → bitR r x y = false) : ∀ k, o + k ≤ n →
    Cl n (relUp o m r k) ∧ ∀ x y, bitR (relUp o m r k) x y = (bitR r x y || (decide (inSeg o k x y) && (m (y - o)).getLsbD (x - o)))
  | 0, _ => ⟨h, fun x y => by
    have : ¬inSeg o 0 x y := by unfold inSeg; omega
    rw [relUp]; simp only [this, decide_false, Bool.false_and, Bool.or_false]⟩
  | k + 1, hk => by
    obtain ⟨c, hb⟩ := relUp_bit h hr k (by omega) (m := m)
    rw [relUp]
    obtain ⟨c2, hb2⟩ := lead_bit c (b := o) (to := o + k) (w := m k) (by omega) k (by omega)
    refine ⟨c2, fun x y => ?_⟩
    rw [hb2, hb, Bool.or_assoc]
    congr 1
    by_cases hy : y = o + k
    · subst hy
      have h1 : ¬inSeg o k x (o + k) := by unfold inSeg; omega
      have h2 : inSeg o (k + 1) x (o + k) ↔ (o ≤ x ∧ x < o + k) := by unfold inSeg; omega
      have h3 : o + k - o = k := by omega
      simp only [h1, h2, h3, decide_false, decide_true, Bool.false_and, Bool.false_or, Bool.true_and]
    · have h2 : inSeg o (k + 1) x y ↔ inSeg o k x y := by unfold inSeg; omega
      simp only [h2, hy, decide_false, Bool.false_and, Bool.or_false]
def pw (p : Int) : Wd := if 0 ≤ p then 1#32 <<< p.toNat else 0#32
theorem pw_bit {p : Int} {k j : Nat} (hp : p < (k : Int)) (hk : k ≤ 32) : (pw p).getLsbD j = decide (p = (j : Int)) := by
  unfold pw
  split
  · rw [shl1_bit]
    by_cases h : p = (j : Int)
    · subst h
      have : j < 32 := by omega
      simp [this]
    · have h2 : ¬j = p.toNat := by omega
      simp [h, h2]
  · have : ¬p = (j : Int) := by omega
    simp [this]
theorem rmUp_bit {n o : Nat} {p : Nat → Int} {r : RL} (h : Cl n r) : ∀ k, o + k ≤ n → (∀ j, j < k → p j < (j : Int)) →
    Cl n (rmUp o p r k) ∧ ∀ x y, bitR (rmUp o p r k) x y = (bitR r x y || (decide (inSeg o k x y) && (pw (p (y - o))).getLsbD (x - o)))
  | 0, _, _ => ⟨h, fun x y => by
    have : ¬inSeg o 0 x y := by unfold inSeg; omega
    rw [rmUp]; simp only [this, decide_false, Bool.false_and, Bool.or_false]⟩
  | k + 1, hk, hp => by
    have h32 := h.n32
    obtain ⟨c, hb⟩ := rmUp_bit (o := o) (p := p) h k (by omega) (fun j hj => hp j (by omega))
    have hpk := hp k (by omega)
    rw [rmUp]
    by_cases h0 : 0 ≤ p k
    · rw [if_pos h0]
      have e : (o : Int) + p k = ((o + (p k).toNat : Nat) : Int) := by omega
      rw [e]
      obtain ⟨c2, hb2⟩ := put_bit (i := o + (p k).toNat) (k := o + k) c (by omega) (by omega)
      refine ⟨c2, fun x y => ?_⟩
      rw [hb2, hb, Bool.or_assoc]
      congr 1
      by_cases hy : y = o + k
      · subst hy
        have h1 : ¬inSeg o k x (o + k) := by unfold inSeg; omega
        have h3 : o + k - o = k := by omega
        rw [h3, pw_bit hpk (by omega)]
        simp only [h1, decide_false, decide_true, Bool.false_and, Bool.false_or, Bool.and_true]
        by_cases hx : x = o + (p k).toNat
        · have h5 : inSeg o (k + 1) x (o + k) := by unfold inSeg; omega
          have h6 : p k = ((x - o : Nat) : Int) := by omega
          simp only [hx, decide_true]
          rw [hx] at h5 h6
          rw [decide_eq_true h5, decide_eq_true h6]; rfl
        · rw [decide_eq_false hx]
          by_cases h5 : inSeg o (k + 1) x (o + k)
          · have h6 : ¬p k = ((x - o : Nat) : Int) := by unfold inSeg at h5; omega
            rw [decide_eq_false h6, Bool.and_false]
          · rw [decide_eq_false h5, Bool.false_and]
      · have h2 : inSeg o (k + 1) x y ↔ inSeg o k x y := by unfold inSeg; omega
        simp only [h2, hy, decide_false, Bool.and_false, Bool.or_false]
    · rw [if_neg h0]
      refine ⟨c, fun x y => ?_⟩
      rw [hb]
      congr 1
      by_cases hy : y = o + k
      · subst hy
        have h1 : ¬inSeg o k x (o + k) := by unfold inSeg; omega
        have h3 : o + k - o = k := by omega
        rw [h3]
        have h7 : pw (p k) = 0#32 := by unfold pw; rw [if_neg h0]
        rw [h7, decide_eq_false h1]; simp
      · have h2 : inSeg o (k + 1) x y ↔ inSeg o k x y := by unfold inSeg; omega
        simp only [h2]
/-! ## The relations of what is joined, thread by thread -/
def offs (ts : List Rn) (j : Nat) : Nat := evN (ts.take j)
abbrev trN (ts : List Rn) (j : Nat) : Rn := ts.getD j Rn0
theorem offs_succ {ts : List Rn} {j : Nat} (h : j < ts.length) : offs ts (j + 1) = offs ts j + (trN ts j).es.length := by
  unfold offs
  rw [evN_succ h, trN, getD_at h]
theorem offs_all (ts : List Rn) : offs ts ts.length = evN ts := by unfold offs; rw [List.take_length]
theorem offs_le (ts : List Rn) (j : Nat) : offs ts j ≤ evN ts := evN_take ts j
theorem offs_mono {ts : List Rn} {a b : Nat} (h : a ≤ b) (hb : b ≤ ts.length) : offs ts a ≤ offs ts b := by
  induction b with
  | zero => have : a = 0 := by omega
            subst this; exact Nat.le_refl _
  | succ b ih =>
    by_cases e : a = b + 1
    · subst e; exact Nat.le_refl _
    · have := ih (by omega) (by omega)
      rw [offs_succ (by omega)]; omega
def relJ (n : Nat) (ts : List Rn) (M : Rn → Nat → Wd) : Nat → RL
  | 0 => newR n
  | i + 1 => relUp (offs ts i) (M (trN ts i)) (relJ n ts M i) (trN ts i).es.length
def rmJ (n : Nat) (ts : List Rn) : Nat → RL
  | 0 => newR n
  | i + 1 => rmUp (offs ts i) (fun k => (trN ts i).pa.getD k 0) (rmJ n ts i) (trN ts i).es.length
/-- y and x are of one thread, x ahead, and the thread's mask at y has x. -/
def hasJ (ts : List Rn) (M : Rn → Nat → Wd) (i x y : Nat) : Prop := ∃ j, j < i ∧ inSeg (offs ts j) (trN ts j).es.length x y ∧ (M (trN ts j) (y - offs ts j)).getLsbD (x - offs ts j) = true
theorem hasJ_zero (ts : List Rn) (M : Rn → Nat → Wd) (x y : Nat) : ¬hasJ ts M 0 x y := fun ⟨j, h, _⟩ => by omega
theorem hasJ_succ (ts : List Rn) (M : Rn → Nat → Wd) (i x y : Nat) : hasJ ts M (i + 1) x y ↔ hasJ ts M i x y ∨ (inSeg (offs ts i) (trN ts i).es.length x y ∧ (M (trN ts i) (y - offs ts i)).getLsbD (x - offs ts i) = true) := by
  constructor
  · rintro ⟨j, h1, h2, h3⟩
    by_cases e : j = i
    · subst e; exact .inr ⟨h2, h3⟩
    · exact .inl ⟨j, by omega, h2, h3⟩
  · rintro (⟨j, h1, h2⟩ | h)
    · exact ⟨j, by omega, h2⟩
    · exact ⟨i, by omega, h⟩
theorem hasJ_lt {ts : List Rn} {M : Rn → Nat → Wd} {i x y : Nat} (hi : i ≤ ts.length) (h : hasJ ts M i x y) : y < offs ts i := by
  obtain ⟨j, h1, ⟨_, _, h3⟩, _⟩ := h
  have := offs_mono (ts := ts) (a := j + 1) (b := i) (by omega) hi
  rw [offs_succ (by omega)] at this
  omega
theorem newR_cl {n : Nat} (h : n ≤ 32) : Cl n (newR n) := ⟨h, by simp [newR], fun i k _ => bit_new n i k⟩
theorem relJ_bit {n : Nat} {ts : List Rn} {M : Rn → Nat → Wd} (hn : n = evN ts) (h32 : n ≤ 32) : ∀ i, i ≤ ts.length → Cl n (relJ n ts M i) ∧ ∀ x y, bitR (relJ n ts M i) x y = true ↔ hasJ ts M i x y
  | 0, _ => ⟨newR_cl h32, fun x y => by
    rw [relJ, newR, bit_new]
    exact ⟨fun h => (by cases h), fun h => absurd h (hasJ_zero _ _ _ _)⟩⟩
  | i + 1, hi => by
    obtain ⟨c, hb⟩ := relJ_bit hn h32 i (by omega) (M := M)
    have h1 := offs_succ (ts := ts) (j := i) (by omega)
    have h2 := offs_le ts (i + 1)
    rw [relJ]
    obtain ⟨c2, hb2⟩ := relUp_bit (o := offs ts i) (m := M (trN ts i)) c (fun x y hy => by
      cases hc : bitR (relJ n ts M i) x y
      · rfl
      · have := hasJ_lt (by omega) ((hb x y).1 hc); omega) (trN ts i).es.length (by omega)
    refine ⟨c2, fun x y => ?_⟩
    rw [hb2, Bool.or_eq_true, hb, hasJ_succ, Bool.and_eq_true, decide_eq_true_eq]
theorem rmJ_bit {n : Nat} {ts : List Rn} (hn : n = evN ts) (h32 : n ≤ 32) (hf : ∀ R ∈ ts, FineR R) : ∀ i, i ≤ ts.length → Cl n (rmJ n ts i) ∧ ∀ x y, bitR (rmJ n ts i) x y = true ↔ hasJ ts (fun R k => pw (R.pa.getD k 0)) i x y
  | 0, _ => ⟨newR_cl h32, fun x y => by
    rw [rmJ, newR, bit_new]
    exact ⟨fun h => (by cases h), fun h => absurd h (hasJ_zero _ _ _ _)⟩⟩
  | i + 1, hi => by
    obtain ⟨c, hb⟩ := rmJ_bit hn h32 hf i (by omega)
    have h1 := offs_succ (ts := ts) (j := i) (by omega)
    have h2 := offs_le ts (i + 1)
    rw [rmJ]
    have hR := hf _ (List.getElem_mem (l := ts) (n := i) (by omega))
    have e : trN ts i = ts[i] := getD_at (by omega)
    obtain ⟨c2, hb2⟩ := rmUp_bit (o := offs ts i) (p := fun k => (trN ts i).pa.getD k 0) c (trN ts i).es.length (by omega) (fun j hj => by
      rw [e] at hj ⊢
      have h3 := hR.pair j hj
      show (ts[i]).pa.getD j 0 < (j : Int)
      rw [getD_at (by rw [hR.ok.pa]; exact hj)]; exact h3)
    refine ⟨c2, fun x y => ?_⟩
    rw [hb2, Bool.or_eq_true, hb, hasJ_succ, Bool.and_eq_true, decide_eq_true_eq]
theorem up_rel (e : Ex) (b : Nat) (th : Int) (R : Rn) : ∀ k, (e.up b th R k).po = relUp b allB e.po k ∧ (e.up b th R k).ad = relUp b (mw R.ad) e.ad k ∧ (e.up b th R k).da = relUp b (mw R.da) e.da k ∧ (e.up b th R k).ct = relUp b (mw R.ct) e.ct k ∧ (e.up b th R k).rm = rmUp b (fun k => R.pa.getD k 0) e.rm k
  | 0 => ⟨rfl, rfl, rfl, rfl, rfl⟩
  | k + 1 => by
    obtain ⟨h1, h2, h3, h4, h5⟩ := up_rel e b th R k
    rw [Ex.up, Ex.step, relUp, relUp, relUp, relUp, rmUp, h1, h2, h3, h4, h5]
    exact ⟨rfl, rfl, rfl, rfl, rfl⟩
theorem join_rel (n : Nat) (ts : List Rn) : ∀ i, i ≤ ts.length → (joinUp n ts i).po = relJ n ts (fun _ => allB) i ∧ (joinUp n ts i).ad = relJ n ts (fun R => mw R.ad) i ∧ (joinUp n ts i).da = relJ n ts (fun R => mw R.da) i ∧ (joinUp n ts i).ct = relJ n ts (fun R => mw R.ct) i ∧ (joinUp n ts i).rm = rmJ n ts i
  | 0, _ => ⟨rfl, rfl, rfl, rfl, rfl⟩
  | i + 1, hi => by
    obtain ⟨h1, h2, h3, h4, h5⟩ := join_rel n ts i (by omega)
    have hl := join_len n ts i (by omega)
    obtain ⟨g1, g2, g3, g4, g5⟩ := up_rel (joinUp n ts i) (offs ts i) i (trN ts i) (trN ts i).es.length
    rw [joinUp, Ex.add, hl]
    refine ⟨?_, ?_, ?_, ?_, ?_⟩
    · exact g1.trans (by rw [h1]; rfl)
    · exact g2.trans (by rw [h2]; rfl)
    · exact g3.trans (by rw [h3]; rfl)
    · exact g4.trans (by rw [h4]; rfl)
    · exact g5.trans (by rw [h5]; rfl)
/-! ## The events -/
theorem up_ev (e : Ex) (th : Int) (R : Rn) (b : Nat) : ∀ k, k ≤ R.es.length → (∀ y, y < e.es.length → (e.up b th R k).es[y]? = e.es[y]?) ∧ ∀ q, q < k → (e.up b th R k).es[e.es.length + q]? = some { R.es.getD q ev0 with th := th }
  | 0, _ => ⟨fun y _ => rfl, fun q hq => by omega⟩
  | k + 1, hk => by
    obtain ⟨h1, h2⟩ := up_ev e th R b k (by omega)
    have hl := up_len e b th R k
    rw [Ex.up, Ex.step]
    dsimp only
    refine ⟨fun y hy => ?_, fun q hq => ?_⟩
    · rw [List.getElem?_append_left (by omega)]; exact h1 y hy
    · by_cases e1 : q = k
      · subst e1
        rw [List.getElem?_append_right (by omega), hl, Nat.sub_self]; rfl
      · rw [List.getElem?_append_left (by omega)]; exact h2 q (by omega)
theorem join_ev (n : Nat) (ts : List Rn) : ∀ i, i ≤ ts.length → ∀ j, j < i → ∀ q, q < (trN ts j).es.length → (joinUp n ts i).es[offs ts j + q]? = some { (trN ts j).es.getD q ev0 with th := (j : Int) }
  | 0, _, j, hj, _, _ => by omega
  | i + 1, hi, j, hj, q, hq => by
    have hl := join_len n ts i (by omega)
    obtain ⟨g1, g2⟩ := up_ev (joinUp n ts i) i (trN ts i) (joinUp n ts i).es.length (trN ts i).es.length (Nat.le_refl _)
    rw [joinUp, Ex.add]
    by_cases e : j = i
    · subst e
      have := g2 q hq
      rw [hl] at this
      rw [hl]; exact this
    · have h1 := offs_mono (ts := ts) (a := j + 1) (b := i) (by omega) (by omega)
      rw [offs_succ (by omega)] at h1
      have h2 : offs ts i = evN (ts.take i) := rfl
      rw [g1 _ (by omega)]
      exact join_ev n ts i (by omega) j (by omega) q hq
theorem locate {ts : List Rn} : ∀ i, i ≤ ts.length → ∀ y, y < offs ts i → ∃ j, j < i ∧ offs ts j ≤ y ∧ y < offs ts j + (trN ts j).es.length
  | 0, _, y, h => by simp [offs, evN] at h
  | i + 1, hi, y, h => by
    by_cases hy : y < offs ts i
    · obtain ⟨j, h1, h2⟩ := locate i (by omega) y hy
      exact ⟨j, by omega, h2⟩
    · rw [offs_succ (by omega)] at h
      exact ⟨i, by omega, by omega, h⟩
end Go.Eng
set_option linter.unusedSimpArgs false
set_option linter.unusedVariables false
set_option linter.constructorNameAsVariable false
set_option autoImplicit false
namespace Go.Eng
open Go Go.RowKit Go.Proofs
/-! ## What the relations of an execution say of its events -/
def evA (e : Ex) (y : Nat) : Ev := e.es.getD y ev0
structure ExR (n : Nat) (e : Ex) : Prop where
  len : e.es.length = n
  n24 : n ≤ 24
  cpo : Cl n e.po
  cad : Cl n e.ad
  cda : Cl n e.da
  cct : Cl n e.ct
  crm : Cl n e.rm
  po : ∀ x y, x < n → y < n → (bitR e.po x y = true ↔ (x < y ∧ (evA e x).th = (evA e y).th))
  ad : ∀ x y, bitR e.ad x y = true → x < y ∧ y < n ∧ (evA e x).th = (evA e y).th ∧ (evA e x).k = 1
  da : ∀ x y, bitR e.da x y = true → x < y ∧ y < n ∧ (evA e x).th = (evA e y).th ∧ (evA e x).k = 1
  ct : ∀ x y, bitR e.ct x y = true → x < y ∧ y < n ∧ (evA e x).th = (evA e y).th ∧ (evA e x).k = 1
  rm : ∀ x y, bitR e.rm x y = true → x < y ∧ y < n ∧ (evA e x).th = (evA e y).th ∧ (evA e x).k = 1
  da2 : ∀ x y, bitR e.da x y = true → (evA e y).k = 2
  rm2 : ∀ x y, bitR e.rm x y = true → (evA e y).k = 2 ∧ (evA e y).ex = true ∧ (evA e x).l = (evA e y).l
  rm3 : ∀ y, y < n → (evA e y).k = 2 → (evA e y).ex = true → ∃ x, x < n ∧ bitR e.rm x y = true
theorem seg_one {ts : List Rn} {a b y : Nat} (ha : a < ts.length) (hb : b < ts.length) (h1 : offs ts a ≤ y) (h2 : y < offs ts a + (trN ts a).es.length) (h3 : offs ts b ≤ y) (h4 : y < offs ts b + (trN ts b).es.length) : a = b := by
  rw [← offs_succ ha] at h2
  rw [← offs_succ hb] at h4
  by_cases h : a < b
  · have := offs_mono (ts := ts) (a := a + 1) (b := b) (by omega) (by omega); omega
  · by_cases h5 : b < a
    · have := offs_mono (ts := ts) (a := b + 1) (b := a) (by omega) (by omega); omega
    · omega
theorem seg_ev {ts : List Rn} {j y : Nat} (hj : j < ts.length) (h1 : offs ts j ≤ y) (h2 : y < offs ts j + (trN ts j).es.length) : evA (joinF ts) y = { (trN ts j).es.getD (y - offs ts j) ev0 with th := (j : Int) } := by
  have h := join_ev (evN ts) ts ts.length (Nat.le_refl _) j hj (y - offs ts j) (by omega)
  rw [show offs ts j + (y - offs ts j) = y by omega] at h
  unfold evA joinF
  rw [List.getD_eq_getElem?_getD, h]; rfl
theorem ldM_k (es : List Ev) : ∀ i, i ≤ 32 → ∀ j, (BV (ldM es i)).getLsbD j = true → j < i ∧ (es.getD j ev0).k = 1
  | 0, _, j, h => by
    have e : BV 0 = 0#32 := by rfl
    rw [ldM, e, BitVec.getLsbD_zero] at h; cases h
  | i + 1, hi, j, h => by
    rw [ldM] at h
    split at h
    · rename_i hk
      rw [bv_or, BitVec.getLsbD_or, Bool.or_eq_true] at h
      rcases h with h | h
      · have := ldM_k es i (by omega) j h; exact ⟨by omega, this.2⟩
      · rw [bitAt_eq (by omega), shl1_bit] at h
        simp only [Bool.and_eq_true, decide_eq_true_eq] at h
        exact ⟨by omega, by rw [h.1]; exact hk⟩
    · have := ldM_k es i (by omega) j h; exact ⟨by omega, this.2⟩
theorem mw_bv (l : List Int) (k : Nat) : mw l k = BV (l.getD k 0) := rfl
theorem join_exr {ts : List Rn} (h24 : evN ts ≤ 24) (hf : ∀ R ∈ ts, FineR R) (hh : ∀ R ∈ ts, HangQ R) : ExR (evN ts) (joinF ts) := by
  have hl := join_len (evN ts) ts ts.length (Nat.le_refl _)
  rw [List.take_length] at hl
  obtain ⟨r1, r2, r3, r4, r5⟩ := join_rel (evN ts) ts ts.length (Nat.le_refl _)
  have b1 := relJ_bit (M := fun _ => allB) (rfl : evN ts = evN ts) (by omega) ts.length (Nat.le_refl _)
  have b2 := relJ_bit (M := fun R => mw R.ad) (rfl : evN ts = evN ts) (by omega) ts.length (Nat.le_refl _)
  have b3 := relJ_bit (M := fun R => mw R.da) (rfl : evN ts = evN ts) (by omega) ts.length (Nat.le_refl _)
  have b4 := relJ_bit (M := fun R => mw R.ct) (rfl : evN ts = evN ts) (by omega) ts.length (Nat.le_refl _)
  have b5 := rmJ_bit (rfl : evN ts = evN ts) (by omega) hf ts.length (Nat.le_refl _)
  rw [← r1] at b1
  rw [← r2] at b2
  rw [← r3] at b3
  rw [← r4] at b4
  rw [← r5] at b5
  have hN := offs_all ts
  have mem : ∀ j, j < ts.length → trN ts j ∈ ts := fun j hj => by rw [trN, getD_at hj]; exact List.getElem_mem hj
  -- one pair, with a mask that has loads alone
  have key : ∀ (M : Rn → Nat → Wd), (∀ R ∈ ts, ∀ k, k < R.es.length → ∀ i, (M R k).getLsbD i = true → i < k ∧ (R.es.getD i ev0).k = 1) → ∀ x y, hasJ ts M ts.length x y → x < y ∧ y < evN ts ∧ (evA (joinF ts) x).th = (evA (joinF ts) y).th ∧ (evA (joinF ts) x).k = 1 := by
    intro M hM x y h
    have hy := hasJ_lt (Nat.le_refl _) h
    obtain ⟨j, hj, ⟨s1, s2, s3⟩, hb⟩ := h
    have e1 := seg_ev hj s1 (show x < offs ts j + (trN ts j).es.length by omega)
    have e2 := seg_ev hj (show offs ts j ≤ y by omega) s3
    have := hM _ (mem j hj) (y - offs ts j) (by omega) _ hb
    refine ⟨s2, by omega, by rw [e1, e2], by rw [e1]; exact this.2⟩
  have es8 : ∀ R ∈ ts, R.es.length ≤ 8 := fun R hR => (hf R hR).ok.es
  refine ⟨hl, h24, b1.1, b2.1, b3.1, b4.1, b5.1, fun x y hx hy => ?_, fun x y h => ?_, fun x y h => ?_, fun x y h => ?_, fun x y h => ?_, fun x y h => ?_, fun x y h => ?_, fun y hy hk hx => ?_⟩
  · rw [show (joinF ts).po = (joinUp (evN ts) ts ts.length).po from rfl, b1.2]
    constructor
    · rintro ⟨j, hj, ⟨s1, s2, s3⟩, _⟩
      have e1 := seg_ev hj s1 (show x < offs ts j + (trN ts j).es.length by omega)
      have e2 := seg_ev hj (show offs ts j ≤ y by omega) s3
      exact ⟨s2, by rw [e1, e2]⟩
    · rintro ⟨h1, h2⟩
      obtain ⟨j, hj, s1, s2⟩ := locate ts.length (Nat.le_refl _) x (by omega)
      obtain ⟨i, hi, q1, q2⟩ := locate ts.length (Nat.le_refl _) y (by omega)
      have e1 := seg_ev hj s1 s2
      have e2 := seg_ev hi q1 q2
      rw [e1, e2] at h2
      have hji : j = i := by have : (j : Int) = (i : Int) := h2; omega
      subst hji
      have h8 := es8 _ (mem j hj)
      refine ⟨j, hj, ⟨s1, h1, q2⟩, ?_⟩
      show (allB (y - offs ts j)).getLsbD (x - offs ts j) = true
      rw [allB_bit (by omega)]
      exact decide_eq_true (by omega)
  · refine key _ (fun R hR k hk i hb => ?_) x y ((b2.2 x y).1 h)
    exact ldM_k R.es k (by have := es8 R hR; omega) i (sb_bit.1 ((hh R hR).ev k hk).ha i hb)
  · refine key _ (fun R hR k hk i hb => ?_) x y ((b3.2 x y).1 h)
    exact ldM_k R.es k (by have := es8 R hR; omega) i (sb_bit.1 ((hh R hR).ev k hk).hd i hb)
  · refine key _ (fun R hR k hk i hb => ?_) x y ((b4.2 x y).1 h)
    exact ldM_k R.es k (by have := es8 R hR; omega) i (sb_bit.1 ((hh R hR).ev k hk).hc i hb)
  · refine key _ (fun R hR k hk i hb => ?_) x y ((b5.2 x y).1 h)
    have hp := ((hh R hR).ev k hk).pair
    have h8 := es8 R hR
    have hpk : R.pa.getD k 0 < (k : Int) := by
      by_cases h0 : 0 ≤ R.pa.getD k 0
      · have := hp.lt h0; omega
      · omega
    rw [pw_bit hpk (by omega), decide_eq_true_eq] at hb
    have h3 := hp.k (by omega)
    rw [show (R.pa.getD k 0).toNat = i by omega] at h3
    exact ⟨by omega, h3.1⟩
  · obtain ⟨j, hj, ⟨s1, s2, s3⟩, hb⟩ := (b3.2 x y).1 h
    have e2 := seg_ev hj (show offs ts j ≤ y by omega) s3
    have hz := ((hh _ (mem j hj)).ev (y - offs ts j) (by omega)).z
    rw [e2]
    by_cases hk : ((trN ts j).es.getD (y - offs ts j) ev0).k = 2
    · exact hk
    · have hb : (mw (trN ts j).da (y - offs ts j)).getLsbD (x - offs ts j) = true := hb
      rw [mw_bv, hz hk, show BV 0 = 0#32 from rfl, BitVec.getLsbD_zero] at hb
      cases hb
  · obtain ⟨j, hj, ⟨s1, s2, s3⟩, hb⟩ := (b5.2 x y).1 h
    have e1 := seg_ev hj s1 (show x < offs ts j + (trN ts j).es.length by omega)
    have e2 := seg_ev hj (show offs ts j ≤ y by omega) s3
    have hp := ((hh _ (mem j hj)).ev (y - offs ts j) (by omega)).pair
    have h8 := es8 _ (mem j hj)
    have hb : (pw ((trN ts j).pa.getD (y - offs ts j) 0)).getLsbD (x - offs ts j) = true := hb
    have hpk : (trN ts j).pa.getD (y - offs ts j) 0 < ((y - offs ts j : Nat) : Int) := by
      by_cases h0 : 0 ≤ (trN ts j).pa.getD (y - offs ts j) 0
      · have := hp.lt h0; omega
      · omega
    rw [pw_bit hpk (by omega), decide_eq_true_eq] at hb
    have h0 : 0 ≤ (trN ts j).pa.getD (y - offs ts j) 0 := by omega
    have h3 := hp.k h0
    rw [show ((trN ts j).pa.getD (y - offs ts j) 0).toNat = x - offs ts j by omega] at h3
    have h4 := hp.iff.1 h0
    rw [e1, e2]
    exact ⟨h4.1, h4.2, h3.2.2⟩
  · obtain ⟨j, hj, s1, s2⟩ := locate ts.length (Nat.le_refl _) y (by omega)
    have e2 := seg_ev hj s1 s2
    rw [e2] at hk hx
    have hp := ((hh _ (mem j hj)).ev (y - offs ts j) (by omega)).pair
    have h8 := es8 _ (mem j hj)
    have h0 := hp.iff.2 ⟨hk, hx⟩
    have hlt := hp.lt h0
    have hpk : (trN ts j).pa.getD (y - offs ts j) 0 < ((y - offs ts j : Nat) : Int) := by omega
    refine ⟨offs ts j + ((trN ts j).pa.getD (y - offs ts j) 0).toNat, by omega, (b5.2 _ y).2 ⟨j, hj, ⟨by omega, by omega, s2⟩, ?_⟩⟩
    show (pw ((trN ts j).pa.getD (y - offs ts j) 0)).getLsbD _ = true
    rw [pw_bit hpk (by omega)]
    exact decide_eq_true (by omega)
theorem traces_hang {th : List In} {locs : Int} {vals : List Int} : ∀ R ∈ tracesF th locs vals, HangQ R := by
  intro R hR
  obtain ⟨v, b, rfl, _, _⟩ := traces_run R hR
  exact run_hang
theorem all_exr {i : List Int} {t : List (List In)} (hth : ∀ th ∈ t, ∀ x ∈ th, wfIn x) : ∀ e ∈ (allF i t).1, ∃ n, ExR n e := by
  intro e he
  unfold allF at he
  split at he
  · rename_i ho
    split at he
    · rename_i ws hw
      obtain ⟨hlw, hl8⟩ := of_ok64 hth ho
      obtain ⟨hi3, ht3, hi1, _, hts⟩ := ok_facts (of_ok ho)
      obtain ⟨w, hwm, rfl⟩ := List.mem_map.1 he
      have hf := ways_mem (fun th h => traces_fine (locs := i.length) (hth th h) hlw) (by simp) hw w hwm
      have hh := ways_mem (P := HangQ) (fun th h => traces_hang) (by simp) hw w hwm
      have hn : w.length = 0 + t.length := ways_size (n := 0) (by simp) hw w hwm
      have hev := evN_le hf
      exact ⟨evN w, join_exr (by omega) hf hh⟩
    · cases he
  · cases he
/-! ## The laws ExecApart and ExecPo, of any execution -/
abbrev orF (a b : RL) : RL := bothR (· ||| ·) a b
abbrev andF (a b : RL) : RL := bothR (· &&& ·) a b
def all4 (e : Ex) : RL := orF (orF e.ad e.da) (orF e.ct e.rm)
theorem all4_bit {n : Nat} {e : Ex} (h : ExR n e) : Cl n (all4 e) ∧ ∀ x y, bitR (all4 e) x y = true → x < y ∧ y < n ∧ (evA e x).th = (evA e y).th ∧ (evA e x).k = 1 := by
  obtain ⟨c1, h1⟩ := orR h.cad h.cda
  obtain ⟨c2, h2⟩ := orR h.cct h.crm
  obtain ⟨c3, h3⟩ := orR c1 c2
  refine ⟨c3, fun x y hb => ?_⟩
  unfold all4 at hb
  rw [h3, h1, h2, Bool.or_eq_true, Bool.or_eq_true, Bool.or_eq_true] at hb
  rcases hb with (hb | hb) | (hb | hb)
  · exact h.ad x y hb
  · exact h.da x y hb
  · exact h.ct x y hb
  · exact h.rm x y hb
theorem inner_bit {n : Nat} {e : Ex} (h : ExR n e) {x y : Nat} (hx : x < n) (hy : y < n) : bitR (eventsR innerQ e.es) x y = (decide (¬x = y) && decide ((evA e x).th = (evA e y).th)) := by
  have hl := h.len
  have h24 := h.n24
  rw [events_bit (by omega) (by omega) (by omega)]
  unfold innerQ evA
  rw [getD_at (by omega), getD_at (by omega)]
theorem po_acy {n : Nat} {e : Ex} (h : ExR n e) : acyF e.po = true :=
  acy_up (g := fun x => (x : Int)) h.cpo fun x y hx hy hb => by have := ((h.po x y hx hy).1 hb).1; show (x : Int) < (y : Int); omega
theorem po_plus {n : Nat} {e : Ex} (h : ExR n e) : sameR (plusR e.po) e.po = true :=
  (plus_iff h.cpo).2 fun a b c ha hb hc h1 h2 => by
    have q1 := (h.po a b ha hb).1 h1
    have q2 := (h.po b c hb hc).1 h2
    exact (h.po a c ha hc).2 ⟨by omega, q1.2.trans q2.2⟩
theorem po_both {n : Nat} {e : Ex} (h : ExR n e) : sameR (orF e.po (invR e.po)) (eventsR innerQ e.es) = true := by
  have hl := h.len
  have h24 := h.n24
  obtain ⟨ci, hi⟩ := inv_cl h.cpo
  obtain ⟨co, ho⟩ := orR h.cpo ci
  have hc := events_cl (q := innerQ) (es := e.es) (by omega)
  rw [hl] at hc
  have e1 : orF e.po (invR e.po) = eventsR innerQ e.es := Cl.ext co hc fun x y hx hy => by
    rw [ho, hi x y hx hy, inner_bit h hx hy]
    have p1 := h.po x y hx hy
    have p2 := h.po y x hy hx
    cases b1 : bitR e.po x y
    · cases b2 : bitR e.po y x
      · by_cases hxy : x = y
        · simp [hxy]
        · have n1 : ¬(x < y ∧ (evA e x).th = (evA e y).th) := fun q => by rw [p1.2 q] at b1; cases b1
          have n2 : ¬(y < x ∧ (evA e y).th = (evA e x).th) := fun q => by rw [p2.2 q] at b2; cases b2
          have : ¬(evA e x).th = (evA e y).th := fun q => by
            by_cases hlt : x < y
            · exact n1 ⟨hlt, q⟩
            · exact n2 ⟨by omega, q.symm⟩
          simp [this]
      · have q := p2.1 b2
        have : ¬x = y := by omega
        simp [this, q.2]
    · have q := p1.1 b1
      have : ¬x = y := by omega
      simp [this, q.2]
  unfold sameR
  rw [e1]; exact decide_eq_true rfl
theorem all4_po {n : Nat} {e : Ex} (h : ExR n e) : sameR (andF (all4 e) e.po) (all4 e) = true := by
  obtain ⟨c, hb⟩ := all4_bit h
  exact and_same c h.cpo fun x y hx hy hh => by
    have q := hb x y hh
    exact (h.po x y hx hy).2 ⟨q.1, q.2.2.1⟩
theorem same_of {a b : RL} (h : a = b) : sameR a b = true := by subst h; unfold sameR; exact decide_eq_true rfl
theorem only_same {n : Nat} {a : RL} {fr to : Wd} (hc : Cl n a) (h : ∀ x y, x < n → y < n → bitR a x y = true → fr.getLsbD x = true ∧ to.getLsbD y = true) : sameR (onlyR a fr to) a = true := by
  have h32 := hc.n32
  have hl := hc.len
  have c := only_cl (a := a) (by omega) fr to
  rw [hl] at c
  refine same_of (Cl.ext c hc fun x y hx hy => ?_)
  rw [only_bit, hc.clean]
  cases hb : bitR a x y
  · simp
  · obtain ⟨q1, q2⟩ := h x y hx hy hb
    simp [q1, q2]
theorem kind_bit {n : Nat} {e : Ex} (h : ExR n e) (q : Ev → Bool) {x : Nat} (hx : x < n) : (maskE q e.es).getLsbD x = q (evA e x) := by
  have hl := h.len
  have h24 := h.n24
  rw [maskE_bit (by omega) (by omega)]
  unfold evA
  rw [getD_at (by omega)]
theorem ones_bit {k : Nat} (h : k < 32) : (BitVec.allOnes 32).getLsbD k = true := by
  rw [BitVec.getLsbD_allOnes]; exact decide_eq_true h
theorem all4_reads {n : Nat} {e : Ex} (h : ExR n e) : sameR (onlyR (all4 e) (maskE (fun x => decide (x.k = 1)) e.es) (BitVec.allOnes 32)) (all4 e) = true := by
  obtain ⟨c, hb⟩ := all4_bit h
  have h24 := h.n24
  exact only_same c fun x y hx hy hh => by
    have q := hb x y hh
    exact ⟨by rw [kind_bit h _ hx]; exact decide_eq_true q.2.2.2, ones_bit (by omega)⟩
theorem da_ends {n : Nat} {e : Ex} (h : ExR n e) : sameR (onlyR e.da (maskE (fun x => decide (x.k = 1)) e.es) (maskE (fun x => decide (x.k = 2)) e.es)) e.da = true :=
  only_same h.cda fun x y hx hy hh => by
    rw [kind_bit h _ hx, kind_bit h _ hy]
    exact ⟨decide_eq_true (h.da x y hh).2.2.2, decide_eq_true (h.da2 x y hh)⟩
theorem alike_bit {n : Nat} {e : Ex} (h : ExR n e) {x y : Nat} (hx : x < n) (hy : y < n) : bitR (eventsR alikeQ e.es) x y = (decide (¬x = y) && alikeQ (evA e x) (evA e y)) := by
  have hl := h.len
  have h24 := h.n24
  rw [events_bit (by omega) (by omega) (by omega)]
  unfold evA
  rw [getD_at (by omega), getD_at (by omega)]
theorem rm_alike {n : Nat} {e : Ex} (h : ExR n e) : sameR (andF e.rm (eventsR alikeQ e.es)) e.rm = true := by
  have hl := h.len
  have h24 := h.n24
  have hc := events_cl (q := alikeQ) (es := e.es) (by omega)
  rw [hl] at hc
  exact and_same h.crm hc fun x y hx hy hh => by
    have q := h.rm x y hh
    have r := h.rm2 x y hh
    have hne : ¬x = y := by omega
    rw [alike_bit h hx hy]
    simp [hne, alikeQ, memE, q.2.2.2, r.1, r.2.2]
theorem apart_inner {n : Nat} {e : Ex} (h : ExR n e) : sameR (andF (orF (all4 e) e.po) (eventsR innerQ e.es)) (orF (all4 e) e.po) = true := by
  have hl := h.len
  have h24 := h.n24
  have hc := events_cl (q := innerQ) (es := e.es) (by omega)
  rw [hl] at hc
  obtain ⟨c4, h4⟩ := all4_bit h
  obtain ⟨co, ho⟩ := orR c4 h.cpo
  exact and_same co hc fun x y hx hy hh => by
    rw [ho, Bool.or_eq_true] at hh
    rw [inner_bit h hx hy]
    rcases hh with hh | hh
    · have q := h4 x y hh
      have hne : ¬x = y := by omega
      simp [hne, q.2.2.1]
    · have q := (h.po x y hx hy).1 hh
      have hne : ¬x = y := by omega
      simp [hne, q.2]
theorem alike_mem {n : Nat} {e : Ex} (h : ExR n e) : sameR (onlyR (eventsR alikeQ e.es) (maskE memE e.es) (maskE memE e.es)) (eventsR alikeQ e.es) = true := by
  have hl := h.len
  have h24 := h.n24
  have hc := events_cl (q := alikeQ) (es := e.es) (by omega)
  rw [hl] at hc
  exact only_same hc fun x y hx hy hh => by
    rw [alike_bit h hx hy] at hh
    simp only [Bool.and_eq_true, alikeQ] at hh
    rw [kind_bit h _ hx, kind_bit h _ hy]
    exact ⟨hh.2.1.1, hh.2.1.2⟩
end Go.Eng
