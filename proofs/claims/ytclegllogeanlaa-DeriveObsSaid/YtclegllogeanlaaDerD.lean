import Derived.Test.YtclegllogeanlaaDerC
import Derived.Test.YtclegllogeanlaaCohF
set_option linter.unusedSimpArgs false
set_option linter.unusedVariables false
set_option autoImplicit false
namespace Go.Eng
open Go Go.RowKit Go.Proofs
/-! ## What is read, and how it hangs together: by bits -/
theorem c_all8 {es : List Ev} (h8 : es.length ≤ 8) : SC Try.prog 26 [.agg (exL es)] (.pv (.sl 1 (rlsL (allR es)))) ∧ (allR es).length ≤ 40320 := by
  have hfn : fewN es ≤ 8 := Nat.le_trans (fewN_le es) h8
  have hup : ∀ i, i ≤ (placesF es).length → (allUp es i).length ≤ 40320 := fun i hi => Nat.le_trans (allUp_le es i hi) (Nat.le_trans (fac_mono (Nat.le_trans (cntP_le es i) hfn)) (by decide))
  refine ⟨c_cohAll (by omega) (fun i hi => Nat.le_trans (hup i hi) (by decide)) fun i hi => ?_, hup _ (Nat.le_refl _)⟩
  have h1 := allUp_le es i (by omega)
  have h2 := cntP_succ hi
  have h3 := cntP_le es (i + 1)
  have hne : (writesF es (placesF es)[i]) ≠ [] := fun h => by
    obtain ⟨a, ha, hk, hl⟩ := (places_mem es _).1 (List.getElem_mem hi)
    have : (a : Int) ∈ writesF es (placesF es)[i] := writes_mem.2 ⟨a, ha, rfl, hk, hl⟩
    rw [h] at this; cases this
  generalize writesF es (placesF es)[i] = W at *
  have hw : 0 < W.length := List.length_pos_iff.2 hne
  by_cases h6 : 6 < W.length
  · unfold ordF; rw [if_pos h6]; simp
  · have h4 : (ordF W).length ≤ fac W.length := ordF_le W
    have h5 : fac (cntP es i) ≤ fac (8 - W.length) := fac_mono (by omega)
    refine Nat.le_trans (Nat.mul_le_mul (Nat.le_trans h1 h5) h4) ?_
    have key : ∀ w : Fin 7, 0 < w.1 → fac (8 - w.1) * fac w.1 ≤ 20000 := by decide
    exact key ⟨W.length, by omega⟩ hw
/-- Who reads, reads a write of the same place, or what was there at first. -/
structure Src (es : List Ev) (fm : List Int) : Prop where
  len : fm.length = es.length
  rd : ∀ i, (h : i < es.length) → (h2 : i < fm.length) → (es[i].k = 1 ∧ (fm[i] = -1 ∨ ∃ a : Nat, ∃ ha : a < es.length, fm[i] = a ∧ es[a].k = 2 ∧ es[a].l = es[i].l)) ∨ (¬es[i].k = 1 ∧ fm[i] = -2)
theorem src_of {es : List Ev} {init : List Int} {w : List Int} (hl : w.length = es.length) (h : ∀ i, (h : i < w.length) → (h2 : i < es.length) → w[i] ∈ choiceX es init es[i]) : Src es w := by
  refine ⟨hl, fun i hi hi2 => ?_⟩
  have h1 := h i hi2 hi
  unfold choiceX at h1
  by_cases hk : es[i].k = 1
  · rw [if_pos hk] at h1
    left; refine ⟨hk, ?_⟩
    unfold mayX at h1
    rcases List.mem_append.1 h1 with h2 | h2
    · left
      unfold initL at h2
      split at h2
      · simpa using h2
      · cases h2
    · right
      obtain ⟨a, h3, h4⟩ := List.mem_map.1 h2
      obtain ⟨h5, h6⟩ := List.mem_filter.1 h3
      have ha := List.mem_range.1 h5
      unfold someE mayQ at h6
      rw [List.getElem?_eq_getElem ha] at h6
      simp at h6
      exact ⟨a, ha, h4.symm, h6.1.1, h6.1.2⟩
  · rw [if_neg hk] at h1
    exact .inr ⟨hk, by simpa using h1⟩
theorem frUp_cl {es : List Ev} (h32 : es.length ≤ 32) (fm : List Int) (co : RL) : ∀ r, Cl es.length (frUp es fm co r) := fr_len h32
theorem frUp_bit {es : List Ev} (h32 : es.length ≤ 32) (fm : List Int) (co : RL) {x y : Nat} (hx : x < es.length) (hy : y < es.length) : ∀ r, bitR (frUp es fm co r) x y = (decide (x < r) && (behindR es x (fm.getD x 0) co).getLsbD y && decide (¬x = y))
  | 0 => by simp [frUp, newR, bit_new]
  | r + 1 => by
    have hX := cross_cl h32 (1#32 <<< r) (behindR es r (fm.getD r 0) co &&& ~~~(1#32 <<< r))
    have hO := orR (frUp_cl h32 fm co r) hX.1
    rw [frUp, hO.2, frUp_bit h32 fm co hx hy r, hX.2 x y hx hy, shl1_bit, and_bit, BitVec.getLsbD_not, shl1_bit]
    have e1 : x < 32 := by omega
    have e2 : y < 32 := by omega
    by_cases h : x = r
    · subst h
      by_cases h2 : x = y
      · subst h2; simp
      · have h2' : ¬y = x := fun e => h2 e.symm
        simp [h2, h2', e1, e2]
    · by_cases h3 : x < r
      · simp [h, h3, show x < r + 1 by omega]
      · simp [h, h3, show ¬x < r + 1 by omega]
theorem fr_cl {es : List Ev} (h32 : es.length ≤ 32) (fm : List Int) (co : RL) : Cl es.length (frR es fm co) := fr_len h32 _
theorem fr_iff {es : List Ev} {fm : List Int} {co : RL} {f : Nat → Int} (hS : Src es fm) (hR : Rank es co f) {r w : Nat} (hr : r < es.length) (hw : w < es.length) : bitR (frR es fm co) r w = true ↔ es[r].k = 1 ∧ es[w].k = 2 ∧ es[r].l = es[w].l ∧ (fm[r]'(by rw [hS.len]; exact hr) = -1 ∨ ∃ a : Nat, ∃ ha : a < es.length, fm[r]'(by rw [hS.len]; exact hr) = a ∧ es[a].k = 2 ∧ es[a].l = es[r].l ∧ f a < f w) := by
  have h32 := hR.cl.n32
  have hrf : r < fm.length := by rw [hS.len]; exact hr
  unfold frR
  rw [frUp_bit h32 fm co hr hw, getD_in _ _ hrf]
  have hmin : r < min fm.length es.length := by rw [hS.len]; simpa using hr
  rcases hS.rd r hr hrf with ⟨hk, h1 | ⟨a, ha, h1, hka, hla⟩⟩ | ⟨hk, h1⟩
  · rw [h1]
    have e : behindR es r (-1) co = maskE (behQ es[r].l) es := by
      unfold behindR; rw [if_pos rfl, getD_in _ _ (by simpa using hr), List.getElem_map]
    rw [e, maskE_bit h32 hw]
    unfold behQ
    constructor
    · intro h
      simp at h
      exact ⟨hk, h.1.2.1, h.1.2.2.symm, .inl rfl⟩
    · rintro ⟨_, h2, h3, _⟩
      have hne : ¬r = w := fun e => by subst e; omega
      simp [h2, h3, hne, hrf, hr]
      omega
  · rw [h1]
    have hneg : ¬(a : Int) = -1 := by omega
    have e : behindR es r (a : Int) co = maskW ((List.range es.length).filter fun k => hasR co a k) := by
      unfold behindR
      rw [if_neg hneg, if_neg (by
        rintro (h | h | h)
        · omega
        · omega
        · exact h (by simp [ha, hka]))]
    rw [e, mask_bit (by omega)]
    have e2 : (w ∈ (List.range es.length).filter fun k : Nat => hasR co a k) ↔ bitR co a w = true := by
      rw [List.mem_filter, List.mem_range, has_nat hR.cl]
      exact ⟨fun h => h.2, fun h => ⟨hw, h⟩⟩
    constructor
    · intro h
      simp only [Bool.and_eq_true, decide_eq_true_eq] at h
      have h2 := (hR.bit a w ha hw).1 (e2.1 h.1.2)
      exact ⟨hk, h2.2.1, by rw [← hla]; exact h2.2.2.1, .inr ⟨a, ha, rfl, hka, hla, h2.2.2.2.2⟩⟩
    · rintro ⟨_, h2, h3, h4⟩
      rcases h4 with h4 | ⟨b, hb, h4, h5, h6, h7⟩
      · omega
      · have : b = a := by omega
        subst this
        have hne : ¬r = w := fun e => by subst e; omega
        simp only [Bool.and_eq_true, decide_eq_true_eq]
        exact ⟨⟨hmin, e2.2 ((hR.bit b w ha hw).2 ⟨h5, h2, by rw [h6, h3], trivial, h7⟩)⟩, hne⟩
  · rw [h1]
    have e : behindR es r (-2) co = 0#32 := by
      unfold behindR; rw [if_neg (by decide), if_pos (.inl (by decide))]
    rw [e]
    constructor
    · intro h; simp at h
    · rintro ⟨h, _⟩; exact absurd h hk
theorem rf_bit {n : Nat} (h32 : n ≤ 32) (fm : List Int) {x y : Nat} (hx : x < n) (hy : y < n) : ∀ k, (bitR (rfUp n fm k) x y = true ↔ y < k ∧ fm.getD y 0 = x)
  | 0 => by simp [rfUp, newR, bit_new]
  | k + 1 => by
    rw [rfUp, put_bit (rfUp_cl h32 fm k) hx hy, Bool.or_eq_true, rf_bit h32 fm hx hy k]
    simp only [Bool.and_eq_true, decide_eq_true_eq]
    constructor
    · rintro (⟨h1, h2⟩ | ⟨h1, h2⟩)
      · exact ⟨by omega, h2⟩
      · have : y = k := by omega
        subst this; exact ⟨by omega, h1⟩
    · rintro ⟨h1, h2⟩
      by_cases h : y = k
      · subst h; exact .inr ⟨h2, rfl⟩
      · exact .inl ⟨by omega, h2⟩
theorem rf_iff {es : List Ev} {fm : List Int} (h32 : es.length ≤ 32) (hS : Src es fm) {x y : Nat} (hx : x < es.length) (hy : y < es.length) : bitR (rfR es fm) x y = true ↔ es[y].k = 1 ∧ es[x].k = 2 ∧ es[x].l = es[y].l ∧ fm[y]'(by rw [hS.len]; exact hy) = x := by
  have hyf : y < fm.length := by rw [hS.len]; exact hy
  unfold rfR
  rw [rf_bit h32 fm hx hy, getD_in _ _ hyf]
  constructor
  · rintro ⟨_, h2⟩
    rcases hS.rd y hy hyf with ⟨hk, h1 | ⟨a, ha, h1, hka, hla⟩⟩ | ⟨hk, h1⟩
    · omega
    · have : a = x := by omega
      subst this; exact ⟨hk, hka, hla, h1⟩
    · omega
  · rintro ⟨_, _, _, h⟩; exact ⟨hyf, h⟩
/-- All that goes by memory. -/
theorem com_bit {es : List Ev} {fm : List Int} {co : RL} (h32 : es.length ≤ 32) (hco : Cl es.length co) : Cl es.length (comR es fm co) ∧ ∀ x y, bitR (comR es fm co) x y = (bitR (rfR es fm) x y || bitR co x y || bitR (frR es fm co) x y) := by
  have hN := new_cl (n := es.length) h32
  have hRf : Cl es.length (rfR es fm) := rfUp_cl h32 fm _
  have hF := fr_cl h32 fm co
  have h1 := orR hN hRf
  have h2 := orR h1.1 hco
  have h3 := orR h2.1 hF
  have e : comR es fm co = bothR (· ||| ·) (bothR (· ||| ·) (bothR (· ||| ·) (newR es.length) (rfR es fm)) co) (frR es fm co) := by
    unfold comR unionR; simp only [List.foldl_cons, List.foldl_nil]
  rw [e]
  refine ⟨h3.1, fun x y => ?_⟩
  rw [h3.2, h2.2, h1.2]
  have : bitR (newR es.length) x y = false := by simp [newR, bit_new]
  rw [this, Bool.false_or]
theorem com_cases {es : List Ev} {fm : List Int} {co : RL} {f : Nat → Int} (hS : Src es fm) (hR : Rank es co f) {x y : Nat} (hx : x < es.length) (hy : y < es.length) (h : bitR (comR es fm co) x y = true) :
    (es[x].l = es[y].l) ∧ ((es[y].k = 1 ∧ es[x].k = 2 ∧ fm[y]'(by rw [hS.len]; exact hy) = x) ∨ (es[x].k = 2 ∧ es[y].k = 2 ∧ f x < f y) ∨ (es[x].k = 1 ∧ es[y].k = 2 ∧ (fm[x]'(by rw [hS.len]; exact hx) = -1 ∨ ∃ a : Nat, ∃ ha : a < es.length, fm[x]'(by rw [hS.len]; exact hx) = a ∧ es[a].k = 2 ∧ es[a].l = es[x].l ∧ f a < f y))) := by
  rw [(com_bit hR.cl.n32 hR.cl).2, Bool.or_eq_true, Bool.or_eq_true] at h
  rcases h with (h | h) | h
  · obtain ⟨h1, h2, h3, h4⟩ := (rf_iff hR.cl.n32 hS hx hy).1 h
    exact ⟨h3, .inl ⟨h1, h2, h4⟩⟩
  · obtain ⟨h1, h2, h3, _, h5⟩ := (hR.bit x y hx hy).1 h
    exact ⟨h3, .inr (.inl ⟨h1, h2, h5⟩)⟩
  · obtain ⟨h1, h2, h3, h4⟩ := (fr_iff hS hR hx hy).1 h
    exact ⟨h3, .inr (.inr ⟨h1, h2, h4⟩)⟩
theorem seqUp_bit (y : RL) (x : Wd) (c : Nat) : ∀ j, (seqUp y x j).getLsbD c = true ↔ ∃ i, i < j ∧ x.getLsbD i = true ∧ bitR y i c = true
  | 0 => by simp [seqUp]
  | j + 1 => by
    unfold seqUp
    cases hb : x.getLsbD j
    · rw [if_neg (by decide), seqUp_bit y x c j]
      constructor
      · rintro ⟨i, h1, h2⟩; exact ⟨i, by omega, h2⟩
      · rintro ⟨i, h1, h2, h3⟩
        by_cases e : i = j
        · subst e; rw [hb] at h2; cases h2
        · exact ⟨i, by omega, h2, h3⟩
    · rw [if_pos rfl, or_bit, Bool.or_eq_true, seqUp_bit y x c j]
      constructor
      · rintro (⟨i, h1, h2⟩ | h)
        · exact ⟨i, by omega, h2⟩
        · exact ⟨j, by omega, hb, h⟩
      · rintro ⟨i, h1, h2, h3⟩
        by_cases e : i = j
        · subst e; exact .inr h3
        · exact .inl ⟨i, by omega, h2, h3⟩
theorem seq_bit {n : Nat} {a b : RL} (ha : Cl n a) (hb : Cl n b) : Cl n (seqR a b) ∧ ∀ x y, x < n → (bitR (seqR a b) x y = true ↔ ∃ j, j < n ∧ bitR a x j = true ∧ bitR b j y = true) := by
  have hca := ha.clean
  have hcb := hb.clean
  have hbit : ∀ x y, x < n → (bitR (seqR a b) x y = true ↔ ∃ j, j < n ∧ bitR a x j = true ∧ bitR b j y = true) := fun x y hx => by
    unfold seqR bothR
    rw [hca, hcb, if_pos (by rw [ha.len, hb.len])]
    have hxa : x < a.length := by rw [ha.len]; exact hx
    have hxb : x < b.length := by rw [hb.len]; exact hx
    have e : bitR (List.zipWith (fun x _ => seqUp b x b.length) a b) x y = (seqUp b a[x] b.length).getLsbD y := by
      unfold bitR; rw [getD_in _ _ (by simp; omega)]; simp
    have e2 : ∀ j, (a[x]).getLsbD j = bitR a x j := fun j => by unfold bitR; rw [getD_in _ _ hxa]
    rw [e, seqUp_bit, hb.len]
    simp only [e2]
  refine ⟨⟨ha.n32, ?_, fun x y hy => ?_⟩, hbit⟩
  · unfold seqR bothR
    rw [hca, hcb, if_pos (by rw [ha.len, hb.len])]; simp [ha.len, hb.len]
  · by_cases hx : x < n
    · refine Bool.eq_false_iff.2 fun h => ?_
      obtain ⟨j, h1, h2, h3⟩ := (hbit x y hx).1 h
      rw [hb.out j y hy] at h3; cases h3
    · refine bit_out ?_
      unfold seqR bothR
      rw [hca, hcb, if_pos (by rw [ha.len, hb.len])]; simp [ha.len, hb.len]; omega
theorem and_same {n : Nat} {a b : RL} (ha : Cl n a) (hb : Cl n b) (h : ∀ x y, x < n → y < n → bitR a x y = true → bitR b x y = true) : sameR (bothR (· &&& ·) a b) a = true := by
  have hA := andR ha hb
  unfold sameR
  rw [hA.1.clean, ha.clean]
  refine decide_eq_true (hA.1.ext ha fun x y hx hy => ?_)
  rw [hA.2]
  cases hq : bitR a x y
  · rfl
  · rw [h x y hx hy hq]; rfl
/-- What rises is acyclic. -/
theorem plusStep_up {n : Nat} {r : RL} {g : Nat → Int} (hl : r.length = n) (h : ∀ x y, bitR r x y = true → g x < g y) {j i : Nat} : ∀ x y, bitR (plusStep r j i) x y = true → g x < g y := by
  intro x y hb
  unfold plusStep at hb
  split at hb
  · rename_i hij
    by_cases hx : x = i
    · subst hx
      have hxl : x < r.length := by
        by_cases hq : x < r.length
        · exact hq
        · rw [bit_out (by omega)] at hij; cases hij
      have hb2 : ((r.getD x 0#32 ||| r.getD j 0#32).getLsbD y) = true := by
        unfold bitR at hb
        rw [getD_in _ _ (by simpa using hxl), List.getElem_set_self] at hb
        exact hb
      rw [or_bit, Bool.or_eq_true] at hb2
      rcases hb2 with h1 | h1
      · exact h x y h1
      · have h2 := h x j hij
        have h3 := h j y h1
        omega
    · refine h x y ?_
      unfold bitR at hb ⊢
      by_cases hxl : x < r.length
      · rw [getD_in _ _ (by simpa using hxl), List.getElem_set_ne (fun e => hx e.symm)] at hb
        rw [getD_in _ _ hxl]; exact hb
      · rw [getD_out _ _ (by simp; omega)] at hb; simp at hb
  · exact h x y hb
theorem plus_up {r : RL} {g : Nat → Int} (h : ∀ x y, bitR (cleanR r) x y = true → g x < g y) : ∀ x y, bitR (plusR r) x y = true → g x < g y := by
  have h1 : ∀ (x : RL) j, (∀ a b, bitR x a b = true → g a < g b) → ∀ i, ∀ a b, bitR (plusIn x j i) a b = true → g a < g b := fun x j hx i => by
    induction i with
    | zero => exact hx
    | succ i ih => exact plusStep_up rfl ih
  have h2 : ∀ n j, ∀ a b, bitR (plusUp n (cleanR r) j) a b = true → g a < g b := fun n j => by
    induction j with
    | zero => exact h
    | succ j ih => exact h1 _ _ ih _
  exact h2 _ _
theorem acy_up {n : Nat} {r : RL} {g : Nat → Int} (hc : Cl n r) (h : ∀ x y, x < n → y < n → bitR r x y = true → g x < g y) : acyF r = true := by
  unfold acyF
  rw [List.all_eq_true]
  intro i _
  have := plus_up (r := r) (g := g) (fun x y hb => by
    rw [hc.clean] at hb
    by_cases hx : x < n
    · by_cases hy : y < n
      · exact h x y hx hy hb
      · rw [hc.out x y (by omega)] at hb; cases hb
    · rw [bit_out (by rw [hc.len]; omega)] at hb; cases hb) i i
  cases hq : bitR (plusR r) i i
  · rfl
  · have := this hq; omega
theorem com_up {es : List Ev} {fm : List Int} {co : RL} {f : Nat → Int} (hS : Src es fm) (hR : Rank es co f) : acyF (comR es fm co) = true := by
  obtain ⟨m, hm⟩ : ∃ m : Int, ∀ a, a < es.length → m < f a := by
    have : ∀ n, ∃ m : Int, ∀ a, a < n → m < f a := fun n => by
      induction n with
      | zero => exact ⟨0, fun a h => by omega⟩
      | succ n ih =>
        obtain ⟨m, hm⟩ := ih
        by_cases h : m < f n
        · exact ⟨m, fun a ha => by
            by_cases e : a = n
            · subst e; exact h
            · exact hm a (by omega)⟩
        · exact ⟨f n - 1, fun a ha => by
            by_cases e : a = n
            · subst e; omega
            · have := hm a (by omega); omega⟩
    exact this _
  refine acy_up (g := fun x => if someE (fun e => decide (e.k = 2)) es x = true then 2 * f x else (if fm.getD x 0 = -1 then 2 * m + 1 else 2 * f (fm.getD x 0).toNat + 1)) (com_bit hR.cl.n32 hR.cl).1 fun x y hx hy hb => ?_
  have sx : someE (fun e => decide (e.k = 2)) es x = decide (es[x].k = 2) := by unfold someE; rw [List.getElem?_eq_getElem hx]
  have sy : someE (fun e => decide (e.k = 2)) es y = decide (es[y].k = 2) := by unfold someE; rw [List.getElem?_eq_getElem hy]
  have hxf : x < fm.length := by rw [hS.len]; exact hx
  have hyf : y < fm.length := by rw [hS.len]; exact hy
  rw [sx, sy, getD_in _ _ hxf, getD_in _ _ hyf]
  simp only [decide_eq_true_eq]
  obtain ⟨_, h | h | h⟩ := com_cases hS hR hx hy hb
  · obtain ⟨h1, h2, h3⟩ := h
    rw [if_pos h2, if_neg (by omega), if_neg (by omega), h3, Int.toNat_natCast]; omega
  · obtain ⟨h1, h2, h3⟩ := h
    rw [if_pos h1, if_pos h2]; omega
  · obtain ⟨h1, h2, h3⟩ := h
    rw [if_neg (by omega), if_pos h2]
    rcases h3 with h3 | ⟨a, ha, h3, _, _, h4⟩
    · rw [if_pos h3]
      have := hm y hy
      omega
    · rw [if_neg (by omega), h3, Int.toNat_natCast]; omega
theorem com_by {es : List Ev} {fm : List Int} {co : RL} {f : Nat → Int} (hS : Src es fm) (hR : Rank es co f) : sameR (bothR (· &&& ·) (seqR (invR (rfR es fm)) co) (frR es fm co)) (seqR (invR (rfR es fm)) co) = true := by
  have hI := inv_cl (rfUp_cl hR.cl.n32 fm fm.length)
  have hQ := seq_bit hI.1 hR.cl
  refine and_same hQ.1 (fr_cl hR.cl.n32 fm co) fun x y hx hy h => ?_
  obtain ⟨j, hj, h1, h2⟩ := (hQ.2 x y hx).1 h
  have hI2 := hI.2 x j hx hj
  rw [hI2] at h1
  obtain ⟨k1, k2, k3, k4⟩ := (rf_iff hR.cl.n32 hS hj hx).1 h1
  obtain ⟨l1, l2, l3, _, l5⟩ := (hR.bit j y hj hy).1 h2
  exact (fr_iff hS hR hx hy).2 ⟨k1, l2, by rw [← k3, l3], .inr ⟨j, hj, k4, k2, k3, l5⟩⟩
theorem com_ne {es : List Ev} {fm : List Int} {co : RL} {f : Nat → Int} (hS : Src es fm) (hR : Rank es co f) {x y : Nat} (hx : x < es.length) (hy : y < es.length) (h : bitR (comR es fm co) x y = true) : ¬x = y := by
  intro e
  subst e
  obtain ⟨_, h | h | h⟩ := com_cases hS hR hx hx h <;> omega
theorem com_alike {es : List Ev} {fm : List Int} {co : RL} {f : Nat → Int} (hS : Src es fm) (hR : Rank es co f) : sameR (bothR (· &&& ·) (comR es fm co) (eventsR alikeQ es)) (comR es fm co) = true := by
  refine and_same (com_bit hR.cl.n32 hR.cl).1 (events_cl hR.cl.n32) fun x y hx hy h => ?_
  have hne := com_ne hS hR hx hy h
  rw [events_bit hR.cl.n32 hx hy]
  unfold alikeQ memQ
  obtain ⟨hl, h | h | h⟩ := com_cases hS hR hx hy h
  · simp [hne, hl, h.1, h.2.1]
  · simp [hne, hl, h.1, h.2.1]
  · simp [hne, hl, h.1, h.2.1]
theorem com_parts {es : List Ev} {fm : List Int} {co : RL} {f : Nat → Int} (hS : Src es fm) (hR : Rank es co f) : sameR (bothR (· ||| ·) (bothR (· &&& ·) (comR es fm co) (eventsR innerQ es)) (obsR es fm co)) (comR es fm co) = true := by
  have hC := com_bit (fm := fm) hR.cl.n32 hR.cl
  have hA := andR hC.1 (events_cl (q := innerQ) hR.cl.n32)
  have hO := outer_cl (es := es) (r := comR es fm co) hC.1.len hR.cl.n32
  have hU := orR hA.1 hO.1
  unfold sameR obsR
  rw [hU.1.clean, hC.1.clean]
  refine decide_eq_true (hU.1.ext hC.1 fun x y hx hy => ?_)
  rw [hU.2, hA.2, hO.2 x y hx hy, events_bit hR.cl.n32 hx hy]
  unfold innerQ
  cases hq : bitR (comR es fm co) x y
  · rfl
  · have hne := com_ne hS hR hx hy hq
    by_cases ht : es[x].th = es[y].th
    · simp [hne, ht]
    · simp [ht]
theorem seq_fr {es : List Ev} {fm : List Int} {co : RL} {f : Nat → Int} (hS : Src es fm) (hR : Rank es co f) : sameR (bothR (· &&& ·) (seqR (frR es fm co) co) (frR es fm co)) (seqR (frR es fm co) co) = true := by
  have hQ := seq_bit (fr_cl hR.cl.n32 fm co) hR.cl
  refine and_same hQ.1 (fr_cl hR.cl.n32 fm co) fun x y hx hy h => ?_
  obtain ⟨j, hj, h1, h2⟩ := (hQ.2 x y hx).1 h
  obtain ⟨k1, k2, k3, k4⟩ := (fr_iff hS hR hx hj).1 h1
  obtain ⟨l1, l2, l3, _, l5⟩ := (hR.bit j y hj hy).1 h2
  refine (fr_iff hS hR hx hy).2 ⟨k1, l2, by rw [k3, l3], ?_⟩
  rcases k4 with k4 | ⟨a, ha, m1, m2, m3, m4⟩
  · exact .inl k4
  · exact .inr ⟨a, ha, m1, m2, m3, by omega⟩
theorem fr_alike {es : List Ev} {fm : List Int} {co : RL} {f : Nat → Int} (hS : Src es fm) (hR : Rank es co f) {a b w : Nat} (ha : a < es.length) (hb : b < es.length) (hw : w < es.length) (ka : es[a].k = 1) (kb : es[b].k = 1) (hl : es[a].l = es[b].l) (hf : fm[a]'(by rw [hS.len]; exact ha) = fm[b]'(by rw [hS.len]; exact hb)) : hasR (frR es fm co) a w = hasR (frR es fm co) b w := by
  rw [has_nat (fr_cl hR.cl.n32 fm co), has_nat (fr_cl hR.cl.n32 fm co), Bool.eq_iff_iff, fr_iff hS hR ha hw, fr_iff hS hR hb hw, hf, hl]
  simp [ka, kb]
end Go.Eng
