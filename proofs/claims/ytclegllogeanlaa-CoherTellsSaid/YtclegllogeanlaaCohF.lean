import Derived.Test.YtclegllogeanlaaCohD
import Derived.Test.YtclegllogeanlaaCohE
set_option linter.unusedSimpArgs false
set_option linter.unusedVariables false
set_option autoImplicit false
namespace Go.Eng
open Go Go.RowKit Go.Proofs
theorem cu_mem (d : Array Int) : ∀ m x, x ∈ Lib.compactUpTo d m ↔ ∃ j, j < m ∧ d[j]! = x
  | 0, x => by simp [Lib.compactUpTo]
  | m + 1, x => by
    rw [Lib.compactUpTo_succ, List.mem_append, cu_mem d m x]
    constructor
    · rintro (⟨j, h1, h2⟩ | h)
      · exact ⟨j, by omega, h2⟩
      · split at h
        · exact ⟨m, by omega, by rw [List.mem_singleton] at h; exact h.symm⟩
        · cases h
    · rintro ⟨j, h1, h2⟩
      by_cases hj : j < m
      · exact .inl ⟨j, hj, h2⟩
      · have hjm : j = m := by omega
        subst hjm
        by_cases hk : Lib.keeps d j = true
        · right; rw [if_pos hk]; simp [h2]
        · left
          have hm : ¬(j = 0 ∨ d[j]! ≠ d[j - 1]!) := by
            unfold Lib.keeps at hk
            exact fun h => hk (decide_eq_true h)
          have h0 : ¬j = 0 := fun h => hm (.inl h)
          have h3 : d[j]! = d[j - 1]! := Classical.not_not.1 fun h => hm (.inr h)
          exact ⟨j - 1, by omega, by rw [← h3]; exact h2⟩
theorem cu_lt (d : Array Int) (n : Nat) (hs : ∀ i j, i ≤ j → j < n → d[i]! ≤ d[j]!) : ∀ m, m ≤ n → (Lib.compactUpTo d m).Pairwise (· < ·)
  | 0, _ => by simp [Lib.compactUpTo]
  | m + 1, h => by
    rw [Lib.compactUpTo_succ, List.pairwise_append]
    refine ⟨cu_lt d n hs m (by omega), by split <;> simp, fun x hx y hy => ?_⟩
    split at hy
    · rename_i hk
      rw [List.mem_singleton] at hy
      subst hy
      obtain ⟨j, h1, rfl⟩ := (cu_mem d m x).1 hx
      unfold Lib.keeps at hk
      have hk := of_decide_eq_true hk
      have h4 := hs j (m - 1) (by omega) (by omega)
      have h5 := hs (m - 1) m (by omega) (by omega)
      rcases hk with hk | hk
      · omega
      · omega
    · cases hy
theorem sortI_sorted (l : List Int) : (sortI l).Pairwise (fun a b => a ≤ b) := by
  have h := List.pairwise_mergeSort (le := fun (x y : Int) => decide (x ≤ y)) (fun a b c h1 h2 => by simp at *; omega) (fun a b => by simp; omega) l
  exact h.imp fun h => of_decide_eq_true h
theorem places_mem (es : List Ev) (p : Int) : p ∈ placesF es ↔ ∃ a, ∃ h : a < es.length, es[a].k = 2 ∧ es[a].l = p := by
  unfold placesF Lib.compact
  rw [cu_mem]
  have hm : ∀ x, x ∈ sortI (wlocs es) ↔ ∃ a, ∃ h : a < es.length, es[a].k = 2 ∧ es[a].l = x := by
    intro x
    unfold sortI
    rw [List.mem_mergeSort]
    unfold wlocs
    simp only [List.mem_map, List.mem_filter, decide_eq_true_eq]
    constructor
    · rintro ⟨e, ⟨h1, h2⟩, h3⟩
      obtain ⟨a, h4, rfl⟩ := List.mem_iff_getElem.1 h1
      exact ⟨a, h4, h2, h3⟩
    · rintro ⟨a, h, h2, h3⟩
      exact ⟨es[a], ⟨List.getElem_mem h, h2⟩, h3⟩
  rw [← hm, List.mem_iff_getElem]
  constructor
  · rintro ⟨j, h1, h2⟩
    exact ⟨j, h1, by rw [← h2]; simp [h1]⟩
  · rintro ⟨j, h1, h2⟩
    exact ⟨j, h1, by rw [← h2]; simp [h1]⟩
theorem places_nd (es : List Ev) : (placesF es).Nodup := by
  unfold placesF Lib.compact
  have h := cu_lt (sortI (wlocs es)).toArray (sortI (wlocs es)).length (fun i j hij hj => by
    have := List.pairwise_iff_getElem.1 (sortI_sorted (wlocs es))
    have hi : i < (sortI (wlocs es)).length := by omega
    simp [hi, hj]
    by_cases h : i = j
    · subst h; omega
    · exact this i j hi hj (by omega)) _ (Nat.le_refl _)
  exact h.imp fun h => by omega
theorem writes_mem {es : List Ev} {loc x : Int} : x ∈ writesF es loc ↔ ∃ a : Nat, ∃ h : a < es.length, (a : Int) = x ∧ es[a].k = 2 ∧ es[a].l = loc := by
  unfold writesF
  simp only [List.mem_map, List.mem_filter, List.mem_range]
  constructor
  · rintro ⟨a, ⟨h1, h2⟩, h3⟩
    unfold someE wrQ at h2
    rw [List.getElem?_eq_getElem h1] at h2
    simp at h2
    exact ⟨a, h1, h3, h2⟩
  · rintro ⟨a, h1, h2, h3⟩
    refine ⟨a, ⟨h1, ?_⟩, h2⟩
    unfold someE wrQ
    rw [List.getElem?_eq_getElem h1]
    simp [h3]
theorem writes_nd (es : List Ev) (loc : Int) : (writesF es loc).Nodup := by
  unfold writesF
  have h : ((List.range es.length).filter (someE (wrQ loc) es)).Nodup := List.Pairwise.filter _ List.nodup_range
  exact List.Pairwise.map _ (fun a b h => by omega) h
theorem nd_inj {α : Type} {l : List α} (h : l.Nodup) {i j : Nat} (hi : i < l.length) (hj : j < l.length) (e : l[i] = l[j]) : i = j := by
  have := List.pairwise_iff_getElem.1 h
  rcases Nat.lt_trichotomy i j with h1 | h1 | h1
  · exact absurd e (this i j hi hj h1)
  · exact h1
  · exact absurd e.symm (this j i hj hi h1)
theorem cons_erase_perm {l : List Int} {i : Nat} (hi : i < l.length) : (l[i] :: l.eraseIdx i).Perm l := by
  have h : l.take i ++ l[i] :: l.drop (i + 1) = l := by rw [List.getElem_cons_drop, List.take_append_drop]
  rw [List.eraseIdx_eq_take_drop_succ]
  exact List.perm_middle.symm.trans (by rw [h])
theorem ordG_perm : ∀ (m : Nat) (l : List Int), l.length = m → ∀ g ∈ ordG m l, g.Perm l
  | 0, l, h, g, hg => by
    have : g = [] := by simpa [ordG] using hg
    rw [this, List.eq_nil_of_length_eq_zero h]
  | m + 1, l, h, g, hg => by
    simp only [ordG, List.mem_flatMap, List.mem_range, List.mem_map] at hg
    obtain ⟨i, hi, o, ho, rfl⟩ := hg
    rw [getD_in _ _ hi]
    exact ((ordG_perm m _ (by rw [List.length_eraseIdx_of_lt hi]; omega) o ho).cons _).trans (cons_erase_perm hi)
theorem ordF_perm {l g : List Int} (h : g ∈ ordF l) : g.Perm l := by
  unfold ordF at h
  split at h
  · cases h
  · exact ordG_perm _ _ rfl _ h
theorem put_bit {n : Nat} {r : RL} (h : Cl n r) {i k : Int} {x y : Nat} (hx : x < n) (hy : y < n) : bitR (putR r i k) x y = (bitR r x y || (decide (i = x) && decide (k = y))) := by
  have h32 := h.n32
  by_cases hi : 0 ≤ i ∧ i < n ∧ 0 ≤ k ∧ k < n
  · obtain ⟨a, rfl⟩ : ∃ a : Nat, i = a := ⟨i.toNat, by omega⟩
    obtain ⟨b, rfl⟩ : ∃ b : Nat, k = b := ⟨k.toNat, by omega⟩
    rw [put_cl h (by omega) (by omega), add_bit]
    have e1 : ((a : Int) = x) ↔ x = a := by omega
    have e2 : ((b : Int) = y) ↔ y = b := by omega
    have e3 : x < r.length := by rw [h.len]; exact hx
    have e4 : y < 32 := by omega
    simp [e1, e2, e3, e4]
  · rw [put_out h hi]
    by_cases h1 : i = x
    · by_cases h2 : k = y
      · omega
      · simp [h2]
    · simp [h1]
theorem ofIn_bit {n : Nat} {a : Int} {x y : Nat} (hx : x < n) (hy : y < n) : ∀ {bs : List Int} {r : RL}, Cl n r → (bitR (ofIn r a bs) x y = true ↔ bitR r x y = true ∨ (a = x ∧ (y : Int) ∈ bs))
  | [], r, h => by simp [ofIn]
  | b :: bs, r, h => by
    have := ofIn_bit hx hy (a := a) (bs := bs) (put_len h a b)
    show bitR (ofIn (putR r a b) a bs) x y = true ↔ _
    rw [this, put_bit h hx hy]
    simp only [Bool.or_eq_true, Bool.and_eq_true, decide_eq_true_eq, List.mem_cons]
    constructor
    · rintro ((h | ⟨h1, h2⟩) | ⟨h1, h2⟩)
      · exact .inl h
      · exact .inr ⟨h1, .inl h2.symm⟩
      · exact .inr ⟨h1, .inr h2⟩
    · rintro (h | ⟨h1, h2 | h2⟩)
      · exact .inl (.inl h)
      · exact .inl (.inr ⟨h1, h2.symm⟩)
      · exact .inr ⟨h1, h2⟩
theorem ofUp_bit {n : Nat} {l : List Int} (h32 : n ≤ 32) {x y : Nat} (hx : x < n) (hy : y < n) : ∀ k, (bitR (ofUp n l k) x y = true ↔ ∃ i, i < k ∧ l.getD i 0 = x ∧ (y : Int) ∈ l.drop (i + 1))
  | 0 => by simp [ofUp, newR, bit_new]
  | k + 1 => by
    rw [ofUp, ofIn_bit hx hy (ofUp_cl h32 k), ofUp_bit h32 hx hy k]
    constructor
    · rintro (⟨i, h1, h2⟩ | h)
      · exact ⟨i, by omega, h2⟩
      · exact ⟨k, by omega, h⟩
    · rintro ⟨i, h1, h2⟩
      by_cases hi : i = k
      · subst hi; exact .inr h2
      · exact .inl ⟨i, by omega, h2⟩
theorem of_bit {n : Nat} {l : List Int} (h32 : n ≤ 32) (hn : l.Nodup) {x y : Nat} (hx : x < n) (hy : y < n) : (bitR (ofF n l) x y = true ↔ (x : Int) ∈ l ∧ (y : Int) ∈ l ∧ l.idxOf (x : Int) < l.idxOf (y : Int)) := by
  unfold ofF
  rw [ofUp_bit h32 hx hy]
  have hix : ∀ i, (h : i < l.length) → l.idxOf l[i] = i := fun i h => by
    have h1 : l.idxOf l[i] < l.length := List.idxOf_lt_length_of_mem (List.getElem_mem h)
    have h2 : l[l.idxOf l[i]] = l[i] := List.getElem_idxOf h1
    exact nd_inj hn _ _ h2
  constructor
  · rintro ⟨i, h1, h2, h3⟩
    rw [getD_in _ _ h1] at h2
    obtain ⟨j, h4, h5⟩ := List.mem_iff_getElem.1 h3
    rw [List.getElem_drop] at h5
    rw [List.length_drop] at h4
    rw [← h2, ← h5, hix _ h1, hix _ (by omega)]
    exact ⟨List.getElem_mem _, List.getElem_mem _, by omega⟩
  · rintro ⟨h1, h2, h3⟩
    obtain ⟨i, h4, h5⟩ := List.mem_iff_getElem.1 h1
    obtain ⟨j, h6, h7⟩ := List.mem_iff_getElem.1 h2
    rw [← h5, ← h7, hix _ h4, hix _ h6] at h3
    refine ⟨i, h4, by rw [getD_in _ _ h4]; exact h5, List.mem_iff_getElem.2 ⟨j - (i + 1), by rw [List.length_drop]; omega, ?_⟩⟩
    rw [List.getElem_drop]
    have : i + 1 + (j - (i + 1)) = j := by omega
    simp only [this]
    exact h7
theorem idx_inj {l : List Int} {a b : Int} (ha : a ∈ l) (hb : b ∈ l) (h : l.idxOf a = l.idxOf b) : a = b := by
  have h1 := List.getElem_idxOf (List.idxOf_lt_length_of_mem ha)
  have h2 := List.getElem_idxOf (List.idxOf_lt_length_of_mem hb)
  rw [← h1, ← h2]
  simp only [h]
/-- A way that fits: of the writes of each of these places by a rank. -/
structure RankK (es : List Ev) (P : Int → Prop) (co : RL) (f : Nat → Int) : Prop where
  cl : Cl es.length co
  bit : ∀ a b, (ha : a < es.length) → (hb : b < es.length) → (bitR co a b = true ↔ es[a].k = 2 ∧ es[b].k = 2 ∧ es[a].l = es[b].l ∧ P es[a].l ∧ f a < f b)
  inj : ∀ a b, (ha : a < es.length) → (hb : b < es.length) → es[a].k = 2 → es[b].k = 2 → es[a].l = es[b].l → P es[a].l → f a = f b → a = b
theorem allUp_rank {es : List Ev} (h32 : es.length ≤ 32) : ∀ i, i ≤ (placesF es).length → ∀ co ∈ allUp es i, ∃ f, RankK es (fun p => p ∈ (placesF es).take i) co f
  | 0, _, co, hc => by
    have : co = newR es.length := by simpa [allUp] using hc
    subst this
    exact ⟨fun _ => 0, new_cl h32, fun a b ha hb => by simp [newR, bit_new], fun a b ha hb _ _ _ h => by simp at h⟩
  | i + 1, hi, co, hc => by
    simp only [allUp, List.mem_flatMap, List.mem_map] at hc
    obtain ⟨c, h1, o, h2, rfl⟩ := hc
    obtain ⟨f, hf⟩ := allUp_rank h32 i (by omega) c h1
    have hlt : i < (placesF es).length := by omega
    rw [getD_in _ _ hlt] at h2
    have hp := ordF_perm h2
    have hnd : o.Nodup := hp.nodup_iff.2 (writes_nd _ _)
    have hO := orR hf.cl (ofUp_cl (l := o) h32 o.length)
    have hnp : (placesF es)[i] ∉ (placesF es).take i := fun h => by
      obtain ⟨j, h3, h4⟩ := List.mem_iff_getElem.1 h
      rw [List.getElem_take] at h4
      rw [List.length_take] at h3
      have := nd_inj (places_nd es) _ _ h4
      omega
    have htk : ∀ q, q ∈ (placesF es).take (i + 1) ↔ q ∈ (placesF es).take i ∨ q = (placesF es)[i] := fun q => by
      have e : (placesF es).take (i + 1) = (placesF es).take i ++ [(placesF es)[i]] := by rw [List.take_add_one, List.getElem?_eq_getElem hlt]; rfl
      rw [e, List.mem_append, List.mem_singleton]
    have hmo : ∀ a : Nat, (ha : a < es.length) → ((a : Int) ∈ o ↔ es[a].k = 2 ∧ es[a].l = (placesF es)[i]) := fun a ha => by
      rw [hp.mem_iff, writes_mem]
      constructor
      · rintro ⟨b, hb, h3, h4⟩
        have : b = a := by omega
        subst this; exact h4
      · exact fun h => ⟨a, ha, rfl, h⟩
    generalize (placesF es)[i] = p at *
    refine ⟨fun x => if someE (fun e => decide (e.l = p)) es x = true then (o.idxOf (x : Int) : Int) else f x, hO.1, fun a b ha hb => ?_, fun a b ha hb ka kb hl hP hfe => ?_⟩
    · have hsa : someE (fun e => decide (e.l = p)) es a = decide (es[a].l = p) := by unfold someE; rw [List.getElem?_eq_getElem ha]
      have hsb : someE (fun e => decide (e.l = p)) es b = decide (es[b].l = p) := by unfold someE; rw [List.getElem?_eq_getElem hb]
      have hob := of_bit (l := o) h32 hnd ha hb
      unfold ofF at hob
      have hO2 := hO.2 a b
      unfold ofF
      rw [hO2, Bool.or_eq_true, hf.bit a b ha hb, hob, hmo a ha, hmo b hb, htk, hsa, hsb]
      simp only [decide_eq_true_eq]
      by_cases hla : es[a].l = p
      · by_cases hlb : es[b].l = p
        · rw [if_pos hla, if_pos hlb]
          constructor
          · rintro (⟨_, _, _, h, _⟩ | ⟨⟨h3, h4⟩, ⟨h5, h6⟩, h7⟩)
            · rw [hla] at h; exact absurd h hnp
            · exact ⟨h3, h5, by rw [h4, h6], .inr h4, by omega⟩
          · rintro ⟨h3, h4, h5, h6, h7⟩
            exact .inr ⟨⟨h3, hla⟩, ⟨h4, hlb⟩, by omega⟩
        · constructor
          · rintro (⟨_, _, h, _⟩ | ⟨_, ⟨_, h⟩, _⟩)
            · rw [hla] at h; exact absurd h.symm hlb
            · exact absurd h hlb
          · rintro ⟨_, _, h, _⟩
            rw [hla] at h; exact absurd h.symm hlb
      · by_cases hlb : es[b].l = p
        · constructor
          · rintro (⟨_, _, h, _⟩ | ⟨⟨_, h⟩, _⟩)
            · rw [hlb] at h; exact absurd h hla
            · exact absurd h hla
          · rintro ⟨_, _, h, _⟩
            rw [hlb] at h; exact absurd h hla
        · rw [if_neg hla, if_neg hlb]
          constructor
          · rintro (⟨h3, h4, h5, h6, h7⟩ | ⟨⟨_, h⟩, _⟩)
            · exact ⟨h3, h4, h5, .inl h6, h7⟩
            · exact absurd h hla
          · rintro ⟨h3, h4, h5, h6 | h6, h7⟩
            · exact .inl ⟨h3, h4, h5, h6, h7⟩
            · exact absurd h6 hla
    · have hsa : someE (fun e => decide (e.l = p)) es a = decide (es[a].l = p) := by unfold someE; rw [List.getElem?_eq_getElem ha]
      have hsb : someE (fun e => decide (e.l = p)) es b = decide (es[b].l = p) := by unfold someE; rw [List.getElem?_eq_getElem hb]
      rw [hsa, hsb] at hfe
      simp only [decide_eq_true_eq] at hfe
      have hP2 := (htk _).1 hP
      by_cases hla : es[a].l = p
      · have hlb : es[b].l = p := by rw [← hl]; exact hla
        rw [if_pos hla, if_pos hlb] at hfe
        have := idx_inj ((hmo a ha).2 ⟨ka, hla⟩) ((hmo b hb).2 ⟨kb, hlb⟩) (by omega)
        omega
      · have hlb : ¬es[b].l = p := by rw [← hl]; exact hla
        rw [if_neg hla, if_neg hlb] at hfe
        rcases hP2 with h | h
        · exact hf.inj a b ha hb ka kb hl h hfe
        · exact absurd h hla
end Go.Eng
set_option linter.unusedSimpArgs false
set_option linter.unusedVariables false
set_option autoImplicit false
namespace Go.Eng
open Go Go.RowKit Go.Proofs
theorem fac_pos : ∀ n, 0 < fac n
  | 0 => by decide
  | n + 1 => Nat.mul_pos (by omega) (fac_pos n)
theorem fac_step (n : Nat) : fac n ≤ fac (n + 1) := by
  show fac n ≤ (n + 1) * fac n
  exact Nat.le_mul_of_pos_left _ (by omega)
theorem fac_mono {a : Nat} : ∀ {b : Nat}, a ≤ b → fac a ≤ fac b
  | 0, h => by have : a = 0 := by omega
               rw [this]; exact Nat.le_refl _
  | b + 1, h => by
    by_cases e : a = b + 1
    · rw [e]; exact Nat.le_refl _
    · exact Nat.le_trans (fac_mono (by omega)) (fac_step b)
theorem fac_mul (a : Nat) : ∀ b, fac a * fac b ≤ fac (a + b)
  | 0 => by simp [fac]
  | b + 1 => by
    show fac a * ((b + 1) * fac b) ≤ (a + b + 1) * fac (a + b)
    have h := fac_mul a b
    calc fac a * ((b + 1) * fac b) = (b + 1) * (fac a * fac b) := by rw [Nat.mul_left_comm]
      _ ≤ (b + 1) * fac (a + b) := Nat.mul_le_mul_left _ h
      _ ≤ (a + b + 1) * fac (a + b) := Nat.mul_le_mul_right _ (by omega)
theorem ordF_le (l : List Int) : (ordF l).length ≤ fac l.length := by
  unfold ordF; split
  · exact Nat.zero_le _
  · rw [ordG_len _ l rfl]; exact Nat.le_refl _
theorem len_flat {α β : Type} {f : α → List β} {c : Nat} : ∀ {l : List α}, (∀ x ∈ l, (f x).length = c) → (l.flatMap f).length = l.length * c
  | [], _ => by simp
  | x :: l, h => by
    rw [List.flatMap_cons, List.length_append, h x (List.mem_cons_self ..), len_flat (fun y hy => h y (List.mem_cons_of_mem _ hy)), List.length_cons, Nat.succ_mul, Nat.add_comm]
theorem allUp_len (es : List Ev) (i : Nat) : (allUp es (i + 1)).length = (allUp es i).length * (ordF (writesF es ((placesF es).getD i 0))).length := by
  rw [allUp]
  exact len_flat fun c _ => by rw [List.length_map]
theorem some_len (q : Ev → Bool) (es : List Ev) : ((List.range es.length).filter (someE q es)).length = (es.filter q).length := by
  have : ∀ i, i ≤ es.length → ((List.range i).filter (someE q es)).length = ((es.take i).filter q).length := fun i => by
    induction i with
    | zero => intro _; simp
    | succ i ih =>
      intro h
      have hi : i < es.length := by omega
      rw [filter_range_succ, filter_take_succ hi, List.length_append, List.length_append, ih (by omega)]
      unfold someE
      rw [List.getElem?_eq_getElem hi]
      congr 1
      by_cases hq : q es[i] = true
      · simp [hq]
      · simp [hq]
  have h := this _ (Nat.le_refl _)
  rwa [List.take_length] at h
theorem writes_cnt (es : List Ev) (p : Int) : (writesF es p).length = (es.filter (wrQ p)).length := by
  unfold writesF
  rw [List.length_map, some_len]
theorem cnt_or {P Q R : Ev → Bool} (h : ∀ x, R x = (P x || Q x)) (hd : ∀ x, P x = true → Q x = true → False) : ∀ l : List Ev, (l.filter R).length = (l.filter P).length + (l.filter Q).length
  | [] => rfl
  | x :: l => by
    have ih := cnt_or h hd l
    have h1 := h x
    have h2 := hd x
    cases hP : P x
    · cases hQ : Q x
      · rw [hP, hQ] at h1
        simp [List.filter_cons, hP, hQ, h1, ih]
      · rw [hP, hQ] at h1
        simp [List.filter_cons, hP, hQ, h1, ih]; omega
    · cases hQ : Q x
      · rw [hP, hQ] at h1
        simp [List.filter_cons, hP, hQ, h1, ih]; omega
      · exact absurd hQ (fun h => h2 hP hQ)
def cntP (es : List Ev) (i : Nat) : Nat := (es.filter fun e => decide (e.k = 2) && decide (e.l ∈ (placesF es).take i)).length
theorem cntP_le (es : List Ev) (i : Nat) : cntP es i ≤ fewN es := by
  unfold cntP fewN
  have : (fun e : Ev => decide (e.k = 2) && decide (e.l ∈ (placesF es).take i)) = fun e => (decide (e.l ∈ (placesF es).take i)) && decide (e.k = 2) := by
    funext e; rw [Bool.and_comm]
  rw [this, ← List.filter_filter]
  exact List.length_filter_le _ _
theorem cntP_succ {es : List Ev} {i : Nat} (h : i < (placesF es).length) : cntP es (i + 1) = cntP es i + (writesF es (placesF es)[i]).length := by
  rw [writes_cnt]
  have hnp : (placesF es)[i] ∉ (placesF es).take i := fun h => by
    obtain ⟨j, h3, h4⟩ := List.mem_iff_getElem.1 h
    rw [List.getElem_take] at h4
    rw [List.length_take] at h3
    have := nd_inj (places_nd es) _ _ h4
    omega
  have e : (placesF es).take (i + 1) = (placesF es).take i ++ [(placesF es)[i]] := by rw [List.take_add_one, List.getElem?_eq_getElem h]; rfl
  unfold cntP
  rw [e]
  generalize (placesF es)[i] = p at *
  refine cnt_or (fun x => ?_) (fun x h1 h2 => ?_) es
  · unfold wrQ
    by_cases hk : x.k = 2
    · by_cases hl : x.l = p
      · simp [hk, hl]
      · simp [hk, hl]
    · simp [hk]
  · unfold wrQ at h2
    simp at h1 h2
    rw [h2.2] at h1
    exact hnp h1.2
theorem allUp_le (es : List Ev) : ∀ i, i ≤ (placesF es).length → (allUp es i).length ≤ fac (cntP es i)
  | 0, _ => by
    have : (allUp es 0).length = 1 := rfl
    rw [this]; exact fac_pos _
  | i + 1, h => by
    have hlt : i < (placesF es).length := by omega
    rw [allUp_len, cntP_succ hlt, getD_in _ _ hlt]
    exact Nat.le_trans (Nat.mul_le_mul (allUp_le es i (by omega)) (ordF_le _)) (fac_mul _ _)
theorem few_n {es : List Ev} (h : fewB es = true) : es.length ≤ 24 ∧ fewN es ≤ 7 := by
  unfold fewB at h; simpa using h
theorem allUp_few {es : List Ev} (h : fewN es ≤ 7) {i : Nat} (hi : i ≤ (placesF es).length) : (allUp es i).length ≤ 5040 :=
  Nat.le_trans (allUp_le es i hi) (Nat.le_trans (fac_mono (Nat.le_trans (cntP_le es i) h)) (by decide))
theorem c_allFew {es : List Ev} (h24 : es.length ≤ 24) (h : fewN es ≤ 7) : SC Try.prog 26 [.agg (exL es)] (.pv (.sl 1 (rlsL (allR es)))) :=
  c_cohAll (by omega) (fun i hi => Nat.le_trans (allUp_few h hi) (by decide)) fun i hi => by
    have := allUp_few h (i := i + 1) (by omega)
    rw [allUp_len, getD_in _ _ hi] at this
    omega
theorem allR_le {es : List Ev} (h : fewN es ≤ 7) : (allR es).length ≤ 5040 := allUp_few h (Nat.le_refl _)
abbrev Rank (es : List Ev) (co : RL) (f : Nat → Int) : Prop := RankK es (fun _ => True) co f
theorem allR_rank {es : List Ev} (h32 : es.length ≤ 32) {co : RL} (hc : co ∈ allR es) : ∃ f, Rank es co f := by
  obtain ⟨f, h1, h2, h3⟩ := allUp_rank h32 _ (Nat.le_refl _) co hc
  have hin : ∀ a, (ha : a < es.length) → es[a].k = 2 → es[a].l ∈ (placesF es).take (placesF es).length := fun a ha hk => by
    rw [List.take_length]; exact (places_mem es _).2 ⟨a, ha, hk, rfl⟩
  refine ⟨f, h1, fun a b ha hb => ?_, fun a b ha hb ka kb hl _ => h3 a b ha hb ka kb hl (hin a ha ka)⟩
  rw [h2 a b ha hb]
  exact ⟨fun ⟨a1, a2, a3, a4, a5⟩ => ⟨a1, a2, a3, trivial, a5⟩, fun ⟨a1, a2, a3, a4, a5⟩ => ⟨a1, a2, a3, hin a ha a1, a5⟩⟩
theorem plusStep_id {n : Nat} {r : RL} (h : Cl n r) (ht : ∀ a b c, a < n → b < n → c < n → bitR r a b = true → bitR r b c = true → bitR r a c = true) {j i : Nat} (hj : j < n) (hi : i < n) : plusStep r j i = r := by
  unfold plusStep
  split
  · rename_i hb
    refine List.ext_getElem (by simp) fun k h1 h2 => ?_
    rw [List.getElem_set]
    split
    · rename_i hk
      subst hk
      rw [getD_in _ _ h2, getD_in _ _ (by rw [h.len]; exact hj)]
      refine wd_ext fun c hc => ?_
      rw [or_bit]
      have e1 : (r[i]).getLsbD c = bitR r i c := by unfold bitR; rw [getD_in _ _ h2]
      have e2 : (r[j]'(by rw [h.len]; exact hj)).getLsbD c = bitR r j c := by unfold bitR; rw [getD_in _ _ (by rw [h.len]; exact hj)]
      rw [e1, e2]
      by_cases hcn : c < n
      · cases h3 : bitR r j c
        · simp
        · rw [ht i j c hi hj hcn hb h3]; rfl
      · rw [h.out i c (by omega), h.out j c (by omega)]; rfl
    · rfl
  · rfl
theorem plus_id {n : Nat} {r : RL} (h : Cl n r) (ht : ∀ a b c, a < n → b < n → c < n → bitR r a b = true → bitR r b c = true → bitR r a c = true) : plusR r = r := by
  have h1 : ∀ j, j < n → ∀ i, i ≤ n → plusIn r j i = r := fun j hj i => by
    induction i with
    | zero => intro _; rfl
    | succ i ih => intro hi; rw [plusIn, ih (by omega)]; exact plusStep_id h ht hj (by omega)
  have h2 : ∀ j, j ≤ n → plusUp n r j = r := fun j => by
    induction j with
    | zero => intro _; rfl
    | succ j ih => intro hj; rw [plusUp, ih (by omega)]; exact h1 j (by omega) n (Nat.le_refl _)
  unfold plusR
  rw [h.clean, h.len]
  exact h2 n (Nat.le_refl _)
theorem wrM_bit {es : List Ev} (h32 : es.length ≤ 32) {j : Nat} (hj : j < es.length) : (wrM es).getLsbD j = decide (es[j].k = 2) := maskE_bit h32 hj
theorem want_bit {es : List Ev} (h32 : es.length ≤ 32) {a b : Nat} (ha : a < es.length) (hb : b < es.length) : bitR (onlyR (eventsR alikeQ es) (wrM es) (wrM es)) a b = (decide (¬a = b) && decide (es[a].k = 2) && decide (es[b].k = 2) && decide (es[a].l = es[b].l)) := by
  rw [only_bit, (events_cl h32).clean, events_bit h32 ha hb, wrM_bit h32 ha, wrM_bit h32 hb]
  unfold alikeQ memQ
  by_cases h1 : es[a].k = 2
  · by_cases h2 : es[b].k = 2
    · by_cases h3 : es[a].l = es[b].l <;> by_cases h4 : a = b <;> simp [h1, h2, h3, h4]
    · simp [h2]
  · simp [h1]
theorem want_cl {es : List Ev} (h32 : es.length ≤ 32) : Cl es.length (onlyR (eventsR alikeQ es) (wrM es) (wrM es)) := by
  have h := events_cl (q := alikeQ) h32
  have := only_cl (a := eventsR alikeQ es) (by rw [h.len]; exact h32) (wrM es) (wrM es)
  rwa [h.len] at this
theorem fits_iff {es : List Ev} {co : RL} (hc : Cl es.length co) : fitsF es co = true ↔ ((∀ a b, (ha : a < es.length) → (hb : b < es.length) → (bitR co a b || bitR co b a) = (decide (¬a = b) && decide (es[a].k = 2) && decide (es[b].k = 2) && decide (es[a].l = es[b].l))) ∧ (∀ a b, (ha : a < es.length) → (hb : b < es.length) → (bitR co a b && bitR co b a) = false)) ∧ sameR (plusR co) co = true := by
  have h32 := hc.n32
  have hV := inv_cl hc
  have hX := orR hc hV.1
  have hY := andR hc hV.1
  have hW := want_cl h32
  unfold fitsF
  change ((decide (co.length = es.length) && sameR (bothR (· ||| ·) co (invR co)) (onlyR (eventsR alikeQ es) (wrM es) (wrM es)) && decide (pairsR (bothR (· &&& ·) co (invR co)) = []) && sameR (plusR co) co) = true) ↔ _
  rw [Bool.and_eq_true, Bool.and_eq_true, Bool.and_eq_true, decide_eq_true_eq, decide_eq_true_eq]
  refine and_congr ⟨fun ⟨⟨_, h1⟩, h2⟩ => ⟨fun a b ha hb => ?_, fun a b ha hb => ?_⟩, fun ⟨h1, h2⟩ => ⟨⟨hc.len, ?_⟩, ?_⟩⟩ Iff.rfl
  · unfold sameR at h1
    have h1 := of_decide_eq_true h1
    rw [hX.1.clean, hW.clean] at h1
    rw [← want_bit h32 ha hb, ← h1, hX.2, hV.2 a b ha hb]
  · rw [← hV.2 a b ha hb, ← hY.2]
    cases hb2 : bitR (bothR (· &&& ·) co (invR co)) a b
    · rfl
    · have : (a, b) ∈ pairsR (bothR (· &&& ·) co (invR co)) := mem_pairs.2 ⟨by rw [hY.1.clean, hY.1.len]; exact ha, by rw [hY.1.clean, hY.1.len]; exact hb, by rw [hY.1.clean]; exact hb2⟩
      rw [h2] at this; cases this
  · unfold sameR
    refine decide_eq_true ?_
    rw [hX.1.clean, hW.clean]
    exact hX.1.ext hW fun a b ha hb => by rw [hX.2, hV.2 a b ha hb, want_bit h32 ha hb]; exact h1 a b ha hb
  · refine List.eq_nil_iff_forall_not_mem.2 fun p hp => ?_
    obtain ⟨ha, hb, hq⟩ := mem_pairs.1 hp
    rw [hY.1.clean] at ha hb hq
    rw [hY.1.len] at ha hb
    rw [hY.2, hV.2 _ _ ha hb, h2 _ _ ha hb] at hq
    cases hq
theorem rank_plus {es : List Ev} {co : RL} {f : Nat → Int} (h : Rank es co f) : plusR co = co :=
  plus_id h.cl fun a b c ha hb hc h1 h2 => by
    obtain ⟨k1, k2, l1, _, o1⟩ := (h.bit a b ha hb).1 h1
    obtain ⟨k3, k4, l2, _, o2⟩ := (h.bit b c hb hc).1 h2
    exact (h.bit a c ha hc).2 ⟨k1, k4, by rw [l1, l2], trivial, by omega⟩
theorem rank_bitB {es : List Ev} {co : RL} {f : Nat → Int} (h : Rank es co f) {a b : Nat} (ha : a < es.length) (hb : b < es.length) : bitR co a b = (decide (es[a].k = 2) && decide (es[b].k = 2) && decide (es[a].l = es[b].l) && decide (f a < f b)) := by
  have := h.bit a b ha hb
  cases hx : bitR co a b
  · rw [hx] at this
    symm
    refine Bool.eq_false_iff.2 fun h2 => ?_
    simp only [Bool.and_eq_true, decide_eq_true_eq] at h2
    exact absurd (this.2 ⟨h2.1.1.1, h2.1.1.2, h2.1.2, trivial, h2.2⟩) (by decide)
  · obtain ⟨h1, h2, h3, _, h4⟩ := this.1 hx
    simp [h1, h2, h3, h4]
theorem rank_fits {es : List Ev} {co : RL} {f : Nat → Int} (h : Rank es co f) : fitsF es co = true := by
  refine (fits_iff h.cl).2 ⟨⟨fun a b ha hb => ?_, fun a b ha hb => ?_⟩, by rw [rank_plus h]; unfold sameR; simp⟩
  · rw [rank_bitB h ha hb, rank_bitB h hb ha]
    by_cases h1 : es[a].k = 2
    · by_cases h2 : es[b].k = 2
      · by_cases h3 : es[a].l = es[b].l
        · by_cases h4 : a = b
          · subst h4; simp
          · have h5 : ¬f a = f b := fun h5 => h4 (h.inj a b ha hb h1 h2 h3 trivial h5)
            by_cases h6 : f a < f b
            · simp [h1, h2, h3, h4, h6]
            · have h7 : f b < f a := by omega
              simp [h1, h2, h3, h4, h7]
        · have h3' : ¬es[b].l = es[a].l := fun h => h3 h.symm
          simp [h3, h3']
      · simp [h2]
    · simp [h1]
  · rw [rank_bitB h ha hb, rank_bitB h hb ha]
    by_cases h6 : f a < f b
    · have h7 : ¬f b < f a := by omega
      simp [h7]
    · simp [h6]
theorem rank_inv {es : List Ev} {co : RL} {f : Nat → Int} (h : Rank es co f) : Rank es (invR co) (fun a => -f a) := by
  have hV := inv_cl h.cl
  refine ⟨hV.1, fun a b ha hb => ?_, fun a b ha hb ka kb hl _ hf => h.inj a b ha hb ka kb hl trivial (by omega)⟩
  rw [hV.2 a b ha hb, h.bit b a hb ha]
  exact ⟨fun ⟨a1, a2, a3, _, a5⟩ => ⟨a2, a1, a3.symm, trivial, by omega⟩, fun ⟨a1, a2, a3, _, a5⟩ => ⟨a2, a1, a3.symm, trivial, by omega⟩⟩
theorem rank_acy {es : List Ev} {co : RL} {f : Nat → Int} (h : Rank es co f) : acyF co = true := by
  unfold acyF
  rw [rank_plus h, List.all_eq_true]
  intro i hi
  rw [List.mem_range, h.cl.len] at hi
  rw [rank_bitB h hi hi]
  simp
theorem turned_more {es : List Ev} {co : RL} {f : Nat → Int} (h : Rank es co f) {x y : Nat} (hx : x < es.length) (hy : y < es.length) : fitsF es (putR co x y) = hasR co x y := by
  have hP := put_len h.cl (x : Int) (y : Int)
  rw [has_nat h.cl]
  cases hb : bitR co x y
  · refine Bool.eq_false_iff.2 fun hf => ?_
    obtain ⟨⟨h1, h2⟩, _⟩ := (fits_iff hP).1 hf
    have e1 := h1 x y hx hy
    have e2 := h2 x y hx hy
    rw [put_bit h.cl hx hy] at e1 e2
    have e3 : bitR (putR co x y) x y = true := by rw [put_bit h.cl hx hy]; simp
    simp at e1 e2
    obtain ⟨⟨⟨g1, g2⟩, g3⟩, g4⟩ := e1
    rw [put_bit h.cl hy hx] at e2
    have e4 : bitR co y x = false := by
      cases hq : bitR co y x
      · rfl
      · rw [hq] at e2; simp at e2
    rw [rank_bitB h hx hy] at hb
    rw [rank_bitB h hy hx] at e4
    simp [g2, g3, g4] at hb e4
    exact g1 (h.inj x y hx hy g2 g3 g4 trivial (by omega))
  · have : putR co x y = co := hP.ext h.cl fun a b ha hb2 => by
      rw [put_bit h.cl ha hb2]
      by_cases h1 : (x : Int) = a
      · by_cases h2 : (y : Int) = b
        · have : x = a := by omega
          subst this
          have : y = b := by omega
          subst this
          rw [hb]; simp
        · simp [h2]
      · simp [h1]
    rw [this]
    exact rank_fits h
theorem turned_less {es : List Ev} {co : RL} {f : Nat → Int} (h : Rank es co f) {x : Nat} (hx : x < es.length) : fitsF es (onlyR co (~~~(1#32 <<< x)) (~~~0#32)) = sameR (onlyR co (~~~(1#32 <<< x)) (~~~0#32)) co := by
  have h32 := h.cl.n32
  have hL := only_cl (a := co) (by rw [h.cl.len]; exact h32) (~~~(1#32 <<< x)) (~~~0#32)
  rw [h.cl.len] at hL
  have hbit : ∀ a b, a < es.length → b < es.length → bitR (onlyR co (~~~(1#32 <<< x)) (~~~0#32)) a b = (bitR co a b && decide (¬a = x)) := fun a b ha hb => by
    rw [only_bit, h.cl.clean, BitVec.getLsbD_not, BitVec.getLsbD_not, shl1_bit]
    have e1 : a < 32 := by omega
    have e2 : b < 32 := by omega
    simp [e1, e2]
  generalize onlyR co (~~~(1#32 <<< x)) (~~~0#32) = L at *
  unfold sameR
  rw [hL.clean, h.cl.clean]
  by_cases he : L = co
  · rw [he, rank_fits h]; simp
  · have : decide (L = co) = false := decide_eq_false he
    rw [this]
    refine Bool.eq_false_iff.2 fun hf => he (hL.ext h.cl fun a b ha hb => ?_)
    obtain ⟨⟨h1, _⟩, _⟩ := (fits_iff hL).1 hf
    have h3 := (fits_iff h.cl).1 (rank_fits h)
    have e1 := h1 a b ha hb
    rw [← h3.1.1 a b ha hb, hbit a b ha hb, hbit b a hb ha] at e1
    rw [hbit a b ha hb]
    have e2 := h3.1.2 a b ha hb
    cases hab : bitR co a b
    · rfl
    · rw [hab] at e1 e2
      have e3 : bitR co b a = false := by simpa using e2
      rw [e3] at e1
      simpa using e1
theorem turned_new {es : List Ev} (h24 : es.length ≤ 31) : fitsF es (newR (es.length + 1)) = false := by
  unfold fitsF
  have : decide ((newR (es.length + 1)).length = es.length) = false := decide_eq_false (by simp [newR])
  rw [this]; rfl
end Go.Eng
