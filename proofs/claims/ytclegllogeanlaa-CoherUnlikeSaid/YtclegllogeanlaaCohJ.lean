import Derived.Test.YtclegllogeanlaaCohI
import Derived.Test.YtclegllogeanlaaCohH
set_option linter.unusedSimpArgs false
set_option linter.unusedVariables false
set_option autoImplicit false
namespace Go.Eng
open Go Go.RowKit Go.Proofs
/-! ## All ways are unlike; each write is the last of its place in some way, and the first in some -/
theorem idx_ne {x y : Int} {l : List Int} (h : x ≠ y) : (x :: l).idxOf y = l.idxOf y + 1 := by
  rw [List.idxOf_cons]
  have : (x == y) = false := by simpa using h
  rw [this]; rfl
theorem idx_app {x : Int} {l m : List Int} (h : x ∉ l) : (l ++ m).idxOf x = m.idxOf x + l.length := by
  rw [List.idxOf_append, if_neg h]
theorem ordG_full : ∀ (m : Nat) (l : List Int), l.length = m → ∀ g, g.Perm l → g ∈ ordG m l
  | 0, l, h, g, hg => by
    have : g = [] := List.eq_nil_of_length_eq_zero (by rw [hg.length_eq, h])
    subst this; simp [ordG]
  | m + 1, l, h, g, hg => by
    cases g with
    | nil => have := hg.length_eq; simp at this; omega
    | cons a g =>
      have ha : a ∈ l := hg.mem_iff.1 (List.mem_cons_self ..)
      obtain ⟨i, hi, rfl⟩ := List.mem_iff_getElem.1 ha
      simp only [ordG, List.mem_flatMap, List.mem_range, List.mem_map]
      refine ⟨i, hi, g, ordG_full m _ (by rw [List.length_eraseIdx_of_lt hi]; omega) g ?_, by rw [getD_in _ _ hi]⟩
      exact (List.perm_cons _).1 (hg.trans (cons_erase_perm hi).symm)
theorem ordF_full {l g : List Int} (h6 : l.length ≤ 6) (h : g.Perm l) : g ∈ ordF l := by
  unfold ordF
  rw [if_neg (by omega)]
  exact ordG_full _ _ rfl _ h
theorem ordG_nodup : ∀ (m : Nat) (l : List Int), l.length = m → l.Nodup → (ordG m l).Nodup
  | 0, l, h, _ => by simp [ordG]
  | m + 1, l, h, hn => by
    simp only [ordG]
    refine List.pairwise_flatMap.2 ⟨fun i hi => ?_, ?_⟩
    · have hi := List.mem_range.1 hi
      refine List.Pairwise.map _ (fun a b hab e => hab (by injection e)) (ordG_nodup m _ (by rw [List.length_eraseIdx_of_lt hi]; omega) (hn.sublist (List.eraseIdx_sublist ..)))
    · refine List.Pairwise.imp_of_mem ?_ (List.pairwise_lt_range (n := l.length))
      intro i j hi hj hij x hx y hy e
      have hi := List.mem_range.1 hi
      have hj := List.mem_range.1 hj
      obtain ⟨x', _, rfl⟩ := List.mem_map.1 hx
      obtain ⟨y', _, rfl⟩ := List.mem_map.1 hy
      rw [getD_in _ _ hi, getD_in _ _ hj] at e
      injection e with e1 _
      have := nd_inj hn _ _ e1
      omega
theorem ordF_nodup {l : List Int} (hn : l.Nodup) : (ordF l).Nodup := by
  unfold ordF
  split
  · exact List.nodup_nil
  · exact ordG_nodup _ _ rfl hn
/-- Two orders of the same things, alike from pair to pair, are the same. -/
theorem order_ext : ∀ {g h : List Int}, g.Nodup → h.Nodup → g.Perm h → (∀ x ∈ g, ∀ y ∈ g, g.idxOf x < g.idxOf y → h.idxOf x < h.idxOf y) → g = h
  | [], h, _, _, hp, _ => (List.nil_perm.1 hp).symm
  | a :: g, [], _, _, hp, _ => by have := hp.length_eq; simp at this
  | a :: g, b :: h, hg, hh, hp, hi => by
    have hab : a = b := by
      by_cases e : a = b
      · exact e
      · exfalso
        have hb : b ∈ a :: g := hp.mem_iff.2 (List.mem_cons_self ..)
        have h1 := hi a (List.mem_cons_self ..) b hb (by
          rw [List.idxOf_cons_self, idx_ne e]; omega)
        rw [List.idxOf_cons_self] at h1
        omega
    subst hab
    obtain ⟨g1, g2⟩ := List.nodup_cons.1 hg
    obtain ⟨h1, h2⟩ := List.nodup_cons.1 hh
    have := order_ext g2 h2 ((List.perm_cons _).1 hp) fun x hx y hy hlt => by
      have ex : a ≠ x := fun e => g1 (e ▸ hx)
      have ey : a ≠ y := fun e => g1 (e ▸ hy)
      have := hi x (List.mem_cons_of_mem _ hx) y (List.mem_cons_of_mem _ hy) (by
        rw [idx_ne ex, idx_ne ey]; omega)
      rw [idx_ne ex, idx_ne ey] at this
      omega
    rw [this]
/-- A way of some places has pairs of these places alone. -/
theorem allUp_nodup {es : List Ev} (h32 : es.length ≤ 32) : ∀ i, i ≤ (placesF es).length → (allUp es i).Nodup
  | 0, _ => by simp [allUp]
  | i + 1, hi => by
    have hlt : i < (placesF es).length := by omega
    have ih := allUp_nodup h32 i (by omega)
    have hrk := allUp_rank h32 i (by omega)
    have hnp : (placesF es)[i] ∉ (placesF es).take i := fun h => by
      obtain ⟨j, h3, h4⟩ := List.mem_iff_getElem.1 h
      rw [List.getElem_take] at h4
      rw [List.length_take] at h3
      have := nd_inj (places_nd es) _ _ h4
      omega
    have hst : allUp es (i + 1) = (allUp es i).flatMap fun co => (ordF (writesF es ((placesF es).getD i 0))).map fun one => bothR (· ||| ·) co (ofF es.length one) := rfl
    rw [hst, getD_in _ _ hlt]
    generalize (placesF es)[i] = p at *
    have hWn := writes_nd es p
    have hbits : ∀ co ∈ allUp es i, ∀ o ∈ ordF (writesF es p), ∀ a b, (ha : a < es.length) → (hb : b < es.length) → (bitR (bothR (· ||| ·) co (ofF es.length o)) a b = true ↔ bitR co a b = true ∨ ((a : Int) ∈ o ∧ (b : Int) ∈ o ∧ o.idxOf (a : Int) < o.idxOf (b : Int))) := fun co hc o ho a b ha hb => by
      obtain ⟨f, hf⟩ := hrk co hc
      have hO := orR hf.cl (ofUp_cl (l := o) h32 o.length)
      have hO2 := hO.2 a b
      have hob := of_bit (l := o) h32 ((ordF_perm ho).nodup_iff.2 hWn) ha hb
      unfold ofF at hob ⊢
      rw [hO2, Bool.or_eq_true, hob]
    have hkey : ∀ co ∈ allUp es i, ∀ co' ∈ allUp es i, ∀ o ∈ ordF (writesF es p), ∀ o' ∈ ordF (writesF es p), bothR (· ||| ·) co (ofF es.length o) = bothR (· ||| ·) co' (ofF es.length o') → co = co' ∧ o = o' := by
      intro co hc co' hc' o ho o' ho' e
      obtain ⟨f, hf⟩ := hrk co hc
      obtain ⟨f', hf'⟩ := hrk co' hc'
      have hp := ordF_perm ho
      have hp' := ordF_perm ho'
      have hb : ∀ a b, (ha : a < es.length) → (hb : b < es.length) → ((bitR co a b = true ∨ ((a : Int) ∈ o ∧ (b : Int) ∈ o ∧ o.idxOf (a : Int) < o.idxOf (b : Int))) ↔ (bitR co' a b = true ∨ ((a : Int) ∈ o' ∧ (b : Int) ∈ o' ∧ o'.idxOf (a : Int) < o'.idxOf (b : Int)))) := fun a b ha hb => by
        rw [← hbits co hc o ho a b ha hb, ← hbits co' hc' o' ho' a b ha hb, e]
      have hpl : ∀ q : List Int, q.Perm (writesF es p) → ∀ a : Nat, (ha : a < es.length) → ((a : Int) ∈ q ↔ es[a].k = 2 ∧ es[a].l = p) := fun q hq a ha => by
        rw [hq.mem_iff, writes_mem]
        constructor
        · rintro ⟨b, hb, h3, h4⟩
          have : b = a := by omega
          subst this; exact h4
        · exact fun h => ⟨a, ha, rfl, h⟩
      constructor
      · refine hf.cl.ext hf'.cl fun a b ha hb2 => ?_
        have h1 := hb a b ha hb2
        by_cases hla : es[a].l = p
        · have n1 : bitR co a b ≠ true := fun h => hnp (by
            have := (hf.bit a b ha hb2).1 h; rw [hla] at this; exact this.2.2.2.1)
          have n2 : bitR co' a b ≠ true := fun h => hnp (by
            have := (hf'.bit a b ha hb2).1 h; rw [hla] at this; exact this.2.2.2.1)
          rw [Bool.eq_false_iff.2 n1, Bool.eq_false_iff.2 n2]
        · have n1 : ¬((a : Int) ∈ o) := fun h => hla ((hpl o hp a ha).1 h).2
          have n2 : ¬((a : Int) ∈ o') := fun h => hla ((hpl o' hp' a ha).1 h).2
          simp only [n1, n2, false_and, or_false] at h1
          exact Bool.eq_iff_iff.2 h1
      · refine order_ext (hp.nodup_iff.2 hWn) (hp'.nodup_iff.2 hWn) (hp.trans hp'.symm) fun x hx y hy hlt2 => ?_
        obtain ⟨a, ha, rfl, ka, la⟩ := writes_mem.1 (hp.mem_iff.1 hx)
        obtain ⟨b, hb2, rfl, kb, lb⟩ := writes_mem.1 (hp.mem_iff.1 hy)
        rcases (hb a b ha hb2).1 (.inr ⟨hx, hy, hlt2⟩) with h | ⟨_, _, h⟩
        · exact absurd (by have := (hf'.bit a b ha hb2).1 h; rw [la] at this; exact this.2.2.2.1) hnp
        · exact h
    refine List.pairwise_flatMap.2 ⟨fun co hc => ?_, ?_⟩
    · refine List.pairwise_map.2 (List.Pairwise.imp_of_mem ?_ (ordF_nodup hWn))
      intro o o' ho ho' hne e
      exact hne (hkey co hc co hc o ho o' ho' e).2
    · refine List.Pairwise.imp_of_mem ?_ ih
      intro co co' hc hc' hne x hx y hy e
      obtain ⟨o, ho, rfl⟩ := List.mem_map.1 hx
      obtain ⟨o', ho', rfl⟩ := List.mem_map.1 hy
      exact hne (hkey co hc co' hc' o ho o' ho' e).1
theorem all_unlike {es : List Ev} (h32 : es.length ≤ 32) {i k : Nat} (hi : i < (allR es).length) (hk : k < i) : sameR (allR es)[i] (allR es)[k] = false := by
  have hn := allUp_nodup h32 (placesF es).length (Nat.le_refl _)
  have hcl := allUp_cl h32 (placesF es).length
  change (allR es).Nodup at hn
  change ∀ co ∈ allR es, Cl es.length co at hcl
  have hne := List.pairwise_iff_getElem.1 hn k i (by omega) hi hk
  unfold sameR
  rw [(hcl _ (List.getElem_mem hi)).clean, (hcl _ (List.getElem_mem (Nat.lt_trans hk hi))).clean]
  exact decide_eq_false fun e => hne e.symm
/-- There is a way for any choice of orders. -/
theorem allUp_choose {es : List Ev} (h32 : es.length ≤ 32) (ch : Int → List Int) (hch : ∀ p, p ∈ placesF es → ch p ∈ ordF (writesF es p)) : ∀ i, i ≤ (placesF es).length → ∃ co ∈ allUp es i, ∀ a b, (ha : a < es.length) → (hb : b < es.length) → (bitR co a b = true ↔ es[a].k = 2 ∧ es[b].k = 2 ∧ es[a].l = es[b].l ∧ es[a].l ∈ (placesF es).take i ∧ (ch es[a].l).idxOf (a : Int) < (ch es[a].l).idxOf (b : Int))
  | 0, _ => ⟨newR es.length, by simp [allUp], fun a b ha hb => by simp [newR, bit_new]⟩
  | i + 1, hi => by
    obtain ⟨c, h1, h2⟩ := allUp_choose h32 ch hch i (by omega)
    have hlt : i < (placesF es).length := by omega
    obtain ⟨f, hf⟩ := allUp_rank h32 i (by omega) c h1
    have hpm : (placesF es)[i] ∈ placesF es := List.getElem_mem hlt
    have hg := hch _ hpm
    have hst : allUp es (i + 1) = (allUp es i).flatMap fun co => (ordF (writesF es ((placesF es).getD i 0))).map fun one => bothR (· ||| ·) co (ofF es.length one) := rfl
    rw [getD_in _ _ hlt] at hst
    have htk : ∀ q, q ∈ (placesF es).take (i + 1) ↔ q ∈ (placesF es).take i ∨ q = (placesF es)[i] := fun q => by
      have e : (placesF es).take (i + 1) = (placesF es).take i ++ [(placesF es)[i]] := by rw [List.take_add_one, List.getElem?_eq_getElem hlt]; rfl
      rw [e, List.mem_append, List.mem_singleton]
    have hnp : (placesF es)[i] ∉ (placesF es).take i := fun h => by
      obtain ⟨j, h3, h4⟩ := List.mem_iff_getElem.1 h
      rw [List.getElem_take] at h4
      rw [List.length_take] at h3
      have := nd_inj (places_nd es) _ _ h4
      omega
    generalize (placesF es)[i] = p at *
    refine ⟨bothR (· ||| ·) c (ofF es.length (ch p)), ?_, fun a b ha hb => ?_⟩
    · rw [hst, List.mem_flatMap]
      exact ⟨c, h1, List.mem_map.2 ⟨ch p, hg, rfl⟩⟩
    · have hp := ordF_perm hg
      have hnd : (ch p).Nodup := hp.nodup_iff.2 (writes_nd _ _)
      have hO := orR hf.cl (ofUp_cl (l := ch p) h32 (ch p).length)
      have hO2 := hO.2 a b
      have hob := of_bit (l := ch p) h32 hnd ha hb
      have hmo : ∀ a : Nat, (ha : a < es.length) → ((a : Int) ∈ ch p ↔ es[a].k = 2 ∧ es[a].l = p) := fun a ha => by
        rw [hp.mem_iff, writes_mem]
        constructor
        · rintro ⟨b, hb, h3, h4⟩
          have : b = a := by omega
          subst this; exact h4
        · exact fun h => ⟨a, ha, rfl, h⟩
      unfold ofF at hob ⊢
      rw [hO2, Bool.or_eq_true, hob, h2 a b ha hb, htk, hmo a ha, hmo b hb]
      constructor
      · rintro (⟨k1, k2, k3, k4, k5⟩ | ⟨⟨k1, k2⟩, ⟨k3, k4⟩, k5⟩)
        · exact ⟨k1, k2, k3, .inl k4, k5⟩
        · exact ⟨k1, k3, by rw [k2, k4], .inr k2, by rw [k2]; exact k5⟩
      · rintro ⟨k1, k2, k3, k4 | k4, k5⟩
        · exact .inl ⟨k1, k2, k3, k4, k5⟩
        · rw [k4] at k5
          exact .inr ⟨⟨k1, k4⟩, ⟨k2, by rw [← k3]; exact k4⟩, k5⟩
/-- A way in which one write is the last of its place; another in which it is the first. -/
theorem all_ends {es : List Ev} (h32 : es.length ≤ 32) (h6 : ∀ p, p ∈ placesF es → (writesF es p).length ≤ 6) {x : Nat} (hx : x < es.length) (hk : es[x].k = 2) (fst : Bool) : ∃ co ∈ allR es, lastF es (if fst = true then invR co else co) es[x].l = x := by
  have hxW : (x : Int) ∈ writesF es es[x].l := writes_mem.2 ⟨x, hx, rfl, hk, rfl⟩
  let ch : Int → List Int := fun p => if p = es[x].l then (if fst = true then (x : Int) :: (writesF es p).erase x else (writesF es p).erase x ++ [(x : Int)]) else writesF es p
  have hperm : ∀ p, (ch p).Perm (writesF es p) := fun p => by
    show (if p = es[x].l then _ else _ : List Int).Perm _
    by_cases e : p = es[x].l
    · rw [if_pos e]
      subst e
      cases fst
      · simp only [Bool.false_eq_true, if_false]
        exact (List.perm_append_comm).trans (List.perm_cons_erase hxW).symm
      · simp only [if_true]
        exact (List.perm_cons_erase hxW).symm
    · rw [if_neg e]
  obtain ⟨co, h1, h2⟩ := allUp_choose h32 ch (fun p hp => ordF_full (h6 p hp) (hperm p)) (placesF es).length (Nat.le_refl _)
  have hnd : ∀ p, (ch p).Nodup := fun p => (hperm p).nodup_iff.2 (writes_nd _ _)
  have hin : ∀ a, (ha : a < es.length) → es[a].k = 2 → es[a].l ∈ (placesF es).take (placesF es).length := fun a ha hk => by
    rw [List.take_length]; exact (places_mem es _).2 ⟨a, ha, hk, rfl⟩
  have hmem : ∀ a : Nat, (ha : a < es.length) → es[a].k = 2 → es[a].l = es[x].l → (a : Int) ∈ ch es[x].l := fun a ha k1 k2 => (hperm _).mem_iff.2 (writes_mem.2 ⟨a, ha, rfl, k1, k2⟩)
  have hcx : ch es[x].l = if fst = true then (x : Int) :: (writesF es es[x].l).erase x else (writesF es es[x].l).erase x ++ [(x : Int)] := if_pos rfl
  obtain ⟨f, hR⟩ := allR_rank h32 (show co ∈ allR es from h1)
  have hWne : writesF es es[x].l ≠ [] := fun h => by rw [h] at hxW; cases hxW
  refine ⟨co, h1, ?_⟩
  cases fst
  · simp only [Bool.false_eq_true, if_false] at *
    rcases rank_last hR es[x].l with ⟨h3, _⟩ | ⟨a, ha, h3, ka, la, _, h4⟩
    · exact absurd h3 hWne
    · by_cases e : (x : Int) = a
      · rw [h3, e]
      · exfalso
        have h5 := h4 _ hxW e
        rw [has_nat hR.cl] at h5
        have h6 := (h2 x a hx ha).1 h5
        have h7 := h6.2.2.2.2
        have hm := hmem a ha ka la
        have hxn : (x : Int) ∉ (writesF es es[x].l).erase x := fun h => ((writes_nd es es[x].l).mem_erase_iff.1 h).1 rfl
        have hi1 : (ch es[x].l).idxOf (a : Int) < (ch es[x].l).length := List.idxOf_lt_length_of_mem hm
        rw [hcx] at h7 hi1
        rw [idx_app hxn] at h7
        simp at h7 hi1
        omega
  · simp only [if_true] at *
    rcases rank_last (rank_inv hR) es[x].l with ⟨h3, _⟩ | ⟨a, ha, h3, ka, la, _, h4⟩
    · exact absurd h3 hWne
    · by_cases e : (x : Int) = a
      · rw [h3, e]
      · exfalso
        have h5 := h4 _ hxW e
        rw [has_nat (rank_inv hR).cl, (inv_cl hR.cl).2 x a hx ha] at h5
        have h6 := (h2 a x ha hx).1 h5
        have h7 := h6.2.2.2.2
        rw [la, hcx] at h7
        rw [List.idxOf_cons_self] at h7
        omega
end Go.Eng
