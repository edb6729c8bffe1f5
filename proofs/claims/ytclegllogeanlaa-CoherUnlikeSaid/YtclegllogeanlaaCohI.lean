import Derived.Test.YtclegllogeanlaaCohF
set_option linter.unusedSimpArgs false
set_option linter.unusedVariables false
set_option autoImplicit false
namespace Go.Eng
open Go Go.RowKit Go.Proofs
/-! ## How many ways there are -/
theorem some_take (q : Ev → Bool) (es : List Ev) : ∀ i, i ≤ es.length → ((List.range i).filter (someE q es)).length = ((es.take i).filter q).length := fun i => by
  induction i with
  | zero => intro _; simp
  | succ i ih =>
    intro h
    have hi : i < es.length := by omega
    rw [filter_range_succ, filter_take_succ hi, List.length_append, List.length_append, ih (by omega)]
    unfold someE
    rw [List.getElem?_eq_getElem hi]
    congr 1
    by_cases hq : q es[i] = true
    · simp [hq]
    · simp [hq]
def cntAt (es : List Ev) (p : Int) (i : Nat) : Nat := ((List.range i).filter (someE (wrQ p) es)).length
theorem cntAt_succ (es : List Ev) (p : Int) (i : Nat) : cntAt es p (i + 1) = cntAt es p i + (if someE (wrQ p) es i = true then 1 else 0) := by
  unfold cntAt
  rw [filter_range_succ, List.length_append]
  by_cases h : someE (wrQ p) es i = true
  · simp [h]
  · simp [h]
theorem writes_cntAt (es : List Ev) (p : Int) : (writesF es p).length = cntAt es p es.length := by unfold writesF cntAt; simp
def manyUp (es : List Ev) : Nat → Nat
  | 0 => 1
  | i + 1 => manyUp es i * (match es[i]? with | some x => if x.k = 2 then cntAt es x.l i + 1 else 1 | none => 1)
theorem manyUp_write {es : List Ev} {i : Nat} (h : i < es.length) (hk : es[i].k = 2) : manyUp es (i + 1) = manyUp es i * (cntAt es es[i].l i + 1) := by
  rw [manyUp, List.getElem?_eq_getElem h]; simp [hk]
theorem manyUp_other {es : List Ev} {i : Nat} (h : i < es.length) (hk : ¬es[i].k = 2) : manyUp es (i + 1) = manyUp es i := by
  rw [manyUp, List.getElem?_eq_getElem h]; simp [hk]
theorem cntAt_few {es : List Ev} {p : Int} {i : Nat} (h : i ≤ es.length) : cntAt es p i ≤ fewN (es.take i) := by
  unfold cntAt fewN
  rw [some_take _ _ i h]
  have : (fun e : Ev => wrQ p e) = fun e => (decide (e.l = p)) && decide (e.k = 2) := by
    funext e; unfold wrQ; rw [Bool.and_comm]
  have h2 : ((es.take i).filter (wrQ p)) = ((es.take i).filter fun e => (decide (e.l = p)) && decide (e.k = 2)) := congrArg (fun q => (es.take i).filter q) this
  rw [h2, ← List.filter_filter]
  exact List.length_filter_le _ _
theorem manyUp_le (es : List Ev) : ∀ i, i ≤ es.length → manyUp es i ≤ fac (fewN (es.take i))
  | 0, _ => fac_pos _
  | i + 1, h => by
    have hi : i < es.length := by omega
    have ih := manyUp_le es i (by omega)
    rw [fewN_succ hi]
    by_cases hk : es[i].k = 2
    · rw [manyUp_write hi hk, if_pos hk]
      have hc := cntAt_few (es := es) (p := es[i].l) (i := i) (by omega)
      show _ ≤ (fewN (es.take i) + 1) * fac (fewN (es.take i))
      rw [Nat.mul_comm (fewN (es.take i) + 1)]
      exact Nat.mul_le_mul ih (by omega)
    · rw [manyUp_other hi hk, if_neg hk]; exact ih
theorem manyUp_few {es : List Ev} (h : fewN es ≤ 7) {i : Nat} (hi : i ≤ es.length) : manyUp es i ≤ 5040 := by
  refine Nat.le_trans (manyUp_le es i hi) (Nat.le_trans (fac_mono (Nat.le_trans ?_ h)) (by decide))
  unfold fewN
  exact (List.Sublist.filter _ (List.take_sublist i es)).length_le
def prodL (g : Int → Nat) : List Int → Nat
  | [] => 1
  | p :: ps => g p * prodL g ps
theorem prodL_app (g : Int → Nat) : ∀ l m : List Int, prodL g (l ++ m) = prodL g l * prodL g m
  | [], m => by simp [prodL]
  | p :: l, m => by simp only [List.cons_append, prodL]; rw [prodL_app g l m, Nat.mul_assoc]
theorem prodL_congr {g g' : Int → Nat} : ∀ {l : List Int}, (∀ q ∈ l, g' q = g q) → prodL g' l = prodL g l
  | [], _ => rfl
  | p :: l, h => by
    simp only [prodL]
    rw [h p (List.mem_cons_self ..), prodL_congr fun q hq => h q (List.mem_cons_of_mem _ hq)]
theorem prodL_upd {g g' : Int → Nat} {p : Int} {c : Nat} (hp : g' p = c * g p) (hq : ∀ q, q ≠ p → g' q = g q) : ∀ {l : List Int}, l.Nodup → p ∈ l → prodL g' l = c * prodL g l
  | [], _, h => by cases h
  | a :: l, hn, h => by
    simp only [prodL]
    obtain ⟨h1, h2⟩ := List.nodup_cons.1 hn
    by_cases ha : a = p
    · subst ha
      rw [hp, prodL_congr (g := g) (g' := g') (l := l) fun q hq' => hq q fun e => h1 (e ▸ hq'), Nat.mul_assoc]
    · have hm : p ∈ l := by
        rcases List.mem_cons.1 h with e | e
        · exact absurd e.symm ha
        · exact e
      rw [hq a ha, prodL_upd hp hq h2 hm, Nat.mul_left_comm]
theorem prodL_one {g : Int → Nat} : ∀ {l : List Int}, (∀ q ∈ l, g q = 1) → prodL g l = 1
  | [], _ => rfl
  | p :: l, h => by
    simp only [prodL]
    rw [h p (List.mem_cons_self ..), prodL_one fun q hq => h q (List.mem_cons_of_mem _ hq)]
theorem prodL_zero {g : Int → Nat} {p : Int} (hg : g p = 0) : ∀ {l : List Int}, p ∈ l → prodL g l = 0
  | [], h => by cases h
  | a :: l, h => by
    simp only [prodL]
    rcases List.mem_cons.1 h with e | e
    · rw [← e, hg, Nat.zero_mul]
    · rw [prodL_zero hg e, Nat.mul_zero]
theorem many_prod (es : List Ev) : ∀ i, i ≤ es.length → manyUp es i = prodL (fun p => fac (cntAt es p i)) (placesF es)
  | 0, _ => by
    exact (prodL_one (g := fun p => fac (cntAt es p 0)) fun q _ => rfl).symm
  | i + 1, h => by
    have hi : i < es.length := by omega
    have ih := many_prod es i (by omega)
    have hsome : ∀ p, someE (wrQ p) es i = wrQ p es[i] := fun p => by unfold someE; rw [List.getElem?_eq_getElem hi]
    by_cases hk : es[i].k = 2
    · rw [manyUp_write hi hk, ih, Nat.mul_comm]
      symm
      refine prodL_upd (g := fun p => fac (cntAt es p i)) (p := es[i].l) ?_ (fun q hq => ?_) (places_nd es) ((places_mem es _).2 ⟨i, hi, hk, rfl⟩)
      · show fac (cntAt es es[i].l (i + 1)) = _
        rw [cntAt_succ, hsome]
        have : wrQ es[i].l es[i] = true := by unfold wrQ; simp [hk]
        rw [this, if_pos rfl]; rfl
      · show fac (cntAt es q (i + 1)) = fac (cntAt es q i)
        rw [cntAt_succ, hsome]
        have : wrQ q es[i] = false := by unfold wrQ; simp [hk]; exact fun h => hq h.symm
        rw [this]; simp
    · rw [manyUp_other hi hk, ih]
      symm
      refine prodL_congr fun q _ => ?_
      show fac (cntAt es q (i + 1)) = fac (cntAt es q i)
      rw [cntAt_succ, hsome]
      have : wrQ q es[i] = false := by unfold wrQ; simp [hk]
      rw [this]; simp
theorem all_prod (es : List Ev) : ∀ i, i ≤ (placesF es).length → (allUp es i).length = prodL (fun p => (ordF (writesF es p)).length) ((placesF es).take i)
  | 0, _ => rfl
  | i + 1, h => by
    have hi : i < (placesF es).length := by omega
    have e : (placesF es).take (i + 1) = (placesF es).take i ++ [(placesF es)[i]] := by rw [List.take_add_one, List.getElem?_eq_getElem hi]; rfl
    rw [allUp_len, getD_in _ _ hi, e, prodL_app, all_prod es i (by omega)]
    simp [prodL]
theorem all_many {es : List Ev} (h6 : ∀ a, (ha : a < es.length) → es[a].k = 2 → (writesF es es[a].l).length ≤ 6) : (allR es).length = manyUp es es.length := by
  unfold allR
  rw [all_prod es _ (Nat.le_refl _), List.take_length, many_prod es _ (Nat.le_refl _)]
  refine prodL_congr fun q hq => ?_
  obtain ⟨a, ha, hk, hl⟩ := (places_mem es q).1 hq
  have := h6 a ha hk
  rw [hl] at this
  show (ordF (writesF es q)).length = fac (cntAt es q es.length)
  unfold ordF
  rw [if_neg (by omega), ordG_len _ _ rfl, writes_cntAt]
theorem all_none {es : List Ev} {a : Nat} (ha : a < es.length) (hk : es[a].k = 2) (h6 : 6 < (writesF es es[a].l).length) : (allR es).length = 0 := by
  unfold allR
  rw [all_prod es _ (Nat.le_refl _), List.take_length]
  refine prodL_zero (p := es[a].l) ?_ ((places_mem es _).2 ⟨a, ha, hk, rfl⟩)
  show (ordF (writesF es es[a].l)).length = 0
  unfold ordF
  rw [if_pos h6]; rfl
theorem range_split {n i : Nat} (h : i < n) : List.range n = List.range i ++ i :: (List.range (n - i - 1)).map (fun k => i + 1 + k) := by
  have e : n = i + (1 + (n - i - 1)) := by omega
  conv => lhs; rw [e, List.range_add, List.range_add]
  simp [Function.comp_def, Nat.add_assoc]
theorem writes_split {es : List Ev} {i : Nat} (hi : i < es.length) (hk : es[i].k = 2) : ∃ A B : List Int, writesF es es[i].l = A ++ (i : Int) :: B ∧ A.length = cntAt es es[i].l i ∧ (∀ a ∈ A, a < (i : Int)) ∧ (∀ b ∈ B, (i : Int) < b) := by
  have hs : someE (wrQ es[i].l) es i = true := by
    unfold someE; rw [List.getElem?_eq_getElem hi]; simp [wrQ, hk]
  refine ⟨((List.range i).filter (someE (wrQ es[i].l) es)).map fun (k : Nat) => (k : Int), (((List.range (es.length - i - 1)).map (fun k => i + 1 + k)).filter (someE (wrQ es[i].l) es)).map fun (k : Nat) => (k : Int), ?_, ?_, ?_, ?_⟩
  · unfold writesF
    rw [range_split hi, List.filter_append, List.filter_cons, if_pos hs, List.map_append, List.map_cons]
  · simp [cntAt]
  · intro a ha
    obtain ⟨k, h1, rfl⟩ := List.mem_map.1 ha
    have := List.mem_range.1 (List.mem_filter.1 h1).1
    omega
  · intro b hb
    obtain ⟨k, h1, rfl⟩ := List.mem_map.1 hb
    obtain ⟨j, h2, rfl⟩ := List.mem_map.1 (List.mem_filter.1 h1).1
    omega
theorem writes_at {es : List Ev} {i : Nat} (hi : i < es.length) (hk : es[i].k = 2) : cntAt es es[i].l i < (writesF es es[i].l).length ∧ (∀ k, (h : k < (writesF es es[i].l).length) → k < cntAt es es[i].l i → (writesF es es[i].l)[k] < (i : Int)) ∧ (∀ k, (h : k < (writesF es es[i].l).length) → k = cntAt es es[i].l i → (writesF es es[i].l)[k] = (i : Int)) ∧ (∀ k, (h : k < (writesF es es[i].l).length) → cntAt es es[i].l i < k → (i : Int) < (writesF es es[i].l)[k]) := by
  obtain ⟨A, B, h1, h2, h3, h4⟩ := writes_split hi hk
  generalize writesF es es[i].l = W at *
  generalize cntAt es es[i].l i = c at *
  subst h1; subst h2
  refine ⟨by simp, fun k h hlt => ?_, fun k h he => ?_, fun k h hgt => ?_⟩
  · rw [List.getElem_append_left hlt]; exact h3 _ (List.getElem_mem _)
  · subst he; rw [List.getElem_append_right (Nat.le_refl _)]; simp
  · rw [List.getElem_append_right (by omega)]
    obtain ⟨m, hm⟩ : ∃ m, k - A.length = m + 1 := ⟨k - A.length - 1, by omega⟩
    simp only [hm, List.getElem_cons_succ]
    exact h4 _ (List.getElem_mem _)
end Go.Eng
