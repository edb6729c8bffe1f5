import Derived.Test.YtclegllogeanlaaRefB
set_option linter.unusedSimpArgs false
set_option linter.unusedVariables false
set_option linter.constructorNameAsVariable false
set_option autoImplicit false
namespace Go.Eng
open Go Go.RowKit Go.Proofs
/-! ## The document's places, orders, ways -/
def insF (out : List Int) (x : Int) : List Int := out.take (out.takeWhile fun y => decide (y < x)).length ++ [x] ++ out.drop (out.takeWhile fun y => decide (y < x)).length
def plUp (es : List Ev) : Nat → List Int
  | 0 => []
  | i + 1 => match es[i]? with
    | some x => if x.k = 2 ∧ ¬x.l ∈ plUp es i then insF (plUp es i) x.l else plUp es i
    | none => plUp es i
theorem insF_eq (out : List Int) (x : Int) : insF out x = out.takeWhile (fun y => decide (y < x)) ++ [x] ++ out.dropWhile (fun y => decide (y < x)) := by
  unfold insF
  have h : out = out.takeWhile (fun y => decide (y < x)) ++ out.dropWhile (fun y => decide (y < x)) := (List.takeWhile_append_dropWhile).symm
  have h1 : out.take (out.takeWhile fun y => decide (y < x)).length = out.takeWhile (fun y => decide (y < x)) := by
    conv => lhs; rw [h]
    rw [List.take_left']
    rw [← h]
  have h2 : out.drop (out.takeWhile fun y => decide (y < x)).length = out.dropWhile (fun y => decide (y < x)) := by
    conv => lhs; rw [h]
    rw [List.drop_left']
    rw [← h]
  rw [h1, h2]
theorem insF_mem {out : List Int} {x y : Int} : y ∈ insF out x ↔ y = x ∨ y ∈ out := by
  rw [insF_eq]
  have h : y ∈ out ↔ y ∈ out.takeWhile (fun y => decide (y < x)) ∨ y ∈ out.dropWhile (fun y => decide (y < x)) := by
    rw [← List.mem_append, List.takeWhile_append_dropWhile]
  simp only [List.mem_append, List.mem_singleton, h]
  constructor
  · rintro ((h | h) | h)
    · exact .inr (.inl h)
    · exact .inl h
    · exact .inr (.inr h)
  · rintro (h | h | h)
    · exact .inl (.inr h)
    · exact .inl (.inl h)
    · exact .inr h
theorem dropWhile_ge : ∀ {out : List Int} {x : Int}, out.Pairwise (· < ·) → ¬x ∈ out → ∀ y ∈ out.dropWhile (fun y => decide (y < x)), x < y
  | [], x, _, _, y, h => by cases h
  | a :: out, x, hp, hx, y, h => by
    rw [List.dropWhile_cons] at h
    have hne : ¬x = a := fun e => hx (by rw [e]; exact List.mem_cons_self ..)
    have hp2 := List.pairwise_cons.1 hp
    by_cases ha : a < x
    · rw [if_pos (decide_eq_true ha)] at h
      exact dropWhile_ge hp2.2 (fun h => hx (List.mem_cons_of_mem _ h)) y h
    · rw [if_neg (by simpa using ha)] at h
      rcases List.mem_cons.1 h with e | e
      · omega
      · have := hp2.1 y e; omega
theorem takeWhile_lt {x : Int} : ∀ {out : List Int} (y : Int), y ∈ out.takeWhile (fun y => decide (y < x)) → y < x
  | [], y, h => by cases h
  | a :: out, y, h => by
    rw [List.takeWhile_cons] at h
    by_cases ha : a < x
    · rw [if_pos (decide_eq_true ha)] at h
      rcases List.mem_cons.1 h with e | e
      · rw [e]; exact ha
      · exact takeWhile_lt y e
    · rw [if_neg (by simpa using ha)] at h; cases h
theorem dw_head {p : Int → Bool} : ∀ {l : List Int} {a : Int} {r : List Int}, l.dropWhile p = a :: r → p a = false
  | [], a, r, h => by cases h
  | b :: l, a, r, h => by
    rw [List.dropWhile_cons] at h
    cases hp : p b
    · rw [hp, if_neg (by decide)] at h
      injection h with h1 h2
      rw [← h1]; exact hp
    · rw [hp, if_pos rfl] at h
      exact dw_head h
theorem insF_sorted {out : List Int} {x : Int} (hp : out.Pairwise (· < ·)) (hx : ¬x ∈ out) : (insF out x).Pairwise (· < ·) := by
  rw [insF_eq, List.append_assoc, List.pairwise_append]
  have h : out = out.takeWhile (fun y => decide (y < x)) ++ out.dropWhile (fun y => decide (y < x)) := (List.takeWhile_append_dropWhile).symm
  refine ⟨hp.sublist (List.takeWhile_sublist _), ?_, fun a ha b hb => ?_⟩
  · rw [List.singleton_append, List.pairwise_cons]
    exact ⟨fun y hy => dropWhile_ge hp hx y hy, hp.sublist (List.dropWhile_sublist _)⟩
  · have h1 := takeWhile_lt a ha
    rcases List.mem_append.1 hb with h2 | h2
    · rw [List.mem_singleton.1 h2]; exact h1
    · have := dropWhile_ge hp hx b h2; omega
theorem plUp_ok (es : List Ev) : ∀ i, i ≤ es.length → (plUp es i).Pairwise (· < ·) ∧ ∀ p, p ∈ plUp es i ↔ ∃ a, ∃ h : a < es.length, a < i ∧ es[a].k = 2 ∧ es[a].l = p
  | 0, _ => ⟨by simp [plUp], fun p => by simp [plUp]⟩
  | i + 1, hi => by
    have hlt : i < es.length := by omega
    obtain ⟨h1, h2⟩ := plUp_ok es i (by omega)
    have hst : plUp es (i + 1) = if es[i].k = 2 ∧ ¬es[i].l ∈ plUp es i then insF (plUp es i) es[i].l else plUp es i := by
      rw [plUp, List.getElem?_eq_getElem hlt]
    rw [hst]
    have hsplit : ∀ p, (∃ a, ∃ h : a < es.length, a < i + 1 ∧ es[a].k = 2 ∧ es[a].l = p) ↔ ((∃ a, ∃ h : a < es.length, a < i ∧ es[a].k = 2 ∧ es[a].l = p) ∨ (es[i].k = 2 ∧ es[i].l = p)) := fun p => by
      constructor
      · rintro ⟨a, h, h3, h4⟩
        by_cases e : a = i
        · subst e; exact .inr h4
        · exact .inl ⟨a, h, by omega, h4⟩
      · rintro (⟨a, h, h3, h4⟩ | h4)
        · exact ⟨a, h, by omega, h4⟩
        · exact ⟨i, hlt, by omega, h4⟩
    by_cases hc : es[i].k = 2 ∧ ¬es[i].l ∈ plUp es i
    · rw [if_pos hc]
      refine ⟨insF_sorted h1 hc.2, fun p => ?_⟩
      rw [insF_mem, h2, hsplit]
      constructor
      · rintro (e | e)
        · exact .inr ⟨hc.1, e.symm⟩
        · exact .inl e
      · rintro (e | e)
        · exact .inr e
        · exact .inl e.2.symm
    · rw [if_neg hc]
      refine ⟨h1, fun p => ?_⟩
      rw [hsplit, h2]
      constructor
      · exact .inl
      · rintro (e | ⟨e1, e2⟩)
        · exact e
        · have : es[i].l ∈ plUp es i := Classical.not_not.1 fun h => hc ⟨e1, h⟩
          rw [e2, h2] at this; exact this
theorem sorted_ext : ∀ {a b : List Int}, a.Pairwise (· < ·) → b.Pairwise (· < ·) → (∀ x, x ∈ a ↔ x ∈ b) → a = b
  | [], [], _, _, _ => rfl
  | [], b :: rb, _, _, h => by have := (h b).2 (List.mem_cons_self ..); cases this
  | a :: ra, [], _, _, h => by have := (h a).1 (List.mem_cons_self ..); cases this
  | a :: ra, b :: rb, ha, hb, h => by
    obtain ⟨a1, a2⟩ := List.pairwise_cons.1 ha
    obtain ⟨b1, b2⟩ := List.pairwise_cons.1 hb
    have hab : a = b := by
      have h1 := (h a).1 (List.mem_cons_self ..)
      have h2 := (h b).2 (List.mem_cons_self ..)
      rcases List.mem_cons.1 h1 with e | e
      · exact e
      · rcases List.mem_cons.1 h2 with e2 | e2
        · exact e2.symm
        · have := a1 b e2; have := b1 a e; omega
    subst hab
    rw [sorted_ext a2 b2 fun x => ?_]
    have hx := h x
    rw [List.mem_cons, List.mem_cons] at hx
    constructor
    · intro hm
      rcases hx.1 (.inr hm) with e | e
      · subst e; have := a1 x hm; omega
      · exact e
    · intro hm
      rcases hx.2 (.inr hm) with e | e
      · subst e; have := b1 x hm; omega
      · exact e
theorem places_sorted (es : List Ev) : (placesF es).Pairwise (· < ·) := by
  unfold placesF Lib.compact
  exact cu_lt (sortI (wlocs es)).toArray (sortI (wlocs es)).length (fun i j hij hj => by
    have := List.pairwise_iff_getElem.1 (sortI_sorted (wlocs es))
    have hi : i < (sortI (wlocs es)).length := by omega
    simp [hi, hj]
    by_cases h : i = j
    · subst h; omega
    · exact this i j hi hj (by omega)) _ (Nat.le_refl _)
theorem plUp_end (es : List Ev) : plUp es es.length = placesF es := by
  obtain ⟨h1, h2⟩ := plUp_ok es es.length (Nat.le_refl _)
  refine sorted_ext h1 (places_sorted es) fun p => ?_
  rw [h2, places_mem]
  exact ⟨fun ⟨a, h, _, h4⟩ => ⟨a, h, h4⟩, fun ⟨a, h, h4⟩ => ⟨a, h, h, h4⟩⟩
theorem plUp_len (es : List Ev) : ∀ i, (plUp es i).length ≤ i
  | 0 => Nat.le_refl _
  | i + 1 => by
    have := plUp_len es i
    rw [plUp]
    split
    · split
      · unfold insF; simp; omega
      · omega
    · omega
theorem tw_at (out : List Int) (x : Int) : (∀ k, (h : k < out.length) → k < (out.takeWhile fun y => decide (y < x)).length → out[k] < x) ∧ (∀ h : (out.takeWhile fun y => decide (y < x)).length < out.length, ¬out[(out.takeWhile fun y => decide (y < x)).length] < x) := by
  have h : out = out.takeWhile (fun y => decide (y < x)) ++ out.dropWhile (fun y => decide (y < x)) := (List.takeWhile_append_dropWhile).symm
  constructor
  · intro k hk hlt
    have e : out[k] = (out.takeWhile (fun y => decide (y < x)))[k] := by
      have h3 : out[k]? = (out.takeWhile (fun y => decide (y < x)))[k]? := by
        conv => lhs; rw [h]
        rw [List.getElem?_append_left hlt]
      rw [List.getElem?_eq_getElem hk, List.getElem?_eq_getElem hlt] at h3
      exact Option.some.inj h3
    rw [e]
    exact takeWhile_lt _ (List.getElem_mem _)
  · intro hlt hx
    cases hd : out.dropWhile (fun y => decide (y < x)) with
    | nil =>
      rw [hd, List.append_nil] at h
      have := congrArg List.length h
      omega
    | cons a r =>
      have h4 := dw_head hd
      rw [hd] at h
      generalize out.takeWhile (fun y => decide (y < x)) = t at *
      have h3 : (t ++ a :: r)[t.length]? = some a := by simp
      rw [← h, List.getElem?_eq_getElem hlt] at h3
      have e := Option.some.inj h3
      rw [e] at hx
      simp at h4
      omega
theorem tw_le (out : List Int) (x : Int) : (out.takeWhile fun y => decide (y < x)).length ≤ out.length := (List.takeWhile_sublist _).length_le
theorem ints_take (l : List Int) (k : Nat) : List.take k (ints l) = ints (l.take k) := by simp [ints, List.map_take]
set_option maxHeartbeats 16000000 in
theorem c_rplaces {es : List Ev} (h32 : es.length ≤ 32) : SC Try.prog 63 [.agg (exL es)] (.pv (.sl 1 (ints (placesF es)))) := by
  rw [← plUp_end]
  refine scx_of Try.func63 rfl rfl rfl (Nat.le_of_ble_eq_true rfl) ?_
  repeat' (first
    | refine ar_end rfl ?_
    | refine ar_endD rfl (by kernel_rfl) ?_
    | refine ar_fin rfl ?_
    | refine ar_finD rfl (by kernel_rfl) ?_
    | refine ar_go3 _ rfl (by simp [evsL_len, evsL_getE, evL, prs_len, prs_getE]; exact ⟨rfl, rfl, rfl⟩) rfl ?_
    | refine aw_sregK 0 [0] ?_
    | refine aw_regK 0 [0] ?_
    | refine aw_sregK 1 [1] ?_
    | refine aw_regK 1 [1] ?_
    | refine aw_sregK 2 [1, 3] ?_
    | refine aw_regK 2 [1, 3] ?_
    | refine aw_sreg ?_
    | refine aw_sregD mixed ?_
    | refine aw_ifT (b := true) rfl rfl ?_
    | refine aw_ifF (b := false) rfl rfl ?_
    | refine aw_ifT rfl (by assumption) ?_
    | refine aw_ifF rfl (by assumption) ?_
    | refine aw_ifT rfl (decide_eq_true (by assumption)) ?_
    | refine aw_ifF rfl (decide_eq_false (by assumption)) ?_
    | refine aw_seq ?_
    | refine aw_block ?_
    | refine aw_skip ?_
    | refine aw_region ?_
    | refine aw_region_draw mixed ?_
    | refine aw_exit ?_
    | refine rq_exit ?_
    | refine blockQ_hit ?_
    | refine blockQ_miss (by decide) ?_
    | (refine ar_guard rfl rfl rfl rfl (fun h => ?_) (fun h => ?_) <;> (fail_if_success (cases h; done)) <;> (try simp at h) <;> (try subst h))
    | (refine aw_both rfl (fun h => ?_) (fun h => ?_) <;> (fail_if_success (cases h; done)) <;> (try simp at h) <;> (try subst h)))
  refine aw_nilS 3 1 (by simp [AState.nilSl, isNilV]; exact rfl) ?_
  refine aw_loopN [1, 3, 4] [.loc 1] (by simp; exact rfl) (ι := {i : Nat // i ≤ es.length}) (fun i => ⟨63, [(1, .ptr (.loc 1) 0), (3, .pv (.sl 1 (ints (plUp es i.1)))), (4, I .i64 i.1)], [(.loc 1, some (.box 60 [.pv (.sl 7 (evsL es)), .pv (.v (.slice none 0 0)), .pv (.v (.slice none 0 0)), .pv (.v (.slice none 0 0)), .pv (.v (.slice none 0 0)), .pv (.v (.slice none 0 0)), .pv (.v (.slice none 0 0))]))]⟩) (fun i => es.length - i.1) ⟨0, by omega⟩ (by simp [plUp, ints]) ?_
  rintro ⟨i, hi⟩
  by_cases hlt : i < es.length
  · have hw : IntKind.wrap .i64 ((i : Int) + 1) = (i : Int) + 1 := wrap64s (by omega) (by omega)
    have hd : (i : Int) < (es.length : Int) := by omega
    have hst : plUp es (i + 1) = if es[i].k = 2 ∧ ¬es[i].l ∈ plUp es i then insF (plUp es i) es[i].l else plUp es i := by
      rw [plUp, List.getElem?_eq_getElem hlt]
    have hpl := plUp_len es i
    generalize plUp es i = P at *
    generalize hx : es[i] = x at *
    have hC := c_rin (l := P) (x := x.l) (by omega)
    by_cases hk : x.k = 2
    · cases hc : P.contains x.l
      · rw [hc] at hC
        have hnm : ¬x.l ∈ P := fun h => by rw [← List.contains_iff_mem, hc] at h; cases h
        rw [if_pos ⟨hk, hnm⟩] at hst
        unfold insF at hst
        obtain ⟨ht1, ht2⟩ := tw_at P x.l
        have htl := tw_le P x.l
        generalize (P.takeWhile fun y => decide (y < x.l)).length = c at *
        repeat' (first
          | refine ar_end rfl ?_
          | refine ar_endD rfl (by kernel_rfl) ?_
          | refine ar_fin rfl ?_
          | refine ar_finD rfl (by kernel_rfl) ?_
          | refine ar_callV Try.call88 hC rfl rfl rfl rfl rfl (by simp; done) (by rfl) (by simp; done) ?_
          | refine ar_callV_if Try.call88 hC rfl rfl rfl rfl rfl rfl (by simp; done) rfl (by rfl) (by simp; done) ?_
          | refine ar_go3 _ rfl (by simp [evsL_len, evsL_getE, evL, prs_len, prs_getE, ints_len, ints_getE, intsL_len, intsL_getE, hlt, hd, hx, hk]; exact ⟨rfl, rfl, rfl⟩) rfl ?_
          | refine aw_sregK 3 [1, 3, 4] ?_
          | refine aw_regK 3 [1, 3, 4] ?_
          | refine aw_sregK 5 [1, 3, 4] ?_
          | refine aw_regK 5 [1, 3, 4] ?_
          | refine aw_sregK 6 [1, 3, 4, 5] ?_
          | refine aw_regK 6 [1, 3, 4, 5] ?_
          | refine aw_sregK 7 [1, 3, 4, 5] ?_
          | refine aw_regK 7 [1, 3, 4, 5] ?_
          | refine aw_sreg ?_
          | refine aw_sregD mixed ?_
          | refine aw_ifT (b := true) rfl rfl ?_
          | refine aw_ifF (b := false) rfl rfl ?_
          | refine aw_ifT rfl (by assumption) ?_
          | refine aw_ifF rfl (by assumption) ?_
          | refine aw_ifT rfl (decide_eq_true (by assumption)) ?_
          | refine aw_ifF rfl (decide_eq_false (by assumption)) ?_
          | refine aw_seq ?_
          | refine aw_block ?_
          | refine aw_skip ?_
          | refine aw_region ?_
          | refine aw_region_draw mixed ?_
          | refine aw_exit ?_
          | refine rq_exit ?_
          | refine blockQ_hit ?_
          | refine blockQ_miss (by decide) ?_
          | (refine ar_guard rfl rfl rfl rfl (fun h => ?_) (fun h => ?_) <;> (fail_if_success (cases h; done)) <;> (try simp at h) <;> (try subst h))
          | (refine aw_both rfl (fun h => ?_) (fun h => ?_) <;> (fail_if_success (cases h; done)) <;> (try simp at h) <;> (try subst h)))
        refine aw_loopN [1, 3, 4, 5, 6] [.loc 1] (by simp; exact rfl) (ι := {k : Nat // k ≤ c}) (fun k => ⟨63, [(1, .ptr (.loc 1) 0), (3, .pv (.sl 1 (ints P))), (4, I .i64 i), (5, I .i64 x.l), (6, I .i64 k.1)], [(.loc 1, some (.box 60 [.pv (.sl 7 (evsL es)), .pv (.v (.slice none 0 0)), .pv (.v (.slice none 0 0)), .pv (.v (.slice none 0 0)), .pv (.v (.slice none 0 0)), .pv (.v (.slice none 0 0)), .pv (.v (.slice none 0 0))]))]⟩) (fun k => c - k.1) ⟨0, by omega⟩ (by simp) ?_
        rintro ⟨k, hkc⟩
        by_cases hkl : k < c
        · have hw2 : IntKind.wrap .i64 ((k : Int) + 1) = (k : Int) + 1 := wrap64s (by omega) (by omega)
          have hkP : k < P.length := by omega
          have hd2 : (k : Int) < (P.length : Int) := by omega
          have h1 := ht1 k hkP hkl
          generalize hy : P[k] = y at *
          repeat' (first
            | refine ar_end rfl ?_
            | refine ar_endD rfl (by kernel_rfl) ?_
            | refine ar_fin rfl ?_
            | refine ar_finD rfl (by kernel_rfl) ?_
            | refine bq_norm ?_
            | refine lq_normN [1, 3, 4, 5, 6] [.loc 1] (by simp; exact rfl) ⟨k + 1, by omega⟩ (by dsimp only; omega) (by simp [hd2])
            | refine ar_go3 _ rfl (by simp [evsL_len, evsL_getE, evL, prs_len, prs_getE, ints_len, ints_getE, intsL_len, intsL_getE, hd2, hkP, hy, h1, hw2]; exact ⟨rfl, rfl, rfl⟩) rfl ?_
            | refine aw_sregK 8 [1, 3, 4, 5, 6] ?_
            | refine aw_regK 8 [1, 3, 4, 5, 6] ?_
            | refine aw_sregK 9 [1, 3, 4, 5, 6] ?_
            | refine aw_regK 9 [1, 3, 4, 5, 6] ?_
            | refine aw_sreg ?_
            | refine aw_sregD mixed ?_
            | refine aw_ifT (b := true) rfl rfl ?_
            | refine aw_ifF (b := false) rfl rfl ?_
            | refine aw_ifT rfl (by assumption) ?_
            | refine aw_ifF rfl (by assumption) ?_
            | refine aw_ifT rfl (decide_eq_true (by assumption)) ?_
            | refine aw_ifF rfl (decide_eq_false (by assumption)) ?_
            | refine aw_seq ?_
            | refine aw_block ?_
            | refine aw_skip ?_
            | refine aw_region ?_
            | refine aw_region_draw mixed ?_
            | refine aw_exit ?_
            | refine rq_exit ?_
            | refine blockQ_hit ?_
            | refine blockQ_miss (by decide) ?_
            | (refine ar_guard rfl rfl rfl rfl (fun h => ?_) (fun h => ?_) <;> (fail_if_success (cases h; done)) <;> (try simp at h) <;> (try subst h))
            | (refine aw_both rfl (fun h => ?_) (fun h => ?_) <;> (fail_if_success (cases h; done)) <;> (try simp at h) <;> (try subst h)))
        · have hke : k = c := by omega
          subst hke
          have htk := ints_take P k
          have hdr := ints_drop P k
          have hkP : k ≤ P.length := htl
          have hle : List.take P.length (ints P) = ints P := List.take_of_length_le (by simp [ints])
          have h0k : ¬(k : Int) < 0 := by omega
          have h0k' : (0 : Int) ≤ k := by omega
          by_cases hkl2 : k < P.length
          · have hd2 : (k : Int) < (P.length : Int) := by omega
            have h1 := ht2 hkl2
            generalize hy : P[k] = y at *
            repeat' (first
              | refine ar_end rfl ?_
              | refine ar_endD rfl (by kernel_rfl) ?_
              | refine ar_fin rfl ?_
              | refine ar_finD rfl (by kernel_rfl) ?_
              | refine lq_exit ?_
              | refine aw_frzH (.loc 60) (by simp; exact ⟨rfl, rfl, rfl⟩) (by simp; exact rfl) ?_
              | refine ar_appO rfl rfl rfl rfl rfl (by simp; exact rfl) rfl (by simp; exact rfl) (by simp; exact rfl) (by simp; exact ⟨rfl, rfl⟩) rfl (by simp; exact rfl) (by simp; done) (by decide) (by simp [ints_len, maxLen]; try omega) ?_
              | refine bq_norm ?_
              | refine lq_normN [1, 3, 4] [.loc 1] (by simp; exact rfl) ⟨i + 1, by omega⟩ (by dsimp only; omega) (by simp [hst, ints_app, ints])
              | refine ar_go3 _ rfl (by simp [evsL_len, evsL_getE, evL, prs_len, prs_getE, ints_len, ints_getE, intsL_len, intsL_getE, hd2, hkl2, hy, h1, hw, htk, hle, hdr, hkP, h0k, h0k']; exact ⟨rfl, rfl, rfl⟩) rfl ?_
              | refine aw_sregK 4 [1, 3, 4] ?_
              | refine aw_regK 4 [1, 3, 4] ?_
              | refine aw_sregK 8 [1, 3, 4, 5, 6] ?_
              | refine aw_regK 8 [1, 3, 4, 5, 6] ?_
              | refine aw_sregK 10 [1, 3, 4, 5, 6] ?_
              | refine aw_regK 10 [1, 3, 4, 5, 6] ?_
              | refine aw_sregK 11 [1, 3, 4, 5, 6, 7] ?_
              | refine aw_regK 11 [1, 3, 4, 5, 6, 7] ?_
              | refine aw_sregK 12 [1, 3, 4, 6, 7] ?_
              | refine aw_regK 12 [1, 3, 4, 6, 7] ?_
              | refine aw_sregK 13 [1, 4, 7] ?_
              | refine aw_regK 13 [1, 4, 7] ?_
              | refine aw_sreg ?_
              | refine aw_sregD mixed ?_
              | refine aw_ifT (b := true) rfl rfl ?_
              | refine aw_ifF (b := false) rfl rfl ?_
              | refine aw_ifT rfl (by assumption) ?_
              | refine aw_ifF rfl (by assumption) ?_
              | refine aw_ifT rfl (decide_eq_true (by assumption)) ?_
              | refine aw_ifF rfl (decide_eq_false (by assumption)) ?_
              | refine aw_seq ?_
              | refine aw_block ?_
              | refine aw_skip ?_
              | refine aw_region ?_
              | refine aw_region_draw mixed ?_
              | refine aw_exit ?_
              | refine rq_exit ?_
              | refine blockQ_hit ?_
              | refine blockQ_miss (by decide) ?_
              | (refine ar_guard rfl rfl rfl rfl (fun h => ?_) (fun h => ?_) <;> (fail_if_success (cases h; done)) <;> (try simp at h) <;> (try subst h))
              | (refine aw_both rfl (fun h => ?_) (fun h => ?_) <;> (fail_if_success (cases h; done)) <;> (try simp at h) <;> (try subst h)))
          · have hd2 : ¬(k : Int) < (P.length : Int) := by omega
            repeat' (first
              | refine ar_end rfl ?_
              | refine ar_endD rfl (by kernel_rfl) ?_
              | refine ar_fin rfl ?_
              | refine ar_finD rfl (by kernel_rfl) ?_
              | refine lq_exit ?_
              | refine aw_frzH (.loc 60) (by simp; exact ⟨rfl, rfl, rfl⟩) (by simp; exact rfl) ?_
              | refine ar_appO rfl rfl rfl rfl rfl (by simp; exact rfl) rfl (by simp; exact rfl) (by simp; exact rfl) (by simp; exact ⟨rfl, rfl⟩) rfl (by simp; exact rfl) (by simp; done) (by decide) (by simp [ints_len, maxLen]; try omega) ?_
              | refine bq_norm ?_
              | refine lq_normN [1, 3, 4] [.loc 1] (by simp; exact rfl) ⟨i + 1, by omega⟩ (by dsimp only; omega) (by simp [hst, ints_app, ints])
              | refine ar_go3 _ rfl (by simp [evsL_len, evsL_getE, evL, prs_len, prs_getE, ints_len, ints_getE, intsL_len, intsL_getE, hd2, hw, htk, hle, hdr, hkP, h0k, h0k']; exact ⟨rfl, rfl, rfl⟩) rfl ?_
              | refine aw_sregK 4 [1, 3, 4] ?_
              | refine aw_regK 4 [1, 3, 4] ?_
              | refine aw_sregK 8 [1, 3, 4, 5, 6] ?_
              | refine aw_regK 8 [1, 3, 4, 5, 6] ?_
              | refine aw_sregK 10 [1, 3, 4, 5, 6] ?_
              | refine aw_regK 10 [1, 3, 4, 5, 6] ?_
              | refine aw_sregK 11 [1, 3, 4, 5, 6, 7] ?_
              | refine aw_regK 11 [1, 3, 4, 5, 6, 7] ?_
              | refine aw_sregK 12 [1, 3, 4, 6, 7] ?_
              | refine aw_regK 12 [1, 3, 4, 6, 7] ?_
              | refine aw_sregK 13 [1, 4, 7] ?_
              | refine aw_regK 13 [1, 4, 7] ?_
              | refine aw_sreg ?_
              | refine aw_sregD mixed ?_
              | refine aw_ifT (b := true) rfl rfl ?_
              | refine aw_ifF (b := false) rfl rfl ?_
              | refine aw_ifT rfl (by assumption) ?_
              | refine aw_ifF rfl (by assumption) ?_
              | refine aw_ifT rfl (decide_eq_true (by assumption)) ?_
              | refine aw_ifF rfl (decide_eq_false (by assumption)) ?_
              | refine aw_seq ?_
              | refine aw_block ?_
              | refine aw_skip ?_
              | refine aw_region ?_
              | refine aw_region_draw mixed ?_
              | refine aw_exit ?_
              | refine rq_exit ?_
              | refine blockQ_hit ?_
              | refine blockQ_miss (by decide) ?_
              | (refine ar_guard rfl rfl rfl rfl (fun h => ?_) (fun h => ?_) <;> (fail_if_success (cases h; done)) <;> (try simp at h) <;> (try subst h))
              | (refine aw_both rfl (fun h => ?_) (fun h => ?_) <;> (fail_if_success (cases h; done)) <;> (try simp at h) <;> (try subst h)))
      · rw [hc] at hC
        have hnm : x.l ∈ P := by rw [← List.contains_iff_mem]; exact hc
        rw [if_neg (fun h => h.2 hnm)] at hst
        repeat' (first
          | refine ar_end rfl ?_
          | refine ar_endD rfl (by kernel_rfl) ?_
          | refine ar_fin rfl ?_
          | refine ar_finD rfl (by kernel_rfl) ?_
          | refine ar_callV Try.call88 hC rfl rfl rfl rfl rfl (by simp; done) (by rfl) (by simp; done) ?_
          | refine ar_callV_if Try.call88 hC rfl rfl rfl rfl rfl rfl (by simp; done) rfl (by rfl) (by simp; done) ?_
          | refine bq_norm ?_
          | refine lq_normN [1, 3, 4] [.loc 1] (by simp; exact rfl) ⟨i + 1, by omega⟩ (by dsimp only; omega) (by simp [hst])
          | refine ar_go3 _ rfl (by simp [evsL_len, evsL_getE, evL, prs_len, prs_getE, ints_len, ints_getE, intsL_len, intsL_getE, hlt, hd, hx, hk, hw]; exact ⟨rfl, rfl, rfl⟩) rfl ?_
          | refine aw_sregK 3 [1, 3, 4] ?_
          | refine aw_regK 3 [1, 3, 4] ?_
          | refine aw_sregK 4 [1, 3, 4] ?_
          | refine aw_regK 4 [1, 3, 4] ?_
          | refine aw_sregK 5 [1, 3, 4] ?_
          | refine aw_regK 5 [1, 3, 4] ?_
          | refine aw_sregK 6 [1, 3, 4, 5] ?_
          | refine aw_regK 6 [1, 3, 4, 5] ?_
          | refine aw_sreg ?_
          | refine aw_sregD mixed ?_
          | refine aw_ifT (b := true) rfl rfl ?_
          | refine aw_ifF (b := false) rfl rfl ?_
          | refine aw_ifT rfl (by assumption) ?_
          | refine aw_ifF rfl (by assumption) ?_
          | refine aw_ifT rfl (decide_eq_true (by assumption)) ?_
          | refine aw_ifF rfl (decide_eq_false (by assumption)) ?_
          | refine aw_seq ?_
          | refine aw_block ?_
          | refine aw_skip ?_
          | refine aw_region ?_
          | refine aw_region_draw mixed ?_
          | refine aw_exit ?_
          | refine rq_exit ?_
          | refine blockQ_hit ?_
          | refine blockQ_miss (by decide) ?_
          | (refine ar_guard rfl rfl rfl rfl (fun h => ?_) (fun h => ?_) <;> (fail_if_success (cases h; done)) <;> (try simp at h) <;> (try subst h))
          | (refine aw_both rfl (fun h => ?_) (fun h => ?_) <;> (fail_if_success (cases h; done)) <;> (try simp at h) <;> (try subst h)))
    · rw [if_neg (fun h => hk h.1)] at hst
      repeat' (first
        | refine ar_end rfl ?_
        | refine ar_endD rfl (by kernel_rfl) ?_
        | refine ar_fin rfl ?_
        | refine ar_finD rfl (by kernel_rfl) ?_
        | refine bq_norm ?_
        | refine lq_normN [1, 3, 4] [.loc 1] (by simp; exact rfl) ⟨i + 1, by omega⟩ (by dsimp only; omega) (by simp [hst])
        | refine ar_go3 _ rfl (by simp [evsL_len, evsL_getE, evL, prs_len, prs_getE, ints_len, ints_getE, intsL_len, intsL_getE, hlt, hd, hx, hk, hw]; exact ⟨rfl, rfl, rfl⟩) rfl ?_
        | refine aw_sregK 3 [1, 3, 4] ?_
        | refine aw_regK 3 [1, 3, 4] ?_
        | refine aw_sregK 4 [1, 3, 4] ?_
        | refine aw_regK 4 [1, 3, 4] ?_
        | refine aw_sregK 5 [1, 3, 4] ?_
        | refine aw_regK 5 [1, 3, 4] ?_
        | refine aw_sregK 6 [1, 3, 4, 5] ?_
        | refine aw_regK 6 [1, 3, 4, 5] ?_
        | refine aw_sreg ?_
        | refine aw_sregD mixed ?_
        | refine aw_ifT (b := true) rfl rfl ?_
        | refine aw_ifF (b := false) rfl rfl ?_
        | refine aw_ifT rfl (by assumption) ?_
        | refine aw_ifF rfl (by assumption) ?_
        | refine aw_ifT rfl (decide_eq_true (by assumption)) ?_
        | refine aw_ifF rfl (decide_eq_false (by assumption)) ?_
        | refine aw_seq ?_
        | refine aw_block ?_
        | refine aw_skip ?_
        | refine aw_region ?_
        | refine aw_region_draw mixed ?_
        | refine aw_exit ?_
        | refine rq_exit ?_
        | refine blockQ_hit ?_
        | refine blockQ_miss (by decide) ?_
        | (refine ar_guard rfl rfl rfl rfl (fun h => ?_) (fun h => ?_) <;> (fail_if_success (cases h; done)) <;> (try simp at h) <;> (try subst h))
        | (refine aw_both rfl (fun h => ?_) (fun h => ?_) <;> (fail_if_success (cases h; done)) <;> (try simp at h) <;> (try subst h)))
  · have hd : ¬(i : Int) < (es.length : Int) := by omega
    have hie : i = es.length := by omega
    subst hie
    repeat' (first
      | exact aw_ret (ret_vals (by simp; exact rfl) (by simp [*]; fail_if_success (show _)))
      | exact aw_ret (ret_vals (by simp; exact rfl) (by simp [*]; omega))
      | refine ar_end rfl ?_
      | refine ar_endD rfl (by kernel_rfl) ?_
      | refine ar_fin rfl ?_
      | refine ar_finD rfl (by kernel_rfl) ?_
      | refine lq_exit ?_
      | refine ar_go3 _ rfl (by simp [evsL_len, evsL_getE, evL, prs_len, prs_getE, hd]; exact ⟨rfl, rfl, rfl⟩) rfl ?_
      | refine aw_sregK 3 [1, 3, 4] ?_
      | refine aw_regK 3 [1, 3, 4] ?_
      | refine aw_sregK 14 [3] ?_
      | refine aw_regK 14 [3] ?_
      | refine aw_sreg ?_
      | refine aw_sregD mixed ?_
      | refine aw_ifT (b := true) rfl rfl ?_
      | refine aw_ifF (b := false) rfl rfl ?_
      | refine aw_ifT rfl (by assumption) ?_
      | refine aw_ifF rfl (by assumption) ?_
      | refine aw_ifT rfl (decide_eq_true (by assumption)) ?_
      | refine aw_ifF rfl (decide_eq_false (by assumption)) ?_
      | refine aw_seq ?_
      | refine aw_block ?_
      | refine aw_skip ?_
      | refine aw_region ?_
      | refine aw_region_draw mixed ?_
      | refine aw_exit ?_
      | refine rq_exit ?_
      | refine blockQ_hit ?_
      | refine blockQ_miss (by decide) ?_
      | (refine ar_guard rfl rfl rfl rfl (fun h => ?_) (fun h => ?_) <;> (fail_if_success (cases h; done)) <;> (try simp at h) <;> (try subst h))
      | (refine aw_both rfl (fun h => ?_) (fun h => ?_) <;> (fail_if_success (cases h; done)) <;> (try simp at h) <;> (try subst h)))
theorem nil1 {v : Value} {ρ : Rho} {w : World} (h : ARel ρ w (.pv (.sl 1 [[.v (.slice none 0 0)]])) v) : ARel ρ w (.pv (.sl 1 (intsL [[]]))) v := by
  obtain ⟨a, cap, vs, h1, h2, h3, h4, h5⟩ := h
  refine ⟨a, cap, vs, h1, h2, h3, ?_, h5⟩
  obtain ⟨v1, v2, e1, e2, h6, h7⟩ := h4
  refine ⟨v1, v2, e1, e2, ?_, h7⟩
  obtain ⟨u, us, e3, h8, h9⟩ := h6
  exact ⟨u, us, e3, nil_sl h8, h9⟩
set_option maxHeartbeats 16000000 in
theorem c_rordG : ∀ (m : Nat), m ≤ 6 → ∀ l : List Int, l.length = m → SC Try.prog 64 [.pv (.sl 1 (ints l))] (.pv (.sl 1 (intsL (ordG m l))))
  | 0, _, l, hl => by
    have e : l = [] := List.eq_nil_of_length_eq_zero hl
    subst e
    have h : SC Try.prog 64 [.pv (.sl 1 (ints []))] (.pv (.sl 1 [[.v (.slice none 0 0)]])) := by
      refine scx_of Try.func64 rfl rfl rfl (Nat.le_of_ble_eq_true rfl) ?_
      repeat' (first
        | refine ar_end rfl ?_
        | refine ar_endD rfl (by kernel_rfl) ?_
        | refine ar_fin rfl ?_
        | refine ar_finD rfl (by kernel_rfl) ?_
        | refine ar_frz rfl rfl (by simp; exact rfl) rfl (by simp; fail_if_success (show _)) (by simp; exact rfl) (by simp; exact rfl) rfl (by simp; fail_if_success (show _)) ?_
        | exact aw_ret (ret_frz (.loc 13) (by simp; exact rfl) (by simp [intsL, ordG, ints]; fail_if_success (show _)))
        | refine ar_go3 _ rfl (by simp [ints]; exact ⟨rfl, rfl, rfl⟩) rfl ?_
        | refine aw_sregK 0 [0] ?_
        | refine aw_regK 0 [0] ?_
        | refine aw_sregK 1 [0] ?_
        | refine aw_regK 1 [0] ?_
        | refine aw_sregK 2 [] ?_
        | refine aw_regK 2 [] ?_
        | refine aw_sregK 3 [0] ?_
        | refine aw_regK 3 [0] ?_
        | refine aw_sregK 4 [] ?_
        | refine aw_regK 4 [] ?_
        | refine aw_sreg ?_
        | refine aw_sregD mixed ?_
        | refine aw_ifT (b := true) rfl rfl ?_
        | refine aw_ifF (b := false) rfl rfl ?_
        | refine aw_ifT rfl (by assumption) ?_
        | refine aw_ifF rfl (by assumption) ?_
        | refine aw_ifT rfl (decide_eq_true (by assumption)) ?_
        | refine aw_ifF rfl (decide_eq_false (by assumption)) ?_
        | refine aw_seq ?_
        | refine aw_block ?_
        | refine aw_skip ?_
        | refine aw_region ?_
        | refine aw_region_draw mixed ?_
        | refine aw_exit ?_
        | refine rq_exit ?_
        | refine blockQ_hit ?_
        | refine blockQ_miss (by decide) ?_
        | (refine ar_guard rfl rfl rfl rfl (fun h => ?_) (fun h => ?_) <;> (fail_if_success (cases h; done)) <;> (try simp at h) <;> (try subst h))
        | (refine aw_both rfl (fun h => ?_) (fun h => ?_) <;> (fail_if_success (cases h; done)) <;> (try simp at h) <;> (try subst h)))
    exact SC.post2 h fun ρ w v hv => nil1 hv
  | m + 1, hm, l, hl => by
    have h6 : ¬(6 : Int) < (l.length : Int) := by omega
    have h0 : ¬(l.length : Int) = 0 := by omega
    have h0' : ¬l = [] := by intro e; subst e; simp at hl
    have hfac := fac_le (m := m) (by omega)
    have hres : ordG (m + 1) l = ordU m l l.length := rfl
    rw [hres]
    refine scx_of Try.func64 rfl rfl rfl (Nat.le_of_ble_eq_true rfl) ?_
    repeat' (first
      | refine ar_end rfl ?_
      | refine ar_endD rfl (by kernel_rfl) ?_
      | refine ar_fin rfl ?_
      | refine ar_finD rfl (by kernel_rfl) ?_
      | refine ar_go3 _ rfl (by simp [ints_len, ints_getE, intsL_len, intsL_getE, h6, h0, h0']; exact ⟨rfl, rfl, rfl⟩) rfl ?_
      | refine aw_sregK 0 [0] ?_
      | refine aw_regK 0 [0] ?_
      | refine aw_sregK 1 [0] ?_
      | refine aw_regK 1 [0] ?_
      | refine aw_sregK 3 [0] ?_
      | refine aw_regK 3 [0] ?_
      | refine aw_sregK 5 [0] ?_
      | refine aw_regK 5 [0] ?_
      | refine aw_sregK 6 [0, 3] ?_
      | refine aw_regK 6 [0, 3] ?_
      | refine aw_sreg ?_
      | refine aw_sregD mixed ?_
      | refine aw_ifT (b := true) rfl rfl ?_
      | refine aw_ifF (b := false) rfl rfl ?_
      | refine aw_ifT rfl (by assumption) ?_
      | refine aw_ifF rfl (by assumption) ?_
      | refine aw_ifT rfl (decide_eq_true (by assumption)) ?_
      | refine aw_ifF rfl (decide_eq_false (by assumption)) ?_
      | refine aw_seq ?_
      | refine aw_block ?_
      | refine aw_skip ?_
      | refine aw_region ?_
      | refine aw_region_draw mixed ?_
      | refine aw_exit ?_
      | refine rq_exit ?_
      | refine blockQ_hit ?_
      | refine blockQ_miss (by decide) ?_
      | (refine ar_guard rfl rfl rfl rfl (fun h => ?_) (fun h => ?_) <;> (fail_if_success (cases h; done)) <;> (try simp at h) <;> (try subst h))
      | (refine aw_both rfl (fun h => ?_) (fun h => ?_) <;> (fail_if_success (cases h; done)) <;> (try simp at h) <;> (try subst h)))
    refine aw_nil 3 (.loc 1000) 53 1 (by simp; exact rfl) ?_
    refine aw_loopN [0, 3, 4] [.loc 1000] (by simp; exact rfl) (ι := {i : Nat // i ≤ l.length}) (fun i => ⟨51, [(0, .pv (.sl 1 (ints l))), (3, .own (.loc 1000)), (4, I .i64 i.1)], [(.loc 1000, some (.own 53 1 (intsL (ordU m l i.1))))]⟩) (fun i => l.length - i.1) ⟨0, by omega⟩ (by simp [ordU, intsL]) ?_
    rintro ⟨i, hi⟩
    by_cases hlt : i < l.length
    · have hw : IntKind.wrap .i64 ((i : Int) + 1) = (i : Int) + 1 := wrap64s (by omega) (by omega)
      have hd : (i : Int) < (l.length : Int) := by omega
      have hR := c_rordG m (by omega) (l.eraseIdx i) (by rw [List.length_eraseIdx_of_lt hlt]; omega)
      have he : ints (l.eraseIdx i) = ints (l.take i) ++ ints (l.drop (i + 1)) := by rw [List.eraseIdx_eq_take_drop_succ, ints_app]
      rw [he] at hR
      have htk := ints_take l i
      have hdr := ints_drop l (i + 1)
      have hle : List.take l.length (ints l) = ints l := List.take_of_length_le (by simp [ints])
      have hus := ordU_succ m l i
      rw [getD_in _ _ hlt] at hus
      have hul := ordU_len (fun x hx => ordG_len m x hx) hl i (by omega)
      have hgl := ordG_len m (l.eraseIdx i) (by rw [List.length_eraseIdx_of_lt hlt]; omega)
      have hGm := ordG_mem m (l.eraseIdx i) (by rw [List.length_eraseIdx_of_lt hlt]; omega)
      have hmul : i * fac m ≤ 6 * 720 := Nat.mul_le_mul (by omega) hfac
      have hil : i ≤ l.length := hi
      have p0 : (0 : Int) ≤ i := by omega
      have p1 : (0 : Int) ≤ (i : Int) + 1 := by omega
      have t1 : ((i : Int) + 1).toNat = i + 1 := by omega
      have g1 : i + 1 ≤ l.length := by omega
      have htl1 : (l.take i).length = i := by simp; omega
      have hdl1 : (l.drop (i + 1)).length ≤ 6 := by simp; omega
      generalize ordG m (l.eraseIdx i) = G at *
      generalize ordU m l i = U at *
      generalize hT : l.take i = T at *
      generalize hD : l.drop (i + 1) = D at *
      generalize hx : l[i] = x at *
      repeat' (first
        | refine ar_end rfl ?_
        | refine ar_endD rfl (by kernel_rfl) ?_
        | refine ar_fin rfl ?_
        | refine ar_finD rfl (by kernel_rfl) ?_
        | refine ar_appO rfl rfl rfl rfl rfl (by simp; exact rfl) rfl (by simp; exact rfl) (by simp; exact rfl) (by simp; exact ⟨rfl, rfl⟩) rfl (by simp; exact rfl) (by simp; done) (by decide) (by simp [ints_len, maxLen]; try omega) ?_
        | refine ar_frzV Try.call64 hR rfl rfl rfl rfl (by simp; exact rfl) (by simp; fail_if_success (show _)) (by simp; exact rfl) rfl (by simp; done) (by first | (simp; done) | (simp; exact rfl)) ⟨by rfl, by rfl, by rfl⟩ ?_
        | refine ar_go3 _ rfl (by simp [ints_len, ints_getE, intsL_len, intsL_getE, hlt, hd, hx, hw, htk, hdr, hle, hil, p0, p1, t1, g1]; exact ⟨rfl, rfl, rfl⟩) rfl ?_
        | refine aw_sregK 7 [0, 3, 4] ?_
        | refine aw_regK 7 [0, 3, 4] ?_
        | refine aw_sregKD mixed 9 [0, 3, 4] (by simp; exact rfl) ?_
        | refine aw_regKD mixed 9 [0, 3, 4] (by simp; exact rfl) ?_
        | refine aw_sregK 10 [0, 3, 4, 5] ?_
        | refine aw_regK 10 [0, 3, 4, 5] ?_
        | refine aw_sreg ?_
        | refine aw_sregD mixed ?_
        | refine aw_ifT (b := true) rfl rfl ?_
        | refine aw_ifF (b := false) rfl rfl ?_
        | refine aw_ifT rfl (by assumption) ?_
        | refine aw_ifF rfl (by assumption) ?_
        | refine aw_ifT rfl (decide_eq_true (by assumption)) ?_
        | refine aw_ifF rfl (decide_eq_false (by assumption)) ?_
        | refine aw_seq ?_
        | refine aw_block ?_
        | refine aw_skip ?_
        | refine aw_region ?_
        | refine aw_region_draw mixed ?_
        | refine aw_exit ?_
        | refine rq_exit ?_
        | refine blockQ_hit ?_
        | refine blockQ_miss (by decide) ?_
        | (refine ar_guard rfl rfl rfl rfl (fun h => ?_) (fun h => ?_) <;> (fail_if_success (cases h; done)) <;> (try simp at h) <;> (try subst h))
        | (refine aw_both rfl (fun h => ?_) (fun h => ?_) <;> (fail_if_success (cases h; done)) <;> (try simp at h) <;> (try subst h)))
      refine aw_loopN [0, 3, 4, 5, 6] [.loc 1000] (by simp; exact rfl) (ι := {j : Nat // j ≤ G.length}) (fun j => ⟨51, [(0, .pv (.sl 1 (ints l))), (3, .own (.loc 1000)), (4, I .i64 i), (5, .pv (.sl 1 (intsL G))), (6, I .i64 j.1)], [(.loc 1000, some (.own 53 1 (intsL (U ++ (G.take j.1).map (x :: ·)))))]⟩) (fun j => G.length - j.1) ⟨0, by omega⟩ (by simp) ?_
      rintro ⟨j, hj⟩
      by_cases hjl : j < G.length
      · have hw2 : IntKind.wrap .i64 ((j : Int) + 1) = (j : Int) + 1 := wrap64s (by omega) (by omega)
        have hd2 : (j : Int) < (G.length : Int) := by omega
        have hts : (G.take (j + 1)).map (x :: ·) = (G.take j).map (x :: ·) ++ [x :: G[j]] := by rw [List.take_add_one, List.getElem?_eq_getElem hjl, List.map_append]; rfl
        have htl : ((G.take j).map (x :: ·)).length ≤ j := by simp; omega
        have hgm := hGm G[j] (List.getElem_mem hjl)
        generalize (G.take j).map (x :: ·) = V at *
        generalize hg : G[j] = g at *
        repeat' (first
          | refine ar_end rfl ?_
          | refine ar_endD rfl (by kernel_rfl) ?_
          | refine ar_fin rfl ?_
          | refine ar_finD rfl (by kernel_rfl) ?_
          | refine ar_frzT [47] rfl rfl (by simp; exact rfl) (by simp; exact rfl) (by simp; exact rfl) rfl (by simp; fail_if_success (show _)) ?_
          | refine ar_appO rfl rfl rfl rfl rfl (by simp; exact rfl) rfl (by simp; exact rfl) (by simp; exact rfl) (by simp; exact ⟨rfl, rfl⟩) rfl (by simp; exact rfl) (by simp; done) (by decide) (by simp [ints_len, intsL_len, maxLen]; try omega) ?_
          | refine bq_norm ?_
          | refine lq_normR (.loc 49) (.loc 1000) [0, 3, 4, 5, 6] [.loc 1000] (by simp; exact rfl) ⟨j + 1, by omega⟩ (by dsimp only; omega) (by rw [hts, ← List.append_assoc, intsL_app]; simp [intsL, ints])
          | refine ar_go3 _ rfl (by simp [ints_len, ints_getE, intsL_len, intsL_getE, hlt, hjl, hd2, hx, hg, hw2]; exact ⟨rfl, rfl, rfl⟩) rfl ?_
          | refine aw_sregK 11 [0, 3, 4, 5, 6] ?_
          | refine aw_regK 11 [0, 3, 4, 5, 6] ?_
          | refine aw_sregK 12 [0, 3, 4, 5, 6] ?_
          | refine aw_regK 12 [0, 3, 4, 5, 6] ?_
          | refine aw_sregKD mixed 13 [0, 3, 4, 5, 6] (by simp; exact rfl) ?_
          | refine aw_regKD mixed 13 [0, 3, 4, 5, 6] (by simp; exact rfl) ?_
          | refine aw_sreg ?_
          | refine aw_sregD mixed ?_
          | refine aw_ifT (b := true) rfl rfl ?_
          | refine aw_ifF (b := false) rfl rfl ?_
          | refine aw_ifT rfl (by assumption) ?_
          | refine aw_ifF rfl (by assumption) ?_
          | refine aw_ifT rfl (decide_eq_true (by assumption)) ?_
          | refine aw_ifF rfl (decide_eq_false (by assumption)) ?_
          | refine aw_seq ?_
          | refine aw_block ?_
          | refine aw_skip ?_
          | refine aw_region ?_
          | refine aw_region_draw mixed ?_
          | refine aw_exit ?_
          | refine rq_exit ?_
          | refine blockQ_hit ?_
          | refine blockQ_miss (by decide) ?_
          | (refine ar_guard rfl rfl rfl rfl (fun h => ?_) (fun h => ?_) <;> (fail_if_success (cases h; done)) <;> (try simp at h) <;> (try subst h))
          | (refine aw_both rfl (fun h => ?_) (fun h => ?_) <;> (fail_if_success (cases h; done)) <;> (try simp at h) <;> (try subst h)))
      · have hd2 : ¬(j : Int) < (G.length : Int) := by omega
        have hte : G.take j = G := List.take_of_length_le (by omega)
        rw [hte, ← hus]
        repeat' (first
          | refine ar_end rfl ?_
          | refine ar_endD rfl (by kernel_rfl) ?_
          | refine ar_fin rfl ?_
          | refine ar_finD rfl (by kernel_rfl) ?_
          | refine lq_exit ?_
          | refine bq_norm ?_
          | refine lq_normN [0, 3, 4] [.loc 1000] (by simp; exact rfl) ⟨i + 1, by omega⟩ (by dsimp only; omega) (by simp [hd])
          | refine ar_go3 _ rfl (by simp [ints_len, ints_getE, intsL_len, intsL_getE, hd2, hw]; exact ⟨rfl, rfl, rfl⟩) rfl ?_
          | refine aw_sregK 8 [0, 3, 4] ?_
          | refine aw_regK 8 [0, 3, 4] ?_
          | refine aw_sregK 11 [0, 3, 4, 5, 6] ?_
          | refine aw_regK 11 [0, 3, 4, 5, 6] ?_
          | refine aw_sreg ?_
          | refine aw_sregD mixed ?_
          | refine aw_ifT (b := true) rfl rfl ?_
          | refine aw_ifF (b := false) rfl rfl ?_
          | refine aw_ifT rfl (by assumption) ?_
          | refine aw_ifF rfl (by assumption) ?_
          | refine aw_ifT rfl (decide_eq_true (by assumption)) ?_
          | refine aw_ifF rfl (decide_eq_false (by assumption)) ?_
          | refine aw_seq ?_
          | refine aw_block ?_
          | refine aw_skip ?_
          | refine aw_region ?_
          | refine aw_region_draw mixed ?_
          | refine aw_exit ?_
          | refine rq_exit ?_
          | refine blockQ_hit ?_
          | refine blockQ_miss (by decide) ?_
          | (refine ar_guard rfl rfl rfl rfl (fun h => ?_) (fun h => ?_) <;> (fail_if_success (cases h; done)) <;> (try simp at h) <;> (try subst h))
          | (refine aw_both rfl (fun h => ?_) (fun h => ?_) <;> (fail_if_success (cases h; done)) <;> (try simp at h) <;> (try subst h)))
    · have hd : ¬(i : Int) < (l.length : Int) := by omega
      have hie : i = l.length := by omega
      subst hie
      refine aw_frz (.loc 1000) (by simp; exact rfl) ?_
      repeat' (first
        | exact aw_ret (ret_vals (by simp; exact rfl) (by simp [*]; fail_if_success (show _)))
        | exact aw_ret (ret_vals (by simp; exact rfl) (by simp [*]; omega))
        | refine ar_end rfl ?_
        | refine ar_endD rfl (by kernel_rfl) ?_
        | refine ar_fin rfl ?_
        | refine ar_finD rfl (by kernel_rfl) ?_
        | refine lq_exit ?_
        | refine ar_go3 _ rfl (by simp [ints_len, ints_getE, intsL_len, intsL_getE, hd]; exact ⟨rfl, rfl, rfl⟩) rfl ?_
        | refine aw_sregK 7 [0, 3, 4] ?_
        | refine aw_regK 7 [0, 3, 4] ?_
        | refine aw_sregK 14 [3] ?_
        | refine aw_regK 14 [3] ?_
        | refine aw_sreg ?_
        | refine aw_sregD mixed ?_
        | refine aw_ifT (b := true) rfl rfl ?_
        | refine aw_ifF (b := false) rfl rfl ?_
        | refine aw_ifT rfl (by assumption) ?_
        | refine aw_ifF rfl (by assumption) ?_
        | refine aw_ifT rfl (decide_eq_true (by assumption)) ?_
        | refine aw_ifF rfl (decide_eq_false (by assumption)) ?_
        | refine aw_seq ?_
        | refine aw_block ?_
        | refine aw_skip ?_
        | refine aw_region ?_
        | refine aw_region_draw mixed ?_
        | refine aw_exit ?_
        | refine rq_exit ?_
        | refine blockQ_hit ?_
        | refine blockQ_miss (by decide) ?_
        | (refine ar_guard rfl rfl rfl rfl (fun h => ?_) (fun h => ?_) <;> (fail_if_success (cases h; done)) <;> (try simp at h) <;> (try subst h))
        | (refine aw_both rfl (fun h => ?_) (fun h => ?_) <;> (fail_if_success (cases h; done)) <;> (try simp at h) <;> (try subst h)))
set_option maxHeartbeats 16000000 in
theorem c_rordAll {l : List Int} : SC Try.prog 64 [.pv (.sl 1 (ints l))] (.pv (.sl 1 (intsL (ordF l)))) := by
  unfold ordF
  by_cases h : 6 < l.length
  · rw [if_pos h]
    have h6 : (6 : Int) < (l.length : Int) := by omega
    refine scx_of Try.func64 rfl rfl rfl (Nat.le_of_ble_eq_true rfl) ?_
    repeat' (first
      | refine ar_end rfl ?_
      | refine ar_endD rfl (by kernel_rfl) ?_
      | refine ar_fin rfl ?_
      | refine ar_finD rfl (by kernel_rfl) ?_
      | exact aw_ret (ret_nil 2 1 (by simp; exact rfl) (by simp [intsL]; fail_if_success (show _)))
      | refine ar_go3 _ rfl (by simp [ints_len, ints_getE, intsL_len, intsL_getE, h6]; exact ⟨rfl, rfl, rfl⟩) rfl ?_
      | refine aw_sregK 0 [0] ?_
      | refine aw_regK 0 [0] ?_
      | refine aw_sregK 1 [0] ?_
      | refine aw_regK 1 [0] ?_
      | refine aw_sregK 2 [] ?_
      | refine aw_regK 2 [] ?_
      | refine aw_sreg ?_
      | refine aw_sregD mixed ?_
      | refine aw_ifT (b := true) rfl rfl ?_
      | refine aw_ifF (b := false) rfl rfl ?_
      | refine aw_ifT rfl (by assumption) ?_
      | refine aw_ifF rfl (by assumption) ?_
      | refine aw_ifT rfl (decide_eq_true (by assumption)) ?_
      | refine aw_ifF rfl (decide_eq_false (by assumption)) ?_
      | refine aw_seq ?_
      | refine aw_block ?_
      | refine aw_skip ?_
      | refine aw_region ?_
      | refine aw_region_draw mixed ?_
      | refine aw_exit ?_
      | refine rq_exit ?_
      | refine blockQ_hit ?_
      | refine blockQ_miss (by decide) ?_
      | (refine ar_guard rfl rfl rfl rfl (fun h => ?_) (fun h => ?_) <;> (fail_if_success (cases h; done)) <;> (try simp at h) <;> (try subst h))
      | (refine aw_both rfl (fun h => ?_) (fun h => ?_) <;> (fail_if_success (cases h; done)) <;> (try simp at h) <;> (try subst h)))
  · rw [if_neg h]
    exact c_rordG _ (by omega) l rfl
def castL (q : List Nat) : List Int := q.map fun (k : Nat) => (k : Int)
theorem castL_len (q : List Nat) : (castL q).length = q.length := by simp [castL]
theorem castL_get {q : List Nat} {i : Nat} (h : i < (castL q).length) : (castL q)[i] = ((q[i]'(by simpa [castL] using h) : Nat) : Int) := by simp [castL]
def ofP (q : List Nat) : Nat → List (Nat × Nat)
  | 0 => []
  | i + 1 => ofP q i ++ (q.drop (i + 1)).map fun b => (q.getD i 0, b)
theorem ofP_in {n : Nat} {q : List Nat} (hq : ∀ a ∈ q, a < n) : ∀ i, i ≤ q.length → ∀ p ∈ ofP q i, p.1 < n ∧ p.2 < n
  | 0, _, p, h => by cases h
  | i + 1, hi, p, h => by
    rw [ofP] at h
    rcases List.mem_append.1 h with h | h
    · exact ofP_in hq i (by omega) p h
    · obtain ⟨b, hb, rfl⟩ := List.mem_map.1 h
      rw [getD_in _ _ (by omega)]
      exact ⟨hq _ (List.getElem_mem _), hq _ (List.mem_of_mem_drop hb)⟩
theorem ofP_len (q : List Nat) : ∀ i, (ofP q i).length ≤ i * q.length
  | 0 => by simp [ofP]
  | i + 1 => by
    have := ofP_len q i
    rw [ofP, List.length_append, Nat.succ_mul, List.length_map, List.length_drop]; omega
theorem fold_app (n : Nat) (P Q : List (Nat × Nat)) : foldR n (P ++ Q) = Q.foldl addR (foldR n P) := by simp [foldR, List.foldl_append]
theorem ofP_of {n : Nat} {q : List Nat} (h32 : n ≤ 32) (hq : ∀ a ∈ q, a < n) : ∀ i, i ≤ q.length → foldR n (ofP q i) = ofUp n (castL q) i
  | 0, _ => rfl
  | i + 1, hi => by
    have hlt : i < q.length := by omega
    rw [ofP, fold_app, ofP_of h32 hq i (by omega), ofUp, getD_in _ _ hlt, getD_in _ _ (show i < (castL q).length by rw [castL_len]; exact hlt), castL_get]
    have hcl := ofUp_cl (n := n) (l := castL q) h32 i
    have hai := hq _ (List.getElem_mem hlt)
    generalize q[i] = a at *
    have e : (castL q).drop (i + 1) = castL (q.drop (i + 1)) := by simp [castL, List.map_drop]
    rw [e]
    have hd : ∀ b ∈ q.drop (i + 1), b < n := fun b hb => hq b (List.mem_of_mem_drop hb)
    generalize q.drop (i + 1) = d at *
    clear e
    generalize ofUp n (castL q) i = r at *
    have key : ∀ (d : List Nat) (r : RL), Cl n r → (∀ b ∈ d, b < n) → (d.map fun b => (a, b)).foldl addR r = ofIn r (a : Int) (castL d) := by
      intro d
      induction d with
      | nil => intro r _ _; rfl
      | cons b d ih =>
        intro r hr hb
        have hb1 := hb b (List.mem_cons_self ..)
        have hput := put_cl hr hai hb1
        show (d.map fun b => (a, b)).foldl addR (addR r (a, b)) = ofIn (putR r (a : Int) (b : Int)) (a : Int) (castL d)
        rw [hput]
        refine ih _ ?_ fun c hc => hb c (List.mem_cons_of_mem _ hc)
        rw [← hput]; exact put_len hr _ _
    exact key d r hcl hd
set_option maxHeartbeats 16000000 in
theorem c_rof {n : Nat} {q : List Nat} (h32 : n ≤ 32) (hl : q.length ≤ 32) (hq : ∀ a ∈ q, a < n) : SC Try.prog 66 [I .i64 n, .pv (.sl 1 (ints (castL q)))] (.pv (.sl 1 (rl (ofF n (castL q))))) := by
  have hpl := ofP_len q q.length
  have hpl2 : q.length * q.length ≤ 1024 := Nat.le_trans (Nat.mul_le_mul hl hl) (by decide)
  have hM := c_rmadeV (n := n) (ps := ofP q q.length) h32 (by omega) (ofP_in hq _ (Nat.le_refl _))
  rw [ofP_of h32 hq _ (Nat.le_refl _)] at hM
  have hof : ofF n (castL q) = ofUp n (castL q) q.length := by unfold ofF; rw [castL_len]
  rw [← hof] at hM
  have n0 : ¬(n : Int) < 0 := by omega
  have n1 : ¬(32 : Int) < (n : Int) := by omega
  have hcl := castL_len q
  have hcg : ∀ i, (h : i < q.length) → (h2 : i < (castL q).length) → (castL q)[i] = ((q[i] : Nat) : Int) := fun i h h2 => castL_get h2
  generalize castL q = l at *
  generalize ofF n l = Z at *
  have hpl3 : ∀ i, i ≤ q.length → (ofP q i).length ≤ 1024 := fun i hi => Nat.le_trans (ofP_len q i) (Nat.le_trans (Nat.mul_le_mul_right _ hi) hpl2)
  have hst : ∀ i, (h : i < q.length) → ofP q (i + 1) = ofP q i ++ (q.drop (i + 1)).map fun b => (q[i], b) := fun i h => by rw [ofP, getD_in _ _ h]
  have hof0 : ofP q 0 = [] := rfl
  clear hof hpl
  generalize hP : ofP q = P at *
  refine scx_of Try.func66 rfl rfl rfl (Nat.le_of_ble_eq_true rfl) ?_
  repeat' (first
    | refine ar_end rfl ?_
    | refine ar_endD rfl (by kernel_rfl) ?_
    | refine ar_fin rfl ?_
    | refine ar_finD rfl (by kernel_rfl) ?_
    | refine ar_go3 _ rfl (by simp [ints_len, ints_getE, intsL_len, intsL_getE, n0, n1]; exact ⟨rfl, rfl, rfl⟩) rfl ?_
    | refine aw_sregK 0 [0, 1] ?_
    | refine aw_regK 0 [0, 1] ?_
    | refine aw_sregK 1 [0, 1] ?_
    | refine aw_regK 1 [0, 1] ?_
    | refine aw_sregK 2 [] ?_
    | refine aw_regK 2 [] ?_
    | refine aw_sregK 3 [0, 1] ?_
    | refine aw_regK 3 [0, 1] ?_
    | refine aw_sregK 4 [0, 1, 5] ?_
    | refine aw_regK 4 [0, 1, 5] ?_
    | refine aw_sreg ?_
    | refine aw_sregD mixed ?_
    | refine aw_ifT (b := true) rfl rfl ?_
    | refine aw_ifF (b := false) rfl rfl ?_
    | refine aw_ifT rfl (by assumption) ?_
    | refine aw_ifF rfl (by assumption) ?_
    | refine aw_ifT rfl (decide_eq_true (by assumption)) ?_
    | refine aw_ifF rfl (decide_eq_false (by assumption)) ?_
    | refine aw_seq ?_
    | refine aw_block ?_
    | refine aw_skip ?_
    | refine aw_region ?_
    | refine aw_region_draw mixed ?_
    | refine aw_exit ?_
    | refine rq_exit ?_
    | refine blockQ_hit ?_
    | refine blockQ_miss (by decide) ?_
    | (refine ar_guard rfl rfl rfl rfl (fun h => ?_) (fun h => ?_) <;> (fail_if_success (cases h; done)) <;> (try simp at h) <;> (try subst h))
    | (refine aw_both rfl (fun h => ?_) (fun h => ?_) <;> (fail_if_success (cases h; done)) <;> (try simp at h) <;> (try subst h)))
  refine aw_nil 5 (.loc 1000) 75 2 (by simp; exact rfl) ?_
  refine aw_loopN [0, 1, 5, 6] [.loc 1000] (by simp; exact rfl) (ι := {i : Nat // i ≤ q.length}) (fun i => ⟨71, [(0, I .i64 n), (1, .pv (.sl 1 (ints l))), (5, .own (.loc 1000)), (6, I .i64 i.1)], [(.loc 1000, some (.own 75 2 (prs (P i.1))))]⟩) (fun i => q.length - i.1) ⟨0, by omega⟩ (by simp [hof0, prs]) ?_
  rintro ⟨i, hi⟩
  by_cases hlt : i < q.length
  · have hw : IntKind.wrap .i64 ((i : Int) + 1) = (i : Int) + 1 := wrap64s (by omega) (by omega)
    have hd : (i : Int) < (l.length : Int) := by omega
    have hil : i < l.length := by omega
    have hsi := hst i hlt
    have hPl := hpl3 (i + 1) (by omega)
    have hai := hq _ (List.getElem_mem hlt)
    have hli := hcg i hlt hil
    generalize q[i] = a at *
    have a0 : (0 : Int) ≤ (a : Int) := by omega
    have a1 : (a : Int) < (n : Int) := by omega
    repeat' (first
      | refine ar_end rfl ?_
      | refine ar_endD rfl (by kernel_rfl) ?_
      | refine ar_fin rfl ?_
      | refine ar_finD rfl (by kernel_rfl) ?_
      | refine ar_go3 _ rfl (by simp [ints_len, ints_getE, intsL_len, intsL_getE, hd, hw]; exact ⟨rfl, rfl, rfl⟩) rfl ?_
      | refine aw_sregK 5 [0, 1, 5, 6] ?_
      | refine aw_regK 5 [0, 1, 5, 6] ?_
      | refine aw_sregK 7 [0, 1, 5, 6] ?_
      | refine aw_regK 7 [0, 1, 5, 6] ?_
      | refine aw_sreg ?_
      | refine aw_sregD mixed ?_
      | refine aw_ifT (b := true) rfl rfl ?_
      | refine aw_ifF (b := false) rfl rfl ?_
      | refine aw_ifT rfl (by assumption) ?_
      | refine aw_ifF rfl (by assumption) ?_
      | refine aw_ifT rfl (decide_eq_true (by assumption)) ?_
      | refine aw_ifF rfl (decide_eq_false (by assumption)) ?_
      | refine aw_seq ?_
      | refine aw_block ?_
      | refine aw_skip ?_
      | refine aw_region ?_
      | refine aw_region_draw mixed ?_
      | refine aw_exit ?_
      | refine rq_exit ?_
      | refine blockQ_hit ?_
      | refine blockQ_miss (by decide) ?_
      | (refine ar_guard rfl rfl rfl rfl (fun h => ?_) (fun h => ?_) <;> (fail_if_success (cases h; done)) <;> (try simp at h) <;> (try subst h))
      | (refine aw_both rfl (fun h => ?_) (fun h => ?_) <;> (fail_if_success (cases h; done)) <;> (try simp at h) <;> (try subst h)))
    refine aw_loopN [0, 1, 5, 6, 7] [.loc 1000] (by simp; exact rfl) (ι := {j : Nat // j ≤ q.length - (i + 1)}) (fun j => ⟨71, [(0, I .i64 n), (1, .pv (.sl 1 (ints l))), (5, .own (.loc 1000)), (6, I .i64 i), (7, I .i64 ((i : Int) + 1 + (j.1 : Int)))], [(.loc 1000, some (.own 75 2 (prs (P i ++ ((q.drop (i + 1)).take j.1).map fun b => (a, b)))))]⟩) (fun j => q.length - (i + 1) - j.1) ⟨0, by omega⟩ (by simp) ?_
    rintro ⟨j, hj⟩
    by_cases hjl : j < q.length - (i + 1)
    · have hk : i + 1 + j < q.length := by omega
      have hkl : i + 1 + j < l.length := by omega
      have hki : ((i : Int) + 1 + (j : Int)) = ((i + 1 + j : Nat) : Int) := by omega
      have hw2 : IntKind.wrap .i64 (((i + 1 + j : Nat) : Int) + 1) = (i : Int) + 1 + ((j + 1 : Nat) : Int) := by rw [wrap64s (by omega) (by omega)]; omega
      have hd2 : ((i + 1 + j : Nat) : Int) < (l.length : Int) := by omega
      have hdl : j < (q.drop (i + 1)).length := by simp; omega
      have hts : ((q.drop (i + 1)).take (j + 1)).map (fun b => (a, b)) = ((q.drop (i + 1)).take j).map (fun b => (a, b)) ++ [(a, q[i + 1 + j])] := by
        rw [List.take_add_one, List.getElem?_eq_getElem hdl, List.map_append, List.getElem_drop]; rfl
      have hbi := hq _ (List.getElem_mem hk)
      have hlk := hcg (i + 1 + j) hk hkl
      have hvl : (((q.drop (i + 1)).take j).map fun b => (a, b)).length ≤ 32 := by simp; omega
      have hPl2 := hpl3 i (by omega)
      rw [hki]
      generalize q[i + 1 + j] = b at *
      generalize ((q.drop (i + 1)).take j).map (fun b => (a, b)) = V at *
      generalize i + 1 + j = k at *
      have b0 : (0 : Int) ≤ (b : Int) := by omega
      have b1 : (b : Int) < (n : Int) := by omega
      repeat' (first
        | refine ar_end rfl ?_
        | refine ar_endD rfl (by kernel_rfl) ?_
        | refine ar_fin rfl ?_
        | refine ar_finD rfl (by kernel_rfl) ?_
        | refine ar_appO rfl rfl rfl rfl rfl (by simp; exact rfl) rfl (by simp; exact rfl) (by simp; exact rfl) (by simp; exact ⟨rfl, rfl⟩) rfl (by simp; exact rfl) (by simp; done) (by decide) (by simp [prs_len, maxLen]; try omega) ?_
        | refine bq_norm ?_
        | refine lq_normR (.loc 67) (.loc 1000) [0, 1, 5, 6, 7] [.loc 1000] (by simp; exact rfl) ⟨j + 1, by omega⟩ (by dsimp only; omega) (by rw [hts, ← List.append_assoc, prs_app]; simp [prs])
        | refine ar_go3 _ rfl (by simp [ints_len, ints_getE, intsL_len, intsL_getE, hil, hkl, hd2, hli, hlk, a0, a1, b0, b1, hw2]; exact ⟨rfl, rfl, rfl⟩) rfl ?_
        | refine aw_sregK 8 [0, 1, 5, 6, 7] ?_
        | refine aw_regK 8 [0, 1, 5, 6, 7] ?_
        | refine aw_sregK 9 [0, 1, 5, 6, 7] ?_
        | refine aw_regK 9 [0, 1, 5, 6, 7] ?_
        | refine aw_sregK 10 [0, 1, 5, 6, 7] ?_
        | refine aw_regK 10 [0, 1, 5, 6, 7] ?_
        | refine aw_sregKD mixed 11 [0, 1, 5, 6, 7] (by simp; exact rfl) ?_
        | refine aw_regKD mixed 11 [0, 1, 5, 6, 7] (by simp; exact rfl) ?_
        | refine aw_sreg ?_
        | refine aw_sregD mixed ?_
        | refine aw_ifT (b := true) rfl rfl ?_
        | refine aw_ifF (b := false) rfl rfl ?_
        | refine aw_ifT rfl (by assumption) ?_
        | refine aw_ifF rfl (by assumption) ?_
        | refine aw_ifT rfl (decide_eq_true (by assumption)) ?_
        | refine aw_ifF rfl (decide_eq_false (by assumption)) ?_
        | refine aw_seq ?_
        | refine aw_block ?_
        | refine aw_skip ?_
        | refine aw_region ?_
        | refine aw_region_draw mixed ?_
        | refine aw_exit ?_
        | refine rq_exit ?_
        | refine blockQ_hit ?_
        | refine blockQ_miss (by decide) ?_
        | (refine ar_guard rfl rfl rfl rfl (fun h => ?_) (fun h => ?_) <;> (fail_if_success (cases h; done)) <;> (try simp at h) <;> (try subst h))
        | (refine aw_both rfl (fun h => ?_) (fun h => ?_) <;> (fail_if_success (cases h; done)) <;> (try simp at h) <;> (try subst h)))
    · have hje : j = q.length - (i + 1) := by omega
      subst hje
      have hd2 : ¬((i : Int) + 1 + ((q.length - (i + 1) : Nat) : Int) < (l.length : Int)) := by omega
      have hte : (q.drop (i + 1)).take (q.length - (i + 1)) = q.drop (i + 1) := List.take_of_length_le (by simp)
      rw [hte, ← hsi]
      generalize ((q.length - (i + 1) : Nat) : Int) = jj at *
      repeat' (first
        | refine ar_end rfl ?_
        | refine ar_endD rfl (by kernel_rfl) ?_
        | refine ar_fin rfl ?_
        | refine ar_finD rfl (by kernel_rfl) ?_
        | refine lq_exit ?_
        | refine bq_norm ?_
        | refine lq_normN [0, 1, 5, 6] [.loc 1000] (by simp; exact rfl) ⟨i + 1, by omega⟩ (by dsimp only; omega) (by simp [hd])
        | refine ar_go3 _ rfl (by simp [ints_len, ints_getE, intsL_len, intsL_getE, hd2, hw]; exact ⟨rfl, rfl, rfl⟩) rfl ?_
        | refine aw_sregK 6 [0, 1, 5, 6] ?_
        | refine aw_regK 6 [0, 1, 5, 6] ?_
        | refine aw_sregK 8 [0, 1, 5, 6, 7] ?_
        | refine aw_regK 8 [0, 1, 5, 6, 7] ?_
        | refine aw_sreg ?_
        | refine aw_sregD mixed ?_
        | refine aw_ifT (b := true) rfl rfl ?_
        | refine aw_ifF (b := false) rfl rfl ?_
        | refine aw_ifT rfl (by assumption) ?_
        | refine aw_ifF rfl (by assumption) ?_
        | refine aw_ifT rfl (decide_eq_true (by assumption)) ?_
        | refine aw_ifF rfl (decide_eq_false (by assumption)) ?_
        | refine aw_seq ?_
        | refine aw_block ?_
        | refine aw_skip ?_
        | refine aw_region ?_
        | refine aw_region_draw mixed ?_
        | refine aw_exit ?_
        | refine rq_exit ?_
        | refine blockQ_hit ?_
        | refine blockQ_miss (by decide) ?_
        | (refine ar_guard rfl rfl rfl rfl (fun h => ?_) (fun h => ?_) <;> (fail_if_success (cases h; done)) <;> (try simp at h) <;> (try subst h))
        | (refine aw_both rfl (fun h => ?_) (fun h => ?_) <;> (fail_if_success (cases h; done)) <;> (try simp at h) <;> (try subst h)))
  · have hd : ¬(i : Int) < (l.length : Int) := by omega
    have hie : i = q.length := by omega
    subst hie
    generalize P q.length = PP at *
    refine aw_frz (.loc 1000) (by simp; exact rfl) ?_
    repeat' (first
      | exact aw_ret (ret_vals (by simp; exact rfl) (by simp [*]; fail_if_success (show _)))
      | exact aw_ret (ret_vals (by simp; exact rfl) (by simp [*]; omega))
      | refine ar_end rfl ?_
      | refine ar_endD rfl (by kernel_rfl) ?_
      | refine ar_fin rfl ?_
      | refine ar_finD rfl (by kernel_rfl) ?_
      | refine ar_callV Try.call62 hM rfl rfl rfl rfl rfl (by simp; done) (by rfl) (by simp; done) ?_
      | refine ar_callV_if Try.call62 hM rfl rfl rfl rfl rfl rfl (by simp; done) rfl (by rfl) (by simp; done) ?_
      | refine lq_exit ?_
      | refine ar_go3 _ rfl (by simp [ints_len, ints_getE, intsL_len, intsL_getE, hd]; exact ⟨rfl, rfl, rfl⟩) rfl ?_
      | refine aw_sregK 5 [0, 1, 5, 6] ?_
      | refine aw_regK 5 [0, 1, 5, 6] ?_
      | refine aw_sregK 12 [0, 5] ?_
      | refine aw_regK 12 [0, 5] ?_
      | refine aw_sreg ?_
      | refine aw_sregD mixed ?_
      | refine aw_ifT (b := true) rfl rfl ?_
      | refine aw_ifF (b := false) rfl rfl ?_
      | refine aw_ifT rfl (by assumption) ?_
      | refine aw_ifF rfl (by assumption) ?_
      | refine aw_ifT rfl (decide_eq_true (by assumption)) ?_
      | refine aw_ifF rfl (decide_eq_false (by assumption)) ?_
      | refine aw_seq ?_
      | refine aw_block ?_
      | refine aw_skip ?_
      | refine aw_region ?_
      | refine aw_region_draw mixed ?_
      | refine aw_exit ?_
      | refine rq_exit ?_
      | refine blockQ_hit ?_
      | refine blockQ_miss (by decide) ?_
      | (refine ar_guard rfl rfl rfl rfl (fun h => ?_) (fun h => ?_) <;> (fail_if_success (cases h; done)) <;> (try simp at h) <;> (try subst h))
      | (refine aw_both rfl (fun h => ?_) (fun h => ?_) <;> (fail_if_success (cases h; done)) <;> (try simp at h) <;> (try subst h)))
end Go.Eng
