import Derived.Test.YtclegllogeanlaaCohF
import Derived.Test.YtclegllogeanlaaXorB
set_option linter.unusedSimpArgs false
set_option linter.unusedVariables false
set_option linter.constructorNameAsVariable false
set_option autoImplicit false
namespace Go.Eng
open Go Go.RowKit Go.Proofs
theorem lastG_spec (p : Int → Bool) : ∀ l : List Int, (lastG p l = -1 ∧ ∀ w ∈ l, p w = false) ∨ (lastG p l ∈ l ∧ p (lastG p l) = true)
  | [] => .inl ⟨rfl, fun w h => by cases h⟩
  | w :: r => by
    unfold lastG
    cases hp : p w
    · rw [if_neg (by decide)]
      rcases lastG_spec p r with ⟨h1, h2⟩ | ⟨h1, h2⟩
      · refine .inl ⟨h1, fun x hx => ?_⟩
        rcases List.mem_cons.1 hx with rfl | hx
        · exact hp
        · exact h2 x hx
      · exact .inr ⟨List.mem_cons_of_mem _ h1, h2⟩
    · rw [if_pos rfl]
      exact .inr ⟨List.mem_cons_self .., hp⟩
theorem last_some (es : List Ev) (co : RL) (loc : Int) : lastF es co loc = -1 ∨ ∃ a : Nat, ∃ h : a < es.length, lastF es co loc = a ∧ es[a].k = 2 ∧ es[a].l = loc := by
  rcases lastG_spec (topB co (writesF es loc)) (writesF es loc) with ⟨h, _⟩ | ⟨h, _⟩
  · exact .inl h
  · obtain ⟨a, h1, h2, h3⟩ := writes_mem.1 h
    exact .inr ⟨a, h1, h2.symm, h3⟩
theorem list_max (f : Int → Int) : ∀ {l : List Int}, l ≠ [] → ∃ m ∈ l, ∀ x ∈ l, f x ≤ f m
  | [], h => absurd rfl h
  | [a], _ => ⟨a, by simp, fun x hx => by
    have : x = a := by simpa using hx
    rw [this]; exact Int.le_refl _⟩
  | a :: b :: l, _ => by
    obtain ⟨m, h1, h2⟩ := list_max f (l := b :: l) (by simp)
    by_cases h : f a ≤ f m
    · refine ⟨m, List.mem_cons_of_mem _ h1, fun x hx => ?_⟩
      rcases List.mem_cons.1 hx with rfl | hx
      · exact h
      · exact h2 x hx
    · refine ⟨a, List.mem_cons_self .., fun x hx => ?_⟩
      rcases List.mem_cons.1 hx with rfl | hx
      · exact Int.le_refl _
      · have := h2 x hx; omega
theorem rank_last {es : List Ev} {co : RL} {f : Nat → Int} (h : Rank es co f) (loc : Int) : (writesF es loc = [] ∧ lastF es co loc = -1) ∨ ∃ a : Nat, ∃ ha : a < es.length, lastF es co loc = a ∧ es[a].k = 2 ∧ es[a].l = loc ∧ writesF es loc ≠ [] ∧ ∀ x ∈ writesF es loc, x ≠ a → hasR co x a = true := by
  by_cases hW : writesF es loc = []
  · left; refine ⟨hW, ?_⟩
    unfold lastF; rw [hW]; rfl
  · right
    rcases lastG_spec (topB co (writesF es loc)) (writesF es loc) with ⟨h1, h2⟩ | ⟨h1, h2⟩
    · exfalso
      obtain ⟨m, hm, hx⟩ := list_max (fun i => f i.toNat) hW
      have h3 := h2 m hm
      unfold topB at h3
      rw [List.all_eq_false] at h3
      obtain ⟨x, hxm, h4⟩ := h3
      obtain ⟨a, ha, rfl, ka, la⟩ := writes_mem.1 hm
      obtain ⟨b, hb, rfl, kb, lb⟩ := writes_mem.1 hxm
      have h5 : hasR co (a : Int) (b : Int) = true := by
        cases hq : hasR co (a : Int) (b : Int)
        · rw [hq] at h4; exact absurd rfl h4
        · rfl
      rw [has_nat h.cl] at h5
      have := (h.bit a b ha hb).1 h5
      have := hx _ hxm
      simp only [Int.toNat_natCast] at this
      omega
    · obtain ⟨a, ha, h3, ka, la⟩ := writes_mem.1 h1
      refine ⟨a, ha, h3.symm, ka, la, hW, fun x hx hne => ?_⟩
      obtain ⟨b, hb, rfl, kb, lb⟩ := writes_mem.1 hx
      rw [← h3] at h2
      unfold topB at h2
      have h4 := List.all_eq_true.1 h2 _ hx
      rw [has_nat h.cl] at h4 ⊢
      refine (h.bit b a hb ha).2 ⟨kb, ka, by rw [lb, la], trivial, ?_⟩
      have h5 : bitR co a b = false := by simpa using h4
      have h6 : ¬f a < f b := fun h6 => by
        have := (h.bit a b ha hb).2 ⟨ka, kb, by rw [lb, la], trivial, h6⟩
        rw [h5] at this; cases this
      have h7 : f a ≠ f b := fun h7 => hne (by
        have := h.inj a b ha hb ka kb (by rw [la, lb]) trivial h7
        omega)
      omega
/-- What stands in memory at the end. -/
def memV (es : List Ev) (co : RL) (loc : Nat) (v : Int) : Int := if 0 ≤ lastF es co loc then (es.getD (lastF es co loc).toNat ⟨0, 0, 0, 0, false, false, false⟩).v else v
def memUp (es : List Ev) (co : RL) (init : List Int) (i : Nat) : List Int := init.mapIdx fun k v => if k < i then memV es co k v else v
def memF (es : List Ev) (co : RL) (init : List Int) : List Int := init.mapIdx (memV es co)
theorem memUp_len (es : List Ev) (co : RL) (init : List Int) (i : Nat) : (memUp es co init i).length = init.length := by simp [memUp]
theorem memUp_zero (es : List Ev) (co : RL) (init : List Int) : memUp es co init 0 = init := by
  unfold memUp
  refine List.ext_getElem (by simp) fun k h1 h2 => by simp
theorem memUp_end (es : List Ev) (co : RL) (init : List Int) : memUp es co init init.length = memF es co init := by
  unfold memUp memF
  refine List.ext_getElem (by simp) fun k h1 h2 => ?_
  have : k < init.length := by simpa using h1
  simp [this]
theorem memUp_succ {es : List Ev} {co : RL} {init : List Int} {i : Nat} {x : Int} (h : i < init.length) (hx : memV es co i init[i] = x) : memUp es co init (i + 1) = (memUp es co init i).set i x := by
  unfold memUp
  refine List.ext_getElem (by simp) fun k h1 h2 => ?_
  rw [List.getElem_set]
  simp only [List.getElem_mapIdx]
  by_cases hk : i = k
  · subst hk; rw [if_pos rfl, if_pos (by omega)]; exact hx
  · rw [if_neg hk]
    by_cases hk2 : k < i
    · rw [if_pos hk2, if_pos (by omega)]
    · rw [if_neg hk2, if_neg (by omega)]
theorem memUp_stay {es : List Ev} {co : RL} {init : List Int} {i : Nat} (h : i < init.length) (hx : ¬0 ≤ lastF es co i) : memUp es co init (i + 1) = memUp es co init i := by
  have : memV es co i init[i] = init[i] := by unfold memV; rw [if_neg hx]
  have hg : ∀ k, (h : k < (memUp es co init i).length) → (memUp es co init i)[k] = if k < i then memV es co k (init[k]'(by rw [memUp_len] at h; exact h)) else init[k]'(by rw [memUp_len] at h; exact h) := fun k h => by simp [memUp]
  rw [memUp_succ h this]
  refine List.ext_getElem (by simp) fun k h1 h2 => ?_
  rw [List.getElem_set]
  by_cases hk : i = k
  · subst hk; rw [if_pos rfl, hg, if_neg (by omega)]
  · rw [if_neg hk]
theorem ints_set {l : List Int} {i : Nat} {b : Int} : (ints l).set i [C .i64 b] = ints (l.set i b) := by simp [ints, List.map_set]
theorem ints_zero (n : Nat) : List.replicate n [C .i64 0] = ints (List.replicate n 0) := by simp [ints]
set_option maxHeartbeats 16000000 in
theorem c_mem {es : List Ev} {co : RL} {init : List Int} (h32 : es.length ≤ 32) (hl : init.length ≤ 1000000) : SC Try.prog 41 [.agg (exL es), .pv (.sl 1 (rl co)), .pv (.sl 1 (ints init))] (.pv (.sl 1 (ints (memF es co init)))) := by
  refine scx_of Try.func41 rfl rfl rfl (Nat.le_of_ble_eq_true rfl) ?_
  repeat' (first
    | refine ar_end rfl ?_
    | refine ar_endD rfl (by kernel_rfl) ?_
    | refine ar_fin rfl ?_
    | refine ar_finD rfl (by kernel_rfl) ?_
    | refine ar_make (m := init.length) rfl rfl rfl rfl (by simp; exact rfl) (by simp; exact rfl) (by simp; exact ⟨rfl, rfl⟩) (by simp; exact rfl) rfl (by simp; done) (by decide) (by simp [ints_len, ints_getE, intsL_len, intsL_getE]; exact rfl) (by simp [ints_len, ints_getE, intsL_len, intsL_getE]; exact rfl) rfl (by simp [maxLen]; omega) ?_
    | refine ar_copy rfl rfl rfl rfl (by simp; done) (by simp; exact rfl) (by simp; done) rfl (by simp; exact rfl) rfl (by simp [ints]) ?_
    | refine ar_go3 _ rfl (by simp [evsL_len, evsL_getE, evL, prs_len, prs_getE, ints_len, ints_getE, intsL_len, intsL_getE]; exact ⟨rfl, rfl, rfl⟩) rfl ?_
    | refine aw_sregK 0 [0, 1, 2] ?_
    | refine aw_regK 0 [0, 1, 2] ?_
    | refine aw_sregK 1 [1, 2, 3] ?_
    | refine aw_regK 1 [1, 2, 3] ?_
    | refine aw_sregK 2 [1, 2, 3, 7] ?_
    | refine aw_regK 2 [1, 2, 3, 7] ?_
    | refine aw_sregK 3 [1, 3, 7] ?_
    | refine aw_regK 3 [1, 3, 7] ?_
    | refine aw_sreg ?_
    | refine aw_sregD mixed ?_
    | refine aw_ifT (b := true) rfl rfl ?_
    | refine aw_ifF (b := false) rfl rfl ?_
    | refine aw_ifT rfl (by assumption) ?_
    | refine aw_ifF rfl (by assumption) ?_
    | refine aw_ifT rfl (decide_eq_true (by assumption)) ?_
    | refine aw_ifF rfl (decide_eq_false (by assumption)) ?_
    | refine aw_seq ?_
    | refine aw_block ?_
    | refine aw_skip ?_
    | refine aw_region ?_
    | refine aw_region_draw mixed ?_
    | refine aw_exit ?_
    | refine rq_exit ?_
    | refine blockQ_hit ?_
    | refine blockQ_miss (by decide) ?_
    | (refine ar_guard rfl rfl rfl rfl (fun h => ?_) (fun h => ?_) <;> (fail_if_success (cases h; done)) <;> (try simp at h) <;> (try subst h))
    | (refine aw_both rfl (fun h => ?_) (fun h => ?_) <;> (fail_if_success (cases h; done)) <;> (try simp at h) <;> (try subst h)))
  refine aw_loopN [1, 3, 7, 17, 18] [.loc 3, .loc 12] (by simp; exact rfl) (ι := {i : Nat // i ≤ init.length}) (fun i => ⟨38, [(1, .pv (.sl 1 (rl co))), (3, .ptr (.loc 3) 0), (7, .own (.loc 12)), (17, I .i64 init.length), (18, I .i64 i.1)], [(.loc 3, some (.box 28 [.pv (.sl 7 (evsL es)), .pv (.v (.slice none 0 0)), .pv (.v (.slice none 0 0)), .pv (.v (.slice none 0 0)), .pv (.v (.slice none 0 0)), .pv (.v (.slice none 0 0)), .pv (.v (.slice none 0 0))])), (.loc 12, some (.own 2 1 (ints (memUp es co init i.1))))]⟩) (fun i => init.length - i.1) ⟨0, by omega⟩ (by simp [memUp_zero, ints_len]) ?_
  rintro ⟨i, hi⟩
  by_cases hlt : i < init.length
  · have hw : IntKind.wrap .i64 ((i : Int) + 1) = (i : Int) + 1 := wrap64s (by omega) (by omega)
    have hd : (i : Int) < (init.length : Int) := by omega
    have hL := c_last (es := es) (co := co) (loc := i) h32
    have hml := memUp_len es co init i
    rcases last_some es co i with hq | ⟨a, ha, hq, _, _⟩
    · have hst := memUp_stay (co := co) hlt (by rw [hq]; omega)
      rw [hq] at hL
      generalize memUp es co init i = M at *
      repeat' (first
        | refine ar_end rfl ?_
        | refine ar_endD rfl (by kernel_rfl) ?_
        | refine ar_fin rfl ?_
        | refine ar_finD rfl (by kernel_rfl) ?_
        | refine ar_callV Try.call30 hL rfl rfl rfl rfl rfl (by simp; done) (by rfl) (by simp; done) ?_
        | refine ar_callV_if Try.call30 hL rfl rfl rfl rfl rfl rfl (by simp; done) rfl (by rfl) (by simp; done) ?_
        | refine bq_norm ?_
        | refine lq_normN [1, 3, 7, 17, 18] [.loc 3, .loc 12] (by simp; exact rfl) ⟨i + 1, by omega⟩ (by dsimp only; omega) (by simp [hst])
        | refine ar_go3 _ rfl (by simp [evsL_len, evsL_getE, evL, prs_len, prs_getE, ints_len, ints_getE, intsL_len, intsL_getE, exL, hlt, hd, hw]; exact ⟨rfl, rfl, rfl⟩) rfl ?_
        | refine aw_sregK 4 [1, 3, 7, 17, 18] ?_
        | refine aw_regK 4 [1, 3, 7, 17, 18] ?_
        | refine aw_sregK 5 [1, 3, 7, 17, 18] ?_
        | refine aw_regK 5 [1, 3, 7, 17, 18] ?_
        | refine aw_sregK 6 [1, 3, 7, 8, 17, 18] ?_
        | refine aw_regK 6 [1, 3, 7, 8, 17, 18] ?_
        | refine aw_sregK 7 [1, 3, 7, 8, 9, 17, 18] ?_
        | refine aw_regK 7 [1, 3, 7, 8, 9, 17, 18] ?_
        | refine aw_sregK 8 [1, 3, 7, 8, 9, 17, 18] ?_
        | refine aw_regK 8 [1, 3, 7, 8, 9, 17, 18] ?_
        | refine aw_sregK 9 [1, 3, 7, 17, 18] ?_
        | refine aw_regK 9 [1, 3, 7, 17, 18] ?_
        | refine aw_sreg ?_
        | refine aw_sregD mixed ?_
        | refine aw_ifT (b := true) rfl rfl ?_
        | refine aw_ifF (b := false) rfl rfl ?_
        | refine aw_ifT rfl (by assumption) ?_
        | refine aw_ifF rfl (by assumption) ?_
        | refine aw_ifT rfl (decide_eq_true (by assumption)) ?_
        | refine aw_ifF rfl (decide_eq_false (by assumption)) ?_
        | refine aw_seq ?_
        | refine aw_block ?_
        | refine aw_skip ?_
        | refine aw_region ?_
        | refine aw_region_draw mixed ?_
        | refine aw_exit ?_
        | refine rq_exit ?_
        | refine blockQ_hit ?_
        | refine blockQ_miss (by decide) ?_
        | (refine ar_guard rfl rfl rfl rfl (fun h => ?_) (fun h => ?_) <;> (fail_if_success (cases h; done)) <;> (try simp at h) <;> (try subst h))
        | (refine aw_both rfl (fun h => ?_) (fun h => ?_) <;> (fail_if_success (cases h; done)) <;> (try simp at h) <;> (try subst h)))
    · have hst := memUp_succ (es := es) (co := co) (x := es[a].v) hlt (by unfold memV; rw [hq, if_pos (by omega)]; simp [ha])
      rw [hq] at hL
      generalize memUp es co init i = M at *
      have hiM : i < M.length := by omega
      generalize hx : es[a] = x at *
      have h0a : ¬(a : Int) < 0 := by omega
      have h0a' : (0 : Int) ≤ a := by omega
      repeat' (first
        | refine ar_end rfl ?_
        | refine ar_endD rfl (by kernel_rfl) ?_
        | refine ar_fin rfl ?_
        | refine ar_finD rfl (by kernel_rfl) ?_
        | refine ar_callV Try.call30 hL rfl rfl rfl rfl rfl (by simp; done) (by rfl) (by simp; done) ?_
        | refine ar_callV_if Try.call30 hL rfl rfl rfl rfl rfl rfl (by simp; done) rfl (by rfl) (by simp; done) ?_
        | refine bq_norm ?_
        | refine lq_normN [1, 3, 7, 17, 18] [.loc 3, .loc 12] (by simp; exact rfl) ⟨i + 1, by omega⟩ (by dsimp only; omega) (by simp [hst, ints_set])
        | refine ar_go3 _ rfl (by simp [evsL_len, evsL_getE, evL, prs_len, prs_getE, ints_len, ints_getE, intsL_len, intsL_getE, exL, hlt, hd, hw, ha, hx, hiM, h0a, h0a', ints_set]; exact ⟨rfl, rfl, rfl⟩) rfl ?_
        | refine aw_sregK 4 [1, 3, 7, 17, 18] ?_
        | refine aw_regK 4 [1, 3, 7, 17, 18] ?_
        | refine aw_sregK 5 [1, 3, 7, 17, 18] ?_
        | refine aw_regK 5 [1, 3, 7, 17, 18] ?_
        | refine aw_sregK 6 [1, 3, 7, 8, 17, 18] ?_
        | refine aw_regK 6 [1, 3, 7, 8, 17, 18] ?_
        | refine aw_sregK 7 [1, 3, 7, 8, 9, 17, 18] ?_
        | refine aw_regK 7 [1, 3, 7, 8, 9, 17, 18] ?_
        | refine aw_sregK 8 [1, 3, 7, 8, 9, 17, 18] ?_
        | refine aw_regK 8 [1, 3, 7, 8, 9, 17, 18] ?_
        | refine aw_sregK 9 [1, 3, 7, 17, 18] ?_
        | refine aw_regK 9 [1, 3, 7, 17, 18] ?_
        | refine aw_sreg ?_
        | refine aw_sregD mixed ?_
        | refine aw_ifT (b := true) rfl rfl ?_
        | refine aw_ifF (b := false) rfl rfl ?_
        | refine aw_ifT rfl (by assumption) ?_
        | refine aw_ifF rfl (by assumption) ?_
        | refine aw_ifT rfl (decide_eq_true (by assumption)) ?_
        | refine aw_ifF rfl (decide_eq_false (by assumption)) ?_
        | refine aw_seq ?_
        | refine aw_block ?_
        | refine aw_skip ?_
        | refine aw_region ?_
        | refine aw_region_draw mixed ?_
        | refine aw_exit ?_
        | refine rq_exit ?_
        | refine blockQ_hit ?_
        | refine blockQ_miss (by decide) ?_
        | (refine ar_guard rfl rfl rfl rfl (fun h => ?_) (fun h => ?_) <;> (fail_if_success (cases h; done)) <;> (try simp at h) <;> (try subst h))
        | (refine aw_both rfl (fun h => ?_) (fun h => ?_) <;> (fail_if_success (cases h; done)) <;> (try simp at h) <;> (try subst h)))
  · have hd : ¬(i : Int) < (init.length : Int) := by omega
    have hie : i = init.length := by omega
    subst hie
    rw [memUp_end]
    refine aw_frz (.loc 12) (by simp; exact rfl) ?_
    repeat' (first
      | exact aw_ret (ret_vals (by simp; exact rfl) (by simp [*]; fail_if_success (show _)))
      | exact aw_ret (ret_vals (by simp; exact rfl) (by simp [*]; omega))
      | refine ar_end rfl ?_
      | refine ar_endD rfl (by kernel_rfl) ?_
      | refine ar_fin rfl ?_
      | refine ar_finD rfl (by kernel_rfl) ?_
      | refine lq_exit ?_
      | refine ar_go3 _ rfl (by simp [ints_len, ints_getE, intsL_len, intsL_getE, hd]; exact ⟨rfl, rfl, rfl⟩) rfl ?_
      | refine aw_sregK 4 [1, 3, 7, 17, 18] ?_
      | refine aw_regK 4 [1, 3, 7, 17, 18] ?_
      | refine aw_sregK 10 [7] ?_
      | refine aw_regK 10 [7] ?_
      | refine aw_sreg ?_
      | refine aw_sregD mixed ?_
      | refine aw_ifT (b := true) rfl rfl ?_
      | refine aw_ifF (b := false) rfl rfl ?_
      | refine aw_ifT rfl (by assumption) ?_
      | refine aw_ifF rfl (by assumption) ?_
      | refine aw_ifT rfl (decide_eq_true (by assumption)) ?_
      | refine aw_ifF rfl (decide_eq_false (by assumption)) ?_
      | refine aw_seq ?_
      | refine aw_block ?_
      | refine aw_skip ?_
      | refine aw_region ?_
      | refine aw_region_draw mixed ?_
      | refine aw_exit ?_
      | refine rq_exit ?_
      | refine blockQ_hit ?_
      | refine blockQ_miss (by decide) ?_
      | (refine ar_guard rfl rfl rfl rfl (fun h => ?_) (fun h => ?_) <;> (fail_if_success (cases h; done)) <;> (try simp at h) <;> (try subst h))
      | (refine aw_both rfl (fun h => ?_) (fun h => ?_) <;> (fail_if_success (cases h; done)) <;> (try simp at h) <;> (try subst h)))
end Go.Eng
