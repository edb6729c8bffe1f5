import Derived.Test.YtjijfghchcnbnaaDoorCondA
import Derived.Test.YtjijfghchcnbnaaDoorCondC
import Derived.Test.YtjijfghchcnbnaaDoorEngD
set_option linter.unusedSimpArgs false
set_option linter.unusedVariables false
set_option linter.constructorNameAsVariable false
set_option autoImplicit false
namespace Go.Eng
open Go Go.RowKit Go.Proofs
/-! ## Which is lower -/
def cmpI (x y : Int) : Int := if x < y then -1 else if y < x then 1 else 0
def byF {α : Type} (f : α → α → Int) : List α → List α → Int
  | x :: a, y :: b => if f x y = 0 then byF f a b else f x y
  | a, b => cmpI a.length b.length
def numsF (a b : List Int) : Int := byF cmpI a b
def cmpF (a b : Ou) : Int := if byF numsF a.rg b.rg = 0 then numsF a.mem b.mem else byF numsF a.rg b.rg
structure OrdF {α : Type} (f : α → α → Int) : Prop where
  neg : ∀ x y, f x y = -f y x
  eq : ∀ x y, f x y = 0 → x = y
  tr : ∀ x y z, f x y < 0 → f y z < 0 → f x z < 0
  rng : ∀ x y, -1 ≤ f x y ∧ f x y ≤ 1
theorem OrdF.refl {α : Type} {f : α → α → Int} (h : OrdF f) (x : α) : f x x = 0 := by have := h.neg x x; omega
theorem cmpI_ord : OrdF cmpI where
  neg x y := by unfold cmpI; (repeat' split) <;> omega
  eq x y h := by unfold cmpI at h; revert h; (repeat' split) <;> omega
  tr x y z h1 h2 := by unfold cmpI at *; revert h1 h2; (repeat' split) <;> omega
  rng x y := by unfold cmpI; (repeat' split) <;> omega
theorem by_nil {α : Type} (f : α → α → Int) (b : List α) : byF f [] b = cmpI 0 b.length := by cases b <;> rfl
theorem by_nil' {α : Type} (f : α → α → Int) (a : List α) : byF f a [] = cmpI a.length 0 := by cases a <;> rfl
theorem by_cons {α : Type} (f : α → α → Int) (x y : α) (a b : List α) : byF f (x :: a) (y :: b) = if f x y = 0 then byF f a b else f x y := rfl
theorem cmpI_pos (n : Nat) : cmpI ((n + 1 : Nat) : Int) 0 = 1 := by unfold cmpI; rw [if_neg (by omega), if_pos (by omega)]
theorem cmpI_neg (n : Nat) : cmpI 0 ((n + 1 : Nat) : Int) = -1 := by unfold cmpI; rw [if_pos (by omega)]
theorem by_ord {α : Type} {f : α → α → Int} (h : OrdF f) : OrdF (byF f) where
  neg := by
    intro a
    induction a with
    | nil => intro b; rw [by_nil, by_nil']; exact cmpI_ord.neg _ _
    | cons x a ih =>
      intro b
      cases b with
      | nil => rw [by_nil, by_nil']; exact cmpI_ord.neg _ _
      | cons y b =>
        rw [by_cons, by_cons]
        have := h.neg x y
        by_cases e : f x y = 0
        · rw [if_pos e, if_pos (by omega)]; exact ih b
        · rw [if_neg e, if_neg (by omega)]; exact this
  eq := by
    intro a
    induction a with
    | nil =>
      intro b hb
      rw [by_nil] at hb
      have := cmpI_ord.eq _ _ hb
      exact (List.eq_nil_of_length_eq_zero (by omega)).symm
    | cons x a ih =>
      intro b hb
      cases b with
      | nil => rw [by_nil'] at hb; have := cmpI_ord.eq _ _ hb; rw [List.length_cons] at this; omega
      | cons y b =>
        rw [by_cons] at hb
        by_cases e : f x y = 0
        · rw [if_pos e] at hb; rw [h.eq _ _ e, ih b hb]
        · rw [if_neg e] at hb; exact absurd hb e
  tr := by
    intro a
    induction a with
    | nil =>
      intro b c h1 h2
      cases b with
      | nil => rw [by_nil] at h1; have e : cmpI 0 (([] : List α).length : Int) = 0 := rfl; omega
      | cons y b =>
        cases c with
        | nil => rw [by_nil', List.length_cons, cmpI_pos] at h2; omega
        | cons z c => rw [by_nil, List.length_cons, cmpI_neg]; omega
    | cons x a ih =>
      intro b c h1 h2
      cases b with
      | nil => rw [by_nil', List.length_cons, cmpI_pos] at h1; omega
      | cons y b =>
        cases c with
        | nil => rw [by_nil', List.length_cons, cmpI_pos] at h2; omega
        | cons z c =>
          rw [by_cons] at h1 h2 ⊢
          by_cases e1 : f x y = 0
          · have := h.eq _ _ e1
            subst this
            rw [if_pos e1] at h1
            by_cases e2 : f x z = 0
            · rw [if_pos e2] at h2 ⊢; exact ih b c h1 h2
            · rw [if_neg e2] at h2 ⊢; exact h2
          · rw [if_neg e1] at h1
            by_cases e2 : f y z = 0
            · have := h.eq _ _ e2
              subst this
              rw [if_neg e1]; exact h1
            · rw [if_neg e2] at h2
              have := h.tr _ _ _ h1 h2
              rw [if_neg (by omega)]; exact this
  rng := by
    intro a
    induction a with
    | nil => intro b; rw [by_nil]; exact cmpI_ord.rng _ _
    | cons x a ih =>
      intro b
      cases b with
      | nil => rw [by_nil']; exact cmpI_ord.rng _ _
      | cons y b =>
        rw [by_cons]
        split
        · exact ih b
        · exact h.rng _ _
theorem nums_ord : OrdF numsF := by_ord cmpI_ord
theorem cmp_ord : OrdF cmpF := by
  have hr := by_ord nums_ord
  have hm := nums_ord
  refine ⟨fun x y => ?_, fun x y e => ?_, fun x y z h1 h2 => ?_, fun x y => ?_⟩
  · unfold cmpF
    have h1 := hr.neg x.rg y.rg
    by_cases e : byF numsF x.rg y.rg = 0
    · rw [if_pos e, if_pos (by omega)]; exact hm.neg _ _
    · rw [if_neg e, if_neg (by omega)]; exact h1
  · unfold cmpF at e
    by_cases h : byF numsF x.rg y.rg = 0
    · rw [if_pos h] at e
      obtain ⟨r, m⟩ := x
      obtain ⟨r', m'⟩ := y
      have h1 := hr.eq _ _ h
      have h2 := hm.eq _ _ e
      simp only at h1 h2
      rw [h1, h2]
    · rw [if_neg h] at e; exact absurd e h
  · unfold cmpF at *
    by_cases e1 : byF numsF x.rg y.rg = 0
    · have q := hr.eq _ _ e1
      rw [if_pos e1] at h1
      rw [q]
      by_cases e2 : byF numsF y.rg z.rg = 0
      · rw [if_pos e2] at h2 ⊢; exact hm.tr _ _ _ h1 h2
      · rw [if_neg e2] at h2 ⊢; exact h2
    · rw [if_neg e1] at h1
      by_cases e2 : byF numsF y.rg z.rg = 0
      · have q := hr.eq _ _ e2
        rw [← q, if_neg e1]; exact h1
      · rw [if_neg e2] at h2
        have := hr.tr _ _ _ h1 h2
        rw [if_neg (by omega)]; exact this
  · unfold cmpF
    split
    · exact hm.rng _ _
    · exact hr.rng _ _
theorem by_end {α : Type} {f : α → α → Int} {a b : List α} {i : Nat} (hi : i ≤ a.length) (hj : i ≤ b.length) (h : i = a.length ∨ i = b.length) : byF f (a.drop i) (b.drop i) = cmpI a.length b.length := by
  have hc : cmpI ((a.drop i).length : Int) ((b.drop i).length : Int) = cmpI a.length b.length := by
    rw [List.length_drop, List.length_drop]
    unfold cmpI
    have e1 : ((a.length - i : Nat) : Int) < ((b.length - i : Nat) : Int) ↔ (a.length : Int) < (b.length : Int) := by omega
    have e2 : ((b.length - i : Nat) : Int) < ((a.length - i : Nat) : Int) ↔ (b.length : Int) < (a.length : Int) := by omega
    simp only [e1, e2]
  rw [← hc]
  rcases h with h | h
  · have e : a.drop i = [] := List.drop_eq_nil_of_le (by omega)
    rw [e]; exact by_nil _ _
  · have e : b.drop i = [] := List.drop_eq_nil_of_le (by omega)
    rw [e]; exact by_nil' _ _
theorem by_at {α : Type} {f : α → α → Int} {a b : List α} {i : Nat} (hi : i < a.length) (hj : i < b.length) : byF f (a.drop i) (b.drop i) = if f a[i] b[i] = 0 then byF f (a.drop (i + 1)) (b.drop (i + 1)) else f a[i] b[i] := by
  rw [List.drop_eq_getElem_cons hi, List.drop_eq_getElem_cons hj, by_cons]
/-! ## Sets -/
def AscO (l : List Ou) : Prop := l.Pairwise fun a b => cmpF a b < 0
def putO : List Ou → Ou → List Ou
  | [], o => [o]
  | x :: l, o => if cmpF x o < 0 then x :: putO l o else if cmpF x o = 0 then x :: l else o :: x :: l
def setO (l : List Ou) : List Ou := l.foldl putO []
theorem putO_mem (l : List Ou) (o y : Ou) : y ∈ putO l o ↔ y ∈ l ∨ y = o := by
  induction l with
  | nil => simp [putO]
  | cons x l ih =>
    unfold putO
    split
    · rw [List.mem_cons, ih, List.mem_cons, or_assoc]
    · split
      · rename_i h
        have := cmp_ord.eq _ _ h
        subst this
        simp only [List.mem_cons]
        constructor
        · exact .inl
        · rintro (h | rfl)
          · exact h
          · exact .inl rfl
      · simp only [List.mem_cons]
        constructor
        · rintro (h | h)
          · exact .inr h
          · exact .inl h
        · rintro (h | h)
          · exact .inr h
          · exact .inl h
theorem putO_asc {l : List Ou} (h : AscO l) (o : Ou) : AscO (putO l o) := by
  induction l with
  | nil => exact List.pairwise_singleton _ _
  | cons x l ih =>
    obtain ⟨h1, h2⟩ := List.pairwise_cons.1 h
    unfold putO
    split
    · rename_i hx
      refine List.pairwise_cons.2 ⟨fun y hy => ?_, ih h2⟩
      rcases (putO_mem l o y).1 hy with hy | rfl
      · exact h1 y hy
      · exact hx
    · split
      · exact h
      · rename_i hn hz
        have hox : cmpF o x < 0 := by have := cmp_ord.neg o x; omega
        refine List.pairwise_cons.2 ⟨fun y hy => ?_, h⟩
        rcases List.mem_cons.1 hy with rfl | hy
        · exact hox
        · exact cmp_ord.tr _ _ _ hox (h1 y hy)
theorem putO_len (l : List Ou) (o : Ou) : (putO l o).length ≤ l.length + 1 := by
  induction l with
  | nil => simp [putO]
  | cons x l ih =>
    unfold putO
    split
    · simp only [List.length_cons]; omega
    · split <;> simp
theorem foldl_asc (l : List Ou) : ∀ s, AscO s → AscO (l.foldl putO s) := by
  induction l with
  | nil => exact fun s h => h
  | cons x l ih => exact fun s h => ih _ (putO_asc h x)
theorem foldl_mem (l : List Ou) (y : Ou) : ∀ s, y ∈ l.foldl putO s ↔ y ∈ s ∨ y ∈ l := by
  induction l with
  | nil => intro s; simp
  | cons x l ih =>
    intro s
    rw [List.foldl_cons, ih, putO_mem, List.mem_cons, or_assoc]
theorem setO_asc (l : List Ou) : AscO (setO l) := foldl_asc l [] List.Pairwise.nil
theorem setO_mem (l : List Ou) (y : Ou) : y ∈ setO l ↔ y ∈ l := by unfold setO; rw [foldl_mem]; simp
theorem ascO_ext {a b : List Ou} (ha : AscO a) (hb : AscO b) (h : ∀ y, y ∈ a ↔ y ∈ b) : a = b := by
  induction a generalizing b with
  | nil =>
    cases b with
    | nil => rfl
    | cons y b => exact absurd ((h y).2 (by simp)) (by simp)
  | cons x a ih =>
    cases b with
    | nil => exact absurd ((h x).1 (by simp)) (by simp)
    | cons y b =>
      obtain ⟨a1, a2⟩ := List.pairwise_cons.1 ha
      obtain ⟨b1, b2⟩ := List.pairwise_cons.1 hb
      have e : x = y := by
        rcases List.mem_cons.1 ((h x).1 (by simp)) with e | hx
        · exact e
        · rcases List.mem_cons.1 ((h y).2 (by simp)) with e | hy
          · exact e.symm
          · have h1 := a1 y hy
            have h2 := b1 x hx
            have h3 := cmp_ord.neg x y
            omega
      subst e
      rw [ih a2 b2]
      intro z
      constructor
      · intro hz
        rcases List.mem_cons.1 ((h z).1 (by simp [hz])) with rfl | h1
        · have := a1 z hz; have := cmp_ord.refl z; omega
        · exact h1
      · intro hz
        rcases List.mem_cons.1 ((h z).2 (by simp [hz])) with rfl | h1
        · have := b1 z hz; have := cmp_ord.refl z; omega
        · exact h1
theorem setO_set {a b : List Ou} (h : ∀ y, y ∈ a ↔ y ∈ b) : setO a = setO b :=
  ascO_ext (setO_asc a) (setO_asc b) fun y => by rw [setO_mem, setO_mem]; exact h y
theorem setO_self {l : List Ou} (h : AscO l) : setO l = l := ascO_ext (setO_asc l) h fun y => setO_mem l y
/-- Where one is put. -/
theorem put_at {o : Ou} : ∀ {l : List Ou} {k : Nat}, (hk : k ≤ l.length) → (∀ j, (h : j < k) → cmpF (l[j]'(by omega)) o < 0) → (∀ h : k < l.length, ¬cmpF l[k] o < 0) →
    putO l o = if h : k < l.length then (if cmpF l[k] o = 0 then l else l.take k ++ o :: l.drop k) else l ++ [o]
  | [], k, hk, _, _ => by rw [dif_neg (by simp at hk ⊢)]; rfl
  | x :: l, 0, hk, _, h2 => by
    have h3 := h2 (by simp)
    have h4 : ¬cmpF x o < 0 := h3
    rw [putO, if_neg h4, dif_pos (by simp)]
    rfl
  | x :: l, k + 1, hk, h1, h2 => by
    have hx : cmpF x o < 0 := h1 0 (by omega)
    have ih := put_at (o := o) (l := l) (k := k) (by simpa using hk) (fun j hj => h1 (j + 1) (by omega)) (fun h => h2 (by simpa using h))
    rw [putO, if_pos hx, ih]
    by_cases hlt : k < l.length
    · rw [dif_pos hlt, dif_pos (by simpa using hlt)]
      show _ = if cmpF l[k] o = 0 then _ else _
      split <;> rfl
    · rw [dif_neg hlt, dif_neg (by simpa using hlt)]; rfl
/-! ## Each once -/
/-- What is left of a list that doesn't fall, if each that is as the one ahead goes. -/
def compO : List Ou → List Ou
  | [] => []
  | x :: l => x :: (compO l).filter fun y => !decide (cmpF y x = 0)
end Go.Eng
set_option linter.unusedSimpArgs false
set_option linter.unusedVariables false
set_option linter.constructorNameAsVariable false
set_option autoImplicit false
namespace Go.Eng
open Go Go.RowKit Go.Proofs
set_option maxHeartbeats 16000000 in
theorem c_isNaN [Trk] {x : Int} : SC Tryd.prog 58 [I .i64 x] (B false) := by
  refine scx_of Tryd.func58 rfl rfl rfl (Nat.le_of_ble_eq_true rfl) ?_
  repeat' (first
    | exact aw_ret (ret_vals (by simp; exact rfl) (by simp [*]; fail_if_success (show _)))
    | exact aw_ret (ret_vals (by simp; exact rfl) (by simp [*]; omega))
    | refine ar_end rfl ?_
    | refine ar_endD rfl (by kernel_rfl) ?_
    | refine ar_fin rfl ?_
    | refine ar_finD rfl (by kernel_rfl) ?_
    | refine ar_go3 _ rfl (by simp []; exact ⟨rfl, rfl, rfl⟩) rfl ?_
    | refine aw_sregK 0 [0] ?_
    | refine aw_regK 0 [0] ?_
    | refine aw_sregK 1 [0] ?_
    | refine aw_regK 1 [0] ?_
    | refine aw_sreg ?_
    | refine aw_sregD mixed ?_
    | refine aw_ifT (b := true) rfl rfl ?_
    | refine aw_ifF (b := false) rfl rfl ?_
    | refine aw_ifT rfl (by assumption) ?_
    | refine aw_ifF rfl (by assumption) ?_
    | refine aw_ifT rfl (decide_eq_true (by assumption)) ?_
    | refine aw_ifF rfl (decide_eq_false (by assumption)) ?_
    | refine aw_seq ?_
    | refine aw_block ?_
    | refine aw_skip ?_
    | refine aw_region ?_
    | refine aw_region_draw mixed ?_
    | refine aw_exit ?_
    | refine rq_exit ?_
    | refine blockQ_hit ?_
    | refine blockQ_miss (by decide) ?_
    | (refine ar_guard rfl rfl rfl rfl (fun h => ?_) (fun h => ?_) <;> (fail_if_success (cases h; done)) <;> (try simp at h) <;> (try subst h))
    | (refine aw_both rfl (fun h => ?_) (fun h => ?_) <;> (fail_if_success (cases h; done)) <;> (try simp at h) <;> (try subst h)))
set_option maxHeartbeats 16000000 in
theorem c_cmp [Trk] {x y : Int} : SC Tryd.prog 38 [I .i64 x, I .i64 y] (I .i64 (cmpI x y)) := by
  have h1 := c_isNaN (x := x)
  have h2 := c_isNaN (x := y)
  unfold cmpI
  by_cases hl : x < y
  · rw [if_pos hl]
    refine scx_of Tryd.func38 rfl rfl rfl (Nat.le_of_ble_eq_true rfl) ?_
    repeat' (first
      | exact aw_ret (ret_vals (by simp; exact rfl) (by simp [*]; fail_if_success (show _)))
      | exact aw_ret (ret_vals (by simp; exact rfl) (by simp [*]; omega))
      | refine ar_end rfl ?_
      | refine ar_endD rfl (by kernel_rfl) ?_
      | refine ar_fin rfl ?_
      | refine ar_finD rfl (by kernel_rfl) ?_
      | refine ar_callV Tryd.call58 h1 rfl rfl rfl rfl rfl (by simp; done) (by rfl) (by simp; done) ?_
      | refine ar_callV_if Tryd.call58 h1 rfl rfl rfl rfl rfl rfl (by simp; done) rfl (by rfl) (by simp; done) ?_
      | refine ar_callV Tryd.call58 h2 rfl rfl rfl rfl rfl (by simp; done) (by rfl) (by simp; done) ?_
      | refine ar_callV_if Tryd.call58 h2 rfl rfl rfl rfl rfl rfl (by simp; done) rfl (by rfl) (by simp; done) ?_
      | refine ar_go3 _ rfl (by simp [hl]; exact ⟨rfl, rfl, rfl⟩) rfl ?_
      | refine aw_sregK 0 [0, 1] ?_
      | refine aw_regK 0 [0, 1] ?_
      | refine aw_sregK 1 [0, 1] ?_
      | refine aw_regK 1 [0, 1] ?_
      | refine aw_sregK 2 [0, 1, 5] ?_
      | refine aw_regK 2 [0, 1, 5] ?_
      | refine aw_sregK 3 [0, 1, 5, 6] ?_
      | refine aw_regK 3 [0, 1, 5, 6] ?_
      | refine aw_sregK 4 [6] ?_
      | refine aw_regK 4 [6] ?_
      | refine aw_sregK 5 [] ?_
      | refine aw_regK 5 [] ?_
      | refine aw_sregK 6 [] ?_
      | refine aw_regK 6 [] ?_
      | refine aw_sregK 7 [0, 1, 6] ?_
      | refine aw_regK 7 [0, 1, 6] ?_
      | refine aw_sregK 8 [] ?_
      | refine aw_regK 8 [] ?_
      | refine aw_sregK 9 [0, 1] ?_
      | refine aw_regK 9 [0, 1] ?_
      | refine aw_sregK 10 [] ?_
      | refine aw_regK 10 [] ?_
      | refine aw_sregK 11 [0, 1] ?_
      | refine aw_regK 11 [0, 1] ?_
      | refine aw_sregK 12 [] ?_
      | refine aw_regK 12 [] ?_
      | refine aw_sregK 13 [] ?_
      | refine aw_regK 13 [] ?_
      | refine aw_sreg ?_
      | refine aw_sregD mixed ?_
      | refine aw_ifT (b := true) rfl rfl ?_
      | refine aw_ifF (b := false) rfl rfl ?_
      | refine aw_ifT rfl (by assumption) ?_
      | refine aw_ifF rfl (by assumption) ?_
      | refine aw_ifT rfl (decide_eq_true (by assumption)) ?_
      | refine aw_ifF rfl (decide_eq_false (by assumption)) ?_
      | refine aw_seq ?_
      | refine aw_block ?_
      | refine aw_skip ?_
      | refine aw_region ?_
      | refine aw_region_draw mixed ?_
      | refine aw_exit ?_
      | refine rq_exit ?_
      | refine blockQ_hit ?_
      | refine blockQ_miss (by decide) ?_)
  rw [if_neg hl]
  by_cases hg : y < x
  · rw [if_pos hg]
    refine scx_of Tryd.func38 rfl rfl rfl (Nat.le_of_ble_eq_true rfl) ?_
    repeat' (first
      | exact aw_ret (ret_vals (by simp; exact rfl) (by simp [*]; fail_if_success (show _)))
      | exact aw_ret (ret_vals (by simp; exact rfl) (by simp [*]; omega))
      | refine ar_end rfl ?_
      | refine ar_endD rfl (by kernel_rfl) ?_
      | refine ar_fin rfl ?_
      | refine ar_finD rfl (by kernel_rfl) ?_
      | refine ar_callV Tryd.call58 h1 rfl rfl rfl rfl rfl (by simp; done) (by rfl) (by simp; done) ?_
      | refine ar_callV_if Tryd.call58 h1 rfl rfl rfl rfl rfl rfl (by simp; done) rfl (by rfl) (by simp; done) ?_
      | refine ar_callV Tryd.call58 h2 rfl rfl rfl rfl rfl (by simp; done) (by rfl) (by simp; done) ?_
      | refine ar_callV_if Tryd.call58 h2 rfl rfl rfl rfl rfl rfl (by simp; done) rfl (by rfl) (by simp; done) ?_
      | refine ar_go3 _ rfl (by simp [hl, hg]; exact ⟨rfl, rfl, rfl⟩) rfl ?_
      | refine aw_sregK 0 [0, 1] ?_
      | refine aw_regK 0 [0, 1] ?_
      | refine aw_sregK 1 [0, 1] ?_
      | refine aw_regK 1 [0, 1] ?_
      | refine aw_sregK 2 [0, 1, 5] ?_
      | refine aw_regK 2 [0, 1, 5] ?_
      | refine aw_sregK 3 [0, 1, 5, 6] ?_
      | refine aw_regK 3 [0, 1, 5, 6] ?_
      | refine aw_sregK 4 [6] ?_
      | refine aw_regK 4 [6] ?_
      | refine aw_sregK 5 [] ?_
      | refine aw_regK 5 [] ?_
      | refine aw_sregK 6 [] ?_
      | refine aw_regK 6 [] ?_
      | refine aw_sregK 7 [0, 1, 6] ?_
      | refine aw_regK 7 [0, 1, 6] ?_
      | refine aw_sregK 8 [] ?_
      | refine aw_regK 8 [] ?_
      | refine aw_sregK 9 [0, 1] ?_
      | refine aw_regK 9 [0, 1] ?_
      | refine aw_sregK 10 [] ?_
      | refine aw_regK 10 [] ?_
      | refine aw_sregK 11 [0, 1] ?_
      | refine aw_regK 11 [0, 1] ?_
      | refine aw_sregK 12 [] ?_
      | refine aw_regK 12 [] ?_
      | refine aw_sregK 13 [] ?_
      | refine aw_regK 13 [] ?_
      | refine aw_sreg ?_
      | refine aw_sregD mixed ?_
      | refine aw_ifT (b := true) rfl rfl ?_
      | refine aw_ifF (b := false) rfl rfl ?_
      | refine aw_ifT rfl (by assumption) ?_
      | refine aw_ifF rfl (by assumption) ?_
      | refine aw_ifT rfl (decide_eq_true (by assumption)) ?_
      | refine aw_ifF rfl (decide_eq_false (by assumption)) ?_
      | refine aw_seq ?_
      | refine aw_block ?_
      | refine aw_skip ?_
      | refine aw_region ?_
      | refine aw_region_draw mixed ?_
      | refine aw_exit ?_
      | refine rq_exit ?_
      | refine blockQ_hit ?_
      | refine blockQ_miss (by decide) ?_)
  · rw [if_neg hg]
    refine scx_of Tryd.func38 rfl rfl rfl (Nat.le_of_ble_eq_true rfl) ?_
    repeat' (first
      | exact aw_ret (ret_vals (by simp; exact rfl) (by simp [*]; fail_if_success (show _)))
      | exact aw_ret (ret_vals (by simp; exact rfl) (by simp [*]; omega))
      | refine ar_end rfl ?_
      | refine ar_endD rfl (by kernel_rfl) ?_
      | refine ar_fin rfl ?_
      | refine ar_finD rfl (by kernel_rfl) ?_
      | refine ar_callV Tryd.call58 h1 rfl rfl rfl rfl rfl (by simp; done) (by rfl) (by simp; done) ?_
      | refine ar_callV_if Tryd.call58 h1 rfl rfl rfl rfl rfl rfl (by simp; done) rfl (by rfl) (by simp; done) ?_
      | refine ar_callV Tryd.call58 h2 rfl rfl rfl rfl rfl (by simp; done) (by rfl) (by simp; done) ?_
      | refine ar_callV_if Tryd.call58 h2 rfl rfl rfl rfl rfl rfl (by simp; done) rfl (by rfl) (by simp; done) ?_
      | refine ar_go3 _ rfl (by simp [hl, hg]; exact ⟨rfl, rfl, rfl⟩) rfl ?_
      | refine aw_sregK 0 [0, 1] ?_
      | refine aw_regK 0 [0, 1] ?_
      | refine aw_sregK 1 [0, 1] ?_
      | refine aw_regK 1 [0, 1] ?_
      | refine aw_sregK 2 [0, 1, 5] ?_
      | refine aw_regK 2 [0, 1, 5] ?_
      | refine aw_sregK 3 [0, 1, 5, 6] ?_
      | refine aw_regK 3 [0, 1, 5, 6] ?_
      | refine aw_sregK 4 [6] ?_
      | refine aw_regK 4 [6] ?_
      | refine aw_sregK 5 [] ?_
      | refine aw_regK 5 [] ?_
      | refine aw_sregK 6 [] ?_
      | refine aw_regK 6 [] ?_
      | refine aw_sregK 7 [0, 1, 6] ?_
      | refine aw_regK 7 [0, 1, 6] ?_
      | refine aw_sregK 8 [] ?_
      | refine aw_regK 8 [] ?_
      | refine aw_sregK 9 [0, 1] ?_
      | refine aw_regK 9 [0, 1] ?_
      | refine aw_sregK 10 [] ?_
      | refine aw_regK 10 [] ?_
      | refine aw_sregK 11 [0, 1] ?_
      | refine aw_regK 11 [0, 1] ?_
      | refine aw_sregK 12 [] ?_
      | refine aw_regK 12 [] ?_
      | refine aw_sregK 13 [] ?_
      | refine aw_regK 13 [] ?_
      | refine aw_sreg ?_
      | refine aw_sregD mixed ?_
      | refine aw_ifT (b := true) rfl rfl ?_
      | refine aw_ifF (b := false) rfl rfl ?_
      | refine aw_ifT rfl (by assumption) ?_
      | refine aw_ifF rfl (by assumption) ?_
      | refine aw_ifT rfl (decide_eq_true (by assumption)) ?_
      | refine aw_ifF rfl (decide_eq_false (by assumption)) ?_
      | refine aw_seq ?_
      | refine aw_block ?_
      | refine aw_skip ?_
      | refine aw_region ?_
      | refine aw_region_draw mixed ?_
      | refine aw_exit ?_
      | refine rq_exit ?_
      | refine blockQ_hit ?_
      | refine blockQ_miss (by decide) ?_)
set_option maxHeartbeats 16000000 in
theorem c_isNaNI [Trk] {x : Int} : SC Tryd.prog 66 [I .i64 x] (B false) := by
  refine scx_of Tryd.func66 rfl rfl rfl (Nat.le_of_ble_eq_true rfl) ?_
  repeat' (first
    | exact aw_ret (ret_vals (by simp; exact rfl) (by simp [*]; fail_if_success (show _)))
    | exact aw_ret (ret_vals (by simp; exact rfl) (by simp [*]; omega))
    | refine ar_end rfl ?_
    | refine ar_endD rfl (by kernel_rfl) ?_
    | refine ar_fin rfl ?_
    | refine ar_finD rfl (by kernel_rfl) ?_
    | refine ar_go3 _ rfl (by simp []; exact ⟨rfl, rfl, rfl⟩) rfl ?_
    | refine aw_sregK 0 [0] ?_
    | refine aw_regK 0 [0] ?_
    | refine aw_sregK 1 [0] ?_
    | refine aw_regK 1 [0] ?_
    | refine aw_sreg ?_
    | refine aw_sregD mixed ?_
    | refine aw_ifT (b := true) rfl rfl ?_
    | refine aw_ifF (b := false) rfl rfl ?_
    | refine aw_ifT rfl (by assumption) ?_
    | refine aw_ifF rfl (by assumption) ?_
    | refine aw_ifT rfl (decide_eq_true (by assumption)) ?_
    | refine aw_ifF rfl (decide_eq_false (by assumption)) ?_
    | refine aw_seq ?_
    | refine aw_block ?_
    | refine aw_skip ?_
    | refine aw_region ?_
    | refine aw_region_draw mixed ?_
    | refine aw_exit ?_
    | refine rq_exit ?_
    | refine blockQ_hit ?_
    | refine blockQ_miss (by decide) ?_
    | (refine ar_guard rfl rfl rfl rfl (fun h => ?_) (fun h => ?_) <;> (fail_if_success (cases h; done)) <;> (try simp at h) <;> (try subst h))
    | (refine aw_both rfl (fun h => ?_) (fun h => ?_) <;> (fail_if_success (cases h; done)) <;> (try simp at h) <;> (try subst h)))
set_option maxHeartbeats 16000000 in
theorem c_cmpI [Trk] {x y : Int} : SC Tryd.prog 57 [I .i64 x, I .i64 y] (I .i64 (cmpI x y)) := by
  have h1 := c_isNaNI (x := x)
  have h2 := c_isNaNI (x := y)
  unfold cmpI
  by_cases hl : x < y
  · rw [if_pos hl]
    refine scx_of Tryd.func57 rfl rfl rfl (Nat.le_of_ble_eq_true rfl) ?_
    repeat' (first
      | exact aw_ret (ret_vals (by simp; exact rfl) (by simp [*]; fail_if_success (show _)))
      | exact aw_ret (ret_vals (by simp; exact rfl) (by simp [*]; omega))
      | refine ar_end rfl ?_
      | refine ar_endD rfl (by kernel_rfl) ?_
      | refine ar_fin rfl ?_
      | refine ar_finD rfl (by kernel_rfl) ?_
      | refine ar_callV Tryd.call66 h1 rfl rfl rfl rfl rfl (by simp; done) (by rfl) (by simp; done) ?_
      | refine ar_callV_if Tryd.call66 h1 rfl rfl rfl rfl rfl rfl (by simp; done) rfl (by rfl) (by simp; done) ?_
      | refine ar_callV Tryd.call66 h2 rfl rfl rfl rfl rfl (by simp; done) (by rfl) (by simp; done) ?_
      | refine ar_callV_if Tryd.call66 h2 rfl rfl rfl rfl rfl rfl (by simp; done) rfl (by rfl) (by simp; done) ?_
      | refine ar_go3 _ rfl (by simp [hl]; exact ⟨rfl, rfl, rfl⟩) rfl ?_
      | refine aw_sregK 0 [0, 1] ?_
      | refine aw_regK 0 [0, 1] ?_
      | refine aw_sregK 1 [0, 1] ?_
      | refine aw_regK 1 [0, 1] ?_
      | refine aw_sregK 2 [0, 1, 5] ?_
      | refine aw_regK 2 [0, 1, 5] ?_
      | refine aw_sregK 3 [0, 1, 5, 6] ?_
      | refine aw_regK 3 [0, 1, 5, 6] ?_
      | refine aw_sregK 4 [6] ?_
      | refine aw_regK 4 [6] ?_
      | refine aw_sregK 5 [] ?_
      | refine aw_regK 5 [] ?_
      | refine aw_sregK 6 [] ?_
      | refine aw_regK 6 [] ?_
      | refine aw_sregK 7 [0, 1, 6] ?_
      | refine aw_regK 7 [0, 1, 6] ?_
      | refine aw_sregK 8 [] ?_
      | refine aw_regK 8 [] ?_
      | refine aw_sregK 9 [0, 1] ?_
      | refine aw_regK 9 [0, 1] ?_
      | refine aw_sregK 10 [] ?_
      | refine aw_regK 10 [] ?_
      | refine aw_sregK 11 [0, 1] ?_
      | refine aw_regK 11 [0, 1] ?_
      | refine aw_sregK 12 [] ?_
      | refine aw_regK 12 [] ?_
      | refine aw_sregK 13 [] ?_
      | refine aw_regK 13 [] ?_
      | refine aw_sreg ?_
      | refine aw_sregD mixed ?_
      | refine aw_ifT (b := true) rfl rfl ?_
      | refine aw_ifF (b := false) rfl rfl ?_
      | refine aw_ifT rfl (by assumption) ?_
      | refine aw_ifF rfl (by assumption) ?_
      | refine aw_ifT rfl (decide_eq_true (by assumption)) ?_
      | refine aw_ifF rfl (decide_eq_false (by assumption)) ?_
      | refine aw_seq ?_
      | refine aw_block ?_
      | refine aw_skip ?_
      | refine aw_region ?_
      | refine aw_region_draw mixed ?_
      | refine aw_exit ?_
      | refine rq_exit ?_
      | refine blockQ_hit ?_
      | refine blockQ_miss (by decide) ?_)
  rw [if_neg hl]
  by_cases hg : y < x
  · rw [if_pos hg]
    refine scx_of Tryd.func57 rfl rfl rfl (Nat.le_of_ble_eq_true rfl) ?_
    repeat' (first
      | exact aw_ret (ret_vals (by simp; exact rfl) (by simp [*]; fail_if_success (show _)))
      | exact aw_ret (ret_vals (by simp; exact rfl) (by simp [*]; omega))
      | refine ar_end rfl ?_
      | refine ar_endD rfl (by kernel_rfl) ?_
      | refine ar_fin rfl ?_
      | refine ar_finD rfl (by kernel_rfl) ?_
      | refine ar_callV Tryd.call66 h1 rfl rfl rfl rfl rfl (by simp; done) (by rfl) (by simp; done) ?_
      | refine ar_callV_if Tryd.call66 h1 rfl rfl rfl rfl rfl rfl (by simp; done) rfl (by rfl) (by simp; done) ?_
      | refine ar_callV Tryd.call66 h2 rfl rfl rfl rfl rfl (by simp; done) (by rfl) (by simp; done) ?_
      | refine ar_callV_if Tryd.call66 h2 rfl rfl rfl rfl rfl rfl (by simp; done) rfl (by rfl) (by simp; done) ?_
      | refine ar_go3 _ rfl (by simp [hl, hg]; exact ⟨rfl, rfl, rfl⟩) rfl ?_
      | refine aw_sregK 0 [0, 1] ?_
      | refine aw_regK 0 [0, 1] ?_
      | refine aw_sregK 1 [0, 1] ?_
      | refine aw_regK 1 [0, 1] ?_
      | refine aw_sregK 2 [0, 1, 5] ?_
      | refine aw_regK 2 [0, 1, 5] ?_
      | refine aw_sregK 3 [0, 1, 5, 6] ?_
      | refine aw_regK 3 [0, 1, 5, 6] ?_
      | refine aw_sregK 4 [6] ?_
      | refine aw_regK 4 [6] ?_
      | refine aw_sregK 5 [] ?_
      | refine aw_regK 5 [] ?_
      | refine aw_sregK 6 [] ?_
      | refine aw_regK 6 [] ?_
      | refine aw_sregK 7 [0, 1, 6] ?_
      | refine aw_regK 7 [0, 1, 6] ?_
      | refine aw_sregK 8 [] ?_
      | refine aw_regK 8 [] ?_
      | refine aw_sregK 9 [0, 1] ?_
      | refine aw_regK 9 [0, 1] ?_
      | refine aw_sregK 10 [] ?_
      | refine aw_regK 10 [] ?_
      | refine aw_sregK 11 [0, 1] ?_
      | refine aw_regK 11 [0, 1] ?_
      | refine aw_sregK 12 [] ?_
      | refine aw_regK 12 [] ?_
      | refine aw_sregK 13 [] ?_
      | refine aw_regK 13 [] ?_
      | refine aw_sreg ?_
      | refine aw_sregD mixed ?_
      | refine aw_ifT (b := true) rfl rfl ?_
      | refine aw_ifF (b := false) rfl rfl ?_
      | refine aw_ifT rfl (by assumption) ?_
      | refine aw_ifF rfl (by assumption) ?_
      | refine aw_ifT rfl (decide_eq_true (by assumption)) ?_
      | refine aw_ifF rfl (decide_eq_false (by assumption)) ?_
      | refine aw_seq ?_
      | refine aw_block ?_
      | refine aw_skip ?_
      | refine aw_region ?_
      | refine aw_region_draw mixed ?_
      | refine aw_exit ?_
      | refine rq_exit ?_
      | refine blockQ_hit ?_
      | refine blockQ_miss (by decide) ?_)
  · rw [if_neg hg]
    refine scx_of Tryd.func57 rfl rfl rfl (Nat.le_of_ble_eq_true rfl) ?_
    repeat' (first
      | exact aw_ret (ret_vals (by simp; exact rfl) (by simp [*]; fail_if_success (show _)))
      | exact aw_ret (ret_vals (by simp; exact rfl) (by simp [*]; omega))
      | refine ar_end rfl ?_
      | refine ar_endD rfl (by kernel_rfl) ?_
      | refine ar_fin rfl ?_
      | refine ar_finD rfl (by kernel_rfl) ?_
      | refine ar_callV Tryd.call66 h1 rfl rfl rfl rfl rfl (by simp; done) (by rfl) (by simp; done) ?_
      | refine ar_callV_if Tryd.call66 h1 rfl rfl rfl rfl rfl rfl (by simp; done) rfl (by rfl) (by simp; done) ?_
      | refine ar_callV Tryd.call66 h2 rfl rfl rfl rfl rfl (by simp; done) (by rfl) (by simp; done) ?_
      | refine ar_callV_if Tryd.call66 h2 rfl rfl rfl rfl rfl rfl (by simp; done) rfl (by rfl) (by simp; done) ?_
      | refine ar_go3 _ rfl (by simp [hl, hg]; exact ⟨rfl, rfl, rfl⟩) rfl ?_
      | refine aw_sregK 0 [0, 1] ?_
      | refine aw_regK 0 [0, 1] ?_
      | refine aw_sregK 1 [0, 1] ?_
      | refine aw_regK 1 [0, 1] ?_
      | refine aw_sregK 2 [0, 1, 5] ?_
      | refine aw_regK 2 [0, 1, 5] ?_
      | refine aw_sregK 3 [0, 1, 5, 6] ?_
      | refine aw_regK 3 [0, 1, 5, 6] ?_
      | refine aw_sregK 4 [6] ?_
      | refine aw_regK 4 [6] ?_
      | refine aw_sregK 5 [] ?_
      | refine aw_regK 5 [] ?_
      | refine aw_sregK 6 [] ?_
      | refine aw_regK 6 [] ?_
      | refine aw_sregK 7 [0, 1, 6] ?_
      | refine aw_regK 7 [0, 1, 6] ?_
      | refine aw_sregK 8 [] ?_
      | refine aw_regK 8 [] ?_
      | refine aw_sregK 9 [0, 1] ?_
      | refine aw_regK 9 [0, 1] ?_
      | refine aw_sregK 10 [] ?_
      | refine aw_regK 10 [] ?_
      | refine aw_sregK 11 [0, 1] ?_
      | refine aw_regK 11 [0, 1] ?_
      | refine aw_sregK 12 [] ?_
      | refine aw_regK 12 [] ?_
      | refine aw_sregK 13 [] ?_
      | refine aw_regK 13 [] ?_
      | refine aw_sreg ?_
      | refine aw_sregD mixed ?_
      | refine aw_ifT (b := true) rfl rfl ?_
      | refine aw_ifF (b := false) rfl rfl ?_
      | refine aw_ifT rfl (by assumption) ?_
      | refine aw_ifF rfl (by assumption) ?_
      | refine aw_ifT rfl (decide_eq_true (by assumption)) ?_
      | refine aw_ifF rfl (decide_eq_false (by assumption)) ?_
      | refine aw_seq ?_
      | refine aw_block ?_
      | refine aw_skip ?_
      | refine aw_region ?_
      | refine aw_region_draw mixed ?_
      | refine aw_exit ?_
      | refine rq_exit ?_
      | refine blockQ_hit ?_
      | refine blockQ_miss (by decide) ?_)
set_option maxHeartbeats 16000000 in
theorem c_byN [Trk] {a b : List Int} (ha : a.length ≤ maxLen) (hb : b.length ≤ maxLen) : SC Tryd.prog 37 [.pv (.sl 1 (ints a)), .pv (.sl 1 (ints b)), .fn 38 [] []] (I .i64 (byF cmpI a b)) := by
  have hM : maxLen = 9223372036854775807 := rfl
  obtain ⟨n, hn⟩ : ∃ n : Nat, n = min a.length b.length := ⟨_, rfl⟩
  have hna : n ≤ a.length := by omega
  have hnb : n ≤ b.length := by omega
  have hor : n = a.length ∨ n = b.length := by omega
  have hmm : mm false (a.length : Int) (b.length : Int) = (n : Int) := by simp only [mm]; (repeat' split) <;> (try contradiction) <;> omega
  generalize hres : byF cmpI a b = res
  refine scx_of Tryd.func37 rfl rfl rfl (Nat.le_of_ble_eq_true rfl) ?_
  repeat' (first
    | refine ar_end rfl ?_
    | refine ar_endD rfl (by kernel_rfl) ?_
    | refine ar_fin rfl ?_
    | refine ar_finD rfl (by kernel_rfl) ?_
    | refine ar_go3 _ rfl (by simp [ints_len, ints_getE, rgL_len, rgL_getE, atsL_len, atsL_getE, cosL_len, cosL_getE, ousL_len, ousL_getE, atC, ouC, coC, hmm]; exact ⟨rfl, rfl, rfl⟩) rfl ?_
    | refine aw_sregK 0 [0, 1, 2] ?_
    | refine aw_regK 0 [0, 1, 2] ?_
    | refine aw_sregK 1 [0, 1, 2] ?_
    | refine aw_regK 1 [0, 1, 2] ?_
    | refine aw_sreg ?_
    | refine aw_sregD mixed ?_
    | refine aw_ifT (b := true) rfl rfl ?_
    | refine aw_ifF (b := false) rfl rfl ?_
    | refine aw_ifT rfl (by assumption) ?_
    | refine aw_ifF rfl (by assumption) ?_
    | refine aw_ifT rfl (decide_eq_true (by assumption)) ?_
    | refine aw_ifF rfl (decide_eq_false (by assumption)) ?_
    | refine aw_seq ?_
    | refine aw_block ?_
    | refine aw_skip ?_
    | refine aw_region ?_
    | refine aw_region_draw mixed ?_
    | refine aw_exit ?_
    | refine rq_exit ?_
    | refine blockQ_hit ?_
    | refine blockQ_miss (by decide) ?_)
  refine aw_loopN [0, 1, 2, 13, 14] [] (by simp; exact rfl) (ι := {i : Nat // i ≤ n ∧ byF cmpI (a.drop i) (b.drop i) = res}) (fun i => ⟨36, [(0, .pv (.sl 1 (ints a))), (1, .pv (.sl 1 (ints b))), (2, .fn 38 [] []), (13, I .i64 n), (14, I .i64 i.1)], []⟩) (fun i => n - i.1) ⟨0, by omega, by simpa using hres⟩ (by simp) ?_
  rintro ⟨i, hi, he⟩
  by_cases hlt : i < n
  · have hd : (i : Int) < (n : Int) := by omega
    have hw : IntKind.wrap .i64 ((i : Int) + 1) = (i : Int) + 1 := wrap64s (by omega) (by omega)
    have hia : i < a.length := by omega
    have hib : i < b.length := by omega
    have hC := c_cmp (x := a[i]) (y := b[i])
    rw [by_at hia hib] at he
    generalize hx : a[i] = x at *
    generalize hy : b[i] = y at *
    generalize hv : cmpI x y = v at *
    by_cases hz : v = 0
    · subst hz
      rw [if_pos rfl] at he
      repeat' (first
        | refine ar_end rfl ?_
        | refine ar_endD rfl (by kernel_rfl) ?_
        | refine ar_fin rfl ?_
        | refine ar_finD rfl (by kernel_rfl) ?_
        | refine ar_callV Tryd.call38 hC rfl rfl rfl rfl rfl (by simp; done) (by rfl) (by simp; done) ?_
        | refine ar_callV_if Tryd.call38 hC rfl rfl rfl rfl rfl rfl (by simp; done) rfl (by rfl) (by simp; done) ?_
        | refine bq_norm ?_
        | refine lq_normN [0, 1, 2, 13, 14] [] (by simp; exact rfl) ⟨i + 1, by omega, he⟩ (by dsimp only; omega) (by simp [])
        | refine ar_go3 _ rfl (by simp [ints_len, ints_getE, rgL_len, rgL_getE, atsL_len, atsL_getE, cosL_len, cosL_getE, ousL_len, ousL_getE, atC, ouC, coC, hd, hia, hib, hx, hy, hw]; exact ⟨rfl, rfl, rfl⟩) rfl ?_
        | refine aw_sregK 2 [0, 1, 2, 13, 14] ?_
        | refine aw_regK 2 [0, 1, 2, 13, 14] ?_
        | refine aw_sregK 3 [0, 1, 2, 13, 14] ?_
        | refine aw_regK 3 [0, 1, 2, 13, 14] ?_
        | refine aw_sregKD mixed 4 [0, 1, 2, 7, 13, 14] (by simp; exact rfl) ?_
        | refine aw_regKD mixed 4 [0, 1, 2, 7, 13, 14] (by simp; exact rfl) ?_
        | refine aw_sregK 5 [0, 1, 2, 8, 13, 14] ?_
        | refine aw_regK 5 [0, 1, 2, 8, 13, 14] ?_
        | refine aw_sregK 7 [0, 1, 2, 13, 14] ?_
        | refine aw_regK 7 [0, 1, 2, 13, 14] ?_
        | refine aw_sreg ?_
        | refine aw_sregD mixed ?_
        | refine aw_ifT (b := true) rfl rfl ?_
        | refine aw_ifF (b := false) rfl rfl ?_
        | refine aw_ifT rfl (by assumption) ?_
        | refine aw_ifF rfl (by assumption) ?_
        | refine aw_ifT rfl (decide_eq_true (by assumption)) ?_
        | refine aw_ifF rfl (decide_eq_false (by assumption)) ?_
        | refine aw_seq ?_
        | refine aw_block ?_
        | refine aw_skip ?_
        | refine aw_region ?_
        | refine aw_region_draw mixed ?_
        | refine aw_exit ?_
        | refine rq_exit ?_
        | refine blockQ_hit ?_
        | refine blockQ_miss (by decide) ?_)
    · rw [if_neg hz] at he
      subst he
      repeat' (first
        | exact aw_ret (ret_vals (by simp; exact rfl) (by simp [*]; fail_if_success (show _)))
        | exact aw_ret (ret_vals (by simp; exact rfl) (by simp [*]; omega))
        | refine ar_end rfl ?_
        | refine ar_endD rfl (by kernel_rfl) ?_
        | refine ar_fin rfl ?_
        | refine ar_finD rfl (by kernel_rfl) ?_
        | refine ar_callV Tryd.call38 hC rfl rfl rfl rfl rfl (by simp; done) (by rfl) (by simp; done) ?_
        | refine ar_callV_if Tryd.call38 hC rfl rfl rfl rfl rfl rfl (by simp; done) rfl (by rfl) (by simp; done) ?_
        | refine lq_ret ?_
        | refine bq_ret ?_
        | refine tq_ret ?_
        | refine ar_go3 _ rfl (by simp [ints_len, ints_getE, rgL_len, rgL_getE, atsL_len, atsL_getE, cosL_len, cosL_getE, ousL_len, ousL_getE, atC, ouC, coC, hd, hia, hib, hx, hy, hz]; exact ⟨rfl, rfl, rfl⟩) rfl ?_
        | refine aw_sregK 2 [0, 1, 2, 13, 14] ?_
        | refine aw_regK 2 [0, 1, 2, 13, 14] ?_
        | refine aw_sregK 3 [0, 1, 2, 13, 14] ?_
        | refine aw_regK 3 [0, 1, 2, 13, 14] ?_
        | refine aw_sregKD mixed 4 [0, 1, 2, 7, 13, 14] (by simp; exact rfl) ?_
        | refine aw_regKD mixed 4 [0, 1, 2, 7, 13, 14] (by simp; exact rfl) ?_
        | refine aw_sregK 5 [0, 1, 2, 8, 13, 14] ?_
        | refine aw_regK 5 [0, 1, 2, 8, 13, 14] ?_
        | refine aw_sregK 6 [8] ?_
        | refine aw_regK 6 [8] ?_
        | refine aw_sreg ?_
        | refine aw_sregD mixed ?_
        | refine aw_ifT (b := true) rfl rfl ?_
        | refine aw_ifF (b := false) rfl rfl ?_
        | refine aw_ifT rfl (by assumption) ?_
        | refine aw_ifF rfl (by assumption) ?_
        | refine aw_ifT rfl (decide_eq_true (by assumption)) ?_
        | refine aw_ifF rfl (decide_eq_false (by assumption)) ?_
        | refine aw_seq ?_
        | refine aw_block ?_
        | refine aw_skip ?_
        | refine aw_region ?_
        | refine aw_region_draw mixed ?_
        | refine aw_exit ?_
        | refine rq_exit ?_
        | refine blockQ_hit ?_
        | refine blockQ_miss (by decide) ?_)
  have hd : ¬(i : Int) < (n : Int) := by omega
  have hin : i = n := by omega
  subst hin
  rw [by_end hna hnb hor] at he
  subst he
  have hC := c_cmpI (x := (a.length : Int)) (y := (b.length : Int))
  generalize cmpI (a.length : Int) (b.length : Int) = v at *
  repeat' (first
    | exact aw_ret (ret_vals (by simp; exact rfl) (by simp [*]; fail_if_success (show _)))
    | exact aw_ret (ret_vals (by simp; exact rfl) (by simp [*]; omega))
    | refine ar_end rfl ?_
    | refine ar_endD rfl (by kernel_rfl) ?_
    | refine ar_fin rfl ?_
    | refine ar_finD rfl (by kernel_rfl) ?_
    | refine ar_callV Tryd.call57 hC rfl rfl rfl rfl rfl (by simp; done) (by rfl) (by simp; done) ?_
    | refine ar_callV_if Tryd.call57 hC rfl rfl rfl rfl rfl rfl (by simp; done) rfl (by rfl) (by simp; done) ?_
    | refine lq_exit ?_
    | refine ar_go3 _ rfl (by simp [ints_len, ints_getE, rgL_len, rgL_getE, atsL_len, atsL_getE, cosL_len, cosL_getE, ousL_len, ousL_getE, atC, ouC, coC, hd]; exact ⟨rfl, rfl, rfl⟩) rfl ?_
    | refine aw_sregK 2 [0, 1, 2, 13, 14] ?_
    | refine aw_regK 2 [0, 1, 2, 13, 14] ?_
    | refine aw_sregK 8 [0, 1] ?_
    | refine aw_regK 8 [0, 1] ?_
    | refine aw_sreg ?_
    | refine aw_sregD mixed ?_
    | refine aw_ifT (b := true) rfl rfl ?_
    | refine aw_ifF (b := false) rfl rfl ?_
    | refine aw_ifT rfl (by assumption) ?_
    | refine aw_ifF rfl (by assumption) ?_
    | refine aw_ifT rfl (decide_eq_true (by assumption)) ?_
    | refine aw_ifF rfl (decide_eq_false (by assumption)) ?_
    | refine aw_seq ?_
    | refine aw_block ?_
    | refine aw_skip ?_
    | refine aw_region ?_
    | refine aw_region_draw mixed ?_
    | refine aw_exit ?_
    | refine rq_exit ?_
    | refine blockQ_hit ?_
    | refine blockQ_miss (by decide) ?_)
set_option maxHeartbeats 16000000 in
theorem c_nums [Trk] {a b : List Int} (ha : a.length ≤ maxLen) (hb : b.length ≤ maxLen) : SC Tryd.prog 36 [.pv (.sl 1 (ints a)), .pv (.sl 1 (ints b))] (I .i64 (numsF a b)) := by
  have h : SC Tryd.prog 37 [.pv (.sl 1 (ints a)), .pv (.sl 1 (ints b)), .fn 38 [] []] (I .i64 (numsF a b)) := c_byN ha hb
  generalize numsF a b = v at *
  refine scx_of Tryd.func36 rfl rfl rfl (Nat.le_of_ble_eq_true rfl) ?_
  repeat' (first
    | exact aw_ret (ret_vals (by simp; exact rfl) (by simp [*]; fail_if_success (show _)))
    | exact aw_ret (ret_vals (by simp; exact rfl) (by simp [*]; omega))
    | refine ar_end rfl ?_
    | refine ar_endD rfl (by kernel_rfl) ?_
    | refine ar_fin rfl ?_
    | refine ar_finD rfl (by kernel_rfl) ?_
    | refine ar_callV Tryd.call37 h rfl rfl rfl rfl rfl (by simp; done) (by rfl) (by simp; done) ?_
    | refine ar_callV_if Tryd.call37 h rfl rfl rfl rfl rfl rfl (by simp; done) rfl (by rfl) (by simp; done) ?_
    | refine ar_go3 _ rfl (by simp []; exact ⟨rfl, rfl, rfl⟩) rfl ?_
    | refine aw_sregK 0 [0, 1] ?_
    | refine aw_regK 0 [0, 1] ?_
    | refine aw_sregK 1 [0, 1] ?_
    | refine aw_regK 1 [0, 1] ?_
    | refine aw_sreg ?_
    | refine aw_sregD mixed ?_
    | refine aw_ifT (b := true) rfl rfl ?_
    | refine aw_ifF (b := false) rfl rfl ?_
    | refine aw_ifT rfl (by assumption) ?_
    | refine aw_ifF rfl (by assumption) ?_
    | refine aw_ifT rfl (decide_eq_true (by assumption)) ?_
    | refine aw_ifF rfl (decide_eq_false (by assumption)) ?_
    | refine aw_seq ?_
    | refine aw_block ?_
    | refine aw_skip ?_
    | refine aw_region ?_
    | refine aw_region_draw mixed ?_
    | refine aw_exit ?_
    | refine rq_exit ?_
    | refine blockQ_hit ?_
    | refine blockQ_miss (by decide) ?_)
set_option maxHeartbeats 16000000 in
theorem c_byL [Trk] {a b : List (List Int)} (ha : a.length ≤ maxLen) (hb : b.length ≤ maxLen) (ha2 : ∀ x ∈ a, x.length ≤ maxLen) (hb2 : ∀ x ∈ b, x.length ≤ maxLen) : SC Tryd.prog 40 [.pv (.sl 1 (rgL a)), .pv (.sl 1 (rgL b)), .fn 36 [] []] (I .i64 (byF numsF a b)) := by
  have hM : maxLen = 9223372036854775807 := rfl
  obtain ⟨n, hn⟩ : ∃ n : Nat, n = min a.length b.length := ⟨_, rfl⟩
  have hna : n ≤ a.length := by omega
  have hnb : n ≤ b.length := by omega
  have hor : n = a.length ∨ n = b.length := by omega
  have hmm : mm false (a.length : Int) (b.length : Int) = (n : Int) := by simp only [mm]; (repeat' split) <;> (try contradiction) <;> omega
  generalize hres : byF numsF a b = res
  refine scx_of Tryd.func40 rfl rfl rfl (Nat.le_of_ble_eq_true rfl) ?_
  repeat' (first
    | refine ar_end rfl ?_
    | refine ar_endD rfl (by kernel_rfl) ?_
    | refine ar_fin rfl ?_
    | refine ar_finD rfl (by kernel_rfl) ?_
    | refine ar_go3 _ rfl (by simp [ints_len, ints_getE, rgL_len, rgL_getE, atsL_len, atsL_getE, cosL_len, cosL_getE, ousL_len, ousL_getE, atC, ouC, coC, hmm]; exact ⟨rfl, rfl, rfl⟩) rfl ?_
    | refine aw_sregK 0 [0, 1, 2] ?_
    | refine aw_regK 0 [0, 1, 2] ?_
    | refine aw_sregK 1 [0, 1, 2] ?_
    | refine aw_regK 1 [0, 1, 2] ?_
    | refine aw_sreg ?_
    | refine aw_sregD mixed ?_
    | refine aw_ifT (b := true) rfl rfl ?_
    | refine aw_ifF (b := false) rfl rfl ?_
    | refine aw_ifT rfl (by assumption) ?_
    | refine aw_ifF rfl (by assumption) ?_
    | refine aw_ifT rfl (decide_eq_true (by assumption)) ?_
    | refine aw_ifF rfl (decide_eq_false (by assumption)) ?_
    | refine aw_seq ?_
    | refine aw_block ?_
    | refine aw_skip ?_
    | refine aw_region ?_
    | refine aw_region_draw mixed ?_
    | refine aw_exit ?_
    | refine rq_exit ?_
    | refine blockQ_hit ?_
    | refine blockQ_miss (by decide) ?_)
  refine aw_loopN [0, 1, 2, 13, 14] [] (by simp; exact rfl) (ι := {i : Nat // i ≤ n ∧ byF numsF (a.drop i) (b.drop i) = res}) (fun i => ⟨36, [(0, .pv (.sl 1 (rgL a))), (1, .pv (.sl 1 (rgL b))), (2, .fn 36 [] []), (13, I .i64 n), (14, I .i64 i.1)], []⟩) (fun i => n - i.1) ⟨0, by omega, by simpa using hres⟩ (by simp) ?_
  rintro ⟨i, hi, he⟩
  by_cases hlt : i < n
  · have hd : (i : Int) < (n : Int) := by omega
    have hw : IntKind.wrap .i64 ((i : Int) + 1) = (i : Int) + 1 := wrap64s (by omega) (by omega)
    have hia : i < a.length := by omega
    have hib : i < b.length := by omega
    have hC := c_nums (ha2 _ (List.getElem_mem hia)) (hb2 _ (List.getElem_mem hib))
    rw [by_at hia hib] at he
    generalize hx : a[i] = x at *
    generalize hy : b[i] = y at *
    generalize hv : numsF x y = v at *
    by_cases hz : v = 0
    · subst hz
      rw [if_pos rfl] at he
      repeat' (first
        | refine ar_end rfl ?_
        | refine ar_endD rfl (by kernel_rfl) ?_
        | refine ar_fin rfl ?_
        | refine ar_finD rfl (by kernel_rfl) ?_
        | refine ar_callV Tryd.call36 hC rfl rfl rfl rfl rfl (by simp; done) (by rfl) (by simp; done) ?_
        | refine ar_callV_if Tryd.call36 hC rfl rfl rfl rfl rfl rfl (by simp; done) rfl (by rfl) (by simp; done) ?_
        | refine bq_norm ?_
        | refine lq_normN [0, 1, 2, 13, 14] [] (by simp; exact rfl) ⟨i + 1, by omega, he⟩ (by dsimp only; omega) (by simp [])
        | refine ar_go3 _ rfl (by simp [ints_len, ints_getE, rgL_len, rgL_getE, atsL_len, atsL_getE, cosL_len, cosL_getE, ousL_len, ousL_getE, atC, ouC, coC, hd, hia, hib, hx, hy, hw]; exact ⟨rfl, rfl, rfl⟩) rfl ?_
        | refine aw_sregK 2 [0, 1, 2, 13, 14] ?_
        | refine aw_regK 2 [0, 1, 2, 13, 14] ?_
        | refine aw_sregK 3 [0, 1, 2, 13, 14] ?_
        | refine aw_regK 3 [0, 1, 2, 13, 14] ?_
        | refine aw_sregKD mixed 4 [0, 1, 2, 7, 13, 14] (by simp; exact rfl) ?_
        | refine aw_regKD mixed 4 [0, 1, 2, 7, 13, 14] (by simp; exact rfl) ?_
        | refine aw_sregK 5 [0, 1, 2, 8, 13, 14] ?_
        | refine aw_regK 5 [0, 1, 2, 8, 13, 14] ?_
        | refine aw_sregK 7 [0, 1, 2, 13, 14] ?_
        | refine aw_regK 7 [0, 1, 2, 13, 14] ?_
        | refine aw_sreg ?_
        | refine aw_sregD mixed ?_
        | refine aw_ifT (b := true) rfl rfl ?_
        | refine aw_ifF (b := false) rfl rfl ?_
        | refine aw_ifT rfl (by assumption) ?_
        | refine aw_ifF rfl (by assumption) ?_
        | refine aw_ifT rfl (decide_eq_true (by assumption)) ?_
        | refine aw_ifF rfl (decide_eq_false (by assumption)) ?_
        | refine aw_seq ?_
        | refine aw_block ?_
        | refine aw_skip ?_
        | refine aw_region ?_
        | refine aw_region_draw mixed ?_
        | refine aw_exit ?_
        | refine rq_exit ?_
        | refine blockQ_hit ?_
        | refine blockQ_miss (by decide) ?_)
    · rw [if_neg hz] at he
      subst he
      repeat' (first
        | exact aw_ret (ret_vals (by simp; exact rfl) (by simp [*]; fail_if_success (show _)))
        | exact aw_ret (ret_vals (by simp; exact rfl) (by simp [*]; omega))
        | refine ar_end rfl ?_
        | refine ar_endD rfl (by kernel_rfl) ?_
        | refine ar_fin rfl ?_
        | refine ar_finD rfl (by kernel_rfl) ?_
        | refine ar_callV Tryd.call36 hC rfl rfl rfl rfl rfl (by simp; done) (by rfl) (by simp; done) ?_
        | refine ar_callV_if Tryd.call36 hC rfl rfl rfl rfl rfl rfl (by simp; done) rfl (by rfl) (by simp; done) ?_
        | refine lq_ret ?_
        | refine bq_ret ?_
        | refine tq_ret ?_
        | refine ar_go3 _ rfl (by simp [ints_len, ints_getE, rgL_len, rgL_getE, atsL_len, atsL_getE, cosL_len, cosL_getE, ousL_len, ousL_getE, atC, ouC, coC, hd, hia, hib, hx, hy, hz]; exact ⟨rfl, rfl, rfl⟩) rfl ?_
        | refine aw_sregK 2 [0, 1, 2, 13, 14] ?_
        | refine aw_regK 2 [0, 1, 2, 13, 14] ?_
        | refine aw_sregK 3 [0, 1, 2, 13, 14] ?_
        | refine aw_regK 3 [0, 1, 2, 13, 14] ?_
        | refine aw_sregKD mixed 4 [0, 1, 2, 7, 13, 14] (by simp; exact rfl) ?_
        | refine aw_regKD mixed 4 [0, 1, 2, 7, 13, 14] (by simp; exact rfl) ?_
        | refine aw_sregK 5 [0, 1, 2, 8, 13, 14] ?_
        | refine aw_regK 5 [0, 1, 2, 8, 13, 14] ?_
        | refine aw_sregK 6 [8] ?_
        | refine aw_regK 6 [8] ?_
        | refine aw_sreg ?_
        | refine aw_sregD mixed ?_
        | refine aw_ifT (b := true) rfl rfl ?_
        | refine aw_ifF (b := false) rfl rfl ?_
        | refine aw_ifT rfl (by assumption) ?_
        | refine aw_ifF rfl (by assumption) ?_
        | refine aw_ifT rfl (decide_eq_true (by assumption)) ?_
        | refine aw_ifF rfl (decide_eq_false (by assumption)) ?_
        | refine aw_seq ?_
        | refine aw_block ?_
        | refine aw_skip ?_
        | refine aw_region ?_
        | refine aw_region_draw mixed ?_
        | refine aw_exit ?_
        | refine rq_exit ?_
        | refine blockQ_hit ?_
        | refine blockQ_miss (by decide) ?_)
  have hd : ¬(i : Int) < (n : Int) := by omega
  have hin : i = n := by omega
  subst hin
  rw [by_end hna hnb hor] at he
  subst he
  have hC := c_cmpI (x := (a.length : Int)) (y := (b.length : Int))
  generalize cmpI (a.length : Int) (b.length : Int) = v at *
  repeat' (first
    | exact aw_ret (ret_vals (by simp; exact rfl) (by simp [*]; fail_if_success (show _)))
    | exact aw_ret (ret_vals (by simp; exact rfl) (by simp [*]; omega))
    | refine ar_end rfl ?_
    | refine ar_endD rfl (by kernel_rfl) ?_
    | refine ar_fin rfl ?_
    | refine ar_finD rfl (by kernel_rfl) ?_
    | refine ar_callV Tryd.call57 hC rfl rfl rfl rfl rfl (by simp; done) (by rfl) (by simp; done) ?_
    | refine ar_callV_if Tryd.call57 hC rfl rfl rfl rfl rfl rfl (by simp; done) rfl (by rfl) (by simp; done) ?_
    | refine lq_exit ?_
    | refine ar_go3 _ rfl (by simp [ints_len, ints_getE, rgL_len, rgL_getE, atsL_len, atsL_getE, cosL_len, cosL_getE, ousL_len, ousL_getE, atC, ouC, coC, hd]; exact ⟨rfl, rfl, rfl⟩) rfl ?_
    | refine aw_sregK 2 [0, 1, 2, 13, 14] ?_
    | refine aw_regK 2 [0, 1, 2, 13, 14] ?_
    | refine aw_sregK 8 [0, 1] ?_
    | refine aw_regK 8 [0, 1] ?_
    | refine aw_sreg ?_
    | refine aw_sregD mixed ?_
    | refine aw_ifT (b := true) rfl rfl ?_
    | refine aw_ifF (b := false) rfl rfl ?_
    | refine aw_ifT rfl (by assumption) ?_
    | refine aw_ifF rfl (by assumption) ?_
    | refine aw_ifT rfl (decide_eq_true (by assumption)) ?_
    | refine aw_ifF rfl (decide_eq_false (by assumption)) ?_
    | refine aw_seq ?_
    | refine aw_block ?_
    | refine aw_skip ?_
    | refine aw_region ?_
    | refine aw_region_draw mixed ?_
    | refine aw_exit ?_
    | refine rq_exit ?_
    | refine blockQ_hit ?_
    | refine blockQ_miss (by decide) ?_)
set_option maxHeartbeats 16000000 in
theorem c_or [Trk] {x y : Int} : SC Tryd.prog 39 [.pv (.sl 1 [[C .i64 x], [C .i64 y]])] (I .i64 (if x = 0 then y else x)) := by
  have hw1 : IntKind.wrap .i64 1 = 1 := by decide
  have hw2 : IntKind.wrap .i64 2 = 2 := by decide
  by_cases hx : x = 0
  · subst hx
    rw [if_pos rfl]
    by_cases hy : y = 0
    · subst hy
      refine scx_of Tryd.func39 rfl rfl rfl (Nat.le_of_ble_eq_true rfl) ?_
      repeat' (first
        | exact aw_ret (ret_vals (by simp; exact rfl) (by simp [*]; fail_if_success (show _)))
        | exact aw_ret (ret_vals (by simp; exact rfl) (by simp [*]; omega))
        | refine ar_end rfl ?_
        | refine ar_endD rfl (by kernel_rfl) ?_
        | refine ar_fin rfl ?_
        | refine ar_finD rfl (by kernel_rfl) ?_
        | refine ar_go3 _ rfl (by simp [hw1, hw2]; exact ⟨rfl, rfl, rfl⟩) rfl ?_
        | refine aw_sregK 0 [0] ?_
        | refine aw_regK 0 [0] ?_
        | refine aw_sregK 1 [0] ?_
        | refine aw_regK 1 [0] ?_
        | refine aw_sregK 2 [0, 3] ?_
        | refine aw_regK 2 [0, 3] ?_
        | refine aw_sregK 3 [3, 6, 7, 8] ?_
        | refine aw_regK 3 [3, 6, 7, 8] ?_
        | refine aw_sregK 4 [3, 6, 7, 8] ?_
        | refine aw_regK 4 [3, 6, 7, 8] ?_
        | refine aw_sregK 5 [3, 5, 6, 7, 8] ?_
        | refine aw_regK 5 [3, 5, 6, 7, 8] ?_
        | refine aw_sregK 6 [5] ?_
        | refine aw_regK 6 [5] ?_
        | refine aw_sregK 7 [3, 6, 7, 8] ?_
        | refine aw_regK 7 [3, 6, 7, 8] ?_
        | refine aw_sregK 8 [3] ?_
        | refine aw_regK 8 [3] ?_
        | refine aw_sreg ?_
        | refine aw_sregD mixed ?_
        | refine aw_ifT (b := true) rfl rfl ?_
        | refine aw_ifF (b := false) rfl rfl ?_
        | refine aw_ifT rfl (by assumption) ?_
        | refine aw_ifF rfl (by assumption) ?_
        | refine aw_ifT rfl (decide_eq_true (by assumption)) ?_
        | refine aw_ifF rfl (decide_eq_false (by assumption)) ?_
        | refine aw_rounds 3 ?_
        | refine awr_step ?_
        | refine aw_seq ?_
        | refine aw_block ?_
        | refine aw_skip ?_
        | refine aw_region ?_
        | refine aw_region_draw mixed ?_
        | refine aw_exit ?_
        | refine rq_exit ?_
        | refine blockQ_hit ?_
        | refine blockQ_miss (by decide) ?_)
    · refine scx_of Tryd.func39 rfl rfl rfl (Nat.le_of_ble_eq_true rfl) ?_
      repeat' (first
        | exact aw_ret (ret_vals (by simp; exact rfl) (by simp [*]; fail_if_success (show _)))
        | exact aw_ret (ret_vals (by simp; exact rfl) (by simp [*]; omega))
        | refine ar_end rfl ?_
        | refine ar_endD rfl (by kernel_rfl) ?_
        | refine ar_fin rfl ?_
        | refine ar_finD rfl (by kernel_rfl) ?_
        | refine ar_go3 _ rfl (by simp [hw1, hw2, hy]; exact ⟨rfl, rfl, rfl⟩) rfl ?_
        | refine aw_sregK 0 [0] ?_
        | refine aw_regK 0 [0] ?_
        | refine aw_sregK 1 [0] ?_
        | refine aw_regK 1 [0] ?_
        | refine aw_sregK 2 [0, 3] ?_
        | refine aw_regK 2 [0, 3] ?_
        | refine aw_sregK 3 [3, 6, 7, 8] ?_
        | refine aw_regK 3 [3, 6, 7, 8] ?_
        | refine aw_sregK 4 [3, 6, 7, 8] ?_
        | refine aw_regK 4 [3, 6, 7, 8] ?_
        | refine aw_sregK 5 [3, 5, 6, 7, 8] ?_
        | refine aw_regK 5 [3, 5, 6, 7, 8] ?_
        | refine aw_sregK 6 [5] ?_
        | refine aw_regK 6 [5] ?_
        | refine aw_sregK 7 [3, 6, 7, 8] ?_
        | refine aw_regK 7 [3, 6, 7, 8] ?_
        | refine aw_sregK 8 [3] ?_
        | refine aw_regK 8 [3] ?_
        | refine aw_sreg ?_
        | refine aw_sregD mixed ?_
        | refine aw_ifT (b := true) rfl rfl ?_
        | refine aw_ifF (b := false) rfl rfl ?_
        | refine aw_ifT rfl (by assumption) ?_
        | refine aw_ifF rfl (by assumption) ?_
        | refine aw_ifT rfl (decide_eq_true (by assumption)) ?_
        | refine aw_ifF rfl (decide_eq_false (by assumption)) ?_
        | refine aw_rounds 3 ?_
        | refine awr_step ?_
        | refine aw_seq ?_
        | refine aw_block ?_
        | refine aw_skip ?_
        | refine aw_region ?_
        | refine aw_region_draw mixed ?_
        | refine aw_exit ?_
        | refine rq_exit ?_
        | refine blockQ_hit ?_
        | refine blockQ_miss (by decide) ?_)
  · rw [if_neg hx]
    refine scx_of Tryd.func39 rfl rfl rfl (Nat.le_of_ble_eq_true rfl) ?_
    repeat' (first
      | exact aw_ret (ret_vals (by simp; exact rfl) (by simp [*]; fail_if_success (show _)))
      | exact aw_ret (ret_vals (by simp; exact rfl) (by simp [*]; omega))
      | refine ar_end rfl ?_
      | refine ar_endD rfl (by kernel_rfl) ?_
      | refine ar_fin rfl ?_
      | refine ar_finD rfl (by kernel_rfl) ?_
      | refine ar_go3 _ rfl (by simp [hw1, hw2, hx]; exact ⟨rfl, rfl, rfl⟩) rfl ?_
      | refine aw_sregK 0 [0] ?_
      | refine aw_regK 0 [0] ?_
      | refine aw_sregK 1 [0] ?_
      | refine aw_regK 1 [0] ?_
      | refine aw_sregK 2 [0, 3] ?_
      | refine aw_regK 2 [0, 3] ?_
      | refine aw_sregK 3 [3, 6, 7, 8] ?_
      | refine aw_regK 3 [3, 6, 7, 8] ?_
      | refine aw_sregK 4 [3, 6, 7, 8] ?_
      | refine aw_regK 4 [3, 6, 7, 8] ?_
      | refine aw_sregK 5 [3, 5, 6, 7, 8] ?_
      | refine aw_regK 5 [3, 5, 6, 7, 8] ?_
      | refine aw_sregK 6 [5] ?_
      | refine aw_regK 6 [5] ?_
      | refine aw_sregK 7 [3, 6, 7, 8] ?_
      | refine aw_regK 7 [3, 6, 7, 8] ?_
      | refine aw_sregK 8 [3] ?_
      | refine aw_regK 8 [3] ?_
      | refine aw_sreg ?_
      | refine aw_sregD mixed ?_
      | refine aw_ifT (b := true) rfl rfl ?_
      | refine aw_ifF (b := false) rfl rfl ?_
      | refine aw_ifT rfl (by assumption) ?_
      | refine aw_ifF rfl (by assumption) ?_
      | refine aw_ifT rfl (decide_eq_true (by assumption)) ?_
      | refine aw_ifF rfl (decide_eq_false (by assumption)) ?_
      | refine aw_rounds 3 ?_
      | refine awr_step ?_
      | refine aw_seq ?_
      | refine aw_block ?_
      | refine aw_skip ?_
      | refine aw_region ?_
      | refine aw_region_draw mixed ?_
      | refine aw_exit ?_
      | refine rq_exit ?_
      | refine blockQ_hit ?_
      | refine blockQ_miss (by decide) ?_)
structure OuOk (o : Ou) : Prop where
  rg : o.rg.length ≤ maxLen
  each : ∀ l ∈ o.rg, l.length ≤ maxLen
  mem : o.mem.length ≤ maxLen
set_option maxHeartbeats 16000000 in
theorem c_Compare [Trk] {a b : Ou} (ha : OuOk a) (hb : OuOk b) : SC Tryd.prog 19 [.agg (ouC a), .agg (ouC b)] (I .i64 (cmpF a b)) := by
  have h1 := c_byL ha.rg hb.rg ha.each hb.each
  have h2 := c_nums ha.mem hb.mem
  unfold cmpF
  have h3 := c_or (x := byF numsF a.rg b.rg) (y := numsF a.mem b.mem)
  generalize byF numsF a.rg b.rg = x at *
  generalize numsF a.mem b.mem = y at *
  generalize (if x = 0 then y else x) = v at *
  refine scx_of Tryd.func19 rfl rfl rfl (Nat.le_of_ble_eq_true rfl) ?_
  repeat' (first
    | exact aw_ret (ret_vals (by simp; exact rfl) (by simp [*]; fail_if_success (show _)))
    | exact aw_ret (ret_vals (by simp; exact rfl) (by simp [*]; omega))
    | refine ar_end rfl ?_
    | refine ar_endD rfl (by kernel_rfl) ?_
    | refine ar_fin rfl ?_
    | refine ar_finD rfl (by kernel_rfl) ?_
    | refine ar_callV Tryd.call40 h1 rfl rfl rfl rfl rfl (by simp; done) (by rfl) (by simp; done) ?_
    | refine ar_callV_if Tryd.call40 h1 rfl rfl rfl rfl rfl rfl (by simp; done) rfl (by rfl) (by simp; done) ?_
    | refine ar_callV Tryd.call36 h2 rfl rfl rfl rfl rfl (by simp; done) (by rfl) (by simp; done) ?_
    | refine ar_callV_if Tryd.call36 h2 rfl rfl rfl rfl rfl rfl (by simp; done) rfl (by rfl) (by simp; done) ?_
    | refine ar_callV Tryd.call39 h3 rfl rfl rfl rfl rfl (by simp; done) (by rfl) (by simp; done) ?_
    | refine ar_callV_if Tryd.call39 h3 rfl rfl rfl rfl rfl rfl (by simp; done) rfl (by rfl) (by simp; done) ?_
    | refine ar_frzV_if Tryd.call39 h3 rfl rfl rfl rfl rfl rfl (by simp; exact rfl) (by simp; fail_if_success (show _)) (by simp; exact rfl) rfl (by simp; done) (by first | (simp; done) | (simp; exact rfl)) ⟨by rfl, by rfl, by rfl⟩ ?_
    | refine ar_frzV Tryd.call39 h3 rfl rfl rfl rfl (by simp; exact rfl) (by simp; fail_if_success (show _)) (by simp; exact rfl) rfl (by simp; done) (by first | (simp; done) | (simp; exact rfl)) ⟨by rfl, by rfl, by rfl⟩ ?_
    | refine ar_go3 _ rfl (by simp [ints_len, ints_getE, rgL_len, rgL_getE, atsL_len, atsL_getE, cosL_len, cosL_getE, ousL_len, ousL_getE, atC, ouC, coC]; exact ⟨rfl, rfl, rfl⟩) rfl ?_
    | refine aw_sregK 0 [0, 1] ?_
    | refine aw_regK 0 [0, 1] ?_
    | refine aw_sregK 1 [2, 3] ?_
    | refine aw_regK 1 [2, 3] ?_
    | refine aw_sregKD mixed 2 [2, 3, 5] (by simp; exact rfl) ?_
    | refine aw_regKD mixed 2 [2, 3, 5] (by simp; exact rfl) ?_
    | refine aw_sreg ?_
    | refine aw_sregD mixed ?_
    | refine aw_ifT (b := true) rfl rfl ?_
    | refine aw_ifF (b := false) rfl rfl ?_
    | refine aw_ifT rfl (by assumption) ?_
    | refine aw_ifF rfl (by assumption) ?_
    | refine aw_ifT rfl (decide_eq_true (by assumption)) ?_
    | refine aw_ifF rfl (decide_eq_false (by assumption)) ?_
    | refine aw_seq ?_
    | refine aw_block ?_
    | refine aw_skip ?_
    | refine aw_region ?_
    | refine aw_region_draw mixed ?_
    | refine aw_exit ?_
    | refine rq_exit ?_
    | refine blockQ_hit ?_
    | refine blockQ_miss (by decide) ?_)
end Go.Eng
