import Derived.Test.YtamjcdfjkekdjaaFlowG
set_option linter.unusedSimpArgs false
set_option linter.unusedVariables false
set_option linter.constructorNameAsVariable false
set_option autoImplicit false
namespace Go.Eng
open Go Go.RowKit Go.Proofs
/-! Without barriers. -/
def rwE (e : Ev) : Bool := decide (e.k = 1) || decide (e.k = 2)
def nobX (x : In) : Bool := decide (¬x.op = 11) && decide (¬x.op = 12)
structure Sim (A B : Rn) : Prop where
  es : B.es = A.es.filter rwE
  v0 : B.v0 = A.v0
  v1 : B.v1 = A.v1
  v2 : B.v2 = A.v2
  v3 : B.v3 = A.v3
  nv : B.nv = A.nv
  nl : B.nl = A.nl
  more : B.more = A.more
  sa : A.skip = 0
  sb : B.skip = 0
  last : (A.last < 0 ∧ B.last < 0) ∨ (0 ≤ A.last ∧ 0 ≤ B.last ∧ ∃ e, A.es[A.last.toNat]? = some e ∧ B.es[B.last.toNat]? = some e)
theorem Sim.gv {A B : Rn} (h : Sim A B) (n : Int) : B.gv n = A.gv n := by unfold Rn.gv; rw [h.v0, h.v1, h.v2, h.v3]
theorem Sim.loc {A B : Rn} (h : Sim A B) (x : In) (locs : Int) : B.loc x locs = A.loc x locs := by unfold Rn.loc; rw [h.gv]
theorem Sim.reg {A B : Rn} (h : Sim A B) (n v d d' : Int) : Sim (A.reg n v d) (B.reg n v d') :=
  ⟨h.es, by show (if n = 0 then v else B.v0) = _; rw [h.v0]; rfl, by show (if n = 1 then v else B.v1) = _; rw [h.v1]; rfl, by show (if n = 2 then v else B.v2) = _; rw [h.v2]; rfl, by show (if n = 3 then v else B.v3) = _; rw [h.v3]; rfl, h.nv, h.nl, h.more, h.sa, h.sb, h.last⟩
theorem snoc_some {α : Type} {l : List α} {a e : α} {i : Nat} (h : l[i]? = some e) : (l ++ [a])[i]? = some e := by
  obtain ⟨h1, h2⟩ := List.getElem?_eq_some_iff.1 h
  rw [List.getElem?_append_left h1, h]
theorem Sim.event {A B : Rn} (h : Sim A B) {e : Ev} (he : rwE e = true) (a d p a' d' p' : Int) : Sim (A.event e a d p) (B.event e a' d' p') := by
  refine ⟨by simp [Rn.event, h.es, List.filter_append, he], h.v0, h.v1, h.v2, h.v3, h.nv, h.nl, h.more, h.sa, h.sb, ?_⟩
  rcases h.last with hl | ⟨h1, h2, e', h3, h4⟩
  · exact .inl hl
  · exact .inr ⟨h1, h2, e', snoc_some h3, snoc_some h4⟩
theorem Sim.bar {A B : Rn} (h : Sim A B) {e : Ev} (he : rwE e = false) (a d p : Int) : Sim (A.event e a d p) B := by
  refine ⟨by simp [Rn.event, h.es, List.filter_append, he], h.v0, h.v1, h.v2, h.v3, h.nv, h.nl, h.more, h.sa, h.sb, ?_⟩
  rcases h.last with hl | ⟨h1, h2, e', h3, h4⟩
  · exact .inl hl
  · exact .inr ⟨h1, h2, e', snoc_some h3, h4⟩
theorem sim_step {A B : Rn} {x : In} {locs : Int} {vals : List Int} {lucks : List Bool} (h : Sim A B) (h11 : ¬x.op = 11) (h12 : ¬x.op = 12) (h13 : ¬x.op = 13) (h14 : ¬x.op = 14) : Sim (A.step x locs vals lucks) (B.step x locs vals lucks) := by
  unfold Rn.step
  by_cases h1 : kindF x.op = 1
  · rw [if_pos h1, if_pos h1]
    by_cases hv : A.nv.toNat < vals.length
    · have hv' : B.nv.toNat < vals.length := by rw [h.nv]; exact hv
      rw [dif_pos hv, dif_pos hv']
      have hvv : vals[B.nv.toNat] = vals[A.nv.toNat] := by congr 1; rw [h.nv]
      rw [hvv]
      generalize vals[A.nv.toNat] = v
      have key : Sim (A.load1 x locs v) (B.load1 x locs v) := by
        unfold Rn.load1
        have hl : ({ B with nv := B.nv + 1 } : Rn).loc x locs = A.loc x locs := h.loc x locs
        rw [h.loc x locs]
        exact Sim.event (A := { A with nv := A.nv + 1 }) (B := { B with nv := B.nv + 1 }) ⟨h.es, h.v0, h.v1, h.v2, h.v3, by show B.nv + 1 = A.nv + 1; rw [h.nv], h.nl, h.more, h.sa, h.sb, h.last⟩ (by rfl) _ _ _ _ _ _
      unfold Rn.load
      by_cases h9 : x.op = 9
      · rw [if_pos h9, if_pos h9]
        refine Sim.reg (A := { A.load1 x locs v with last := A.es.length }) (B := { B.load1 x locs v with last := B.es.length }) ⟨key.es, key.v0, key.v1, key.v2, key.v3, key.nv, key.nl, key.more, key.sa, key.sb, .inr ⟨Int.natCast_nonneg _, Int.natCast_nonneg _, ⟨0, 1, A.loc x locs, v, decide (x.op = 7), false, decide (x.op = 9)⟩, ?_, ?_⟩⟩ _ _ _ _
        · show (A.es ++ [_])[((A.es.length : Int)).toNat]? = _
          rw [Int.toNat_natCast]; simp
        · show (B.es ++ [_])[((B.es.length : Int)).toNat]? = _
          rw [Int.toNat_natCast]; simp [h.loc x locs]
      · rw [if_neg h9, if_neg h9]; exact Sim.reg key _ _ _ _
    · have hv' : ¬B.nv.toNat < vals.length := by rw [h.nv]; exact hv
      rw [dif_neg hv, dif_neg hv']
      exact ⟨h.es, h.v0, h.v1, h.v2, h.v3, h.nv, h.nl, rfl, h.sa, h.sb, h.last⟩
  rw [if_neg h1, if_neg h1]
  by_cases h10 : x.op = 10
  · rw [if_pos h10, if_pos h10]
    have far : Sim (A.excl0 x) (B.excl0 x) := by
      unfold Rn.excl0
      exact Sim.reg (A := { A with last := -1 }) (B := { B with last := -1 }) ⟨h.es, h.v0, h.v1, h.v2, h.v3, h.nv, h.nl, h.more, h.sa, h.sb, .inl ⟨by show (-1 : Int) < 0; omega, by show (-1 : Int) < 0; omega⟩⟩ _ _ _ _
    unfold Rn.exclF
    rcases h.last with ⟨l1, l2⟩ | ⟨l1, l2, e, l3, l4⟩
    · rw [dif_neg (by omega), dif_neg (by omega)]; exact far
    · obtain ⟨k1, k2⟩ := List.getElem?_eq_some_iff.1 l3
      obtain ⟨k3, k4⟩ := List.getElem?_eq_some_iff.1 l4
      have d1 : 0 ≤ A.last ∧ A.last.toNat < A.es.length := ⟨l1, k1⟩
      have d2 : 0 ≤ B.last ∧ B.last.toNat < B.es.length := ⟨l2, k3⟩
      rw [dif_pos d1, dif_pos d2, k2, k4, h.loc x locs]
      by_cases hloc : e.l = A.loc x locs
      · rw [if_pos hloc, if_pos hloc]
        by_cases hk : A.nl.toNat < lucks.length
        · have hk' : B.nl.toNat < lucks.length := by rw [h.nl]; exact hk
          rw [dif_pos hk, dif_pos hk']
          have hvv : lucks[B.nl.toNat] = lucks[A.nl.toNat] := by congr 1; rw [h.nl]
          rw [hvv]
          have base : Sim { A with last := -1, nl := A.nl + 1 } { B with last := -1, nl := B.nl + 1 } := ⟨h.es, h.v0, h.v1, h.v2, h.v3, h.nv, by show B.nl + 1 = A.nl + 1; rw [h.nl], h.more, h.sa, h.sb, .inl ⟨by show (-1 : Int) < 0; omega, by show (-1 : Int) < 0; omega⟩⟩
          by_cases hb : lucks[A.nl.toNat] = true
          · rw [if_pos hb, if_pos hb]
            unfold Rn.exclY Rn.store
            refine Sim.reg ?_ _ _ _ _
            rw [base.loc x locs, base.gv]
            have e1 : decide (0 ≤ B.last) = decide (0 ≤ A.last) := by simp [l1, l2]
            rw [e1]
            exact base.event rfl _ _ _ _ _ _
          · rw [if_neg hb, if_neg hb]
            unfold Rn.exclN
            exact Sim.reg base _ _ _ _
        · have hk' : ¬B.nl.toNat < lucks.length := by rw [h.nl]; exact hk
          rw [dif_neg hk, dif_neg hk']
          exact ⟨h.es, h.v0, h.v1, h.v2, h.v3, h.nv, h.nl, rfl, h.sa, h.sb, h.last⟩
      · rw [if_neg hloc, if_neg hloc]; exact far
  rw [if_neg h10, if_neg h10]
  by_cases h2 : kindF x.op = 2
  · rw [if_pos h2, if_pos h2]
    unfold Rn.store
    rw [h.loc x locs, h.gv]
    exact h.event rfl _ _ _ _ _ _
  rw [if_neg h2, if_neg h2, if_neg (by omega), if_neg (by omega), if_neg (by omega), if_neg (by omega)]
  unfold Rn.alone
  by_cases ho : x.op = 1
  · rw [if_pos ho, if_pos ho]; exact h.reg _ _ _ _
  · rw [if_neg ho, if_neg ho, h.gv, h.gv]; exact h.reg _ _ _ _
theorem sim_run {locs : Int} {vals : List Int} {lucks : List Bool} : ∀ (l : List In) (A B : Rn), Sim A B → NoBra l → (∀ x ∈ l, ∃ β, mayI x β locs = true) → Sim (runL locs vals lucks A l) (runL locs vals lucks B (l.filter nobX))
  | [], A, B, h, _, _ => h
  | x :: l, A, B, h, hn, hm => by
    by_cases h0 : A.more = 0
    · have h0' : B.more = 0 := by rw [h.more]; exact h0
      rw [runL, if_pos h0]
      have ha : A.run1 x locs vals lucks = A.step x locs vals lucks := by unfold Rn.run1; rw [if_neg (by rw [h.sa]; omega)]
      rw [ha]
      have hn' : NoBra l := fun y hy => hn y (by simp [hy])
      have hm' : ∀ y ∈ l, ∃ β, mayI y β locs = true := fun y hy => hm y (by simp [hy])
      cases hx : nobX x
      · rw [List.filter_cons_of_neg (by rw [hx]; decide)]
        have hop : x.op = 11 ∨ x.op = 12 := by unfold nobX at hx; simp at hx; omega
        have hst : A.step x locs vals lucks = A.fence x := by
          unfold Rn.step
          rw [if_neg (by rw [kind1]; omega), if_neg (by omega), if_neg (by rw [kind2]; omega), if_pos hop]
        rw [hst]
        obtain ⟨β, hβ⟩ := hm x (by simp)
        refine sim_run l _ _ ?_ hn' hm'
        unfold Rn.fence
        obtain ⟨q, e, q1, q2⟩ := fence_k hβ hop
        rw [e]
        exact h.bar (by unfold rwE; simp; omega) _ _ _
      · rw [List.filter_cons_of_pos hx, runL, if_pos h0']
        have hb : B.run1 x locs vals lucks = B.step x locs vals lucks := by unfold Rn.run1; rw [if_neg (by rw [h.sb]; omega)]
        rw [hb]
        obtain ⟨n13, n14⟩ := hn x (by simp)
        unfold nobX at hx
        simp at hx
        exact sim_run l _ _ (sim_step h hx.1 hx.2 n13 n14) hn' hm'
    · have h0' : ¬B.more = 0 := by rw [h.more]; exact h0
      rw [runL_stop h0, runL_stop h0']; exact h
theorem bare_run {th : List In} {vals : List Int} {lucks : List Bool} (h : mayB 2 th = true) (hn : NoBra th) : Sim (runF th 2 vals lucks) (runF (th.filter nobX) 2 vals lucks) := by
  have h2 := may_sub (s := th.filter nobX) h hn (fun x hx => (List.mem_filter.1 hx).1) (List.length_filter_le _ _)
  have e1 : runF th 2 vals lucks = runL 2 vals lucks Rn0 th := by simp [runF, h]
  have e2 : runF (th.filter nobX) 2 vals lucks = runL 2 vals lucks Rn0 (th.filter nobX) := by simp [runF, h2]
  rw [e1, e2]
  refine sim_run th Rn0 Rn0 ⟨rfl, rfl, rfl, rfl, rfl, rfl, rfl, rfl, rfl, rfl, .inl ⟨by decide, by decide⟩⟩ hn ?_
  intro x hx
  obtain ⟨j, hj, e⟩ := List.getElem_of_mem hx
  exact ⟨_, by rw [← e]; exact (mayB_facts h).2.2.2 j hj⟩
end Go.Eng
