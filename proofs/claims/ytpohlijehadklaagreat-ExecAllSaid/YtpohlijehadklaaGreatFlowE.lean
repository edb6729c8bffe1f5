import Derived.Test.YtpohlijehadklaaGreatFlowD
set_option linter.unusedSimpArgs false
set_option linter.unusedVariables false
set_option linter.constructorNameAsVariable false
set_option autoImplicit false
namespace Go.Eng
open Go Go.RowKit Go.Proofs
theorem step_elim {M : Rn → Prop} {R : Rn} {x : In} {locs : Int} {vals : List Int} {lucks : List Bool}
    (load : kindF x.op = 1 → ∀ h : R.nv.toNat < vals.length, M (R.load x locs vals[R.nv.toNat]))
    (noval : kindF x.op = 1 → ¬R.nv.toNat < vals.length → M { R with more := 1 })
    (yes : x.op = 10 → ∀ (h : 0 ≤ R.last ∧ R.last.toNat < R.es.length), (R.es[R.last.toNat]'h.2).l = R.loc x locs → ∀ hk : R.nl.toNat < lucks.length, lucks[R.nl.toNat] = true → M (R.exclY x locs))
    (no : x.op = 10 → (∃ h : 0 ≤ R.last ∧ R.last.toNat < R.es.length, (R.es[R.last.toNat]'h.2).l = R.loc x locs) → ∀ hk : R.nl.toNat < lucks.length, ¬lucks[R.nl.toNat] = true → M (R.exclN x))
    (noluck : x.op = 10 → (∃ h : 0 ≤ R.last ∧ R.last.toNat < R.es.length, (R.es[R.last.toNat]'h.2).l = R.loc x locs) → ¬R.nl.toNat < lucks.length → M { R with more := 2 })
    (far : x.op = 10 → (¬∃ h : 0 ≤ R.last ∧ R.last.toNat < R.es.length, (R.es[R.last.toNat]'h.2).l = R.loc x locs) → M (R.excl0 x))
    (store : x.op = 6 ∨ x.op = 8 → M (R.store x locs (-1)))
    (fence : x.op = 11 ∨ x.op = 12 → M (R.fence x))
    (branch : x.op = 13 ∨ x.op = 14 → M (R.branch x))
    (alone : (¬kindF x.op = 1 ∧ ¬kindF x.op = 2 ∧ ¬x.op = 11 ∧ ¬x.op = 12 ∧ ¬x.op = 13 ∧ ¬x.op = 14) → M (R.alone x)) : M (R.step x locs vals lucks) := by
  unfold Rn.step
  split
  · rename_i h1
    split
    · rename_i h; exact load h1 h
    · rename_i h; exact noval h1 h
  rename_i h1
  split
  · rename_i h10
    unfold Rn.exclF
    split
    · rename_i h
      split
      · rename_i he
        split
        · rename_i hk
          split
          · rename_i hb; exact yes h10 h he hk hb
          · rename_i hb; exact no h10 ⟨h, he⟩ hk hb
        · rename_i hk; exact noluck h10 ⟨h, he⟩ hk
      · rename_i he; exact far h10 (fun ⟨_, e⟩ => he e)
    · rename_i h; exact far h10 (fun ⟨e, _⟩ => h e)
  rename_i h10
  split
  · rename_i h2
    exact store (by rw [kind2] at h2; omega)
  rename_i h2
  split
  · rename_i h; exact fence h
  rename_i h3
  split
  · rename_i h; exact branch h
  · rename_i h; exact alone ⟨h1, h2, by omega, by omega, by omega, by omega⟩
theorem run_from {th : List In} {locs : Int} {vals : List Int} {lucks : List Bool} {Q : Rn → Prop} (h8 : th.length ≤ 8) (hmay : ∀ (j : Nat) (h : j < th.length), mayI th[j] (th.length - 1 - (j : Int)) locs = true)
    (hs : ∀ R, Q R → Q R.skip1) (hst : ∀ R x β k, x ∈ th → RnI R vals lucks k → k < 8 → mayI x β locs = true → β ≤ 1000 → R.more = 0 → Q R → Q (R.step x locs vals lucks)) :
    ∀ (l : List In) (n : Nat) (R : Rn), l = th.drop n → n ≤ th.length → RnI R vals lucks n → Q R → Q (runL locs vals lucks R l) ∧ ∃ k, k ≤ 8 ∧ RnI (runL locs vals lucks R l) vals lucks k
  | [], n, R, hl, hn, hI, hQ => ⟨hQ, n, by omega, hI⟩
  | x :: l, n, R, hl, hn, hI, hQ => by
    have hlt : n < th.length := by
      by_cases h : n < th.length
      · exact h
      · rw [List.drop_eq_nil_of_le (by omega)] at hl; cases hl
    rw [List.drop_eq_getElem_cons hlt] at hl
    injection hl with e1 e2
    rw [runL]
    by_cases h0 : R.more = 0
    · rw [if_pos h0]
      have hmx := hmay n hlt
      rw [← e1] at hmx
      unfold Rn.run1
      by_cases hk : 0 < R.skip
      · rw [if_pos hk]
        refine run_from h8 hmay hs hst l (n + 1) _ e2 (by omega) ?_ (hs R hQ)
        have := hI.skip
        exact ⟨Nat.le_succ_of_le hI.es, hI.ad, hI.da, hI.ct, hI.pa, hI.nv, hI.nl, hI.last, by show 0 ≤ R.skip - 1 ∧ R.skip - 1 ≤ 1000; omega⟩
      · rw [if_neg hk]
        refine run_from h8 hmay hs hst l (n + 1) _ e2 (by omega) (step_inv hI hmx (by omega)) (hst R x _ n ?_ hI (by omega) hmx (by omega) h0 hQ)
        rw [e1]; exact List.getElem_mem hlt
    · rw [if_neg h0]; exact ⟨hQ, n, by omega, hI⟩
theorem run_ind {th : List In} {locs : Int} {vals : List Int} {lucks : List Bool} {Q : Rn → Prop} (h0 : Q Rn0)
    (hs : ∀ R, Q R → Q R.skip1) (hst : 1 ≤ locs → locs ≤ 3 → ∀ R x β k, x ∈ th → RnI R vals lucks k → k < 8 → mayI x β locs = true → β ≤ 1000 → R.more = 0 → Q R → Q (R.step x locs vals lucks)) :
    Q (runF th locs vals lucks) ∧ ∃ k, k ≤ 8 ∧ RnI (runF th locs vals lucks) vals lucks k := by
  unfold runF
  split
  · rename_i hm
    obtain ⟨h8, l1, l3, hmay⟩ := mayB_facts hm
    exact run_from h8 hmay hs (hst l1 l3) th 0 Rn0 (by simp) (by omega) Rn0_inv h0
  · exact ⟨h0, 0, by omega, Rn0_inv⟩
theorem w0 : W64 0 := by decide
theorem w1 : W64 1 := by decide
theorem w2 : W64 2 := by decide
theorem W64.small {n : Int} (h : -1000 ≤ n ∧ n ≤ 1000) : W64 n := by
  have := wf_wrap .i64 n
  rwa [wrap64s (by omega) (by omega)] at this
theorem w64_get {R : Rn} (h : RnW R) (n : Int) : W64 (R.gv n) := by
  unfold Rn.gv get4; exact W64.ite h.v0 (W64.ite h.v1 (W64.ite h.v2 (W64.ite h.v3 (W64.small (by omega)))))
theorem wf_reg {R : Rn} (h : RnW R) {n v d : Int} (hv : W64 v) (hd : W32 d) : RnW (R.reg n v d) :=
  ⟨h.es, W64.ite hv h.v0, W64.ite hv h.v1, W64.ite hv h.v2, W64.ite hv h.v3, W32.ite hd h.d0, W32.ite hd h.d1, W32.ite hd h.d2, W32.ite hd h.d3⟩
theorem wf_event {R : Rn} (h : RnW R) {e : Ev} (a d p : Int) (he : wfE e) : RnW (R.event e a d p) := by
  refine ⟨?_, h.v0, h.v1, h.v2, h.v3, h.d0, h.d1, h.d2, h.d3⟩
  intro e' h'
  simp only [Rn.event, List.mem_append, List.mem_singleton] at h'
  rcases h' with h' | rfl
  · exact h.es _ h'
  · exact he
theorem loc_bnd {R : Rn} {x : In} {locs : Int} (h1 : 1 ≤ locs) (h3 : locs ≤ 3) : 0 ≤ R.loc x locs ∧ R.loc x locs < 3 := by
  unfold Rn.loc
  split
  · omega
  · have := Int.emod_nonneg (x.l + R.gv x.a) (b := locs) (by omega)
    have := Int.emod_lt_of_pos (x.l + R.gv x.a) (b := locs) (by omega)
    omega
theorem wf_loc {R : Rn} {x : In} {locs : Int} (h1 : 1 ≤ locs) (h3 : locs ≤ 3) : W64 (R.loc x locs) := W64.small (by have := loc_bnd (R := R) (x := x) h1 h3; omega)
theorem fence_kind {x : In} {β locs : Int} (h : mayI x β locs = true) (h11 : x.op = 11) : 0 ≤ x.m ∧ x.m ≤ 2 := by
  have hI : hasI x.op = true := by unfold hasI; simp; omega
  unfold mayI mayF at h
  simp only [Bool.and_eq_true, hI, cond_true] at h
  have h5 := h.2.2.2.2
  unfold immF at h5
  rw [if_neg (by omega), if_pos h11] at h5
  unfold betw at h5
  simpa using h5
theorem run_wf {th : List In} {locs : Int} {vals : List Int} {lucks : List Bool} (hth : ∀ x ∈ th, wfIn x) (hv : ∀ v ∈ vals, W64 v) : RnW (runF th locs vals lucks) ∧ ∃ k, k ≤ 8 ∧ RnI (runF th locs vals lucks) vals lucks k := by
  refine run_ind (Q := RnW) ⟨(by intro e h; cases h), by decide, by decide, by decide, by decide, by decide, by decide, by decide, by decide⟩ (fun R h => ⟨h.es, h.v0, h.v1, h.v2, h.v3, h.d0, h.d1, h.d2, h.d3⟩) ?_
  intro l1 l3 R x β k hx hI hk hm hβ h0 hW
  have k0 : W32 0 := by decide
  have k1 : W64 1 := by decide
  have k2 : W64 0 := by decide
  have wl : ∀ (R' : Rn), RnW R' → RnW (R'.store x locs (-1)) := fun R' h => wf_event h _ _ _ ⟨w0, w2, wf_loc l1 l3, w64_get h _⟩
  refine step_elim (M := RnW) (fun h1 h => ?_) (fun _ _ => ⟨hW.es, hW.v0, hW.v1, hW.v2, hW.v3, hW.d0, hW.d1, hW.d2, hW.d3⟩) (fun _ h he hkk hb => ?_) (fun _ _ _ _ => ?_) (fun _ _ _ => ⟨hW.es, hW.v0, hW.v1, hW.v2, hW.v3, hW.d0, hW.d1, hW.d2, hW.d3⟩) (fun _ _ => ?_) (fun _ => wl R hW) (fun h => ?_) (fun _ => ⟨hW.es, hW.v0, hW.v1, hW.v2, hW.v3, hW.d0, hW.d1, hW.d2, hW.d3⟩) (fun _ => ?_)
  · have hvv := hv _ (List.getElem_mem h)
    unfold Rn.load
    refine wf_reg ?_ hvv (wf_wrap _ _)
    have I1 : RnW (R.load1 x locs vals[R.nv.toNat]) := by
      unfold Rn.load1
      have hW' : RnW { R with nv := R.nv + 1 } := ⟨hW.es, hW.v0, hW.v1, hW.v2, hW.v3, hW.d0, hW.d1, hW.d2, hW.d3⟩
      exact wf_event hW' _ _ _ ⟨w0, w1, wf_loc l1 l3, hvv⟩
    split
    · exact ⟨I1.es, I1.v0, I1.v1, I1.v2, I1.v3, I1.d0, I1.d1, I1.d2, I1.d3⟩
    · exact I1
  · unfold Rn.exclY
    refine wf_reg ?_ k2 k0
    have hW' : RnW { R with last := -1, nl := R.nl + 1 } := ⟨hW.es, hW.v0, hW.v1, hW.v2, hW.v3, hW.d0, hW.d1, hW.d2, hW.d3⟩
    exact wf_event hW' _ _ _ ⟨w0, w2, wf_loc l1 l3, w64_get hW' _⟩
  · unfold Rn.exclN
    exact wf_reg (R := { R with last := -1, nl := R.nl + 1 }) ⟨hW.es, hW.v0, hW.v1, hW.v2, hW.v3, hW.d0, hW.d1, hW.d2, hW.d3⟩ k1 k0
  · unfold Rn.excl0
    exact wf_reg (R := { R with last := -1 }) ⟨hW.es, hW.v0, hW.v1, hW.v2, hW.v3, hW.d0, hW.d1, hW.d2, hW.d3⟩ k1 k0
  · unfold Rn.fence
    refine wf_event hW _ _ _ ⟨w0, ?_, w0, w0⟩
    exact W64.ite (wf_wrap _ _) (by decide)
  · unfold Rn.alone
    split
    · exact wf_reg hW (hth x hx).2.2.2.2.2 k0
    · exact wf_reg hW (wf_opF _ _ _) (wf_bits _ _ _ _)
end Go.Eng
set_option linter.unusedSimpArgs false
set_option linter.unusedVariables false
set_option linter.constructorNameAsVariable false
set_option autoImplicit false
namespace Go.Eng
open Go Go.RowKit Go.Proofs
theorem fence_k {x : In} {β locs : Int} (hm : mayI x β locs = true) (h : x.op = 11 ∨ x.op = 12) : ∃ k, (if x.op = 11 then IntKind.wrap .i64 (3 + x.m) else 6) = k ∧ 3 ≤ k ∧ k ≤ 6 := by
  by_cases h11 : x.op = 11
  · have := fence_kind hm h11
    rw [if_pos h11, wrap64s (by omega) (by omega)]
    exact ⟨_, rfl, by omega, by omega⟩
  · rw [if_neg h11]; exact ⟨6, rfl, by omega, by omega⟩
end Go.Eng
