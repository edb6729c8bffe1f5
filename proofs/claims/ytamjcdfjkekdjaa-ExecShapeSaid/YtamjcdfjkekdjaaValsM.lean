import Derived.Test.YtamjcdfjkekdjaaValsQ
import Derived.Test.YtamjcdfjkekdjaaFlowE
set_option linter.unusedSimpArgs false
set_option linter.unusedVariables false
set_option linter.constructorNameAsVariable false
set_option autoImplicit false
namespace Go.Eng
open Go Go.RowKit Go.Proofs
theorem tell_run {th : List In} {locs : Int} {vals : List Int} : ∀ (f : Nat) (v : List Int) (b : List Bool), (∀ n ∈ v, n ∈ vals) → ∀ R ∈ tellF th locs vals f v b, ∃ v' b', R = runF th locs v' b' ∧ (∀ n ∈ v', n ∈ vals) ∧ R.more = 0
  | 0, v, b, _, R, h => by simp [tellF] at h
  | f + 1, v, b, hv, R, h => by
    rw [tellF] at h
    split at h
    · rename_i h0
      simp only [List.mem_singleton] at h
      subst h
      exact ⟨v, b, rfl, hv, h0⟩
    split at h
    · obtain ⟨n, hn, h⟩ := List.mem_flatMap.1 h
      exact tell_run f (v ++ [n]) b (fun m hm => by
        rcases List.mem_append.1 hm with hm | hm
        · exact hv m hm
        · rw [List.mem_singleton] at hm; rw [hm]; exact hn) R h
    · rcases List.mem_append.1 h with h | h
      · exact tell_run f v _ hv R h
      · exact tell_run f v _ hv R h
theorem traces_run {th : List In} {locs : Int} {vals : List Int} : ∀ R ∈ tracesF th locs vals, ∃ v' b', R = runF th locs v' b' ∧ (∀ n ∈ v', n ∈ vals) ∧ R.more = 0 := by
  unfold tracesF
  split
  · simp
  · exact tell_run 13 [] [] (by simp)
structure TrOk (R : Rn) : Prop where
  w : RnW R
  es : R.es.length ≤ 8
  ad : R.ad.length = R.es.length
  da : R.da.length = R.es.length
  ct : R.ct.length = R.es.length
  pa : R.pa.length = R.es.length
  more : R.more = 0
theorem traces_ok {th : List In} {locs : Int} {vals : List Int} (hth : ∀ x ∈ th, wfIn x) (hv : ∀ n ∈ vals, W64 n) : ∀ R ∈ tracesF th locs vals, TrOk R := by
  intro R hR
  obtain ⟨v, b, rfl, h1, h2⟩ := traces_run R hR
  obtain ⟨w, k, hk, hI⟩ := run_wf (locs := locs) (lucks := b) hth (fun n hn => hv n (h1 n hn))
  exact ⟨w, Nat.le_trans hI.es hk, hI.ad, hI.da, hI.ct, hI.pa, h2⟩
theorem traces_reads {th : List In} {locs : Int} {vals : List Int} : ∀ R ∈ tracesF th locs vals, ∀ e ∈ R.es, e.k = 1 → e.v ∈ vals := by
  intro R hR e he hk
  obtain ⟨v, b, rfl, h1, h2⟩ := traces_run R hR
  have h := run_reads (th := th) (locs := locs) (vals := v) (lucks := b)
  unfold ReadsQ at h
  have hm : e.v ∈ ((runF th locs v b).es.filter rdE).map (·.v) := List.mem_map.2 ⟨e, List.mem_filter.2 ⟨he, by simp [rdE, hk]⟩, rfl⟩
  rw [h] at hm
  exact h1 _ (List.mem_of_mem_take hm)
theorem tell_mono {th : List In} {locs : Int} {a c : List Int} (h : ∀ n ∈ a, n ∈ c) : ∀ (f : Nat) (v : List Int) (b : List Bool), ∀ R ∈ tellF th locs a f v b, R ∈ tellF th locs c f v b
  | 0, v, b, R, hR => by simp [tellF] at hR
  | f + 1, v, b, R, hR => by
    rw [tellF] at hR ⊢
    split at hR
    · rename_i h0; rw [if_pos h0]; exact hR
    rename_i h0
    rw [if_neg h0]
    split at hR
    · rename_i h1
      rw [if_pos h1]
      obtain ⟨n, hn, hR⟩ := List.mem_flatMap.1 hR
      exact List.mem_flatMap.2 ⟨n, h n hn, tell_mono h f _ _ R hR⟩
    · rename_i h1
      rw [if_neg h1]
      rcases List.mem_append.1 hR with hR | hR
      · exact List.mem_append.2 (.inl (tell_mono h f _ _ R hR))
      · exact List.mem_append.2 (.inr (tell_mono h f _ _ R hR))
theorem flat_le {α β : Type} {g k : α → List β} : ∀ (l : List α), (∀ x ∈ l, (g x).length ≤ (k x).length) → (l.flatMap g).length ≤ (l.flatMap k).length
  | [], _ => by simp
  | x :: l, h => by
    rw [List.flatMap_cons, List.flatMap_cons, List.length_append, List.length_append]
    have h1 := h x (by simp)
    have h2 := flat_le l (fun y hy => h y (by simp [hy]))
    omega
theorem tell_more {th : List In} {locs : Int} {a : List Int} {n : Int} : ∀ (f : Nat) (v : List Int) (b : List Bool), (tellF th locs a f v b).length ≤ (tellF th locs (a ++ [n]) f v b).length
  | 0, v, b => by simp [tellF]
  | f + 1, v, b => by
    rw [tellF, tellF]
    split
    · exact Nat.le_refl _
    split
    · rw [List.flatMap_append, List.length_append]
      exact Nat.le_trans (flat_le a fun x _ => tell_more f (v ++ [x]) b) (Nat.le_add_right _ _)
    · rw [List.length_append, List.length_append]
      exact Nat.add_le_add (tell_more f v _) (tell_more f v _)
theorem traces_more {th : List In} {locs : Int} {a : List Int} {n : Int} : (tracesF th locs a).length ≤ (tracesF th locs (a ++ [n])).length := by
  unfold tracesF
  split
  · simp
  · exact tell_more 13 [] []
theorem traces_many {th : List In} {locs : Int} {a : List Int} (h : 4 < ldN th) : tracesF th locs a = [] := by
  unfold tracesF
  rw [if_pos h]
theorem tell_noload {th : List In} {locs : Int} {a c : List Int} (h : ldN th = 0) : ∀ (f : Nat) (v : List Int) (b : List Bool), tellF th locs a f v b = tellF th locs c f v b
  | 0, v, b => by simp [tellF]
  | f + 1, v, b => by
    have hw := (run_wants (th := th) (locs := locs) (vals := v) (lucks := b)).1
    rw [tellF, tellF]
    split
    · rfl
    split
    · rename_i h1
      have := (hw h1).1
      omega
    · rw [tell_noload (c := c) h f v (b ++ [true]), tell_noload (c := c) h f v (b ++ [false])]
theorem traces_noload {th : List In} {locs : Int} {a c : List Int} (h : ldN th = 0) : tracesF th locs a = tracesF th locs c := by
  unfold tracesF
  rw [tell_noload h]
def plainX (x : In) : Bool := (decide (¬x.op = 10) && decide (¬x.op = 13)) && decide (¬x.op = 14)
theorem run_plainL {locs : Int} {v : List Int} {b : List Bool} : ∀ (l : List In) (R : Rn), (∀ x ∈ l, plainX x = true) → R.more = 0 → R.skip = 0 → 0 ≤ R.nv → R.nv ≤ v.length →
    (runL locs v b R l).more = if (v.length : Int) < R.nv + ldN l then 1 else 0
  | [], R, _, h0, _, hn, hv => by
    rw [runL, h0, if_neg (by simp [ldN]; omega)]
  | x :: l, R, hp, h0, hs, hn, hv => by
    have hx := hp x (by simp)
    simp only [plainX, Bool.and_eq_true, decide_eq_true_eq] at hx
    obtain ⟨⟨q10, q13⟩, q14⟩ := hx
    have e : (ldN (x :: l) : Int) = ldN l + (if kindF x.op = 1 then 1 else 0) := by
      unfold ldN; rw [List.filter_cons]
      by_cases h : kindF x.op = 1 <;> simp [h]
    rw [runL, if_pos h0, e]
    have hr : R.run1 x locs v b = R.step x locs v b := by unfold Rn.run1; rw [if_neg (by omega)]
    rw [hr]
    have ih := run_plainL (locs := locs) (v := v) (b := b) l
    have hpl : ∀ y ∈ l, plainX y = true := fun y hy => hp y (by simp [hy])
    by_cases k1 : kindF x.op = 1
    · rw [if_pos k1]
      unfold Rn.step
      rw [if_pos k1]
      by_cases hlt : R.nv.toNat < v.length
      · rw [dif_pos hlt]
        have e1 : (R.load x locs v[R.nv.toNat]).nv = R.nv + 1 ∧ (R.load x locs v[R.nv.toNat]).more = R.more ∧ (R.load x locs v[R.nv.toNat]).skip = R.skip := by
          unfold Rn.load
          split <;> exact ⟨rfl, rfl, rfl⟩
        obtain ⟨e1, e2, e3⟩ := e1
        rw [ih _ hpl (by omega) (by omega) (by omega) (by omega), e1]
        by_cases hc : (v.length : Int) < R.nv + 1 + ldN l
        · rw [if_pos hc, if_pos (by omega)]
        · rw [if_neg hc, if_neg (by omega)]
      · rw [dif_neg hlt, runL_stop (by show ¬(1 : Int) = 0; decide)]
        rw [if_pos (by omega)]
    · rw [if_neg k1]
      have key : ∀ S : Rn, S.nv = R.nv → S.more = R.more → S.skip = R.skip → (runL locs v b S l).more = if (v.length : Int) < R.nv + (ldN l + 0) then 1 else 0 := by
        intro S s1 s2 s3
        rw [ih S hpl (by omega) (by omega) (by omega) (by omega), s1]
        by_cases hc : (v.length : Int) < R.nv + ldN l
        · rw [if_pos hc, if_pos (by omega)]
        · rw [if_neg hc, if_neg (by omega)]
      unfold Rn.step
      rw [if_neg k1, if_neg q10]
      split
      · exact key _ rfl rfl rfl
      split
      · exact key _ rfl rfl rfl
      rw [if_neg (by omega)]
      have hal : (R.alone x).nv = R.nv ∧ (R.alone x).more = R.more ∧ (R.alone x).skip = R.skip := by unfold Rn.alone; split <;> exact ⟨rfl, rfl, rfl⟩
      exact key _ hal.1 hal.2.1 hal.2.2
theorem run_plain {th : List In} {locs : Int} {v : List Int} {b : List Bool} (hm : mayB locs th = true) (hp : ∀ x ∈ th, plainX x = true) : (runF th locs v b).more = if v.length < ldN th then 1 else 0 := by
  unfold runF
  rw [if_pos hm, run_plainL th Rn0 hp rfl rfl (by show (0 : Int) ≤ 0; decide) (by show (0 : Int) ≤ _; omega)]
  show (if (v.length : Int) < 0 + (ldN th : Int) then (1 : Int) else 0) = _
  by_cases h : v.length < ldN th
  · rw [if_pos h, if_pos (by omega)]
  · rw [if_neg h, if_neg (by omega)]
theorem flat_const {α β : Type} {g : α → List β} {m : Nat} : ∀ (l : List α), (∀ x ∈ l, (g x).length = m) → (l.flatMap g).length = l.length * m
  | [], _ => by simp
  | x :: l, h => by
    rw [List.flatMap_cons, List.length_append, List.length_cons, Nat.succ_mul, h x (by simp), flat_const l (fun y hy => h y (by simp [hy])), Nat.add_comm]
theorem tell_count {th : List In} {locs : Int} {vals : List Int} (hm : mayB locs th = true) (hp : ∀ x ∈ th, plainX x = true) : ∀ (f : Nat) (v : List Int), v.length ≤ ldN th → ldN th - v.length < f → (tellF th locs vals f v []).length = vals.length ^ (ldN th - v.length)
  | 0, v, _, h => by omega
  | f + 1, v, h1, h2 => by
    have hr := run_plain (v := v) (b := []) hm hp
    rw [tellF]
    by_cases hc : v.length < ldN th
    · rw [if_pos hc] at hr
      rw [if_neg (by omega), if_pos hr, flat_const vals (m := vals.length ^ (ldN th - (v.length + 1))) (fun n _ => by
        have := tell_count (vals := vals) hm hp f (v ++ [n]) (by rw [List.length_append, List.length_singleton]; omega) (by rw [List.length_append, List.length_singleton]; omega)
        rw [List.length_append, List.length_singleton] at this
        exact this)]
      rw [show ldN th - v.length = (ldN th - (v.length + 1)) + 1 by omega, Nat.pow_succ, Nat.mul_comm]
    · rw [if_neg hc] at hr
      rw [if_pos hr, show ldN th - v.length = 0 by omega]
      rfl
theorem traces_count {th : List In} {locs : Int} {vals : List Int} (hm : mayB locs th = true) (hp : ∀ x ∈ th, plainX x = true) (h4 : ldN th ≤ 4) : (tracesF th locs vals).length = vals.length ^ ldN th := by
  unfold tracesF
  rw [if_neg (by omega), tell_count hm hp 13 [] (by simp) (by simp; omega)]
  rfl
end Go.Eng
