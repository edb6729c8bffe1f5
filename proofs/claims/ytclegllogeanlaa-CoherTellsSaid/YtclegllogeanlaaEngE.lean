import Derived.Test.YtclegllogeanlaaEngD
import Derived.Lib.SlKeysI
import Derived.Scope
set_option autoImplicit false
set_option linter.unusedVariables false
set_option linter.unusedSimpArgs false
namespace Go.Eng
open Go Go.RowKit Go.Sort Go.Proofs
variable {P : Program}
/-! ## The library's functions on slices of numbers, at own slices -/
def numsL (l : List Int) : List (List PV) := l.map fun n => [C .i64 n]
theorem nums_elems {F : Nat → Prop} {w : World} : ∀ {l : List Int} {vs : List Value}, PElems F w 1 (numsL l) vs ↔ vs = l.map (Value.int .i64)
  | [], vs => Iff.rfl
  | n :: l, vs => by
    show (∃ v1 v2, vs = v1 ++ v2 ∧ v1.length = 1 ∧ PVs F w [C .i64 n] v1 ∧ PElems F w 1 (numsL l) v2) ↔ _
    constructor
    · rintro ⟨v1, v2, rfl, _, ⟨v, vs', rfl, ⟨rfl, _⟩, rfl⟩, h⟩
      rw [nums_elems.1 h]; rfl
    · rintro rfl
      exact ⟨[.int .i64 n], l.map (Value.int .i64), rfl, rfl, ⟨_, _, rfl, ⟨rfl, rfl⟩, rfl⟩, nums_elems.2 rfl⟩
theorem numsL_len (l : List Int) : (numsL l).length = l.length := by simp [numsL]
/-- An own slice's value: of no elements, or a row. -/
theorem own_num {w : World} {e : TypeId} {v : Value} {l : List Int} {vs : List Value} (h : OwnV w e 1 v (numsL l).length vs) (hv : vs = l.map (Value.int .i64)) :
    (l = [] ∧ ∃ p cap, v = .slice p 0 cap) ∨ (l ≠ [] ∧ ∃ g cap cur, v = .slice (some ⟨g, 0, none⟩) l.length cap ∧ w.heap[g]? = some (.cells cur e (0, 0)) ∧ l.length ≤ cap ∧ cap ≤ maxLen ∧ cur.size = cap * 1 ∧ cur.toList.take l.length = l.map (Value.int .i64)) := by
  subst hv
  rw [numsL_len] at h
  cases l with
  | nil =>
    left
    refine ⟨rfl, ?_⟩
    rcases h with ⟨_, h⟩ | ⟨_, _, a, rfl⟩
    · rcases h with ⟨rfl, _⟩ | ⟨g, cap, cur, rfl, _⟩
      · exact ⟨_, _, rfl⟩
      · exact ⟨_, _, rfl⟩
    · exact ⟨_, _, rfl⟩
  | cons n l =>
    right
    refine ⟨by simp, ?_⟩
    rcases h with ⟨_, h⟩ | ⟨h0, _⟩
    · rcases h with ⟨_, h0⟩ | ⟨g, cap, cur, rfl, _, h1, h2, h3, h4, h5⟩
      · simp at h0
      · exact ⟨g, cap, cur, rfl, h1, h2, h3, h4, by simpa using h5⟩
    · simp at h0
abbrev numX (e : TypeId) (l : List Int) : SMap := [(.ext 0, some (.own e 1 (numsL l)))]
theorem exts_only {S : SMap} {s : Option Slot} (h : S = [(.ext 0, s)]) (s' : Option Slot) (n : Name) : sget [(Name.ext 0, s')] n = sget ((Name.ext 0, s') :: S) n := by
  subst h
  simp only [sget]
  split <;> simp_all
/-- What is left of a row, and what its block holds behind. -/
theorem num_row {Γ : Ctx} {ρ : Rho} {w : World} {e : TypeId} {l : List Int} {g cap : Nat} {cur : Array Value} (h : SOk Γ (numX e l) ρ w) (hv : ρ.ov (.ext 0) = .slice (some ⟨g, 0, none⟩) l.length cap) (hne : l ≠ []) (hb : w.heap[g]? = some (.cells cur e (0, 0))) (h1 : l.length ≤ cap) (h2 : cap ≤ maxLen) (h3 : cur.size = cap * 1)
    (ts rest : List Int) (hl : (ts ++ rest).length = l.length) (n : Nat) (os : Array Obj) : SOk Γ (numX e ts) (ρ.slice (.ext 0) (.slice (some ⟨g, 0, none⟩) ts.length cap)) (grow (putRow (Value.int .i64) (Sort.ahead w n) g 0 (ts ++ rest).toArray) os) := by
  have hlen : 0 < l.length := List.length_pos_iff.2 hne
  have hcap : cap ≠ 0 := by omega
  have hrow := ownsRow_sorted_i (base := 0) (n := n) (os := os) (ss := l) (ts := ts ++ rest) hl (Nat.zero_le g) hb h1 h2 h3
  have htl : ts.length ≤ l.length := by rw [← hl]; simp
  have hown : OwnV (grow (putRow (Value.int .i64) (Sort.ahead w n) g 0 (ts ++ rest).toArray) os) e 1 (.slice (some ⟨g, 0, none⟩) ts.length cap) ts.length (ts.map (Value.int .i64)) := by
    refine .inl ⟨by simp, .inr ?_⟩
    rcases hrow.2 with ⟨h0, _⟩ | ⟨g', cap', cur', e1, k1, k2, k3, k4, k5, k6⟩
    · cases h0
    · cases e1
      refine ⟨g, cap, cur', rfl, Nat.zero_le _, k2, by omega, k4, k5, ?_⟩
      have := congrArg (List.take ts.length) k6
      rw [List.take_take, Nat.min_eq_left (by omega)] at this
      rw [Nat.mul_one, this, List.map_append, List.take_left' (by simp)]
  have key := h.slot (ρ' := ρ.slice (.ext 0) (.slice (some ⟨g, 0, none⟩) ts.length cap)) (w' := grow (putRow (Value.int .i64) (Sort.ahead w n) g 0 (ts ++ rest).toArray) os) (.ext 0) (some (.own e 1 (numsL ts))) rfl (fun _ => rfl) (fun m hm => ρ.slice_same _ _ hm)
    (.inr fun m s hm => by
      simp only [numX, sget] at hm
      split at hm
      · cases hm; rfl
      · cases hm) (some g) (grownBy_sorted_i _) (fun b hb' => by
      cases hb'
      refine ⟨_, rfl, ?_⟩
      show ownBlk (ρ.ov (.ext 0)) = some g
      rw [hv]; simp [ownBlk, hcap]) (fun s hs => by
      cases hs
      refine ⟨ts.map (Value.int .i64), ?_, nums_elems.2 rfl⟩
      rw [numsL_len]
      simpa [Rho.slice] using hown) (fun s b hs hsb => by
      cases hs
      right
      simp only [slotBlk, Rho.slice, if_true] at hsb
      simpa [ownBlk, hcap] using hsb)
  exact key.ext fun m => exts_only rfl _ m
def sortI (l : List Int) : List Int := l.mergeSort fun x y => decide (x ≤ y)
theorem sortI_len (l : List Int) : (sortI l).length = l.length := by simp [sortI]
theorem scx_sort {f : FuncId} (hc : ∀ (blk off cap : Nat) (zs : List Int) (w : World), Holds (Value.int .i64) w blk off zs.toArray → blk < w.heap.size → zs.length < 4611686018427387904 →
      Calls P f #[.slice (some ⟨blk, off, none⟩) zs.length cap] w fun e w' => e = .returned (.tuple #[]) ∧ ∃ n os, w' = grow (putRow (Value.int .i64) (Sort.ahead w n) blk off (zs.mergeSort fun x y => decide (x ≤ y)).toArray) os)
    (hz : ∀ (p : Option Addr) (cap : Nat) (w : World), Calls P f #[.slice p 0 cap] w fun e w' => e = .returned (.tuple #[]) ∧ w' = w) {e : TypeId} {l : List Int} (hl : l.length < 4611686018427387904) :
    SCX P f [.own (.ext 0)] (numX e l) (.tup []) (numX e (sortI l)) := by
  intro Γ ρ w vals hw hX hargs
  obtain ⟨v, vs', e1, h1, rfl⟩ := hargs
  have hvals : vals = #[v] := by rw [← Array.toList_inj]; simpa using e1
  subst hvals
  have h1 : v = ρ.ov (.ext 0) := h1
  obtain ⟨vs, k1, k2⟩ := hX.slots (.ext 0) _ rfl
  rw [← h1] at k1
  rcases own_num k1 (nums_elems.1 k2) with ⟨rfl, p, cap, rfl⟩ | ⟨hne, g, cap, cur, rfl, q1, q2, q3, q4, q5⟩
  · refine (hz p cap w).mono ?_
    rintro ex w' ⟨rfl, rfl⟩
    exact ⟨_, ρ, rfl, ⟨#[], rfl, rfl⟩, by simpa [sortI] using hX⟩
  · refine (hc g 0 cap l w (holds_of_block_i q1 q5) (Array.getElem?_eq_some_iff.1 q1).1 hl).mono ?_
    rintro ex w' ⟨rfl, n, os, rfl⟩
    have key := num_row hX h1.symm hne q1 q2 q3 q4 (sortI l) [] (by rw [List.append_nil]; exact sortI_len l) n os
    rw [List.append_nil] at key
    exact ⟨_, _, rfl, ⟨#[], rfl, rfl⟩, key⟩
/-- The slice comes back shorter, what is behind is turned. -/
theorem scx_shrink {f : FuncId} {exA : List AV} {exV : List Value} {l ts rest : List Int} (hex : ∀ ρ w vs, ARels ρ w exA vs → vs = exV)
    (hc : ∀ (blk off cap : Nat) (w : World), l ≠ [] → Holds (Value.int .i64) w blk off l.toArray → l.length ≤ cap → cap ≤ 9223372036854775807 →
      Calls P f (.slice (some ⟨blk, off, none⟩) l.length cap :: exV).toArray w fun e w' => e = .returned (.slice (some ⟨blk, off, none⟩) ts.length cap) ∧ ∃ q, w' = putRow (Value.int .i64) (Sort.ahead w q) blk off (ts ++ rest).toArray)
    (hz : l = [] → ts = [] ∧ ∀ (p : Option Addr) (cap : Nat) (w : World), Calls P f (.slice p 0 cap :: exV).toArray w fun e w' => e = .returned (.slice p 0 cap) ∧ w' = w) (hlen : (ts ++ rest).length = l.length) {e : TypeId} :
    SCX P f (.own (.ext 0) :: exA) (numX e l) (.own (.ext 0)) (numX e ts) := by
  intro Γ ρ w vals hw hX hargs
  obtain ⟨v, vs', e1, h1, h2⟩ := hargs
  have hvs := hex _ _ _ h2
  subst hvs
  have hvals : vals = (v :: vs').toArray := by rw [← Array.toList_inj]; simpa using e1
  subst hvals
  have h1 : v = ρ.ov (.ext 0) := h1
  obtain ⟨vs, k1, k2⟩ := hX.slots (.ext 0) _ rfl
  rw [← h1] at k1
  rcases own_num k1 (nums_elems.1 k2) with ⟨rfl, p, cap, rfl⟩ | ⟨hne, g, cap, cur, rfl, q1, q2, q3, q4, q5⟩
  · obtain ⟨hts, hzz⟩ := hz rfl
    subst hts
    refine (hzz p cap w).mono ?_
    rintro ex w' ⟨rfl, rfl⟩
    exact ⟨_, ρ, rfl, h1, hX⟩
  · refine (hc g 0 cap w hne (holds_of_block_i q1 q5) q2 q3).mono ?_
    rintro ex w' ⟨rfl, q, rfl⟩
    have key := num_row hX h1.symm hne q1 q2 q3 q4 ts rest hlen q #[]
    rw [grow_empty] at key
    exact ⟨_, _, rfl, by simp [ARel, Rho.slice], key⟩
end Go.Eng
set_option autoImplicit false
set_option linter.unusedVariables false
set_option linter.unusedSimpArgs false
namespace Go.Eng
open Go Go.RowKit Go.Sort Go.Proofs
variable {P : Program}
/-- A new own slice, nothing of the caller's turned. -/
theorem fresh_row {Γ : Ctx} {ρ : Rho} {w w' : World} {e : TypeId} {v' : Value} {l : List Int} (h : SOk Γ [] ρ w) (hown : w'.ownsRow w.heap.size e 1 v' l.length (l.map (Value.int .i64))) (hb : Below w.heap.size w w') : SOk Γ (numX e l) (ρ.slice (.ext 0) v') w' := by
  have key := h.slot (ρ' := ρ.slice (.ext 0) v') (w' := w') (.ext 0) (some (.own e 1 (numsL l))) rfl (fun _ => rfl) (fun m hm => ρ.slice_same _ _ hm) (.inr fun m s hm => by cases hm) none
    ⟨hb.os, hb.tape, hb.output, hb.size, fun k hk _ => hb.block k hk⟩ (fun b hb' => by cases hb') (fun s hs => by
      cases hs
      refine ⟨l.map (Value.int .i64), .inl ?_, nums_elems.2 rfl⟩
      rw [numsL_len]
      simp only [Rho.slice, if_true]
      obtain ⟨h1, h2⟩ := hown
      refine ⟨h1, ?_⟩
      rcases h2 with h2 | ⟨g, cap, cur, q0, q1, q2⟩
      · exact .inl h2
      · exact .inr ⟨g, cap, cur, q0, Nat.zero_le _, q2⟩) (fun s b hs hsb => by
      cases hs
      left
      simp only [slotBlk, Rho.slice, if_true] at hsb
      exact (hown.lt b (ownBlk_some hsb)).1)
  exact key
theorem sco_clone {f : FuncId} {e : TypeId} (hc : ∀ (b off n c : Nat) (zs : List Int) (w : World), n ≤ zs.length → n * 8 ≤ 140737488355328 → (∀ j, j < zs.length → w.cell? ⟨b, off + j, none⟩ = some (.int .i64 (zs.getD j 0))) →
      Calls P f #[.slice (some ⟨b, off, none⟩) n c] w fun ex w' => ∃ v', ex = .returned v' ∧ w'.ownsRow w.heap.size e 1 v' n ((zs.take n).map (Value.int .i64)) ∧ v' ≠ .slice none 0 0 ∧ Below w.heap.size w w')
    (hnil : ∀ (n c : Nat) (w : World), Calls P f #[.slice none n c] w fun ex w' => ex = .returned (.slice none 0 0) ∧ w' = w)
    (hzero : ∀ (a : Addr) (c : Nat) (w : World), Calls P f #[.slice (some a) 0 c] w fun ex w' => ∃ v', ex = .returned v' ∧ w'.ownsRow w.heap.size e 1 v' 0 [] ∧ v' ≠ .slice none 0 0 ∧ Below w.heap.size w w') {l : List Int} (hl : l.length * 8 ≤ 140737488355328) :
    SCO P f [.pv (.sl 1 (numsL l))] e 1 (numsL l) := by
  intro Γ ρ w vals hw hX hargs
  obtain ⟨v, vs', e1, h1, rfl⟩ := hargs
  have hvals : vals = #[v] := by rw [← Array.toList_inj]; simpa using e1
  subst hvals
  obtain ⟨a, cap, vs, rfl, k1, k2, k3, k4⟩ := h1
  have hvs := nums_elems.1 k3
  subst hvs
  rw [numsL_len]
  cases l with
  | nil =>
    cases a with
    | none =>
      refine (hnil 0 cap w).mono ?_
      rintro ex w' ⟨rfl, rfl⟩
      exact ⟨_, ρ.slice (.ext 0) (.slice none 0 0), rfl, by simp [ARel, Rho.slice], fresh_row hX ⟨rfl, .inl ⟨rfl, rfl⟩⟩ (Below.refl _ _)⟩
    | some a =>
      refine (hzero a cap w).mono ?_
      rintro ex w' ⟨v', rfl, h1, _, h2⟩
      exact ⟨_, ρ.slice (.ext 0) v', rfl, by simp [ARel, Rho.slice], fresh_row hX h1 h2⟩
  | cons n l =>
    rcases k4 with k4 | ⟨ad, rfl, _, k5⟩
    · simp at k4
    · obtain ⟨b, off, sp⟩ := ad
      have h0 := k5 0 (.int .i64 n) (by simp)
      have hsp : sp = none := by
        simp only [Addr.add, if_true, World.cell?] at h0
        split at h0
        · cases sp with
          | none => rfl
          | some q => simp at h0
        · cases h0
      subst hsp
      refine (hc b off (n :: l).length cap (n :: l) w (Nat.le_refl _) hl (fun j hj => ?_)).mono ?_
      · have := k5 j (.int .i64 ((n :: l)[j])) (by rw [List.getElem?_map, List.getElem?_eq_getElem hj]; rfl)
        have e2 : (Addr.add ⟨b, off, none⟩ j) = ⟨b, off + j, none⟩ := by
          unfold Addr.add
          split
          · rename_i h; subst h; rfl
          · rfl
        rw [e2] at this
        rw [this]
        simp only [List.getD, List.getElem?_eq_getElem hj, Option.getD_some]
      · rintro ex w' ⟨v', rfl, h1, _, h2⟩
        rw [List.take_length] at h1
        exact ⟨_, ρ.slice (.ext 0) v', rfl, by simp [ARel, Rho.slice], fresh_row hX h1 h2⟩
end Go.Eng
set_option autoImplicit false
set_option linter.unusedVariables false
set_option linter.unusedSimpArgs false
namespace Go.Eng
open Go Go.RowKit Go.Sort Go.Proofs
variable {P : Program}
/-! ## An own slice, sorted where it stands -/
def SortC (P : Program) (f : FuncId) : Prop := (∀ (blk off cap : Nat) (zs : List Int) (w : World), Holds (Value.int .i64) w blk off zs.toArray → blk < w.heap.size → zs.length < 4611686018427387904 →
      Calls P f #[.slice (some ⟨blk, off, none⟩) zs.length cap] w fun e w' => e = .returned (.tuple #[]) ∧ ∃ n os, w' = grow (putRow (Value.int .i64) (Sort.ahead w n) blk off (zs.mergeSort fun x y => decide (x ≤ y)).toArray) os) ∧
    (∀ (p : Option Addr) (cap : Nat) (w : World), Calls P f #[.slice p 0 cap] w fun e w' => e = .returned (.tuple #[]) ∧ w' = w)
theorem l_sort {o : Oper} {st : AState} {x y : Operand} {ats : Array TypeId} {f : FuncId} {n : Name} {e : TypeId} {l : List Int} {d : Nat} (ho : o.op = .call { callee := .value x, args := #[y], argTypes := ats }) (hd : o.dst = some d) (hlt : d < st.n) (hent : Enters P f) (hc : SortC P f)
    (hx : ev st x = .fn f [] []) (hy : ev st y = .own n) (hs : sget st.s n = some (.own e 1 (numsL l))) (hl : l.length < 4611686018427387904) :
    Local P o st ⟨keyO x ++ keyO y ++ [.slot n], ⟨[(d, .tup [])], [(n, some (.own e 1 (numsL (sortI l))))]⟩, []⟩ := by
  intro st2 hn hr Γ ρ a w K Q hok hfree hk
  have hx2 : ev st2 x = .fn f [] [] := by rw [ev_agree hr (fun k h => List.mem_append_left _ (List.mem_append_left _ h)), hx]
  have hy2 : ev st2 y = .own n := by rw [ev_agree hr (fun k h => List.mem_append_left _ (List.mem_append_right _ h)), hy]
  have hs2 : sget st2.s n = some (.own e 1 (numsL l)) := by rw [sget_agree hr (by simp), hs]
  have hf := ev_rel hok x
  rw [hx2] at hf
  obtain ⟨af, ac, h1, h2, h3⟩ := hf
  have h2 : af.toList = [] := h2
  have h3 : ac.toList = [] := h3
  have eaf : af = #[] := by rw [← Array.toList_inj]; simpa using h2
  have eac : ac = #[] := by rw [← Array.toList_inj]; simpa using h3
  subst eaf; subst eac
  have hv := ev_rel hok y
  rw [hy2] at hv
  have hv : a.eval y = ρ.ov n := hv
  obtain ⟨vs, k1, k2⟩ := hok.sok.slots n _ hs2
  unfold Oper.wp
  have hrun : (execOp a.eval o).run P w = .ok (.enter f #[ρ.ov n]) w := by
    unfold execOp
    simp only [ho, resolve, h1, Deferred.ofValue, Sem.run_bind, Sem.run_pure, Result.andThen_ok, invoke]
    rw [hent]
    simp [hv]
  rw [hrun, Oper.upon_enter, hd]
  have hd2 : d < st2.n := by rw [hn]; exact hlt
  rcases own_num k1 (nums_elems.1 k2) with ⟨rfl, p, cap, hov⟩ | ⟨hne, g, cap, cur, hov, q1, q2, q3, q4, q5⟩
  · rw [hov]
    refine (hc.2 p cap w).mono ?_
    rintro ex w' ⟨rfl, rfl⟩
    have h0 : Ok Γ (st2.app ⟨[], [(n, some (.own e 1 (numsL (sortI []))))]⟩) ρ a w' := hok.ext rfl (fun t => rfl) (fun m => by
      simp only [AState.app, List.cons_append, List.nil_append, sget]
      split
      · rename_i hm; subst hm; rw [hs2]; simp [sortI]
      · rfl)
    exact hk _ _ _ (h0.setT (d := d) (av := .tup []) (v := .tuple #[]) hd2 ⟨#[], rfl, rfl⟩)
  · rw [hov]
    refine (hc.1 g 0 cap l w (holds_of_block_i q1 q5) (Array.getElem?_eq_some_iff.1 q1).1 hl).mono ?_
    rintro ex w' ⟨rfl, m, os, rfl⟩
    have hlen : 0 < l.length := List.length_pos_iff.2 hne
    have hcap : cap ≠ 0 := by omega
    have hrow := ownsRow_sorted_i (base := 0) (n := m) (os := os) (ss := l) (ts := sortI l) (sortI_len l) (Nat.zero_le g) q1 q2 q3 q4
    have h0 := hok.slot (ρ' := ρ) (w' := grow (putRow (Value.int .i64) (Sort.ahead w m) g 0 (l.mergeSort fun x y => decide (x ≤ y)).toArray) os) n (some (.own e 1 (numsL (sortI l)))) rfl (fun _ => rfl) (fun _ _ => ⟨rfl, rfl⟩) (.inl ⟨rfl, rfl⟩) (some g) (grownBy_sorted_i _)
      (fun b hb' => by
        cases hb'
        refine ⟨_, hs2, ?_⟩
        show ownBlk (ρ.ov n) = some g
        rw [hov]; simp [ownBlk, hcap])
      (fun s hs' => by
        cases hs'
        refine ⟨(sortI l).map (Value.int .i64), ?_, nums_elems.2 rfl⟩
        rw [numsL_len, hov, sortI_len]
        exact .inl hrow)
      (fun s b hs' hsb => by
        cases hs'
        right
        simp only [slotBlk, hov] at hsb
        simpa [ownBlk, hcap] using hsb)
    exact hk _ _ _ (h0.setT (d := d) (av := .tup []) (v := .tuple #[]) hd2 ⟨#[], rfl, rfl⟩)
theorem ar_sort {ops : Array Oper} {draw : Bool} {st0 : AState} {Q : Exit → AState → Prop} {i : Nat} {st : AState} {acc : List Eff} {o : Oper} {x y : Operand} {ats : Array TypeId} {f : FuncId} {n : Name} {e : TypeId} {l : List Int} {xs : List (List PV)} {d : Nat} (hent : Enters P f) (hc : SortC P f) (ho : ops[i]? = some o) (hg : o.guard = none) (hop : o.op = .call { callee := .value x, args := #[y], argTypes := ats }) (hd : o.dst = some d) (hlt : d < st.n)
    (hx : ev st x = .fn f [] []) (hy : ev st y = .own n) (hs : sget st.s n = some (.own e 1 xs)) (hxs : xs = numsL l) (hl : l.length < 4611686018427387904)
    (k : AR P ops draw st0 Q (i + 1, st.app ⟨[(d, .tup [])], [(n, some (.own e 1 (numsL (sortI l))))]⟩, if draw = true then acc ++ [⟨keyO x ++ keyO y ++ [.slot n], ⟨[(d, .tup [])], [(n, some (.own e 1 (numsL (sortI l))))]⟩, []⟩] else acc)) : AR P ops draw st0 Q (i, st, acc) := by
  subst hxs
  exact ar_loc (E := ⟨keyO x ++ keyO y ++ [.slot n], ⟨[(d, .tup [])], [(n, some (.own e 1 (numsL (sortI l))))]⟩, []⟩) (st1 := st) ho hg rfl (l_sort hop hd hlt hent hc hx hy hs hl) k
/-! ## Scopes, labels -/
def scopeQ (Q : Exit → AState → Prop) : Exit → AState → Prop
  | .goto _, _ => False
  | e, st => Q e st
theorem aw_scope {c : Code} {Q : Exit → AState → Prop} {st : AState} (h : AW P c (scopeQ Q) st) : AW P (.scope c) Q st := by
  intro Γ ρ a w hok
  refine wp_scope_straight (wp_mono (h Γ ρ a w hok) ?_)
  rintro e a' w' ⟨st', ρ', h1, h2⟩
  cases e <;> first | exact h1.elim | exact ⟨st', ρ', h1, h2⟩
theorem aw_label {l : Nat} {Q : Exit → AState → Prop} {st : AState} (h : Q .normal st) : AW P (.label l) Q st := fun Γ ρ a w hok => wp_label ⟨st, ρ, h, hok⟩
theorem sq_norm {Q : Exit → AState → Prop} {st : AState} (h : Q .normal st) : scopeQ Q .normal st := h
theorem sq_ret {Q : Exit → AState → Prop} {st : AState} (h : Q .ret st) : scopeQ Q .ret st := h
theorem sq_exit {id : Nat} {Q : Exit → AState → Prop} {st : AState} (h : Q (.exit id) st) : scopeQ Q (.exit id) st := h
end Go.Eng
set_option autoImplicit false
set_option linter.unusedVariables false
set_option linter.unusedSimpArgs false
namespace Go.Eng
open Go Go.RowKit Go.Sort Go.Proofs
variable {P : Program}
theorem sc_contains {f : FuncId} (hc : ∀ (b off n c : Nat) (zs : List Int) (x : Int) (w : World), n ≤ zs.length → n ≤ 9223372036854775807 → (∀ j, j < zs.length → w.cell? ⟨b, off + j, none⟩ = some (.int .i64 (zs.getD j 0))) →
      Calls P f #[.slice (some ⟨b, off, none⟩) n c, .int .i64 x] w fun e w' => e = .returned (.bool ((zs.take n).contains x)) ∧ w' = w)
    (hz : ∀ (a : Option Addr) (c : Nat) (x : Int) (w : World), Calls P f #[.slice a 0 c, .int .i64 x] w fun e w' => e = .returned (.bool false) ∧ w' = w) {l : List Int} {x : Int} (hl : l.length ≤ 1000000) :
    SC P f [.pv (.sl 1 (numsL l)), I .i64 x] (B (l.contains x)) := by
  intro Γ ρ w vals hw hX hargs
  obtain ⟨v, vs', e1, h1, v2, vs2, rfl, ⟨rfl, _⟩, rfl⟩ := hargs
  have hvals : vals = #[v, .int .i64 x] := by rw [← Array.toList_inj]; simpa using e1
  subst hvals
  obtain ⟨a, cap, vs, rfl, k1, k2, k3, k4⟩ := h1
  have hvs := nums_elems.1 k3
  subst hvs
  rw [numsL_len]
  cases l with
  | nil =>
    refine (hz a cap x w).mono ?_
    rintro ex w' ⟨rfl, rfl⟩
    exact ⟨_, ρ, rfl, ⟨rfl, rfl⟩, hX⟩
  | cons n l =>
    rcases k4 with k4 | ⟨ad, rfl, _, k5⟩
    · simp at k4
    · obtain ⟨b, off, sp⟩ := ad
      have h0 := k5 0 (.int .i64 n) (by simp)
      have hsp : sp = none := by
        simp only [Addr.add, if_true, World.cell?] at h0
        split at h0
        · cases sp with
          | none => rfl
          | some q => simp at h0
        · cases h0
      subst hsp
      refine (hc b off (n :: l).length cap (n :: l) x w (Nat.le_refl _) (by omega) (fun j hj => ?_)).mono ?_
      · have := k5 j (.int .i64 ((n :: l)[j])) (by rw [List.getElem?_map, List.getElem?_eq_getElem hj]; rfl)
        have e2 : (Addr.add ⟨b, off, none⟩ j) = ⟨b, off + j, none⟩ := by
          unfold Addr.add
          split
          · rename_i h; subst h; rfl
          · rfl
        rw [e2] at this
        rw [this]
        simp only [List.getD, List.getElem?_eq_getElem hj, Option.getD_some]
      · rintro ex w' ⟨rfl, rfl⟩
        rw [List.take_length]
        exact ⟨_, ρ, rfl, ⟨rfl, rfl⟩, hX⟩
end Go.Eng
