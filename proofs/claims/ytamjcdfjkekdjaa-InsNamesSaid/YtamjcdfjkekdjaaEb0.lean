import Derived.Test.YtamjcdfjkekdjaaEa9
set_option autoImplicit false
set_option linter.unusedVariables false
set_option linter.unusedSimpArgs false
namespace Go.Eng
open Go Go.RowKit
variable {P : Program}

theorem AV.kill_id {n : Name} {a : AV} (h : a.has n = false) : AV.kill n a = a := by simp [AV.kill, h]
theorem map_kill_id {n : Name} : ∀ {l : List AV}, AV.hasL n l = false → l.map (AV.kill n) = l
  | [], _ => rfl
  | a :: l, h => by
    simp only [AV.hasL, Bool.or_eq_false_iff] at h
    simp [AV.kill_id h.1, map_kill_id h.2]
theorem get_kill {st : AState} {n : Name} (h : st.free n) (k : Key) : (st.kill n).get k = st.get k := by
  cases k with
  | tmp t => simp only [AState.get, AState.kill, tget_kill, Cont.av.injEq]; exact AV.kill_id (h.1 t)
  | slot m =>
    simp only [AState.get, AState.kill, sget_kill, Cont.slot.injEq]
    cases hs : sget st.s m with
    | none => rfl
    | some s =>
      have := h.2 m s hs
      cases s with
      | box T cells => simp only [Option.map_some, Slot.kill, Option.some.injEq, Slot.box.injEq, true_and]; exact map_kill_id this
      | own e es xs => rfl
theorem get_killAll : ∀ (l : List Name) {st : AState}, (∀ n ∈ l, st.free n) → ∀ k, (st.killAll l).get k = st.get k
  | [], _, _, _ => rfl
  | n :: l, st, h, k => by
    have h1 := get_kill (h n (by simp))
    have := get_killAll l (st := st.kill n) (fun m hm => free_iff.2 fun k => by rw [h1]; exact free_iff.1 (h m (by simp [hm])) k) k
    simp only [AState.killAll]
    rw [this, h1]

structure Check (ops : Array Oper) (st0 : AState) (tr : List Eff) : Prop where
  len : tr.length = ops.size
  fwd : ∀ (i : Nat) (o : Oper) (e : Edge), ops[i]? = some o → e ∈ o.after.toList → Region.binds .any e = true → e.on < i
  st0 : ∀ (i : Nat) (E : Eff) (n : Name), tr[i]? = some E → n ∈ E.c → st0.free n
  ment : ∀ (i j : Nat) (E F : Eff) (n : Name), tr[i]? = some E → tr[j]? = some F → n ∈ E.c → i = j ∨ (i < j ∧ Path ops i j) ∨ F.u.has n = false
  conf : ∀ (i j : Nat) (E F : Eff), tr[i]? = some E → tr[j]? = some F → i < j → Path ops i j ∨ ((∀ k ∈ E.u.keys, k ∉ F.r ∧ k ∉ F.u.keys) ∧ ∀ k ∈ E.r, k ∉ F.u.keys)
theorem disjK_iff {a b : List Key} (h : disjK a b = true) : ∀ k ∈ a, k ∉ b := by
  intro k hk hb
  have := List.all_eq_true.1 h k hk
  simp at this
  exact this hb
theorem zipIdx_mem {α : Type} {l : List α} {i : Nat} {x : α} (h : l[i]? = some x) : (x, i) ∈ l.zipIdx := by
  rw [List.mem_zipIdx_iff_getElem?]; exact h
theorem checkTr_sound {ops : Array Oper} {st0 : AState} {tr : List Eff} (h : checkTr ops st0 tr = true) : Check ops st0 tr := by
  simp only [checkTr, Bool.and_eq_true, beq_iff_eq] at h
  obtain ⟨⟨h1, h2⟩, h3⟩ := h
  have htab : ∀ i j, hasPath ops i 3 j = true → Path ops i j := fun i j h => hasPath_path 3 j h
  have h4 : ∀ i E, tr[i]? = some E → E.c.all (fun n => !st0.hasB n) = true ∧ ∀ j F, tr[j]? = some F →
      (E.c.isEmpty || (i == j || (decide (i < j) && hasPath ops i 3 j) || E.c.all fun n => !F.u.has n)) = true ∧
      (decide (j ≤ i) || (disjK E.u.keys F.r && disjK E.u.keys F.u.keys && disjK E.r F.u.keys) || hasPath ops i 3 j) = true := by
    intro i E hE
    have h5 := List.all_eq_true.1 h3 _ (zipIdx_mem hE)
    simp only [Bool.and_eq_true] at h5
    refine ⟨h5.1, fun j F hF => ?_⟩
    have h6 := List.all_eq_true.1 h5.2 _ (zipIdx_mem hF)
    simpa only [Bool.and_eq_true] using h6
  refine ⟨h1, ?_, ?_, ?_, ?_⟩
  · intro i o e ho he hb
    have h5 := List.all_eq_true.1 h2 (o, i) (zipIdx_mem (by simpa using ho))
    have h6 := List.all_eq_true.1 h5 e he
    simpa [hb] using h6
  · intro i E n hE hn
    have := List.all_eq_true.1 (h4 i E hE).1 n hn
    exact hasB_free (by simpa using this)
  · intro i j E F n hE hF hn
    have := ((h4 i E hE).2 j F hF).1
    simp only [Bool.or_eq_true, beq_iff_eq, Bool.and_eq_true, decide_eq_true_eq] at this
    rcases this with h0 | (h | ⟨h, h'⟩) | h
    · rw [List.isEmpty_iff.1 h0] at hn; cases hn
    · exact .inl h
    · exact .inr (.inl ⟨h, htab _ _ h'⟩)
    · exact .inr (.inr (by simpa using List.all_eq_true.1 h n hn))
  · intro i j E F hE hF hij
    have := ((h4 i E hE).2 j F hF).2
    simp only [Bool.or_eq_true, Bool.and_eq_true, decide_eq_true_eq] at this
    rcases this with (h | ⟨⟨h, h'⟩, h''⟩) | h
    · omega
    rotate_left
    · exact .inl (htab _ _ h)
    · exact .inr ⟨fun k hk => ⟨disjK_iff h k hk, disjK_iff h' k hk⟩, disjK_iff h''⟩

theorem appD_none {D : Nat → Bool} (h : ∀ j, D j = false) : ∀ (i : Nat) (tr : List Eff) (s : AState), AState.appD D i tr s = s
  | _, [], _ => rfl
  | i, E :: tr, s => by simp [AState.appD, h i, appD_none h (i + 1) tr]
theorem appD_succ {st0 : AState} {tr : List Eff} {i : Nat} {E : Eff} (hE : tr[i]? = some E) (k : Key) :
    (AState.appD (fun j => decide (j < i + 1)) 0 tr st0).get k = ((AState.appD (fun j => decide (j < i)) 0 tr st0).app E.u).get k := by
  by_cases hk : k ∈ E.u.keys
  · exact appD_last 0 tr st0 _ i E hE (by simp) hk (fun j' E' h1 h2 h3 => by simp at h3; omega)
  · rw [get_app_out hk]
    refine appD_get 0 tr st0 st0 rfl fun j F hF hkF => ?_
    have : j ≠ i := fun e => by subst e; rw [hE] at hF; cases hF; exact hk hkF
    simp only [Nat.zero_add]
    by_cases h : j < i
    · simp [h, Nat.lt_succ_of_lt h]
    · have : ¬ j < i + 1 := by omega
      simp [h, this]

/-- Each step's state, told by what came up ahead of it in the text. -/
theorem Run.states {ops : Array Oper} {st0 : AState} {all : List Eff} (hc : Check ops st0 all) {i : Nat} {st st' : AState} {tr : List Eff} (h : Run P ops i st tr st') :
    all.drop i = tr → st.n = st0.n → (∀ k, st.get k = (AState.appD (fun j => decide (j < i)) 0 all st0).get k) →
    (∀ j E, i ≤ j → all[j]? = some E → ∃ s, LocalAt P ops j s E ∧ s.n = st0.n ∧ ∀ k, s.get k = (AState.appD (fun q => decide (q < j)) 0 all st0).get k) ∧
    st'.n = st0.n ∧ ∀ k, st'.get k = (AState.appD (fun q => decide (q < ops.size)) 0 all st0).get k := by
  induction h with
  | @nil i st hi =>
    intro hd hn hg
    refine ⟨fun j E hj hE => ?_, hn, by rw [hi]; exact hg⟩
    have h1 := (List.getElem?_eq_some_iff.1 hE).1
    have h2 : all.length ≤ i := List.drop_eq_nil_iff.1 hd
    omega
  | @cons i st st' E tr hi hl _ ih =>
    intro hd hn hg
    have hE : all[i]? = some E := by
      have : (all.drop i)[0]? = some E := by rw [hd]; rfl
      simpa [List.getElem?_drop] using this
    have hfree : ∀ n ∈ E.c, st.free n := by
      intro n hnE
      refine free_iff.2 fun k => ?_
      rw [hg k]
      refine free_iff.1 (appD_free 0 all st0 (hc.st0 i E n hE hnE) fun j F hF hj => ?_) k
      simp only [Nat.zero_add, decide_eq_true_eq] at hj
      rcases hc.ment i j E F n hE hF hnE with h | ⟨h, _⟩ | h
      · omega
      · omega
      · exact h
    have hkill := get_killAll E.c hfree
    obtain ⟨h1, h2, h3⟩ := ih (by rw [← List.tail_drop, hd]; rfl) (by simp [AState.app, AState.killAll_n, hn]) (fun k => by
      rw [appD_succ hE k]
      exact get_app_congr (by rw [hkill, hg]))
    refine ⟨fun j F hj hF => ?_, h2, h3⟩
    by_cases hji : j = i
    · subst hji
      rw [hE] at hF; cases hF
      exact ⟨_, hl, by rw [AState.killAll_n, hn], fun k => by rw [hkill, hg]⟩
    · exact h1 j F (by omega) hF

theorem countP_lt {α : Type} {p q : α → Bool} : ∀ {l : List α}, (∀ x, p x = true → q x = true) → (∃ x ∈ l, q x = true ∧ p x = false) → l.countP p < l.countP q
  | [], _, ⟨_, h, _⟩ => by cases h
  | a :: l, h, ⟨x, hx, hq, hp⟩ => by
    have hle : l.countP p ≤ l.countP q := List.countP_mono_left fun x _ => h x
    simp only [List.countP_cons]
    cases hx with
    | head => simp [hq, hp]; omega
    | tail _ hx =>
      have := countP_lt h ⟨x, hx, hq, hp⟩
      cases hpa : p a with
      | true => simp [h a hpa]; omega
      | false => cases q a <;> simp <;> omega

theorem Run.any {ops : Array Oper} {st0 st' : AState} {tr : List Eff} (h : Run P ops 0 st0 tr st') (hcheck : checkTr ops st0 tr = true) {Γ : Ctx} {Q : Exit → Act → World → Prop} (hQ : ∀ ρ' a' w', Ok Γ st' ρ' a' w' → Q .normal a' w')
    {ρ : Rho} {a : Act} {w : World} (hok : Ok Γ st0 ρ a w) : wpAny P .any ops Q ops.size (Array.replicate ops.size false) a w := by
  have hc := checkTr_sound hcheck
  obtain ⟨hs, hn', hg'⟩ := h.states hc (by simp) rfl (fun k => by
    rw [appD_none (fun j => by simp)])
  have key : ∀ (fuel : Nat) (listed : Array Bool) (ρ : Rho) (a : Act) (w : World) (st2 : AState), listed.size = ops.size → Closed ops (fun j => listed.getD j false) →
      Ok Γ st2 ρ a w → st2.n = st0.n → (∀ k, st2.get k = (AState.appD (fun j => listed.getD j false) 0 tr st0).get k) → (List.range ops.size).countP (fun j => !listed.getD j false) ≤ fuel →
      wpAny P .any ops Q fuel listed a w := by
    intro fuel
    have hready : ∀ (listed : Array Bool), listed.size = ops.size → ∀ i, i ∈ Region.ready .any ops listed ↔ i < ops.size ∧ listed.getD i false = false ∧ ∀ o e, ops[i]? = some o → e ∈ o.after.toList → Region.binds .any e = true → listed.getD e.on false = true := by
      intro listed hsz i
      simp only [Region.ready, List.mem_filter, List.mem_range, Bool.and_eq_true]
      constructor
      · rintro ⟨h1, h2, h3⟩
        have hl : listed.getD i true = listed.getD i false := by simp [Array.getD_eq_getD_getElem?, Array.getElem?_eq_getElem (show i < listed.size by omega)]
        refine ⟨h1, by rw [hl] at h2; simpa using h2, fun o e ho he hb => ?_⟩
        rw [ho] at h3
        simp only [Option.map_some, Option.getD_some] at h3
        have h4 := Array.all_eq_true_iff_forall_mem.1 h3 e (Array.mem_toList_iff.1 he)
        simpa [hb] using h4
      · rintro ⟨h1, h2, h3⟩
        have hl : listed.getD i true = listed.getD i false := by simp [Array.getD_eq_getD_getElem?, Array.getElem?_eq_getElem (show i < listed.size by omega)]
        refine ⟨h1, by rw [hl, h2]; rfl, ?_⟩
        rw [Array.getElem?_eq_getElem h1]
        simp only [Option.map_some, Option.getD_some]
        refine Array.all_eq_true_iff_forall_mem.2 fun e he => ?_
        cases hb : Region.binds .any e with
        | false => simp
        | true => simp; simpa using h3 _ e (Array.getElem?_eq_getElem h1) (Array.mem_toList_iff.2 he) hb
    have hleast : ∀ (listed : Array Bool), listed.size = ops.size → ∀ i, i < ops.size → listed.getD i false = false → Region.ready .any ops listed ≠ [] := by
      intro listed hsz i
      induction i using Nat.strongRecOn with
      | _ i ih =>
        intro h1 h2 hnil
        by_cases hall : ∀ o e, ops[i]? = some o → e ∈ o.after.toList → Region.binds .any e = true → listed.getD e.on false = true
        · have := (hready listed hsz i).2 ⟨h1, h2, hall⟩
          rw [hnil] at this; cases this
        · simp only [Classical.not_forall] at hall
          obtain ⟨o, e, ho, he, hb, hne⟩ := hall
          have hlt := hc.fwd i o e ho he hb
          exact ih e.on hlt (by omega) (by simpa using hne) hnil
    have hdone : ∀ (listed : Array Bool) (ρ : Rho) (a : Act) (w : World) (st2 : AState), listed.size = ops.size → Ok Γ st2 ρ a w → st2.n = st0.n → (∀ k, st2.get k = (AState.appD (fun j => listed.getD j false) 0 tr st0).get k) →
        Region.ready .any ops listed = [] → Q .normal a w := by
      intro listed ρ a w st2 hsz hok hn hg hnil
      have hall : ∀ j, j < ops.size → listed.getD j false = true := fun j hj => by
        cases hq : listed.getD j false with
        | true => rfl
        | false => exact absurd hnil (hleast listed hsz j hj hq)
      refine hQ ρ a w (hok.ext (by rw [hn', hn]) (fun t => ?_) fun n => ?_)
      · have : (AState.get st' (.tmp t)) = AState.get st2 (.tmp t) := by
          rw [hg', hg]
          refine appD_get 0 tr st0 st0 rfl fun j E hE _ => ?_
          have hj := (List.getElem?_eq_some_iff.1 hE).1
          rw [hc.len] at hj
          simp [hj]; simpa using (hall j hj).symm
        simpa [AState.get] using this
      · have : (AState.get st' (.slot n)) = AState.get st2 (.slot n) := by
          rw [hg', hg]
          refine appD_get 0 tr st0 st0 rfl fun j E hE _ => ?_
          have hj := (List.getElem?_eq_some_iff.1 hE).1
          rw [hc.len] at hj
          simp [hj]; simpa using (hall j hj).symm
        simpa [AState.get] using this
    induction fuel with
    | zero =>
      intro listed ρ a w st2 hsz hcl hok hn hg hcnt
      have hnil : Region.ready .any ops listed = [] := by
        cases hr : Region.ready .any ops listed with
        | nil => rfl
        | cons i l =>
          have hi := (hready listed hsz i).1 (by rw [hr]; simp)
          have : 0 < (List.range ops.size).countP (fun j => !listed.getD j false) := List.countP_pos_iff.2 ⟨i, List.mem_range.2 hi.1, by simp only [hi.2.1]; rfl⟩
          omega
      exact ⟨hnil, hdone listed ρ a w st2 hsz hok hn hg hnil⟩
    | succ fuel ih =>
      intro listed ρ a w st2 hsz hcl hok hn hg hcnt
      refine ⟨hdone listed ρ a w st2 hsz hok hn hg, fun i hi => ?_⟩
      obtain ⟨hi1, hi2, hi3⟩ := (hready listed hsz i).1 hi
      have hlen := hc.len
      obtain ⟨E, hE⟩ : ∃ E, tr[i]? = some E := ⟨_, List.getElem?_eq_getElem (by omega)⟩
      obtain ⟨s, hl, hsn, hsg⟩ := hs i E (Nat.zero_le _) hE
      have hnot : ∀ j F, tr[j]? = some F → listed.getD j false = true → Path ops i j → False := by
        intro j F hF hj hp
        have := hcl.path hp hj
        rw [this] at hi2; cases hi2
      have hpre : ∀ j, j < i → listed.getD j false = false → ¬Path ops j i := by
        intro j _ hj hp
        cases hp with
        | one h1 h2 h3 h4 => have := hi3 _ _ h1 h2 h3; rw [h4, hj] at this; cases this
        | step hp' h1 h2 h3 h4 =>
          have := hi3 _ _ h1 h2 h3
          rw [h4] at this
          have h5 := hcl.path hp' this
          rw [hj] at h5; cases h5
      refine hl st2 (by rw [hn, hsn]) (fun k hk => ?_) Γ ρ a w _ Q hok (fun n hnE => free_iff.2 fun k => ?_) fun ρ' a' w' hok' => ?_
      · rw [hg, hsg]
        refine appD_get 0 tr st0 st0 rfl fun j F hF hkF => ?_
        rw [Nat.zero_add]
        by_cases hlt : j < i
        · cases hq : listed.getD j false with
          | true => simp [hlt]
          | false =>
            rcases hc.conf j i F E hF hE hlt with hp | ⟨h1, _⟩
            · exact absurd hp (hpre j hlt hq)
            · exact absurd hk (h1 k hkF).1
        · cases hq : listed.getD j false with
          | false => simp [hlt]
          | true =>
            have hne : j ≠ i := fun e => by subst e; rw [hi2] at hq; cases hq
            rcases hc.conf i j E F hE hF (by omega) with hp | ⟨_, h2⟩
            · exact (hnot j F hF hq hp).elim
            · exact absurd hkF (h2 k hk)
      · rw [hg]
        refine free_iff.1 (appD_free 0 tr st0 (hc.st0 i E n hE hnE) fun j F hF hj => ?_) k
        rw [Nat.zero_add] at hj
        rcases hc.ment i j E F n hE hF hnE with h | ⟨_, h⟩ | h
        · subst h; rw [hi2] at hj; cases hj
        · exact (hnot j F hF hj h).elim
        · exact h
      · have hget : ∀ j, (listed.setIfInBounds i true).getD j false = if j = i then true else listed.getD j false := by
          intro j
          simp only [Array.getD_eq_getD_getElem?, Array.getElem?_setIfInBounds]
          by_cases hji : i = j
          · subst hji; simp [hsz, hi1]
          · rw [if_neg hji, if_neg (fun e => hji e.symm)]
        refine ih (listed.setIfInBounds i true) ρ' a' w' _ (by simpa using hsz) ?_ hok' (by simp [AState.app, hn]) (fun k => ?_) ?_
        · intro j o e ho hj he hb
          simp only [hget] at hj ⊢
          by_cases hji : j = i
          · subst hji
            split
            · rfl
            · exact hi3 o e ho he hb
          · rw [if_neg hji] at hj
            split
            · rfl
            · exact hcl j o e ho hj he hb
        · have hD : (fun j => (listed.setIfInBounds i true).getD j false) = fun j => if j = i then true else listed.getD j false := funext hget
          rw [hD]
          by_cases hk : k ∈ E.u.keys
          · refine (appD_last 0 tr st0 st2 i E hE (by simp) hk fun j F h1 h2 h3 h4 => ?_).symm
            rw [Nat.zero_add, if_neg (by omega)] at h3
            rcases hc.conf i j E F hE h2 h1 with hp | ⟨h5, _⟩
            · exact hnot j F h2 h3 hp
            · exact (h5 k hk).2 h4
          · rw [get_app_out hk, hg]
            refine appD_get 0 tr st0 st0 rfl fun j F hF hkF => ?_
            rw [Nat.zero_add]
            have : j ≠ i := fun e => by subst e; rw [hE] at hF; cases hF; exact hk hkF
            rw [if_neg this]
        · have hlt := countP_lt (l := List.range ops.size) (p := fun j => !(listed.setIfInBounds i true).getD j false) (q := fun j => !listed.getD j false)
            (fun x hx => by
              simp only [hget] at hx
              split at hx
              · cases hx
              · exact hx) ⟨i, List.mem_range.2 hi1, by simp only [hi2]; rfl, by simp only [hget, if_true]; rfl⟩
          omega
  have hnone : ∀ j, (Array.replicate ops.size false).getD j false = false := fun j => by
    simp only [Array.getD_eq_getD_getElem?, Array.getElem?_replicate]; split <;> rfl
  exact key ops.size _ ρ a w st0 (by simp) (fun j o e ho hj => by simp only [hnone] at hj; cases hj) hok rfl (fun k => by rw [appD_none hnone]) (Nat.le_trans (List.countP_le_length) (by simp))

end Go.Eng
