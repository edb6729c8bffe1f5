import Derived.Test.YtamjcdfjkekdjaaEb1
set_option autoImplicit false
set_option linter.unusedVariables false
set_option linter.unusedSimpArgs false
namespace Go.Eng
open Go Go.RowKit
variable {P : Program} {o : Oper} {st : AState} {d : Nat} {E : Eff}

theorem mem_keysL {x : Operand} {l : List Operand} (h : x ∈ l) : ∀ k ∈ keyO x, k ∈ keysL l := fun k hk => List.mem_flatMap.2 ⟨x, h, hk⟩
theorem partsP_agree {st st2 : AState} {r : List Key} (h : ∀ k ∈ r, st2.get k = st.get k) : ∀ {l : List (Nat × Operand)}, (∀ k ∈ keysL (l.map (·.2)), k ∈ r) → partsP st2 l = partsP st l
  | [], _ => rfl
  | (i, x) :: l, hk => by
    have h1 : ev st2 x = ev st x := ev_agree h fun k hx => hk k (by simp [keysL, hx])
    have h2 := partsP_agree h (l := l) fun k hx => hk k (by simp only [keysL, List.map_cons, List.flatMap_cons, List.mem_append]; exact .inr hx)
    simp only [partsP, h1, h2]
theorem bnd_agree {st st2 : AState} {r : List Key} (h : ∀ k ∈ r, st2.get k = st.get k) {df : Nat} {x : Option Operand} (hk : ∀ k ∈ keysL x.toList, k ∈ r) : bnd st2 df x = bnd st df x := by
  cases x with
  | none => rfl
  | some y =>
    have h1 : ev st2 y = ev st y := ev_agree h fun k hx => hk k (by simp [keysL, hx])
    simp only [bnd, h1]
theorem cellsA_agree {st st2 : AState} {r : List Key} (h : ∀ k ∈ r, st2.get k = st.get k) {a : AV} (hk : ∀ k ∈ slotK a, k ∈ r) : cellsA st2 a = cellsA st a := by
  cases a with
  | own n => simp only [cellsA]; rw [sget_agree h (hk _ (by simp [slotK]))]
  | _ => rfl
theorem srcP_agree {st st2 : AState} {r : List Key} (h : ∀ k ∈ r, st2.get k = st.get k) {es : Nat} {a : AV} (hk : ∀ k ∈ slotK a, k ∈ r) : srcP st2 es a = srcP st es a := by
  cases a with
  | own n => simp only [srcP]; rw [sget_agree h (hk _ (by simp [slotK]))]
  | _ => rfl

theorem l_move {x : Operand} (ho : o.op = .move x ∨ o.op = .assign x) (hd : o.dst = some d) (hlt : d < st.n) (h : ef (keyO x) d (ev st x) = some E) : Local P o st E := by
  cases h
  intro st2 hn hr
  rw [← ev_agree (st2 := st2) hr (fun k hk => hk)]
  exact ok_move ho hd (by rw [hn]; exact hlt)
theorem l_pick {c x y : Operand} (ho : o.op = .pick c x y) (hd : o.dst = some d) (hlt : d < st.n) (h : sPick d st c x y = some E) : Local P o st E := by
  unfold sPick at h
  split at h
  · rename_i b hc
    cases h
    intro st2 hn hr
    have h1 := ev_agree (st2 := st2) (x := c) hr (fun k hk => by simp [hk])
    have h2 := ev_agree (st2 := st2) (x := x) hr (fun k hk => by simp [hk])
    have h3 := ev_agree (st2 := st2) (x := y) hr (fun k hk => by simp [hk])
    rw [← h2, ← h3, pickA_eq]
    exact ok_pick ho hd (by rw [hn]; exact hlt) (by rw [h1, hc])
  · cases h
theorem l_not {x : Operand} {t : TypeId} (ho : o.op = .unOp .not t x) (hd : o.dst = some d) (hlt : d < st.n) (h : sNot d st x = some E) : Local P o st E := by
  unfold sNot at h
  split at h
  · rename_i b hc
    cases h
    intro st2 hn hr
    exact ok_not ho hd (by rw [hn]; exact hlt) (by rw [ev_agree hr (fun k hk => hk), hc])
  · cases h
theorem l_bin {x y : Operand} {op : BinOp} {t t' : TypeId} (ho : o.op = .binOp op t x y t') (hd : o.dst = some d) (hlt : d < st.n) (h : sBin P d st op t x y = some E) : Local P o st E := by
  unfold sBin at h
  split at h
  · rename_i u v hx hy
    split at h
    · rename_i r hr'
      cases h
      intro st2 hn hr
      exact ok_bin ho hd (by rw [hn]; exact hlt) (by rw [ev_agree hr (fun k hk => by simp [hk]), hx]) (by rw [ev_agree hr (fun k hk => by simp [hk]), hy]) hr'
    · cases h
  · cases h
theorem l_conv {x : Operand} {t t' : TypeId} (ho : o.op = .convert t t' x) (hd : o.dst = some d) (hlt : d < st.n) (h : sConv P d st t t' x = some E) : Local P o st E := by
  unfold sConv at h
  split at h
  · rename_i k n k1 k2 hx h1 h2
    cases h
    intro st2 hn hr
    exact ok_conv ho hd (by rw [hn]; exact hlt) (by rw [ev_agree hr (fun k hk => by simp [hk]), hx]) h2 (by rw [h1]; rfl)
  · cases h
theorem l_extract {x : Operand} {i : Nat} (ho : o.op = .extract x i) (hd : o.dst = some d) (hlt : d < st.n) (h : sExtract d st x i = some E) : Local P o st E := by
  unfold sExtract at h
  split at h
  · rename_i l hx
    split at h
    · rename_i av hi
      cases h
      intro st2 hn hr
      exact ok_extract ho hd (by rw [hn]; exact hlt) (by rw [ev_agree hr (fun k hk => hk), hx]) hi
    · cases h
  · cases h
theorem l_nil {x : Operand} (ho : o.op = .nilCheck x) (hd : o.dst = some d) (hlt : d < st.n) (h : sNil d st x = some E) : Local P o st E := by
  unfold sNil at h
  split at h
  · rename_i av hi
    cases h
    intro st2 hn hr
    have h1 := ev_agree (st2 := st2) (x := x) hr (fun k hk => hk)
    rw [← h1]
    exact ok_nilCheck ho hd (by rw [hn]; exact hlt) (by rw [h1]; exact hi)
  · cases h
theorem l_func {f : FuncId} {fi ca : Array Operand} (ho : o.op = .makeFunc (.func f) fi ca) (hd : o.dst = some d) (hlt : d < st.n) (h : sFunc d st f fi ca = some E) : Local P o st E := by
  cases h
  intro st2 hn hr
  have h1 : fi.toList.map (ev st2) = fi.toList.map (ev st) := List.map_congr_left fun x hx => ev_agree hr (mem_keysL (by simp at hx ⊢; exact .inl hx))
  have h2 : ca.toList.map (ev st2) = ca.toList.map (ev st) := List.map_congr_left fun x hx => ev_agree hr (mem_keysL (by simp at hx ⊢; exact .inr hx))
  rw [← h1, ← h2]
  exact ok_makeFunc ho hd (by rw [hn]; exact hlt)
theorem l_fAddr {T i : Nat} {x : Operand} (ho : o.op = .fieldAddr T x i) (hd : o.dst = some d) (hlt : d < st.n) (h : sFAddr P d st T x i = some E) : Local P o st E := by
  unfold sFAddr at h
  split at h
  · rename_i off ft hf
    split at h
    · rename_i k av hs hm
      cases h
      intro st2 hn hr
      exact ok_fieldAddr ho hd (by rw [hn]; exact hlt) hf hs (by rw [ev_agree hr (fun k hk => hk)]; exact hm)
    · cases h
  · cases h
theorem l_field {T i : Nat} {x : Operand} (ho : o.op = .field T x i) (hd : o.dst = some d) (hlt : d < st.n) (h : sField P d st T x i = some E) : Local P o st E := by
  unfold sField at h
  split at h
  · rename_i off ft cs hf hx
    split at h
    · rename_i n hs hg
      cases h
      intro st2 hn hr
      exact ok_field (b := true) ho hd (by rw [hn]; exact hlt) hf hs hg (by rw [ev_agree hr (fun k hk => hk)]; exact hx) rfl
    · rename_i n hs hg
      split at h
      · rename_i p hp
        cases h
        intro st2 hn hr
        exact ok_field (b := false) ho hd (by rw [hn]; exact hlt) hf hs hg (by rw [ev_agree hr (fun k hk => hk)]; exact hx) (by simp [hp])
      · cases h
    · cases h
  · cases h
theorem l_iAddr {T : Nat} {x ix : Operand} (ho : o.op = .indexAddr T x ix) (hd : o.dst = some d) (hlt : d < st.n) (h : sIAddr P d st T x ix = some E) : Local P o st E := by
  unfold sIAddr at h
  split at h
  rotate_left
  · cases h
  rename_i k i hi
  split at h
  rotate_left
  · cases h
  rename_i h0
  split at h
  · rename_i e hT
    split at h
    rotate_left
    · cases h
    rename_i sz hs
    split at h
    · rename_i es xs hx
      split at h
      · rename_i he
        obtain ⟨rfl, he⟩ := he
        split at h
        · rename_i c hc
          cases h
          intro st2 hn hr
          exact ok_index_sl ho hd (by rw [hn]; exact hlt) hT hs he (by rw [ev_agree hr (fun k hk => by simp [hk])]; exact hx) (by rw [ev_agree hr (fun k hk => by simp [hk])]; exact hi) h0 hc
        · cases h
      · cases h
    · rename_i es xs hx
      split at h
      · rename_i he
        obtain ⟨rfl, he⟩ := he
        split at h
        · rename_i c hc
          cases h
          intro st2 hn hr
          exact ok_index_tight ho hd (by rw [hn]; exact hlt) hT hs he (by rw [ev_agree hr (fun k hk => by simp [hk])]; exact hx) (by rw [ev_agree hr (fun k hk => by simp [hk])]; exact hi) h0 hc
        · cases h
      · cases h
    · rename_i n hx
      split at h
      · rename_i e' es xs hn'
        split at h
        · rename_i he
          subst he
          split at h
          · rename_i hl
            cases h
            intro st2 hn hr
            exact ok_index_own (e' := e') ho hd (by rw [hn]; exact hlt) hT hs (by rw [ev_agree hr (fun k hk => by simp [hk])]; exact hx) (by rw [sget_agree hr (by simp)]; exact hn') (by rw [ev_agree hr (fun k hk => by simp [hk])]; exact hi) h0 hl
          · cases h
        · cases h
      · cases h
    · cases h
  · split at h
    · rename_i n e hT
      split at h
      · rename_i sz hs
        split at h
        · rename_i hl
          split at h
          · rename_i av hm
            cases h
            intro st2 hn hr
            exact ok_index_arr ho hd (by rw [hn]; exact hlt) hT hs (by rw [ev_agree hr (fun k hk => by simp [hk])]; exact hi) h0 hl (by rw [ev_agree hr (fun k hk => by simp [hk])]; exact hm)
          · cases h
        · cases h
      · cases h
    · cases h
theorem l_index {T : Nat} {x ix : Operand} (ho : o.op = .index T x ix) (hd : o.dst = some d) (hlt : d < st.n) (h : sIndex P d st T x ix = some E) : Local P o st E := by
  unfold sIndex at h
  split at h
  · rename_i k i s hi hx
    split at h
    · rename_i hc
      split at h
      · rename_i b hb
        cases h
        intro st2 hn hr
        exact ok_index_str ho hd (by rw [hn]; exact hlt) hc.2 (by rw [ev_agree hr (fun k hk => by simp [hk])]; exact hx) (by rw [ev_agree hr (fun k hk => by simp [hk])]; exact hi) hc.1 hb
      · cases h
    · cases h
  · cases h
theorem l_load {T : Nat} {x : Operand} (ho : o.op = .load T x) (hd : o.dst = some d) (hlt : d < st.n) (h : sLoad P d st T x = some E) : Local P o st E := by
  unfold sLoad at h
  split at h
  rotate_left
  · cases h
  rename_i b n hg hs
  split at h
  · rename_i cs hx
    split at h
    · rename_i av hc
      cases h
      intro st2 hn hr
      exact ok_load_r ho hd (by rw [hn]; exact hlt) hg hs (by rw [ev_agree hr (fun k hk => by simp [hk])]; exact hx) hc
    · cases h
  · rename_i m off hx
    split at h
    · rename_i T' cells hm
      split at h
      · rename_i av hc
        cases h
        intro st2 hn hr
        exact ok_load_box ho hd (by rw [hn]; exact hlt) hg hs (by rw [ev_agree hr (fun k hk => by simp [hk])]; exact hx) (by rw [sget_agree hr (by simp)]; exact hm) hc
      · cases h
    · cases h
  · rename_i m es i j hx
    split at h
    · rename_i e es' xs hm
      split at h
      · rename_i he
        subst he
        split at h
        · rename_i c hc
          split at h
          · rename_i av hcut
            cases h
            intro st2 hn hr
            exact ok_load_own ho hd (by rw [hn]; exact hlt) hg hs (by rw [ev_agree hr (fun k hk => by simp [hk])]; exact hx) (by rw [sget_agree hr (by simp)]; exact hm) hc hcut
          · cases h
        · cases h
      · cases h
    · cases h
  · cases h
theorem l_alloc {T : Nat} (ho : o.op = .alloc T) (hd : o.dst = some d) (hlt : d < st.n) (h : sAlloc P d st T = some E) : Local P o st E := by
  unfold sAlloc at h
  split at h
  · rename_i z hz
    split at h
    · rename_i hz1
      cases h
      intro st2 hn hr
      exact ok_alloc ho hd (by rw [hn]; exact hlt) hz hz1
    · cases h
  · cases h
theorem l_box {T : Nat} {x : Operand} (ho : o.op = .box T x) (hd : o.dst = some d) (hlt : d < st.n) (h : sBox d st T x = some E) : Local P o st E := by
  unfold sBox at h
  split at h
  · rename_i cells hc
    split at h
    · rename_i hf
      cases h
      intro st2 hn hr
      exact ok_box ho hd (by rw [hn]; exact hlt) (by rw [ev_agree hr (fun k hk => by simp [hk]), cellsA_agree hr (fun k hk => by simp [hk])]; exact hc) hf
    · cases h
  · cases h
theorem l_build {T : Nat} {ps : Array (Nat × Operand)} (ho : o.op = .build T ps) (hd : o.dst = some d) (hlt : d < st.n) (h : sBuild P d st T ps = some E) : Local P o st E := by
  unfold sBuild at h
  split at h
  rotate_left
  · cases h
  rename_i z pp hz hp
  split at h
  rotate_left
  · cases h
  rename_i hz1
  split at h
  · rename_i pl hpl
    split at h
    · rename_i cells hf
      cases h
      intro st2 hn hr
      exact ok_build_struct ho hd (by rw [hn]; exact hlt) hz hz1 hpl (by rw [partsP_agree hr (fun k hk => hk)]; exact hp) hf
    · cases h
  · split at h
    · rename_i n e hT
      split at h
      · rename_i sz hs
        split at h
        · rename_i cells hf
          cases h
          intro st2 hn hr
          exact ok_build_arr ho hd (by rw [hn]; exact hlt) hz hz1 hT hs (by rw [partsP_agree hr (fun k hk => hk)]; exact hp) hf
        · cases h
      · cases h
    · cases h
theorem l_buildS {T n : Nat} {ps : Array (Nat × Operand)} (ho : o.op = .buildSlice T n ps) (hd : o.dst = some d) (hlt : d < st.n) (h : sBuildS P d st T n ps = some E) : Local P o st E := by
  unfold sBuildS at h
  split at h
  rotate_left
  · cases h
  rename_i e hT
  split at h
  rotate_left
  · cases h
  rename_i size by_ z pp he hz hp
  split at h
  rotate_left
  · cases h
  rename_i hc
  split at h
  · rename_i cells hf
    cases h
    intro st2 hn hr
    exact ok_buildSlice ho hd (by rw [hn]; exact hlt) hT he hz hc.1 hc.2.1 hc.2.2 (by rw [partsP_agree hr (fun k hk => hk)]; exact hp) hf
  · cases h
theorem l_slice {T : Nat} {x : Operand} {lo hi mx : Option Operand} (ho : o.op = .slice T x lo hi mx) (hd : o.dst = some d) (hlt : d < st.n) (h : sSlice P d st T x lo hi mx = some E) : Local P o st E := by
  unfold sSlice at h
  split at h
  rotate_left
  · cases h
  rename_i e es xs hT hx
  split at h
  rotate_left
  · cases h
  rename_i sz l h' hs hl hh
  split at h
  rotate_left
  · cases h
  rename_i hc
  obtain ⟨rfl, h1, h2⟩ := hc
  split at h
  · cases h
    intro st2 hn hr
    exact ok_slice2 ho hd (by rw [hn]; exact hlt) hT hs (by rw [ev_agree hr (fun k hk => by simp [hk])]; exact hx) (by rw [bnd_agree hr (fun k hk => by simp [keysL] at hk ⊢; exact .inr (.inl hk))]; exact hl)
      (by rw [bnd_agree hr (fun k hk => by simp [keysL] at hk ⊢; exact .inr (.inr hk))]; exact hh) h1 h2
  · rename_i y
    split at h
    · rename_i hm
      cases h
      intro st2 hn hr
      exact ok_slice3 ho hd (by rw [hn]; exact hlt) hT hs (by rw [ev_agree hr (fun k hk => by simp [hk])]; exact hx) (by rw [bnd_agree hr (fun k hk => by simp [keysL] at hk ⊢; exact .inr (.inl hk))]; exact hl)
        (by rw [bnd_agree hr (fun k hk => by simp [keysL] at hk ⊢; exact .inr (.inr (.inl hk)))]; exact hh) (by rw [bnd_agree hr (fun k hk => by simp [keysL] at hk ⊢; exact .inr (.inr (.inr hk)))]; exact hm.1) rfl h1 h2 hm.2
    · cases h
theorem l_len {T : Nat} {x : Operand} (ho : o.op = .call { callee := .builtin .len, args := #[x], argTypes := #[T] }) (hd : o.dst = some d) (hlt : d < st.n) (h : sLen P d st T x = some E) : Local P o st E := by
  unfold sLen at h
  split at h
  · rename_i e hT
    split at h
    · rename_i es hs
      split at h
      · rename_i xs hx
        cases h
        intro st2 hn hr
        exact ok_len (es := es) ho hd (by rw [hn]; exact hlt) hT (by rw [ev_agree hr (fun k hk => by simp [hk]), srcP_agree hr (fun k hk => by simp [hk])]; exact hx)
      · cases h
    · cases h
  · split at h
    · rename_i s hx
      split at h
      · rename_i hT
        cases h
        intro st2 hn hr
        exact ok_len_str ho hd (by rw [hn]; exact hlt) hT (by rw [ev_agree hr (fun k hk => by simp [hk])]; exact hx)
      · cases h
    · cases h
theorem l_builtin {c : Call} {b : Builtin} (ho : o.op = .call c) (hb : c.callee = .builtin b) (hd : o.dst = some d) (hlt : d < st.n) (h : sBuiltin P d st b c.args c.argTypes = some E) : Local P o st E := by
  obtain ⟨callee, args, ts⟩ := c
  simp only at hb h
  subst hb
  unfold sBuiltin at h
  split at h
  · rename_i x T h1 h2
    have h1' : args = #[x] := by apply Array.toList_inj.1; simpa using h1
    have h2' : ts = #[T] := by apply Array.toList_inj.1; simpa using h2
    subst h1'; subst h2'
    exact l_len ho hd hlt h
  · rename_i x y h1
    have h1' : args = #[x, y] := by apply Array.toList_inj.1; simpa using h1
    subst h1'
    unfold sMM at h
    split at h
    · rename_i k m k' n hx hy
      cases h
      intro st2 hn hr
      exact ok_max2 ho hd (by rw [hn]; exact hlt) (by rw [ev_agree hr (fun k hk => by simp [hk])]; exact hx) (by rw [ev_agree hr (fun k hk => by simp [hk])]; exact hy)
    · cases h
  · rename_i x y h1
    have h1' : args = #[x, y] := by apply Array.toList_inj.1; simpa using h1
    subst h1'
    unfold sMM at h
    split at h
    · rename_i k m k' n hx hy
      cases h
      intro st2 hn hr
      exact ok_min2 ho hd (by rw [hn]; exact hlt) (by rw [ev_agree hr (fun k hk => by simp [hk])]; exact hx) (by rw [ev_agree hr (fun k hk => by simp [hk])]; exact hy)
    · cases h
  · cases h
theorem stepD_local (hd : o.dst = some d) (hlt : d < st.n) (h : stepD P o.op d st = some E) : Local P o st E := by
  unfold stepD at h
  split at h
  · exact l_move (.inl ‹_›) hd hlt h
  · exact l_move (.inr ‹_›) hd hlt h
  · exact l_pick ‹_› hd hlt h
  · exact l_not ‹_› hd hlt h
  · exact l_bin ‹_› hd hlt h
  · exact l_conv ‹_› hd hlt h
  · exact l_extract ‹_› hd hlt h
  · exact l_nil ‹_› hd hlt h
  · exact l_func ‹_› hd hlt h
  · exact l_fAddr ‹_› hd hlt h
  · exact l_field ‹_› hd hlt h
  · exact l_iAddr ‹_› hd hlt h
  · exact l_index ‹_› hd hlt h
  · exact l_load ‹_› hd hlt h
  · exact l_alloc ‹_› hd hlt h
  · exact l_box ‹_› hd hlt h
  · exact l_build ‹_› hd hlt h
  · exact l_buildS ‹_› hd hlt h
  · exact l_slice ‹_› hd hlt h
  · split at h
    · exact l_builtin ‹_› ‹_› hd hlt h
    · cases h
  · cases h
theorem stepN_local (hd : o.dst = none) (h : stepN P o.op st = some E) : Local P o st E := by
  unfold stepN at h
  split at h
  rotate_left
  · cases h
  rename_i T x y ho
  split at h
  rotate_left
  · cases h
  rename_i n hs
  split at h
  · rename_i m off hx
    split at h
    · rename_i T' cells vs hm hv
      split at h
      · rename_i hl
        split at h
        · rename_i cells' hsp
          cases h
          intro st2 hn hr
          exact ok_store_box ho hd hs (by rw [ev_agree hr (fun k hk => by simp [hk])]; exact hx) (by rw [sget_agree hr (by simp)]; exact hm)
            (by rw [ev_agree hr (fun k hk => by simp [hk]), cellsA_agree hr (fun k hk => by simp [hk])]; exact hv) hl hsp
        · cases h
      · cases h
    · cases h
  · rename_i m es i j hx
    split at h
    · rename_i e es' xs vs hm hv
      split at h
      · rename_i hl
        obtain ⟨rfl, hl⟩ := hl
        split at h
        · rename_i c hc
          split at h
          · rename_i c' hsp
            cases h
            intro st2 hn hr
            exact ok_store_own ho hd hs (by rw [ev_agree hr (fun k hk => by simp [hk])]; exact hx) (by rw [sget_agree hr (by simp)]; exact hm) hc (by rw [ev_agree hr (fun k hk => by simp [hk])]; exact hv) hl hsp
          · cases h
        · cases h
      · cases h
    · cases h
  · cases h
theorem step_local (h : step P o st = some E) : Local P o st E := by
  unfold step at h
  split at h
  · split at h
    · exact stepD_local ‹_› ‹_› h
    · cases h
  · exact stepN_local ‹_› h

/-! ### Appends -/
theorem l_append_own {s x : Operand} {t t' e e' size bytes : Nat} {n : Name} {xs ys : List (List PV)} (ho : o.op = .call { callee := .builtin .append, args := #[s, x], argTypes := #[t, t'] }) (hd : o.dst = some d) (hlt : d < st.n)
    (hT : elemS P t = some e) (hT' : elemS P t' = some e') (he : elemT? P e = some (size, bytes)) (hsz : 0 < size) (hs : ev st s = .own n) (hn : sget st.s n = some (.own e size xs)) (hx : srcP st size (ev st x) = some ys)
    (hb : (xs.length + ys.length) * bytes ≤ 140737488355328) (h63 : xs.length + ys.length ≤ maxLen) :
    Local P o st ⟨keyO s ++ keyO x ++ slotK (ev st x) ++ [.slot n], ⟨[(d, .own (freshN n d))], [(freshN n d, some (.own e size (xs ++ ys))), (n, none)]⟩, [freshN n d]⟩ := by
  intro st2 hn' hr
  exact ok_append_own ho hd (by rw [hn']; exact hlt) hT hT' he hsz (by rw [ev_agree hr (fun k hk => by simp [hk])]; exact hs) (by rw [sget_agree hr (by simp)]; exact hn)
    (by rw [ev_agree hr (fun k hk => by simp [hk]), srcP_agree hr (fun k hk => by simp [hk])]; exact hx) hb h63
theorem l_append_new {s x : Operand} {t t' e e' size bytes : Nat} {xs ys : List (List PV)} (ho : o.op = .call { callee := .builtin .append, args := #[s, x], argTypes := #[t, t'] }) (hd : o.dst = some d) (hlt : d < st.n)
    (hT : elemS P t = some e) (hT' : elemS P t' = some e') (he : elemT? P e = some (size, bytes)) (hsz : 0 < size) (hs : ev st s = .tight size xs ∨ (ev st s = .pv (.v (.slice none 0 0)) ∧ xs = [])) (hx : srcP st size (ev st x) = some ys)
    (hne : xs = [] ∨ 0 < ys.length) (hb : (xs.length + ys.length) * bytes ≤ 140737488355328) (h63 : xs.length + ys.length ≤ maxLen) :
    Local P o st ⟨keyO s ++ keyO x ++ slotK (ev st x), ⟨[(d, .own (.loc d))], [(.loc d, some (.own e size (xs ++ ys)))]⟩, [.loc d]⟩ := by
  intro st2 hn' hr
  exact ok_append_new ho hd (by rw [hn']; exact hlt) hT hT' he hsz (by rw [ev_agree hr (fun k hk => by simp [hk])]; exact hs)
    (by rw [ev_agree hr (fun k hk => by simp [hk]), srcP_agree hr (fun k hk => by simp [hk])]; exact hx) hne hb h63
theorem l_make {T e size bytes : Nat} {x y : Operand} {z : Value} {k k' : IntKind} {i : Int} (ho : o.op = .makeSlice T x y) (hd : o.dst = some d) (hlt : d < st.n) (hT : elemS P T = some e) (he : elemT? P e = some (size, bytes))
    (hz : zeroOf P e = some z) (hz1 : z.cells.toList.all (·.oneCell') = true) (hsz : 0 < size) (hx : ev st x = .pv (.v (.int k i))) (hy : ev st y = .pv (.v (.int k' i))) (h0 : 0 ≤ i) (hb : bytes * i.toNat ≤ 281474976710656) (h63 : i.toNat ≤ maxLen) :
    Local P o st ⟨keyO x ++ keyO y, ⟨[(d, .own (.loc d))], [(.loc d, some (.own e size (List.replicate i.toNat (z.cells.toList.map .v))))]⟩, [.loc d]⟩ := by
  intro st2 hn' hr
  exact ok_make ho hd (by rw [hn']; exact hlt) hT he hz hz1 hsz (by rw [ev_agree hr (fun k hk => by simp [hk])]; exact hx) (by rw [ev_agree hr (fun k hk => by simp [hk])]; exact hy) h0 hb h63

end Go.Eng
