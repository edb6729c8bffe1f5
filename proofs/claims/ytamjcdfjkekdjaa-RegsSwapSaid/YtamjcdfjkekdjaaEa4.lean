import Derived.Test.YtamjcdfjkekdjaaEa3
set_option autoImplicit false
set_option linter.unusedVariables false
set_option linter.unusedSimpArgs false
namespace Go.Eng
open Go Go.RowKit
variable {P : Program} {o : Oper} {st : AState} {d : Nat}

theorem add_add (a : Addr) (i j : Nat) : (a.add i).add j = a.add (i + j) := by
  unfold Addr.add
  by_cases hi : i = 0 <;> by_cases hj : j = 0 <;> simp [hi, hj, Nat.add_assoc]
theorem add_block (a : Addr) (n : Nat) : (a.add n).block = a.block := by unfold Addr.add; split <;> rfl
theorem arr_of (a : Value) (cs : List PV) : True := trivial

theorem pvs_cells {F : Nat → Prop} {w : World} {p : PV} {v : Value} (h : PRel F w p v) : v.oneCell' = true := by
  cases p with
  | v x => obtain ⟨rfl, h⟩ := h; exact h
  | sl es xs => obtain ⟨a, cap, vs, rfl, _⟩ := h; rfl
theorem PVs.one {F : Nat → Prop} {w : World} : ∀ {ps : List PV} {vs : List Value}, PVs F w ps vs → ∀ u ∈ vs, u.oneCell' = true
  | [], vs, h, u, hu => by simp only [PVs] at h; subst h; cases hu
  | p :: ps, vs, h, u, hu => by
    obtain ⟨v, vs', rfl, h1, h2⟩ := h
    cases hu with
    | head => exact pvs_cells h1
    | tail _ hu => exact PVs.one h2 u hu
theorem PElems.one' {F : Nat → Prop} {w : World} {es : Nat} : ∀ {xs : List (List PV)} {vs : List Value}, PElems F w es xs vs → ∀ u ∈ vs, u.oneCell' = true
  | [], vs, h, u, hu => by simp only [PElems] at h; subst h; cases hu
  | x :: xs, vs, h, u, hu => by
    obtain ⟨v1, v2, rfl, _, h2, h3⟩ := h
    rcases List.mem_append.1 hu with hu | hu
    · exact h2.one u hu
    · exact PElems.one' h3 u hu
theorem PVs.toARels {ρ : Rho} {w : World} : ∀ {ps : List PV} {vs : List Value}, PVs ρ.F w ps vs → ARels ρ w (ps.map .pv) vs
  | [], vs, h => by simpa only [ARels, PVs, List.map_nil] using h
  | p :: ps, vs, h => by
    obtain ⟨v, vs', h1, h2, h3⟩ := h
    exact ⟨v, vs', h1, h2, PVs.toARels h3⟩
def allPV : List AV → Option (List PV)
  | [] => some []
  | .pv p :: l => match allPV l with | some r => some (p :: r) | none => none
  | _ => none
theorem allPV_rel {ρ : Rho} {w : World} : ∀ {l : List AV} {ps : List PV} {vs : List Value}, allPV l = some ps → ARels ρ w l vs → PVs ρ.F w ps vs
  | [], ps, vs, h, k => by simp [allPV] at h; subst h; simpa only [ARels, PVs] using k
  | .pv p :: l, ps, vs, h, k => by
    simp only [allPV] at h
    split at h
    · rename_i r hr
      cases h
      obtain ⟨v, vs', rfl, h1, h2⟩ := k
      exact ⟨v, vs', rfl, h1, allPV_rel hr h2⟩
    · cases h
  | .agg _ :: l, _, _, h, _ | .tup _ :: l, _, _, h, _ | .own _ :: l, _, _, h, _ | .tight _ _ :: l, _, _, h, _ | .ptr _ _ :: l, _, _, h, _ | .eptr _ _ _ _ :: l, _, _, h, _
  | .rptr _ :: l, _, _, h, _ | .fn _ _ _ :: l, _, _, h, _ | .dead :: l, _, _, h, _ => by simp [allPV] at h
theorem allPV_map : ∀ l : List PV, allPV (l.map .pv) = some l
  | [] => rfl
  | p :: l => by simp [allPV, allPV_map l]

/-! ### Addresses -/
theorem run_sureAddr (a : Addr) (w : World) : (Instr.sureAddr (.pointer (some a))).run P w = .ok a w := rfl

/-- A pointer to cells, in whatever place. -/
def moveP (k : Nat) : AV → Option AV
  | .ptr n o => some (.ptr n (o + k))
  | .eptr n es i j => some (.eptr n es i (j + k))
  | .rptr cs => some (.rptr (cs.drop k))
  | _ => none
theorem moveP_rel {ρ : Rho} {w : World} {k : Nat} {av av' : AV} {v : Value} (h : moveP k av = some av') (hv : ARel ρ w av v) : ∃ a, v = .pointer (some a) ∧ ARel ρ w av' (.pointer (some (a.add k))) := by
  cases av with
  | ptr n o => simp [moveP] at h; subst h; exact ⟨_, hv, by simp [ARel, Addr.add_lit]⟩
  | eptr n es i j =>
    simp [moveP] at h; subst h
    obtain ⟨b, hb, rfl⟩ := hv
    exact ⟨_, rfl, b, hb, by simp [Addr.add_lit, Nat.add_assoc]⟩
  | rptr cs =>
    simp [moveP] at h; subst h
    obtain ⟨ad, vs, rfl, h1, h2, h3⟩ := hv
    refine ⟨ad, rfl, ad.add k, vs.drop k, rfl, h1.drop k, ?_, fun j u hu => ?_⟩
    · rcases h2 with rfl | h2
      · exact .inl (by simp)
      · exact .inr (by rw [add_block]; exact h2)
    · rw [add_add]; rw [List.getElem?_drop] at hu; exact h3 _ u hu
  | _ => simp [moveP] at h

theorem ok_fieldAddr {T i off ft k : Nat} {x : Operand} {av : AV} (ho : o.op = .fieldAddr T x i) (hd : o.dst = some d) (hlt : d < st.n)
    (hf : fldOf P T i = some (off, ft)) (hs : szOf P ft = some (k + 1)) (hm : moveP off (ev st x) = some av) : OpOK P o st ⟨[(d, av)], []⟩ [] :=
  ok_value hd hlt fun Γ ρ a w h => by
    obtain ⟨ad, h1, h2⟩ := moveP_rel hm (ev_rel h x)
    refine ⟨_, h2, ?_⟩
    unfold fldOf at hf
    split at hf
    · rename_i fs hu
      cases hq : fs[i]? with
      | none => rw [hq] at hf; cases hf
      | some f =>
        rw [hq] at hf; simp at hf
        obtain ⟨rfl, rfl⟩ := hf
        simp [execOp, ho, Instr.fieldAt, run_underlying hu, hq, h1, Instr.sureAddr, fieldPlace, run_size hs]
    · cases hf

theorem PVs.extract {F : Nat → Prop} {w : World} {cs : List PV} {a : Array Value} (h : PVs F w cs a.toList) (off n : Nat) : PVs F w ((cs.drop off).take n) (a.extract off (off + n)).toList := by
  have := (h.drop off).take n
  simpa [Array.toList_extract, List.extract_eq_take_drop] using this

theorem ok_field {T i off ft n : Nat} {x : Operand} {cs : List PV} {av : AV} {b : Bool} (ho : o.op = .field T x i) (hd : o.dst = some d) (hlt : d < st.n)
    (hf : fldOf P T i = some (off, ft)) (hs : szOf P ft = some n) (hg : aggOf P ft = some b) (hx : ev st x = .agg cs)
    (hr : (if b then some (AV.agg ((cs.drop off).take n)) else (cs[off]?).map .pv) = some av) : OpOK P o st ⟨[(d, av)], []⟩ [] :=
  ok_value hd hlt fun Γ ρ a w h => by
    have h1 := ev_rel h x
    rw [hx] at h1
    obtain ⟨arr, h2, h3⟩ := h1
    unfold fldOf at hf
    split at hf
    · rename_i fs hu
      cases hq : fs[i]? with
      | none => rw [hq] at hf; cases hf
      | some f =>
        rw [hq] at hf; simp at hf
        obtain ⟨rfl, rfl⟩ := hf
        cases b with
        | true =>
          simp at hr; subst hr
          refine ⟨.agg (arr.extract f.offset (f.offset + n)), ⟨_, rfl, h3.extract _ _⟩, ?_⟩
          simp [execOp, ho, Instr.field, run_underlying hu, hq, h2, asAgg, part, run_isAgg hg, run_size hs]
        | false =>
          simp at hr
          obtain ⟨p, hp, rfl⟩ := hr
          obtain ⟨v, hv, hrel⟩ := h3.get hp
          have hv' : arr[f.offset]? = some v := by simpa using hv
          refine ⟨v, hrel, ?_⟩
          simp [execOp, ho, Instr.field, run_underlying hu, hq, h2, asAgg, part, run_isAgg hg, hv']
    · cases hf

theorem run_indexAt_sl {t e : TypeId} {sz : Nat} (hu : P.underlying t = some (.slice e)) (hs : szOf P e = some sz) (a : Addr) (len cap : Nat) (k : IntKind) (i : Int) (h0 : 0 ≤ i) (h1 : i.toNat < len) (w : World) :
    (Instr.indexAt t (.slice (some a) len cap) (.int k i)).run P w = .ok (.pointer (some (a.add (i.toNat * sz)))) w := by
  have h2 : i < (len : Int) := by omega
  simp [Instr.indexAt, asIntOf, run_underlying hu, h0, h2, run_size hs]
theorem run_indexAt_arr {t e : TypeId} {sz n : Nat} (hu : P.underlying t = some (.array n e)) (hs : szOf P e = some sz) (a : Addr) (k : IntKind) (i : Int) (h0 : 0 ≤ i) (h1 : i.toNat < n) (w : World) :
    (Instr.indexAt t (.pointer (some a)) (.int k i)).run P w = .ok (.pointer (some (a.add (i.toNat * sz)))) w := by
  have h2 : i < (n : Int) := by omega
  simp [Instr.indexAt, asIntOf, run_underlying hu, Instr.sureAddr, h0, h2, run_size hs]

theorem sl_elem {F : Nat → Prop} {w : World} {es : Nat} {xs : List (List PV)} {i : Nat} {c : List PV} {a : Option Addr} {vs : List Value} (h4 : PElems F w es xs vs)
    (h5 : vs = [] ∨ ∃ ad, a = some ad ∧ F ad.block ∧ ∀ j u, vs[j]? = some u → w.cell? (ad.add j) = some u) (hc : xs[i]? = some c) (hes : 0 < es) :
    ∃ ad, a = some ad ∧ ∃ us, PVs F w c us ∧ F ad.block ∧ ∀ j u, us[j]? = some u → w.cell? ((ad.add (i * es)).add j) = some u := by
  obtain ⟨hl, hp⟩ := h4.get hc
  have hlen := h4.length
  have hi := (List.getElem?_eq_some_iff.1 hc).1
  have hpos : 0 < vs.length := by rw [hlen]; exact Nat.mul_pos (by omega) hes
  rcases h5 with rfl | ⟨ad, rfl, hF, hcell⟩
  · simp at hpos
  · refine ⟨ad, rfl, _, hp, hF, fun j u hu => ?_⟩
    rw [add_add]
    rw [List.getElem?_take] at hu
    split at hu
    · rw [List.getElem?_drop] at hu; exact hcell _ u hu
    · cases hu

theorem ok_index_sl {T e es : Nat} {x ix : Operand} {k : IntKind} {i : Int} {xs : List (List PV)} {c : List PV} (ho : o.op = .indexAddr T x ix) (hd : o.dst = some d) (hlt : d < st.n)
    (hT : elemS P T = some e) (hs : szOf P e = some es) (hes : 0 < es) (hx : ev st x = .pv (.sl es xs)) (hi : ev st ix = .pv (.v (.int k i))) (h0 : 0 ≤ i) (hc : xs[i.toNat]? = some c) :
    OpOK P o st ⟨[(d, .rptr c)], []⟩ [] :=
  ok_value hd hlt fun Γ ρ a w h => by
    have h1 := ev_rel h x
    have h2 := ev_rel h ix
    rw [hx] at h1; rw [hi] at h2
    have h2' := pv_inv h2
    obtain ⟨ao, cap, vs, h3, h4, h5, h6, h7⟩ := h1
    obtain ⟨ad, rfl, us, h8, h9, h10⟩ := sl_elem h6 h7 hc hes
    have hl := (List.getElem?_eq_some_iff.1 hc).1
    refine ⟨.pointer (some (ad.add (i.toNat * es))), ⟨_, us, rfl, h8, .inr (by rw [add_block]; exact h9), h10⟩, ?_⟩
    simp [execOp, ho, h3, h2', run_indexAt_sl (und_slice hT) hs ad _ _ k i h0 hl]
theorem ok_index_tight {T e es : Nat} {x ix : Operand} {k : IntKind} {i : Int} {xs : List (List PV)} {c : List PV} (ho : o.op = .indexAddr T x ix) (hd : o.dst = some d) (hlt : d < st.n)
    (hT : elemS P T = some e) (hs : szOf P e = some es) (hes : 0 < es) (hx : ev st x = .tight es xs) (hi : ev st ix = .pv (.v (.int k i))) (h0 : 0 ≤ i) (hc : xs[i.toNat]? = some c) :
    OpOK P o st ⟨[(d, .rptr c)], []⟩ [] :=
  ok_value hd hlt fun Γ ρ a w h => by
    have h1 := ev_rel h x
    have h2 := ev_rel h ix
    rw [hx] at h1; rw [hi] at h2
    have h2' := pv_inv h2
    obtain ⟨ao, vs, h3, h5, h6, h7⟩ := h1
    obtain ⟨ad, rfl, us, h8, h9, h10⟩ := sl_elem h6 h7 hc hes
    have hl := (List.getElem?_eq_some_iff.1 hc).1
    refine ⟨.pointer (some (ad.add (i.toNat * es))), ⟨_, us, rfl, h8, .inr (by rw [add_block]; exact h9), h10⟩, ?_⟩
    simp [execOp, ho, h3, h2', run_indexAt_sl (und_slice hT) hs ad _ _ k i h0 hl]

/-- An own slice that isn't empty: where it lies. -/
theorem own_form {ρ : Rho} {w : World} {n : Name} {e es : Nat} {xs : List (List PV)} (h : SlotOK ρ w n (.own e es xs)) (hx : 0 < xs.length) :
    ∃ g cap cur vs, ρ.ov n = .slice (some ⟨g, 0, none⟩) xs.length cap ∧ w.heap[g]? = some (.cells cur e (0, 0)) ∧ xs.length ≤ cap ∧ cap ≤ maxLen ∧ cur.size = cap * es ∧ cur.toList.take (xs.length * es) = vs ∧ PElems ρ.F w es xs vs := by
  obtain ⟨vs, h0, h3⟩ := h
  rcases h0 with ⟨h1, h2⟩ | ⟨h0, _⟩
  rotate_left
  · omega
  rcases h2 with ⟨_, h2⟩ | ⟨g, cap, cur, h4, _, h5, h6, h7, h8, h9⟩
  · omega
  · exact ⟨g, cap, cur, vs, h4, h5, h6, h7, h8, h9, h3⟩
theorem own_shape {ρ : Rho} {w : World} {n : Name} {e es : Nat} {xs : List (List PV)} (h : SlotOK ρ w n (.own e es xs)) : ∃ a cap, ρ.ov n = .slice a xs.length cap ∧ xs.length ≤ cap ∧ cap ≤ maxLen := by
  obtain ⟨vs, h0, h3⟩ := h
  rcases h0 with ⟨h1, h2⟩ | ⟨h0, _, a, h2⟩
  rotate_left
  · exact ⟨a, 0, by rw [h2, h0], by omega, by simp [maxLen]⟩
  rcases h2 with ⟨h2, h4⟩ | ⟨g, cap, cur, h4, _, h5, h6, h7, h8, h9⟩
  · exact ⟨none, 0, by rw [h2, h4], by omega, by simp [maxLen]⟩
  · exact ⟨_, cap, h4, h6, h7⟩
theorem ok_index_own {T e e' es : Nat} {x ix : Operand} {k : IntKind} {i : Int} {n : Name} {xs : List (List PV)} (ho : o.op = .indexAddr T x ix) (hd : o.dst = some d) (hlt : d < st.n)
    (hT : elemS P T = some e) (hs : szOf P e = some es) (hx : ev st x = .own n) (hn : sget st.s n = some (.own e' es xs)) (hi : ev st ix = .pv (.v (.int k i))) (h0 : 0 ≤ i) (hl : i.toNat < xs.length) :
    OpOK P o st ⟨[(d, .eptr n es i.toNat 0)], []⟩ [] :=
  ok_value hd hlt fun Γ ρ a w h => by
    have h1 := ev_rel h x
    have h2 := ev_rel h ix
    rw [hx] at h1; rw [hi] at h2
    have h2' := pv_inv h2
    obtain ⟨g, cap, cur, vs, h3, _⟩ := own_form (h.sok.slots n _ hn) (by omega)
    have h1' : a.eval x = ρ.ov n := h1
    refine ⟨.pointer (some ⟨g, i.toNat * es, none⟩), ⟨g, by rw [h3]; rfl, by simp⟩, ?_⟩
    simp [execOp, ho, h1', h3, h2', run_indexAt_sl (und_slice hT) hs _ _ _ k i h0 hl, Addr.add_lit]
theorem ok_index_arr {T e sz n : Nat} {x ix : Operand} {k : IntKind} {i : Int} {av : AV} (ho : o.op = .indexAddr T x ix) (hd : o.dst = some d) (hlt : d < st.n)
    (hT : arrOf P T = some (n, e)) (hs : szOf P e = some sz) (hi : ev st ix = .pv (.v (.int k i))) (h0 : 0 ≤ i) (hl : i.toNat < n) (hm : moveP (i.toNat * sz) (ev st x) = some av) :
    OpOK P o st ⟨[(d, av)], []⟩ [] :=
  ok_value hd hlt fun Γ ρ a w h => by
    have h2 := ev_rel h ix
    rw [hi] at h2
    have h2' := pv_inv h2
    obtain ⟨ad, h3, h4⟩ := moveP_rel hm (ev_rel h x)
    exact ⟨_, h4, by simp [execOp, ho, h3, h2', run_indexAt_arr (und_arr hT) hs ad k i h0 hl]⟩

/-! ### Loads -/
theorem run_loadVar_agg {T n : Nat} (hg : aggOf P T = some true) (hs : szOf P T = some n) (ad : Addr) (vs : List Value) (hl : vs.length = n) (w : World) (h : ∀ j u, vs[j]? = some u → w.cell? (ad.add j) = some u) :
    (loadVar T ad).run P w = .ok (.agg vs.toArray) w := by
  subst hl
  simp [loadVar, run_isAgg hg, run_size hs, run_loadCells_list (P := P) w ad vs h]
theorem run_loadVar_one {T : Nat} (hg : aggOf P T = some false) (ad : Addr) (v : Value) (w : World) (h : w.cell? ad = some v) : (loadVar T ad).run P w = .ok v w := by
  simp [loadVar, run_isAgg hg, h]

/-- What is loaded of cells. -/
def cutP (b : Bool) (n : Nat) (cs : List PV) : Option AV :=
  if b then (if cs.length = n then some (.agg cs) else if n < cs.length then some (.agg (cs.take n)) else none) else (cs[0]?).map .pv
theorem cutP_rel {T n : Nat} {b : Bool} (hg : aggOf P T = some b) (hs : szOf P T = some n) {ρ : Rho} {w : World} {cs : List PV} {av : AV} (h : cutP b n cs = some av) {ad : Addr} {vs : List Value} (hv : PVs ρ.F w cs vs)
    (hc : ∀ j u, vs[j]? = some u → w.cell? (ad.add j) = some u) : ∃ v, ARel ρ w av v ∧ (loadVar T ad).run P w = .ok v w := by
  unfold cutP at h
  cases b with
  | true =>
    simp only [if_true] at h
    split at h
    · rename_i hl
      cases h
      exact ⟨.agg vs.toArray, ⟨_, rfl, by simpa using hv⟩, run_loadVar_agg hg hs ad vs (by rw [hv.length, hl]) w hc⟩
    · split at h
      · rename_i hl
        cases h
        refine ⟨.agg (vs.take n).toArray, ⟨_, rfl, by simpa using hv.take n⟩, run_loadVar_agg hg hs ad (vs.take n) (by rw [List.length_take, hv.length]; omega) w fun j u hu => hc j u ?_⟩
        rw [List.getElem?_take] at hu
        split at hu
        · exact hu
        · cases hu
      · cases h
  | false =>
    simp at h
    obtain ⟨p, hp, rfl⟩ := h
    obtain ⟨v, h1, h2⟩ := hv.get hp
    exact ⟨v, h2, run_loadVar_one hg ad v w (by have := hc 0 v h1; rwa [Addr.add_zero'] at this)⟩

theorem ok_load_r {T n : Nat} {b : Bool} {x : Operand} {cs : List PV} {av : AV} (ho : o.op = .load T x) (hd : o.dst = some d) (hlt : d < st.n)
    (hg : aggOf P T = some b) (hs : szOf P T = some n) (hx : ev st x = .rptr cs) (hr : cutP b n cs = some av) : OpOK P o st ⟨[(d, av)], []⟩ [] :=
  ok_value hd hlt fun Γ ρ a w h => by
    have h1 := ev_rel h x
    rw [hx] at h1
    obtain ⟨ad, vs, h2, h3, _, h4⟩ := h1
    obtain ⟨v, h5, h6⟩ := cutP_rel hg hs hr h3 h4
    exact ⟨v, h5, by simp [execOp, ho, h2, Instr.loadAt, Instr.sureAddr, h6]⟩

/-- What is loaded of a variable's cells. -/
def cutA (b : Bool) (n off : Nat) (cells : List AV) : Option AV :=
  if b then (match allPV ((cells.drop off).take n) with | some ps => if ps.length = n then some (.agg ps) else none | none => none) else cells[off]?
theorem ok_load_box {T T' n off : Nat} {b : Bool} {x : Operand} {m : Name} {cells : List AV} {av : AV} (ho : o.op = .load T x) (hd : o.dst = some d) (hlt : d < st.n)
    (hg : aggOf P T = some b) (hs : szOf P T = some n) (hx : ev st x = .ptr m off) (hm : sget st.s m = some (.box T' cells)) (hr : cutA b n off cells = some av) : OpOK P o st ⟨[(d, av)], []⟩ [] :=
  ok_value hd hlt fun Γ ρ a w h => by
    have h1 := ev_rel h x
    rw [hx] at h1
    have h1' : a.eval x = .pointer (some ⟨ρ.blk m, off, none⟩) := h1
    obtain ⟨cs, h2, h3, _⟩ := h.sok.slots m _ hm
    have hcell : ∀ j, w.cell? ((⟨ρ.blk m, off, none⟩ : Addr).add j) = cs.toList[off + j]? := fun j => by
      rw [Addr.add_lit, cell_of_row w _ _ cs _ _ h2]; simp
    unfold cutA at hr
    cases b with
    | true =>
      simp only [if_true] at hr
      split at hr
      · rename_i ps hps
        split at hr
        · rename_i hl
          cases hr
          have hrel := allPV_rel hps ((h3.drop off).take n)
          refine ⟨.agg ((cs.toList.drop off).take n).toArray, ⟨_, rfl, by simpa using hrel⟩, ?_⟩
          have := run_loadVar_agg (P := P) hg hs ⟨ρ.blk m, off, none⟩ ((cs.toList.drop off).take n) (by rw [hrel.length, hl]) w (fun j u hu => by
            rw [hcell]
            rw [List.getElem?_take] at hu
            split at hu
            · rw [List.getElem?_drop] at hu; exact hu
            · cases hu)
          simp [execOp, ho, h1', Instr.loadAt, Instr.sureAddr, this]
        · cases hr
      · cases hr
    | false =>
      simp at hr
      obtain ⟨v, h5, h6⟩ := h3.get hr
      refine ⟨v, h6, ?_⟩
      have := run_loadVar_one (P := P) hg ⟨ρ.blk m, off, none⟩ v w (by have := hcell 0; simp only [Addr.add_zero', Nat.add_zero] at this; rw [this]; exact h5)
      simp [execOp, ho, h1', Instr.loadAt, Instr.sureAddr, this]

/-- Cells of an own slice. -/
theorem own_cell {ρ : Rho} {w : World} {m : Name} {e es : Nat} {xs : List (List PV)} (h : SlotOK ρ w m (.own e es xs)) {i : Nat} {x : List PV} (hx : xs[i]? = some x) :
    ∃ g cap cur us, ρ.ov m = .slice (some ⟨g, 0, none⟩) xs.length cap ∧ w.heap[g]? = some (.cells cur e (0, 0)) ∧ xs.length * es ≤ cur.size ∧ x.length = es ∧ PVs ρ.F w x us ∧ us = (cur.toList.drop (i * es)).take es := by
  have hl := (List.getElem?_eq_some_iff.1 hx).1
  obtain ⟨g, cap, cur, vs, h1, h2, h3, _, h4, h5, h6⟩ := own_form h (by omega)
  obtain ⟨h7, h8⟩ := h6.get hx
  refine ⟨g, cap, cur, _, h1, h2, by rw [h4]; exact Nat.mul_le_mul_right _ h3, h7, h8, ?_⟩
  rw [← h5, List.drop_take, List.take_take]
  congr 1
  have : (i + 1) * es ≤ xs.length * es := Nat.mul_le_mul_right _ hl
  rw [Nat.succ_mul] at this
  omega
theorem ok_load_own {T n e es i j : Nat} {b : Bool} {x : Operand} {m : Name} {xs : List (List PV)} {c : List PV} {av : AV} (ho : o.op = .load T x) (hd : o.dst = some d) (hlt : d < st.n)
    (hg : aggOf P T = some b) (hs : szOf P T = some n) (hx : ev st x = .eptr m es i j) (hm : sget st.s m = some (.own e es xs)) (hc : xs[i]? = some c) (hr : cutP b n (c.drop j) = some av) : OpOK P o st ⟨[(d, av)], []⟩ [] :=
  ok_value hd hlt fun Γ ρ a w h => by
    have h1 := ev_rel h x
    rw [hx] at h1
    obtain ⟨g, cap, cur, us, h2, h3, h4, h5, h6, h7⟩ := own_cell (h.sok.slots m _ hm) hc
    obtain ⟨b', hb, hv⟩ := h1
    rw [h2] at hb; simp [Value.ownBlock] at hb; subst hb
    obtain ⟨v, h8, h9⟩ := cutP_rel (P := P) hg hs hr (h6.drop j) (ad := ⟨g, i * es + j, none⟩) (fun q u hu => by
      rw [Addr.add_lit, cell_of_row w _ _ cur _ _ h3, ← Array.getElem?_toList]
      rw [h7, List.getElem?_drop, List.getElem?_take] at hu
      split at hu
      · rw [List.getElem?_drop] at hu; rw [← hu]; congr 1; omega
      · cases hu)
    exact ⟨v, h8, by simp [execOp, ho, hv, Instr.loadAt, Instr.sureAddr, h9]⟩

end Go.Eng
