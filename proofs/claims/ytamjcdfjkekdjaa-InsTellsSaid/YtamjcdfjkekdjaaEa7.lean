import Derived.Test.YtamjcdfjkekdjaaEa6
set_option autoImplicit false
set_option linter.unusedVariables false
set_option linter.unusedSimpArgs false
namespace Go.Eng
open Go Go.RowKit
variable {P : Program} {o : Oper} {st : AState} {d : Nat}

/-! ### append -/
theorem append_types {t t' e e' ty : TypeId} (ht : P.underlying t = some (.slice e)) (ht' : P.underlying t' = some (.slice e')) (s x : Value) (w : World) :
    (Builtin.append_ #[t, t'] ty #[s, x]).run P w = (Builtin.append_ #[t, t] ty #[s, x]).run P w := by
  cases s <;> first | (simp [Builtin.append_, run_underlying ht]; done) | (cases hq : P.info? e <;> simp [Builtin.append_, run_underlying ht, run_underlying ht', sizeOf, typeInfo, hq])

theorem grown_new (w : World) (c : Array Value) (e : TypeId) (row : Option Nat) : w.grownBy (w.drew.alloc (.cells c e)) row :=
  ⟨rfl, rfl, rfl, by simp, fun k hk _ => heap_alloc_old w.drew _ k hk⟩
theorem own_new {w : World} {e : TypeId} {size n : Nat} {z : Value} {old news : List Value} (hzs : z.cells.size = size) (hlen : (old ++ news).length = n * size) (hm : n ≤ maxLen) (need cap : Nat) (hn : n = need) :
    (w.drew.alloc (.cells (old.toArray ++ news.toArray ++ Builtin.zeroCells z.cells (grownCap w need cap e - need)) e)).ownsRow 0 e size (.slice (some ⟨w.heap.size, 0, none⟩) n (grownCap w need cap e)) n (old ++ news) := by
  subst hn
  have hge := grownCap_ge w n cap e
  refine ⟨hlen, .inr ⟨w.heap.size, _, _, rfl, Nat.zero_le _, heap_alloc_new w.drew _, hge, grownCap_le_maxLen w n cap e hm, ?_, ?_⟩⟩
  · simp only [Array.size_append, List.size_toArray, size_zeroCells, hzs]
    have : old.length + news.length = n * size := by rw [← List.length_append]; exact hlen
    rw [this, ← Nat.add_mul]; congr 1; omega
  · simp only [Array.toList_append, List.append_assoc]
    rw [← List.append_assoc, ← hlen]
    exact List.take_left

/-- Onto what lies at an address, when it doesn't fit: a new row. -/
theorem run_append_new {t ty e : TypeId} {i : TypeInfo} {z : Value} {size bytes : Nat} (ht : P.underlying t = some (.slice e)) (hi : P.info? e = some i) (hz : i.zero = some z) (hsize : i.size = size) (hby : i.bytes = bytes) (hzs : z.cells.size = size)
    (w : World) (b : Option Addr) (n cap : Nat) (olds : List Value) (hlo : olds.length = n * size) (holds : olds = [] ∨ ∃ ad, b = some ad ∧ ∀ j v, olds[j]? = some v → w.cell? (ad.add j) = some v) (hn0 : b = none → n = 0 ∧ cap = 0)
    (a : Addr) (m c : Nat) (news : List Value) (hl : news.length = m * size) (hnews : ∀ j u, news[j]? = some u → w.cell? (a.add j) = some u) (hg : cap < n + m) (hcap : n ≤ cap) (h63 : n + m ≤ maxLen) (hbytes : (n + m) * bytes ≤ 140737488355328) :
    ∃ v' w', (Builtin.append_ #[t, t] ty #[.slice b n cap, .slice (some a) m c]).run P w = .ok v' w' ∧ w'.ownsRow 0 e size v' (n + m) (olds ++ news) ∧ (∀ row, w.grownBy w' row) ∧ (∀ b, ownBlk v' = some b → w.heap.size ≤ b) := by
  subst hsize; subst hby
  have h63' : n + m ≤ 9223372036854775807 := by simp only [maxLen] at h63; omega
  have hlen : (olds ++ news).length = (n + m) * i.size := by rw [List.length_append, hlo, hl, Nat.add_mul]
  cases b with
  | none =>
    obtain ⟨rfl, rfl⟩ := hn0 rfl
    have ho : olds = [] := List.eq_nil_of_length_eq_zero (by simpa using hlo)
    subst ho
    have hr := run_append_nil (P := P) w t ty e i z ht hi hz a m c news hl hnews (by omega) (by omega) (by have hb := hbytes; simp only [Nat.zero_add] at hb; omega)
    have := own_new (w := w) (e := e) (old := []) (news := news) hzs (by simpa using hl) (by omega : m ≤ maxLen) m 0 rfl
    refine ⟨_, _, hr, by simpa using this, fun row => grown_new w _ e row, fun b hb => ?_⟩
    have := ownBlk_some hb; simp [Value.ownBlock] at this; omega
  | some ad =>
    have holds' : ∀ j v, olds[j]? = some v → w.cell? (ad.add j) = some v := by
      rcases holds with rfl | ⟨ad', h1, h2⟩
      · intro j v h; simp at h
      · cases h1; exact h2
    have hr := run_append_grow (P := P) w t ty e i z ht hi hz ad n cap olds hlo holds' a m c news hl hnews hg (by omega) (growslice_fits (by omega) hbytes)
    have := own_new (w := w) (e := e) (old := olds) (news := news) hzs hlen h63 (n + m) cap rfl
    refine ⟨_, _, hr, this, fun row => grown_new w _ e row, fun b hb => ?_⟩
    have := ownBlk_some hb; simp [Value.ownBlock] at this; omega

theorem run_append_none {t ty e : TypeId} {size : Nat} (ht : P.underlying t = some (.slice e)) (hs : szOf P e = some size) (w : World) (b : Option Addr) (n cap : Nat) (hcap : n ≤ cap) (x : Option Addr) (c : Nat) :
    (Builtin.append_ #[t, t] ty #[.slice b n cap, .slice x 0 c]).run P w = .ok (.slice b n cap) w := by
  have h1 : (Builtin.firstCells size 0 (.slice x 0 c)).run P w = .ok #[] w := by
    cases x <;> simp [Builtin.firstCells, loadCells, loadCellsFrom]
  cases b <;> simp [Builtin.append_, run_underlying ht, run_size hs, Builtin.lenOf, hcap, h1, storeCells]

structure ElemT (P : Program) (e : TypeId) (size bytes : Nat) : Prop where
  ex : ∃ i z, P.info? e = some i ∧ i.zero = some z ∧ i.size = size ∧ i.bytes = bytes ∧ z.cells.size = size
def elemT? (P : Program) (e : TypeId) : Option (Nat × Nat) :=
  match P.info? e with
  | some i => match i.zero with
    | some z => if z.cells.size = i.size then some (i.size, i.bytes) else none
    | none => none
  | none => none
theorem elemT_of {e size bytes : Nat} (h : elemT? P e = some (size, bytes)) : ElemT P e size bytes := by
  unfold elemT? at h
  split at h
  · rename_i i hi
    split at h
    · rename_i z hz
      split at h
      · cases h; exact ⟨i, z, hi, hz, rfl, rfl, ‹_›⟩
      · cases h
    · cases h
  · cases h

/-- Onto a slice of the call's own. -/
theorem run_append_ownV {t ty e size bytes : Nat} (ht : P.underlying t = some (.slice e)) (he : ElemT P e size bytes) (hsz : 0 < size) {w : World} {v : Value} {n : Nat} {vs : List Value} (hv : OwnV w e size v n vs)
    {x : Option Addr} {m c : Nat} {news : List Value} (hl : news.length = m * size) (hnews : news = [] ∨ ∃ a, x = some a ∧ ∀ j u, news[j]? = some u → w.cell? (a.add j) = some u) (h1 : ∀ u ∈ news, u.oneCell' = true)
    (h63 : n + m ≤ maxLen) (hbytes : (n + m) * bytes ≤ 140737488355328) :
    ∃ v' w', (Builtin.append_ #[t, t] ty #[v, .slice x m c]).run P w = .ok v' w' ∧ OwnV w' e size v' (n + m) (vs ++ news) ∧ w.grownBy w' (ownBlk v) ∧ (∀ b, ownBlk v' = some b → w.heap.size ≤ b ∨ ownBlk v = some b) := by
  obtain ⟨i, z, hi, hz, hs, hb, hzs⟩ := he
  have hszP : szOf P e = some size := by simp [szOf, hi, hs]
  by_cases hm : m = 0
  · subst hm
    have hn : news = [] := List.eq_nil_of_length_eq_zero (by simpa using hl)
    subst hn
    have hrefl : ∀ row, w.grownBy w row := fun row => ⟨rfl, rfl, rfl, Nat.le_refl _, fun _ _ _ => rfl⟩
    rcases id hv with ⟨h2, h3⟩ | ⟨h2, h3, a, h4⟩
    · rcases h3 with ⟨h3, h4⟩ | ⟨g, cap, cur, h3, _, h5, h6, _⟩
      · subst h3; subst h4
        exact ⟨_, w, run_append_none ht hszP w none 0 0 (Nat.le_refl _) x c, by simpa using hv, hrefl _, fun b hb => .inr hb⟩
      · subst h3
        exact ⟨_, w, run_append_none ht hszP w _ n cap h6 x c, by simpa using hv, hrefl _, fun b hb => .inr hb⟩
    · subst h4; subst h2
      exact ⟨_, w, run_append_none ht hszP w a 0 0 (Nat.le_refl _) x c, by simpa using hv, hrefl _, fun b hb => .inr hb⟩
  · have hpos : 0 < news.length := by rw [hl]; exact Nat.mul_pos (by omega) hsz
    obtain ⟨a, rfl, hcell⟩ : ∃ a, x = some a ∧ ∀ j u, news[j]? = some u → w.cell? (a.add j) = some u := by
      rcases hnews with rfl | h
      · simp at hpos
      · exact h
    rcases id hv with ⟨h2, h3⟩ | ⟨h2, h3, b, h4⟩
    · rcases h3 with ⟨h3, h4⟩ | ⟨g, cap, cur, h3, h4, h5, h6, h7, h8, h9⟩
      · subst h3; subst h4
        have hvs : vs = [] := List.eq_nil_of_length_eq_zero (by simpa using h2)
        subst hvs
        obtain ⟨v', w', k1, k2, k3, k4⟩ := run_append_new (ty := ty) ht hi hz hs hb hzs w none 0 0 [] (by simp) (.inl rfl) (fun _ => ⟨rfl, rfl⟩) a m c news hl hcell (by omega) (Nat.le_refl _) h63 hbytes
        exact ⟨v', w', k1, .inl k2, k3 _, fun b hb => .inl (k4 b hb)⟩
      · by_cases hcap : n + m ≤ cap
        · subst h3
          have hfit : n * i.size + news.length ≤ cur.size := by rw [hl, h8, hs, ← Nat.add_mul]; exact Nat.mul_le_mul_right _ hcap
          have hr := run_append_room (P := P) w t ty e i ht hi g n cap cur h5 a m c news (by rw [hs]; exact hl) hcell h1 hcap hfit
          have hc0 : cap ≠ 0 := by omega
          refine ⟨_, _, hr, .inl ⟨by rw [List.length_append, h2, hl, Nat.add_mul], .inr ⟨g, cap, _, rfl, h4, setRow_heap w g cur _ e _ h5, hcap, h7, ?_, ?_⟩⟩, ?_, fun b hb => .inr ?_⟩
          · simp only [List.size_toArray, List.length_append, List.length_take, List.length_drop, Array.length_toList]
            omega
          · rw [hs, h9]
            have : (n + m) * size = (vs ++ news).length := by rw [List.length_append, h2, hl, Nat.add_mul]
            rw [this]
            exact List.take_left
          · simpa [ownBlk, hc0] using setRow_grown w g _
          · simpa [ownBlk] using hb
        · subst h3
          obtain ⟨v', w', k1, k2, k3, k4⟩ := run_append_new (ty := ty) ht hi hz hs hb hzs w (some ⟨g, 0, none⟩) n cap vs h2 (.inr ⟨_, rfl, fun j u hu => by
            rw [Addr.add_lit, cell_of_row w _ _ cur _ _ h5, ← Array.getElem?_toList]
            rw [← h9, List.getElem?_take] at hu
            split at hu
            · simpa using hu
            · cases hu⟩) (by simp) a m c news hl hcell (by omega) h6 h63 hbytes
          exact ⟨v', w', k1, .inl k2, k3 _, fun b hb => .inl (k4 b hb)⟩
    · subst h4; subst h3; subst h2
      cases b with
      | none =>
        obtain ⟨v', w', k1, k2, k3, k4⟩ := run_append_new (ty := ty) ht hi hz hs hb hzs w none 0 0 [] (by simp) (.inl rfl) (fun _ => ⟨rfl, rfl⟩) a m c news hl hcell (by omega) (Nat.le_refl _) h63 hbytes
        exact ⟨v', w', k1, .inl k2, k3 _, fun b hb => .inl (k4 b hb)⟩
      | some ad =>
        obtain ⟨v', w', k1, k2, k3, k4⟩ := run_append_new (ty := ty) ht hi hz hs hb hzs w (some ad) 0 0 [] (by simp) (.inl rfl) (by simp) a m c news hl hcell (by omega) (Nat.le_refl _) h63 hbytes
        exact ⟨v', w', k1, .inl k2, k3 _, fun b hb => .inl (k4 b hb)⟩

theorem append_exec {s x : Operand} {t t' e e' : TypeId} (ho : o.op = .call { callee := .builtin .append, args := #[s, x], argTypes := #[t, t'] }) (ht : P.underlying t = some (.slice e)) (ht' : P.underlying t' = some (.slice e'))
    {a : Act} {w w' : World} {v' : Value} (h : (Builtin.append_ #[t, t] o.type #[a.eval s, a.eval x]).run P w = .ok v' w') : (execOp a.eval o).run P w = .ok (.value v') w' := by
  unfold execOp
  simp only [ho, resolve, invoke, builtin, Sem.run_bind, Sem.run_pure, Result.andThen_ok, List.map_toArray, List.map_cons, List.map_nil, append_types ht ht', h]

def freshN (n : Name) (d : Nat) : Name := if n = .loc d then .loc (d + 10000) else .loc d
theorem freshN_ne (n : Name) (d : Nat) : freshN n d ≠ n := by
  unfold freshN
  split
  · rename_i h; rw [h]; intro e; injection e; omega
  · rename_i h; exact fun e => h e.symm

/-- The slot of what was appended to is left, and a new one is there. -/
theorem ok_append_own {s x : Operand} {t t' e e' size bytes : Nat} {n : Name} {xs ys : List (List PV)} (ho : o.op = .call { callee := .builtin .append, args := #[s, x], argTypes := #[t, t'] }) (hd : o.dst = some d) (hlt : d < st.n)
    (hT : elemS P t = some e) (hT' : elemS P t' = some e') (he : elemT? P e = some (size, bytes)) (hsz : 0 < size) (hs : ev st s = .own n) (hn : sget st.s n = some (.own e size xs)) (hx : srcP st size (ev st x) = some ys)
    (hb : (xs.length + ys.length) * bytes ≤ 140737488355328) (h63 : xs.length + ys.length ≤ maxLen) :
    OpOK P o st ⟨[(d, .own (freshN n d))], [(freshN n d, some (.own e size (xs ++ ys))), (n, none)]⟩ [freshN n d] := by
  intro Γ ρ a w K Q hok hfr hk
  have h1 := ev_rel hok s
  rw [hs] at h1
  have h1' : a.eval s = ρ.ov n := h1
  obtain ⟨vs, h2, h3⟩ := hok.sok.slots n _ hn
  obtain ⟨xa, c, news, k1, _, _, k4, k5⟩ := srcP_rel hok hx (ev_rel hok x)
  obtain ⟨v', w', r1, r2, r3, r4⟩ := run_append_ownV (P := P) (ty := o.type) (und_slice hT) (elemT_of he) hsz h2 (x := xa) (m := ys.length) (c := c) k4.length k5 k4.one' h63 hb
  have hfree := hfr (freshN n d) (by simp)
  unfold Oper.wp
  rw [append_exec ho (und_slice hT) (und_slice hT') (by rw [h1', k1]; exact r1), Oper.upon_value, hd]
  have hrowF : ∀ b, ownBlk (ρ.ov n) = some b → ¬ρ.F b := fun b hb' => hok.sok.sep n _ b hn hb'
  have hne := freshN_ne n d
  generalize freshN n d = m at *
  have hok1 := hok.ren hne hn hfree
  have hm1 : sget (st.app ⟨[], [(m, some (.own e size xs)), (n, none)]⟩).s m = some (.own e size xs) := by simp [AState.app, sget]
  have hov : (ρ.ren n m).ov m = ρ.ov n := by simp [Rho.ren]
  have hok2 := hok1.slot (ρ' := (ρ.ren n m).slice m v') (w' := w') m (some (.own e size (xs ++ ys))) rfl (fun _ => rfl) (fun q hq => Rho.slice_same _ m v' hq)
    (.inr ⟨fun t => by have := hfree.1 t; simpa [AState.app] using this, fun q s hq => by
      simp only [AState.app, List.cons_append, List.nil_append, sget] at hq
      split at hq
      · cases hq; rfl
      · split at hq
        · cases hq
        · exact hfree.2 q s hq⟩)
    (ownBlk (ρ.ov n)) r3 (fun b hb' => ⟨_, hm1, by simpa [slotBlk, hov] using hb'⟩)
    (fun s hs => by
      cases hs
      refine ⟨vs ++ news, by simpa [Rho.slice] using r2, ?_⟩
      have k : Keep ρ.F w ρ.F w' := ⟨fun _ h => h, fun b hb' => r3.block b (hok.sok.flt b hb') (fun e => hrowF b e.symm hb')⟩
      exact (PElems.keep k _ _ h3).append (PElems.keep k _ _ k4))
    (fun s b hs hb' => by
      cases hs
      simp [slotBlk, Rho.slice] at hb'
      exact (r4 b hb').imp id id)
  have hok3 := hok2.setT (d := d) (av := .own m) (v := v') hlt (by simp [ARel, Rho.slice])
  refine hk _ _ _ (hok3.ext rfl (fun t => rfl) fun q => ?_)
  simp only [AState.app, List.cons_append, List.nil_append, sget]
  by_cases hq : q = m <;> simp [hq]

/-- Onto nil, or onto what lies in read memory and has no room. -/
theorem ok_append_new {s x : Operand} {t t' e e' size bytes : Nat} {xs ys : List (List PV)} (ho : o.op = .call { callee := .builtin .append, args := #[s, x], argTypes := #[t, t'] }) (hd : o.dst = some d) (hlt : d < st.n)
    (hT : elemS P t = some e) (hT' : elemS P t' = some e') (he : elemT? P e = some (size, bytes)) (hsz : 0 < size) (hs : ev st s = .tight size xs ∨ (ev st s = .pv (.v (.slice none 0 0)) ∧ xs = [])) (hx : srcP st size (ev st x) = some ys)
    (hne : xs = [] ∨ 0 < ys.length) (hb : (xs.length + ys.length) * bytes ≤ 140737488355328) (h63 : xs.length + ys.length ≤ maxLen) :
    OpOK P o st ⟨[(d, .own (.loc d))], [(.loc d, some (.own e size (xs ++ ys)))]⟩ [.loc d] := by
  intro Γ ρ a w K Q hok hfr hk
  obtain ⟨sa, vs, h1, h2, h3⟩ : ∃ sa vs, a.eval s = .slice sa xs.length xs.length ∧ PElems ρ.F w size xs vs ∧ (vs = [] ∨ ∃ ad, sa = some ad ∧ ∀ j u, vs[j]? = some u → w.cell? (ad.add j) = some u) := by
    have := ev_rel hok s
    rcases hs with hs | ⟨hs, rfl⟩
    · rw [hs] at this
      obtain ⟨sa, vs, h1, _, h2, h3⟩ := this
      refine ⟨sa, vs, h1, h2, h3.imp id ?_⟩
      rintro ⟨ad, h4, _, h5⟩; exact ⟨ad, h4, h5⟩
    · rw [hs] at this
      exact ⟨none, [], pv_inv this, rfl, .inl rfl⟩
  obtain ⟨xa, c, news, k1, _, _, k4, k5⟩ := srcP_rel hok hx (ev_rel hok x)
  have hfree := hfr (.loc d) (by simp)
  obtain ⟨v', w', r1, r2, r3, r4⟩ : ∃ v' w', (Builtin.append_ #[t, t] o.type #[.slice sa xs.length xs.length, .slice xa ys.length c]).run P w = .ok v' w' ∧ OwnV w' e size v' (xs.length + ys.length) (vs ++ news) ∧ (∀ row, w.grownBy w' row) ∧ (∀ b, ownBlk v' = some b → w.heap.size ≤ b) := by
    by_cases hm : ys.length = 0
    · have hx0 : xs = [] := hne.resolve_right (by omega)
      subst hx0
      simp only [PElems] at h2; subst h2
      have hnews : news = [] := List.eq_nil_of_length_eq_zero (by rw [k4.length, hm]; simp)
      subst hnews
      obtain ⟨i, z, hi, hz, hs', hb', hzs⟩ := elemT_of he
      rw [hm]
      refine ⟨_, w, run_append_none (und_slice hT) (by simp [szOf, hi, hs'] : szOf P e = some size) w sa 0 0 (Nat.le_refl _) xa c, .inr ⟨rfl, rfl, sa, rfl⟩, fun row => ⟨rfl, rfl, rfl, Nat.le_refl _, fun _ _ _ => rfl⟩, fun b hb' => ?_⟩
      cases sa <;> simp [ownBlk] at hb'
    · have hpos : 0 < news.length := by rw [k4.length]; exact Nat.mul_pos (by omega) hsz
      obtain ⟨ad, rfl, hcell⟩ : ∃ a, xa = some a ∧ ∀ j u, news[j]? = some u → w.cell? (a.add j) = some u := by
        rcases k5 with rfl | h
        · simp at hpos
        · exact h
      obtain ⟨i, z, hi, hz, hs', hb', hzs⟩ := elemT_of he
      by_cases hx0 : xs = []
      · subst hx0
        simp only [PElems] at h2; subst h2
        obtain ⟨v', w', q1, q2, q3, q4⟩ := run_append_new (ty := o.type) (und_slice hT) hi hz hs' hb' hzs w sa 0 0 [] (by simp) (.inl rfl) (fun _ => ⟨rfl, rfl⟩) ad ys.length c news k4.length hcell (by omega) (Nat.le_refl _) (by simpa using h63) (by simpa using hb)
        exact ⟨v', w', by simpa using q1, .inl (by simpa using q2), q3, q4⟩
      · have hsa : sa ≠ none := by
          intro e; subst e
          have := h2.length
          rcases h3 with rfl | ⟨_, h, _⟩
          · have : 0 < xs.length * size := Nat.mul_pos (List.length_pos_iff.2 hx0) hsz
            simp at *; omega
          · cases h
        obtain ⟨v', w', q1, q2, q3, q4⟩ := run_append_new (ty := o.type) (und_slice hT) hi hz hs' hb' hzs w sa xs.length xs.length vs h2.length h3 (fun e => absurd e hsa) ad ys.length c news k4.length hcell (by omega) (Nat.le_refl _) h63 hb
        exact ⟨v', w', q1, .inl q2, q3, q4⟩
  unfold Oper.wp
  rw [append_exec ho (und_slice hT) (und_slice hT') (by rw [h1, k1]; exact r1), Oper.upon_value, hd]
  have hok1 := hok.slot (ρ' := ρ.slice (.loc d) v') (w' := w') (.loc d) (some (.own e size (xs ++ ys))) rfl (fun _ => rfl) (fun q hq => Rho.slice_same _ _ v' hq) (.inr hfree) none (r3 none) (by simp)
    (fun s hs => by
      cases hs
      have k : Keep ρ.F w ρ.F w' := ⟨fun _ h => h, fun b hb' => (r3 none).block b (hok.sok.flt b hb') (by simp)⟩
      exact ⟨vs ++ news, by simpa [Rho.slice] using r2, (PElems.keep k _ _ h2).append (PElems.keep k _ _ k4)⟩)
    (fun s b hs hb' => by
      cases hs
      simp [slotBlk, Rho.slice] at hb'
      exact .inl (r4 b hb'))
  have hok2 := hok1.setT (d := d) (av := .own (.loc d)) (v := v') hlt (by simp [ARel, Rho.slice])
  exact hk _ _ _ hok2

end Go.Eng
