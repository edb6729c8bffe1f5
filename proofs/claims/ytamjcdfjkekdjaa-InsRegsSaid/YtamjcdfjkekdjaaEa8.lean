import Derived.Test.YtamjcdfjkekdjaaEa7
set_option autoImplicit false
set_option linter.unusedVariables false
set_option linter.unusedSimpArgs false
namespace Go.Eng
open Go Go.RowKit
variable {P : Program} {o : Oper} {st : AState} {d : Nat}

/-! ### Filling cells -/
def fillP (place : Nat → Option (Nat × Nat)) (cells : List PV) : List (Nat × List PV) → Option (List PV)
  | [] => some cells
  | (i, ps) :: rest => match place i with
    | none => none
    | some (off, size) => if ps.length = size then (match spliceP cells off ps with | some c => fillP place c rest | none => none) else none

theorem foldl_set (off : Nat) : ∀ (l : List Value) (k : Nat) (cells : Array Value), off + k + l.length ≤ cells.size →
    ((l.zipIdx k).foldl (fun (cs : Array Value) (p : Value × Nat) => cs.setIfInBounds (off + p.2) p.1) cells).toList = cells.toList.take (off + k) ++ l ++ cells.toList.drop (off + k + l.length)
  | [], k, cells, h => by simp
  | v :: l, k, cells, h => by
    simp only [List.length_cons] at h
    have ih := foldl_set off l (k + 1) (cells.setIfInBounds (off + k) v) (by simp; omega)
    simp only [List.zipIdx_cons, List.foldl_cons]
    rw [ih]
    have e := list_seg_step cells.toList (off + k) v l (by simp; omega)
    simpa [Array.toList_setIfInBounds, Nat.add_assoc] using e

inductive Parts (F : Nat → Prop) (w : World) : List (Nat × List PV) → List (Nat × Value) → Prop
  | nil : Parts F w [] []
  | cons {i : Nat} {ps : List PV} {v : Value} {l : List (Nat × List PV)} {r : List (Nat × Value)} : PVs F w ps v.cells.toList → Parts F w l r → Parts F w ((i, ps) :: l) ((i, v) :: r)

theorem fill_rel {F : Nat → Prop} {w : World} {place place' : Nat → Option (Nat × Nat)} (hp : ∀ i q, place i = some q → place' i = some q) : ∀ {l : List (Nat × List PV)} {r : List (Nat × Value)} {cells cells' : List PV} {arr : Array Value},
    Parts F w l r → fillP place cells l = some cells' → PVs F w cells arr.toList → ∃ arr', Instr.fill place' arr r = some arr' ∧ PVs F w cells' arr'.toList := by
  intro l r cells cells' arr hpt
  induction hpt generalizing cells arr with
  | nil => intro h hc; simp [fillP] at h; subst h; exact ⟨arr, rfl, hc⟩
  | @cons i ps v l r h1 h2 ih =>
    intro h hc
    simp only [fillP] at h
    split at h
    · cases h
    · rename_i off size hpl
      split at h
      · rename_i hl
        split at h
        · rename_i c hsp
          unfold spliceP at hsp
          split at hsp
          · rename_i hfit
            cases hsp
            have hsz : v.cells.size = ps.length := by rw [← Array.length_toList, h1.length]
            have hlen : arr.size = cells.length := by rw [← Array.length_toList, hc.length]
            have hfold := foldl_set off v.cells.toList 0 arr (by simp [hsz]; omega)
            obtain ⟨arr', k1, k2⟩ := ih (arr := v.cells.zipIdx.foldl (fun cs (c, j) => cs.setIfInBounds (off + j) c) arr) h (by
              have : (v.cells.zipIdx.foldl (fun cs (c, j) => cs.setIfInBounds (off + j) c) arr).toList = arr.toList.take off ++ v.cells.toList ++ arr.toList.drop (off + ps.length) := by
                rw [← Array.foldl_toList, Array.toList_zipIdx]
                simpa [hsz] using hfold
              rw [this]
              exact ((hc.take off).append h1).append (hc.drop (off + ps.length)))
            refine ⟨arr', ?_, k2⟩
            simp only [Instr.fill, hp _ _ hpl]
            rw [if_neg]
            · exact k1
            · simp [hsz, hl]; omega
          · cases hsp
        · cases h
      · cases h

def partsP (st : AState) : List (Nat × Operand) → Option (List (Nat × List PV))
  | [] => some []
  | (i, x) :: l => match cellsP (ev st x), partsP st l with
    | some ps, some r => some ((i, ps) :: r)
    | _, _ => none
theorem parts_rel {Γ : Ctx} {ρ : Rho} {a : Act} {w : World} (h : Ok Γ st ρ a w) : ∀ {l : List (Nat × Operand)} {r : List (Nat × List PV)}, partsP st l = some r → Parts ρ.F w r (l.map fun p => (p.1, a.eval p.2))
  | [], r, hr => by simp [partsP] at hr; subst hr; exact .nil
  | (i, x) :: l, r, hr => by
    simp only [partsP] at hr
    split at hr
    · rename_i ps r' h1 h2
      cases hr
      exact .cons (cellsP_rel h1 (ev_rel h x)) (parts_rel h h2)
    · cases hr

/-- A struct's fields' places. -/
def placesL (P : Program) : List Field → Option (List (Nat × Nat))
  | [] => some []
  | f :: l => match szOf P f.type, placesL P l with
    | some n, some r => some ((f.offset, n) :: r)
    | _, _ => none
def placesOf (P : Program) (t : TypeId) : Option (List (Nat × Nat)) := match P.underlying t with
  | some (.struct fs) => placesL P fs.toList
  | _ => none
theorem run_places (w : World) : ∀ {l : List Field} {r : List (Nat × Nat)}, placesL P l = some r →
    (l.mapM (m := Sem) fun f => do pure (f.offset, ← sizeOf f.type)).run P w = .ok r w
  | [], r, h => by simp [placesL] at h; subst h; simp
  | f :: l, r, h => by
    simp only [placesL] at h
    split at h
    · rename_i n r' h1 h2
      cases h
      have ih := run_places w h2
      simp only [List.mapM_cons, Sem.run_bind, run_size h1, Result.andThen_ok, Sem.run_pure, ih]
    · cases h
theorem zero_cells {F : Nat → Prop} {w : World} {z : Value} (h : z.cells.toList.all (·.oneCell') = true) : PVs F w (z.cells.toList.map .v) z.cells.toList := PVs_map_v h

theorem ok_build_struct {T : TypeId} {parts : Array (Nat × Operand)} {z : Value} {pl : List (Nat × Nat)} {ps : List (Nat × List PV)} {cells : List PV} (ho : o.op = .build T parts) (hd : o.dst = some d) (hlt : d < st.n)
    (hz : zeroOf P T = some z) (hz1 : z.cells.toList.all (·.oneCell') = true) (hpl : placesOf P T = some pl) (hps : partsP st parts.toList = some ps) (hf : fillP (fun i => pl[i]?) (z.cells.toList.map .v) ps = some cells) :
    OpOK P o st ⟨[(d, .agg cells)], []⟩ [] :=
  ok_value hd hlt fun Γ ρ a w h => by
    obtain ⟨arr, h1, h2⟩ := fill_rel (w := w) (F := ρ.F) (place' := fun i => pl.toArray[i]?) (fun i q hq => by simpa using hq) (parts_rel h hps) hf (zero_cells hz1)
    refine ⟨.agg arr, ⟨arr, rfl, h2⟩, ?_⟩
    unfold placesOf at hpl
    split at hpl
    · rename_i fs hu
      have hr := run_places (P := P) w hpl
      have hm : (fs.mapM (m := Sem) fun f => do pure (f.offset, ← sizeOf f.type)).run P w = .ok pl.toArray w := by
        rw [Array.mapM_eq_mapM_toList, Sem.run_map, hr]; rfl
      have hparts : (parts.map fun (i, x) => (i, a.eval x)).toList = parts.toList.map fun p => (p.1, a.eval p.2) := by simp
      simp only [execOp, ho, Instr.build, Sem.run_bind, run_zero hz, Result.andThen_ok, run_underlying hu, hm, hparts, h1, Sem.run_pure]
    · cases hpl
theorem ok_build_arr {T e n sz : Nat} {parts : Array (Nat × Operand)} {z : Value} {ps : List (Nat × List PV)} {cells : List PV} (ho : o.op = .build T parts) (hd : o.dst = some d) (hlt : d < st.n)
    (hz : zeroOf P T = some z) (hz1 : z.cells.toList.all (·.oneCell') = true) (hT : arrOf P T = some (n, e)) (hs : szOf P e = some sz) (hps : partsP st parts.toList = some ps) (hf : fillP (fun i => some (i * sz, sz)) (z.cells.toList.map .v) ps = some cells) :
    OpOK P o st ⟨[(d, .agg cells)], []⟩ [] :=
  ok_value hd hlt fun Γ ρ a w h => by
    obtain ⟨arr, h1, h2⟩ := fill_rel (w := w) (F := ρ.F) (place' := fun i => some (i * sz, sz)) (fun i q hq => hq) (parts_rel h hps) hf (zero_cells hz1)
    refine ⟨.agg arr, ⟨arr, rfl, h2⟩, ?_⟩
    have hparts : (parts.map fun (i, x) => (i, a.eval x)).toList = parts.toList.map fun p => (p.1, a.eval p.2) := by simp
    simp only [execOp, ho, Instr.build, Sem.run_bind, run_zero hz, Result.andThen_ok, run_underlying (und_arr hT), run_size hs, hparts, h1, Sem.run_pure]

/-! ### New slices -/
theorem range_cells (z : Array Value) (n : Nat) : ((Array.range (n * z.size)).map (z[· % z.size]!)).toList = (List.replicate n z.toList).flatten := by
  induction n with
  | zero => simp
  | succ n ih =>
    rw [List.replicate_succ', List.flatten_append]
    have h1 : (Array.range ((n + 1) * z.size)).toList = (Array.range (n * z.size)).toList ++ (List.range z.size).map (n * z.size + ·) := by
      rw [Nat.succ_mul]; simp [List.range_add]
    rw [Array.toList_map, h1, List.map_append, ← Array.toList_map, ih]
    congr 1
    simp only [List.map_map, List.flatten_cons, List.flatten_nil, List.append_nil]
    apply List.ext_getElem
    · simp
    · intro j hj1 hj2
      simp only [List.length_map, List.length_range] at hj1
      have : (n * z.size + j) % z.size = j := by rw [Nat.mul_comm, Nat.mul_add_mod]; exact Nat.mod_eq_of_lt hj1
      simp [this, hj1]
theorem PElems.replicate {F : Nat → Prop} {w : World} {ps : List PV} {vs : List Value} (h : PVs F w ps vs) : ∀ n : Nat, PElems F w vs.length (List.replicate n ps) (List.replicate n vs).flatten
  | 0 => rfl
  | n + 1 => by
    rw [List.replicate_succ, List.replicate_succ, List.flatten_cons]
    exact ⟨vs, _, rfl, rfl, h, PElems.replicate h n⟩

theorem ok_newSlice {e es n : Nat} {xs : List (List PV)} (hd : o.dst = some d) (hlt : d < st.n) (hm : n ≤ maxLen)
    (h : ∀ Γ ρ a w, Ok Γ st ρ a w → ∃ cur : Array Value, cur.size = n * es ∧ PElems ρ.F w es xs cur.toList ∧ (execOp a.eval o).run P w = .ok (.value (.slice (some ⟨w.heap.size, 0, none⟩) n n)) (w.alloc (.cells cur e))) (hx : xs.length = n) :
    OpOK P o st ⟨[(d, .own (.loc d))], [(.loc d, some (.own e es xs))]⟩ [.loc d] := by
  intro Γ ρ a w K Q hok hfr hk
  obtain ⟨cur, h1, h2, h3⟩ := h Γ ρ a w hok
  have hfree := hfr (.loc d) (by simp)
  unfold Oper.wp
  rw [h3, Oper.upon_value, hd]
  have hg := World.grownBy_alloc w (.cells cur e) none
  have hok1 := hok.slot (ρ' := ρ.slice (.loc d) (.slice (some ⟨w.heap.size, 0, none⟩) n n)) (w' := w.alloc (.cells cur e)) (.loc d) (some (.own e es xs)) rfl (fun _ => rfl) (fun q hq => Rho.slice_same _ _ _ hq) (.inr hfree) none hg (by simp)
    (fun s hs => by
      cases hs
      have k : Keep ρ.F w ρ.F (w.alloc (.cells cur e)) := ⟨fun _ h => h, fun b hb => heap_alloc_old w _ b (hok.sok.flt b hb)⟩
      refine ⟨cur.toList, .inl ⟨by simp [h1, hx], .inr ⟨w.heap.size, n, cur, by simp [Rho.slice, hx], by omega, heap_alloc_new w _, by omega, hm, h1, ?_⟩⟩, PElems.keep k _ _ h2⟩
      rw [hx, ← h1]; exact List.take_of_length_le (by simp))
    (fun s b hs hb => by
      cases hs
      have := ownBlk_some (show ownBlk _ = some b from hb)
      simp [Rho.slice, Value.ownBlock] at this
      exact .inl (by omega))
  have hok2 := hok1.setT (d := d) (av := .own (.loc d)) (v := .slice (some ⟨w.heap.size, 0, none⟩) n n) hlt (by simp [ARel, Rho.slice])
  exact hk _ _ _ hok2

theorem ok_make {T e size bytes : Nat} {x y : Operand} {z : Value} {k k' : IntKind} {i : Int} (ho : o.op = .makeSlice T x y) (hd : o.dst = some d) (hlt : d < st.n) (hT : elemS P T = some e) (he : elemT? P e = some (size, bytes))
    (hz : zeroOf P e = some z) (hz1 : z.cells.toList.all (·.oneCell') = true) (hsz : 0 < size) (hx : ev st x = .pv (.v (.int k i))) (hy : ev st y = .pv (.v (.int k' i))) (h0 : 0 ≤ i) (hb : bytes * i.toNat ≤ 281474976710656) (h63 : i.toNat ≤ maxLen) :
    OpOK P o st ⟨[(d, .own (.loc d))], [(.loc d, some (.own e size (List.replicate i.toNat (z.cells.toList.map .v))))]⟩ [.loc d] :=
  ok_newSlice (n := i.toNat) hd hlt h63 (fun Γ ρ a w h => by
    obtain ⟨inf, z', hi, hz', hs', hb', hzs⟩ := elemT_of he
    have hzz : z' = z := by have : zeroOf P e = some z' := by simp [zeroOf, hi, hz']
                            rw [hz] at this; cases this; rfl
    subst hzz
    have h1 := ev_rel h x; rw [hx] at h1
    have h2 := ev_rel h y; rw [hy] at h2
    have h63' : i ≤ 9223372036854775807 := by simp only [maxLen] at h63; omega
    have hbb : (inf.bytes : Int) * i ≤ 281474976710656 := by
      rw [hb']
      have h3 : ((bytes * i.toNat : Nat) : Int) ≤ 281474976710656 := by omega
      rwa [Int.natCast_mul, Int.toNat_of_nonneg h0] at h3
    have hr := run_make (P := P) w T e inf z' (und_slice hT) hi hz' k k' i i h0 (Int.le_refl _) hbb h63'
    refine ⟨madeCells z'.cells (i.toNat * inf.size), by rw [size_madeCells, hs'], ?_, ?_⟩
    · have : (madeCells z'.cells (i.toNat * inf.size)).toList = (List.replicate i.toNat z'.cells.toList).flatten := by
        unfold madeCells; rw [hs', ← hzs]; exact range_cells _ _
      rw [this]
      have hp := PElems.replicate (zero_cells (F := ρ.F) (w := w) hz1) i.toNat
      rwa [Array.length_toList, hzs] at hp
    · simp only [execOp, ho, pv_inv h1, pv_inv h2, Sem.run_bind, hr, Result.andThen_ok, Sem.run_pure]) (by simp)

theorem fillP_len {place : Nat → Option (Nat × Nat)} : ∀ {l : List (Nat × List PV)} {cells cells' : List PV}, fillP place cells l = some cells' → cells'.length = cells.length
  | [], cells, cells', h => by simp [fillP] at h; rw [h]
  | (i, ps) :: l, cells, cells', h => by
    simp only [fillP] at h
    split at h
    · cases h
    · split at h
      · split at h
        · rename_i c hsp
          have := fillP_len h
          unfold spliceP at hsp
          split at hsp
          · cases hsp
            rw [this]; simp; omega
          · cases hsp
        · cases h
      · cases h
def chunk (es : Nat) : Nat → List PV → List (List PV)
  | 0, _ => []
  | n + 1, l => l.take es :: chunk es n (l.drop es)
theorem chunk_rel {F : Nat → Prop} {w : World} {es : Nat} : ∀ {n : Nat} {l : List PV} {vs : List Value}, PVs F w l vs → l.length = n * es → PElems F w es (chunk es n l) vs
  | 0, l, vs, h, hl => by
    have := h.length
    simp [hl] at this
    simp [chunk, PElems, this]
  | n + 1, l, vs, h, hl => by
    have hlen := h.length
    rw [Nat.succ_mul] at hl
    exact ⟨vs.take es, vs.drop es, by simp, by rw [List.length_take]; omega, h.take es, chunk_rel (h.drop es) (by rw [List.length_drop]; omega)⟩
theorem chunk_length {es : Nat} : ∀ {n : Nat} {l : List PV}, (chunk es n l).length = n
  | 0, _ => rfl
  | n + 1, l => by simp [chunk, chunk_length]

theorem replicate_pvs {F : Nat → Prop} {w : World} {ps : List PV} {vs : List Value} (h : PVs F w ps vs) : ∀ n : Nat, PVs F w (List.replicate n ps).flatten (List.replicate n vs).flatten
  | 0 => rfl
  | n + 1 => by rw [List.replicate_succ, List.replicate_succ, List.flatten_cons, List.flatten_cons]; exact h.append (replicate_pvs h n)
theorem ok_buildSlice {T e size bytes n : Nat} {parts : Array (Nat × Operand)} {z : Value} {ps : List (Nat × List PV)} {cells : List PV} (ho : o.op = .buildSlice T n parts) (hd : o.dst = some d) (hlt : d < st.n) (hT : elemS P T = some e) (he : elemT? P e = some (size, bytes))
    (hz : zeroOf P e = some z) (hz1 : z.cells.toList.all (·.oneCell') = true) (hsz : 0 < size) (hsmall : n * size ≤ 2 ^ 24) (hps : partsP st parts.toList = some ps)
    (hf : fillP (fun i => some (i * size, size)) (List.replicate n (z.cells.toList.map PV.v)).flatten ps = some cells) :
    OpOK P o st ⟨[(d, .own (.loc d))], [(.loc d, some (.own e size (chunk size n cells)))]⟩ [.loc d] := by
  have hn : n ≤ maxLen := by
    have := Nat.le_mul_of_pos_right n hsz
    simp only [maxLen]; omega
  refine ok_newSlice (n := n) hd hlt hn (fun Γ ρ a w h => ?_) chunk_length
  obtain ⟨inf, z', hi, hz', hs', hb', hzs⟩ := elemT_of he
  have hzz : z' = z := by have : zeroOf P e = some z' := by simp [zeroOf, hi, hz']
                          rw [hz] at this; cases this; rfl
  subst hzz
  have hszP : szOf P e = some size := by simp [szOf, hi, hs']
  have hflat : PVs ρ.F w (List.replicate n (z'.cells.toList.map PV.v)).flatten ((Array.range (n * size)).map (z'.cells[· % z'.cells.size]!)).toList := by
    rw [← hzs, range_cells]
    exact replicate_pvs (zero_cells (F := ρ.F) (w := w) hz1) n
  obtain ⟨arr, h1, h2⟩ := fill_rel (w := w) (F := ρ.F) (place' := fun i => some (i * size, size)) (fun i q hq => hq) (parts_rel h hps) hf hflat
  have hcl : cells.length = n * size := by
    rw [fillP_len hf, ← hflat.length]; simp
  refine ⟨arr, by rw [← Array.length_toList, h2.length, hcl], chunk_rel h2 hcl, ?_⟩
  have hparts : (parts.map fun (i, x) => (i, a.eval x)).toList = parts.toList.map fun p => (p.1, a.eval p.2) := by simp
  have hs24 : ¬ n * size > 2 ^ 24 := by omega
  by_cases h0 : n * size = 0
  · have hn0 : n = 0 := by
      rcases Nat.eq_zero_or_pos n with h | h
      · exact h
      · have := Nat.mul_pos h hsz; omega
    subst hn0
    have hs24' : ¬ ((0 : Nat) > 2 ^ 24) := by omega
    have h1' : Instr.fill (fun i => some (i * size, size)) #[] (parts.toList.map fun p => (p.1, a.eval p.2)) = some arr := by
      rw [← h1, Nat.zero_mul, Array.range_zero', Array.map_empty]
    simp only [execOp, ho, Instr.buildSlice, Sem.run_bind, run_underlying (und_slice hT), Result.andThen_ok, run_size hszP, Nat.zero_mul, hs24', if_false, if_true, Sem.run_pure, hparts, Array.range_zero', Array.map_empty]
    rw [h1']
    rfl
  · simp only [execOp, ho, Instr.buildSlice, Sem.run_bind, run_underlying (und_slice hT), Result.andThen_ok, run_size hszP, hs24, if_false, h0, run_zero hz, Sem.run_pure, hparts, h1, newRow, run_newObj]
    rfl
end Go.Eng
