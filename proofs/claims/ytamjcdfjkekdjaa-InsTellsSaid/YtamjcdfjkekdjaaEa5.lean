import Derived.Test.YtamjcdfjkekdjaaEa4
set_option autoImplicit false
set_option linter.unusedVariables false
set_option linter.unusedSimpArgs false
namespace Go.Eng
open Go Go.RowKit
variable {P : Program} {o : Oper} {st : AState} {d : Nat}

/-! ### Cells of values -/
def cellsA (st : AState) : AV → Option (List AV)
  | .pv p => some [.pv p]
  | .agg cs => some (cs.map .pv)
  | .own n => match sget st.s n with | some (.own _ _ _) => some [.own n] | _ => none
  | .ptr n off => some [.ptr n off]
  | .fn f a b => some [.fn f a b]
  | _ => none
theorem cellsA_rel {Γ : Ctx} {ρ : Rho} {a : Act} {w : World} (h : Ok Γ st ρ a w) {av : AV} {cs : List AV} {v : Value} (hc : cellsA st av = some cs) (hv : ARel ρ w av v) :
    ARels ρ w cs v.cells.toList ∧ ∀ u ∈ v.cells.toList, u.oneCell' = true := by
  have one : ∀ {v : Value} {x : AV}, v.oneCell' = true → ARel ρ w x v → ARels ρ w [x] v.cells.toList ∧ ∀ u ∈ v.cells.toList, u.oneCell' = true := by
    intro v x h1 h2
    have : v.cells = #[v] := by cases v <;> first | rfl | (simp [Value.oneCell'] at h1)
    rw [this]
    exact ⟨⟨v, [], rfl, h2, rfl⟩, by simpa using h1⟩
  cases av with
  | pv p => simp [cellsA] at hc; subst hc; exact one (pvs_cells hv) hv
  | agg ps =>
    simp [cellsA] at hc; subst hc
    obtain ⟨arr, rfl, h2⟩ := hv
    exact ⟨h2.toARels, h2.one⟩
  | own n =>
    simp only [cellsA] at hc
    split at hc
    · rename_i e es xs hs
      cases hc
      refine one ?_ hv
      obtain ⟨x, c, h1, _⟩ := own_shape (h.sok.slots n _ hs)
      have : v = ρ.ov n := hv
      rw [this, h1]; rfl
    · cases hc
  | ptr n off => simp [cellsA] at hc; subst hc; have : v = _ := hv; exact one (by rw [this]; rfl) hv
  | fn f x y => simp [cellsA] at hc; subst hc; obtain ⟨p, q, h1, _⟩ := id hv; exact one (by rw [h1]; rfl) hv
  | _ => simp [cellsA] at hc
def cellsP : AV → Option (List PV)
  | .pv p => some [p]
  | .agg cs => some cs
  | .tight es xs => some [.sl es xs]
  | _ => none
theorem cellsP_rel {ρ : Rho} {w : World} {av : AV} {cs : List PV} {v : Value} (hc : cellsP av = some cs) (hv : ARel ρ w av v) : PVs ρ.F w cs v.cells.toList := by
  have one : ∀ {v : Value} {x : PV}, PRel ρ.F w x v → PVs ρ.F w [x] v.cells.toList := by
    intro v x h1
    have : v.cells = #[v] := by have h2 := pvs_cells h1; cases v <;> first | rfl | (simp [Value.oneCell'] at h2)
    rw [this]
    exact ⟨v, [], rfl, h1, rfl⟩
  cases av with
  | pv p => simp [cellsP] at hc; subst hc; exact one hv
  | agg ps => simp [cellsP] at hc; subst hc; obtain ⟨arr, rfl, h2⟩ := hv; exact h2
  | tight es xs =>
    simp [cellsP] at hc; subst hc
    obtain ⟨x, vs, h1, h2, h3, h4⟩ := hv
    exact one ⟨x, xs.length, vs, h1, Nat.le_refl _, h2, h3, h4⟩
  | _ => simp [cellsP] at hc

/-! ### New variables -/
theorem run_newVar (T : TypeId) (v : Value) (w : World) : (newVar T v).run P w = .ok ⟨w.heap.size, 0, none⟩ (w.alloc (.cells v.cells T)) := rfl
theorem ok_new {n' : Nat} {T : TypeId} {cells : List AV} (hd : o.dst = some d) (hlt : d < st.n)
    (h : ∀ Γ ρ a w, Ok Γ st ρ a w → ∃ v : Value, ARels ρ w cells v.cells.toList ∧ (∀ u ∈ v.cells.toList, u.oneCell' = true) ∧ (execOp a.eval o).run P w = .ok (.value (.pointer (some ⟨w.heap.size, 0, none⟩))) (w.alloc (.cells v.cells T)))
    (hfree : AV.hasL (.loc n') cells = false) :
    OpOK P o st ⟨[(d, .ptr (.loc n') 0)], [(.loc n', some (.box T cells))]⟩ [.loc n'] := by
  generalize hnn : Name.loc n' = n at *
  have hxb : ∀ (ρ : Rho) (b : Nat) (i : Nat), (ρ.box n b).blk (.ext i) = ρ.blk (.ext i) := fun ρ b i => by subst hnn; simp [Rho.box]
  intro Γ ρ a w K Q hok hfr hk
  obtain ⟨v, h1, h2, h3⟩ := h Γ ρ a w hok
  have hfr' := hfr n (by simp)
  unfold Oper.wp
  rw [h3, Oper.upon_value, hd]
  have hg := World.grownBy_alloc w (.cells v.cells T) none
  have hok1 := hok.slot (ρ' := ρ.box n w.heap.size) (w' := w.alloc (.cells v.cells T)) n (some (.box T cells)) rfl (hxb ρ _) (fun m hm => ρ.box_same n _ hm) (.inr hfr') none hg (by simp)
    (fun s hs => by
      cases hs
      refine ⟨v.cells, ?_, ARels.keep (ρ := ρ) (ρ' := ρ.box n w.heap.size) (w' := w.alloc (.cells v.cells T)) ⟨fun b hb => hb, fun b hb => heap_alloc_old w _ b (hok.sok.flt b hb)⟩ _ _ (fun m hm => ?_) h1, h2⟩
      · have hb : (ρ.box n w.heap.size).blk n = w.heap.size := by simp [Rho.box]
        rw [hb]
        exact heap_alloc_new w _
      · refine ρ.box_same n _ (fun e => ?_)
        subst e; rw [hfree] at hm; cases hm)
    (fun s b hs hb => by
      cases hs
      simp [slotBlk, Rho.box] at hb
      exact .inl (by omega))
  have hok2 := hok1.setT (d := d) (av := .ptr n 0) (v := .pointer (some ⟨w.heap.size, 0, none⟩)) hlt (by simp [ARel, Rho.box])
  rw [AState.app_app] at hok2
  exact hk _ _ _ hok2

theorem ok_alloc {T : TypeId} {z : Value} (ho : o.op = .alloc T) (hd : o.dst = some d) (hlt : d < st.n) (hz : zeroOf P T = some z) (hz1 : z.cells.toList.all (·.oneCell') = true) :
    OpOK P o st ⟨[(d, .ptr (.loc d) 0)], [(.loc d, some (.box T (z.cells.toList.map fun u => .pv (.v u))))]⟩ [.loc d] :=
  ok_new hd hlt (fun Γ ρ a w h => ⟨z, by
      have := (PVs_map_v (F := ρ.F) (w := w) hz1).toARels
      simpa [Function.comp_def] using this, fun u hu => List.all_eq_true.1 hz1 u hu, by
      simp [execOp, ho, Instr.alloc, run_zero hz, run_newVar]⟩) (by
    have : ∀ l : List Value, AV.hasL (.loc d) (l.map fun u => .pv (.v u)) = false := fun l => by induction l with
      | nil => rfl
      | cons a l ih => simp [AV.hasL, AV.has, ih]
    exact this _)
theorem ok_box {T : TypeId} {x : Operand} {cells : List AV} (ho : o.op = .box T x) (hd : o.dst = some d) (hlt : d < st.n) (hc : cellsA st (ev st x) = some cells) (hf : AV.hasL (.loc d) cells = false) :
    OpOK P o st ⟨[(d, .ptr (.loc d) 0)], [(.loc d, some (.box T cells))]⟩ [.loc d] :=
  ok_new hd hlt (fun Γ ρ a w h => by
    obtain ⟨h1, h2⟩ := cellsA_rel h hc (ev_rel h x)
    exact ⟨a.eval x, h1, h2, by simp [execOp, ho, Instr.box, run_newVar]⟩) hf

/-! ### Stores -/
def spliceA (cells : List AV) (off : Nat) (vs : List AV) : Option (List AV) :=
  if off + vs.length ≤ cells.length then some (cells.take off ++ vs ++ cells.drop (off + vs.length)) else none
def spliceP (cells : List PV) (off : Nat) (vs : List PV) : Option (List PV) :=
  if off + vs.length ≤ cells.length then some (cells.take off ++ vs ++ cells.drop (off + vs.length)) else none

theorem run_storeVar {T n g off : Nat} {t : TypeId} {v : Value} {cur : Array Value} {w : World} (hs : szOf P T = some n) (hl : v.cells.size = n) (hg : w.heap[g]? = some (.cells cur t (0, 0)))
    (hfit : off + n ≤ cur.size) (h1 : ∀ u ∈ v.cells.toList, u.oneCell' = true) :
    (storeVar T ⟨g, off, none⟩ v).run P w = .ok () (w.setRow g (cur.toList.take off ++ v.cells.toList ++ cur.toList.drop (off + n)).toArray) := by
  subst hl
  have := run_storeCells_at P g off t v.cells.toList 0 cur w hg (by simpa using hfit) h1
  simp only [Nat.add_zero, Array.length_toList] at this
  simp [storeVar, run_size hs, this]

theorem setRow_grown (w : World) (g : Nat) (cs : Array Value) : w.grownBy (w.setRow g cs) (some g) :=
  ⟨rfl, rfl, rfl, by simp, fun k _ hk => setRow_other w g k cs (fun e => hk (by rw [e]))⟩

theorem ok_store_box {T T' n off : Nat} {x y : Operand} {m : Name} {cells vs cells' : List AV} (ho : o.op = .store T x y) (hd : o.dst = none)
    (hs : szOf P T = some n) (hx : ev st x = .ptr m off) (hm : sget st.s m = some (.box T' cells)) (hv : cellsA st (ev st y) = some vs) (hl : vs.length = n) (hsp : spliceA cells off vs = some cells') :
    OpOK P o st ⟨[], [(m, some (.box T' cells'))]⟩ [] := by
  intro Γ ρ a w K Q hok _ hk
  have h1 := ev_rel hok x
  rw [hx] at h1
  have h1' : a.eval x = .pointer (some ⟨ρ.blk m, off, none⟩) := h1
  obtain ⟨cs, h2, h3, h4⟩ := hok.sok.slots m _ hm
  obtain ⟨h5, h6⟩ := cellsA_rel hok hv (ev_rel hok y)
  unfold spliceA at hsp
  split at hsp
  rotate_left
  · cases hsp
  rename_i hfit
  cases hsp
  have hsz : (a.eval y).cells.size = n := by rw [← Array.length_toList, h5.length, hl]
  have hcs : cs.size = cells.length := by rw [← Array.length_toList, h3.length]
  have hrun := run_storeVar (P := P) (v := a.eval y) (off := off) hs hsz h2 (by omega) h6
  unfold Oper.wp
  have he : (execOp a.eval o).run P w = .ok .skip (w.setRow (ρ.blk m) (cs.toList.take off ++ (a.eval y).cells.toList ++ cs.toList.drop (off + n)).toArray) := by
    simp only [execOp, ho, h1', Instr.storeAt, Instr.sureAddr, Sem.run_bind, Sem.run_pure, Result.andThen_ok, hrun]
  rw [he, Oper.upon_skip, hd]
  have hnF : ¬ρ.F (ρ.blk m) := hok.sok.sep m _ _ hm rfl
  have hrel := ((h3.take off).append h5).append (h3.drop (off + n))
  have hone : ∀ u ∈ cs.toList.take off ++ (a.eval y).cells.toList ++ cs.toList.drop (off + n), u.oneCell' = true := by
    intro u hu
    simp only [List.mem_append] at hu
    rcases hu with (hu | hu) | hu
    · exact h4 u (List.mem_of_mem_take hu)
    · exact h6 u hu
    · exact h4 u (List.mem_of_mem_drop hu)
  generalize cs.toList.take off ++ (a.eval y).cells.toList ++ cs.toList.drop (off + n) = new at *
  have k : Keep ρ.F w ρ.F (w.setRow (ρ.blk m) new.toArray) := ⟨fun _ h => h, fun b hb => setRow_other w _ b _ (fun e => hnF (by rw [← e]; exact hb))⟩
  have hfin := hok.slot (ρ' := ρ) (w' := w.setRow (ρ.blk m) new.toArray) m (some (.box T' (cells.take off ++ vs ++ cells.drop (off + vs.length)))) rfl (fun _ => rfl) (fun _ _ => ⟨rfl, rfl⟩) (.inl ⟨rfl, rfl⟩) (some (ρ.blk m)) (setRow_grown w _ _)
    (fun b hb => by cases hb; exact ⟨_, hm, rfl⟩)
    (fun s hs' => by
      cases hs'
      refine ⟨new.toArray, setRow_heap w _ cs _ _ _ h2, ?_, by simpa using hone⟩
      rw [hl]
      exact ARels.keep' k rfl rfl (by simpa using hrel))
    (fun s b hs' hb => by cases hs'; exact .inr (by simpa [slotBlk] using hb))
  exact hk _ _ _ hfin

theorem splice_elem (l ys : List Value) (a es j L k : Nat) (hk : ys.length = k) (hj : j + k ≤ es) (h1 : True) (hL : a + es ≤ L ∧ L ≤ l.length) (n : Nat) (hn : k = n) (b : Nat) (hb : b = a + es) :
    (l.take (a + j) ++ ys ++ l.drop (a + j + n)).take L = (l.take L).take a ++ ((((l.take L).drop a).take es).take j ++ ys ++ (((l.take L).drop a).take es).drop (j + k)) ++ (l.take L).drop b := by
  subst hn; subst hb
  apply List.ext_getElem?
  intro q
  simp only [List.getElem?_append, List.getElem?_take, List.getElem?_drop, List.length_append, List.length_take, List.length_drop, hk]
  (repeat' split) <;> first | rfl | omega | (congr 1; omega)
theorem take_mul_set {α : Type} (l : List α) (i es : Nat) : (l.take ((i + 1) * es)).drop (i * es) = (l.drop (i * es)).take es := by
  rw [List.drop_take, Nat.succ_mul]; congr 1; omega

theorem ok_store_own {T n e es i j : Nat} {x y : Operand} {m : Name} {xs : List (List PV)} {c vs c' : List PV} (ho : o.op = .store T x y) (hd : o.dst = none)
    (hs : szOf P T = some n) (hx : ev st x = .eptr m es i j) (hm : sget st.s m = some (.own e es xs)) (hc : xs[i]? = some c) (hv : cellsP (ev st y) = some vs) (hl : vs.length = n) (hsp : spliceP c j vs = some c') :
    OpOK P o st ⟨[], [(m, some (.own e es (xs.set i c')))]⟩ [] := by
  intro Γ ρ a w K Q hok _ hk
  have h1 := ev_rel hok x
  rw [hx] at h1
  obtain ⟨b0, hb0, h1'⟩ := h1
  have hlt := (List.getElem?_eq_some_iff.1 hc).1
  have hslot := hok.sok.slots m _ hm
  obtain ⟨g, cap, cur, us, h2, h3, h4, h5, h6, rfl, h6'⟩ := own_form hslot (by omega)
  have hcl := h6'.get hc
  have hvs := cellsP_rel hv (ev_rel hok y)
  unfold spliceP at hsp
  split at hsp
  rotate_left
  · cases hsp
  rename_i hfit
  cases hsp
  rw [h2] at hb0; simp [Value.ownBlock] at hb0; subst hb0
  have hsz : (a.eval y).cells.size = n := by rw [← Array.length_toList, hvs.length, hl]
  have hi1 : (i + 1) * es ≤ xs.length * es := Nat.mul_le_mul_right _ hlt
  have hcap : xs.length * es ≤ cap * es := Nat.mul_le_mul_right _ h4
  have hi2 : (i + 1) * es = i * es + es := Nat.succ_mul i es
  rw [hcl.1] at hfit
  have hrun := run_storeVar (P := P) (v := a.eval y) (off := i * es + j) hs hsz h3 (by omega) hvs.one
  unfold Oper.wp
  have he : (execOp a.eval o).run P w = .ok .skip (w.setRow g (cur.toList.take (i * es + j) ++ (a.eval y).cells.toList ++ cur.toList.drop (i * es + j + n)).toArray) := by
    simp only [execOp, ho, h1', Instr.storeAt, Instr.sureAddr, Sem.run_bind, Sem.run_pure, Result.andThen_ok, hrun]
  rw [he, Oper.upon_skip, hd]
  have hc0 : cap ≠ 0 := by omega
  have hblk : slotBlk ρ m (.own e es xs) = some g := by simp [slotBlk, h2, ownBlk, hc0]
  have hnF : ¬ρ.F g := hok.sok.sep m _ _ hm hblk
  generalize hnew : (cur.toList.take (i * es + j) ++ (a.eval y).cells.toList ++ cur.toList.drop (i * es + j + n)) = new at *
  have k : Keep ρ.F w ρ.F (w.setRow g new.toArray) := ⟨fun _ h => h, fun b hb => setRow_other w _ b _ (fun e => hnF (by rw [← e]; exact hb))⟩
  have hcells : (a.eval y).cells.toList.length = n := by simpa using hsz
  have hnl : new.length = cur.size := by
    rw [← hnew]; simp only [List.length_append, List.length_take, List.length_drop, Array.length_toList]; rw [hsz]; omega
  have hfin := hok.slot (ρ' := ρ) m (some (.own e es (xs.set i (c.take j ++ vs ++ c.drop (j + vs.length))))) rfl (fun _ => rfl) (fun _ _ => ⟨rfl, rfl⟩) (.inl ⟨rfl, rfl⟩) (some g) (setRow_grown w _ _)
    (fun b hb => by cases hb; exact ⟨_, hm, hblk⟩)
    (fun s hs' => by
      cases hs'
      have hset := h6'.set hlt (x := c.take j ++ vs ++ c.drop (j + vs.length)) (((hcl.2.take j).append hvs).append (hcl.2.drop (j + vs.length)))
        (by simp only [List.length_append, List.length_take, List.length_drop]; omega)
      refine ⟨new.take (xs.length * es), .inl ⟨by rw [List.length_take, hnl, h6, List.length_set]; exact Nat.min_eq_left hcap, .inr ⟨g, cap, new.toArray, by rw [h2]; simp, by omega, setRow_heap w _ cur _ _ _ h3, by simpa using h4, h5, by simpa [h6] using hnl, by simp⟩⟩, ?_⟩
      refine PElems.keep k _ _ ?_
      have key : new.take (xs.length * es) = (cur.toList.take (xs.length * es)).take (i * es) ++ ((((cur.toList.take (xs.length * es)).drop (i * es)).take es).take j ++ (a.eval y).cells.toList ++ (((cur.toList.take (xs.length * es)).drop (i * es)).take es).drop (j + vs.length)) ++ (cur.toList.take (xs.length * es)).drop ((i + 1) * es) := by
        rw [← hnew]
        exact splice_elem cur.toList (a.eval y).cells.toList (i * es) es j (xs.length * es) vs.length (by simpa using hcells.trans hl.symm) (by omega) trivial (by simp only [Array.length_toList, h6]; omega) n hl ((i + 1) * es) hi2
      rw [key]; exact hset)
    (fun s b hs' hb => by cases hs'; exact .inr (by simpa [slotBlk, h2, ownBlk, hc0, eq_comm] using hb))
  exact hk _ _ _ hfin

end Go.Eng
