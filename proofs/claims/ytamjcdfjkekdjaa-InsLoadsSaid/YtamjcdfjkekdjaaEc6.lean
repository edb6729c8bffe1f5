import Derived.Test.YtamjcdfjkekdjaaEc5
set_option autoImplicit false
set_option linter.unusedVariables false
set_option linter.unusedSimpArgs false
namespace Go.Eng
open Go Go.RowKit
variable {P : Program}

/-! ## What is no longer needed is left -/
def keepT (l : List (Nat × AV)) : List Nat → List (Nat × AV)
  | [] => []
  | t :: L => (t, tget l t) :: keepT l L
def sclean (seen : List Name) : SMap → SMap
  | [] => []
  | (k, v) :: r => if k ∈ seen then sclean seen r else match v with
    | none => sclean (k :: seen) r
    | some s => (k, some s) :: sclean (k :: seen) r
def AState.keep (st : AState) (L : List Nat) : AState := ⟨st.n, keepT st.t L, sclean [] st.s⟩
theorem keepT_mem {l : List (Nat × AV)} : ∀ {L : List Nat} {p : Nat × AV}, p ∈ keepT l L → p.2 = tget l p.1
  | [], p, h => by cases h
  | t :: L, p, h => by
    simp only [keepT, List.mem_cons] at h
    rcases h with rfl | h
    · rfl
    · exact keepT_mem h
theorem sclean_mem : ∀ {S : SMap} {seen : List Name} {p : Name × Option Slot}, p ∈ sclean seen S → p.1 ∉ seen ∧ p.2 = sget S p.1
  | [], seen, p, h => by cases h
  | (k, v) :: r, seen, p, h => by
    simp only [sclean] at h
    split at h
    · rename_i hk
      obtain ⟨h1, h2⟩ := sclean_mem h
      refine ⟨h1, ?_⟩
      simp only [sget]
      rw [if_neg (fun e => h1 (by rw [e]; exact hk))]
      exact h2
    · rename_i hk
      split at h
      · obtain ⟨h1, h2⟩ := sclean_mem h
        simp only [List.mem_cons, not_or] at h1
        refine ⟨h1.2, ?_⟩
        simp only [sget]
        rw [if_neg h1.1]
        exact h2
      · simp only [List.mem_cons] at h
        rcases h with rfl | h
        · exact ⟨hk, by simp [sget]⟩
        · obtain ⟨h1, h2⟩ := sclean_mem h
          simp only [List.mem_cons, not_or] at h1
          refine ⟨h1.2, ?_⟩
          simp only [sget]
          rw [if_neg h1.1]
          exact h2
theorem Sub.keep (st : AState) (L : List Nat) : Sub st (st.keep L) :=
  Sub.of rfl (fun p h => keepT_mem h) (fun p h => (sclean_mem h).2)
theorem aw_keep {c : Code} {Q : Exit → AState → Prop} {st st' : AState} (L : List Nat) (hs : st.keep L = st') (h : AW P c Q st') : AW P c Q st := by
  subst hs; exact aw_sub (Sub.keep st L) h
theorem awr_keep {c : Code} {Q : Exit → AState → Prop} {n : Nat} {st st' : AState} (L : List Nat) (hs : st.keep L = st') (h : AWR P c Q n st') : AWR P c Q n st := by
  subst hs; exact awr_sub (Sub.keep st L) h
theorem aw_sregK {ops : Array Oper} {y : Code} {Q : Exit → AState → Prop} {st : AState} (id : Nat) (L : List Nat) (h : AR P ops false (st.keep L) (thenQ P y Q) (0, st.keep L, [])) : AW P (.seq (.region id ops false) y) Q st :=
  aw_sub (Sub.keep st L) (aw_sreg h)
theorem aw_regK {ops : Array Oper} {Q : Exit → AState → Prop} {st : AState} (id : Nat) (L : List Nat) (h : AR P ops false (st.keep L) Q (0, st.keep L, [])) : AW P (.region id ops false) Q st :=
  aw_sub (Sub.keep st L) (aw_region h)
theorem aw_sregKD {ops : Array Oper} {y : Code} {Q : Exit → AState → Prop} {st st' : AState} (hm : P.follows .mixedOrders = true) (id : Nat) (L : List Nat) (hs : st.keep L = st') (h : AR P ops true st' (thenQ P y Q) (0, st', [])) : AW P (.seq (.region id ops true) y) Q st := by
  subst hs; exact aw_sub (Sub.keep st L) (aw_sregD hm h)
theorem aw_regKD {ops : Array Oper} {Q : Exit → AState → Prop} {st st' : AState} (hm : P.follows .mixedOrders = true) (id : Nat) (L : List Nat) (hs : st.keep L = st') (h : AR P ops true st' Q (0, st', [])) : AW P (.region id ops true) Q st := by
  subst hs; exact aw_sub (Sub.keep st L) (aw_region_draw hm h)
/-- A loop, its state pruned: from any head its body leads to another one, or out. -/
theorem aw_loopK {ι : Type} {c : Code} {Q : Exit → AState → Prop} {st st' : AState} (L : List Nat) (hs : st.keep L = st') (head : ι → AState) (μ : ι → Nat) (i0 : ι) (h0 : head i0 = st') (hr : ∀ i, AW P c (loopQ head μ i Q) (head i)) : AW P (.loop c) Q st :=
  aw_loop head μ i0 (by rw [h0, ← hs]; exact Sub.keep st L) hr
theorem lq_norm {ι : Type} {head : ι → AState} {μ : ι → Nat} {i : ι} {Q : Exit → AState → Prop} {st st' : AState} (L : List Nat) (hs : st.keep L = st') (j : ι) (hj : μ j < μ i) (h : head j = st') : loopQ head μ i Q .normal st :=
  ⟨j, hj, by rw [h, ← hs]; exact Sub.keep st L⟩
theorem lq_exit {ι : Type} {head : ι → AState} {μ : ι → Nat} {i : ι} {Q : Exit → AState → Prop} {st : AState} {id : Nat} (h : Q (.exit id) st) : loopQ head μ i Q (.exit id) st := h
theorem lq_ret {ι : Type} {head : ι → AState} {μ : ι → Nat} {i : ι} {Q : Exit → AState → Prop} {st : AState} (h : Q .ret st) : loopQ head μ i Q .ret st := h
/-! ## A call to which own slices are lent: nothing of the caller's changes -/
def LendR (st : AState) (r : List Name) : List AV → List AV → Prop
  | [], [] => True
  | a :: l, a' :: l' => (a = a' ∨ ∃ n e es xs, n ∈ r ∧ a' = .own n ∧ sget st.s n = some (.own e es xs) ∧ a = .pv (.sl es xs)) ∧ LendR st r l l'
  | _, _ => False
theorem LendR.all {st st2 : AState} {r : List Name} (hs : ∀ n ∈ r, sget st2.s n = sget st.s n) : ∀ {l l' : List AV}, LendR st r l l' → LendAll st2.s l l'
  | [], [], _ => trivial
  | a :: l, a' :: l', ⟨h1, h2⟩ => by
    refine ⟨?_, LendR.all hs h2⟩
    rcases h1 with h | ⟨n, e, es, xs, hn, h3, h4, h5⟩
    · exact .inl h
    · exact .inr ⟨n, e, es, xs, h3, by rw [hs n hn, h4], h5⟩
  | [], _ :: _, h => h.elim
  | _ :: _, [], h => h.elim
theorem l_lend {o : Oper} {st : AState} {x : Operand} {args : Array Operand} {ats : Array TypeId} {f : FuncId} {fi ca : List AV} {cargs : List AV} {res : AV} {d : Nat} (r : List Name)
    (ho : o.op = .call { callee := .value x, args, argTypes := ats }) (hx : ev st x = .fn f fi ca) (hargs : LendR st r cargs (fi ++ (args.toList.map (ev st) ++ ca))) (hent : Enters P f) (hsc : SC P f cargs res) (hp : res.plain = true) (hd : o.dst = some d) (hlt : d < st.n) :
    Local P o st ⟨keyO x ++ keysL args.toList ++ r.map Key.slot, ⟨[(d, res)], []⟩, []⟩ := by
  intro st2 hn hr Γ ρ a w K Q hok hfree hk
  have hx2 : ev st2 x = .fn f fi ca := by rw [ev_agree hr (fun k h => List.mem_append_left _ (List.mem_append_left _ h)), hx]
  have ha2 : args.toList.map (ev st2) = args.toList.map (ev st) := map_ev_agree hr _ (fun k h => List.mem_append_left _ (List.mem_append_right _ h))
  have hs2 : ∀ n ∈ r, sget st2.s n = sget st.s n := fun n h => sget_agree hr (List.mem_append_right _ (List.mem_map_of_mem h))
  have hf := ev_rel hok x
  rw [hx2] at hf
  obtain ⟨af, ac, h1, h2, h3⟩ := hf
  have hvals : ARels ρ w (fi ++ (args.toList.map (ev st) ++ ca)) (af ++ (args.map a.eval) ++ ac).toList := by
    rw [← ha2]
    simp only [Array.toList_append, Array.toList_map, List.append_assoc]
    exact h2.append ((ARels.ev hok _).append h3)
  have hX := hok.sok
  have hF : ∀ b, ρ.F b → (fun b => ρ.F b ∨ ∃ n s, sget st2.s n = some s ∧ slotBlk ρ n s = some b) b := fun b hb => .inl hb
  have hF2 : ∀ n s b, sget st2.s n = some s → slotBlk ρ n s = some b → (fun b => ρ.F b ∨ ∃ n s, sget st2.s n = some s ∧ slotBlk ρ n s = some b) b := fun n s b h1 h2 => .inr ⟨n, s, h1, h2⟩
  have hrel := lend_rel hX hF hF2 (hargs.all hs2) hvals
  have hlt2 : ∀ b, (fun b => ρ.F b ∨ ∃ n s, sget st2.s n = some s ∧ slotBlk ρ n s = some b) b → b < w.heap.size := by
    rintro b (hb | ⟨n, s, h1, h2⟩)
    · exact hX.flt b hb
    · exact slotBlk_lt hX h1 h2
  generalize (fun b => ρ.F b ∨ ∃ n s, sget st2.s n = some s ∧ slotBlk ρ n s = some b) = F' at *
  have h0 : SOk ⟨w, F', fun _ => False, fun i => ρ.blk (.ext i)⟩ [] ⟨ρ.blk, ρ.ov, F'⟩ w :=
    { slots := fun n s hn => (by cases hn), disj := fun n m s s' b hn => (by cases hn), sep := fun n s b hn => (by cases hn), flt := hlt2, os := rfl, tape := rfl, output := rfl, size := Nat.le_refl _, below := fun _ _ _ => rfl, fmono := fun _ h => h, fnew := fun _ h => .inl h, home := fun n s b hn => (by cases hn), xblk := fun _ => rfl }
  have hcall := hsc ⟨w, F', fun _ => False, fun i => ρ.blk (.ext i)⟩ ⟨ρ.blk, ρ.ov, F'⟩ w (af ++ (args.map a.eval) ++ ac) rfl h0 hrel
  unfold Oper.wp
  have hrun : (execOp a.eval o).run P w = .ok (.enter f (af ++ (args.map a.eval) ++ ac)) w := by
    unfold execOp
    simp only [ho, resolve, h1, Deferred.ofValue, Sem.run_bind, Sem.run_pure, Result.andThen_ok, invoke]
    rw [hent]
  rw [hrun, Oper.upon_enter]
  refine hcall.mono ?_
  rintro e w' ⟨v, ρ', rfl, hv, h'⟩
  rw [hd]
  exact hk _ _ _ ((hok.grow h'.size (fun b hb => h'.below b hb (fun h => h)) h'.os h'.tape h'.output).setT (by rw [hn]; exact hlt) (ARel.plain _ _ hp hv))
/-- The arguments, own slices read as any. -/
def lentA (st : AState) (a : AV) : AV := match a with
  | .own n => match sget st.s n with | some (.own _ es xs) => .pv (.sl es xs) | _ => a
  | a => a
def lentN : List AV → List Name
  | [] => []
  | .own n :: l => n :: lentN l
  | _ :: l => lentN l
theorem lendR_of (st : AState) (r : List Name) : ∀ l : List AV, (∀ n ∈ lentN l, n ∈ r) → LendR st r (l.map (lentA st)) l
  | [], _ => trivial
  | a :: l, h => by
    cases a with
    | own n =>
      refine ⟨?_, lendR_of st r l fun m hm => h m (by simp [lentN, hm])⟩
      simp only [lentA]
      split
      · rename_i e es xs hs
        exact .inr ⟨n, e, es, xs, h n (by simp [lentN]), rfl, hs, rfl⟩
      · exact .inl rfl
    | _ => exact ⟨.inl rfl, lendR_of st r l fun m hm => h m (by simpa [lentN] using hm)⟩
theorem ar_lend {ops : Array Oper} {draw : Bool} {st0 : AState} {Q : Exit → AState → Prop} {i : Nat} {st : AState} {acc : List Eff} {o : Oper} {x : Operand} {args : Array Operand} {ats : Array TypeId} {f : FuncId} {fi ca : List AV} {as cargs : List AV} {res : AV} {d : Nat} {r : List Name}
    (hent : Enters P f) (hsc : SC P f cargs res) (ho : ops[i]? = some o) (hg : o.guard = none) (hop : o.op = .call { callee := .value x, args, argTypes := ats }) (hd : o.dst = some d) (hx : ev st x = .fn f fi ca) (hlt : d < st.n)
    (hac : fi ++ (args.toList.map (ev st) ++ ca) = as) (hm : as.map (lentA st) = cargs) (hr : lentN as = r) (hp : res.plain = true)
    (k : AR P ops draw st0 Q (i + 1, ⟨st.n, (d, res) :: st.t, st.s⟩, if draw = true then acc ++ [⟨keyO x ++ keysL args.toList ++ r.map Key.slot, ⟨[(d, res)], []⟩, []⟩] else acc)) : AR P ops draw st0 Q (i, st, acc) :=
  ar_loc (st1 := st) (E := ⟨keyO x ++ keysL args.toList ++ r.map Key.slot, ⟨[(d, res)], []⟩, []⟩) ho hg rfl (l_lend r hop hx (by rw [hac, ← hm]; exact lendR_of st r as (fun n h => by rw [← hr]; exact h)) hent hsc hp hd hlt) k
theorem ar_lend_if {ops : Array Oper} {draw : Bool} {st0 : AState} {Q : Exit → AState → Prop} {i j dj : Nat} {b : Bool} {st : AState} {acc : List Eff} {o : Oper} {x : Operand} {args : Array Operand} {ats : Array TypeId} {f : FuncId} {fi ca : List AV} {as cargs : List AV} {res : AV} {d : Nat} {r : List Name}
    (hent : Enters P f) (hsc : SC P f cargs res) (ho : ops[i]? = some o) (hg : o.guard = some (j, b)) (hj : (ops[j]?).bind (·.dst) = some dj) (hop : o.op = .call { callee := .value x, args, argTypes := ats }) (hd : o.dst = some d) (hx : ev st x = .fn f fi ca) (hv : tget st.t dj = .pv (.v (.bool b))) (hlt : d < st.n)
    (hac : fi ++ (args.toList.map (ev st) ++ ca) = as) (hm : as.map (lentA st) = cargs) (hr : lentN as = r) (hp : res.plain = true)
    (k : AR P ops draw st0 Q (i + 1, ⟨st.n, (d, res) :: st.t, st.s⟩, if draw = true then acc ++ [⟨.tmp dj :: (keyO x ++ keysL args.toList ++ r.map Key.slot), ⟨[(d, res)], []⟩, []⟩] else acc)) : AR P ops draw st0 Q (i, st, acc) :=
  ar_loc_if (st1 := st) (E := ⟨keyO x ++ keysL args.toList ++ r.map Key.slot, ⟨[(d, res)], []⟩, []⟩) ho hg hj hv rfl (l_lend r hop hx (by rw [hac, ← hm]; exact lendR_of st r as (fun n h => by rw [← hr]; exact h)) hent hsc hp hd hlt) k
/-! ## Operations up to one that hangs on a condition that was just made -/
def newG (i0 : Nat) (o : Oper) : Bool := match o.guard with | some (j, _) => Nat.ble i0 j | none => false
def runsS (P : Program) (ops : Array Oper) (draw : Bool) (i0 : Nat) : List Oper → Nat → AState → List Eff → Nat × AState × List Eff
  | [], i, st, acc => (i, st, acc)
  | o :: l, i, st, acc => if newG i0 o = true then (i, st, acc) else match stepG P ops o st with
    | some (E, st') => runsS P ops draw i0 l (i + 1) st' (if draw = true then acc ++ [E] else acc)
    | none => (i, st, acc)
theorem ar_runsS {ops : Array Oper} {draw : Bool} {st0 : AState} {Q : Exit → AState → Prop} {i0 : Nat} : ∀ (l : List Oper) (i : Nat) (st : AState) (acc : List Eff), ops.toList.drop i = l → AR P ops draw st0 Q (runsS P ops draw i0 l i st acc) → AR P ops draw st0 Q (i, st, acc)
  | [], _, _, _, _, h => h
  | o :: l, i, st, acc, hl, h => by
    simp only [runsS] at h
    have ho : ops[i]? = some o := by
      have : (ops.toList.drop i)[0]? = some o := by rw [hl]; rfl
      simpa [List.getElem?_drop] using this
    split at h
    · exact h
    split at h
    · rename_i E st' hs
      obtain ⟨h1, rfl⟩ := stepG_ok ho hs
      refine ar_at (acc' := if draw = true then acc ++ [E] else acc) (Array.getElem?_eq_some_iff.1 ho).1 h1 (fun hd => by rw [if_pos hd]) ?_
      exact ar_runsS l (i + 1) _ _ (by rw [← List.tail_drop, hl]; rfl) h
    · exact h
theorem ar_go3 {ops : Array Oper} {draw : Bool} {st0 : AState} {Q : Exit → AState → Prop} {i j : Nat} {st st' : AState} {acc acc' : List Eff} (l : List Oper) (hl : ops.toList.drop i = l) (h : runsS P ops draw i l i st acc = (j, st', acc')) (hj : Nat.blt i j = true) (k : AR P ops draw st0 Q (j, st', acc')) : AR P ops draw st0 Q (i, st, acc) :=
  ar_runsS l i st acc hl (by rw [h]; exact k)
theorem wrap64s {n : Int} (h0 : -9223372036854775808 ≤ n) (h1 : n ≤ 9223372036854775807) : IntKind.wrap .i64 n = n := by
  rw [IntKind.wrap_i64]; omega
attribute [simp] AState.keep keepT sclean srcV chunk freshN runsS newG Nat.ble LendR lentA lentN AV.plain AV.plainL PV.plain
end Go.Eng
