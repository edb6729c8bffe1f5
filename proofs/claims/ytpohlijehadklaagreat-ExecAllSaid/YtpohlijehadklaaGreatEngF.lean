import Derived.Test.YtpohlijehadklaaGreatFlowI
import Derived.Test.YtpohlijehadklaaGreatEngE
import Derived.Lib.SlKeysI
import Derived.Maps.Own
import Derived.Carry
import Derived.Scope
set_option autoImplicit false
set_option linter.unusedVariables false
set_option linter.unusedSimpArgs false
namespace Go.Eng
open Go Go.RowKit
variable {P : Program}
def isSliceT (P : Program) (t : TypeId) : Bool := match P.underlying t with | some (.slice _) => true | _ => false
def isNilS : AV → Option Bool
  | .pv (.v (.slice a _ _)) => some a.isNone
  | .pv (.sl (_ + 1) (_ :: _)) => some false
  | _ => none
theorem run_eq_nilS {t : TypeId} {a : Option Addr} {n c : Nat} (ht : isSliceT P t = true) (w : World) : (Op.equal t (.slice a n c) (.slice none 0 0)).run P w = .ok a.isNone w := by
  unfold isSliceT at ht
  split at ht
  · rename_i e he
    have hd : ∀ d : Nat, (Op.equalIn (d + 1) t (.slice a n c) (.slice none 0 0)).run P w = .ok a.isNone w := fun d => by
      cases a <;> simp [Op.equalIn, run_underlying he]
    exact hd 9999
  · cases ht
theorem isNilS_rel {ρ : Rho} {w : World} {x : AV} {v : Value} {b : Bool} (h : isNilS x = some b) (k : ARel ρ w x v) : ∃ a n c, v = .slice a n c ∧ a.isNone = b := by
  unfold isNilS at h
  split at h
  · cases h
    exact ⟨_, _, _, pv_inv k, rfl⟩
  · cases h
    rename_i es x xs
    obtain ⟨a, cap, vs, h1, h2, h3, h4, h5⟩ := k
    have hl := h4.length
    rcases h5 with rfl | ⟨ad, rfl, _⟩
    · simp at hl
    · exact ⟨_, _, _, h1, rfl⟩
  · cases h
theorem l_eqNilS {o : Oper} {st : AState} {d : Nat} {x : Operand} {t t' : TypeId} {b : Bool} (ho : o.op = .binOp .eql t x (.const (.slice none 0 0)) t') (hd : o.dst = some d) (hlt : d < st.n) (ht : isSliceT P t = true) (hx : isNilS (ev st x) = some b) :
    Local P o st ⟨keyO x, ⟨[(d, B b)], []⟩, []⟩ := by
  intro st2 hn hr
  refine ok_value hd (by rw [hn]; exact hlt) fun Γ ρ a w hok => ?_
  have h1 := ev_rel hok x
  rw [ev_agree hr (fun k hk => hk)] at h1
  obtain ⟨ad, n, c, hv, hb⟩ := isNilS_rel hx h1
  subst hb
  refine ⟨.bool ad.isNone, ⟨rfl, rfl⟩, ?_⟩
  have hg : (eqGuard .eql t x (.const (.slice none 0 0)) (a.eval x) (.slice none 0 0)).run P w = .ok () w := by rw [hv]; rfl
  have en : a.eval (.const (.slice none 0 0)) = .slice none 0 0 := rfl
  have hb : (binOp .eql t (a.eval x) (.slice none 0 0)).run P w = .ok (.bool ad.isNone) w := by
    rw [hv]
    simp only [binOp, Sem.run_bind, run_eq_nilS ht, Result.andThen_ok, Sem.run_pure]
  unfold execOp
  simp only [ho, en, Sem.run_bind, hg, Result.andThen_ok, hb, Sem.run_pure]
theorem ar_eqNilS {ops : Array Oper} {draw : Bool} {st0 : AState} {Q : Exit → AState → Prop} {i d : Nat} {st : AState} {acc : List Eff} {o : Oper} {x : Operand} {t t' : TypeId} {b : Bool} (ho : ops[i]? = some o) (hg : o.guard = none) (hop : o.op = .binOp .eql t x (.const (.slice none 0 0)) t') (hd : o.dst = some d) (hlt : d < st.n) (ht : isSliceT P t = true) (hx : isNilS (ev st x) = some b)
    (k : AR P ops draw st0 Q (i + 1, { st with t := (d, B b) :: st.t }, if draw = true then acc ++ [⟨keyO x, ⟨[(d, B b)], []⟩, []⟩] else acc)) : AR P ops draw st0 Q (i, st, acc) :=
  ar_loc (E := ⟨keyO x, ⟨[(d, B b)], []⟩, []⟩) (st1 := st) ho hg rfl (l_eqNilS hop hd hlt ht hx) k
/-- A slice of no elements is nil, or it isn't. -/
theorem aw_nilCase {c : Code} {Q : Exit → AState → Prop} {st : AState} (t es : Nat) (ht : tget st.t t = .pv (.sl es [])) (h : ∀ a cap, cap ≤ maxLen → AW P c Q ⟨st.n, (t, .pv (.v (.slice a 0 cap))) :: st.t, st.s⟩) : AW P c Q st := by
  intro Γ ρ a w hok
  have h1 := hok.tmps t
  rw [ht] at h1
  obtain ⟨ad, cap, vs, e1, e2, e3, e4, e5⟩ := h1
  refine h ad cap e3 Γ ρ a w ⟨hok.defers, hok.size, fun q => ?_, hok.sok⟩
  simp only [tget]
  split
  · rename_i hq; subst hq; rw [e1]; exact ⟨rfl, rfl⟩
  · exact hok.tmps q
theorem aw_empSl {c : Code} {Q : Exit → AState → Prop} {st : AState} (t es : Nat) (a : Option Addr) (cap : Nat) (hcap : cap ≤ maxLen) (ht : tget st.t t = .pv (.v (.slice a 0 cap))) (h : AW P c Q ⟨st.n, (t, .pv (.sl es [])) :: st.t, st.s⟩) : AW P c Q st := by
  intro Γ ρ b w hok
  have h1 := hok.tmps t
  rw [ht] at h1
  refine h Γ ρ b w ⟨hok.defers, hok.size, fun q => ?_, hok.sok⟩
  simp only [tget]
  split
  · rename_i hq; subst hq; rw [pv_inv h1]; exact ⟨a, cap, [], rfl, Nat.zero_le _, hcap, rfl, .inl rfl⟩
  · exact hok.tmps q
attribute [simp] isNilS
end Go.Eng
set_option autoImplicit false
set_option linter.unusedVariables false
set_option linter.unusedSimpArgs false
namespace Go.Eng
open Go Go.RowKit
variable {P : Program}
theorem ar_make {ops : Array Oper} {draw : Bool} {st0 : AState} {Q : Exit → AState → Prop} {i d : Nat} {st st1 : AState} {acc : List Eff} {o : Oper} {x y : Operand} {T e size bytes : Nat} {z : Value} {k k' : IntKind} {n : Int} {m : Nat}
    (ho : ops[i]? = some o) (hg : o.guard = none) (hop : o.op = .makeSlice T x y) (hd : o.dst = some d) (hk : st.killAll [.loc d] = st1) (hT : elemS P T = some e) (he : elemT? P e = some (size, bytes)) (hz : zeroOf P e = some z) (hz1 : z.cells.toList.all (·.oneCell') = true) (hlt : d < st1.n) (hsz : 0 < size)
    (hx : ev st1 x = .pv (.v (.int k n))) (hy : ev st1 y = .pv (.v (.int k' n))) (hn : n = (m : Int)) (hb : bytes * m ≤ 281474976710656 ∧ m ≤ maxLen)
    (kk : AR P ops draw st0 Q (i + 1, st1.app ⟨[(d, .own (.loc d))], [(.loc d, some (.own e size (List.replicate m (z.cells.toList.map .v))))]⟩, if draw = true then acc ++ [⟨keyO x ++ keyO y, ⟨[(d, .own (.loc d))], [(.loc d, some (.own e size (List.replicate m (z.cells.toList.map .v))))]⟩, [.loc d]⟩] else acc)) : AR P ops draw st0 Q (i, st, acc) := by
  subst hn
  exact ar_loc (E := ⟨keyO x ++ keyO y, ⟨[(d, .own (.loc d))], [(.loc d, some (.own e size (List.replicate m (z.cells.toList.map .v))))]⟩, [.loc d]⟩) ho hg hk
    (l_make hop hd hlt hT he hz hz1 hsz hx hy (Int.natCast_nonneg _) (by simpa using hb.1) (by simpa using hb.2)) kk
theorem sco_sc {f : FuncId} {args : List AV} {e es : Nat} {xs : List (List PV)} (h : SCO P f args e es xs) : SC P f args (.pv (.sl es xs)) := by
  intro Γ ρ w vals hw hX hargs
  refine (h Γ ρ w vals hw hX hargs).mono ?_
  rintro ex w' ⟨v, ρ', e1, h1, h2⟩
  have hok : Ok Γ ⟨1, [(0, .own (.ext 0))], [(.ext 0, some (.own e es xs))]⟩ ρ' { tmps := #[v], defers := [] } w' := ⟨rfl, rfl, fun t => by
    simp only [tget]
    split
    · rename_i ht; subst ht; exact h1
    · trivial, h2⟩
  obtain ⟨ρ2, hk⟩ := Sub.freeze _ (.ext 0) Γ ρ' _ w' hok
  refine ⟨v, ρ2, e1, ?_, ?_⟩
  · have := hk.tmps 0
    simpa [AState.freeze, sget, tmap, AV.frz, tget] using this
  · have := hk.sok
    refine this.sub ⟨fun n s' hn => ?_⟩
    cases hn
end Go.Eng
set_option autoImplicit false
set_option linter.unusedVariables false
set_option linter.unusedSimpArgs false
namespace Go.Eng
open Go Go.RowKit
variable {P : Program}
theorem ar_frzE {ops : Array Oper} {draw : Bool} {st0 : AState} {Q : Exit → AState → Prop} {i : Nat} {st st1 : AState} {acc : List Eff} {o : Oper} {x : Operand} {args : Array Operand} {ats : Array TypeId} {f : FuncId} {fi ca : List AV} {cargs : List AV} {res : AV} {X Y : SMap} {d : Nat} {E0 : Eff} (L : List Nat) (r r2 C : List Name)
    (hent : Enters P f) (hsc : SCX P f cargs X res Y) (ho : ops[i]? = some o) (hg : o.guard = none) (hop : o.op = .call { callee := .value x, args, argTypes := ats }) (hd : o.dst = some d) (hk : st.killAll C = st1) (h0 : frzE st1 L = some E0) (hx : ev (st1.app E0.u) x = .fn f fi ca) (hlt : d < (st1.app E0.u).n)
    (hargs : AV.renL r cargs = fi ++ (args.toList.map (ev (st1.app E0.u)) ++ ca)) (hX : okXE r (st1.app E0.u) 0 X) (hl : X.length = r.length) (hc : CallOk r r2 C Y) (hres : res.okN r r2 C = true) (hcc : C.all (fun n => !E0.u.has n) = true)
    (k : AR P ops draw st0 Q (i + 1, st1.app (seqE E0 ⟨keyO x ++ keysL args.toList ++ r.map Key.slot, ⟨[(d, res.ren r2)], renS r2 Y ++ noneS r⟩, C⟩).u, if draw = true then acc ++ [seqE E0 ⟨keyO x ++ keysL args.toList ++ r.map Key.slot, ⟨[(d, res.ren r2)], renS r2 Y ++ noneS r⟩, C⟩] else acc)) : AR P ops draw st0 Q (i, st, acc) := by
  have hl := l_call (P := P) (o := o) (st := st1.app E0.u) (C := C) hop hx hargs hent hsc (okXE_mem hX) hc (fun j hj => okXE_get hX (Nat.zero_le j) (by omega)) hres (fun d' h' => by rw [hd] at h'; cases h'; exact hlt)
  rw [hd] at hl
  have hl' : Local P o (st1.app E0.u) ⟨keyO x ++ keysL args.toList ++ r.map Key.slot, ⟨[(d, res.ren r2)], renS r2 Y ++ noneS r⟩, C⟩ := hl
  exact ar_loc (st1 := st1) (E := seqE E0 ⟨keyO x ++ keysL args.toList ++ r.map Key.slot, ⟨[(d, res.ren r2)], renS r2 Y ++ noneS r⟩, C⟩) ho hg hk (l_pre (frzE_ghost h0) (fun n hn => by
    have := List.all_eq_true.1 hcc n hn
    simpa using this) hl') k
end Go.Eng
set_option autoImplicit false
set_option linter.unusedVariables false
set_option linter.unusedSimpArgs false
namespace Go.Eng
open Go Go.RowKit
variable {P : Program}
theorem args_ok {Γ : Ctx} {ρ : Rho} {w : World} {args : List AV} {X : SMap} {vals : Array Value} (hX : SOk Γ X ρ w) (hargs : ARels ρ w args vals.toList) : Ok Γ ⟨args.length, enumT 0 args, X⟩ ρ { tmps := vals, defers := [] } w := by
  have hlen : vals.size = args.length := by rw [← Array.length_toList, hargs.length]
  refine ⟨rfl, hlen, fun t => ?_, hX⟩
  rw [enumT_get]
  split
  · rename_i ht
    simp only [Nat.sub_zero, Nat.zero_add] at ht ⊢
    have h1 : args[t]? = some (args.getD t .dead) := by simp [List.getD, List.getElem?_eq_getElem ht.2]
    obtain ⟨v, h2, h3⟩ := hargs.get h1
    have : vals.getD t undef = v := by
      have h4 : vals[t]? = some v := by simpa using h2
      rw [Array.getD_eq_getD_getElem?, h4]; rfl
    rw [this]; exact h3
  · trivial
theorem SCX.pre {f : FuncId} {args args' : List AV} {X X' Y : SMap} {res : AV} (hs : Sub ⟨args.length, enumT 0 args, X⟩ ⟨args.length, enumT 0 args', X'⟩) (hl : args'.length = args.length) (h : SCX P f args' X' res Y) : SCX P f args X res Y := by
  intro Γ ρ w vals hw hX hargs
  obtain ⟨ρ', hok⟩ := hs Γ ρ _ w (args_ok hX hargs)
  have hlen : vals.size = args.length := by rw [← Array.length_toList, hargs.length]
  refine h Γ ρ' w vals hw hok.sok ((ARels_iff _ _).2 ⟨(by have h5 : args'.length = vals.toList.length := (by simp only [Array.length_toList]; omega); exact h5), fun j p v hp hv => ?_⟩)
  have hj : j < args'.length := (List.getElem?_eq_some_iff.1 hp).1
  have h1 := hok.tmps j
  rw [enumT_get, if_pos ⟨Nat.zero_le _, by omega⟩] at h1
  have e1 : args'.getD (j - 0) .dead = p := by simp [List.getD, hp]
  have e2 : ({ tmps := vals, defers := [] } : Act).tmps.getD j undef = v := by
    have h4 : vals[j]? = some v := by simpa using hv
    show vals.getD j undef = v
    rw [Array.getD_eq_getD_getElem?, h4]; rfl
  rw [e1, e2] at h1
  exact h1
end Go.Eng
set_option autoImplicit false
set_option linter.unusedVariables false
set_option linter.unusedSimpArgs false
namespace Go.Eng
open Go Go.RowKit
variable {P : Program}
theorem aw_nilS {c : Code} {Q : Exit → AState → Prop} {st st' : AState} (t es : Nat) (hs : st.nilSl t es = st') (h : AW P c Q st') : AW P c Q st := by
  subst hs; exact aw_sub (Sub.nilSl st t es) h
end Go.Eng
set_option autoImplicit false
set_option linter.unusedVariables false
set_option linter.unusedSimpArgs false
namespace Go.Eng
open Go Go.RowKit Go.Sort Go.Proofs
variable {P : Program}
def numsL (l : List Int) : List (List PV) := l.map fun n => [C .i64 n]
theorem nums_elems {F : Nat → Prop} {w : World} : ∀ {l : List Int} {vs : List Value}, PElems F w 1 (numsL l) vs ↔ vs = l.map (Value.int .i64)
  | [], vs => Iff.rfl
  | n :: l, vs => by
    show (∃ v1 v2, vs = v1 ++ v2 ∧ v1.length = 1 ∧ PVs F w [C .i64 n] v1 ∧ PElems F w 1 (numsL l) v2) ↔ _
    constructor
    · rintro ⟨v1, v2, rfl, _, ⟨v, vs', rfl, ⟨rfl, _⟩, rfl⟩, h⟩
      rw [nums_elems.1 h]; rfl
    · rintro rfl
      exact ⟨[.int .i64 n], l.map (Value.int .i64), rfl, rfl, ⟨_, _, rfl, ⟨rfl, rfl⟩, rfl⟩, nums_elems.2 rfl⟩
theorem numsL_len (l : List Int) : (numsL l).length = l.length := by simp [numsL]
/-- An own slice's value: of no elements, or a row. -/
theorem own_num {w : World} {e : TypeId} {v : Value} {l : List Int} {vs : List Value} (h : OwnV w e 1 v (numsL l).length vs) (hv : vs = l.map (Value.int .i64)) :
    (l = [] ∧ ∃ p cap, v = .slice p 0 cap) ∨ (l ≠ [] ∧ ∃ g cap cur, v = .slice (some ⟨g, 0, none⟩) l.length cap ∧ w.heap[g]? = some (.cells cur e (0, 0)) ∧ l.length ≤ cap ∧ cap ≤ maxLen ∧ cur.size = cap * 1 ∧ cur.toList.take l.length = l.map (Value.int .i64)) := by
  subst hv
  rw [numsL_len] at h
  cases l with
  | nil =>
    left
    refine ⟨rfl, ?_⟩
    rcases h with ⟨_, h⟩ | ⟨_, _, a, rfl⟩
    · rcases h with ⟨rfl, _⟩ | ⟨g, cap, cur, rfl, _⟩
      · exact ⟨_, _, rfl⟩
      · exact ⟨_, _, rfl⟩
    · exact ⟨_, _, rfl⟩
  | cons n l =>
    right
    refine ⟨by simp, ?_⟩
    rcases h with ⟨_, h⟩ | ⟨h0, _⟩
    · rcases h with ⟨_, h0⟩ | ⟨g, cap, cur, rfl, _, h1, h2, h3, h4, h5⟩
      · simp at h0
      · exact ⟨g, cap, cur, rfl, h1, h2, h3, h4, by simpa using h5⟩
    · simp at h0
abbrev numX (e : TypeId) (l : List Int) : SMap := [(.ext 0, some (.own e 1 (numsL l)))]
theorem exts_only {S : SMap} {s : Option Slot} (h : S = [(.ext 0, s)]) (s' : Option Slot) (n : Name) : sget [(Name.ext 0, s')] n = sget ((Name.ext 0, s') :: S) n := by
  subst h
  simp only [sget]
  split <;> simp_all
/-- What is left of a row, and what its block holds behind. -/
theorem num_row {Γ : Ctx} {ρ : Rho} {w : World} {e : TypeId} {l : List Int} {g cap : Nat} {cur : Array Value} (h : SOk Γ (numX e l) ρ w) (hv : ρ.ov (.ext 0) = .slice (some ⟨g, 0, none⟩) l.length cap) (hne : l ≠ []) (hb : w.heap[g]? = some (.cells cur e (0, 0))) (h1 : l.length ≤ cap) (h2 : cap ≤ maxLen) (h3 : cur.size = cap * 1)
    (ts rest : List Int) (hl : (ts ++ rest).length = l.length) (n : Nat) (os : Array Obj) : SOk Γ (numX e ts) (ρ.slice (.ext 0) (.slice (some ⟨g, 0, none⟩) ts.length cap)) (grow (putRow (Value.int .i64) (Sort.ahead w n) g 0 (ts ++ rest).toArray) os) := by
  have hlen : 0 < l.length := List.length_pos_iff.2 hne
  have hcap : cap ≠ 0 := by omega
  have hrow := ownsRow_sorted_i (base := 0) (n := n) (os := os) (ss := l) (ts := ts ++ rest) hl (Nat.zero_le g) hb h1 h2 h3
  have htl : ts.length ≤ l.length := by rw [← hl]; simp
  have hown : OwnV (grow (putRow (Value.int .i64) (Sort.ahead w n) g 0 (ts ++ rest).toArray) os) e 1 (.slice (some ⟨g, 0, none⟩) ts.length cap) ts.length (ts.map (Value.int .i64)) := by
    refine .inl ⟨by simp, .inr ?_⟩
    rcases hrow.2 with ⟨h0, _⟩ | ⟨g', cap', cur', e1, k1, k2, k3, k4, k5, k6⟩
    · cases h0
    · cases e1
      refine ⟨g, cap, cur', rfl, Nat.zero_le _, k2, by omega, k4, k5, ?_⟩
      have := congrArg (List.take ts.length) k6
      rw [List.take_take, Nat.min_eq_left (by omega)] at this
      rw [Nat.mul_one, this, List.map_append, List.take_left' (by simp)]
  have key := h.slot (ρ' := ρ.slice (.ext 0) (.slice (some ⟨g, 0, none⟩) ts.length cap)) (w' := grow (putRow (Value.int .i64) (Sort.ahead w n) g 0 (ts ++ rest).toArray) os) (.ext 0) (some (.own e 1 (numsL ts))) rfl (fun _ => rfl) (fun m hm => ρ.slice_same _ _ hm)
    (.inr fun m s hm => by
      simp only [numX, sget] at hm
      split at hm
      · cases hm; rfl
      · cases hm) (some g) (grownBy_sorted_i _) (fun b hb' => by
      cases hb'
      refine ⟨_, rfl, ?_⟩
      show ownBlk (ρ.ov (.ext 0)) = some g
      rw [hv]; simp [ownBlk, hcap]) (fun s hs => by
      cases hs
      refine ⟨ts.map (Value.int .i64), ?_, nums_elems.2 rfl⟩
      rw [numsL_len]
      simpa [Rho.slice] using hown) (fun s b hs hsb => by
      cases hs
      right
      simp only [slotBlk, Rho.slice, if_true] at hsb
      simpa [ownBlk, hcap] using hsb)
  exact key.ext fun m => exts_only rfl _ m
def sortI (l : List Int) : List Int := l.mergeSort fun x y => decide (x ≤ y)
theorem sortI_len (l : List Int) : (sortI l).length = l.length := by simp [sortI]
/-- The slice comes back shorter, what is behind is turned. -/
theorem scx_shrink {f : FuncId} {exA : List AV} {exV : List Value} {l ts rest : List Int} (hex : ∀ ρ w vs, ARels ρ w exA vs → vs = exV)
    (hc : ∀ (blk off cap : Nat) (w : World), l ≠ [] → Holds (Value.int .i64) w blk off l.toArray → l.length ≤ cap → cap ≤ 9223372036854775807 →
      Calls P f (.slice (some ⟨blk, off, none⟩) l.length cap :: exV).toArray w fun e w' => e = .returned (.slice (some ⟨blk, off, none⟩) ts.length cap) ∧ ∃ q, w' = putRow (Value.int .i64) (Sort.ahead w q) blk off (ts ++ rest).toArray)
    (hz : l = [] → ts = [] ∧ ∀ (p : Option Addr) (cap : Nat) (w : World), Calls P f (.slice p 0 cap :: exV).toArray w fun e w' => e = .returned (.slice p 0 cap) ∧ w' = w) (hlen : (ts ++ rest).length = l.length) {e : TypeId} :
    SCX P f (.own (.ext 0) :: exA) (numX e l) (.own (.ext 0)) (numX e ts) := by
  intro Γ ρ w vals hw hX hargs
  obtain ⟨v, vs', e1, h1, h2⟩ := hargs
  have hvs := hex _ _ _ h2
  subst hvs
  have hvals : vals = (v :: vs').toArray := by rw [← Array.toList_inj]; simpa using e1
  subst hvals
  have h1 : v = ρ.ov (.ext 0) := h1
  obtain ⟨vs, k1, k2⟩ := hX.slots (.ext 0) _ rfl
  rw [← h1] at k1
  rcases own_num k1 (nums_elems.1 k2) with ⟨rfl, p, cap, rfl⟩ | ⟨hne, g, cap, cur, rfl, q1, q2, q3, q4, q5⟩
  · obtain ⟨hts, hzz⟩ := hz rfl
    subst hts
    refine (hzz p cap w).mono ?_
    rintro ex w' ⟨rfl, rfl⟩
    exact ⟨_, ρ, rfl, h1, hX⟩
  · refine (hc g 0 cap w hne (holds_of_block_i q1 q5) q2 q3).mono ?_
    rintro ex w' ⟨rfl, q, rfl⟩
    have key := num_row hX h1.symm hne q1 q2 q3 q4 ts rest hlen q #[]
    rw [grow_empty] at key
    exact ⟨_, _, rfl, by simp [ARel, Rho.slice], key⟩
end Go.Eng
set_option autoImplicit false
set_option linter.unusedVariables false
set_option linter.unusedSimpArgs false
namespace Go.Eng
open Go Go.RowKit Go.Proofs
variable {P : Program} {δ : Type}

def Ctx.now (S : SMap) (ρ : Rho) (w : World) : Ctx := ⟨w, ρ.F, fun b => ∃ n s, sget S n = some s ∧ slotBlk ρ n s = some b, fun i => ρ.blk (.ext i)⟩
theorem SOk.rebase {Γ : Ctx} {S : SMap} {ρ : Rho} {w : World} (h : SOk Γ S ρ w) : SOk (Ctx.now S ρ w) S ρ w :=
  { slots := h.slots, disj := h.disj, sep := h.sep, flt := h.flt, os := rfl, tape := rfl, output := rfl, size := Nat.le_refl _, below := fun _ _ _ => rfl,
    fmono := fun _ h => h, fnew := fun _ h => .inl h, home := fun n s b h1 h2 => .inl ⟨n, s, h1, h2⟩, xblk := fun _ => rfl }
theorem SOk.unbase {Γ : Ctx} {S S' : SMap} {ρ ρ' : Rho} {w w' : World} (h : SOk Γ S ρ w) (k : SOk (Ctx.now S ρ w) S' ρ' w') : SOk Γ S' ρ' w' where
  slots := k.slots
  disj := k.disj
  sep := k.sep
  flt := k.flt
  os := k.os.trans h.os
  tape := k.tape.trans h.tape
  output := k.output.trans h.output
  size := Nat.le_trans h.size k.size
  below := fun b hb hx => (k.below b (Nat.lt_of_lt_of_le hb h.size) (fun ⟨n, s, h1, h2⟩ => by
    rcases h.home n s b h1 h2 with h3 | h3
    · exact hx h3
    · exact absurd hb (Nat.not_lt.2 h3))).trans (h.below b hb hx)
  fmono := fun b hb => k.fmono b (h.fmono b hb)
  fnew := fun b hb => by
    rcases k.fnew b hb with h1 | ⟨n, s, h1, h2⟩ | h1
    · exact h.fnew b h1
    · exact .inr (h.home n s b h1 h2)
    · exact .inr (.inr (Nat.le_trans h.size h1))
  home := fun n s b h1 h2 => by
    rcases k.home n s b h1 h2 with ⟨n', s', h3, h4⟩ | h3
    · exact h.home n' s' b h3 h4
    · exact .inr (Nat.le_trans h.size h3)
  xblk := fun i => (k.xblk i).trans (h.xblk i)
theorem Ok.rebase {Γ : Ctx} {st : AState} {ρ : Rho} {a : Act} {w : World} (h : Ok Γ st ρ a w) : Ok (Ctx.now st.s ρ w) st ρ a w := ⟨h.defers, h.size, h.tmps, h.sok.rebase⟩
theorem Ok.unbase {Γ : Ctx} {st st' : AState} {ρ ρ' : Rho} {a a' : Act} {w w' : World} (h : Ok Γ st ρ a w) (k : Ok (Ctx.now st.s ρ w) st' ρ' a' w') : Ok Γ st' ρ' a' w' := ⟨k.defers, k.size, k.tmps, h.sok.unbase k.sok⟩

structure Beside (Γ : Ctx) (S : SMap) (ρ : Rho) (w : World) (m : Nat) : Prop where
  lt : m < w.heap.size
  nf : ¬ρ.F m
  ns : ∀ n s, sget S n = some s → slotBlk ρ n s ≠ some m
  hi : Γ.w0.heap.size ≤ m
theorem Beside.carry {Γ : Ctx} {S S' : SMap} {ρ ρ' : Rho} {w w' : World} {m : Nat} (hb : Beside Γ S ρ w m) (k : SOk (Ctx.now S ρ w) S' ρ' w') : Beside Γ S' ρ' w' m ∧ w'.heap[m]? = w.heap[m]? := by
  have hx : ¬(Ctx.now S ρ w).X0 m := fun ⟨n, s, h1, h2⟩ => hb.ns n s h1 h2
  refine ⟨⟨Nat.lt_of_lt_of_le hb.lt k.size, fun hF => ?_, fun n s h1 h2 => ?_, hb.hi⟩, k.below m hb.lt hx⟩
  · rcases k.fnew m hF with h | h | h
    · exact hb.nf h
    · exact hx h
    · exact absurd hb.lt (Nat.not_lt.2 h)
  · rcases k.home n s m h1 h2 with h | h
    · exact hx h
    · exact absurd hb.lt (Nat.not_lt.2 h)
theorem SOk.slot_lt {Γ : Ctx} {S : SMap} {ρ : Rho} {w : World} (h : SOk Γ S ρ w) {n : Name} {s : Slot} {b : Nat} (hn : sget S n = some s) (hb : slotBlk ρ n s = some b) : b < w.heap.size := by
  have := h.slots n s hn
  cases s with
  | box T cells => obtain ⟨cs, h1, _⟩ := this; simp [slotBlk] at hb; subst hb; exact (Array.getElem?_eq_some_iff.1 h1).1
  | own e es xs => obtain ⟨vs, h1, _⟩ := this; exact h1.lt hb
theorem SOk.turnM {Γ : Ctx} {S : SMap} {ρ : Rho} {w w' : World} {m : Nat} (h : SOk Γ S ρ w) (hb : Beside Γ S ρ w m) (hg : w.grownBy w' (some m)) : SOk Γ S ρ w' := by
  have hk : Keep ρ.F w ρ.F w' := ⟨fun _ h => h, fun b hF => hg.block b (h.flt b hF) (fun e => by cases e; exact hb.nf hF)⟩
  refine { slots := fun n s hn => ?_, disj := h.disj, sep := h.sep, flt := fun b hF => Nat.lt_of_lt_of_le (h.flt b hF) hg.size, os := hg.os.trans h.os, tape := hg.tape.trans h.tape, output := hg.output.trans h.output, size := Nat.le_trans h.size hg.size,
           below := fun b h1 h2 => (hg.block b (Nat.lt_of_lt_of_le h1 h.size) (fun e => by cases e; exact absurd h1 (Nat.not_lt.2 hb.hi))).trans (h.below b h1 h2), fmono := h.fmono, fnew := h.fnew, home := h.home, xblk := h.xblk }
  have hs := h.slots n s hn
  have hne := hb.ns n s hn
  cases s with
  | box T cells =>
    obtain ⟨cs, k1, k2, k3⟩ := hs
    refine ⟨cs, ?_, ARels.keep' (ρ := ρ) (ρ' := ρ) hk rfl rfl k2, k3⟩
    rw [hg.block _ (Array.getElem?_eq_some_iff.1 k1).1 (fun e => hne (by simpa [slotBlk] using e))]; exact k1
  | own e es xs =>
    obtain ⟨vs, k1, k2⟩ := hs
    exact ⟨vs, k1.keepB (fun b hq => hg.block b (k1.lt hq) (fun e => hne (by simp [slotBlk, hq]; simpa using e))), PElems.keep hk _ _ k2⟩
theorem Ok.turnM {Γ : Ctx} {st : AState} {ρ : Rho} {a : Act} {w w' : World} {m : Nat} (h : Ok Γ st ρ a w) (hb : Beside Γ st.s ρ w m) (hg : w.grownBy w' (some m)) : Ok Γ st ρ a w' :=
  ⟨h.defers, h.size, fun t => ARel.keep' (ρ := ρ) (ρ' := ρ) ⟨fun _ h => h, fun b hF => hg.block b (h.sok.flt b hF) (fun e => by cases e; exact hb.nf hF)⟩ rfl rfl (h.tmps t), h.sok.turnM hb hg⟩

/-- What is said of the block looks at the block alone. -/
def JB (m : Nat) (J : δ → World → Prop) : Prop := ∀ d w w', w'.heap[m]? = w.heap[m]? → J d w → J d w'
def AWM (P : Program) (J : δ → World → Prop) (m : Nat) (c : Code) (Q : Exit → AState → δ → Prop) (st : AState) (d : δ) : Prop :=
  ∀ (Γ : Ctx) (ρ : Rho) (a : Act) (w : World), Ok Γ st ρ a w → Beside Γ st.s ρ w m → J d w →
    c.wp P (fun e a' w' => ∃ st' ρ' d', Q e st' d' ∧ Ok Γ st' ρ' a' w' ∧ Beside Γ st'.s ρ' w' m ∧ J d' w') a w
def thenM (P : Program) (J : δ → World → Prop) (m : Nat) (c : Code) (Q : Exit → AState → δ → Prop) : Exit → AState → δ → Prop
  | .normal, st, d => AWM P J m c Q st d
  | e, st, d => Q e st d
def blockM (id : Nat) (Q : Exit → AState → δ → Prop) : Exit → AState → δ → Prop
  | .exit i, st, d => if i = id then Q .normal st d else Q (.exit i) st d
  | e, st, d => Q e st d
variable {J : δ → World → Prop} {m : Nat}
/-- Code that does not know of the block. -/
theorem awm_aw {c : Code} {Q : Exit → AState → δ → Prop} {st : AState} {d : δ} (hJ : JB m J) (h : AW P c (fun e s => Q e s d) st) : AWM P J m c Q st d := by
  intro Γ ρ a w hok hb hj
  refine wp_mono (h _ ρ a w hok.rebase) ?_
  rintro e a' w' ⟨st', ρ', hq, hok'⟩
  obtain ⟨hb', hh⟩ := hb.carry hok'.sok
  exact ⟨st', ρ', d, hq, hok.unbase hok', hb', hJ _ _ _ hh hj⟩
theorem awm_sub {c : Code} {Q : Exit → AState → δ → Prop} {st st' : AState} {d : δ} (hJ : JB m J) (hs : Sub st st') (h : AWM P J m c Q st' d) : AWM P J m c Q st d := by
  intro Γ ρ a w hok hb hj
  obtain ⟨ρ', hok'⟩ := hs _ ρ a w hok.rebase
  exact h Γ ρ' a w (hok.unbase hok') (hb.carry hok'.sok).1 hj
theorem awm_seq {x y : Code} {Q : Exit → AState → δ → Prop} {st : AState} {d : δ} (h : AWM P J m x (thenM P J m y Q) st d) : AWM P J m (.seq x y) Q st d := by
  intro Γ ρ a w hok hb hj
  refine wp_seq (wp_mono (h Γ ρ a w hok hb hj) ?_)
  rintro e a' w' ⟨st', ρ', d', h1, h2, h3, h4⟩
  cases e <;> first | exact h1 Γ ρ' a' w' h2 h3 h4 | exact ⟨st', ρ', d', h1, h2, h3, h4⟩
theorem awm_saw {x y : Code} {Q : Exit → AState → δ → Prop} {st : AState} {d : δ} (hJ : JB m J) (h : AW P x (fun e s => thenM P J m y Q e s d) st) : AWM P J m (.seq x y) Q st d := awm_seq (awm_aw hJ h)
theorem awm_skip {Q : Exit → AState → δ → Prop} {st : AState} {d : δ} (h : Q .normal st d) : AWM P J m .skip Q st d := fun Γ ρ a w hok hb hj => wp_skip ⟨st, ρ, d, h, hok, hb, hj⟩
theorem awm_ret {Q : Exit → AState → δ → Prop} {st : AState} {d : δ} (h : Q .ret st d) : AWM P J m .ret Q st d := fun Γ ρ a w hok hb hj => wp_ret ⟨st, ρ, d, h, hok, hb, hj⟩
theorem awm_block {id : Nat} {c : Code} {Q : Exit → AState → δ → Prop} {st : AState} {d : δ} (h : AWM P J m c (blockM id Q) st d) : AWM P J m (.block id c) Q st d := by
  intro Γ ρ a w hok hb hj
  refine wp_block (wp_mono (h Γ ρ a w hok hb hj) ?_)
  rintro e a' w' ⟨st', ρ', d', h1, h2⟩
  cases e with
  | exit i =>
    simp only [blockM, Exit.inBlock] at h1 ⊢
    split <;> rename_i hi
    · rw [if_pos hi] at h1; exact ⟨st', ρ', d', h1, h2⟩
    · rw [if_neg hi] at h1; exact ⟨st', ρ', d', h1, h2⟩
  | _ => exact ⟨st', ρ', d', h1, h2⟩
theorem awm_cond {c : Operand} {x y : Code} {b : Bool} {Q : Exit → AState → δ → Prop} {st : AState} {d : δ} (hc : ev st c = .pv (.v (.bool b))) (ht : b = true → AWM P J m x Q st d) (hf : b = false → AWM P J m y Q st d) : AWM P J m (.cond c x y) Q st d := by
  intro Γ ρ a w hok hb hj
  have h1 := ev_rel hok c
  rw [hc] at h1
  exact wp_cond_split (pv_inv h1) (fun h => ht h Γ ρ a w hok hb hj) (fun h => hf h Γ ρ a w hok hb hj)
def loopM {ι : Type} (head : ι → AState) (dat : ι → δ) (μ : ι → Nat) (i : ι) (Q : Exit → AState → δ → Prop) : Exit → AState → δ → Prop
  | .normal, st, d => ∃ j, μ j < μ i ∧ Sub st (head j) ∧ d = dat j
  | e, st, d => Q e st d
theorem awm_loop {ι : Type} {c : Code} {Q : Exit → AState → δ → Prop} {st : AState} {d : δ} (hJ : JB m J) (head : ι → AState) (dat : ι → δ) (μ : ι → Nat) (i0 : ι) (h0 : Sub st (head i0)) (hd : d = dat i0) (hr : ∀ i, AWM P J m c (loopM head dat μ i Q) (head i) (dat i)) : AWM P J m (.loop c) Q st d := by
  refine awm_sub hJ h0 ?_
  subst hd
  intro Γ ρ a w hok hb hj
  classical
  let In : ι → Rho → Act → World → Prop := fun i ρ a w => Ok Γ (head i) ρ a w ∧ Beside Γ (head i).s ρ w m ∧ J (dat i) w
  let meas : Act → World → Nat → Prop := fun a w n => ∃ i ρ, In i ρ a w ∧ μ i = n
  let μ' : Act → World → Nat := fun a w => if h : ∃ n, meas a w n ∧ ∀ q, meas a w q → n ≤ q then Classical.choose h else 0
  refine wp_loop (fun a w => ∃ i ρ, In i ρ a w) μ' ⟨i0, ρ, hok, hb, hj⟩ ?_
  intro a w hI
  have hex : ∃ n, meas a w n ∧ ∀ q, meas a w q → n ≤ q := by obtain ⟨i, ρ, h⟩ := hI; exact exists_least _ (μ i) ⟨i, ρ, h, rfl⟩
  obtain ⟨i, ρ1, h1, h2⟩ := (Classical.choose_spec hex).1
  have hμ : μ' a w = μ i := by simp only [μ', dif_pos hex]; exact h2.symm
  refine wp_mono (hr i Γ ρ1 a w h1.1 h1.2.1 h1.2.2) ?_
  rintro e a' w' ⟨st', ρ', d', h3, h4, h4b, h4j⟩
  cases e with
  | normal =>
    obtain ⟨j, h5, h6, rfl⟩ := h3
    obtain ⟨ρ2, h7⟩ := h6 _ ρ' a' w' h4.rebase
    have hin : In j ρ2 a' w' := ⟨h4.unbase h7, (h4b.carry h7.sok).1, h4j⟩
    have hex' : ∃ n, meas a' w' n ∧ ∀ q, meas a' w' q → n ≤ q := exists_least _ (μ j) ⟨j, ρ2, hin, rfl⟩
    refine ⟨⟨j, ρ2, hin⟩, ?_⟩
    have : μ' a' w' ≤ μ j := by simp only [μ', dif_pos hex']; exact (Classical.choose_spec hex').2 _ ⟨j, ρ2, hin, rfl⟩
    omega
  | _ => exact ⟨st', ρ', d', h3, h4, h4b, h4j⟩

inductive RunTo (P : Program) (ops : Array Oper) : Nat → AState → Nat → AState → Prop
  | nil {i : Nat} {st : AState} : RunTo P ops i st i st
  | cons {i j : Nat} {st st' : AState} {E : Eff} : i < ops.size → LocalAt P ops i (st.killAll E.c) E → RunTo P ops (i + 1) ((st.killAll E.c).app E.u) j st' → RunTo P ops i st j st'
theorem RunTo.sound {ops : Array Oper} {i j : Nat} {st st' : AState} (h : RunTo P ops i st j st') {Γ : Ctx} {Q : Exit → Act → World → Prop} (hQ : ∀ ρ' a' w', Ok Γ st' ρ' a' w' → wpOps P ops Q (List.range' j (ops.size - j)) a' w') :
    ∀ (ρ : Rho) (a : Act) (w : World), Ok Γ st ρ a w → wpOps P ops Q (List.range' i (ops.size - i)) a w := by
  induction h with
  | nil => intro ρ a w hok; exact hQ ρ a w hok
  | @cons i j st st' E hi hl _ ih =>
    intro ρ a w hok
    have e : ops.size - i = (ops.size - (i + 1)) + 1 := by omega
    rw [e, List.range'_succ, wpOps_cons]
    exact hl _ rfl (fun _ _ => rfl) Γ ρ a w _ Q (hok.killAll _) (AState.killAll_free _ _) fun ρ' a' w' hok' => ih hQ ρ' a' w' hok'
theorem runTo_runs {ops : Array Oper} {j : Nat} {st' : AState} {acc' : List Eff} : ∀ (l : List Oper) (i : Nat) (st : AState) (acc : List Eff), ops.toList.drop i = l → runs P ops false l i st acc = (j, st', acc') → RunTo P ops i st j st'
  | [], i, st, acc, _, h => by
    simp only [runs, Prod.mk.injEq] at h
    obtain ⟨rfl, rfl, _⟩ := h
    exact .nil
  | o :: l, i, st, acc, hl, h => by
    simp only [runs] at h
    have ho : ops[i]? = some o := by
      have : (ops.toList.drop i)[0]? = some o := by rw [hl]; rfl
      simpa [List.getElem?_drop] using this
    split at h
    · rename_i E st2 hs
      obtain ⟨h1, rfl⟩ := stepG_ok ho hs
      exact .cons (Array.getElem?_eq_some_iff.1 ho).1 h1 (runTo_runs l (i + 1) _ _ (by rw [← List.tail_drop, hl]; rfl) h)
    · simp only [Prod.mk.injEq] at h
      obtain ⟨rfl, rfl, _⟩ := h
      exact .nil
theorem wpo_plain {ops : Array Oper} {i : Nat} {o : Oper} {a : Act} {w : World} {K : Act → World → Prop} {Q : Exit → Act → World → Prop} (ho : ops[i]? = some o) (hg : o.guard = none) (h : o.wp P a w K Q) : wpOp P ops Q i K a w := by
  unfold wpOp
  rw [ho]
  simp only [Region.wanted, hg, if_true]
  exact .inl h
/-- A region whose last operation is 'm[key] = val'. -/
theorem awm_upd {id j : Nat} {ops : Array Oper} {Q : Exit → AState → δ → Prop} {st st1 : AState} {d d' : δ} {acc : List Eff} {o : Oper} {t : TypeId} {x y v : Operand} {k : Int} {b : Bool} (hJ : JB m J)
    (hr : runs P ops false ops.toList 0 st [] = (j, st1, acc)) (ho : ops[j]? = some o) (hs : ops.size = j + 1) (hg : o.guard = none) (hd : o.dst = none) (hop : o.op = .mapUpdate t x y v)
    (hx : ev st1 x = .pv (.v (.map (some m)))) (hy : ev st1 y = .pv (.v (.int .i64 k))) (hv : ev st1 v = .pv (.v (.bool b)))
    (hup : ∀ w, J d w → ∃ w', (Instr.mapUpdate t (.map (some m)) (.int .i64 k) (.bool b)).run P w = .ok () w' ∧ J d' w' ∧ w.grownBy w' (some m))
    (h : Q .normal st1 d') : AWM P J m (.region id ops false) Q st d := by
  intro Γ ρ a w hok hb hj
  refine wp_region ?_
  have hto := runTo_runs ops.toList 0 st [] rfl hr
  have := hto.sound (Γ := Ctx.now st.s ρ w) (Q := fun e a' w' => ∃ st' ρ' d', Q e st' d' ∧ Ok Γ st' ρ' a' w' ∧ Beside Γ st'.s ρ' w' m ∧ J d' w') (fun ρ' a' w' hok' => ?_) ρ a w hok.rebase
  · rwa [List.range_eq_range']
  obtain ⟨hb', hh⟩ := hb.carry hok'.sok
  have hok2 := hok.unbase hok'
  have e1 : ops.size - j = 1 := by omega
  rw [e1]
  show wpOps P ops _ [j] a' w'
  rw [wpOps_cons]
  obtain ⟨w2, hrun, hj2, hg2⟩ := hup w' (hJ _ _ _ hh hj)
  have ex : a'.eval x = .map (some m) := by have h1 := ev_rel hok2 x; rw [hx] at h1; exact pv_inv h1
  have ey : a'.eval y = .int .i64 k := by have h1 := ev_rel hok2 y; rw [hy] at h1; exact pv_inv h1
  have ev : a'.eval v = .bool b := by have h1 := ev_rel hok2 v; rw [hv] at h1; exact pv_inv h1
  refine wpo_plain ho hg ?_
  unfold Oper.wp
  simp only [execOp, hop, ex, ey, ev, Sem.run_bind, hrun, Result.andThen_ok, Sem.run_pure]
  simp only [Oper.upon, hd]
  exact ⟨st1, ρ', d', h, hok2.turnM hb' hg2, ⟨Nat.lt_of_lt_of_le hb'.lt hg2.size, hb'.nf, hb'.ns, hb'.hi⟩, hj2⟩
end Go.Eng
set_option autoImplicit false
set_option linter.unusedVariables false
set_option linter.unusedSimpArgs false
namespace Go.Eng
open Go Go.RowKit Go.Proofs
variable {P : Program} {δ : Type}

theorem awm_make {J : Nat → δ → World → Prop} {id : Nat} {o0 o1 : Oper} {y : Code} {Q : Exit → AState → Prop} {st : AState} {d : δ} {t : TypeId} {q r : Nat}
    (hg0 : o0.guard = none) (hd0 : o0.dst = some q) (hop0 : o0.op = .makeMap t none) (hg1 : o1.guard = none) (hd1 : o1.dst = some r) (hop1 : o1.op = .assign (.tmp q)) (hq : q < st.n) (hr : r < st.n)
    (hJ0 : ∀ w : World, J w.heap.size d (w.alloc (.map #[] 0)))
    (k : ∀ m, AWM P (J m) m y (fun e s _ => Q e s) ⟨st.n, (r, .pv (.v (.map (some m)))) :: (q, .pv (.v (.map (some m)))) :: st.t, st.s⟩ d) : AW P (.seq (.region id #[o0, o1] false) y) Q st := by
  intro Γ ρ a w hok
  refine wp_seq (wp_region ?_)
  show wpOps P #[o0, o1] _ [0, 1] a w
  have hs : a.tmps.size = st.n := hok.size
  have hg : w.grownBy (w.alloc (.map #[] 0)) none := World.grownBy_alloc w _ none
  have hok1 : Ok Γ st ρ a (w.alloc (.map #[] 0)) := hok.grow hg.size (fun b hb => hg.block b hb (by simp)) rfl rfl rfl
  have hv : ARel ρ (w.alloc (.map #[] 0)) (.pv (.v (.map (some w.heap.size)))) (.map (some w.heap.size)) := ⟨rfl, rfl⟩
  have hok2 := hok1.setT (d := q) (v := .map (some w.heap.size)) (av := .pv (.v (.map (some w.heap.size)))) hq hv
  have hok3 := hok2.setT (d := r) (v := .map (some w.heap.size)) (av := .pv (.v (.map (some w.heap.size)))) hr hv
  rw [wpOps_cons]
  refine wpo_plain (o := o0) rfl hg0 ?_
  unfold Oper.wp
  simp only [execOp, hop0, Option.map_none, Sem.run_bind, run_makeMap, Result.andThen_ok, Sem.run_pure, Oper.upon, hd0]
  rw [wpOps_cons]
  refine wpo_plain (o := o1) rfl hg1 ?_
  have e : (a.put (some q) (.map (some w.heap.size))).eval (.tmp q) = .map (some w.heap.size) := by
    show (a.put (some q) _).tmps.getD q undef = _
    rw [getD_put _ _ _ _ (by rw [hs]; exact hq), if_pos rfl]
  unfold Oper.wp
  simp only [execOp, hop1, e, Sem.run_pure, Oper.upon, hd1]
  refine wp_mono (k _ Γ ρ _ _ hok3 ⟨?_, fun hF => ?_, fun n s hn hb => ?_, hok.sok.size⟩ (hJ0 w)) (fun e a' w' ⟨st', ρ', d', h1, h2, _, _⟩ => ⟨st', ρ', h1, h2⟩)
  · show w.heap.size < (w.heap.push _).size; simp
  · exact absurd (hok.sok.flt _ hF) (Nat.lt_irrefl _)
  · exact absurd (hok.sok.slot_lt hn hb) (Nat.lt_irrefl _)
theorem fresh_rowN {Γ : Ctx} {ρ : Rho} {w w' : World} {e : TypeId} {v' : Value} {l : List Int} (N : Name) (h : SOk Γ [] ρ w) (hown : w'.ownsRow w.heap.size e 1 v' l.length (l.map (Value.int .i64))) (hb : Below w.heap.size w w') : SOk Γ [(N, some (.own e 1 (numsL l)))] (ρ.slice N v') w' := by
  have key := h.slot (ρ' := ρ.slice N v') (w' := w') N (some (.own e 1 (numsL l))) rfl (fun _ => rfl) (fun m hm => ρ.slice_same _ _ hm) (.inr fun m s hm => by cases hm) none
    ⟨hb.os, hb.tape, hb.output, hb.size, fun k hk _ => hb.block k hk⟩ (fun b hb' => by cases hb') (fun s hs => by
      cases hs
      refine ⟨l.map (Value.int .i64), .inl ?_, nums_elems.2 rfl⟩
      rw [numsL_len]
      simp only [Rho.slice, if_true]
      obtain ⟨h1, h2⟩ := hown
      refine ⟨h1, ?_⟩
      rcases h2 with h2 | ⟨g, cap, cur, q0, q1, q2⟩
      · exact .inl h2
      · exact .inr ⟨g, cap, cur, q0, Nat.zero_le _, q2⟩) (fun s b hs hsb => by
      cases hs
      left
      simp only [slotBlk, Rho.slice, if_true] at hsb
      exact (hown.lt b (ownBlk_some hsb)).1)
  exact key
theorem wpo_call {ops : Array Oper} {i : Nat} {o : Oper} {a : Act} {w : World} {K : Act → World → Prop} {Q : Exit → Act → World → Prop} {f : FuncId} {args : Array Operand} {ats : Array TypeId} {vals : Array Value} {R : Ending → World → Prop}
    (ho : ops[i]? = some o) (hg : o.guard = none) (hop : o.op = .call { callee := .value (.func f), args, argTypes := ats }) (hent : Enters P f) (hv : args.map a.eval = vals) (hc : Calls P f vals w R) (hk : ∀ e w', R e w' → ∃ v, e = .returned v ∧ K (a.put o.dst v) w') : wpOp P ops Q i K a w := by
  refine wpo_plain ho hg ?_
  unfold Oper.wp
  have h1 : a.eval (.func f) = .func (.func f) #[] #[] := rfl
  have hrun : (execOp a.eval o).run P w = .ok (.enter f vals) w := by
    unfold execOp
    simp only [hop, resolve, h1, Deferred.ofValue, Sem.run_bind, Sem.run_pure, Result.andThen_ok, invoke, hv]
    rw [hent]
    simp
  rw [hrun, Oper.upon_enter]
  refine hc.mono ?_
  intro e w' hR
  obtain ⟨v, rfl, h⟩ := hk e w' hR
  exact h
variable {J : δ → World → Prop} {m : Nat}
/-- 'g(f(m))': a new slice of numbers. -/
theorem awm_keys {id : Nat} {o0 o1 o2 o3 : Oper} {y : Code} {Q : Exit → AState → δ → Prop} {st : AState} {d : δ} {f1 f2 : FuncId} {x : Operand} {t0 t1 t2 t3 : Nat} {e : TypeId} {l : List Int} {ats1 ats2 : Array TypeId} (hJ : JB m J)
    (hg0 : o0.guard = none) (hd0 : o0.dst = some t0) (hop0 : o0.op = .move x) (hg1 : o1.guard = none) (hd1 : o1.dst = some t1) (hop1 : o1.op = .call { callee := .value (.func f1), args := #[.tmp t0], argTypes := ats1 })
    (hg2 : o2.guard = none) (hd2 : o2.dst = some t2) (hop2 : o2.op = .call { callee := .value (.func f2), args := #[.tmp t1], argTypes := ats2 }) (hg3 : o3.guard = none) (hd3 : o3.dst = some t3) (hop3 : o3.op = .assign (.tmp t2))
    (hx : ev st x = .pv (.v (.map (some m)))) (hlt : t0 < st.n ∧ t1 < st.n ∧ t2 < st.n ∧ t3 < st.n) (he1 : Enters P f1) (he2 : Enters P f2)
    (hc : ∀ w, J d w → Calls P f1 #[.map (some m)] w fun ex w1 => ∃ fv, ex = .returned fv ∧ Calls P f2 #[fv] w1 fun ex w' => ∃ v, ex = .returned v ∧ w'.ownsRow w.heap.size e 1 v l.length (l.map (Value.int .i64)) ∧ Below w.heap.size w w')
    (k : AWM P J m y Q ⟨st.n, [(t3, .own (.loc t2))], [(.loc t2, some (.own e 1 (numsL l)))]⟩ d) : AWM P J m (.seq (.region id #[o0, o1, o2, o3] false) y) Q st d := by
  intro Γ ρ a w hok hb hj
  refine wp_seq (wp_region ?_)
  show wpOps P #[o0, o1, o2, o3] _ [0, 1, 2, 3] a w
  have ex : a.eval x = .map (some m) := by have h1 := ev_rel hok x; rw [hx] at h1; exact pv_inv h1
  obtain ⟨l0, l1, l2, l3⟩ := hlt
  have k0 := hok.setT (d := t0) (v := .map (some m)) (av := .dead) l0 trivial
  rw [wpOps_cons]
  refine wpo_plain (o := o0) rfl hg0 ?_
  unfold Oper.wp
  simp only [execOp, hop0, ex, Sem.run_pure, Oper.upon, hd0]
  rw [wpOps_cons]
  refine wpo_call (o := o1) rfl hg1 hop1 he1 (vals := #[.map (some m)]) ?_ (hc w hj) ?_
  · have e : (a.put (some t0) (.map (some m))).eval (.tmp t0) = .map (some m) := by
      show (a.put (some t0) (.map (some m))).tmps.getD t0 undef = _
      rw [getD_put _ _ _ _ (by rw [hok.size]; exact l0), if_pos rfl]
    simp [e]
  rintro _ w1 ⟨fv, rfl, hc2⟩
  refine ⟨fv, rfl, ?_⟩
  rw [hd1]
  have k1 := k0.setT (d := t1) (v := fv) (av := .dead) l1 trivial
  rw [wpOps_cons]
  refine wpo_call (o := o2) rfl hg2 hop2 he2 (vals := #[fv]) ?_ hc2 ?_
  · have e : ((a.put (some t0) (.map (some m))).put (some t1) fv).eval (.tmp t1) = fv := by
      show ((a.put (some t0) (.map (some m))).put (some t1) fv).tmps.getD t1 undef = _
      rw [getD_put _ _ _ _ (by rw [k0.size]; exact l1), if_pos rfl]
    simp [e]
  rintro _ w' ⟨v, rfl, hown, hbel⟩
  refine ⟨v, rfl, ?_⟩
  rw [hd2]
  have k2 := k1.setT (d := t2) (v := v) (av := .dead) l2 trivial
  rw [wpOps_cons]
  refine wpo_plain (o := o3) rfl hg3 ?_
  have e3 : (((a.put (some t0) (.map (some m))).put (some t1) fv).put (some t2) v).eval (.tmp t2) = v := by
    show (((a.put (some t0) (.map (some m))).put (some t1) fv).put (some t2) v).tmps.getD t2 undef = _
    rw [getD_put _ _ _ _ (by rw [k1.size]; exact l2), if_pos rfl]
  have k3 := k2.setT (d := t3) (v := v) (av := .dead) l3 trivial
  unfold Oper.wp
  simp only [execOp, hop3, e3, Sem.run_pure, Oper.upon, hd3]
  have hS : SOk Γ [] ρ w := hok.sok.sub ⟨fun n s' h => by cases h⟩
  have hS' := fresh_rowN (.loc t2) hS hown hbel
  refine k Γ (ρ.slice (.loc t2) v) _ w' ⟨k3.defers, k3.size, fun t => ?_, hS'⟩ ⟨Nat.lt_of_lt_of_le hb.lt hbel.size, hb.nf, fun n s hn hsb => ?_, hb.hi⟩ (hJ _ _ _ (hbel.block m hb.lt) hj)
  · simp only [tget]
    split
    · rename_i h
      subst h
      rw [getD_put _ _ _ _ (by rw [k2.size]; exact l3), if_pos rfl]
      simp [ARel, Rho.slice]
    · trivial
  · simp only [sget] at hn
    split at hn
    · rename_i h
      subst h
      cases hn
      simp only [slotBlk, Rho.slice, if_true] at hsb
      exact absurd hb.lt (Nat.not_lt.2 (hown.lt m (ownBlk_some hsb)).1)
    · cases hn
end Go.Eng
set_option autoImplicit false
set_option linter.unusedVariables false
set_option linter.unusedSimpArgs false
namespace Go.Eng
open Go Go.RowKit Go.Sort Go.Proofs
variable {P : Program}
def SortC (P : Program) (f : FuncId) : Prop := (∀ (blk off cap : Nat) (zs : List Int) (w : World), Holds (Value.int .i64) w blk off zs.toArray → blk < w.heap.size → zs.length < 4611686018427387904 →
      Calls P f #[.slice (some ⟨blk, off, none⟩) zs.length cap] w fun e w' => e = .returned (.tuple #[]) ∧ ∃ n os, w' = grow (putRow (Value.int .i64) (Sort.ahead w n) blk off (zs.mergeSort fun x y => decide (x ≤ y)).toArray) os) ∧
    (∀ (p : Option Addr) (cap : Nat) (w : World), Calls P f #[.slice p 0 cap] w fun e w' => e = .returned (.tuple #[]) ∧ w' = w)
theorem l_sort {o : Oper} {st : AState} {x y : Operand} {ats : Array TypeId} {f : FuncId} {n : Name} {e : TypeId} {l : List Int} {d : Nat} (ho : o.op = .call { callee := .value x, args := #[y], argTypes := ats }) (hd : o.dst = some d) (hlt : d < st.n) (hent : Enters P f) (hc : SortC P f)
    (hx : ev st x = .fn f [] []) (hy : ev st y = .own n) (hs : sget st.s n = some (.own e 1 (numsL l))) (hl : l.length < 4611686018427387904) :
    Local P o st ⟨keyO x ++ keyO y ++ [.slot n], ⟨[(d, .tup [])], [(n, some (.own e 1 (numsL (sortI l))))]⟩, []⟩ := by
  intro st2 hn hr Γ ρ a w K Q hok hfree hk
  have hx2 : ev st2 x = .fn f [] [] := by rw [ev_agree hr (fun k h => List.mem_append_left _ (List.mem_append_left _ h)), hx]
  have hy2 : ev st2 y = .own n := by rw [ev_agree hr (fun k h => List.mem_append_left _ (List.mem_append_right _ h)), hy]
  have hs2 : sget st2.s n = some (.own e 1 (numsL l)) := by rw [sget_agree hr (by simp), hs]
  have hf := ev_rel hok x
  rw [hx2] at hf
  obtain ⟨af, ac, h1, h2, h3⟩ := hf
  have h2 : af.toList = [] := h2
  have h3 : ac.toList = [] := h3
  have eaf : af = #[] := by rw [← Array.toList_inj]; simpa using h2
  have eac : ac = #[] := by rw [← Array.toList_inj]; simpa using h3
  subst eaf; subst eac
  have hv := ev_rel hok y
  rw [hy2] at hv
  have hv : a.eval y = ρ.ov n := hv
  obtain ⟨vs, k1, k2⟩ := hok.sok.slots n _ hs2
  unfold Oper.wp
  have hrun : (execOp a.eval o).run P w = .ok (.enter f #[ρ.ov n]) w := by
    unfold execOp
    simp only [ho, resolve, h1, Deferred.ofValue, Sem.run_bind, Sem.run_pure, Result.andThen_ok, invoke]
    rw [hent]
    simp [hv]
  rw [hrun, Oper.upon_enter, hd]
  have hd2 : d < st2.n := by rw [hn]; exact hlt
  rcases own_num k1 (nums_elems.1 k2) with ⟨rfl, p, cap, hov⟩ | ⟨hne, g, cap, cur, hov, q1, q2, q3, q4, q5⟩
  · rw [hov]
    refine (hc.2 p cap w).mono ?_
    rintro ex w' ⟨rfl, rfl⟩
    have h0 : Ok Γ (st2.app ⟨[], [(n, some (.own e 1 (numsL (sortI []))))]⟩) ρ a w' := hok.ext rfl (fun t => rfl) (fun m => by
      simp only [AState.app, List.cons_append, List.nil_append, sget]
      split
      · rename_i hm; subst hm; rw [hs2]; simp [sortI]
      · rfl)
    exact hk _ _ _ (h0.setT (d := d) (av := .tup []) (v := .tuple #[]) hd2 ⟨#[], rfl, rfl⟩)
  · rw [hov]
    refine (hc.1 g 0 cap l w (holds_of_block_i q1 q5) (Array.getElem?_eq_some_iff.1 q1).1 hl).mono ?_
    rintro ex w' ⟨rfl, m, os, rfl⟩
    have hlen : 0 < l.length := List.length_pos_iff.2 hne
    have hcap : cap ≠ 0 := by omega
    have hrow := ownsRow_sorted_i (base := 0) (n := m) (os := os) (ss := l) (ts := sortI l) (sortI_len l) (Nat.zero_le g) q1 q2 q3 q4
    have h0 := hok.slot (ρ' := ρ) (w' := grow (putRow (Value.int .i64) (Sort.ahead w m) g 0 (l.mergeSort fun x y => decide (x ≤ y)).toArray) os) n (some (.own e 1 (numsL (sortI l)))) rfl (fun _ => rfl) (fun _ _ => ⟨rfl, rfl⟩) (.inl ⟨rfl, rfl⟩) (some g) (grownBy_sorted_i _)
      (fun b hb' => by
        cases hb'
        refine ⟨_, hs2, ?_⟩
        show ownBlk (ρ.ov n) = some g
        rw [hov]; simp [ownBlk, hcap])
      (fun s hs' => by
        cases hs'
        refine ⟨(sortI l).map (Value.int .i64), ?_, nums_elems.2 rfl⟩
        rw [numsL_len, hov, sortI_len]
        exact .inl hrow)
      (fun s b hs' hsb => by
        cases hs'
        right
        simp only [slotBlk, hov] at hsb
        simpa [ownBlk, hcap] using hsb)
    exact hk _ _ _ (h0.setT (d := d) (av := .tup []) (v := .tuple #[]) hd2 ⟨#[], rfl, rfl⟩)
theorem ar_sort {ops : Array Oper} {draw : Bool} {st0 : AState} {Q : Exit → AState → Prop} {i : Nat} {st : AState} {acc : List Eff} {o : Oper} {x y : Operand} {ats : Array TypeId} {f : FuncId} {n : Name} {e : TypeId} {l : List Int} {xs : List (List PV)} {d : Nat} (hent : Enters P f) (hc : SortC P f) (ho : ops[i]? = some o) (hg : o.guard = none) (hop : o.op = .call { callee := .value x, args := #[y], argTypes := ats }) (hd : o.dst = some d) (hlt : d < st.n)
    (hx : ev st x = .fn f [] []) (hy : ev st y = .own n) (hs : sget st.s n = some (.own e 1 xs)) (hxs : xs = numsL l) (hl : l.length < 4611686018427387904)
    (k : AR P ops draw st0 Q (i + 1, st.app ⟨[(d, .tup [])], [(n, some (.own e 1 (numsL (sortI l))))]⟩, if draw = true then acc ++ [⟨keyO x ++ keyO y ++ [.slot n], ⟨[(d, .tup [])], [(n, some (.own e 1 (numsL (sortI l))))]⟩, []⟩] else acc)) : AR P ops draw st0 Q (i, st, acc) := by
  subst hxs
  exact ar_loc (E := ⟨keyO x ++ keyO y ++ [.slot n], ⟨[(d, .tup [])], [(n, some (.own e 1 (numsL (sortI l))))]⟩, []⟩) (st1 := st) ho hg rfl (l_sort hop hd hlt hent hc hx hy hs hl) k
end Go.Eng
