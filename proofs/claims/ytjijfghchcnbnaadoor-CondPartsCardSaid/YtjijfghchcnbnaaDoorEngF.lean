import Derived.Test.YtjijfghchcnbnaaDoorEngE
import Derived.Laws.BytesString
import Derived.Laws.BytesArg
set_option autoImplicit false
set_option linter.unusedVariables false
set_option linter.unusedSimpArgs false
namespace Go.Eng
open Go Go.RowKit
variable {P : Program}
/-! ## A text made of bytes -/
def u8L (ns : List Int) : List (List PV) := ns.map fun n => [C .u8 n]
def txtOf (ns : List Int) : ByteArray := ⟨(ns.map fun n => UInt8.ofNat n.toNat).toArray⟩
theorem u8_elems {F : Nat → Prop} {w : World} : ∀ {ns : List Int} {vs : List Value}, PElems F w 1 (u8L ns) vs → vs = ns.map fun n => Value.int .u8 n
  | [], vs, h => by simpa [u8L, PElems] using h
  | s :: l, vs, h => by
    obtain ⟨v1, v2, rfl, h1, ⟨u, us, rfl, h2, h3⟩, h4⟩ := h
    obtain ⟨rfl, _⟩ := h2
    simp only [PVs] at h3
    subst h3
    rw [u8_elems (ns := l) h4]; rfl
theorem fold_push : ∀ (ns : List Int) (b : ByteArray), ns.foldl (fun r n => r.push (UInt8.ofNat n.toNat)) b = ⟨b.data ++ (ns.map fun n => UInt8.ofNat n.toNat).toArray⟩
  | [], b => by simp
  | n :: ns, b => by
    rw [List.foldl_cons, fold_push ns]
    apply ByteArray.ext
    simp [ByteArray.push]
theorem run_txtOf {w : World} {ao : Option Addr} {cap t t' e : Nat} {ns : List Int} {vs : List Value} (hT : P.underlying t = some (.slice e)) (he : P.underlying e = some (.int .u8)) (hT' : P.underlying t' = some .string)
    (hv : vs = ns.map fun n => Value.int .u8 n) (h : vs = [] ∨ ∃ ad, ao = some ad ∧ ∀ j u, vs[j]? = some u → w.cell? (ad.add j) = some u) :
    (convert t t' (.slice ao ns.length cap)).run P w = .ok (.string (txtOf ns)) w := by
  rw [run_convert_bytes_string w t t' e _ _ _ hT he hT']
  have hempty : ns = [] → ByteArray.empty = txtOf ns := fun h => by subst h; rfl
  cases ao with
  | none =>
    have hn : ns = [] := by
      rcases h with h | ⟨ad, h, _⟩
      · rw [hv] at h; simpa using h
      · cases h
    rw [← hempty hn]
    simp [Conv.bytesToString]
  | some ad =>
    have hl : (loadCells ad ns.length).run P w = .ok (ns.map (Value.int .u8)).toArray w := by
      have := run_loadCells_list (P := P) w ad (ns.map (Value.int .u8)) (fun j v hj => by
        rcases h with h | ⟨ad', h1, h2⟩
        · rw [hv] at h
          have hn : ns = [] := by simpa using h
          subst hn
          simp at hj
        · cases h1
          exact h2 j v (by rw [hv]; exact hj))
      simpa using this
    rw [run_bytesToString w ad ns.length cap ns hl, fold_push]
    congr 2
    apply ByteArray.ext
    simp [txtOf, ByteArray.empty, ByteArray.emptyWithCapacity]
    rfl
theorem l_convB [Trk] {st : AState} {o : Oper} {d : Nat} {x : Operand} {t t' e : TypeId} {ns : List Int} (ho : o.op = .convert t t' x) (hd : o.dst = some d) (hlt : d < st.n) (hT : P.underlying t = some (.slice e)) (he : P.underlying e = some (.int .u8)) (hT' : P.underlying t' = some .string)
    (hx : srcP st 1 (ev st x) = some (u8L ns)) : Local P o st ⟨keyO x ++ slotK (ev st x), ⟨[(d, .pv (.v (.string (txtOf ns))))], []⟩, []⟩ := by
  intro st2 hn hr0
  have hr : ∀ k ∈ keyO x ++ slotK (ev st x), st2.get k = st.get k := hr0
  have hx2 : srcP st2 1 (ev st2 x) = some (u8L ns) := by rw [ev_agree hr (fun k hk => List.mem_append.2 (.inl hk)), srcP_agree hr (fun k hk => List.mem_append.2 (.inr hk))]; exact hx
  refine ok_value hd (by rw [hn]; exact hlt) fun Γ ρ a w h => ?_
  obtain ⟨ao, cap, vs, h1, _, _, h4, h5⟩ := srcP_rel h hx2 (ev_rel h x)
  refine ⟨_, ⟨rfl, rfl⟩, ?_⟩
  have hlen : (u8L ns).length = ns.length := by simp [u8L]
  rw [hlen] at h1
  have := run_txtOf (P := P) (cap := cap) hT he hT' (u8_elems h4) h5
  simp only [execOp, ho, h1]
  rw [Sem.run_bind, this]; rfl
theorem ar_convB [Trk] {ops : Array Oper} {draw : Bool} {st0 : AState} {Q : Exit → AState → Prop} {i d : Nat} {st : AState} {acc : List Eff} {o : Oper} {x : Operand} {t t' e : TypeId} (ns : List Int)
    (ho : ops[i]? = some o) (hg : o.guard = none) (hop : o.op = .convert t t' x) (hd : o.dst = some d) (hlt : d < st.n) (hT : P.underlying t = some (.slice e)) (he : P.underlying e = some (.int .u8)) (hT' : P.underlying t' = some .string)
    (hx : srcP st 1 (ev st x) = some (u8L ns))
    (k : AR P ops draw st0 Q (i + 1, st.app ⟨[(d, .pv (.v (.string (txtOf ns))))], []⟩, if draw = true then acc ++ [⟨keyO x ++ slotK (ev st x), ⟨[(d, .pv (.v (.string (txtOf ns))))], []⟩, []⟩] else acc)) : AR P ops draw st0 Q (i, st, acc) :=
  ar_loc (st1 := st) (E := ⟨keyO x ++ slotK (ev st x), ⟨[(d, .pv (.v (.string (txtOf ns))))], []⟩, []⟩) ho hg rfl (l_convB hop hd hlt hT he hT' hx) k
/-! ## The other sign -/
theorem l_neg [Trk] {st : AState} {o : Oper} {d : Nat} {x : Operand} {t : TypeId} {k : IntKind} {n : Int} (ho : o.op = .unOp .neg t x) (hd : o.dst = some d) (hlt : d < st.n) (hx : ev st x = .pv (.v (.int k n))) :
    Local P o st ⟨keyO x, ⟨[(d, .pv (.v (.int k (k.wrap (-n)))))], []⟩, []⟩ := by
  intro st2 hn hr0
  have hr : ∀ k ∈ keyO x, st2.get k = st.get k := hr0
  have hx2 : ev st2 x = .pv (.v (.int k n)) := by rw [ev_agree hr (fun k hk => hk)]; exact hx
  refine ok_value hd (by rw [hn]; exact hlt) fun Γ ρ a w h => ?_
  have h1 := ev_rel h x; rw [hx2] at h1
  exact ⟨_, ⟨rfl, rfl⟩, by simp [execOp, ho, pv_inv h1, Op.unary, Op.intArith, Result.andThen]⟩
theorem ar_neg [Trk] {ops : Array Oper} {draw : Bool} {st0 : AState} {Q : Exit → AState → Prop} {i d : Nat} {st : AState} {acc : List Eff} {o : Oper} {x : Operand} {t : TypeId} {k : IntKind} {n m : Int}
    (ho : ops[i]? = some o) (hg : o.guard = none) (hop : o.op = .unOp .neg t x) (hd : o.dst = some d) (hlt : d < st.n) (hx : ev st x = .pv (.v (.int k n))) (hm : k.wrap (-n) = m)
    (kk : AR P ops draw st0 Q (i + 1, st.app ⟨[(d, .pv (.v (.int k m)))], []⟩, if draw = true then acc ++ [⟨keyO x, ⟨[(d, .pv (.v (.int k m)))], []⟩, []⟩] else acc)) : AR P ops draw st0 Q (i, st, acc) := by
  subst hm
  exact ar_loc (st1 := st) (E := ⟨keyO x, ⟨[(d, .pv (.v (.int k (k.wrap (-n)))))], []⟩, []⟩) ho hg rfl (l_neg hop hd hlt hx) kk
theorem ar_neg_if [Trk] {ops : Array Oper} {draw : Bool} {st0 : AState} {Q : Exit → AState → Prop} {i j dj d : Nat} {b : Bool} {st : AState} {acc : List Eff} {o : Oper} {x : Operand} {t : TypeId} {k : IntKind} {n m : Int}
    (ho : ops[i]? = some o) (hg : o.guard = some (j, b)) (hj : (ops[j]?).bind (·.dst) = some dj) (hv : tget st.t dj = .pv (.v (.bool b))) (hop : o.op = .unOp .neg t x) (hd : o.dst = some d) (hlt : d < st.n) (hx : ev st x = .pv (.v (.int k n))) (hm : k.wrap (-n) = m)
    (kk : AR P ops draw st0 Q (i + 1, st.app ⟨[(d, .pv (.v (.int k m)))], []⟩, if draw = true then acc ++ [⟨.tmp dj :: keyO x, ⟨[(d, .pv (.v (.int k m)))], []⟩, []⟩] else acc)) : AR P ops draw st0 Q (i, st, acc) := by
  subst hm
  exact ar_loc_if (st1 := st) (E := ⟨keyO x, ⟨[(d, .pv (.v (.int k (k.wrap (-n)))))], []⟩, []⟩) ho hg hj hv rfl (l_neg hop hd hlt hx) kk
end Go.Eng
