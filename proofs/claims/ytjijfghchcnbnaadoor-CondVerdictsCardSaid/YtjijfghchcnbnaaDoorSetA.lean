import Derived.RangeFuncBox
import Derived.RangeFuncLeaves
import Derived.Shelf.Abstract
import Derived.WalkKit
import Derived.OwnWalkIn
import Derived.TacticsInMore
import Derived.LoopNIn
import Derived.LoopIn
import Derived.Maps.AppendAt
import Derived.KernelRfl
import Derived.Test.YtjijfghchcnbnaaDoorProg
import Derived.RangeFuncNested
set_option autoImplicit false
namespace Go.Proofs
open Go.RowKit Go.Shelf
attribute [local go_sem] Oper.semAt_some
/-- An outcome's two cells. -/
structure OV where
  a1 : Option Addr
  n1 : Nat
  c1 : Nat
  a2 : Option Addr
  n2 : Nat
  c2 : Nat
  deriving Inhabited
abbrev OV.v1 (x : OV) : Value := .slice x.a1 x.n1 x.c1
abbrev OV.v2 (x : OV) : Value := .slice x.a2 x.n2 x.c2
def vUptoK (f : Nat → OV) (k : Nat) : List OV := (List.range k).map f
theorem vUptoK_succ (f : Nat → OV) (k : Nat) : vUptoK f (k + 1) = vUptoK f k ++ [f k] := by simp [vUptoK, List.range_succ]
theorem vUptoK_length (f : Nat → OV) (k : Nat) : (vUptoK f k).length = k := by simp [vUptoK]
set_option maxRecDepth 100000 in
set_option maxHeartbeats 2000000 in
theorem Tryd.values1_in (F : Fence) (n : Nat) (h7 : F.fn 61) (hro : F.round = none) (hn : 1 ≤ n) (l Bs n₀ b off len cap : Nat) (f : Nat → OV) (hreach : len * 48 ≤ 140737488351232) (hb : b < n₀) (J Jx : List OV → World → Prop)
    (hY : ∀ pre x W, J pre W → pre.length < len → YieldAt F (n - 1) Tryd.prog l #[.agg #[x.v1, x.v2]] W fun e W' =>
      (e = .returned (.bool true) ∧ J (pre ++ [x]) W' ∧ Below n₀ W W') ∨ (e = .returned (.bool false) ∧ Jx (pre ++ [x]) W'))
    (hJA : ∀ pre W o, J pre W → J pre (W.alloc o))
    (W : World) (hBs : W.cell? ⟨Bs, 0, none⟩ = some (.slice (some ⟨b, off, none⟩) len cap)) (hc : ∀ j, j < len → W.cell? ⟨b, off + j * 2, none⟩ = some (f j).v1 ∧ W.cell? ⟨b, off + j * 2 + 1, none⟩ = some (f j).v2) (hnW : n₀ ≤ W.heap.size) (h0 : J [] W) :
    CallsIn F n Tryd.prog 61 #[.func (.yield l) #[] #[], .pointer (some ⟨Bs, 0, none⟩)] W fun e W' => (∃ v, e = .returned v) ∧
      ((∃ ys, ys = vUptoK f len ∧ J ys W') ∨ (∃ pre, Jx pre W')) := by
  refine callsIn_of_wp Tryd.func61 rfl h7 ?_ hro
  simp only [Tryd.ntmps61, List.size_toArray, List.length_cons, List.length_nil, Nat.reduceAdd, Nat.reduceSub, Array.replicate_succ, Array.replicate_zero, List.push_toArray, List.append_toArray, List.nil_append, List.cons_append]
  gi_wp2
  gi_loopw [7] (fun i wr => ∃ k : Nat, k ≤ len ∧ i = .int .i64 k ∧ J (vUptoK f k) wr ∧ Below n₀ W wr)
    (fun i _ => len - (intOf i).toNat)
  case atStart => exact ⟨0, Nat.zero_le _, rfl, h0, Below.refl _ _⟩
  case round =>
    obtain ⟨k, hk, rfl, hJs, hnx⟩ := hrel
    by_cases hlt : k < len
    · have hcx1 : wr.cell? ⟨b, off + k * 2, none⟩ = some (f k).v1 := (hnx.cell (p := ⟨b, off + k * 2, none⟩) hb).trans (hc k hlt).1
      have hcx2 : wr.cell? ⟨b, off + k * 2 + 1, none⟩ = some (f k).v2 := (hnx.cell (p := ⟨b, off + k * 2 + 1, none⟩) hb).trans (hc k hlt).2
      obtain ⟨fn, tmps, assign, body, hy, hR⟩ := hY _ (f k) (wr.alloc (.cells #[.slice (f k).a1 (f k).n1 (f k).c1, .slice (f k).a2 (f k).n2 (f k).c2] 30)) (hJA _ _ _ hJs) (by rw [vUptoK_length]; exact hlt)
      have hA : Below n₀ wr (wr.alloc (.cells #[.slice (f k).a1 (f k).n1 (f k).c1, .slice (f k).a2 (f k).n2 (f k).c2] 30)) := (Below.refl _ _).alloc (Nat.le_trans hnW hnx.size) _
      gi_wp2
      refine hR.mono ?_
      rintro e W3 (⟨rfl, hJ3, hk3⟩ | ⟨rfl, hJx3⟩)
      · gi_wp2
        go_roundw
        case rel => exact ⟨k + 1, by omega, by simp, by rw [vUptoK_succ]; exact hJ3, (hnx.trans hA).trans hk3⟩
        case measure => simp [intOf]; omega
      · gi_wp2
        refine bodyPost_ret (results_none rfl _ _ _) rfl ?_
        exact ⟨⟨_, rfl⟩, .inr ⟨_, hJx3⟩⟩
    · obtain rfl : k = len := by omega
      gi_wp2
      go_end0
      exact ⟨⟨_, rfl⟩, .inl ⟨_, rfl, hJs⟩⟩
/-- The slice value holds the outcomes, in a block below n₀; or there are none. -/
def vOV (n₀ : Nat) (W : World) (sv : Value) (zs : List OV) : Prop :=
  (zs = [] ∧ ∃ a cap, sv = .slice a 0 cap) ∨ ∃ b off cap, sv = .slice (some ⟨b, off, none⟩) zs.length cap ∧ b < n₀ ∧ ∀ j, j < zs.length → W.cell? ⟨b, off + j * 2, none⟩ = some (zs[j]?.getD default).v1 ∧ W.cell? ⟨b, off + j * 2 + 1, none⟩ = some (zs[j]?.getD default).v2
theorem vOV.below {n₀ : Nat} {A B : World} (h : Below n₀ A B) {sv : Value} {zs : List OV} : vOV n₀ A sv zs → vOV n₀ B sv zs
  | .inl e => .inl e
  | .inr ⟨b, off, cap, e, hb, hc⟩ => .inr ⟨b, off, cap, e, hb, fun j hj => ⟨(h.cell (p := ⟨b, off + j * 2, none⟩) hb).trans (hc j hj).1, (h.cell (p := ⟨b, off + j * 2 + 1, none⟩) hb).trans (hc j hj).2⟩⟩
theorem vUptoK_all (zs : List OV) : vUptoK (fun j => zs[j]?.getD default) zs.length = zs := by
  apply List.ext_getElem
  · simp [vUptoK]
  · intro i h1 h2
    simp [vUptoK, h2]
set_option maxRecDepth 100000 in
set_option maxHeartbeats 1000000 in
theorem Tryd.values1_nil_in (F : Fence) (n : Nat) (h7 : F.fn 61) (hro : F.round = none) (l Bs : Nat) (a : Option Addr) (cap : Nat) (J : List OV → World → Prop) (W : World) (hBs : W.cell? ⟨Bs, 0, none⟩ = some (.slice a 0 cap)) (h0 : J [] W) :
    CallsIn F n Tryd.prog 61 #[.func (.yield l) #[] #[], .pointer (some ⟨Bs, 0, none⟩)] W fun e W' => (∃ v, e = .returned v) ∧ J [] W' := by
  refine callsIn_of_wp Tryd.func61 rfl h7 ?_ hro
  simp only [Tryd.ntmps61, List.size_toArray, List.length_cons, List.length_nil, Nat.reduceAdd, Nat.reduceSub, Array.replicate_succ, Array.replicate_zero, List.push_toArray, List.append_toArray, List.nil_append, List.cons_append]
  gi_wp2
  gi_loopw [7] (fun i wr => i = .int .i64 0 ∧ J [] wr) (fun _ _ => 0)
  case atStart => exact ⟨rfl, h0⟩
  case round =>
    obtain ⟨rfl, hJs⟩ := hrel
    gi_wp2
    go_end0
    exact ⟨⟨_, rfl⟩, hJs⟩
theorem Tryd.values_stops (F : Fence) (n : Nat) (h7 : F.fn 61) (hro : F.round = none) (hn : 1 ≤ n) (Bs n₀ : Nat) (sv : Value) (zs : List OV) (hreach : zs.length * 48 ≤ 140737488351232) (w : World) (hBs : Bs < w.heap.size) (hn₀ : n₀ ≤ w.heap.size)
    (hc : w.cell? ⟨Bs, 0, none⟩ = some sv) (hI : vOV n₀ w sv zs) :
    SeqStopsK F n Tryd.prog 61 #[.pointer (some ⟨Bs, 0, none⟩)] (fun x : OV => #[.agg #[x.v1, x.v2]]) (Below n₀) (fun ys => ys = zs) (fun _ => True) zs.length w := fun l J Jx W hW hJ _ hY h0 => by
  have hc' := (hW.cell (p := ⟨Bs, 0, none⟩) hBs).trans hc
  rcases hI.below (hW.mono hn₀) with ⟨rfl, a, cap, rfl⟩ | ⟨b, off, cap, rfl, hb, hcs⟩
  · exact (Tryd.values1_nil_in F n h7 hro l Bs a cap J W hc' h0).mono fun e W' ⟨he, hj⟩ => ⟨he, .inl ⟨_, rfl, hj⟩⟩
  · refine (Tryd.values1_in F n h7 hro hn l Bs n₀ b off zs.length cap _ hreach hb J Jx hY (fun pre W o h => hJ pre W _ none h (World.grownBy_alloc W o none) (fun r e => by cases e)) W hc' hcs (Nat.le_trans hn₀ hW.size) h0).mono ?_
    rintro e W' ⟨he, ⟨ys, rfl, hj⟩ | ⟨pre, hj⟩⟩
    · exact ⟨he, .inl ⟨_, vUptoK_all zs, hj⟩⟩
    · exact ⟨he, .inr ⟨_, trivial, hj⟩⟩
set_option maxHeartbeats 1000000 in
theorem Tryd.values_in (F : Fence) (n : Nat) (h5 : F.fn 45) (hro : F.round = none) (a : Option Addr) (len cap : Nat) (w : World) :
    CallsIn F n Tryd.prog 45 #[.slice a len cap] w fun e w' => e = .returned (.func (.func 61) #[] #[.pointer (some ⟨w.heap.size, 0, none⟩)]) ∧ w' = w.alloc (.cells #[.slice a len cap] 42) := by
  refine callsIn_of_wp Tryd.func45 rfl h5 ?_ hro
  simp only [Tryd.ntmps45, List.size_toArray, List.length_cons, List.length_nil, Nat.reduceAdd, Nat.reduceSub, Array.replicate_succ, Array.replicate_zero, List.push_toArray, List.append_toArray, List.nil_append, List.cons_append]
  gi_wp2
  go_ret
  exact ⟨rfl, rfl⟩
end Go.Proofs
set_option autoImplicit false
namespace Go.Proofs
open Go.RowKit Go.Shelf
attribute [local go_sem] Oper.semAt_some
def OV.cells2 (x : OV) : List Value := [x.v1, x.v2]
theorem Tryd.vinfo30 : (Tryd.prog.info? 30).map (fun i => (i.zero, i.size, i.bytes)) = some (some (.agg #[.slice none 0 0, .slice none 0 0]), 2, 48) := by kernel_rfl
theorem cell_two_new (w : World) (x y : Value) (t : TypeId) : ∀ j u, [x, y][j]? = some u → (w.alloc (.cells #[x, y] t)).cell? ((⟨w.heap.size, 0, none⟩ : Addr).add j) = some u := by
  intro j u hj
  match j, hj with
  | 0, hj => simp at hj; subst hj; simp [Addr.add]
  | 1, hj =>
    simp at hj; subst hj
    have h := World.alloc_heap_new w (.cells #[x, y] t)
    show (w.alloc (.cells #[x, y] t)).cell? ⟨w.heap.size, 0 + 1, none⟩ = _
    unfold World.cell?
    simp only [h]; rfl
/-- The round's own box. -/
def roundAx (tmps : Nat → OV → Array Value) (x : OV) (a : Act) (W : World) : Prop := ∃ B, W.heap[B]? = some (.cells #[x.v1, x.v2] 30) ∧ a = { tmps := tmps B x, defers := [] }
theorem roundAx_own (B0 : Nat) (tmps : Nat → OV → Array Value) (x : OV) (a : Act) : OwnFrom B0 (fun (_ : Unit) W => roundAx tmps x a W) := by
  rintro s X Y row ⟨B, h2, h3⟩ hg hr
  exact ⟨B, (grownBy_keeps_cells hg (fun r e => (hr r e).2) h2 rfl).trans h2, h3⟩
set_option maxRecDepth 100000 in
set_option maxHeartbeats 4000000 in
/-- slices.AppendSeq(nil, slices.Values(s)): a new slice that owns s's values. -/
theorem Tryd.vappend_in (F : Fence) (n : Nat) (h67 : F.fn 67) (h61 : F.fn 61) (hro : F.round = none) (hn : 3 ≤ n) (Bs : Nat) (sv : Value) (zs : List OV) (hlen : zs.length ≤ maxLen) (hbytes : zs.length * 48 ≤ 140737488351232) (w : World) (hBs : Bs < w.heap.size) (hcs : w.cell? ⟨Bs, 0, none⟩ = some sv) (hI : vOV w.heap.size w sv zs) :
    CallsIn F n Tryd.prog 67 #[.slice none 0 0, .func (.func 61) #[] #[.pointer (some ⟨Bs, 0, none⟩)]] w fun e W' => ∃ v, e = .returned v ∧ W'.ownsRow w.heap.size 30 2 v zs.length (zs.flatMap OV.cells2) ∧ (v = .slice none 0 0 ↔ zs = []) ∧ Below w.heap.size w W' := by
  have h1 : 1 ≤ n := by omega
  obtain ⟨i0, hi, hz0, hz1, hz2⟩ := info_parts Tryd.vinfo30
  refine callsIn_of_wp_marks Tryd.func67 rfl h67 ?_ hro
  simp only [Tryd.ntmps67, List.size_toArray, List.length_cons, List.length_nil, Nat.reduceAdd, Nat.reduceSub, Array.replicate_succ, Array.replicate_zero, List.push_toArray, List.append_toArray, List.nil_append, List.cons_append]
  gi_wp2
  have bO := Boxed.new w 42 (.slice none 0 0)
  have hB0 : Below w.heap.size w (w.alloc (.cells #[.slice none 0 0] 42)) := (Below.refl _ w).alloc (Nat.le_refl _) _
  have hOwn : OwnFrom (w.alloc (.cells #[.slice none 0 0] 42)).heap.size (fun (pre : List OV) W => (∃ v, Boxed W w.heap.size 42 v ∧ W.ownsRow w.heap.size 30 2 v pre.length (pre.flatMap OV.cells2) ∧ (v = .slice none 0 0 ↔ pre = [])) ∧ Below w.heap.size w W) :=
    (OwnFrom.and (Own.from (holdsRow_own w.heap.size w.heap.size 42 30 2 (fun pre : List OV => pre.length) (fun pre => pre.flatMap OV.cells2) (fun pre v => v = .slice none 0 0 ↔ pre = [])) _) (ownFrom_below (Nat.le_refl _) (by simp)))
  refine wpIn_rangeFunc_ownH hro h1 (gf := 61) (lb := #[.pointer (some ⟨Bs, 0, none⟩)]) rfl h61 (enters_of Tryd.func61 (by kernel_rfl) rfl)
    (Tryd.values_stops F (n - 1) h61 hro (by omega) Bs w.heap.size sv zs hbytes w hBs (Nat.le_refl _) hcs hI) belowK_t (belowK_b (by simp)) hB0 (fun _ => rfl)
    (fun pre W => (∃ v, Boxed W w.heap.size 42 v ∧ W.ownsRow w.heap.size 30 2 v pre.length (pre.flatMap OV.cells2) ∧ (v = .slice none 0 0 ↔ pre = [])) ∧ Below w.heap.size w W)
    (fun _ _ _ => False)
    hOwn
    (fun _ _ _ _ _ hs _ _ => hs)
    ⟨⟨_, bO, World.ownsRow_nil _ _ _ _, by simp⟩, hB0⟩
    (roundAx (fun B x => #[.slice none 0 0, .func (.func 61) #[] #[.pointer (some ⟨Bs, 0, none⟩)], .pointer (some ⟨w.heap.size, 0, none⟩), undef, .slice none 0 0, .pointer (some ⟨B, 0, none⟩), .func (.func 61) #[] #[.pointer (some ⟨Bs, 0, none⟩)], .agg #[x.v1, x.v2], undef, undef, undef, undef, undef]))
    (fun x a' => roundAx_own _ _ x a') ?assign ?body ?done ?stop
  case assign =>
    intro l pre x W K hi hK
    gi_wp2
    exact hK _ _ ((KeepsOthers.alloc W _).from _) ((Below.refl _ W).alloc hi.2.size _) (hOwn.alloc _ hi) ⟨W.heap.size, World.alloc_heap_new W _, rfl⟩
  case body =>
    rintro l pre x a' W hl ⟨r, hr⟩ ⟨⟨v, hv, hrow, hnil⟩, hB⟩ ⟨B, hB2, rfl⟩ hlt
    have hc := hv.cell
    have hx1 : W.cell? ⟨B, 0, none⟩ = some x.v1 := by simp [World.cell?, hB2]
    have hx2 : W.cell? ⟨B, 1, none⟩ = some x.v2 := by simp [World.cell?, hB2]
    gi_wp2_with (gi_at_builtin; refine wpListIn_append_own _ rfl _ _ 42 rfl w.heap.size 30 i0 (.agg #[.slice none 0 0, .slice none 0 0]) 2 48 Tryd.underlying42 hi hz0 hz1 hz2 rfl (by decide) _ _ _ rfl (hrow.alloc _) ⟨W.heap.size, 0, none⟩ 1 1 [x.v1, x.v2] rfl rfl (cell_two_new _ _ _ _) (by simp [Value.oneCell']) (by omega) (by omega) (by have := hB.size; simp; omega) ?_; intro v' w1 hown' hgrow _; obtain ⟨g', cap', rfl⟩ := ownsRow_succ hown'; obtain ⟨hv1, hv2, hr2, hk2, hb2⟩ := hv.appended (by decide) hrow hB.size (Nat.le_refl _) hown' hgrow; have hc1 := hv1.cell; have hf1 := hv1.frozen)
    exact ⟨hk2.from _, hb2, ⟨_, hv2, by simpa [OV.cells2] using hr2, by simp⟩, hB.trans hb2⟩
  case done =>
    rintro D ys W hD rfl ⟨⟨v, hv, hrow, hnil⟩, hB⟩ hK
    have hc := hv.cell
    gi_wp2
    refine ⟨by simp, .inl ⟨_, _, rfl, run_takeDeferred hK, ?_⟩⟩
    exact ⟨_, results_tmp rfl _ _ _, v, rfl, ownsRow_putObj hrow _ hK rfl, hnil, hB.trans (belowK_b (w := w) (Nat.le_refl _) W D _ _ (by simp at hD; omega) hK rfl rfl)⟩
  case stop =>
    rintro D c pre W _ _ h _
    exact h.elim
end Go.Proofs
