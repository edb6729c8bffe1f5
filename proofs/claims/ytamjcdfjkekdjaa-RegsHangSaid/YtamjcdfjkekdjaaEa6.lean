import Derived.Test.YtamjcdfjkekdjaaEa5
set_option autoImplicit false
set_option linter.unusedVariables false
set_option linter.unusedSimpArgs false
namespace Go.Eng
open Go Go.RowKit
variable {P : Program} {o : Oper} {st : AState} {d : Nat}

/-! ### Small pure operations -/
theorem ok_not {x : Operand} {b : Bool} {t : TypeId} (ho : o.op = .unOp .not t x) (hd : o.dst = some d) (hlt : d < st.n) (hx : ev st x = .pv (.v (.bool b))) : OpOK P o st ⟨[(d, .pv (.v (.bool (!b))))], []⟩ [] :=
  ok_value hd hlt fun Γ ρ a w h => by
    have h1 := ev_rel h x; rw [hx] at h1
    exact ⟨_, ⟨rfl, rfl⟩, by simp [execOp, ho, pv_inv h1, Op.unary]⟩
theorem ok_bin {x y : Operand} {op : BinOp} {t t' : TypeId} {u v r : Value} (ho : o.op = .binOp op t x y t') (hd : o.dst = some d) (hlt : d < st.n) (hx : ev st x = .pv (.v u)) (hy : ev st y = .pv (.v v)) (hr : abin P op t u v = some r) :
    OpOK P o st ⟨[(d, .pv (.v r))], []⟩ [] :=
  ok_value hd hlt fun Γ ρ a w h => by
    have h1 := ev_rel h x; rw [hx] at h1
    have h2 := ev_rel h y; rw [hy] at h2
    obtain ⟨h3, h4⟩ := abin_run (x := x) (y := y) hr w
    refine ⟨r, ⟨rfl, h4⟩, ?_⟩
    simp only [execOp, ho, pv_inv h1, pv_inv h2]
    rw [Sem.run_bind, h3]; rfl
theorem ok_conv {x : Operand} {t t' : TypeId} {k k' : IntKind} {n : Int} (ho : o.op = .convert t t' x) (hd : o.dst = some d) (hlt : d < st.n) (hx : ev st x = .pv (.v (.int k n))) (hk : intOf? P t' = some k') (hs : (intOf? P t).isSome = true) :
    OpOK P o st ⟨[(d, .pv (.v (.int k' (k'.wrap n))))], []⟩ [] :=
  ok_value hd hlt fun Γ ρ a w h => by
    have h1 := ev_rel h x; rw [hx] at h1
    refine ⟨_, ⟨rfl, rfl⟩, ?_⟩
    unfold intOf? at hk hs
    split at hk
    · rename_i kk hu
      cases hk
      split at hs
      · rename_i k2 hu2
        simp [execOp, ho, pv_inv h1, convert, run_underlying hu, run_underlying hu2, Conv.intToInt]
      · cases hs
    · cases hk
theorem ok_extract {x : Operand} {i : Nat} {l : List AV} {av : AV} (ho : o.op = .extract x i) (hd : o.dst = some d) (hlt : d < st.n) (hx : ev st x = .tup l) (hi : l[i]? = some av) : OpOK P o st ⟨[(d, av)], []⟩ [] :=
  ok_value hd hlt fun Γ ρ a w h => by
    have h1 := ev_rel h x; rw [hx] at h1
    obtain ⟨arr, h2, h3⟩ := h1
    obtain ⟨v, h4, h5⟩ := h3.get hi
    have h4' : arr[i]? = some v := by simpa using h4
    exact ⟨v, h5, by simp [execOp, ho, h2, Instr.extract, h4']⟩
theorem ok_nilCheck {x : Operand} {av : AV} (ho : o.op = .nilCheck x) (hd : o.dst = some d) (hlt : d < st.n) (hx : moveP 0 (ev st x) = some av) : OpOK P o st ⟨[(d, ev st x)], []⟩ [] :=
  ok_value hd hlt fun Γ ρ a w h => by
    obtain ⟨ad, h1, _⟩ := moveP_rel hx (ev_rel h x)
    exact ⟨a.eval x, ev_rel h x, by simp [execOp, ho, h1]⟩
theorem ARels_map {Γ : Ctx} {ρ : Rho} {a : Act} {w : World} (h : Ok Γ st ρ a w) : ∀ l : List Operand, ARels ρ w (l.map (ev st)) (l.map a.eval)
  | [] => rfl
  | x :: l => ⟨_, _, rfl, ev_rel h x, ARels_map h l⟩
theorem ok_makeFunc {f : FuncId} {fi ca : Array Operand} (ho : o.op = .makeFunc (.func f) fi ca) (hd : o.dst = some d) (hlt : d < st.n) : OpOK P o st ⟨[(d, .fn f (fi.toList.map (ev st)) (ca.toList.map (ev st)))], []⟩ [] :=
  ok_value hd hlt fun Γ ρ a w h => ⟨.func (.func f) (fi.map a.eval) (ca.map a.eval), ⟨_, _, rfl, by simpa using ARels_map h fi.toList, by simpa using ARels_map h ca.toList⟩, by simp [execOp, ho, Instr.makeFunc]⟩

/-! ### Slices that are read -/
/-- A slice's elements, its size, and (for what appends read) where they lie. -/
def srcV (es : Nat) : AV → Option (List (List PV))
  | .pv (.sl es' xs) => if es' = es then some xs else none
  | .pv (.v (.slice none 0 0)) => some []
  | .tight es' xs => if es' = es then some xs else none
  | _ => none
def srcP (st : AState) (es : Nat) (a : AV) : Option (List (List PV)) :=
  match a with
  | .own n => match sget st.s n with | some (.own _ es' xs) => if es' = es then some xs else none | _ => none
  | a => srcV es a
theorem srcP_rel {Γ : Ctx} {ρ : Rho} {a : Act} {w : World} (h : Ok Γ st ρ a w) {es : Nat} {av : AV} {xs : List (List PV)} {v : Value} (hs : srcP st es av = some xs) (hv : ARel ρ w av v) :
    ∃ ao cap vs, v = .slice ao xs.length cap ∧ xs.length ≤ cap ∧ cap ≤ maxLen ∧ PElems ρ.F w es xs vs ∧ (vs = [] ∨ ∃ ad, ao = some ad ∧ ∀ j u, vs[j]? = some u → w.cell? (ad.add j) = some u) := by
  unfold srcP at hs
  split at hs
  · split at hs
    · rename_i n x e es' ys hn
      split at hs
      · rename_i he; subst he; cases hs
        have hsl := h.sok.slots n _ hn
        have hv' : v = ρ.ov n := hv
        obtain ⟨ao, cap, h1, h2, h3⟩ := own_shape hsl
        by_cases h0 : 0 < xs.length
        · obtain ⟨g, cap', cur, vs, k1, k2, k3, k4, k5, k6, k7⟩ := own_form hsl h0
          refine ⟨some ⟨g, 0, none⟩, cap', vs, by rw [hv', k1], k3, k4, k7, .inr ⟨_, rfl, fun j u hu => ?_⟩⟩
          rw [Addr.add_lit, cell_of_row w _ _ cur _ _ k2, ← Array.getElem?_toList]
          rw [← k6, List.getElem?_take] at hu
          split at hu
          · simpa using hu
          · cases hu
        · have hx : xs = [] := List.eq_nil_of_length_eq_zero (by omega)
          subst hx
          exact ⟨ao, cap, [], by rw [hv', h1], h2, h3, rfl, .inl rfl⟩
      · cases hs
    · cases hs
  · unfold srcV at hs
    split at hs
    · split at hs
      · rename_i he; subst he; cases hs
        obtain ⟨ao, cap, vs, h1, h2, h3, h4, h5⟩ := hv
        refine ⟨ao, cap, vs, h1, h2, h3, h4, h5.imp id ?_⟩
        rintro ⟨ad, rfl, _, h6⟩; exact ⟨ad, rfl, h6⟩
      · cases hs
    · cases hs
      have := pv_inv hv
      exact ⟨none, 0, [], this, Nat.le_refl _, by simp [maxLen], rfl, .inl rfl⟩
    · split at hs
      · rename_i he; subst he; cases hs
        obtain ⟨ao, vs, h1, h2, h4, h5⟩ := hv
        refine ⟨ao, xs.length, vs, h1, Nat.le_refl _, h2, h4, h5.imp id ?_⟩
        rintro ⟨ad, rfl, _, h6⟩; exact ⟨ad, rfl, h6⟩
      · cases hs
    · cases hs

theorem ok_len {x : Operand} {T es e : Nat} {xs : List (List PV)} (ho : o.op = .call { callee := .builtin .len, args := #[x], argTypes := #[T] }) (hd : o.dst = some d) (hlt : d < st.n) (hT : elemS P T = some e)
    (hx : srcP st es (ev st x) = some xs) : OpOK P o st ⟨[(d, .pv (.v (.int .i64 xs.length)))], []⟩ [] :=
  ok_value hd hlt fun Γ ρ a w h => by
    obtain ⟨ao, cap, vs, h1, _⟩ := srcP_rel h hx (ev_rel h x)
    refine ⟨_, ⟨rfl, rfl⟩, ?_⟩
    simp [execOp, ho, resolve, invoke, builtin, Builtin.len_, run_underlying (und_slice hT), h1, goInt]
theorem ok_len_str {x : Operand} {T : Nat} {s : ByteArray} (ho : o.op = .call { callee := .builtin .len, args := #[x], argTypes := #[T] }) (hd : o.dst = some d) (hlt : d < st.n) (hT : isStr P T = true)
    (hx : ev st x = .pv (.v (.string s))) : OpOK P o st ⟨[(d, .pv (.v (.int .i64 s.size)))], []⟩ [] :=
  ok_value hd hlt fun Γ ρ a w h => by
    have h1 := ev_rel h x; rw [hx] at h1
    refine ⟨_, ⟨rfl, rfl⟩, ?_⟩
    unfold isStr at hT
    split at hT
    · rename_i hu
      simp [execOp, ho, resolve, invoke, builtin, Builtin.len_, run_underlying hu, pv_inv h1, goInt]
    · cases hT
/-- A byte of a string. -/
theorem ok_index_str {x ix : Operand} {T : Nat} {s : ByteArray} {k : IntKind} {i : Int} {b : UInt8} (ho : o.op = .index T x ix) (hd : o.dst = some d) (hlt : d < st.n) (hT : isStr P T = true)
    (hx : ev st x = .pv (.v (.string s))) (hi : ev st ix = .pv (.v (.int k i))) (h0 : 0 ≤ i) (hb : s[i.toNat]? = some b) : OpOK P o st ⟨[(d, .pv (.v (.int .u8 b.toNat)))], []⟩ [] :=
  ok_value hd hlt fun Γ ρ a w h => by
    have h1 := ev_rel h x; rw [hx] at h1
    have h2 := ev_rel h ix; rw [hi] at h2
    refine ⟨_, ⟨rfl, rfl⟩, ?_⟩
    unfold isStr at hT
    split at hT
    · rename_i hu
      simp [execOp, ho, Instr.index, asIntOf, run_underlying hu, pv_inv h1, pv_inv h2, h0, hb]
    · cases hT

def mm (mx : Bool) (x y : Int) : Int := if mx then (if x < y then y else x) else (if y < x then y else x)
theorem ok_max2 {x y : Operand} {k k' : IntKind} {T : Array TypeId} {m n : Int} (ho : o.op = .call { callee := .builtin .max, args := #[x, y], argTypes := T }) (hd : o.dst = some d) (hlt : d < st.n)
    (hx : ev st x = .pv (.v (.int k m))) (hy : ev st y = .pv (.v (.int k' n))) : OpOK P o st ⟨[(d, .pv (.v (.int k (mm true m n))))], []⟩ [] :=
  ok_value hd hlt fun Γ ρ a w h => by
    have h1 := ev_rel h x; rw [hx] at h1
    have h2 := ev_rel h y; rw [hy] at h2
    refine ⟨_, ⟨rfl, rfl⟩, ?_⟩
    simp [execOp, ho, resolve, invoke, builtin, Builtin.max_, Builtin.max2, pv_inv h1, pv_inv h2, mm]
theorem ok_min2 {x y : Operand} {k k' : IntKind} {T : Array TypeId} {m n : Int} (ho : o.op = .call { callee := .builtin .min, args := #[x, y], argTypes := T }) (hd : o.dst = some d) (hlt : d < st.n)
    (hx : ev st x = .pv (.v (.int k m))) (hy : ev st y = .pv (.v (.int k' n))) : OpOK P o st ⟨[(d, .pv (.v (.int k (mm false m n))))], []⟩ [] :=
  ok_value hd hlt fun Γ ρ a w h => by
    have h1 := ev_rel h x; rw [hx] at h1
    have h2 := ev_rel h y; rw [hy] at h2
    refine ⟨_, ⟨rfl, rfl⟩, ?_⟩
    simp [execOp, ho, resolve, invoke, builtin, Builtin.min_, Builtin.min2, pv_inv h1, pv_inv h2, mm]

/-! ### A piece of a slice -/
def bnd (st : AState) (dflt : Nat) : Option Operand → Option Nat
  | none => some dflt
  | some x => match ev st x with | .pv (.v (.int _ i)) => if 0 ≤ i then some i.toNat else none | _ => none
theorem run_sliceBound {k : IntKind} {i : Int} {y : Nat} {c : BoundsCode} (h0 : 0 ≤ i) (h1 : i.toNat ≤ y) (w : World) : (Instr.sliceBound (.int k i) y c).run P w = .ok i.toNat w := by
  have h2 : i ≤ (y : Int) := by omega
  simp [Instr.sliceBound, asIntOf, h0, h2]
theorem bnd_some {Γ : Ctx} {ρ : Rho} {a : Act} {w : World} (h : Ok Γ st ρ a w) {df l : Nat} {x : Option Operand} (hb : bnd st df x = some l) : (x = none ∧ l = df) ∨ ∃ y k i, x = some y ∧ a.eval y = .int k i ∧ 0 ≤ i ∧ l = i.toNat := by
  cases x with
  | none => simp [bnd] at hb; exact .inl ⟨rfl, hb.symm⟩
  | some y =>
    simp only [bnd] at hb
    split at hb
    · rename_i k i hy
      split at hb
      · cases hb
        have h1 := ev_rel h y; rw [hy] at h1
        exact .inr ⟨y, k, i, rfl, pv_inv h1, ‹_›, rfl⟩
      · cases hb
    · cases hb
/-- x[lo:hi] of a slice that is read, hi no more than its length. -/
theorem ok_slice2 {x : Operand} {lo hi : Option Operand} {T e es l h' : Nat} {xs : List (List PV)} (ho : o.op = .slice T x lo hi none) (hd : o.dst = some d) (hlt : d < st.n) (hT : elemS P T = some e) (hs : szOf P e = some es)
    (hx : ev st x = .pv (.sl es xs)) (hl : bnd st 0 lo = some l) (hh : bnd st xs.length hi = some h') (h1 : l ≤ h') (h2 : h' ≤ xs.length) :
    OpOK P o st ⟨[(d, .pv (.sl es ((xs.take h').drop l)))], []⟩ [] :=
  ok_value hd hlt fun Γ ρ a w hok => by
    have k1 := ev_rel hok x; rw [hx] at k1
    obtain ⟨ao, cap, vs, k2, k3, k4, k5, k6⟩ := k1
    have hrun : (Instr.sliceBounds true xs.length cap (lo.map a.eval) (hi.map a.eval) none).run P w = .ok (l, h', cap) w := by
      rcases bnd_some hok hl with ⟨rfl, rfl⟩ | ⟨y, k, i, rfl, q1, q2, rfl⟩ <;> rcases bnd_some hok hh with ⟨rfl, rfl⟩ | ⟨y', k', i', rfl, r1, r2, rfl⟩
      · simp [Instr.sliceBounds]
      · simp [Instr.sliceBounds, r1, run_sliceBound (P := P) (k := k') (c := .sliceAcap) r2 (show i'.toNat ≤ cap by omega)]
      · simp [Instr.sliceBounds, q1, run_sliceBound (P := P) (k := k) (c := .sliceB) q2 h1]
      · simp [Instr.sliceBounds, q1, r1, run_sliceBound (P := P) (k := k') (c := .sliceAcap) r2 (show i'.toNat ≤ cap by omega), run_sliceBound (P := P) (k := k) (c := .sliceB) q2 h1]
    have hrel := (k5.split h').1.split l |>.2
    have hlen : ((xs.take h').drop l).length = h' - l := by simp; omega
    refine ⟨.slice (if cap = l then ao else ao.map (·.add (l * es))) (h' - l) (cap - l), ⟨_, cap - l, _, by rw [hlen], by rw [hlen]; omega, by omega, hrel, ?_⟩, ?_⟩
    · by_cases he : (vs.take (h' * es)).drop (l * es) = []
      · exact .inl he
      · right
        rcases k6 with rfl | ⟨ad, rfl, hF, hc⟩
        · simp at he
        · by_cases hcl : cap = l
          · exfalso
            apply he
            have := k5.length
            apply List.drop_eq_nil_of_le
            rw [List.length_take, this]
            have : h' * es ≤ l * es := Nat.mul_le_mul_right _ (by omega)
            omega
          · rw [if_neg hcl]
            refine ⟨_, rfl, by rw [add_block]; exact hF, fun j u hu => ?_⟩
            rw [add_add]
            rw [List.getElem?_drop, List.getElem?_take] at hu
            split at hu
            · exact hc _ u hu
            · cases hu
    · simp [execOp, ho, Instr.sliceAt, Instr.slice, run_underlying (und_slice hT), k2, hrun, run_size hs]
/-- x[lo:hi:mx], hi and mx alike, and no more than its length. -/
theorem ok_slice3 {x y : Operand} {lo hi : Option Operand} {T e es l h' m' : Nat} {xs : List (List PV)} (ho : o.op = .slice T x lo hi (some y)) (hd : o.dst = some d) (hlt : d < st.n) (hT : elemS P T = some e) (hs : szOf P e = some es)
    (hx : ev st x = .pv (.sl es xs)) (hl : bnd st 0 lo = some l) (hh : bnd st xs.length hi = some h') (hm : bnd st 0 (some y) = some m') (he : h' = m') (h1 : l ≤ h') (h2 : h' ≤ xs.length) (h3 : hi.isSome = true) :
    OpOK P o st ⟨[(d, .tight es ((xs.take h').drop l))], []⟩ [] :=
  ok_value hd hlt fun Γ ρ a w hok => by
    subst he
    have k1 := ev_rel hok x; rw [hx] at k1
    obtain ⟨ao, cap, vs, k2, k3, k4, k5, k6⟩ := k1
    have hrun : (Instr.sliceBounds true xs.length cap (lo.map a.eval) (hi.map a.eval) (some (a.eval y))).run P w = .ok (l, h', h') w := by
      rcases bnd_some hok hm with ⟨hh', _⟩ | ⟨y2, k2, i2, hy2, p1, p2, rfl⟩
      · cases hh'
      cases hy2
      rcases bnd_some hok hh with ⟨rfl, _⟩ | ⟨y', k', i', rfl, r1, r2, r3⟩
      · cases h3
      rcases bnd_some hok hl with ⟨rfl, rfl⟩ | ⟨y, k, i, rfl, q1, q2, rfl⟩
      · simp [Instr.sliceBounds, p1, r1, run_sliceBound (P := P) (k := k2) (c := .slice3Acap) p2 (show i2.toNat ≤ cap by omega), run_sliceBound (P := P) (k := k') (y := i'.toNat) (c := .slice3B) r2 (Nat.le_refl _), r3]
      · simp [Instr.sliceBounds, p1, q1, r1, run_sliceBound (P := P) (k := k2) (c := .slice3Acap) p2 (show i2.toNat ≤ cap by omega), run_sliceBound (P := P) (k := k') (y := i'.toNat) (c := .slice3B) r2 (Nat.le_refl _), r3, run_sliceBound (P := P) (k := k) (c := .slice3C) (y := i'.toNat) q2 (by omega)]
    have hrel := (k5.split h').1.split l |>.2
    have hlen : ((xs.take h').drop l).length = h' - l := by simp; omega
    refine ⟨.slice (if h' = l then ao else ao.map (·.add (l * es))) (h' - l) (h' - l), ⟨_, _, by rw [hlen], by rw [hlen]; omega, hrel, ?_⟩, ?_⟩
    · by_cases he : (vs.take (h' * es)).drop (l * es) = []
      · exact .inl he
      · right
        rcases k6 with rfl | ⟨ad, rfl, hF, hc⟩
        · simp at he
        · by_cases hcl : h' = l
          · exfalso
            apply he
            apply List.drop_eq_nil_of_le
            rw [List.length_take, hcl]
            omega
          · rw [if_neg hcl]
            refine ⟨_, rfl, by rw [add_block]; exact hF, fun j u hu => ?_⟩
            rw [add_add]
            rw [List.getElem?_drop, List.getElem?_take] at hu
            split at hu
            · exact hc _ u hu
            · cases hu
    · simp [execOp, ho, Instr.sliceAt, Instr.slice, run_underlying (und_slice hT), k2, hrun, run_size hs]

end Go.Eng
