import Derived.Test.YtamjcdfjkekdjaaEb0
set_option autoImplicit false
set_option linter.unusedVariables false
set_option linter.unusedSimpArgs false
namespace Go.Eng
open Go Go.RowKit
variable {P : Program}

def keyO : Operand → List Key
  | .tmp t => [.tmp t]
  | _ => []
def slotK : AV → List Key
  | .own n => [.slot n]
  | .ptr n _ => [.slot n]
  | .eptr n _ _ _ => [.slot n]
  | _ => []
def keysL (l : List Operand) : List Key := l.flatMap keyO
def slotsL (st : AState) (l : List Operand) : List Key := l.flatMap fun x => slotK (ev st x)

theorem ev_agree {st st2 : AState} {x : Operand} {r : List Key} (h : ∀ k ∈ r, st2.get k = st.get k) (hx : ∀ k ∈ keyO x, k ∈ r) : ev st2 x = ev st x := by
  cases x with
  | tmp t =>
    have := h (.tmp t) (hx _ (by simp [keyO]))
    simpa [AState.get, ev] using this
  | _ => rfl
theorem sget_agree {st st2 : AState} {n : Name} {r : List Key} (h : ∀ k ∈ r, st2.get k = st.get k) (hx : Key.slot n ∈ r) : sget st2.s n = sget st.s n := by
  have := h (.slot n) hx
  simpa [AState.get] using this

abbrev ef (r : List Key) (d : Nat) (a : AV) : Option Eff := some ⟨r, ⟨[(d, a)], []⟩, []⟩

def pickA (b : Bool) (x y : AV) : AV :=
  match x, y with
  | .pv (.v (.bool p)), .pv (.v (.bool q)) => .pv (.v (.bool (bif b then p else q)))
  | x, y => if b = true then x else y
theorem pickA_eq (b : Bool) (x y : AV) : pickA b x y = if b = true then x else y := by
  unfold pickA
  split
  · cases b <;> rfl
  · rfl
def sPick (d : Nat) (st : AState) (c x y : Operand) : Option Eff :=
  match ev st c with
  | .pv (.v (.bool b)) => ef (keyO c ++ keyO x ++ keyO y) d (pickA b (ev st x) (ev st y))
  | _ => none
def sNot (d : Nat) (st : AState) (x : Operand) : Option Eff :=
  match ev st x with
  | .pv (.v (.bool b)) => ef (keyO x) d (.pv (.v (.bool (!b))))
  | _ => none
def sBin (P : Program) (d : Nat) (st : AState) (op : BinOp) (t : TypeId) (x y : Operand) : Option Eff :=
  match ev st x, ev st y with
  | .pv (.v u), .pv (.v v) => match abin P op t u v with
    | some r => ef (keyO x ++ keyO y) d (.pv (.v r))
    | none => none
  | _, _ => none
def sConv (P : Program) (d : Nat) (st : AState) (t t' : TypeId) (x : Operand) : Option Eff :=
  match ev st x, intOf? P t, intOf? P t' with
  | .pv (.v (.int _ n)), some _, some k' => ef (keyO x) d (.pv (.v (.int k' (k'.wrap n))))
  | _, _, _ => none
def sExtract (d : Nat) (st : AState) (x : Operand) (i : Nat) : Option Eff :=
  match ev st x with
  | .tup l => match l[i]? with
    | some av => ef (keyO x) d av
    | none => none
  | _ => none
def sNil (d : Nat) (st : AState) (x : Operand) : Option Eff :=
  match moveP 0 (ev st x) with
  | some _ => ef (keyO x) d (ev st x)
  | none => none
def sFunc (d : Nat) (st : AState) (f : FuncId) (fi ca : Array Operand) : Option Eff :=
  ef (keysL (fi.toList ++ ca.toList)) d (.fn f (fi.toList.map (ev st)) (ca.toList.map (ev st)))
def sFAddr (P : Program) (d : Nat) (st : AState) (T : TypeId) (x : Operand) (i : Nat) : Option Eff :=
  match fldOf P T i with
  | some (off, ft) => match szOf P ft, moveP off (ev st x) with
    | some (_ + 1), some av => ef (keyO x) d av
    | _, _ => none
  | none => none
def sField (P : Program) (d : Nat) (st : AState) (T : TypeId) (x : Operand) (i : Nat) : Option Eff :=
  match fldOf P T i, ev st x with
  | some (off, ft), .agg cs => match szOf P ft, aggOf P ft with
    | some n, some true => ef (keyO x) d (.agg ((cs.drop off).take n))
    | some _, some false => match cs[off]? with
      | some p => ef (keyO x) d (.pv p)
      | none => none
    | _, _ => none
  | _, _ => none
def sIAddr (P : Program) (d : Nat) (st : AState) (T : TypeId) (x ix : Operand) : Option Eff :=
  match ev st ix with
  | .pv (.v (.int _ i)) =>
    if 0 ≤ i then
      match elemS P T with
      | some e => match szOf P e with
        | some sz => match ev st x with
          | .pv (.sl es xs) => if es = sz ∧ 0 < es then (match xs[i.toNat]? with | some c => ef (keyO x ++ keyO ix) d (.rptr c) | none => none) else none
          | .tight es xs => if es = sz ∧ 0 < es then (match xs[i.toNat]? with | some c => ef (keyO x ++ keyO ix) d (.rptr c) | none => none) else none
          | .own n => match sget st.s n with
            | some (.own _ es xs) => if es = sz then (if i.toNat < xs.length then ef (keyO x ++ keyO ix ++ [.slot n]) d (.eptr n es i.toNat 0) else none) else none
            | _ => none
          | _ => none
        | none => none
      | none => match arrOf P T with
        | some (n, e) => match szOf P e with
          | some sz => if i.toNat < n then (match moveP (i.toNat * sz) (ev st x) with | some av => ef (keyO x ++ keyO ix) d av | none => none) else none
          | none => none
        | none => none
    else none
  | _ => none
def sIndex (P : Program) (d : Nat) (st : AState) (T : TypeId) (x ix : Operand) : Option Eff :=
  match ev st ix, ev st x with
  | .pv (.v (.int _ i)), .pv (.v (.string s)) => if 0 ≤ i ∧ isStr P T = true then (match s[i.toNat]? with | some b => ef (keyO x ++ keyO ix) d (.pv (.v (.int .u8 b.toNat))) | none => none) else none
  | _, _ => none
def sLoad (P : Program) (d : Nat) (st : AState) (T : TypeId) (x : Operand) : Option Eff :=
  match aggOf P T, szOf P T with
  | some b, some n => match ev st x with
    | .rptr cs => match cutP b n cs with
      | some av => ef (keyO x) d av
      | none => none
    | .ptr m off => match sget st.s m with
      | some (.box _ cells) => match cutA b n off cells with
        | some av => ef (keyO x ++ [.slot m]) d av
        | none => none
      | _ => none
    | .eptr m es i j => match sget st.s m with
      | some (.own _ es' xs) => if es = es' then (match xs[i]? with
        | some c => (match cutP b n (c.drop j) with | some av => ef (keyO x ++ [.slot m]) d av | none => none)
        | none => none) else none
      | _ => none
    | _ => none
  | _, _ => none
def sAlloc (P : Program) (d : Nat) (st : AState) (T : TypeId) : Option Eff :=
  match zeroOf P T with
  | some z => if z.cells.toList.all (·.oneCell') = true then some ⟨[], ⟨[(d, .ptr (.loc d) 0)], [(.loc d, some (.box T (z.cells.toList.map fun u => .pv (.v u))))]⟩, [.loc d]⟩ else none
  | none => none
def sBox (d : Nat) (st : AState) (T : TypeId) (x : Operand) : Option Eff :=
  match cellsA st (ev st x) with
  | some cells => if AV.hasL (.loc d) cells = false then some ⟨keyO x ++ slotK (ev st x), ⟨[(d, .ptr (.loc d) 0)], [(.loc d, some (.box T cells))]⟩, [.loc d]⟩ else none
  | none => none
def sBuild (P : Program) (d : Nat) (st : AState) (T : TypeId) (parts : Array (Nat × Operand)) : Option Eff :=
  match zeroOf P T, partsP st parts.toList with
  | some z, some ps => if z.cells.toList.all (·.oneCell') = true then
      (match placesOf P T with
      | some pl => match fillP (fun i => pl[i]?) (z.cells.toList.map .v) ps with
        | some cells => ef (keysL (parts.toList.map (·.2))) d (.agg cells)
        | none => none
      | none => match arrOf P T with
        | some (n, e) => match szOf P e with
          | some sz => match fillP (fun i => some (i * sz, sz)) (z.cells.toList.map .v) ps with
            | some cells => ef (keysL (parts.toList.map (·.2))) d (.agg cells)
            | none => none
          | none => none
        | none => none)
    else none
  | _, _ => none
def sBuildS (P : Program) (d : Nat) (st : AState) (T n : Nat) (parts : Array (Nat × Operand)) : Option Eff :=
  match elemS P T with
  | some e => match elemT? P e, zeroOf P e, partsP st parts.toList with
    | some (size, _), some z, some ps => if z.cells.toList.all (·.oneCell') = true ∧ 0 < size ∧ n * size ≤ 2 ^ 24 then
        (match fillP (fun i => some (i * size, size)) (List.replicate n (z.cells.toList.map PV.v)).flatten ps with
        | some cells => some ⟨keysL (parts.toList.map (·.2)), ⟨[(d, .own (.loc d))], [(.loc d, some (.own e size (chunk size n cells)))]⟩, [.loc d]⟩
        | none => none)
      else none
    | _, _, _ => none
  | none => none
def sSlice (P : Program) (d : Nat) (st : AState) (T : TypeId) (x : Operand) (lo hi mx : Option Operand) : Option Eff :=
  match elemS P T, ev st x with
  | some e, .pv (.sl es xs) => match szOf P e, bnd st 0 lo, bnd st xs.length hi with
    | some sz, some l, some h => if sz = es ∧ l ≤ h ∧ h ≤ xs.length then
        (match mx with
        | none => ef (keyO x ++ keysL (lo.toList ++ hi.toList)) d (.pv (.sl es ((xs.take h).drop l)))
        | some y => if bnd st 0 (some y) = some h ∧ hi.isSome = true then ef (keyO x ++ keysL (lo.toList ++ hi.toList ++ [y])) d (.tight es ((xs.take h).drop l)) else none)
      else none
    | _, _, _ => none
  | _, _ => none
def esOf (P : Program) (T : TypeId) : Option Nat := (elemS P T).bind (szOf P)
def sLen (P : Program) (d : Nat) (st : AState) (T : TypeId) (x : Operand) : Option Eff :=
  match elemS P T with
  | some e => match szOf P e with
    | some es => match srcP st es (ev st x) with
      | some xs => ef (keyO x ++ slotK (ev st x)) d (.pv (.v (.int .i64 xs.length)))
      | none => none
    | none => none
  | none => match ev st x with
    | .pv (.v (.string s)) => if isStr P T = true then ef (keyO x) d (.pv (.v (.int .i64 s.size))) else none
    | _ => none
def sMM (mx : Bool) (d : Nat) (st : AState) (x y : Operand) : Option Eff :=
  match ev st x, ev st y with
  | .pv (.v (.int k m)), .pv (.v (.int _ n)) => ef (keyO x ++ keyO y) d (.pv (.v (.int k (mm mx m n))))
  | _, _ => none
def sBuiltin (P : Program) (d : Nat) (st : AState) (b : Builtin) (args : Array Operand) (ts : Array TypeId) : Option Eff :=
  match b, args.toList, ts.toList with
  | .len, [x], [T] => sLen P d st T x
  | .max, [x, y], _ => sMM true d st x y
  | .min, [x, y], _ => sMM false d st x y
  | _, _, _ => none
def stepD (P : Program) (op : Op) (d : Nat) (st : AState) : Option Eff :=
  match op with
  | .move x => ef (keyO x) d (ev st x)
  | .assign x => ef (keyO x) d (ev st x)
  | .pick c x y => sPick d st c x y
  | .unOp .not _ x => sNot d st x
  | .binOp op t x y _ => sBin P d st op t x y
  | .convert t t' x => sConv P d st t t' x
  | .extract x i => sExtract d st x i
  | .nilCheck x => sNil d st x
  | .makeFunc (.func f) fi ca => sFunc d st f fi ca
  | .fieldAddr T x i => sFAddr P d st T x i
  | .field T x i => sField P d st T x i
  | .indexAddr T x i => sIAddr P d st T x i
  | .index T x i => sIndex P d st T x i
  | .load T x => sLoad P d st T x
  | .alloc T => sAlloc P d st T
  | .box T x => sBox d st T x
  | .build T ps => sBuild P d st T ps
  | .buildSlice T n ps => sBuildS P d st T n ps
  | .slice T x lo hi mx => sSlice P d st T x lo hi mx
  | .call c => match c.callee with
    | .builtin b => sBuiltin P d st b c.args c.argTypes
    | _ => none
  | _ => none
def stepN (P : Program) (op : Op) (st : AState) : Option Eff :=
  match op with
  | .store T x y => match szOf P T with
    | some n => match ev st x with
      | .ptr m off => match sget st.s m, cellsA st (ev st y) with
        | some (.box T' cells), some vs => if vs.length = n then (match spliceA cells off vs with
          | some cells' => some ⟨keyO x ++ keyO y ++ slotK (ev st y) ++ [.slot m], ⟨[], [(m, some (.box T' cells'))]⟩, []⟩
          | none => none) else none
        | _, _ => none
      | .eptr m es i j => match sget st.s m, cellsP (ev st y) with
        | some (.own e es' xs), some vs => if es' = es ∧ vs.length = n then (match xs[i]? with
          | some c => (match spliceP c j vs with
            | some c' => some ⟨keyO x ++ keyO y ++ [.slot m], ⟨[], [(m, some (.own e es (xs.set i c')))]⟩, []⟩
            | none => none)
          | none => none) else none
        | _, _ => none
      | _ => none
    | none => none
  | _ => none
def step (P : Program) (o : Oper) (st : AState) : Option Eff :=
  match o.dst with
  | some d => if d < st.n then stepD P o.op d st else none
  | none => stepN P o.op st
end Go.Eng
