import Derived.Test.YtamjcdfjkekdjaaEb8
set_option autoImplicit false
set_option linter.unusedVariables false
set_option linter.unusedSimpArgs false
namespace Go.Eng
open Go Go.RowKit
variable {P : Program}

/-! ## Regions, ahead of what follows -/
def AS (P : Program) (ops : Array Oper) (draw : Bool) (r r' : Nat × AState × List Eff) : Prop :=
  ∀ (st0 : AState) (Q : Exit → AState → Prop), AR P ops draw st0 Q r' → AR P ops draw st0 Q r
theorem AS.trans {ops : Array Oper} {draw : Bool} {r r' r'' : Nat × AState × List Eff} (h : AS P ops draw r r') (k : AS P ops draw r' r'') : AS P ops draw r r'' := fun st0 Q x => h st0 Q (k st0 Q x)
theorem as_runs {ops : Array Oper} {draw : Bool} {i : Nat} {st : AState} {acc : List Eff} {r : Nat × AState × List Eff} (l : List Oper) (hl : ops.toList.drop i = l) (h : runs P ops draw l i st acc = r) : AS P ops draw (i, st, acc) r :=
  fun st0 Q hr => ar_runs l i st acc hl (by rw [h]; exact hr)
theorem as_local {ops : Array Oper} {draw : Bool} {i : Nat} {st st' : AState} {acc acc' : List Eff} {E : Eff} {o : Oper} (ho : ops[i]? = some o) (hg : o.guard = none) (hl : Local P o (st.killAll E.c) E) (hst : (st.killAll E.c).app E.u = st') (hacc : (if draw = true then acc ++ [E] else acc) = acc') :
    AS P ops draw (i, st, acc) (i + 1, st', acc') := by
  intro st0 Q h
  subst hst; subst hacc
  exact ar_at (Array.getElem?_eq_some_iff.1 ho).1 (LocalAt.plain ho hg hl) (fun hd => by rw [if_pos hd]) h
theorem as_local_if {ops : Array Oper} {draw : Bool} {i j d : Nat} {b : Bool} {st st' : AState} {acc acc' : List Eff} {E : Eff} {o : Oper} (ho : ops[i]? = some o) (hg : o.guard = some (j, b)) (hj : (ops[j]?).bind (·.dst) = some d) (hv : tget st.t d = .pv (.v (.bool b)))
    (hl : Local P o (st.killAll E.c) E) (hst : (st.killAll E.c).app E.u = st') (hacc : (if draw = true then acc ++ [{ E with r := .tmp d :: E.r }] else acc) = acc') :
    AS P ops draw (i, st, acc) (i + 1, st', acc') := by
  intro st0 Q h
  subst hst; subst hacc
  exact ar_at (E := { E with r := .tmp d :: E.r }) (Array.getElem?_eq_some_iff.1 ho).1 (LocalAt.guarded ho hg hj (tget_killAll_pv _ hv) hl) (fun hd => by rw [if_pos hd]) h
theorem aw_reg {id : Nat} {ops : Array Oper} {y : Code} {Q : Exit → AState → Prop} {st st' : AState} {acc : List Eff} (hr : AS P ops false (0, st, []) (ops.size, st', acc)) (h : AW P y Q st') : AW P (.seq (.region id ops false) y) Q st :=
  aw_seq (aw_region (hr _ _ (ar_done rfl (fun h => by cases h) h)))
theorem aw_regD {id : Nat} {ops : Array Oper} {y : Code} {Q : Exit → AState → Prop} {st st' : AState} {acc : List Eff} (hm : P.follows .mixedOrders = true) (hr : AS P ops true (0, st, []) (ops.size, st', acc)) (hc : checkTr ops st acc = true) (h : AW P y Q st') : AW P (.seq (.region id ops true) y) Q st :=
  aw_seq (aw_region_draw hm (hr _ _ (ar_done rfl (fun _ => hc) h)))
theorem aw_reg1 {id : Nat} {ops : Array Oper} {Q : Exit → AState → Prop} {st st' : AState} {acc : List Eff} (hr : AS P ops false (0, st, []) (ops.size, st', acc)) (h : Q .normal st') : AW P (.region id ops false) Q st :=
  aw_region (hr _ _ (ar_done rfl (fun h => by cases h) h))
theorem aw_reg1D {id : Nat} {ops : Array Oper} {Q : Exit → AState → Prop} {st st' : AState} {acc : List Eff} (hm : P.follows .mixedOrders = true) (hr : AS P ops true (0, st, []) (ops.size, st', acc)) (hc : checkTr ops st acc = true) (h : Q .normal st') : AW P (.region id ops true) Q st :=
  aw_region_draw hm (hr _ _ (ar_done rfl (fun _ => hc) h))
theorem aw_seq_cond {c : Operand} {x y z : Code} {b : Bool} {Q : Exit → AState → Prop} {st : AState} (hc : ev st c = .pv (.v (.bool b))) (ht : b = true → AW P x (thenQ P z Q) st) (hf : b = false → AW P y (thenQ P z Q) st) : AW P (.seq (.cond c x y) z) Q st :=
  aw_seq (aw_cond hc ht hf)
/-- The condition is known. -/
theorem aw_if {c : Operand} {x y : Code} {b : Bool} {Q : Exit → AState → Prop} {st : AState} (hc : ev st c = .pv (.v (.bool b))) (h : AW P (bif b then x else y) Q st) : AW P (.cond c x y) Q st :=
  aw_cond hc (fun hb => by subst hb; exact h) (fun hb => by subst hb; exact h)

/-! ## The function rule, its parts told -/
def retL (P : Program) (rs : List ResultVar) (res : AV) (Y : SMap) : Exit → AState → Prop
  | .normal, st | .ret, st => ∃ st' r, Sub st st' ∧ resA P st' rs = some r ∧ resV r = res ∧ ∀ p ∈ Y, p.2 = sget st'.s p.1
  | _, _ => False
theorem retL_Q {fn : Func} {res : AV} {Y : SMap} {rs : List ResultVar} (h : fn.results.toList = rs) : retL P rs res Y = retQ P fn res Y := by
  subst h; funext e st; cases e <;> rfl
theorem scx_of {f : FuncId} {fn : Func} {c : Code} {args : List AV} {X Y : SMap} {res : AV} {n : Nat} {rs : List ResultVar} (hf : P.funcs[f]? = some fn) (hb : fn.body = some c) (hm : fn.ntmps = n) (hrs : fn.results.toList = rs) (hn : args.length ≤ n)
    (h : AW P c (retL P rs res Y) ⟨n, enumT 0 args, X⟩) : SCX P f args X res Y := by
  subst hm
  rw [retL_Q hrs] at h
  exact scx_fn hf hb hn h
theorem ret_of {rs : List ResultVar} {res : AV} {Y : SMap} {st : AState} {r : List AV} (h1 : resA P st rs = some r) (h2 : resV r = res) (h3 : ∀ p ∈ Y, p.2 = sget st.s p.1) : retL P rs res Y .ret st :=
  ⟨st, r, Sub.refl st, h1, h2, h3⟩
/-- The value is what the temporary holds. -/
theorem ret_one {t : Nat} {res : AV} {st : AState} (h : tget st.t t = res) : retL P [.tmp t] res [] .ret st :=
  ret_of (r := [res]) (by simp only [resA]; rw [h]) rfl (by simp)
/-- Values, out of temporaries or variables. -/
theorem ret_vals {rs : List ResultVar} {res : AV} {st : AState} {r : List AV} (h1 : resA P st rs = some r) (h2 : resV r = res) : retL P rs res [] .ret st :=
  ret_of h1 h2 (by simp)

/-- A call of a function that makes a value of values. -/
theorem callOk_nil : CallOk [] [] [] [] := ⟨List.nodup_nil, List.nodup_nil, rfl, by simp, by simp⟩
theorem l_callV {o : Oper} {st : AState} {x : Operand} {args : Array Operand} {ats : Array TypeId} {f : FuncId} {fi ca : List AV} {cargs : List AV} {res : AV}
    (ho : o.op = .call { callee := .value x, args, argTypes := ats }) (hx : ev st x = .fn f fi ca) (hargs : AV.renL [] cargs = fi ++ (args.toList.map (ev st) ++ ca)) (hent : Enters P f) (hsc : SC P f cargs res)
    (hres : res.okN [] [] [] = true) (hd : ∀ d, o.dst = some d → d < st.n) :
    Local P o st ⟨keyO x ++ keysL args.toList, ⟨dstU o.dst (res.ren []), []⟩, []⟩ := by
  have := l_call (P := P) (r := []) (r2 := []) (C := []) (X := []) (Y := []) ho hx hargs hent hsc (by intro p hp; cases hp) callOk_nil (by simp) hres hd
  simpa [renS, noneS] using this
theorem as_callV {ops : Array Oper} {draw : Bool} {i : Nat} {st : AState} {acc : List Eff} {o : Oper} {x : Operand} {args : Array Operand} {ats : Array TypeId} {f : FuncId} {fi ca : List AV} {cargs : List AV} {res : AV} {d : Nat}
    (hent : Enters P f) (hsc : SC P f cargs res) (ho : ops[i]? = some o) (hg : o.guard = none) (hop : o.op = .call { callee := .value x, args, argTypes := ats }) (hd : o.dst = some d) (hx : ev st x = .fn f fi ca) (hlt : d < st.n)
    (hargs : fi ++ (args.toList.map (ev st) ++ ca) = cargs) (hp : AV.renL [] cargs = cargs ∧ res.okN [] [] [] = true ∧ res.ren [] = res) :
    AS P ops draw (i, st, acc) (i + 1, { st with t := (d, res) :: st.t }, if draw = true then acc ++ [⟨keyO x ++ keysL args.toList, ⟨[(d, res)], []⟩, []⟩] else acc) := by
  have h := l_callV (st := st) hop hx (cargs := cargs) (by rw [hp.1, hargs]) hent hsc hp.2.1 (fun d' h' => by rw [hd] at h'; cases h'; exact hlt)
  rw [hp.2.2, hd] at h
  exact as_local ho hg (E := ⟨keyO x ++ keysL args.toList, ⟨[(d, res)], []⟩, []⟩) h rfl rfl
theorem as_callV_if {ops : Array Oper} {draw : Bool} {i j dj : Nat} {b : Bool} {st : AState} {acc : List Eff} {o : Oper} {x : Operand} {args : Array Operand} {ats : Array TypeId} {f : FuncId} {fi ca : List AV} {cargs : List AV} {res : AV} {d : Nat}
    (hent : Enters P f) (hsc : SC P f cargs res) (ho : ops[i]? = some o) (hg : o.guard = some (j, b)) (hj : (ops[j]?).bind (·.dst) = some dj) (hop : o.op = .call { callee := .value x, args, argTypes := ats }) (hd : o.dst = some d) (hx : ev st x = .fn f fi ca) (hlt : d < st.n)
    (hv : tget st.t dj = .pv (.v (.bool b))) (hargs : fi ++ (args.toList.map (ev st) ++ ca) = cargs) (hp : AV.renL [] cargs = cargs ∧ res.okN [] [] [] = true ∧ res.ren [] = res) :
    AS P ops draw (i, st, acc) (i + 1, { st with t := (d, res) :: st.t }, if draw = true then acc ++ [⟨.tmp dj :: (keyO x ++ keysL args.toList), ⟨[(d, res)], []⟩, []⟩] else acc) := by
  have h := l_callV (st := st) hop hx (cargs := cargs) (by rw [hp.1, hargs]) hent hsc hp.2.1 (fun d' h' => by rw [hd] at h'; cases h'; exact hlt)
  rw [hp.2.2, hd] at h
  exact as_local_if ho hg hj hv (E := ⟨keyO x ++ keysL args.toList, ⟨[(d, res)], []⟩, []⟩) h rfl rfl
/-! ### One after the other, the goal in sight -/
theorem ar_go {ops : Array Oper} {draw : Bool} {st0 : AState} {Q : Exit → AState → Prop} {i j : Nat} {st st' : AState} {acc acc' : List Eff} (l : List Oper) (hl : ops.toList.drop i = l) (h : runs P ops draw l i st acc = (j, st', acc')) (k : AR P ops draw st0 Q (j, st', acc')) : AR P ops draw st0 Q (i, st, acc) :=
  as_runs l hl h st0 Q k
theorem ar_callV {ops : Array Oper} {draw : Bool} {st0 : AState} {Q : Exit → AState → Prop} {i : Nat} {st : AState} {acc : List Eff} {o : Oper} {x : Operand} {args : Array Operand} {ats : Array TypeId} {f : FuncId} {fi ca : List AV} {cargs : List AV} {res : AV} {d : Nat}
    (hent : Enters P f) (hsc : SC P f cargs res) (ho : ops[i]? = some o) (hg : o.guard = none) (hop : o.op = .call { callee := .value x, args, argTypes := ats }) (hd : o.dst = some d) (hx : ev st x = .fn f fi ca) (hlt : d < st.n)
    (hargs : fi ++ (args.toList.map (ev st) ++ ca) = cargs) (hp : AV.renL [] cargs = cargs ∧ res.okN [] [] [] = true ∧ res.ren [] = res)
    (k : AR P ops draw st0 Q (i + 1, { st with t := (d, res) :: st.t }, if draw = true then acc ++ [⟨keyO x ++ keysL args.toList, ⟨[(d, res)], []⟩, []⟩] else acc)) : AR P ops draw st0 Q (i, st, acc) :=
  as_callV hent hsc ho hg hop hd hx hlt hargs hp st0 Q k
theorem ar_callV_if {ops : Array Oper} {draw : Bool} {st0 : AState} {Q : Exit → AState → Prop} {i j dj : Nat} {b : Bool} {st : AState} {acc : List Eff} {o : Oper} {x : Operand} {args : Array Operand} {ats : Array TypeId} {f : FuncId} {fi ca : List AV} {cargs : List AV} {res : AV} {d : Nat}
    (hent : Enters P f) (hsc : SC P f cargs res) (ho : ops[i]? = some o) (hg : o.guard = some (j, b)) (hj : (ops[j]?).bind (·.dst) = some dj) (hop : o.op = .call { callee := .value x, args, argTypes := ats }) (hd : o.dst = some d) (hx : ev st x = .fn f fi ca) (hlt : d < st.n)
    (hv : tget st.t dj = .pv (.v (.bool b))) (hargs : fi ++ (args.toList.map (ev st) ++ ca) = cargs) (hp : AV.renL [] cargs = cargs ∧ res.okN [] [] [] = true ∧ res.ren [] = res)
    (k : AR P ops draw st0 Q (i + 1, { st with t := (d, res) :: st.t }, if draw = true then acc ++ [⟨.tmp dj :: (keyO x ++ keysL args.toList), ⟨[(d, res)], []⟩, []⟩] else acc)) : AR P ops draw st0 Q (i, st, acc) :=
  as_callV_if hent hsc ho hg hj hop hd hx hlt hv hargs hp st0 Q k
theorem ar_end {ops : Array Oper} {st0 st : AState} {y : Code} {Q : Exit → AState → Prop} {i : Nat} {acc : List Eff} (hi : ops.size = i) (h : AW P y Q st) : AR P ops false st0 (thenQ P y Q) (i, st, acc) := ar_done hi (fun h => by cases h) h
theorem ar_endD {ops : Array Oper} {st0 st : AState} {y : Code} {Q : Exit → AState → Prop} {i : Nat} {acc : List Eff} (hi : ops.size = i) (hc : checkTr ops st0 acc = true) (h : AW P y Q st) : AR P ops true st0 (thenQ P y Q) (i, st, acc) := ar_done hi (fun _ => hc) h
theorem ar_fin {ops : Array Oper} {st0 st : AState} {Q : Exit → AState → Prop} {i : Nat} {acc : List Eff} (hi : ops.size = i) (h : Q .normal st) : AR P ops false st0 Q (i, st, acc) := ar_done hi (fun h => by cases h) h
theorem ar_finD {ops : Array Oper} {st0 st : AState} {Q : Exit → AState → Prop} {i : Nat} {acc : List Eff} (hi : ops.size = i) (hc : checkTr ops st0 acc = true) (h : Q .normal st) : AR P ops true st0 Q (i, st, acc) := ar_done hi (fun _ => hc) h
theorem ret_vals2 {rs : List ResultVar} {res res' : AV} {st : AState} {r : List AV} (h1 : resA P st rs = some r) (h2 : resV r = res') (h3 : res' = res) : retL P rs res [] .ret st := ret_vals h1 (h2.trans h3)
theorem aw_sreg {id : Nat} {ops : Array Oper} {y : Code} {Q : Exit → AState → Prop} {st : AState} (h : AR P ops false st (thenQ P y Q) (0, st, [])) : AW P (.seq (.region id ops false) y) Q st := aw_seq (aw_region h)
theorem aw_sregD {id : Nat} {ops : Array Oper} {y : Code} {Q : Exit → AState → Prop} {st : AState} (hm : P.follows .mixedOrders = true) (h : AR P ops true st (thenQ P y Q) (0, st, [])) : AW P (.seq (.region id ops true) y) Q st := aw_seq (aw_region_draw hm h)
theorem blockQ_hit {id : Nat} {Q : Exit → AState → Prop} {st : AState} (h : Q .normal st) : blockQ id Q (.exit id) st := by simpa [blockQ] using h
theorem blockQ_miss {id i : Nat} {Q : Exit → AState → Prop} {st : AState} (hi : i ≠ id) (h : Q (.exit i) st) : blockQ id Q (.exit i) st := by simpa [blockQ, hi] using h
/-- As 'ar_go', and it goes on. -/
theorem ar_go2 {ops : Array Oper} {draw : Bool} {st0 : AState} {Q : Exit → AState → Prop} {i j : Nat} {st st' : AState} {acc acc' : List Eff} (l : List Oper) (hl : ops.toList.drop i = l) (h : runs P ops draw l i st acc = (j, st', acc')) (hj : Nat.blt i j = true) (k : AR P ops draw st0 Q (j, st', acc')) : AR P ops draw st0 Q (i, st, acc) :=
  as_runs l hl h st0 Q k
abbrev I (k : IntKind) (n : Int) : AV := .pv (.v (.int k n))
abbrev C (k : IntKind) (n : Int) : PV := .v (.int k n)
abbrev B (b : Bool) : AV := .pv (.v (.bool b))
theorem aw_ifT {c : Operand} {x y : Code} {b : Bool} {Q : Exit → AState → Prop} {st : AState} (hc : ev st c = .pv (.v (.bool b))) (hb : b = true) (h : AW P x Q st) : AW P (.cond c x y) Q st := aw_cond hc (fun _ => h) (fun h' => by rw [hb] at h'; cases h')
theorem aw_ifF {c : Operand} {x y : Code} {b : Bool} {Q : Exit → AState → Prop} {st : AState} (hc : ev st c = .pv (.v (.bool b))) (hb : b = false) (h : AW P y Q st) : AW P (.cond c x y) Q st := aw_cond hc (fun h' => by rw [hb] at h'; cases h') (fun _ => h)
attribute [simp] pickA runs stepG stepK step stepD stepN creates AState.killAll AState.kill enumT ef ev evC AState.app tget sget sBin sPick sNot sConv sExtract sNil sFunc sFAddr sField sIAddr sIndex sLoad sAlloc sBox sBuild sBuildS sSlice sLen sMM sBuiltin
  tkill skill AV.kill Slot.kill AV.has AV.hasL Slot.has abin keyO keysL slotK moveP cutP cutA cellsA cellsP spliceA spliceP allPV fillP partsP srcP bnd esOf List.drop_succ_cons Value.cells
  Value.oneCell' AV.ren AV.renL Slot.ren nmR renS noneS AV.okN AV.okL Slot.okN okName okY dstU resA resV
end Go.Eng
