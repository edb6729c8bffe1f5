import Derived.Test.YtpohlijehadklaaGreatKitIns
import Derived.Test.YtpohlijehadklaaGreatEngC
import Derived.MapKept
import Derived.Carry
set_option linter.unusedSimpArgs false
set_option linter.unusedVariables false
set_option autoImplicit false
namespace Go.Eng
open Go Go.RowKit Go.Proofs
abbrev W64 (n : Int) : Prop := (Lit.int .i64 n).wf = true
abbrev W32 (n : Int) : Prop := (Lit.int .u32 n).wf = true
theorem eqFile {t : TypeId} (ht : t = 70 ∨ t = 60) {a0 a1 a2 a3 b0 b1 b2 b3 : Int} (h0 : W64 a0) (h1 : W64 a1) (h2 : W64 a2) (h3 : W64 a3) (k0 : W32 b0) (k1 : W32 b1) (k2 : W32 b2) (k3 : W32 b3) :
    EqAgg Tryz.prog t [.int .i64 a0, .int .i64 a1, .int .i64 a2, .int .i64 a3, .int .u32 b0, .int .u32 b1, .int .u32 b2, .int .u32 b3] [.int .i64 a0, .int .i64 a1, .int .i64 a2, .int .i64 a3, .int .u32 b0, .int .u32 b1, .int .u32 b2, .int .u32 b3] true := by
  have c2 : Tryz.prog.cellsOf 2 = 1 := by kernel_rfl
  have c23 : Tryz.prog.cellsOf 57 = 1 := by kernel_rfl
  have c22 : Tryz.prog.cellsOf 56 = 4 := by kernel_rfl
  have c24 : Tryz.prog.cellsOf 58 = 4 := by kernel_rfl
  have e22 : ∀ D, Tryz.prog.keyLits (D + 2) 56 [.int .i64 a0, .int .i64 a1, .int .i64 a2, .int .i64 a3] = some [.int .i64 a0, .int .i64 a1, .int .i64 a2, .int .i64 a3] := by
    intro D
    simp only [W64] at h0 h1 h2 h3
    simp [Program.keyLits, Tryz.underlying56, Tryz.underlying2, c22, c2, h0, h1, h2, h3, List.range, List.range.loop]
  have e24 : ∀ D, Tryz.prog.keyLits (D + 2) 58 [.int .u32 b0, .int .u32 b1, .int .u32 b2, .int .u32 b3] = some [.int .u32 b0, .int .u32 b1, .int .u32 b2, .int .u32 b3] := by
    intro D
    simp only [W32] at k0 k1 k2 k3
    simp [Program.keyLits, Tryz.underlying58, Tryz.underlying57, c24, c23, k0, k1, k2, k3, List.range, List.range.loop]
  rcases ht with rfl | rfl
  · have c26 : Tryz.prog.cellsOf 70 = 8 := by kernel_rfl
    refine ⟨⟨3, 3, 3, [.int .i64 a0, .int .i64 a1, .int .i64 a2, .int .i64 a3, .int .u32 b0, .int .u32 b1, .int .u32 b2, .int .u32 b3], [.int .i64 a0, .int .i64 a1, .int .i64 a2, .int .i64 a3, .int .u32 b0, .int .u32 b1, .int .u32 b2, .int .u32 b3], by decide, by kernel_rfl, ?_, ?_, Iff.intro (fun _ => rfl) (fun _ => rfl)⟩, by simp, ⟨c26.symm, c26.symm⟩, by kernel_rfl⟩
    all_goals
      have e1 := e22 0
      have e2 := e24 0
      unfold Program.keyLits
      simp only [Tryz.underlying70]
      simp [c26, c22, c24, e1, e2]
  · have c34 : Tryz.prog.cellsOf 60 = 8 := by kernel_rfl
    refine ⟨⟨3, 3, 3, [.int .i64 a0, .int .i64 a1, .int .i64 a2, .int .i64 a3, .int .u32 b0, .int .u32 b1, .int .u32 b2, .int .u32 b3], [.int .i64 a0, .int .i64 a1, .int .i64 a2, .int .i64 a3, .int .u32 b0, .int .u32 b1, .int .u32 b2, .int .u32 b3], by decide, by kernel_rfl, ?_, ?_, Iff.intro (fun _ => rfl) (fun _ => rfl)⟩, by simp, ⟨c34.symm, c34.symm⟩, by kernel_rfl⟩
    all_goals
      have e1 := e22 0
      have e2 := e24 0
      unfold Program.keyLits
      simp only [Tryz.underlying60]
      simp [c34, c22, c24, e1, e2]
theorem wf8 {n : Int} (h : (Lit.int .u8 n).wf = true) : 0 ≤ n ∧ n ≤ 255 := by
  simp [Lit.wf, IntKind.min, IntKind.max, IntKind.signed, IntKind.bits] at h; omega
end Go.Eng
set_option linter.unusedSimpArgs false
set_option linter.unusedVariables false
set_option autoImplicit false
namespace Go.Eng
open Go Go.RowKit
theorem wf_wrap (k : IntKind) (n : Int) : (Lit.int k (k.wrap n)).wf = true := by
  cases k <;> simp only [Lit.wf, IntKind.wrap, IntKind.min, IntKind.max, IntKind.bits, IntKind.signed, decide_eq_true_eq, Bool.and_eq_true] <;> simp <;> (try split) <;> omega
theorem wf_bits (op : BinOp) (k : IntKind) (x y : Int) : (Lit.int k (bits op k x y)).wf = true := wf_wrap k _
end Go.Eng
set_option linter.unusedSimpArgs false
set_option linter.unusedVariables false
set_option linter.constructorNameAsVariable false
set_option autoImplicit false
namespace Go.Eng
open Go Go.RowKit Go.Proofs Go.MapKept
theorem run_insert {P : Program} {t kt et : TypeId} {k : IntKind} {r clock : Nat} {es : Array MapEntry} {n : Int} {val : Value} {w : World} (hm : P.underlying t = some (.map kt et)) (hk : P.underlying kt = some (.int k)) (hb : w.heap[r]? = some (.map es clock))
    (hf : Instr.findNow (.int k) (.int k n) es.toList 0 = some none) :
    (Instr.mapUpdate t (.map (some r)) (.int k n) val).run P w = .ok () { w with heap := w.heap.setIfInBounds r (.map (es.push { key := .int k n, val := val, born := clock }) (clock + 1)) } := by
  have h1 := run_checkKey (P := P) (w := w) hk (k := .int k n) (by simp [IsKey]) false 9999
  have h2 := run_findKey (P := P) (w := w) hk hf
  have h3 : (getObj r).run P w = .ok (.map es clock) w := by simp [getObj, Sem.run, hb]
  simp only [Instr.mapUpdate, Sem.run_bind, run_underlying hm, Result.andThen_ok, h3, h1, h2]
  exact run_setObj_map _ hb
theorem run_lookup_int {P : Program} {t kt et : TypeId} {k : IntKind} {r clock : Nat} {es : Array MapEntry} {n : Int} {v : Value} {w : World} (hm : P.underlying t = some (.map kt et)) (hk : P.underlying kt = some (.int k)) (hb : w.heap[r]? = some (.map es clock))
    (hf : ∃ i, Instr.findNow (.int k) (.int k n) es.toList 0 = some (some (i, v))) :
    (Instr.lookup t (.map (some r)) (.int k n) false).run P w = .ok v w := by
  obtain ⟨i, hf⟩ := hf
  have h1 := run_checkKey (P := P) (w := w) hk (k := .int k n) (by simp [IsKey]) es.isEmpty 9999
  have h2 := run_findKey (P := P) (w := w) hk hf
  have h3 : (getObj r).run P w = .ok (.map es clock) w := by simp [getObj, Sem.run, hb]
  simp only [Instr.lookup, Sem.run_bind, run_underlying hm, Result.andThen_ok, h3, Sem.run_pure, h1, h2]
  rfl
theorem run_lookup_none {P : Program} {t kt et : TypeId} {k : IntKind} {r clock : Nat} {es : Array MapEntry} {n : Int} {z : Value} {w : World} (hm : P.underlying t = some (.map kt et)) (hk : P.underlying kt = some (.int k)) (hb : w.heap[r]? = some (.map es clock))
    (hf : Instr.findNow (.int k) (.int k n) es.toList 0 = some none) (hz : zeroOf P et = some z) :
    (Instr.lookup t (.map (some r)) (.int k n) false).run P w = .ok z w := by
  have h1 := run_checkKey (P := P) (w := w) hk (k := .int k n) (by simp [IsKey]) es.isEmpty 9999
  have h2 := run_findKey (P := P) (w := w) hk hf
  have h3 : (getObj r).run P w = .ok (.map es clock) w := by simp [getObj, Sem.run, hb]
  simp only [Instr.lookup, Sem.run_bind, run_underlying hm, Result.andThen_ok, h3, Sem.run_pure, h1, h2, run_zero hz]
  rfl
end Go.Eng
set_option linter.unusedSimpArgs false
set_option linter.unusedVariables false
set_option linter.constructorNameAsVariable false
set_option autoImplicit false
namespace Go.Eng
open Go Go.RowKit Go.Proofs Go.MapKept
theorem wpOp_plain {P : Program} {ops : Array Oper} {i : Nat} {o : Oper} {a : Act} {w : World} {K : Act → World → Prop} {Q : Exit → Act → World → Prop} (ho : ops[i]? = some o) (hg : o.guard = none) (h : o.wp P a w K Q) : wpOp P ops Q i K a w := by
  unfold wpOp
  rw [ho]
  simp only [Region.wanted, hg, if_true]
  exact .inl h
theorem wp_val {P : Program} {o : Oper} {a : Act} {w w' : World} {K : Act → World → Prop} {Q : Exit → Act → World → Prop} {v : Value} {d : Option Nat} (hd : o.dst = d) (h : (execOp a.eval o).run P w = .ok (.value v) w') (k : K (a.put d v) w') : o.wp P a w K Q := by
  subst hd
  unfold Oper.wp; rw [h]; exact k
theorem wp_skp {P : Program} {o : Oper} {a : Act} {w w' : World} {K : Act → World → Prop} {Q : Exit → Act → World → Prop} (h : (execOp a.eval o).run P w = .ok .skip w') (k : K (a.put o.dst undef) w') : o.wp P a w K Q := by
  unfold Oper.wp; rw [h]; exact k
theorem run_mv {P : Program} {e : Operand → Value} {o : Oper} {x : Operand} {v : Value} {w : World} (h : o.op = .move x ∨ o.op = .assign x) (hv : e x = v) : (execOp e o).run P w = .ok (.value v) w := by
  subst hv
  rcases h with h | h <;> simp [execOp, h]
theorem run_lk {P : Program} {e : Operand → Value} {o : Oper} {t : TypeId} {x y : Operand} {u n v : Value} {w : World} (h : o.op = .lookup t x y false) (hx : e x = u) (hy : e y = n) (hl : (Instr.lookup t u n false).run P w = .ok v w) : (execOp e o).run P w = .ok (.value v) w := by
  unfold execOp
  simp only [h, hx, hy, Sem.run_bind, hl, Result.andThen_ok, Sem.run_pure]
def makesF (op : Int) : AV := if op = 2 then .fn 123 [] [] else if op = 3 then .fn 124 [] [] else if op = 4 then .fn 125 [] [] else .pv (.v .nilFunc)
def makesV (op : Int) : Value := if op = 2 then .func (.func 123) #[] #[] else if op = 3 then .func (.func 124) #[] #[] else if op = 4 then .func (.func 125) #[] #[] else .nilFunc
set_option maxRecDepth 10000 in
theorem c_makes {op : Int} : SC Tryz.prog 116 [I .i64 op] (makesF op) := by
  refine scx_of Tryz.func116 rfl rfl rfl (Nat.le_of_ble_eq_true rfl) ?_
  refine aw_sreg ?_
  refine ar_go _ rfl (by simp; exact ⟨rfl, rfl, rfl⟩) ?_
  refine ar_end rfl ?_
  intro Γ ρ a w hok
  refine wp_seq (wp_region ?_)
  have hs : a.tmps.size = 7 := hok.size
  have h0 : a.tmps.getD 0 undef = .int .i64 op := pv_inv (hok.tmps 0)
  have um : Tryz.prog.underlying 184 = some (.map 3 175) := by kernel_rfl
  have z114 : zeroOf Tryz.prog 175 = some .nilFunc := by simp
  obtain ⟨b1, g1⟩ := heap_alloc w (.map #[] 0)
  show wpOps _ _ _ [0, 1, 2, 3, 4, 5, 6, 7] a w
  have k0 := hok.setT (d := 3) (v := .map (some w.heap.size)) (av := .dead) (show 3 < 7 by omega) trivial
  rw [wpOps_cons]
  refine wpOp_plain rfl rfl (wp_val (d := some 3) (w' := w.alloc (.map #[] 0)) (v := .map (some w.heap.size)) rfl ?_ ?_)
  · simp [execOp, run_makeMap]
  have t3 : (a.put (some 3) (.map (some w.heap.size))).tmps.getD 3 undef = .map (some w.heap.size) := by rw [getD_put _ _ _ _ (by rw [hs]; omega)]; rfl
  have f1 : w.heap.size ≤ (w.alloc (.map #[] 0)).heap.size := by show w.heap.size ≤ (w.heap.push _).size; simp
  have f2 : (w.alloc (.map #[] 0)).os = w.os ∧ (w.alloc (.map #[] 0)).tape = w.tape ∧ (w.alloc (.map #[] 0)).output = w.output := ⟨rfl, rfl, rfl⟩
  generalize hrr : w.heap.size = r at t3 b1 g1 f1 k0 ⊢
  generalize w.alloc (.map #[] 0) = w1 at *
  have step : ∀ {i : Nat} {o : Oper} {n : Int} {fv : Operand} {es : Array MapEntry} {clock : Nat} {w1 : World} {a1 : Act} {K : Act → World → Prop} {Q : Exit → Act → World → Prop} {ops : Array Oper}, ops[i]? = some o → o.guard = none → o.op = .insert 184 (.tmp 3) (.const (.int .i64 n)) fv → o.dst = none →
      a1.tmps.getD 3 undef = .map (some r) → w1.heap[r]? = some (.map es clock) → Instr.findNow (.int .i64) (.int .i64 n) es.toList 0 = some none →
      (∀ w2 : World, w2.heap[r]? = some (.map (es.push { key := .int .i64 n, val := a1.eval fv, born := clock }) (clock + 1)) → w2.heap.size = w1.heap.size → (∀ b, b ≠ r → w2.heap[b]? = w1.heap[b]?) → w2.os = w1.os ∧ w2.tape = w1.tape ∧ w2.output = w1.output → K a1 w2) → wpOp Tryz.prog ops Q i K a1 w1 := by
    intro i o n fv es clock w1 a1 K Q ops ho hg hop hd h3 hb hf hk
    obtain ⟨q1, q2⟩ := heap_set (o' := .map (es.push { key := .int .i64 n, val := a1.eval fv, born := clock }) (clock + 1)) hb
    refine wpOp_plain ho hg (wp_skp ?_ (by rw [hd]; exact hk { w1 with heap := w1.heap.setIfInBounds r (.map (es.push { key := .int .i64 n, val := a1.eval fv, born := clock }) (clock + 1)) } q1 (by simp) q2 ⟨rfl, rfl, rfl⟩))
    have e3 : a1.eval (.tmp 3) = .map (some r) := h3
    have ek : a1.eval (.const (.int .i64 n)) = .int .i64 n := rfl
    unfold execOp
    simp only [hop, e3, ek, Sem.run_bind, run_insert um Tryz.underlying3 hb hf, Result.andThen_ok, Sem.run_pure]
  rw [wpOps_cons]
  refine step rfl rfl rfl rfl t3 b1 rfl fun w2 b2 s2 g2 o2 => ?_
  rw [wpOps_cons]
  refine step rfl rfl rfl rfl t3 b2 rfl fun w3 b3 s3 g3 o3 => ?_
  rw [wpOps_cons]
  refine step rfl rfl rfl rfl t3 b3 rfl fun w4 b4 s4 g4 o4 => ?_
  have k4 : Ok Γ _ ρ _ w4 := k0.grow (w' := w4) (by omega) (fun b hb => by rw [g4 b (by omega), g3 b (by omega), g2 b (by omega)]; exact g1 b (by omega)) (by rw [o4.1, o3.1, o2.1, f2.1]) (by rw [o4.2.1, o3.2.1, o2.2.1, f2.2.1]) (by rw [o4.2.2, o3.2.2, o2.2.2, f2.2.2])
  generalize hk1 : a.put (some 3) (.map (some r)) = a1 at *
  have z1 : a1.tmps.size = 7 := k4.size
  have t0 : a1.tmps.getD 0 undef = .int .i64 op := pv_inv (k4.tmps 0)
  rw [wpOps_cons]
  refine wpOp_plain rfl rfl (wp_val (d := some 4) (w' := w4) (v := .map (some r)) rfl ?_ ?_)
  · have e3 : a1.eval (.tmp 3) = .map (some r) := t3
    exact run_mv (.inl rfl) e3
  have k5 := k4.setT (d := 4) (v := .map (some r)) (av := .dead) (show 4 < 7 by omega) trivial
  rw [wpOps_cons]
  refine wpOp_plain rfl rfl (wp_val (d := some 5) (w' := w4) (v := .int .i64 op) rfl ?_ ?_)
  · have e3 : (a1.put (some 4) (.map (some r))).eval (.tmp 0) = .int .i64 op := by
      show (a1.put (some 4) (.map (some r))).tmps.getD 0 undef = _
      rw [getD_put _ _ _ _ (by rw [z1]; omega)]; exact t0
    exact run_mv (.inl rfl) e3
  have k6 := k5.setT (d := 5) (v := .int .i64 op) (av := I .i64 op) (show 5 < 7 by omega) ⟨rfl, rfl⟩
  have e4 : ((a1.put (some 4) (.map (some r))).put (some 5) (.int .i64 op)).eval (.tmp 4) = .map (some r) := by
    show ((a1.put (some 4) (.map (some r))).put (some 5) (.int .i64 op)).tmps.getD 4 undef = _
    rw [getD_put _ _ _ _ (by rw [k5.size]; show 5 < 7; omega), if_neg (show ¬ (4 : Nat) = 5 by omega), getD_put _ _ _ _ (by rw [z1]; omega), if_pos rfl]
  have e5 : ((a1.put (some 4) (.map (some r))).put (some 5) (.int .i64 op)).eval (.tmp 5) = .int .i64 op := pv_inv (k6.tmps 5)
  generalize (a1.put (some 4) (.map (some r))).put (some 5) (.int .i64 op) = a2 at *
  have lk : (Instr.lookup 184 (.map (some r)) (.int .i64 op) false).run Tryz.prog w4 = .ok (makesV op) w4 := by
    have ev1 : ∀ f, a1.eval (.func f) = .func (.func f) #[] #[] := fun f => rfl
    unfold makesV
    by_cases c2 : op = 2
    · subst c2; exact run_lookup_int um Tryz.underlying3 b4 ⟨0, rfl⟩
    by_cases c3 : op = 3
    · subst c3; exact run_lookup_int um Tryz.underlying3 b4 ⟨1, rfl⟩
    by_cases c4 : op = 4
    · subst c4; exact run_lookup_int um Tryz.underlying3 b4 ⟨2, rfl⟩
    · rw [if_neg c2, if_neg c3, if_neg c4]
      exact run_lookup_none um Tryz.underlying3 b4 (by simp only [Instr.findNow, Instr.sameNow, Array.push, List.concat, if_true, show (op == 2) = false by simpa using c2, show (op == 3) = false by simpa using c3, show (op == 4) = false by simpa using c4]) z114
  have rel : ARel ρ w4 (makesF op) (makesV op) := by
    unfold makesF makesV
    split
    · exact ⟨#[], #[], rfl, rfl, rfl⟩
    split
    · exact ⟨#[], #[], rfl, rfl, rfl⟩
    split
    · exact ⟨#[], #[], rfl, rfl, rfl⟩
    · exact ⟨rfl, rfl⟩
  rw [wpOps_cons]
  refine wpOp_plain rfl rfl (wp_val (d := some 6) (w' := w4) (v := makesV op) rfl ?_ ?_)
  · exact run_lk rfl e4 e5 lk
  have k7 := k6.setT (d := 6) (v := makesV op) (av := makesF op) (show 6 < 7 by omega) rel
  rw [wpOps_cons]
  have e6 : (a2.put (some 6) (makesV op)).eval (.tmp 6) = makesV op := by
    show (a2.put (some 6) (makesV op)).tmps.getD 6 undef = _
    rw [getD_put _ _ _ _ (by rw [k6.size]; show 6 < 7; omega), if_pos rfl]
  refine wpOp_plain rfl rfl (wp_val (d := some 2) (w' := w4) (v := makesV op) rfl ?_ ?_)
  · exact run_mv (.inr rfl) e6
  have k8 := k7.setT (d := 2) (v := makesV op) (av := makesF op) (show 2 < 7 by omega) rel
  exact aw_ret (Q := retL Tryz.prog Tryz.f116.results.toList (makesF op) []) (ret_vals (by simp; exact rfl) rfl) Γ ρ _ w4 k8
end Go.Eng
set_option linter.unusedSimpArgs false
set_option linter.unusedVariables false
set_option linter.constructorNameAsVariable false
set_option autoImplicit false
namespace Go.Eng
open Go Go.RowKit Go.Proofs
theorem c_add {a b : Int} : SC Tryz.prog 123 [I .i64 a, I .i64 b] (I .i64 (IntKind.wrap .i64 (a + b))) := by
  refine scx_of Tryz.func123 rfl rfl rfl (Nat.le_of_ble_eq_true rfl) ?_
  repeat (first
    | exact aw_ret (ret_vals (by simp; exact rfl) (by simp [*]))
    | refine ar_end rfl ?_
    | refine ar_endD rfl rfl ?_
    | refine ar_go2 _ rfl (by simp [*]; exact ⟨rfl, rfl, rfl⟩) rfl ?_
    | refine aw_sreg ?_
    | refine aw_sregD mixed ?_
    | refine aw_ifT (b := true) rfl rfl ?_
    | refine aw_ifF (b := false) rfl rfl ?_
    | refine aw_ifT rfl (decide_eq_true (by assumption)) ?_
    | refine aw_ifF rfl (decide_eq_false (by assumption)) ?_
    | refine aw_seq ?_
    | refine aw_block ?_
    | refine aw_skip ?_
    | refine aw_region ?_
    | refine aw_region_draw mixed ?_
    | refine aw_exit ?_
    | refine blockQ_hit ?_
    | refine blockQ_miss (by decide) ?_)
theorem c_eor {a b : Int} : SC Tryz.prog 124 [I .i64 a, I .i64 b] (I .i64 (bits .xor .i64 a b)) := by
  refine scx_of Tryz.func124 rfl rfl rfl (Nat.le_of_ble_eq_true rfl) ?_
  repeat (first
    | exact aw_ret (ret_vals (by simp; exact rfl) (by simp [*]))
    | refine ar_end rfl ?_
    | refine ar_endD rfl rfl ?_
    | refine ar_go2 _ rfl (by simp [*]; exact ⟨rfl, rfl, rfl⟩) rfl ?_
    | refine aw_sreg ?_
    | refine aw_sregD mixed ?_
    | refine aw_ifT (b := true) rfl rfl ?_
    | refine aw_ifF (b := false) rfl rfl ?_
    | refine aw_ifT rfl (decide_eq_true (by assumption)) ?_
    | refine aw_ifF rfl (decide_eq_false (by assumption)) ?_
    | refine aw_seq ?_
    | refine aw_block ?_
    | refine aw_skip ?_
    | refine aw_region ?_
    | refine aw_region_draw mixed ?_
    | refine aw_exit ?_
    | refine blockQ_hit ?_
    | refine blockQ_miss (by decide) ?_)
theorem c_and {a b : Int} : SC Tryz.prog 125 [I .i64 a, I .i64 b] (I .i64 (bits .and .i64 a b)) := by
  refine scx_of Tryz.func125 rfl rfl rfl (Nat.le_of_ble_eq_true rfl) ?_
  repeat (first
    | exact aw_ret (ret_vals (by simp; exact rfl) (by simp [*]))
    | refine ar_end rfl ?_
    | refine ar_endD rfl rfl ?_
    | refine ar_go2 _ rfl (by simp [*]; exact ⟨rfl, rfl, rfl⟩) rfl ?_
    | refine aw_sreg ?_
    | refine aw_sregD mixed ?_
    | refine aw_ifT (b := true) rfl rfl ?_
    | refine aw_ifF (b := false) rfl rfl ?_
    | refine aw_ifT rfl (decide_eq_true (by assumption)) ?_
    | refine aw_ifF rfl (decide_eq_false (by assumption)) ?_
    | refine aw_seq ?_
    | refine aw_block ?_
    | refine aw_skip ?_
    | refine aw_region ?_
    | refine aw_region_draw mixed ?_
    | refine aw_exit ?_
    | refine blockQ_hit ?_
    | refine blockQ_miss (by decide) ?_)
end Go.Eng
set_option linter.unusedSimpArgs false
set_option linter.unusedVariables false
set_option linter.constructorNameAsVariable false
set_option autoImplicit false
namespace Go.Eng
open Go Go.RowKit Go.Proofs
abbrev setF (v0 v1 v2 v3 d0 d1 d2 d3 n v d : Int) : List PV := fileL (if n = 0 then v else v0) (if n = 1 then v else v1) (if n = 2 then v else v2) (if n = 3 then v else v3) (if n = 0 then d else d0) (if n = 1 then d else d1) (if n = 2 then d else d2) (if n = 3 then d else d3)
theorem c_makes2 : SC Tryz.prog 116 [I .i64 2] (.fn 123 [] []) := c_makes (op := 2)
theorem c_makes3 : SC Tryz.prog 116 [I .i64 3] (.fn 124 [] []) := c_makes (op := 3)
theorem c_makes4 : SC Tryz.prog 116 [I .i64 4] (.fn 125 [] []) := c_makes (op := 4)
theorem c_Do_add {v0 v1 v2 v3 d0 d1 d2 d3 d a b l m : Int} :
    SC Tryz.prog 101 [.agg (fileL v0 v1 v2 v3 d0 d1 d2 d3), .agg [C .i64 2, C .i64 d, C .i64 a, C .i64 b, C .i64 l, C .i64 m]]
      (.agg (setF v0 v1 v2 v3 d0 d1 d2 d3 d (IntKind.wrap .i64 (get4 v0 v1 v2 v3 0 a + get4 v0 v1 v2 v3 0 b)) (bits .or .u32 (get4 d0 d1 d2 d3 0 a) (get4 d0 d1 d2 d3 0 b)))) := by
  refine scx_of Tryz.func101 rfl rfl rfl (Nat.le_of_ble_eq_true rfl) ?_
  repeat (first
    | exact aw_ret (ret_vals (by simp; exact rfl) (by simp [*]))
    | refine ar_end rfl ?_
    | refine ar_endD rfl rfl ?_
    | refine ar_callV Tryz.call98 c_Set rfl rfl rfl rfl rfl (by simp) (by rfl) (by simp) ?_
    | refine ar_callV_if Tryz.call98 c_Set rfl rfl rfl rfl rfl rfl (by simp) rfl (by rfl) (by simp) ?_
    | refine ar_callV Tryz.call100 c_Get rfl rfl rfl rfl rfl (by simp) (by rfl) (by simp) ?_
    | refine ar_callV_if Tryz.call100 c_Get rfl rfl rfl rfl rfl rfl (by simp) rfl (by rfl) (by simp) ?_
    | refine ar_callV Tryz.call116 c_makes2 rfl rfl rfl rfl rfl (by simp) (by rfl) (by simp) ?_
    | refine ar_callV_if Tryz.call116 c_makes2 rfl rfl rfl rfl rfl rfl (by simp) rfl (by rfl) (by simp) ?_
    | refine ar_callV Tryz.call116 c_makes3 rfl rfl rfl rfl rfl (by simp) (by rfl) (by simp) ?_
    | refine ar_callV_if Tryz.call116 c_makes3 rfl rfl rfl rfl rfl rfl (by simp) rfl (by rfl) (by simp) ?_
    | refine ar_callV Tryz.call116 c_makes4 rfl rfl rfl rfl rfl (by simp) (by rfl) (by simp) ?_
    | refine ar_callV_if Tryz.call116 c_makes4 rfl rfl rfl rfl rfl rfl (by simp) rfl (by rfl) (by simp) ?_
    | refine ar_callV Tryz.call123 c_add rfl rfl rfl rfl rfl (by simp) (by rfl) (by simp) ?_
    | refine ar_callV_if Tryz.call123 c_add rfl rfl rfl rfl rfl rfl (by simp) rfl (by rfl) (by simp) ?_
    | refine ar_callV Tryz.call124 c_eor rfl rfl rfl rfl rfl (by simp) (by rfl) (by simp) ?_
    | refine ar_callV_if Tryz.call124 c_eor rfl rfl rfl rfl rfl rfl (by simp) rfl (by rfl) (by simp) ?_
    | refine ar_callV Tryz.call125 c_and rfl rfl rfl rfl rfl (by simp) (by rfl) (by simp) ?_
    | refine ar_callV_if Tryz.call125 c_and rfl rfl rfl rfl rfl rfl (by simp) rfl (by rfl) (by simp) ?_
    | refine ar_eqNil rfl rfl rfl rfl (by simp) (by kernel_rfl) rfl ?_
    | refine ar_go2 _ rfl (by simp [makesF]; exact ⟨rfl, rfl, rfl⟩) rfl ?_
    | refine aw_sreg ?_
    | refine aw_sregD mixed ?_
    | refine aw_ifT (b := true) rfl rfl ?_
    | refine aw_ifF (b := false) rfl rfl ?_
    | refine aw_ifT rfl (decide_eq_true (by assumption)) ?_
    | refine aw_ifF rfl (decide_eq_false (by assumption)) ?_
    | refine aw_seq ?_
    | refine aw_block ?_
    | refine aw_skip ?_
    | refine aw_region ?_
    | refine aw_region_draw mixed ?_
    | refine aw_exit ?_
    | refine blockQ_hit ?_
    | refine blockQ_miss (by decide) ?_)
theorem c_Do_eor {v0 v1 v2 v3 d0 d1 d2 d3 d a b l m : Int} :
    SC Tryz.prog 101 [.agg (fileL v0 v1 v2 v3 d0 d1 d2 d3), .agg [C .i64 3, C .i64 d, C .i64 a, C .i64 b, C .i64 l, C .i64 m]]
      (.agg (setF v0 v1 v2 v3 d0 d1 d2 d3 d (bits .xor .i64 (get4 v0 v1 v2 v3 0 a) (get4 v0 v1 v2 v3 0 b)) (bits .or .u32 (get4 d0 d1 d2 d3 0 a) (get4 d0 d1 d2 d3 0 b)))) := by
  refine scx_of Tryz.func101 rfl rfl rfl (Nat.le_of_ble_eq_true rfl) ?_
  repeat (first
    | exact aw_ret (ret_vals (by simp; exact rfl) (by simp [*]))
    | refine ar_end rfl ?_
    | refine ar_endD rfl rfl ?_
    | refine ar_callV Tryz.call98 c_Set rfl rfl rfl rfl rfl (by simp) (by rfl) (by simp) ?_
    | refine ar_callV_if Tryz.call98 c_Set rfl rfl rfl rfl rfl rfl (by simp) rfl (by rfl) (by simp) ?_
    | refine ar_callV Tryz.call100 c_Get rfl rfl rfl rfl rfl (by simp) (by rfl) (by simp) ?_
    | refine ar_callV_if Tryz.call100 c_Get rfl rfl rfl rfl rfl rfl (by simp) rfl (by rfl) (by simp) ?_
    | refine ar_callV Tryz.call116 c_makes2 rfl rfl rfl rfl rfl (by simp) (by rfl) (by simp) ?_
    | refine ar_callV_if Tryz.call116 c_makes2 rfl rfl rfl rfl rfl rfl (by simp) rfl (by rfl) (by simp) ?_
    | refine ar_callV Tryz.call116 c_makes3 rfl rfl rfl rfl rfl (by simp) (by rfl) (by simp) ?_
    | refine ar_callV_if Tryz.call116 c_makes3 rfl rfl rfl rfl rfl rfl (by simp) rfl (by rfl) (by simp) ?_
    | refine ar_callV Tryz.call116 c_makes4 rfl rfl rfl rfl rfl (by simp) (by rfl) (by simp) ?_
    | refine ar_callV_if Tryz.call116 c_makes4 rfl rfl rfl rfl rfl rfl (by simp) rfl (by rfl) (by simp) ?_
    | refine ar_callV Tryz.call123 c_add rfl rfl rfl rfl rfl (by simp) (by rfl) (by simp) ?_
    | refine ar_callV_if Tryz.call123 c_add rfl rfl rfl rfl rfl rfl (by simp) rfl (by rfl) (by simp) ?_
    | refine ar_callV Tryz.call124 c_eor rfl rfl rfl rfl rfl (by simp) (by rfl) (by simp) ?_
    | refine ar_callV_if Tryz.call124 c_eor rfl rfl rfl rfl rfl rfl (by simp) rfl (by rfl) (by simp) ?_
    | refine ar_callV Tryz.call125 c_and rfl rfl rfl rfl rfl (by simp) (by rfl) (by simp) ?_
    | refine ar_callV_if Tryz.call125 c_and rfl rfl rfl rfl rfl rfl (by simp) rfl (by rfl) (by simp) ?_
    | refine ar_eqNil rfl rfl rfl rfl (by simp) (by kernel_rfl) rfl ?_
    | refine ar_go2 _ rfl (by simp [makesF]; exact ⟨rfl, rfl, rfl⟩) rfl ?_
    | refine aw_sreg ?_
    | refine aw_sregD mixed ?_
    | refine aw_ifT (b := true) rfl rfl ?_
    | refine aw_ifF (b := false) rfl rfl ?_
    | refine aw_ifT rfl (decide_eq_true (by assumption)) ?_
    | refine aw_ifF rfl (decide_eq_false (by assumption)) ?_
    | refine aw_seq ?_
    | refine aw_block ?_
    | refine aw_skip ?_
    | refine aw_region ?_
    | refine aw_region_draw mixed ?_
    | refine aw_exit ?_
    | refine blockQ_hit ?_
    | refine blockQ_miss (by decide) ?_)
theorem c_Do_and {v0 v1 v2 v3 d0 d1 d2 d3 d a b l m : Int} :
    SC Tryz.prog 101 [.agg (fileL v0 v1 v2 v3 d0 d1 d2 d3), .agg [C .i64 4, C .i64 d, C .i64 a, C .i64 b, C .i64 l, C .i64 m]]
      (.agg (setF v0 v1 v2 v3 d0 d1 d2 d3 d (bits .and .i64 (get4 v0 v1 v2 v3 0 a) (get4 v0 v1 v2 v3 0 b)) (bits .or .u32 (get4 d0 d1 d2 d3 0 a) (get4 d0 d1 d2 d3 0 b)))) := by
  refine scx_of Tryz.func101 rfl rfl rfl (Nat.le_of_ble_eq_true rfl) ?_
  repeat (first
    | exact aw_ret (ret_vals (by simp; exact rfl) (by simp [*]))
    | refine ar_end rfl ?_
    | refine ar_endD rfl rfl ?_
    | refine ar_callV Tryz.call98 c_Set rfl rfl rfl rfl rfl (by simp) (by rfl) (by simp) ?_
    | refine ar_callV_if Tryz.call98 c_Set rfl rfl rfl rfl rfl rfl (by simp) rfl (by rfl) (by simp) ?_
    | refine ar_callV Tryz.call100 c_Get rfl rfl rfl rfl rfl (by simp) (by rfl) (by simp) ?_
    | refine ar_callV_if Tryz.call100 c_Get rfl rfl rfl rfl rfl rfl (by simp) rfl (by rfl) (by simp) ?_
    | refine ar_callV Tryz.call116 c_makes2 rfl rfl rfl rfl rfl (by simp) (by rfl) (by simp) ?_
    | refine ar_callV_if Tryz.call116 c_makes2 rfl rfl rfl rfl rfl rfl (by simp) rfl (by rfl) (by simp) ?_
    | refine ar_callV Tryz.call116 c_makes3 rfl rfl rfl rfl rfl (by simp) (by rfl) (by simp) ?_
    | refine ar_callV_if Tryz.call116 c_makes3 rfl rfl rfl rfl rfl rfl (by simp) rfl (by rfl) (by simp) ?_
    | refine ar_callV Tryz.call116 c_makes4 rfl rfl rfl rfl rfl (by simp) (by rfl) (by simp) ?_
    | refine ar_callV_if Tryz.call116 c_makes4 rfl rfl rfl rfl rfl rfl (by simp) rfl (by rfl) (by simp) ?_
    | refine ar_callV Tryz.call123 c_add rfl rfl rfl rfl rfl (by simp) (by rfl) (by simp) ?_
    | refine ar_callV_if Tryz.call123 c_add rfl rfl rfl rfl rfl rfl (by simp) rfl (by rfl) (by simp) ?_
    | refine ar_callV Tryz.call124 c_eor rfl rfl rfl rfl rfl (by simp) (by rfl) (by simp) ?_
    | refine ar_callV_if Tryz.call124 c_eor rfl rfl rfl rfl rfl rfl (by simp) rfl (by rfl) (by simp) ?_
    | refine ar_callV Tryz.call125 c_and rfl rfl rfl rfl rfl (by simp) (by rfl) (by simp) ?_
    | refine ar_callV_if Tryz.call125 c_and rfl rfl rfl rfl rfl rfl (by simp) rfl (by rfl) (by simp) ?_
    | refine ar_eqNil rfl rfl rfl rfl (by simp) (by kernel_rfl) rfl ?_
    | refine ar_go2 _ rfl (by simp [makesF]; exact ⟨rfl, rfl, rfl⟩) rfl ?_
    | refine aw_sreg ?_
    | refine aw_sregD mixed ?_
    | refine aw_ifT (b := true) rfl rfl ?_
    | refine aw_ifF (b := false) rfl rfl ?_
    | refine aw_ifT rfl (decide_eq_true (by assumption)) ?_
    | refine aw_ifF rfl (decide_eq_false (by assumption)) ?_
    | refine aw_seq ?_
    | refine aw_block ?_
    | refine aw_skip ?_
    | refine aw_region ?_
    | refine aw_region_draw mixed ?_
    | refine aw_exit ?_
    | refine blockQ_hit ?_
    | refine blockQ_miss (by decide) ?_)
theorem c_Do_mov {v0 v1 v2 v3 d0 d1 d2 d3 d a b l m : Int} :
    SC Tryz.prog 101 [.agg (fileL v0 v1 v2 v3 d0 d1 d2 d3), .agg [C .i64 1, C .i64 d, C .i64 a, C .i64 b, C .i64 l, C .i64 m]]
      (.agg (setF v0 v1 v2 v3 d0 d1 d2 d3 d m 0)) := by
  refine scx_of Tryz.func101 rfl rfl rfl (Nat.le_of_ble_eq_true rfl) ?_
  repeat (first
    | exact aw_ret (ret_vals (by simp; exact rfl) (by simp [*]))
    | refine ar_end rfl ?_
    | refine ar_endD rfl rfl ?_
    | refine ar_callV Tryz.call98 c_Set rfl rfl rfl rfl rfl (by simp) (by rfl) (by simp) ?_
    | refine ar_callV_if Tryz.call98 c_Set rfl rfl rfl rfl rfl rfl (by simp) rfl (by rfl) (by simp) ?_
    | refine ar_callV Tryz.call100 c_Get rfl rfl rfl rfl rfl (by simp) (by rfl) (by simp) ?_
    | refine ar_callV_if Tryz.call100 c_Get rfl rfl rfl rfl rfl rfl (by simp) rfl (by rfl) (by simp) ?_
    | refine ar_callV Tryz.call116 c_makes2 rfl rfl rfl rfl rfl (by simp) (by rfl) (by simp) ?_
    | refine ar_callV_if Tryz.call116 c_makes2 rfl rfl rfl rfl rfl rfl (by simp) rfl (by rfl) (by simp) ?_
    | refine ar_callV Tryz.call116 c_makes3 rfl rfl rfl rfl rfl (by simp) (by rfl) (by simp) ?_
    | refine ar_callV_if Tryz.call116 c_makes3 rfl rfl rfl rfl rfl rfl (by simp) rfl (by rfl) (by simp) ?_
    | refine ar_callV Tryz.call116 c_makes4 rfl rfl rfl rfl rfl (by simp) (by rfl) (by simp) ?_
    | refine ar_callV_if Tryz.call116 c_makes4 rfl rfl rfl rfl rfl rfl (by simp) rfl (by rfl) (by simp) ?_
    | refine ar_callV Tryz.call123 c_add rfl rfl rfl rfl rfl (by simp) (by rfl) (by simp) ?_
    | refine ar_callV_if Tryz.call123 c_add rfl rfl rfl rfl rfl rfl (by simp) rfl (by rfl) (by simp) ?_
    | refine ar_callV Tryz.call124 c_eor rfl rfl rfl rfl rfl (by simp) (by rfl) (by simp) ?_
    | refine ar_callV_if Tryz.call124 c_eor rfl rfl rfl rfl rfl rfl (by simp) rfl (by rfl) (by simp) ?_
    | refine ar_callV Tryz.call125 c_and rfl rfl rfl rfl rfl (by simp) (by rfl) (by simp) ?_
    | refine ar_callV_if Tryz.call125 c_and rfl rfl rfl rfl rfl rfl (by simp) rfl (by rfl) (by simp) ?_
    | refine ar_eqNil rfl rfl rfl rfl (by simp) (by kernel_rfl) rfl ?_
    | refine ar_go2 _ rfl (by simp [makesF]; exact ⟨rfl, rfl, rfl⟩) rfl ?_
    | refine aw_sreg ?_
    | refine aw_sregD mixed ?_
    | refine aw_ifT (b := true) rfl rfl ?_
    | refine aw_ifF (b := false) rfl rfl ?_
    | refine aw_ifT rfl (decide_eq_true (by assumption)) ?_
    | refine aw_ifF rfl (decide_eq_false (by assumption)) ?_
    | refine aw_seq ?_
    | refine aw_block ?_
    | refine aw_skip ?_
    | refine aw_region ?_
    | refine aw_region_draw mixed ?_
    | refine aw_exit ?_
    | refine blockQ_hit ?_
    | refine blockQ_miss (by decide) ?_)
end Go.Eng
set_option linter.unusedSimpArgs false
set_option linter.unusedVariables false
set_option linter.constructorNameAsVariable false
set_option autoImplicit false
namespace Go.Eng
open Go Go.RowKit Go.Proofs
def opF (op a b : Int) : Int := if op = 2 then IntKind.wrap .i64 (a + b) else if op = 3 then bits .xor .i64 a b else bits .and .i64 a b
theorem c_Do_op {v0 v1 v2 v3 d0 d1 d2 d3 op d a b l m R M : Int} (ho : op = 2 ∨ op = 3 ∨ op = 4) (hr : opF op (get4 v0 v1 v2 v3 0 a) (get4 v0 v1 v2 v3 0 b) = R) (hm : bits .or .u32 (get4 d0 d1 d2 d3 0 a) (get4 d0 d1 d2 d3 0 b) = M) :
    SC Tryz.prog 101 [.agg (fileL v0 v1 v2 v3 d0 d1 d2 d3), .agg [C .i64 op, C .i64 d, C .i64 a, C .i64 b, C .i64 l, C .i64 m]] (.agg (setF v0 v1 v2 v3 d0 d1 d2 d3 d R M)) := by
  subst hr; subst hm
  rcases ho with rfl | rfl | rfl
  · exact c_Do_add
  · exact c_Do_eor
  · exact c_Do_and
theorem W64.ite {c : Prop} [Decidable c] {x y : Int} (hx : W64 x) (hy : W64 y) : W64 (if c then x else y) := by split <;> assumption
theorem W32.ite {c : Prop} [Decidable c] {x y : Int} (hx : W32 x) (hy : W32 y) : W32 (if c then x else y) := by split <;> assumption
theorem W64.get4 {a b c d n : Int} (ha : W64 a) (hb : W64 b) (hc : W64 c) (hd : W64 d) : W64 (get4 a b c d 0 n) := by unfold Go.Eng.get4; exact W64.ite ha (W64.ite hb (W64.ite hc (W64.ite hd (by decide))))
theorem W32.get4 {a b c d n : Int} (ha : W32 a) (hb : W32 b) (hc : W32 c) (hd : W32 d) : W32 (get4 a b c d 0 n) := by unfold Go.Eng.get4; exact W32.ite ha (W32.ite hb (W32.ite hc (W32.ite hd (by decide))))
theorem wf_opF (op a b : Int) : W64 (opF op a b) := by unfold opF; exact W64.ite (wf_wrap _ _) (W64.ite (wf_bits _ _ _ _) (wf_bits _ _ _ _))
end Go.Eng
