import Derived.Test.YtamjcdfjkekdjaaRegsMapB
set_option linter.unusedSimpArgs false
set_option linter.unusedVariables false
set_option linter.constructorNameAsVariable false
set_option autoImplicit false
namespace Go.Eng
open Go Go.RowKit Go.Proofs Go.MapKept
theorem wpOp_plain {P : Program} {ops : Array Oper} {i : Nat} {o : Oper} {a : Act} {w : World} {K : Act → World → Prop} {Q : Exit → Act → World → Prop} (ho : ops[i]? = some o) (hg : o.guard = none) (h : o.wp P a w K Q) : wpOp P ops Q i K a w := by
  unfold wpOp
  rw [ho]
  simp only [Region.wanted, hg, if_true]
  exact .inl h
theorem wp_val {P : Program} {o : Oper} {a : Act} {w w' : World} {K : Act → World → Prop} {Q : Exit → Act → World → Prop} {v : Value} {d : Option Nat} (hd : o.dst = d) (h : (execOp a.eval o).run P w = .ok (.value v) w') (k : K (a.put d v) w') : o.wp P a w K Q := by
  subst hd
  unfold Oper.wp; rw [h]; exact k
theorem wp_skp {P : Program} {o : Oper} {a : Act} {w w' : World} {K : Act → World → Prop} {Q : Exit → Act → World → Prop} (h : (execOp a.eval o).run P w = .ok .skip w') (k : K (a.put o.dst undef) w') : o.wp P a w K Q := by
  unfold Oper.wp; rw [h]; exact k
theorem run_mv {P : Program} {e : Operand → Value} {o : Oper} {x : Operand} {v : Value} {w : World} (h : o.op = .move x ∨ o.op = .assign x) (hv : e x = v) : (execOp e o).run P w = .ok (.value v) w := by
  subst hv
  rcases h with h | h <;> simp [execOp, h]
theorem run_lk {P : Program} {e : Operand → Value} {o : Oper} {t : TypeId} {x y : Operand} {u n v : Value} {w : World} (h : o.op = .lookup t x y false) (hx : e x = u) (hy : e y = n) (hl : (Instr.lookup t u n false).run P w = .ok v w) : (execOp e o).run P w = .ok (.value v) w := by
  unfold execOp
  simp only [h, hx, hy, Sem.run_bind, hl, Result.andThen_ok, Sem.run_pure]
def makesF (op : Int) : AV := if op = 2 then .fn 131 [] [] else if op = 3 then .fn 132 [] [] else if op = 4 then .fn 133 [] [] else .pv (.v .nilFunc)
def makesV (op : Int) : Value := if op = 2 then .func (.func 131) #[] #[] else if op = 3 then .func (.func 132) #[] #[] else if op = 4 then .func (.func 133) #[] #[] else .nilFunc
set_option maxRecDepth 10000 in
theorem c_makes {op : Int} : SC Try.prog 90 [I .i64 op] (makesF op) := by
  refine scx_of Try.func90 rfl rfl rfl (Nat.le_of_ble_eq_true rfl) ?_
  refine aw_sreg ?_
  refine ar_go _ rfl (by simp; exact ⟨rfl, rfl, rfl⟩) ?_
  refine ar_end rfl ?_
  intro Γ ρ a w hok
  refine wp_seq (wp_region ?_)
  have hs : a.tmps.size = 7 := hok.size
  have h0 : a.tmps.getD 0 undef = .int .i64 op := pv_inv (hok.tmps 0)
  have um : Try.prog.underlying 161 = some (.map 3 114) := by kernel_rfl
  have z114 : zeroOf Try.prog 114 = some .nilFunc := by simp
  obtain ⟨b1, g1⟩ := heap_alloc w (.map #[] 0)
  show wpOps _ _ _ [0, 1, 2, 3, 4, 5, 6, 7] a w
  have k0 := hok.setT (d := 3) (v := .map (some w.heap.size)) (av := .dead) (show 3 < 7 by omega) trivial
  rw [wpOps_cons]
  refine wpOp_plain rfl rfl (wp_val (d := some 3) (w' := w.alloc (.map #[] 0)) (v := .map (some w.heap.size)) rfl ?_ ?_)
  · simp [execOp, run_makeMap]
  have t3 : (a.put (some 3) (.map (some w.heap.size))).tmps.getD 3 undef = .map (some w.heap.size) := by rw [getD_put _ _ _ _ (by rw [hs]; omega)]; rfl
  have f1 : w.heap.size ≤ (w.alloc (.map #[] 0)).heap.size := by show w.heap.size ≤ (w.heap.push _).size; simp
  have f2 : (w.alloc (.map #[] 0)).os = w.os ∧ (w.alloc (.map #[] 0)).tape = w.tape ∧ (w.alloc (.map #[] 0)).output = w.output := ⟨rfl, rfl, rfl⟩
  generalize hrr : w.heap.size = r at t3 b1 g1 f1 k0 ⊢
  generalize w.alloc (.map #[] 0) = w1 at *
  have step : ∀ {i : Nat} {o : Oper} {n : Int} {fv : Operand} {es : Array MapEntry} {clock : Nat} {w1 : World} {a1 : Act} {K : Act → World → Prop} {Q : Exit → Act → World → Prop} {ops : Array Oper}, ops[i]? = some o → o.guard = none → o.op = .insert 161 (.tmp 3) (.const (.int .i64 n)) fv → o.dst = none →
      a1.tmps.getD 3 undef = .map (some r) → w1.heap[r]? = some (.map es clock) → Instr.findNow (.int .i64) (.int .i64 n) es.toList 0 = some none →
      (∀ w2 : World, w2.heap[r]? = some (.map (es.push { key := .int .i64 n, val := a1.eval fv, born := clock }) (clock + 1)) → w2.heap.size = w1.heap.size → (∀ b, b ≠ r → w2.heap[b]? = w1.heap[b]?) → w2.os = w1.os ∧ w2.tape = w1.tape ∧ w2.output = w1.output → K a1 w2) → wpOp Try.prog ops Q i K a1 w1 := by
    intro i o n fv es clock w1 a1 K Q ops ho hg hop hd h3 hb hf hk
    obtain ⟨q1, q2⟩ := heap_set (o' := .map (es.push { key := .int .i64 n, val := a1.eval fv, born := clock }) (clock + 1)) hb
    refine wpOp_plain ho hg (wp_skp ?_ (by rw [hd]; exact hk { w1 with heap := w1.heap.setIfInBounds r (.map (es.push { key := .int .i64 n, val := a1.eval fv, born := clock }) (clock + 1)) } q1 (by simp) q2 ⟨rfl, rfl, rfl⟩))
    have e3 : a1.eval (.tmp 3) = .map (some r) := h3
    have ek : a1.eval (.const (.int .i64 n)) = .int .i64 n := rfl
    unfold execOp
    simp only [hop, e3, ek, Sem.run_bind, run_insert um Try.underlying3 hb hf, Result.andThen_ok, Sem.run_pure]
  rw [wpOps_cons]
  refine step rfl rfl rfl rfl t3 b1 rfl fun w2 b2 s2 g2 o2 => ?_
  rw [wpOps_cons]
  refine step rfl rfl rfl rfl t3 b2 rfl fun w3 b3 s3 g3 o3 => ?_
  rw [wpOps_cons]
  refine step rfl rfl rfl rfl t3 b3 rfl fun w4 b4 s4 g4 o4 => ?_
  have k4 : Ok Γ _ ρ _ w4 := k0.grow (w' := w4) (by omega) (fun b hb => by rw [g4 b (by omega), g3 b (by omega), g2 b (by omega)]; exact g1 b (by omega)) (by rw [o4.1, o3.1, o2.1, f2.1]) (by rw [o4.2.1, o3.2.1, o2.2.1, f2.2.1]) (by rw [o4.2.2, o3.2.2, o2.2.2, f2.2.2])
  generalize hk1 : a.put (some 3) (.map (some r)) = a1 at *
  have z1 : a1.tmps.size = 7 := k4.size
  have t0 : a1.tmps.getD 0 undef = .int .i64 op := pv_inv (k4.tmps 0)
  rw [wpOps_cons]
  refine wpOp_plain rfl rfl (wp_val (d := some 4) (w' := w4) (v := .map (some r)) rfl ?_ ?_)
  · have e3 : a1.eval (.tmp 3) = .map (some r) := t3
    exact run_mv (.inl rfl) e3
  have k5 := k4.setT (d := 4) (v := .map (some r)) (av := .dead) (show 4 < 7 by omega) trivial
  rw [wpOps_cons]
  refine wpOp_plain rfl rfl (wp_val (d := some 5) (w' := w4) (v := .int .i64 op) rfl ?_ ?_)
  · have e3 : (a1.put (some 4) (.map (some r))).eval (.tmp 0) = .int .i64 op := by
      show (a1.put (some 4) (.map (some r))).tmps.getD 0 undef = _
      rw [getD_put _ _ _ _ (by rw [z1]; omega)]; exact t0
    exact run_mv (.inl rfl) e3
  have k6 := k5.setT (d := 5) (v := .int .i64 op) (av := I .i64 op) (show 5 < 7 by omega) ⟨rfl, rfl⟩
  have e4 : ((a1.put (some 4) (.map (some r))).put (some 5) (.int .i64 op)).eval (.tmp 4) = .map (some r) := by
    show ((a1.put (some 4) (.map (some r))).put (some 5) (.int .i64 op)).tmps.getD 4 undef = _
    rw [getD_put _ _ _ _ (by rw [k5.size]; show 5 < 7; omega), if_neg (show ¬ (4 : Nat) = 5 by omega), getD_put _ _ _ _ (by rw [z1]; omega), if_pos rfl]
  have e5 : ((a1.put (some 4) (.map (some r))).put (some 5) (.int .i64 op)).eval (.tmp 5) = .int .i64 op := pv_inv (k6.tmps 5)
  generalize (a1.put (some 4) (.map (some r))).put (some 5) (.int .i64 op) = a2 at *
  have lk : (Instr.lookup 161 (.map (some r)) (.int .i64 op) false).run Try.prog w4 = .ok (makesV op) w4 := by
    have ev1 : ∀ f, a1.eval (.func f) = .func (.func f) #[] #[] := fun f => rfl
    unfold makesV
    by_cases c2 : op = 2
    · subst c2; exact run_lookup_int um Try.underlying3 b4 ⟨0, rfl⟩
    by_cases c3 : op = 3
    · subst c3; exact run_lookup_int um Try.underlying3 b4 ⟨1, rfl⟩
    by_cases c4 : op = 4
    · subst c4; exact run_lookup_int um Try.underlying3 b4 ⟨2, rfl⟩
    · rw [if_neg c2, if_neg c3, if_neg c4]
      exact run_lookup_none um Try.underlying3 b4 (by simp only [Instr.findNow, Instr.sameNow, Array.push, List.concat, if_true, show (op == 2) = false by simpa using c2, show (op == 3) = false by simpa using c3, show (op == 4) = false by simpa using c4]) z114
  have rel : ARel ρ w4 (makesF op) (makesV op) := by
    unfold makesF makesV
    split
    · exact ⟨#[], #[], rfl, rfl, rfl⟩
    split
    · exact ⟨#[], #[], rfl, rfl, rfl⟩
    split
    · exact ⟨#[], #[], rfl, rfl, rfl⟩
    · exact ⟨rfl, rfl⟩
  rw [wpOps_cons]
  refine wpOp_plain rfl rfl (wp_val (d := some 6) (w' := w4) (v := makesV op) rfl ?_ ?_)
  · exact run_lk rfl e4 e5 lk
  have k7 := k6.setT (d := 6) (v := makesV op) (av := makesF op) (show 6 < 7 by omega) rel
  rw [wpOps_cons]
  have e6 : (a2.put (some 6) (makesV op)).eval (.tmp 6) = makesV op := by
    show (a2.put (some 6) (makesV op)).tmps.getD 6 undef = _
    rw [getD_put _ _ _ _ (by rw [k6.size]; show 6 < 7; omega), if_pos rfl]
  refine wpOp_plain rfl rfl (wp_val (d := some 2) (w' := w4) (v := makesV op) rfl ?_ ?_)
  · exact run_mv (.inr rfl) e6
  have k8 := k7.setT (d := 2) (v := makesV op) (av := makesF op) (show 2 < 7 by omega) rel
  exact aw_ret (Q := retL Try.prog Try.f90.results.toList (makesF op) []) (ret_vals (by simp; exact rfl) rfl) Γ ρ _ w4 k8
end Go.Eng
