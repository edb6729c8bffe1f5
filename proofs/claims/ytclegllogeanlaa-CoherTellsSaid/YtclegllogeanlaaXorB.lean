import Derived.Test.YtclegllogeanlaaEngD
import Derived.Test.YtclegllogeanlaaBitA
import Derived.Laws.CopyRow
import Derived.Laws.IdiomCopy
set_option autoImplicit false
set_option linter.unusedVariables false
set_option linter.unusedSimpArgs false
namespace Go.Eng
open Go Go.RowKit Go.Op
variable {P : Program}
/-! ## The complement of a word of 32 bits -/
theorem l_xor32 {o : Oper} {st : AState} {d : Nat} {x : Operand} {t : TypeId} {b : Wd} (ho : o.op = .unOp .xor t x) (hd : o.dst = some d) (hlt : d < st.n) (hx : ev st x = I .u32 (ub b)) :
    Local P o st ⟨keyO x, ⟨[(d, I .u32 (ub (~~~b)))], []⟩, []⟩ := by
  intro st2 hn hr
  refine ok_value hd (by rw [hn]; exact hlt) fun Γ ρ a w hok => ?_
  have h1 := ev_rel hok x
  rw [ev_agree hr (fun k hk => hk), hx] at h1
  have e := pv_inv h1
  have hbits : bits .xor .u32 4294967295 (ub b) = ub (~~~b) := by
    show IntKind.wrap .u32 ((BitVec.ofInt 32 4294967295 ^^^ BitVec.ofInt 32 (ub b)).toNat : Int) = _
    rw [ofInt_ub]
    have : BitVec.ofInt 32 4294967295 ^^^ b = ~~~b := by
      have h : BitVec.ofInt 32 4294967295 = BitVec.allOnes 32 := by decide
      rw [h, BitVec.allOnes_xor]
    rw [this]; exact wrap_ub _
  refine ⟨.int .u32 (ub (~~~b)), ⟨rfl, rfl⟩, ?_⟩
  have hu : (Op.unary .xor (.int .u32 (ub b))).run P w = .ok (.int .u32 (ub (~~~b))) w := by
    rw [← hbits]; rfl
  unfold execOp
  simp only [ho, e, Sem.run_bind, hu, Result.andThen_ok, Sem.run_pure]
theorem ar_xor32 {ops : Array Oper} {draw : Bool} {st0 : AState} {Q : Exit → AState → Prop} {i d : Nat} {st : AState} {acc : List Eff} {o : Oper} {x : Operand} {t : TypeId} {b : Wd} (ho : ops[i]? = some o) (hg : o.guard = none) (hop : o.op = .unOp .xor t x) (hd : o.dst = some d) (hlt : d < st.n) (hx : ev st x = I .u32 (ub b))
    (k : AR P ops draw st0 Q (i + 1, { st with t := (d, I .u32 (ub (~~~b))) :: st.t }, if draw = true then acc ++ [⟨keyO x, ⟨[(d, I .u32 (ub (~~~b)))], []⟩, []⟩] else acc)) : AR P ops draw st0 Q (i, st, acc) :=
  ar_loc (E := ⟨keyO x, ⟨[(d, I .u32 (ub (~~~b)))], []⟩, []⟩) (st1 := st) ho hg rfl (l_xor32 hop hd hlt hx) k
end Go.Eng
set_option autoImplicit false
set_option linter.unusedVariables false
set_option linter.unusedSimpArgs false
namespace Go.Eng
open Go Go.RowKit Go.Op
variable {P : Program}
/-! ## A slice of one-cell elements, copied over an own one of the same length -/
theorem slotOwn_slice {ρ : Rho} {w : World} {n : Name} {e es : Nat} {xs : List (List PV)} (h : SlotOK ρ w n (.own e es xs)) : ∃ a cap, ρ.ov n = .slice a xs.length cap := by
  obtain ⟨vs, h0, h3⟩ := h
  rcases h0 with ⟨h1, h2⟩ | ⟨h0, _, a, h2⟩
  · rcases h2 with ⟨h5, h2⟩ | ⟨g, cap, cur, h4, _⟩
    · exact ⟨none, 0, by rw [h2, h5]⟩
    · exact ⟨_, _, h4⟩
  · exact ⟨a, 0, by rw [h2, h0]⟩
theorem l_copy {o : Oper} {st : AState} {x y : Operand} {dT sT e : Nat} {n : Name} {xs ys : List (List PV)} {d : Nat} (ho : o.op = .call { callee := .builtin .copy, args := #[x, y], argTypes := #[dT, sT] }) (hd : o.dst = some d) (hlt : d < st.n)
    (hT : elemS P dT = some e) (hsz : szOf P e = some 1) (hx : ev st x = .own n) (hn : sget st.s n = some (.own e 1 xs)) (hy : ev st y = .pv (.sl 1 ys)) (hl : xs.length = ys.length) :
    Local P o st ⟨keyO x ++ keyO y ++ [.slot n], ⟨[(d, I .i64 ys.length)], [(n, some (.own e 1 ys))]⟩, []⟩ := by
  intro st2 hn' hr Γ ρ a w K Q hok hfree hk
  have hx2 : ev st2 x = .own n := by rw [ev_agree hr (fun k h => List.mem_append_left _ (List.mem_append_left _ h)), hx]
  have hy2 : ev st2 y = .pv (.sl 1 ys) := by rw [ev_agree hr (fun k h => List.mem_append_left _ (List.mem_append_right _ h)), hy]
  have hs2 : sget st2.s n = some (.own e 1 xs) := by rw [sget_agree hr (by simp), hn]
  have hv := ev_rel hok x
  rw [hx2] at hv
  have hv : a.eval x = ρ.ov n := hv
  have hw := ev_rel hok y
  rw [hy2] at hw
  obtain ⟨sa, cap, vs, k1, k2, k3, k4, k5⟩ := hw
  have hd2 : d < st2.n := by rw [hn']; exact hlt
  have hslot := hok.sok.slots n _ hs2
  have hvl := k4.length
  rw [Nat.mul_one] at hvl
  unfold Oper.wp
  by_cases h0 : ys.length = 0
  · obtain ⟨a0, c0, hov⟩ := slotOwn_slice hslot
    have hrun : (execOp a.eval o).run P w = .ok (.value (goInt 0)) w := by
      unfold execOp
      simp only [ho, resolve, invoke, builtin, Sem.run_bind, Sem.run_pure, Result.andThen_ok, List.map_toArray, List.map_cons, List.map_nil, hv, hov, k1]
      rw [run_copy_none (P := P) w dT sT o.type e a0 sa xs.length c0 ys.length cap (und_slice hT) (by simpa [szOf] using hsz) (by rw [h0]; simp)]
      simp
    rw [hrun, Oper.upon_value, hd]
    have e1 : xs = [] := List.eq_nil_of_length_eq_zero (by omega)
    have e2 : ys = [] := List.eq_nil_of_length_eq_zero h0
    subst e1; subst e2
    have h0 : Ok Γ (st2.app ⟨[], [(n, some (.own e 1 []))]⟩) ρ a w := hok.ext rfl (fun t => rfl) (fun m => by
      simp only [AState.app, List.cons_append, List.nil_append, sget]
      split
      · rename_i hm; subst hm; rw [hs2]
      · rfl)
    exact hk _ _ _ (h0.setT (d := d) (av := I .i64 0) (v := .int .i64 0) hd2 ⟨rfl, rfl⟩)
  · obtain ⟨g, cp, cur, us, h2, h3, h4, h5, h6, rfl, h6'⟩ := own_form hslot (by omega)
    obtain ⟨ad, rfl, had, hcell⟩ : ∃ ad, sa = some ad ∧ ρ.F ad.block ∧ ∀ j u, vs[j]? = some u → w.cell? (ad.add j) = some u := by
      rcases k5 with rfl | h
      · simp at hvl; omega
      · exact h
    rw [Nat.mul_one] at h6
    have hmin : vs.length = Nat.min ys.length xs.length := by rw [hvl, hl]; simp
    have hrun0 := run_copy_row (P := P) w dT sT o.type e g 0 xs.length cp ad ys.length cap cur e vs (und_slice hT) (by simpa [szOf] using hsz) h3 hmin hcell (by omega) k4.one'
    have hrun : (execOp a.eval o).run P w = .ok (.value (goInt vs.length)) (w.setRow g (cur.toList.take 0 ++ vs ++ cur.toList.drop (0 + vs.length)).toArray) := by
      unfold execOp
      simp only [ho, resolve, invoke, builtin, Sem.run_bind, Sem.run_pure, Result.andThen_ok, List.map_toArray, List.map_cons, List.map_nil, hv, h2, k1, hrun0]
    rw [hrun, Oper.upon_value, hd]
    simp only [List.take_zero, List.nil_append, Nat.zero_add]
    have hc0 : cp ≠ 0 := by omega
    have hblk : slotBlk ρ n (.own e 1 xs) = some g := by simp [slotBlk, h2, ownBlk, hc0]
    have hnF : ¬ρ.F g := hok.sok.sep n _ _ hs2 hblk
    generalize hnew : vs ++ cur.toList.drop vs.length = new at *
    have k : Keep ρ.F w ρ.F (w.setRow g new.toArray) := ⟨fun _ h => h, fun b hb => setRow_other w _ b _ (fun e => hnF (by rw [← e]; exact hb))⟩
    have hnl : new.length = cp := by
      rw [← hnew]; simp only [List.length_append, List.length_drop, Array.length_toList, h6]; omega
    have hfin := hok.slot (ρ' := ρ) n (some (.own e 1 ys)) rfl (fun _ => rfl) (fun _ _ => ⟨rfl, rfl⟩) (.inl ⟨rfl, rfl⟩) (some g) (setRow_grown w _ _)
      (fun b hb => by cases hb; exact ⟨_, hs2, hblk⟩)
      (fun s hs' => by
        cases hs'
        refine ⟨new.take ys.length, .inl ⟨by rw [List.length_take, hnl, Nat.mul_one]; omega, .inr ⟨g, cp, new.toArray, by rw [h2, hl], by omega, setRow_heap w _ cur _ _ _ h3, by omega, h5, by simp [hnl], by simp⟩⟩, ?_⟩
        have e1 : new.take ys.length = vs := by rw [← hnew, ← hvl]; simp
        rw [e1]
        exact PElems.keep k _ _ k4)
      (fun s b hs' hb => by cases hs'; exact .inr (by simpa [slotBlk, h2, ownBlk, hc0, eq_comm] using hb))
    refine hk _ _ _ (hfin.setT (d := d) (av := I .i64 ys.length) (v := goInt vs.length) hd2 ⟨by rw [hvl]; rfl, rfl⟩)
theorem ar_copy {ops : Array Oper} {draw : Bool} {st0 : AState} {Q : Exit → AState → Prop} {i d : Nat} {st : AState} {acc : List Eff} {o : Oper} {x y : Operand} {dT sT e : Nat} {n : Name} {xs ys : List (List PV)} (ho : ops[i]? = some o) (hg : o.guard = none) (hop : o.op = .call { callee := .builtin .copy, args := #[x, y], argTypes := #[dT, sT] }) (hd : o.dst = some d) (hlt : d < st.n)
    (hT : elemS P dT = some e) (hsz : szOf P e = some 1) (hx : ev st x = .own n) (hn : sget st.s n = some (.own e 1 xs)) (hy : ev st y = .pv (.sl 1 ys)) (hl : xs.length = ys.length)
    (k : AR P ops draw st0 Q (i + 1, st.app ⟨[(d, I .i64 ys.length)], [(n, some (.own e 1 ys))]⟩, if draw = true then acc ++ [⟨keyO x ++ keyO y ++ [.slot n], ⟨[(d, I .i64 ys.length)], [(n, some (.own e 1 ys))]⟩, []⟩] else acc)) : AR P ops draw st0 Q (i, st, acc) :=
  ar_loc (E := ⟨keyO x ++ keyO y ++ [.slot n], ⟨[(d, I .i64 ys.length)], [(n, some (.own e 1 ys))]⟩, []⟩) (st1 := st) ho hg rfl (l_copy hop hd hlt hT hsz hx hn hy hl) k
end Go.Eng
