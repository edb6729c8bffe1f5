import Derived.Test.YtamjcdfjkekdjaaTestD
import Derived.Test.YtamjcdfjkekdjaaValsH
import Derived.Test.YtamjcdfjkekdjaaEngE
import Derived.Test.YtamjcdfjkekdjaaEngD
set_option linter.unusedSimpArgs false
set_option linter.unusedVariables false
set_option linter.constructorNameAsVariable false
set_option autoImplicit false
namespace Go.Eng
open Go Go.RowKit Go.Proofs
set_option maxHeartbeats 16000000 in
theorem c_NumsV {l : List Int} (hl : l.length ≤ maxLen) : SC Try.prog 76 [.pv (.sl 1 (ints l)), .pv (.sl 1 (ints l))] (B true) := by
  refine scx_of Try.func76 rfl rfl rfl (Nat.le_of_ble_eq_true rfl) ?_
  repeat' (first
 | refine ar_end rfl ?_
 | refine ar_go3 _ rfl (by simp [ints_len]; exact ⟨rfl, rfl, rfl⟩) rfl ?_
 | refine aw_sregK 0 [0, 1] ?_
 | refine aw_sregK 1 [0, 1] ?_
 | refine aw_sregK 3 [0, 1] ?_
 | refine aw_ifF (b := false) rfl rfl ?_
 | refine aw_seq ?_
 | refine aw_block ?_
 | refine aw_skip ?_)
  refine aw_loopN [0, 1, 5] [] (by simp; exact rfl) (ι := {i : Nat // i ≤ l.length}) (fun i => ⟨26, [(0, .pv (.sl 1 (ints l))), (1, .pv (.sl 1 (ints l))), (5, I .i64 i.1)], []⟩) (fun i => l.length - i.1) ⟨0, by omega⟩ (by simp) ?_
  rintro ⟨i, hi⟩
  by_cases hlt : i < l.length
  · have hw := wrap_succ hlt hl
    have hc : (i : Int) < (l.length : Int) := by omega
    repeat' (first
 | refine ar_end rfl ?_
 | refine ar_endD rfl (by kernel_rfl) ?_
 | refine ar_fin rfl ?_
 | refine lq_normN [0, 1, 5] [] (by simp; exact rfl) ⟨i + 1, by omega⟩ (by dsimp only; omega) (by simp)
 | refine ar_go3 _ rfl (by simp [ints_len, ints_getE, hlt, hw, hc]; exact ⟨rfl, rfl, rfl⟩) rfl ?_
 | refine aw_sregK 4 [0, 1, 5] ?_
 | refine aw_regK 5 [0, 1, 5] ?_
 | refine aw_sregKD mixed 6 [0, 1, 5] (by simp; exact rfl) ?_
 | refine aw_ifT (b := true) rfl rfl ?_
 | refine aw_ifF (b := false) rfl rfl ?_
 | refine aw_seq ?_
 | refine aw_block ?_
 | refine aw_skip ?_)
  · have hc : ¬(i : Int) < (l.length : Int) := by omega
    repeat' (first
 | exact aw_ret (ret_vals (by simp; exact rfl) (by simp [*]; fail_if_success (show _)))
 | refine ar_end rfl ?_
 | refine ar_go3 _ rfl (by simp [ints_len, hc]; exact ⟨rfl, rfl, rfl⟩) rfl ?_
 | refine aw_sregK 4 [0, 1, 5] ?_
 | refine aw_sregK 8 [] ?_
 | refine aw_ifF (b := false) rfl rfl ?_
 | refine aw_seq ?_
 | refine aw_exit ?_)
end Go.Eng
set_option linter.unusedSimpArgs false
set_option linter.unusedVariables false
set_option linter.constructorNameAsVariable false
set_option autoImplicit false
namespace Go.Eng
open Go Go.RowKit Go.Proofs
theorem ar_frzV_if {P : Program} {ops : Array Oper} {draw : Bool} {st0 : AState} {Q : Exit → AState → Prop} {i j dj : Nat} {b : Bool} {st : AState} {acc : List Eff} {o : Oper} {x : Operand} {args : Array Operand} {ats : Array TypeId} {f : FuncId} {fi ca : List AV} {cargs : List AV} {res : AV} {d : Nat} {L : List Nat} {E0 : Eff}
    (hent : Enters P f) (hsc : SC P f cargs res) (ho : ops[i]? = some o) (hg : o.guard = some (j, b)) (hj : (ops[j]?).bind (·.dst) = some dj) (hv : tget st.t dj = .pv (.v (.bool b))) (hop : o.op = .call { callee := .value x, args, argTypes := ats }) (hd : o.dst = some d) (hL : ownTs st args.toList = L) (hne : L ≠ []) (h0 : frzE st L = some E0) (hx : ev (st.app E0.u) x = .fn f fi ca) (hlt : d < (st.app E0.u).n)
    (hargs : fi ++ (args.toList.map (ev (st.app E0.u)) ++ ca) = cargs) (hp : AV.renL [] cargs = cargs ∧ res.okN [] [] [] = true ∧ res.ren [] = res)
    (k : AR P ops draw st0 Q (i + 1, st.app (seqE E0 ⟨keyO x ++ keysL args.toList, ⟨[(d, res)], []⟩, []⟩).u, if draw = true then acc ++ [{ seqE E0 ⟨keyO x ++ keysL args.toList, ⟨[(d, res)], []⟩, []⟩ with r := .tmp dj :: (seqE E0 ⟨keyO x ++ keysL args.toList, ⟨[(d, res)], []⟩, []⟩).r }] else acc)) : AR P ops draw st0 Q (i, st, acc) := by
  have hl := l_callV (P := P) (o := o) (st := st.app E0.u) hop hx (by rw [hp.1, hargs]) hent hsc hp.2.1 (fun d' h' => by rw [hd] at h'; cases h'; exact hlt)
  rw [hd, hp.2.2] at hl
  exact ar_loc_if (st1 := st) (E := seqE E0 ⟨keyO x ++ keysL args.toList, ⟨[(d, res)], []⟩, []⟩) ho hg hj hv rfl (l_pre (frzE_ghost h0) (by intro n hn; cases hn) hl) k
def vTh : List In := [⟨5, 1, -1, 0, 0, 0⟩, ⟨1, 2, 0, 0, 0, 1⟩, ⟨2, 1, 1, 2, 0, 0⟩, ⟨6, 0, -1, 1, 0, 0⟩]
theorem vOf : ofF [0] [vTh] = ([0, 1], 0) := by kernel_rfl
theorem vTr : (tracesF vTh 1 [0, 5, 9]).length = 3 := by kernel_rfl
theorem vTh_wf : ∀ x ∈ vTh, wfIn x := by
  intro x hx
  simp only [vTh, List.mem_cons, List.not_mem_nil, or_false] at hx
  rcases hx with rfl | rfl | rfl | rfl <;> exact ⟨by decide, by decide, by decide, by decide, by decide, by decide⟩
set_option maxHeartbeats 16000000 in
theorem c_OfX : SC Try.prog 79 [.agg [.sl 1 [[C .i64 0]], .sl 1 [[.sl 6 [[C .i64 5, C .i64 1, C .i64 (-1), C .i64 0, C .i64 0, C .i64 0], [C .i64 1, C .i64 2, C .i64 0, C .i64 0, C .i64 0, C .i64 1], [C .i64 2, C .i64 1, C .i64 1, C .i64 2, C .i64 0, C .i64 0], [C .i64 6, C .i64 0, C .i64 (-1), C .i64 1, C .i64 0, C .i64 0]]]]]] (.tup [.pv (.sl 1 [[C .i64 0], [C .i64 1]]), I .i64 0]) := by
  have h := c_Of (i := [0]) (t := [vTh]) ⟨by decide, by decide, by intro l hl; simp only [List.mem_singleton] at hl; subst hl; decide⟩ (by intro th h; simp only [List.mem_singleton] at h; subst h; exact vTh_wf)
  rw [vOf] at h
  exact h
set_option maxHeartbeats 16000000 in
theorem c_NumsX : SC Try.prog 76 [.pv (.sl 1 [[C .i64 0], [C .i64 1]]), .pv (.sl 1 [[C .i64 0], [C .i64 1]])] (B true) := c_NumsV (l := [0, 1]) (by decide)
set_option maxHeartbeats 16000000 in
theorem c_shown9 : SC Try.prog 72 [] (B true) := by
  have hT : SC Try.prog 73 [.pv (.sl 6 [[C .i64 5, C .i64 1, C .i64 (-1), C .i64 0, C .i64 0, C .i64 0], [C .i64 1, C .i64 2, C .i64 0, C .i64 0, C .i64 0, C .i64 1], [C .i64 2, C .i64 1, C .i64 1, C .i64 2, C .i64 0, C .i64 0], [C .i64 6, C .i64 0, C .i64 (-1), C .i64 1, C .i64 0, C .i64 0]]), I .i64 1, .pv (.sl 1 [[C .i64 0], [C .i64 5], [C .i64 9]])] (.pv (.sl 16 (trsL (tracesF vTh 1 [0, 5, 9])))) := c_Traces (th := vTh) (locs := 1) (vals := [0, 5, 9]) (by decide) (by decide)
  have h3 := vTr
  generalize tracesF vTh 1 [0, 5, 9] = ts at *
  have h3' : (ts.length : Int) = 3 := by omega
  refine scx_of Try.func72 rfl rfl rfl (Nat.le_of_ble_eq_true rfl) ?_
  refine aw_sregK 0 [] ?_
  refine ar_go3 _ rfl (by simp; exact ⟨rfl, rfl, rfl⟩) rfl ?_
  refine ar_end rfl ?_
  refine aw_seq ?_
  refine aw_region ?_
  refine ar_go3 _ rfl (by simp; exact ⟨rfl, rfl, rfl⟩) rfl ?_
  refine ar_fin rfl ?_
  refine tq_norm ?_
  refine aw_frz (.loc 8) (by simp; exact rfl) ?_
  repeat' (first
 | exact aw_ret (ret_vals (by simp; exact rfl) (by simp [*]; fail_if_success (show _)))
 | refine ar_end rfl ?_
 | refine ar_callV Try.call79 c_OfX rfl rfl rfl rfl rfl (by simp; done) (by rfl) (by simp; done) ?_
 | refine ar_frz rfl rfl (by simp; exact rfl) rfl (by simp; fail_if_success (show _)) (by simp; exact rfl) (by simp; exact rfl) rfl (by simp; fail_if_success (show _)) ?_
 | refine ar_frzV_if Try.call76 c_NumsX rfl rfl rfl rfl rfl rfl (by simp; exact rfl) (by simp; fail_if_success (show _)) (by simp; exact rfl) rfl (by simp; done) (by first | (simp; done) | (simp; exact rfl)) ⟨by rfl, by rfl, by rfl⟩ ?_
 | refine ar_frzV_if Try.call73 hT rfl rfl rfl rfl rfl rfl (by simp; exact rfl) (by simp; fail_if_success (show _)) (by simp; exact rfl) rfl (by simp; done) (by first | (simp; done) | (simp; exact rfl)) ⟨by rfl, by rfl, by rfl⟩ ?_
 | refine ar_go3 _ rfl (by simp [trsL_len, h3, h3']; exact ⟨rfl, rfl, rfl⟩) rfl ?_
 | refine aw_sregK 2 [1] ?_
 | refine aw_sregK 3 [1, 2, 3] ?_)
theorem ofN_len {L : Int} {t : List (List In)} : ∀ (n : Nat) (l : List Int), l.length ≤ 10 → (ofN L t n l).1.length ≤ 10
  | 0, l, h => by simpa [ofN] using h
  | n + 1, l, h => by
    rw [ofN]
    split
    · simp
    · exact ofN_len n _ (by omega)
theorem ofF_len {i : List Int} {t : List (List In)} (hf : Few i t) : (ofF i t).1.length ≤ maxLen := by
  have hM : maxLen = 9223372036854775807 := rfl
  unfold ofF
  split
  · have := ofN_len (L := i.length) (t := t) (kcT 2 t).toNat (sortU i) (Nat.le_trans (sortU_le i) hf.1)
    omega
  · simp
set_option maxHeartbeats 16000000 in
theorem law_ValsOf {i : List Int} {t : List (List In)} (hth : ∀ th ∈ t, ∀ x ∈ th, wfIn x) : SC Try.prog 26 [.agg (testL i t)] (B true) := by
  cases hfb : fewB i t
  · refine scx_of Try.func26 rfl rfl rfl (Nat.le_of_ble_eq_true rfl) ?_
    repeat' (first
 | exact aw_ret (ret_vals (by simp; exact rfl) (by simp [*]; fail_if_success (show _)))
 | refine ar_end rfl ?_
 | refine ar_callV Try.call72 c_shown9 rfl rfl rfl rfl rfl (by simp; done) (by rfl) (by simp; done) ?_
 | refine ar_callV Try.call54 c_Few rfl rfl rfl rfl rfl (by simp; done) (by rfl) (by simp; done) ?_
 | refine ar_go3 _ rfl (by simp [hfb]; exact ⟨rfl, rfl, rfl⟩) rfl ?_
 | refine aw_sregK 0 [0] ?_
 | refine aw_sregK 1 [1] ?_
 | refine aw_sregK 2 [1, 3] ?_
 | refine aw_sregK 3 [3] ?_
 | refine aw_ifT (b := true) rfl rfl ?_
 | refine aw_seq ?_)
  · have hf := fewB_iff.1 hfb
    have hO := c_Of hf hth
    have hR := c_r9Of hf hth
    have hlen : (ofF i t).1.length ≤ maxLen := ofF_len hf
    generalize ofF i t = p at *
    have hN := c_NumsV hlen
    refine scx_of Try.func26 rfl rfl rfl (Nat.le_of_ble_eq_true rfl) ?_
    repeat' (first
 | exact aw_ret (ret_vals (by simp; exact rfl) (by simp [*]; fail_if_success (show _)))
 | refine ar_end rfl ?_
 | refine ar_callV Try.call72 c_shown9 rfl rfl rfl rfl rfl (by simp; done) (by rfl) (by simp; done) ?_
 | refine ar_callV Try.call54 c_Few rfl rfl rfl rfl rfl (by simp; done) (by rfl) (by simp; done) ?_
 | refine ar_callV Try.call79 hO rfl rfl rfl rfl rfl (by simp; done) (by rfl) (by simp; done) ?_
 | refine ar_callV Try.call80 hR rfl rfl rfl rfl rfl (by simp; done) (by rfl) (by simp; done) ?_
 | refine ar_callV_if Try.call76 hN rfl rfl rfl rfl rfl rfl (by simp; done) rfl (by rfl) (by simp; done) ?_
 | refine ar_go3 _ rfl (by simp [hfb]; exact ⟨rfl, rfl, rfl⟩) rfl ?_
 | refine aw_sregK 0 [0] ?_
 | refine aw_sregK 1 [1] ?_
 | refine aw_sregK 2 [1, 3] ?_
 | refine aw_sregK 4 [1, 3] ?_
 | refine aw_sregK 5 [1, 3, 4, 5] ?_
 | refine aw_sregK 6 [3, 4, 5, 6, 7] ?_
 | refine aw_ifF (b := false) rfl rfl ?_
 | refine aw_seq ?_
 | refine aw_skip ?_)
end Go.Eng
