import Derived.Test.YtpohlijehadklaaGreatExecE
import Derived.Test.YtpohlijehadklaaGreatExecA
import Derived.Test.YtpohlijehadklaaGreatValsH
import Derived.Test.YtpohlijehadklaaGreatTestD
import Derived.Test.YtpohlijehadklaaGreatEngE
import Derived.Test.YtpohlijehadklaaGreatEngC
set_option linter.unusedSimpArgs false
set_option linter.unusedVariables false
set_option linter.constructorNameAsVariable false
set_option autoImplicit false
namespace Go.Eng
open Go Go.RowKit Go.Proofs
theorem tell_pos {th : List In} {locs : Int} {vals : List Int} (hv : 0 < vals.length) (h4 : ldN th ≤ 4) : ∀ (f : Nat) (v : List Int) (b : List Bool), v.length ≤ 4 → b.length ≤ 8 → meas v b < f → 0 < (tellF th locs vals f v b).length
  | 0, v, b, _, _, h => by omega
  | f + 1, v, b, hvl, hbl, hm => by
    obtain ⟨w1, w2, w3⟩ := run_wants (th := th) (locs := locs) (vals := v) (lucks := b)
    rw [tellF]
    split
    · simp
    split
    · rename_i h1
      have hlt := (w1 h1).1
      cases vals with
      | nil => simp at hv
      | cons n vals =>
        rw [List.flatMap_cons, List.length_append]
        have := tell_pos (locs := locs) (vals := n :: vals) hv h4 f (v ++ [n]) b (by simp; omega) hbl (by unfold meas at hm ⊢; simp; omega)
        omega
    · rename_i h0 h1
      have hlt := w2 (by omega)
      rw [List.length_append]
      have := tell_pos (locs := locs) hv h4 f v (b ++ [true]) hvl (by simp; omega) (by unfold meas at hm ⊢; simp; omega)
      omega
theorem traces_pos {th : List In} {locs : Int} {vals : List Int} (hv : 0 < vals.length) (h4 : ldN th ≤ 4) : 0 < (tracesF th locs vals).length := by
  unfold tracesF
  rw [if_neg (by omega)]
  exact tell_pos hv h4 13 [] [] (by simp) (by simp) (by decide)
theorem kcT_mem {t : List (List In)} : ∀ th ∈ t, (ldN th : Int) ≤ kcT 1 t := by
  induction t with
  | nil => simp
  | cons a t ih =>
    intro th h
    rw [kcT]
    have h1 := (kc_bnd 1 a).1
    have h2 := kcT_nn 1 t
    rcases List.mem_cons.1 h with rfl | h
    · have h3 : kc 1 th = (ldN th : Int) := rfl
      omega
    · have := ih th h; omega
theorem ok_loads {i : List Int} {t : List (List In)} (h : okTest i t = true) : ∀ th ∈ t, ldN th ≤ 4 := by
  obtain ⟨_, _, h3⟩ := okTest_iff.1 h
  simp [fullF] at h3
  intro th hth
  have := kcT_mem th hth
  omega
def prodF (L : Int) (l : List Int) : List (List In) → Nat
  | [] => 1
  | th :: t => (tracesF th L l).length * prodF L l t
theorem prod_pos {L : Int} {l : List Int} : ∀ {t : List (List In)}, (∀ th ∈ t, 0 < (tracesF th L l).length) → 0 < prodF L l t
  | [], _ => Nat.one_pos
  | th :: t, h => Nat.mul_pos (h th (by simp)) (prod_pos fun x hx => h x (by simp [hx]))
theorem ways_len {L : Int} {l : List Int} : ∀ {t : List (List In)} {ws : List (List Rn)}, (∀ th ∈ t, 0 < (tracesF th L l).length) → ws.length ≤ 20000 →
    (∃ w, waysF L l t ws = some w ∧ w.length = ws.length * prodF L l t ∧ w.length ≤ 20000) ∨ (waysF L l t ws = none ∧ 20000 < ws.length * prodF L l t)
  | [], ws, _, h => .inl ⟨ws, rfl, by simp [prodF], h⟩
  | th :: t, ws, hp, h => by
    have hpt : ∀ x ∈ t, 0 < (tracesF x L l).length := fun x hx => hp x (by simp [hx])
    have h1 := prod_pos hpt
    have e : ws.length * prodF L l (th :: t) = (ws.length * (tracesF th L l).length) * prodF L l t := by rw [prodF, Nat.mul_assoc]
    rw [waysF, e]
    by_cases hb : 20000 < ws.length * (tracesF th L l).length
    · rw [if_pos hb]
      exact .inr ⟨rfl, Nat.lt_of_lt_of_le hb (Nat.le_mul_of_pos_right _ h1)⟩
    · rw [if_neg hb]
      have hn := nextW_len (tracesF th L l) ws
      rw [← hn]
      exact ways_len hpt (by omega)
theorem ways_mem {L : Int} {l : List Int} {P : Rn → Prop} : ∀ {t : List (List In)} {ws w : List (List Rn)}, (∀ th ∈ t, ∀ R ∈ tracesF th L l, P R) → (∀ v ∈ ws, ∀ R ∈ v, P R) → waysF L l t ws = some w → ∀ v ∈ w, ∀ R ∈ v, P R
  | [], ws, w, _, h, e => by rw [waysF] at e; cases e; exact h
  | th :: t, ws, w, hp, h, e => by
    rw [waysF] at e
    split at e
    · cases e
    · refine ways_mem (fun x hx => hp x (by simp [hx])) (fun v hv R hR => ?_) e
      obtain ⟨u, hu, hv⟩ := List.mem_flatMap.1 hv
      obtain ⟨x, hx, rfl⟩ := List.mem_map.1 hv
      rcases List.mem_append.1 hR with hR | hR
      · exact h u hu R hR
      · rw [List.mem_singleton] at hR; rw [hR]; exact hp th (by simp) x hx
theorem ways_size {L : Int} {l : List Int} : ∀ {t : List (List In)} {ws w : List (List Rn)} {n : Nat}, (∀ v ∈ ws, v.length = n) → waysF L l t ws = some w → ∀ v ∈ w, v.length = n + t.length
  | [], ws, w, n, h, e => by rw [waysF] at e; cases e; exact h
  | th :: t, ws, w, n, h, e => by
    rw [waysF] at e
    split at e
    · cases e
    · have := ways_size (n := n + 1) (fun v hv => by
        obtain ⟨u, hu, hv⟩ := List.mem_flatMap.1 hv
        obtain ⟨x, hx, rfl⟩ := List.mem_map.1 hv
        rw [List.length_append, h u hu]; rfl) e
      intro v hv
      rw [this v hv, List.length_cons]; omega
theorem up_mem {e : Ex} {b : Nat} {th : Int} {R : Rn} : ∀ i, i ≤ R.es.length → ∀ y ∈ (e.up b th R i).es, y ∈ e.es ∨ ∃ x ∈ R.es, y = { x with th := th }
  | 0, _, y, h => .inl h
  | i + 1, hi, y, h => by
    rcases List.mem_append.1 h with h | h
    · exact up_mem i (by omega) y h
    · rw [List.mem_singleton] at h
      exact .inr ⟨R.es[i], List.getElem_mem _, by rw [h, getD_at (by omega)]⟩
theorem up_sorted {e : Ex} {b : Nat} {th : Int} {R : Rn} (h0 : 0 ≤ th) (hs : (e.es.map (·.th)).Pairwise (· ≤ ·)) (hm : ∀ y ∈ e.es, 0 ≤ y.th ∧ y.th ≤ th) : ∀ i, ((e.up b th R i).es.map (·.th)).Pairwise (· ≤ ·) ∧ ∀ y ∈ (e.up b th R i).es, 0 ≤ y.th ∧ y.th ≤ th
  | 0 => ⟨hs, hm⟩
  | i + 1 => by
    obtain ⟨h1, h2⟩ := up_sorted h0 hs hm i (b := b) (R := R)
    refine ⟨?_, fun y hy => ?_⟩
    · rw [Ex.up, Ex.step]
      dsimp only
      rw [List.map_append, List.pairwise_append]
      refine ⟨h1, by simp, fun x hx y hy => ?_⟩
      obtain ⟨z, hz, rfl⟩ := List.mem_map.1 hx
      simp only [List.map_cons, List.map_nil, List.mem_singleton] at hy
      rw [hy]; exact (h2 z hz).2
    · rcases List.mem_append.1 hy with hy | hy
      · exact h2 y hy
      · rw [List.mem_singleton] at hy; rw [hy]; exact ⟨h0, Int.le_refl _⟩
structure JoinQ (P : Ev → Prop) (n : Nat) (e : Ex) : Prop where
  ev : ∀ y ∈ e.es, P y
  th : ∀ y ∈ e.es, 0 ≤ y.th ∧ y.th < (n : Int)
  up : (e.es.map (·.th)).Pairwise (· ≤ ·)
theorem join_q {P : Ev → Prop} (hP : ∀ x th, P x → P { x with th := th }) {m : Nat} {ts : List Rn} (h : ∀ R ∈ ts, ∀ x ∈ R.es, P x) : ∀ i, i ≤ ts.length → JoinQ P i (joinUp m ts i)
  | 0, _ => ⟨by simp [joinUp], by simp [joinUp], by simp [joinUp]⟩
  | i + 1, hi => by
    have q := join_q hP (m := m) h i (by omega)
    rw [joinUp, getD_at (by omega)]
    generalize joinUp m ts i = e at *
    have hs := up_sorted (b := e.es.length) (R := ts[i]) (th := (i : Int)) (by omega) q.up (fun y hy => by have := q.th y hy; omega) ts[i].es.length
    refine ⟨fun y hy => ?_, fun y hy => ?_, hs.1⟩
    · rcases up_mem ts[i].es.length (Nat.le_refl _) y hy with hy | ⟨x, hx, rfl⟩
      · exact q.ev y hy
      · exact hP x _ (h _ (List.getElem_mem _) x hx)
    · have := hs.2 y hy; omega
theorem all_many {i : List Int} {t : List (List In)} (h : (ofF i t).2 = 0) :
    (20000 < prodF i.length (ofF i t).1 t ∧ allF i t = ([], 3)) ∨ (prodF i.length (ofF i t).1 t ≤ 20000 ∧ (allF i t).2 = 0 ∧ (allF i t).1.length = prodF i.length (ofF i t).1 t ∧ 0 < prodF i.length (ofF i t).1 t) := by
  have hpos : ∀ th ∈ t, 0 < (tracesF th i.length (ofF i t).1).length := fun th hh => traces_pos (of_closed h).pos (ok_loads (of_ok h) th hh)
  unfold allF
  rw [if_pos h]
  rcases ways_len (ws := [[]]) hpos (by simp) with ⟨w, h1, h2, h3⟩ | ⟨h1, h2⟩
  · right
    rw [h1]
    simp only [List.length_cons, List.length_nil, Nat.zero_add, Nat.one_mul] at h2
    exact ⟨by omega, rfl, by simpa using h2, prod_pos hpos⟩
  · left
    rw [h1]
    simp only [List.length_cons, List.length_nil, Nat.zero_add, Nat.one_mul] at h2
    exact ⟨h2, rfl⟩
theorem all_bad {i : List Int} {t : List (List In)} (h : ¬(ofF i t).2 = 0) : allF i t = ([], (ofF i t).2) := by
  unfold allF; rw [if_neg h]
end Go.Eng
set_option linter.unusedSimpArgs false
set_option linter.unusedVariables false
set_option linter.constructorNameAsVariable false
set_option autoImplicit false
namespace Go.Eng
open Go Go.RowKit Go.Proofs
def xTh : List In := [⟨6, 0, -1, 0, 0, 0⟩]
theorem xTh_wf : ∀ x ∈ xTh, wfIn x := by
  intro x hx
  simp only [xTh, List.mem_cons, List.not_mem_nil, or_false] at hx
  rcases hx with rfl <;> exact ⟨by decide, by decide, by decide, by decide, by decide, by decide⟩
theorem xAll1 : (allF [0] [xTh, xTh]).2 = 0 := by kernel_rfl
theorem xAll2 : (allF [0] [xTh, xTh]).1.map (fun e => (e.es.length, (pairsR e.po).length, e.po.length)) = [(2, 0, 2)] := by kernel_rfl
set_option maxHeartbeats 16000000 in
theorem c_shown10 : SC Tryz.prog 4 [] (B true) := by
  have h := c_All (i := [0]) (t := [xTh, xTh]) ⟨by decide, by decide, by intro l hl; simp only [List.mem_cons, List.not_mem_nil, or_false] at hl; rcases hl with rfl | rfl <;> decide⟩ (by intro th h; simp only [List.mem_cons, List.not_mem_nil, or_false] at h; rcases h with rfl | rfl <;> exact xTh_wf)
  have h1 := xAll1
  have h2 := xAll2
  generalize allF [0] [xTh, xTh] = p at *
  obtain ⟨l, e⟩ := p
  dsimp only at h h1 h2
  subst h1
  obtain ⟨x, rfl⟩ : ∃ x, l = [x] := by
    cases l with
    | nil => cases h2
    | cons x l => cases l with
      | nil => exact ⟨x, rfl⟩
      | cons y l => simp at h2
  simp only [List.map_cons, List.map_nil, List.cons.injEq, Prod.mk.injEq, and_true] at h2
  obtain ⟨a1, a2, a3⟩ := h2
  have hA : SC Tryz.prog 6 [.agg [.sl 1 [[C .i64 0]], .sl 1 [[.sl 6 [[C .i64 6, C .i64 0, C .i64 (-1), C .i64 0, C .i64 0, C .i64 0]]], [.sl 6 [[C .i64 6, C .i64 0, C .i64 (-1), C .i64 0, C .i64 0, C .i64 0]]]]]] (.tup [.pv (.sl 7 [exA x]), I .i64 0]) := h
  have hP := c_pairsV (r := x.po) (by rw [a3]; decide)
  generalize pairsR x.po = ps at *
  have a1' : (x.es.length : Int) = 2 := by omega
  have a2' : (ps.length : Int) = 0 := by omega
  refine scx_of Tryz.func4 rfl rfl rfl (Nat.le_of_ble_eq_true rfl) ?_
  refine aw_sregK 0 [] ?_
  refine ar_go3 _ rfl (by simp; exact ⟨rfl, rfl, rfl⟩) rfl ?_
  refine ar_end rfl ?_
  refine aw_seq ?_
  refine aw_region ?_
  refine ar_go3 _ rfl (by simp; exact ⟨rfl, rfl, rfl⟩) rfl ?_
  refine ar_fin rfl ?_
  refine tq_norm ?_
  refine aw_frz (.loc 5) (by simp; exact rfl) ?_
  repeat' (first
 | exact aw_ret (ret_vals (by simp; exact rfl) (by simp [*]; fail_if_success (show _)))
 | refine ar_end rfl ?_
 | refine ar_callV Tryz.call6 hA rfl rfl rfl rfl rfl (by simp; done) (by rfl) (by simp; done) ?_
 | refine ar_callV_if Tryz.call10 hP rfl rfl rfl rfl rfl rfl (by simp; done) rfl (by rfl) (by simp; done) ?_
 | refine ar_frz rfl rfl (by simp; exact rfl) rfl (by simp; fail_if_success (show _)) (by simp; exact rfl) (by simp; exact rfl) rfl (by simp; fail_if_success (show _)) ?_
 | refine ar_go3 _ rfl (by simp [evsL_len, prs_len, a1, a1', a2, a2']; exact ⟨rfl, rfl, rfl⟩) rfl ?_
 | refine aw_sregK 2 [1] ?_
 | refine aw_sregK 3 [2, 3] ?_)
end Go.Eng
