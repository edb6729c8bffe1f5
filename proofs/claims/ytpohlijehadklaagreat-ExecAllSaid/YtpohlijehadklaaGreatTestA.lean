import Derived.Test.YtpohlijehadklaaGreatKitRef
import Derived.Test.YtpohlijehadklaaGreatEngC
set_option linter.unusedSimpArgs false
set_option linter.unusedVariables false
set_option linter.constructorNameAsVariable false
set_option autoImplicit false
namespace Go.Eng
open Go Go.RowKit Go.Proofs
structure In where
  op : Int
  d : Int
  a : Int
  b : Int
  l : Int
  m : Int
def inL (x : In) : List PV := [C .i64 x.op, C .i64 x.d, C .i64 x.a, C .i64 x.b, C .i64 x.l, C .i64 x.m]
def insL (l : List In) : List (List PV) := l.map inL
def thsL (t : List (List In)) : List (List PV) := t.map fun l => [.sl 6 (insL l)]
abbrev testL (i : List Int) (t : List (List In)) : List PV := [.sl 1 (ints i), .sl 1 (thsL t)]
theorem insL_len {l : List In} : (insL l).length = l.length := by simp [insL]
theorem thsL_len {l : List (List In)} : (thsL l).length = l.length := by simp [thsL]
theorem insL_getE {l : List In} {i : Nat} (h : i < (insL l).length) : (insL l)[i] = inL (l[i]'(by simpa [insL] using h)) := by simp [insL]
theorem thsL_getE {l : List (List In)} {i : Nat} (h : i < (thsL l).length) : (thsL l)[i] = [.sl 6 (insL (l[i]'(by simpa [thsL] using h)))] := by simp [thsL]
/-- How many of a kind there are. -/
def kc (k : Int) (l : List In) : Int := (l.filter (fun x => decide (kindF x.op = k))).length
theorem kc_bnd (k : Int) (l : List In) : 0 ≤ kc k l ∧ kc k l ≤ l.length := by
  unfold kc; have := List.length_filter_le (fun x : In => decide (kindF x.op = k)) l; omega
theorem kc_nil (k : Int) : kc k [] = 0 := rfl
theorem kc_succ (k : Int) {l : List In} {i : Nat} (h : i < l.length) : kc k (l.take (i + 1)) = kc k (l.take i) + (if kindF (l[i]).op = k then 1 else 0) := by
  unfold kc
  rw [List.take_add_one, List.getElem?_eq_getElem h, List.filter_append]
  simp only [Option.toList, List.length_append, List.filter_cons, List.filter_nil]
  split <;> split <;> simp_all
theorem kc_take_bnd (k : Int) (l : List In) (i : Nat) : 0 ≤ kc k (l.take i) ∧ kc k (l.take i) ≤ l.length := by
  have := kc_bnd k (l.take i)
  have := List.length_take_le i l
  have : ((l.take i).length : Int) ≤ l.length := by rw [List.length_take]; omega
  omega
def kcT (k : Int) : List (List In) → Int
  | [] => 0
  | l :: t => kc k l + kcT k t
theorem kcT_append (k : Int) : ∀ (s t : List (List In)), kcT k (s ++ t) = kcT k s + kcT k t
  | [], t => by simp [kcT]
  | l :: s, t => by simp only [List.cons_append, kcT, kcT_append k s t]; omega
theorem kcT_succ (k : Int) {t : List (List In)} {i : Nat} (h : i < t.length) : kcT k (t.take (i + 1)) = kcT k (t.take i) + kc k t[i] := by
  rw [List.take_add_one, List.getElem?_eq_getElem h, kcT_append]
  simp [kcT]
theorem kcT_bnd (k : Int) : ∀ {t : List (List In)}, (∀ l ∈ t, l.length ≤ 40) → 0 ≤ kcT k t ∧ kcT k t ≤ 40 * t.length
  | [], _ => by simp [kcT]
  | l :: t, h => by
    have h1 := kcT_bnd k (t := t) (fun x hx => h x (by simp [hx]))
    have h2 := kc_bnd k l
    have h3 := h l (by simp)
    simp only [kcT, List.length_cons]
    omega
/-- The bounds of the laws. -/
def Few (i : List Int) (t : List (List In)) : Prop := i.length ≤ 10 ∧ t.length ≤ 10 ∧ ∀ l ∈ t, l.length ≤ 40
theorem Few.kcT {i : List Int} {t : List (List In)} (h : Few i t) (k : Int) (n : Nat) : 0 ≤ kcT k (t.take n) ∧ kcT k (t.take n) ≤ 400 := by
  have h1 := kcT_bnd k (t := t.take n) (fun x hx => h.2.2 x (List.mem_of_mem_take hx))
  have h2 : ((t.take n).length : Int) ≤ 10 := by have := h.2.1; rw [List.length_take]; omega
  omega
theorem Few.len {i : List Int} {t : List (List In)} (h : Few i t) {n : Nat} (hn : n < t.length) : (t[n]).length ≤ 40 := h.2.2 _ (List.getElem_mem hn)
end Go.Eng
set_option linter.unusedSimpArgs false
set_option linter.unusedVariables false
set_option linter.constructorNameAsVariable false
set_option autoImplicit false
namespace Go.Eng
open Go Go.RowKit Go.Proofs
set_option maxHeartbeats 16000000 in
theorem c_Count {i : List Int} {t : List (List In)} (hf : Few i t) : SC Tryz.prog 22 [.agg (testL i t)] (.tup [I .i64 (kcT 1 t), I .i64 (kcT 2 t)]) := by
  refine scx_of Tryz.func22 rfl rfl rfl (Nat.le_of_ble_eq_true rfl) ?_
  repeat' (first
 | refine ar_end rfl ?_
 | refine ar_go3 _ rfl (by simp [insL_len, thsL_len, insL_getE, thsL_getE, inL]; exact ⟨rfl, rfl, rfl⟩) rfl ?_
 | refine aw_sregK 0 [0] ?_
 | refine aw_sregK 1 [1] ?_
 | refine aw_sregK 2 [1, 4, 5] ?_
 | refine aw_seq ?_
 | refine aw_block ?_)
  refine aw_loopN [4, 5, 11, 12, 13] [] (by simp; exact rfl) (ι := {n : Nat // n ≤ t.length}) (fun n => ⟨37, [(4, I .i64 (kcT 1 (t.take n.1))), (5, I .i64 (kcT 2 (t.take n.1))), (11, .pv (.sl 1 (thsL t))), (12, I .i64 t.length), (13, I .i64 n.1)], []⟩) (fun n => t.length - n.1) ⟨0, by omega⟩ (by simp [kcT, thsL_len]) ?_
  rintro ⟨n, hn⟩
  by_cases hlt : n < t.length
  · have hc : (n : Int) < (t.length : Int) := by omega
    have b1 := hf.kcT 1 n
    have b2 := hf.kcT 2 n
    have s1 := kcT_succ 1 hlt
    have s2 := kcT_succ 2 hlt
    have l40 := hf.len hlt
    have htl := hf.2.1
    generalize hth : t[n] = th at s1 s2 l40
    have hw : IntKind.wrap .i64 ((n : Int) + 1) = (n : Int) + 1 := wrap64s (by omega) (by omega)
    repeat' (first
 | refine ar_end rfl ?_
 | refine ar_go3 _ rfl (by simp [insL_len, thsL_len, insL_getE, thsL_getE, inL, hc, hlt, hth]; exact ⟨rfl, rfl, rfl⟩) rfl ?_
 | refine aw_sregK 3 [4, 5, 11, 12, 13] ?_
 | refine aw_sregK 4 [4, 5, 11, 12, 13] ?_
 | refine aw_sregK 5 [4, 5, 7, 11, 12, 13] ?_
 | refine aw_ifT (b := true) rfl rfl ?_
 | refine aw_seq ?_
 | refine aw_block ?_
 | refine aw_skip ?_)
    refine aw_loopN [4, 5, 11, 12, 13, 17, 18, 19] [] (by simp; exact rfl) (ι := {j : Nat // j ≤ th.length}) (fun j => ⟨37, [(4, I .i64 (kcT 1 (t.take n) + kc 1 (th.take j.1))), (5, I .i64 (kcT 2 (t.take n) + kc 2 (th.take j.1))), (11, .pv (.sl 1 (thsL t))), (12, I .i64 t.length), (13, I .i64 n), (17, .pv (.sl 6 (insL th))), (18, I .i64 th.length), (19, I .i64 j.1)], []⟩) (fun j => th.length - j.1) ⟨0, by omega⟩ (by simp [kc_nil, insL_len]) ?_
    rintro ⟨j, hj⟩
    by_cases hjl : j < th.length
    · have hd : (j : Int) < (th.length : Int) := by omega
      have c1 := kc_take_bnd 1 th j
      have c2 := kc_take_bnd 2 th j
      have e1 := kc_succ 1 hjl
      have e2 := kc_succ 2 hjl
      generalize hx : th[j] = x at e1 e2
      have w1 : IntKind.wrap .i64 (kcT 1 (t.take n) + kc 1 (th.take j) + 1) = kcT 1 (t.take n) + kc 1 (th.take j) + 1 := wrap64s (by omega) (by omega)
      have w2 : IntKind.wrap .i64 (kcT 2 (t.take n) + kc 2 (th.take j) + 1) = kcT 2 (t.take n) + kc 2 (th.take j) + 1 := wrap64s (by omega) (by omega)
      have w3 : IntKind.wrap .i64 ((j : Int) + 1) = (j : Int) + 1 := wrap64s (by omega) (by omega)
      repeat' (first
 | refine ar_end rfl ?_
 | refine ar_fin rfl ?_
 | refine ar_callV Tryz.call48 c_ins_Kind rfl rfl rfl rfl rfl (by simp; done) (by rfl) (by simp; done) ?_
 | refine lq_normN [4, 5, 11, 12, 13, 17, 18, 19] [] (by simp; exact rfl) ⟨j + 1, by omega⟩ (by dsimp only; omega) (by simp [e1, e2, *]; try omega)
 | refine ar_go3 _ rfl (by simp [insL_len, thsL_len, insL_getE, thsL_getE, inL, hd, hjl, hx, w1, w2, w3]; exact ⟨rfl, rfl, rfl⟩) rfl ?_
 | refine aw_sregK 6 [4, 5, 11, 12, 13, 17, 18, 19] ?_
 | refine aw_sregK 7 [4, 5, 11, 12, 13, 17, 18, 19] ?_
 | refine aw_sregK 8 [4, 5, 9, 11, 12, 13, 17, 18, 19] ?_
 | refine aw_sregK 9 [4, 5, 11, 12, 13, 17, 18, 19, 24] ?_
 | refine aw_regK 10 [4, 5, 11, 12, 13, 17, 18, 19] ?_
 | refine aw_sregK 11 [4, 5, 11, 12, 13, 17, 18, 19, 24] ?_
 | refine aw_regK 12 [4, 5, 11, 12, 13, 17, 18, 19] ?_
 | refine aw_regK 13 [4, 5, 11, 12, 13, 17, 18, 19] ?_
 | refine aw_ifT (b := true) rfl rfl ?_
 | refine aw_seq ?_
 | refine aw_block ?_
 | refine aw_skip ?_
 | (refine aw_both rfl (fun h => ?_) (fun h => ?_) <;> (fail_if_success (cases h; done)) <;> (try simp at h) <;> (try subst h)))
    · have hd : ¬(j : Int) < (th.length : Int) := by omega
      have et : th.take j = th := List.take_of_length_le (by omega)
      repeat' (first
 | refine ar_end rfl ?_
 | refine ar_fin rfl ?_
 | refine lq_normN [4, 5, 11, 12, 13] [] (by simp; exact rfl) ⟨n + 1, by omega⟩ (by dsimp only; omega) (by simp [s1, s2, et])
 | refine ar_go3 _ rfl (by simp [insL_len, thsL_len, insL_getE, thsL_getE, inL, hd, hw]; exact ⟨rfl, rfl, rfl⟩) rfl ?_
 | refine aw_sregK 6 [4, 5, 11, 12, 13, 17, 18, 19] ?_
 | refine aw_regK 14 [4, 5, 11, 12, 13] ?_
 | refine aw_ifF (b := false) rfl rfl ?_
 | refine aw_seq ?_
 | refine aw_exit ?_)
  · have hc : ¬(n : Int) < (t.length : Int) := by omega
    have et : t.take n = t := List.take_of_length_le (by omega)
    repeat' (first
 | exact aw_ret (ret_vals (by simp; exact rfl) (by simp [et]; fail_if_success (show _)))
 | refine ar_end rfl ?_
 | refine ar_go3 _ rfl (by simp [insL_len, thsL_len, insL_getE, thsL_getE, inL, hc, et]; exact ⟨rfl, rfl, rfl⟩) rfl ?_
 | refine aw_sregK 3 [4, 5, 11, 12, 13] ?_
 | refine aw_sregK 15 [4, 5] ?_
 | refine aw_ifF (b := false) rfl rfl ?_
 | refine aw_seq ?_
 | refine aw_exit ?_)
end Go.Eng
set_option linter.unusedSimpArgs false
set_option linter.unusedVariables false
set_option linter.constructorNameAsVariable false
set_option autoImplicit false
namespace Go.Eng
open Go Go.RowKit Go.Proofs
theorem wf_small {n : Int} (h : 0 ≤ n ∧ n ≤ 1000) : (Lit.int .i64 n).wf = true := by
  simp [Lit.wf, IntKind.min, IntKind.max, IntKind.signed, IntKind.bits]; omega
def initOk (i : List Int) : Bool := i.all fun n => decide (-1000 ≤ n) && decide (n ≤ 1000)
def sizedF (i : List Int) (t : List (List In)) : Bool := initOk i && (decide (1 ≤ (i.length : Int)) && (decide ((i.length : Int) ≤ 3) && (decide (1 ≤ (t.length : Int)) && decide ((t.length : Int) ≤ 3))))
theorem initOk_bad {i : List Int} {n : Nat} (h : n < i.length) (hb : ¬(-1000 ≤ i[n] ∧ i[n] ≤ 1000)) : initOk i = false := by
  unfold initOk
  rw [List.all_eq_false]
  exact ⟨i[n], List.getElem_mem h, by simpa using hb⟩
theorem initOk_take {i : List Int} {n : Nat} (h : n < i.length) (hp : initOk (i.take n) = true) (hb : -1000 ≤ i[n] ∧ i[n] ≤ 1000) : initOk (i.take (n + 1)) = true := by
  unfold initOk at *
  rw [List.take_add_one, List.getElem?_eq_getElem h, List.all_append, hp]
  simpa using hb
def mayI (x : In) (behind locs : Int) : Bool := mayF x.op x.d x.a x.b x.l x.m behind locs
def badI (locs len : Int) : Nat → List In → Option Int
  | _, [] => none
  | k, x :: l => if mayI x (len - 1 - k) locs = true then badI locs len (k + 1) l else some k
def badT (locs : Int) : Nat → List (List In) → Option (Int × Int × Int)
  | _, [] => none
  | n, th :: t => if (th.length : Int) < 1 ∨ 8 < (th.length : Int) then some (n, 0, 1) else match badI locs th.length 0 th with
    | some k => some (n, k, 2)
    | none => badT locs (n + 1) t
theorem badT_none {locs : Int} : ∀ {t : List (List In)} {n : Nat}, badT locs n t = none → ∀ l ∈ t, 1 ≤ l.length ∧ l.length ≤ 8
  | [], _, _, l, h => by cases h
  | th :: t, n, h, l, hl => by
    simp only [badT] at h
    split at h
    · cases h
    split at h
    · cases h
    rcases List.mem_cons.1 hl with rfl | hl
    · omega
    · exact badT_none h l hl
def fullF (t : List (List In)) : Bool := decide (4 < kcT 1 t) || decide (6 < kcT 1 t + kcT 2 t)
def checkF (i : List Int) (t : List (List In)) : Int × Int × Int :=
  bif sizedF i t then (match badT i.length 0 t with
    | some p => p
    | none => bif fullF t then (0, 0, 3) else (0, 0, 0))
  else (0, 0, 1)
abbrev tri (p : Int × Int × Int) : AV := .tup [I .i64 p.1, I .i64 p.2.1, I .i64 p.2.2]
set_option maxHeartbeats 16000000 in
theorem c_sized {i : List Int} {t : List (List In)} (hl : i.length ≤ maxLen) : SC Tryz.prog 46 [.agg (testL i t)] (B (sizedF i t)) := by
  refine scx_of Tryz.func46 rfl rfl rfl (Nat.le_of_ble_eq_true rfl) ?_
  repeat' (first
 | refine ar_end rfl ?_
 | refine ar_go3 _ rfl (by simp [insL_len, thsL_len, insL_getE, thsL_getE, inL, ints_len]; exact ⟨rfl, rfl, rfl⟩) rfl ?_
 | refine aw_sregK 0 [0] ?_
 | refine aw_sregK 1 [1] ?_
 | refine aw_seq ?_
 | refine aw_block ?_)
  refine aw_loopN [1, 6, 7, 8] [.loc 1] (by simp; exact rfl) (ι := {n : Nat // n ≤ i.length ∧ initOk (i.take n) = true}) (fun n => ⟨41, [(1, .ptr (.loc 1) 0), (6, .pv (.sl 1 (ints i))), (7, I .i64 i.length), (8, I .i64 n.1)], [(.loc 1, some (.box 25 [.pv (.sl 1 (ints i)), .pv (.sl 1 (thsL t))]))]⟩) (fun n => i.length - n.1) ⟨0, by omega, rfl⟩ (by simp [ints_len]) ?_
  rintro ⟨n, hn, hp⟩
  by_cases hlt : n < i.length
  · have hc : (n : Int) < (i.length : Int) := by omega
    have hw := wrap_succ hlt hl
    have hbad := initOk_bad hlt
    have hgood := initOk_take hlt hp
    generalize hx : i[n] = x at hbad hgood
    repeat' (first
 | refine ar_end rfl ?_
 | refine ar_fin rfl ?_
 | refine lq_normN [1, 6, 7, 8] [.loc 1] (by simp; exact rfl) ⟨n + 1, by omega, hgood (by constructor <;> omega)⟩ (by dsimp only; omega) (by simp)
 | exact aw_ret (ret_vals (by simp; exact rfl) (by rw [sizedF, hbad (by omega)]; rfl))
 | refine ar_go3 _ rfl (by simp [insL_len, thsL_len, insL_getE, thsL_getE, inL, ints_len, ints_getE, hc, hlt, hx, hw, *]; exact ⟨rfl, rfl, rfl⟩) rfl ?_
 | refine aw_sregK 2 [1, 6, 7, 8] ?_
 | refine aw_sregK 3 [1, 6, 7, 8] ?_
 | refine aw_sregK 4 [1, 4, 6, 7, 8] ?_
 | refine aw_sregK 5 [] ?_
 | refine aw_regK 6 [1, 6, 7, 8] ?_
 | refine aw_ifT (b := true) rfl rfl ?_
 | refine aw_seq ?_
 | refine aw_block ?_
 | refine aw_skip ?_
 | (refine ar_guard rfl rfl rfl rfl (fun h => ?_) (fun h => ?_) <;> (fail_if_success (cases h; done)) <;> (try simp at h) <;> (try subst h))
 | (refine aw_both rfl (fun h => ?_) (fun h => ?_) <;> (fail_if_success (cases h; done)) <;> (try simp at h) <;> (try subst h)))
  · have hc : ¬(n : Int) < (i.length : Int) := by omega
    have et : i.take n = i := List.take_of_length_le (by omega)
    rw [et] at hp
    repeat' (first
 | exact aw_ret (ret_vals (by simp; exact rfl) (by simp [sizedF, hp, *]; fail_if_success (show _)))
 | exact aw_ret (ret_vals (by simp; exact rfl) (by simp [sizedF, hp, *]; omega))
 | refine ar_end rfl ?_
 | refine ar_go3 _ rfl (by simp [insL_len, thsL_len, insL_getE, thsL_getE, inL, ints_len, hc, et, *]; exact ⟨rfl, rfl, rfl⟩) rfl ?_
 | refine aw_sregK 2 [1, 6, 7, 8] ?_
 | refine aw_sregK 7 [1] ?_
 | refine aw_ifF (b := false) rfl rfl ?_
 | refine aw_seq ?_
 | refine aw_exit ?_
 | (refine ar_guard rfl rfl rfl rfl (fun h => ?_) (fun h => ?_) <;> (fail_if_success (cases h; done)) <;> (try simp at h) <;> (try subst h)))
end Go.Eng
set_option linter.unusedSimpArgs false
set_option linter.unusedVariables false
set_option linter.constructorNameAsVariable false
set_option autoImplicit false
namespace Go.Eng
open Go Go.RowKit Go.Proofs
set_option maxHeartbeats 16000000 in
theorem c_refCount {i : List Int} {t : List (List In)} (hf : Few i t) : SC Tryz.prog 37 [.agg (testL i t)] (.tup [I .i64 (kcT 1 t), I .i64 (kcT 2 t)]) := by
  refine scx_of Tryz.func37 rfl rfl rfl (Nat.le_of_ble_eq_true rfl) ?_
  repeat' (first
 | refine ar_end rfl ?_
 | refine ar_go3 _ rfl (by simp [insL_len, thsL_len, insL_getE, thsL_getE, inL]; exact ⟨rfl, rfl, rfl⟩) rfl ?_
 | refine aw_sregK 0 [0] ?_
 | refine aw_sregK 1 [1] ?_
 | refine aw_sregK 2 [1, 4] ?_
 | refine aw_sregK 3 [1, 4, 5] ?_
 | refine aw_seq ?_
 | refine aw_block ?_)
  refine aw_loopN [1, 4, 5, 6] [.loc 1] (by simp; exact rfl) (ι := {n : Nat // n ≤ t.length}) (fun n => ⟨45, [(1, .ptr (.loc 1) 0), (4, I .i64 (kcT 1 (t.take n.1))), (5, I .i64 (kcT 2 (t.take n.1))), (6, I .i64 n.1)], [(.loc 1, some (.box 25 [.pv (.sl 1 (ints i)), .pv (.sl 1 (thsL t))]))]⟩) (fun n => t.length - n.1) ⟨0, by omega⟩ (by simp [kcT, thsL_len]) ?_
  rintro ⟨n, hn⟩
  by_cases hlt : n < t.length
  · have hc : (n : Int) < (t.length : Int) := by omega
    have b1 := hf.kcT 1 n
    have b2 := hf.kcT 2 n
    have s1 := kcT_succ 1 hlt
    have s2 := kcT_succ 2 hlt
    have l40 := hf.len hlt
    have htl := hf.2.1
    generalize hth : t[n] = th at s1 s2 l40
    have hw : IntKind.wrap .i64 ((n : Int) + 1) = (n : Int) + 1 := wrap64s (by omega) (by omega)
    repeat' (first
 | refine ar_end rfl ?_
 | refine ar_go3 _ rfl (by simp [insL_len, thsL_len, insL_getE, thsL_getE, inL, hc, hlt, hth]; exact ⟨rfl, rfl, rfl⟩) rfl ?_
 | refine aw_sregK 4 [1, 4, 5, 6] ?_
 | refine aw_sregK 6 [1, 4, 5, 6] ?_
 | refine aw_ifT (b := true) rfl rfl ?_
 | refine aw_seq ?_
 | refine aw_block ?_
 | refine aw_skip ?_)
    refine aw_loopN [1, 4, 5, 6, 7] [.loc 1] (by simp; exact rfl) (ι := {j : Nat // j ≤ th.length}) (fun j => ⟨45, [(1, .ptr (.loc 1) 0), (4, I .i64 (kcT 1 (t.take n) + kc 1 (th.take j.1))), (5, I .i64 (kcT 2 (t.take n) + kc 2 (th.take j.1))), (6, I .i64 n), (7, I .i64 j.1)], [(.loc 1, some (.box 25 [.pv (.sl 1 (ints i)), .pv (.sl 1 (thsL t))]))]⟩) (fun j => th.length - j.1) ⟨0, by omega⟩ (by simp [kc_nil, insL_len]) ?_
    rintro ⟨j, hj⟩
    by_cases hjl : j < th.length
    · have hd : (j : Int) < (th.length : Int) := by omega
      have c1 := kc_take_bnd 1 th j
      have c2 := kc_take_bnd 2 th j
      have e1 := kc_succ 1 hjl
      have e2 := kc_succ 2 hjl
      generalize hx : th[j] = x at e1 e2
      have w1 : IntKind.wrap .i64 (kcT 1 (t.take n) + kc 1 (th.take j) + 1) = kcT 1 (t.take n) + kc 1 (th.take j) + 1 := wrap64s (by omega) (by omega)
      have w2 : IntKind.wrap .i64 (kcT 2 (t.take n) + kc 2 (th.take j) + 1) = kcT 2 (t.take n) + kc 2 (th.take j) + 1 := wrap64s (by omega) (by omega)
      have w3 : IntKind.wrap .i64 ((j : Int) + 1) = (j : Int) + 1 := wrap64s (by omega) (by omega)
      repeat' (first
 | refine ar_end rfl ?_
 | refine ar_fin rfl ?_
 | refine ar_callV Tryz.call39 c_refKind rfl rfl rfl rfl rfl (by simp; done) (by rfl) (by simp; done) ?_
 | refine lq_normN [1, 4, 5, 6, 7] [.loc 1] (by simp; exact rfl) ⟨j + 1, by omega⟩ (by dsimp only; omega) (by simp [e1, e2, *]; try omega)
 | refine ar_go3 _ rfl (by simp [insL_len, thsL_len, insL_getE, thsL_getE, inL, hlt, hth, hd, hjl, hx, w1, w2, w3, *]; exact ⟨rfl, rfl, rfl⟩) rfl ?_
 | refine aw_sregK 7 [1, 4, 5, 6, 7] ?_
 | refine aw_regK 8 [1, 4, 5, 6, 7] ?_
 | refine aw_sregK 9 [1, 4, 5, 6, 7] ?_
 | refine aw_sregK 10 [1, 4, 5, 6, 7, 8] ?_
 | refine aw_regK 11 [1, 4, 5, 6, 7, 8] ?_
 | refine aw_sregK 12 [1, 4, 5, 6, 7, 8] ?_
 | refine aw_regK 13 [1, 4, 5, 6, 7] ?_
 | refine aw_ifT (b := true) rfl rfl ?_
 | refine aw_ifF (b := false) rfl rfl ?_
 | refine aw_seq ?_
 | refine aw_block ?_
 | refine aw_skip ?_
 | (refine aw_both rfl (fun h => ?_) (fun h => ?_) <;> (fail_if_success (cases h; done)) <;> (try simp at h) <;> (try subst h)))
    · have hd : ¬(j : Int) < (th.length : Int) := by omega
      have et : th.take j = th := List.take_of_length_le (by omega)
      repeat' (first
 | refine ar_end rfl ?_
 | refine ar_fin rfl ?_
 | refine lq_normN [1, 4, 5, 6] [.loc 1] (by simp; exact rfl) ⟨n + 1, by omega⟩ (by dsimp only; omega) (by simp [s1, s2, et])
 | refine ar_go3 _ rfl (by simp [insL_len, thsL_len, insL_getE, thsL_getE, inL, hlt, hth, hd, hw]; exact ⟨rfl, rfl, rfl⟩) rfl ?_
 | refine aw_regK 5 [1, 4, 5, 6] ?_
 | refine aw_sregK 7 [1, 4, 5, 6, 7] ?_
 | refine aw_ifF (b := false) rfl rfl ?_
 | refine aw_seq ?_
 | refine aw_exit ?_)
  · have hc : ¬(n : Int) < (t.length : Int) := by omega
    have et : t.take n = t := List.take_of_length_le (by omega)
    repeat' (first
 | exact aw_ret (ret_vals (by simp; exact rfl) (by simp [et]; fail_if_success (show _)))
 | refine ar_end rfl ?_
 | refine ar_go3 _ rfl (by simp [insL_len, thsL_len, insL_getE, thsL_getE, inL, hc, et]; exact ⟨rfl, rfl, rfl⟩) rfl ?_
 | refine aw_sregK 4 [1, 4, 5, 6] ?_
 | refine aw_sregK 14 [4, 5] ?_
 | refine aw_ifF (b := false) rfl rfl ?_
 | refine aw_seq ?_
 | refine aw_exit ?_)
end Go.Eng
