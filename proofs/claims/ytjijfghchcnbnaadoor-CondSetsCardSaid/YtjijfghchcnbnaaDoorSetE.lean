import Derived.Test.YtjijfghchcnbnaaDoorSetD
import Derived.Test.YtjijfghchcnbnaaDoorEngD
import Derived.Test.YtjijfghchcnbnaaDoorCondE
set_option autoImplicit false
set_option linter.unusedVariables false
set_option linter.unusedSimpArgs false
namespace Go.Eng
open Go Go.RowKit Go.Proofs Go.Sort Go.Shelf Go.Lib
variable {FF : Nat → Prop}
/-! ## What is left of a sorted row: the set -/
def efE {w : World} (x y : EL FF w) : Bool := decide (cmpF x.o y.o = 0)
theorem cp_asc {w : World} (d : Array (EL FF w)) (hs : ∀ i j, i < j → j < d.size → ¬cmpF d[j]!.o d[i]!.o < 0) : ∀ m, m ≤ d.size → AscO ((cpU efE d m).map (·.o)) ∧ ∀ y, y ∈ (cpU efE d m).map (·.o) ↔ ∃ i, i < m ∧ d[i]!.o = y := by
  intro m
  induction m with
  | zero => intro _; exact ⟨List.Pairwise.nil, fun y => ⟨fun h => (by cases h), fun ⟨i, h, _⟩ => (by omega)⟩⟩
  | succ m ih =>
    intro hm
    obtain ⟨h1, h2⟩ := ih (by omega)
    rw [cpU_succ]
    cases hk : kp efE d m with
    | false =>
      simp only [Bool.false_eq_true, if_false, List.append_nil]
      have hm0 : m ≠ 0 := fun e => by subst e; simp [kp] at hk
      have he : cmpF d[m]!.o d[m - 1]!.o = 0 := by
        simp [kp, hm0, efE] at hk; exact hk
      have ho := cmp_ord.eq _ _ he
      refine ⟨h1, fun y => (h2 y).trans ⟨fun ⟨i, a, b⟩ => ⟨i, by omega, b⟩, fun ⟨i, a, b⟩ => ?_⟩⟩
      by_cases e : i = m
      · subst e; exact ⟨i - 1, by omega, by rw [← ho]; exact b⟩
      · exact ⟨i, by omega, b⟩
    | true =>
      simp only [if_true, List.map_append, List.map_cons, List.map_nil]
      refine ⟨?_, fun y => ?_⟩
      · unfold AscO
        rw [List.pairwise_append]
        refine ⟨h1, List.pairwise_singleton _ _, fun y hy z hz => ?_⟩
        rw [List.mem_singleton.1 hz]
        obtain ⟨i, hi, rfl⟩ := (h2 y).1 hy
        have hne : cmpF d[m]!.o d[m - 1]!.o ≠ 0 := by
          have hm0 : m ≠ 0 := by omega
          simp [kp, hm0, efE] at hk; exact hk
        have a1 := hs i m hi (by omega)
        have n1 := cmp_ord.neg d[m]!.o d[i]!.o
        by_cases e0 : cmpF d[i]!.o d[m]!.o = 0
        · exfalso
          have eo := cmp_ord.eq _ _ e0
          by_cases e : i = m - 1
          · subst e
            rw [eo, cmp_ord.refl] at hne; exact hne rfl
          · have a2 := hs i (m - 1) (by omega) (by omega)
            have a3 := hs (m - 1) m (by omega) (by omega)
            rw [eo] at a2
            have n2 := cmp_ord.neg d[m - 1]!.o d[m]!.o
            omega
        · omega
      · rw [List.mem_append, h2, List.mem_singleton]
        constructor
        · rintro (⟨i, a, b⟩ | rfl)
          · exact ⟨i, by omega, b⟩
          · exact ⟨m, by omega, rfl⟩
        · rintro ⟨i, a, b⟩
          by_cases e : i = m
          · subst e; exact .inr b.symm
          · exact .inl ⟨i, by omega, b⟩
theorem cp_set {w : World} {d : Array (EL FF w)} {els : List (EL FF w)} (hp : d.toList.Perm els) (hs : d.toList.Pairwise (fun x y => ltOf cfE y x = false)) : (cpU efE d d.size).map (·.o) = setO (els.map (·.o)) := by
  have hs' : ∀ i j, i < j → j < d.size → ¬cmpF d[j]!.o d[i]!.o < 0 := fun i j hij hj => by
    have h := List.pairwise_iff_getElem.1 hs i j (by simp; omega) (by simpa using hj) hij
    rw [getElem!_pos d i (by omega), getElem!_pos d j hj]
    have h' : ltOf cfE d[j] d[i] = false := by simpa using h
    exact of_decide_eq_false h'
  obtain ⟨h1, h2⟩ := cp_asc d hs' d.size (Nat.le_refl _)
  refine ascO_ext h1 (setO_asc _) fun y => ?_
  rw [h2, setO_mem, List.mem_map]
  constructor
  · rintro ⟨i, hi, rfl⟩
    refine ⟨d[i]!, (hp.mem_iff).1 ?_, rfl⟩
    rw [getElem!_pos d i hi]; simp
  · rintro ⟨x, hx, rfl⟩
    have hx' := (hp.mem_iff).2 hx
    obtain ⟨i, hi, e⟩ := List.mem_iff_getElem.1 hx'
    have hi' : i < d.size := by simpa using hi
    refine ⟨i, hi', ?_⟩
    rw [getElem!_pos d i hi', ← e]; simp
theorem below_put {w W : World} (h : RowKit.Below w.heap.size w W) {blk : Nat} (hb : w.heap.size ≤ blk) (m : Nat) (F : Array Value) (os : Array Obj) : RowKit.Below w.heap.size w (grow (putRow id (Sort.ahead W m) blk 0 F) os) := by
  refine ⟨h.os, h.tape, h.output, Nat.le_trans h.size (by simp [grow, putRow, mapBlock, Sort.ahead]), fun k hk => ?_⟩
  rw [← h.block k hk]
  have hkW : k < W.heap.size := Nat.lt_of_lt_of_le hk h.size
  have hne : blk ≠ k := by omega
  rw [heap_grow_old _ _ (by simpa using hkW)]
  simp [putRow, mapBlock, Sort.ahead, Array.getElem?_modify, hne]
theorem final_row {w W : World} {blk n t : Nat} {dk : Array (EL FF w)} {os : Array Obj} (hblk : blk < W.heap.size) (ht : t ≤ dk.size) :
    (sortWorldK (encO ovE) 2 W blk 0 n dk os).setCells blk (0 + t * 2) (List.replicate ((dk.size - t) * 2) (.slice none 0 0)) = grow (putRow id (Sort.ahead W n) blk 0 (setMany (flatK (encO ovE) 2 dk) (t * 2) (List.replicate ((dk.size - t) * 2) (.slice none 0 0)))) os := by
  unfold sortWorldK
  rw [setCells_grow os blk _ _ _ (by show blk < (putRowK (encO ovE) 2 _ blk 0 dk).heap.size; rw [size_putRowK]; exact hblk)]
  congr 1
  unfold putRowK
  rw [setCells_putRow _ _ _ _ _ _ (by rw [size_flatK, List.length_replicate]; omega)]
theorem final_take {w : World} {r : List (EL FF w)} {dk : Array (EL FF w)} {t : Nat} (zs : List Value) (hr : ∀ j, j < r.length → r[j]? = some dk[j]!) (hrt : r.length ≤ t) (ht : t ≤ dk.size) : (setMany (flatK (encO ovE) 2 dk) (t * 2) zs).toList.take (r.length * 2) = flat2 r := by
  apply List.ext_getElem?
  intro j
  by_cases hj : j < r.length * 2
  · have hjd : j < dk.size * 2 := by omega
    rw [List.getElem?_take_of_lt hj, flat2_get r j hj, Array.getElem?_toList]
    have hsz : j < (setMany (flatK (encO ovE) 2 dk) (t * 2) zs).size := by rw [size_setMany, size_flatK]; exact hjd
    rw [Array.getElem?_eq_getElem hsz, ← getElem!_pos _ j hsz, get_setMany _ _ _ j (by rw [size_flatK]; exact hjd), if_neg (by omega), get_flatK _ _ _ j hjd]
    have h := hr (j / 2) (by omega)
    have hl : j / 2 < r.length := by omega
    rw [List.getElem?_eq_getElem hl] at h
    have h' := Option.some.inj h
    congr 2
    rw [← h']; simp [hl]
  · rw [List.getElem?_take_eq_none (by omega), List.getElem?_eq_none (by rw [flat2_len]; omega)]
end Go.Eng
set_option autoImplicit false
set_option linter.unusedVariables false
set_option linter.unusedSimpArgs false
namespace Go.Eng
open Go Go.RowKit Go.Proofs Go.Sort Go.Shelf Go.Lib
variable {FF : Nat → Prop}
set_option maxHeartbeats 1000000 in
set_option maxRecDepth 1000000 in
/-- cond.Set, cell by cell. -/
theorem Tryd.set22 {w : World} (hT : GlobOK (fun b => b < w.heap.size) w) (els : List (EL FF w)) (a : Option Addr) (cap0 : Nat) (hlen : els.length ≤ 1000) (hI : vOV w.heap.size w (.slice a els.length cap0) (els.map (·.x))) :
    Calls Tryd.prog 22 #[.slice a els.length cap0] w fun e W' => RowKit.Below w.heap.size w W' ∧ ((els = [] ∧ e = .returned (.slice none 0 0)) ∨ ∃ (blk cap : Nat) (cur : Array Value) (r : List (EL FF w)), e = .returned (.slice (some ⟨blk, 0, none⟩) r.length cap) ∧ w.heap.size ≤ blk ∧
      W'.heap[blk]? = some (.cells cur 30 (0, 0)) ∧ r.length ≤ cap ∧ cap ≤ maxLen ∧ cur.size = cap * 2 ∧ cur.toList.take (r.length * 2) = flat2 r ∧ r.map (·.o) = setO (els.map (·.o))) := by
  have mixed : Tryd.prog.follows .mixedOrders = true := by kernel_rfl
  have hM : maxLen = 9223372036854775807 := rfl
  have hV := callsIn_wide.1 (Tryd.values_in Fence.wide 1 trivial rfl a els.length cap0 w)
  have hW0 : RowKit.Below w.heap.size w (w.alloc (.cells #[.slice a els.length cap0] 42)) := (RowKit.Below.refl _ _).alloc (Nat.le_refl _) _
  have hS := Tryd.sorted44 hT els (w.alloc (.cells #[.slice a els.length cap0] 42)) hW0 w.heap.size (.slice a els.length cap0) (by omega) (by simp) (by simp) (by
    rcases hI.below hW0 with h | ⟨b, off, cap, h1, h2, h3⟩
    · exact .inl h
    · exact .inr ⟨b, off, cap, h1, Nat.lt_of_lt_of_le h2 hW0.size, h3⟩)
  go_enter Tryd.func22, Tryd.ntmps22
  go_wp2_with fail
  refine Calls.mono hV ?_
  rintro e W0 ⟨rfl, rfl⟩
  go_wp2_with fail
  refine Calls.mono hS ?_
  rintro e W1 ⟨hB, ⟨h0, rfl⟩ | ⟨blk, cap, cur, d, rfl, q1, q2, q3, q4, q5, q6, q7, q8, q9⟩⟩
  · go_wp2
    go_ret
    exact ⟨hB, .inl ⟨h0, rfl⟩⟩
  · have hblk : blk < W1.heap.size := (Array.getElem?_eq_some_iff.1 q4).1
    have hC := Tryd.compactF ovE efE 42 #[] (enters_of Tryd.func42 (by kernel_rfl) rfl) blk 0 cap d W1 q6 hblk (by omega) (by omega) (lays_eq hT hB q3 _)
    rw [q7] at hC
    go_wp2_with fail
    refine Calls.mono hC ?_
    rintro e W2 ⟨rfl, dk, n, os, t, k1, k2, k3, k4, rfl⟩
    have hfin := final_row (W := W1) (blk := blk) (n := n) (t := t) (dk := dk) (os := os) hblk (by omega)
    rw [k1] at hfin
    have hb := below_put hB q3 n (setMany (flatK (encO ovE) 2 dk) (t * 2) (List.replicate ((els.length - t) * 2) (.slice none 0 0))) os
    have hh := heap2 (n := n) (os := os) (setMany (flatK (encO ovE) 2 dk) (t * 2) (List.replicate ((els.length - t) * 2) (.slice none 0 0))) q4
    rw [hfin]
    have hset := cp_set q8 q9
    have htk := final_take (r := cpU efE d d.size) (dk := dk) (t := t) (List.replicate ((els.length - t) * 2) (.slice none 0 0)) (by rw [q7]; exact k2) (by rw [q7]; exact k3) (by omega)
    have hl : (cpU efE d d.size).length ≤ els.length := by rw [q7]; omega
    rw [q7] at hset htk hl
    have hFs : (setMany (flatK (encO ovE) 2 dk) (t * 2) (List.replicate ((els.length - t) * 2) (.slice none 0 0))).size = els.length * 2 := by rw [size_setMany, size_flatK, k1]
    generalize cpU efE d els.length = r at *
    generalize setMany (flatK (encO ovE) 2 dk) (t * 2) (List.replicate ((els.length - t) * 2) (.slice none 0 0)) = F at *
    generalize grow (putRow id (Sort.ahead W1 n) blk 0 F) os = W2 at *
    go_wp2
    go_ret
    refine ⟨hb, .inr ⟨blk, cap, _, r, rfl, q3, hh, by omega, q2, by simp [putCells, q5], ?_, hset⟩⟩
    rw [take2 _ _ _ (by rw [hFs, q5]; omega) (by rw [hFs]; omega)]
    exact htk
end Go.Eng
