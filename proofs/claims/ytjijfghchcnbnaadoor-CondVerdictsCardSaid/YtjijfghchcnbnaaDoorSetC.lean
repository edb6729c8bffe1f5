import Derived.Test.YtjijfghchcnbnaaDoorSetA
import Derived.Test.YtjijfghchcnbnaaDoorSetB
import Derived.Deep.LoopGhost
import Derived.Deep.Draws
import Derived.Lib.SliceRun
import Derived.Lib.SlicesCompact
set_option autoImplicit false
namespace Go.Proofs
open Go.Shelf Go.RowKit Go.Lib Go.Sort
variable {α : Type} [Inhabited α]
/-! ## slices.CompactFunc -/
def kp (e : α → α → Bool) (d : Array α) (j : Nat) : Bool := decide (j = 0) || !e d[j]! d[j - 1]!
def cpU (e : α → α → Bool) (d : Array α) (m : Nat) : List α := ((List.range m).filter (kp e d)).map (d[·]!)
theorem kp_one (e : α → α → Bool) (d : Array α) : ∀ j, j < 1 → kp e d j = true := by
  intro j hj
  have : j = 0 := by omega
  subst this
  simp [kp]
theorem kp_pos {e : α → α → Bool} {d : Array α} {m : Nat} (h : e d[m]! d[m - 1]! = false) : kp e d m = true := by simp [kp, h]
theorem kp_neg {e : α → α → Bool} {d : Array α} {m : Nat} (hm : 0 < m) (h : e d[m]! d[m - 1]! = true) : kp e d m = false := by
  have : m ≠ 0 := by omega
  simp [kp, h, this]
theorem cpU_succ (e : α → α → Bool) (d : Array α) (m : Nat) : cpU e d (m + 1) = cpU e d m ++ (if kp e d m then [d[m]!] else []) := by
  unfold cpU
  rw [List.range_succ, List.filter_append, List.map_append]
  congr 1
  by_cases h : kp e d m <;> simp [h]
theorem cpU_all (e : α → α → Bool) (d : Array α) (m : Nat) (h : ∀ j, j < m → kp e d j = true) : cpU e d m = (List.range m).map (d[·]!) := by
  unfold cpU
  rw [List.filter_eq_self.2 (fun j hj => h j (List.mem_range.1 hj))]
structure CpInv (e : α → α → Bool) (d : Array α) (m k : Nat) (dk : Array α) : Prop where
  size : dk.size = d.size
  len : (cpU e d m).length = k
  lt : k < m
  low : ∀ j, j < k → (cpU e d m)[j]? = some dk[j]!
  high : ∀ j, k ≤ j → dk[j]! = d[j]!
theorem CpInv.start {e : α → α → Bool} {d : Array α} {k0 : Nat} (hall : ∀ j, j < k0 → kp e d j = true) (hdup : kp e d k0 = false) : CpInv e d (k0 + 1) k0 d where
  size := rfl
  len := by rw [cpU_succ, hdup, cpU_all e d k0 hall]; simp
  lt := Nat.lt_succ_self _
  low := fun j hj => by rw [cpU_succ, hdup, cpU_all e d k0 hall]; simp [hj]
  high := fun _ _ => rfl
theorem CpInv.keep {e : α → α → Bool} {d dk : Array α} {m k : Nat} (h : CpInv e d m k dk) (hm : m < d.size) (hk : kp e d m = true) : CpInv e d (m + 1) (k + 1) (dk.setIfInBounds k d[m]!) where
  size := by simp [h.size]
  len := by rw [cpU_succ, hk]; simp [h.len]
  lt := by have := h.lt; omega
  low := fun j hj => by
    rw [cpU_succ, hk, if_pos rfl]
    by_cases ej : j = k
    · subst ej
      rw [List.getElem?_append_right (by rw [h.len]; exact Nat.le_refl _), h.len, Nat.sub_self, getElem!_set_same dk j _ (by have := h.lt; have := h.size; omega)]
      rfl
    · rw [List.getElem?_append_left (by rw [h.len]; omega), h.low j (by omega), getElem!_set_other dk k j _ ej]
  high := fun j hj => by rw [getElem!_set_other dk k j _ (by omega), h.high j (by omega)]
theorem CpInv.skip {e : α → α → Bool} {d dk : Array α} {m k : Nat} (h : CpInv e d m k dk) (hk : kp e d m = false) : CpInv e d (m + 1) k dk where
  size := h.size
  len := by rw [cpU_succ, hk]; simpa using h.len
  lt := by have := h.lt; omega
  low := fun j hj => by rw [cpU_succ, hk]; simpa using h.low j hj
  high := h.high
def encO (ov : α → OV) (x : α) : List Value := [(ov x).v1, (ov x).v2]
/-- What is asked of 'eq', in every world that is passed through. -/
def EqLays (P : Program) (g : Nat) (cb : Array Value) (enc : α → List Value) (k : Nat) (ef : α → α → Bool) (blk off size : Nat) (w : World) : Prop :=
  ∀ (m : Nat) (os : Array Obj) (dk : Array α), dk.size = size → ∀ x y : α,
    Calls P g (#[.agg (enc x).toArray, .agg (enc y).toArray] ++ cb) (sortWorldK enc k w blk off m dk os) fun e w' => e = .returned (.bool (ef x y)) ∧ ∃ q os', w' = grow ((sortWorldK enc k w blk off m dk os).drewN q) os'
theorem setMany_set (enc : α → List Value) (k : Nat) (hk : ∀ x, (enc x).length = k) (d : Array α) (i : Nat) (x : α) (hi : i < d.size) : setMany (flatK enc k d) (i * k) (enc x) = flatK enc k (d.setIfInBounds i x) := by
  refine ext_get! (by simp) fun t ht => ?_
  have ht' : t < d.size * k := by simpa using ht
  have k0 : 0 < k := by
    rcases Nat.eq_zero_or_pos k with h | h
    · subst h; simp at ht'
    · exact h
  rw [get_setMany _ _ _ t (by simpa using ht'), get_flatK _ _ _ t ht', get_flatK _ _ _ t (by simpa using ht'), hk]
  by_cases a : t / k = i
  · rw [if_pos ((blk_iff k i t k0).2 a)]
    subst a
    rw [Nat.mod_eq_sub_div_mul, getElem!_set_same d (t / k) x hi]
  · rw [if_neg (fun h => a ((blk_iff k i t k0).1 h)), getElem!_set_other d i (t / k) x a]
theorem store_worldK (ov : α → OV) (w : World) (blk off m : Nat) (dk : Array α) (os : Array Obj) (hblk : blk < w.heap.size) (i : Nat) (x : α) (hi : i < dk.size) :
    ((sortWorldK (encO ov) 2 w blk off m dk os).setCell ⟨blk, off + i * 2, none⟩ (ov x).v1).setCell ⟨blk, off + i * 2 + 1, none⟩ (ov x).v2 = sortWorldK (encO ov) 2 w blk off m (dk.setIfInBounds i x) os := by
  show (sortWorldK (encO ov) 2 w blk off m dk os).setCells blk (off + i * 2) (encO ov x) = _
  unfold sortWorldK
  rw [setCells_grow os blk _ _ _ (by show blk < (putRowK (encO ov) 2 _ blk off dk).heap.size; rw [size_putRowK]; exact hblk)]
  congr 1
  unfold putRowK
  rw [setCells_putRow _ _ _ _ _ _ (by rw [size_flatK]; show i * 2 + 2 ≤ dk.size * 2; omega), setMany_set (encO ov) 2 (fun _ => rfl) dk i x hi]
theorem Tryd.run_clear2 (w : World) (ty : TypeId) (b o n c : Nat) (hn : 0 < n) (hc : ∀ j, j < n * 2 → (w.cell? ⟨b, o + j, none⟩).isSome = true) (hf : ∀ j, j < n * 2 → w.frozen? ⟨b, o + j, none⟩ = false) :
    (Builtin.clear_ #[42] ty #[.slice (some ⟨b, o, none⟩) n c]).run Tryd.prog w = .ok (.tuple #[]) (w.setCells b o (List.replicate (n * 2) (.slice none 0 0))) := by
  have hzc : (Builtin.zeroCells (Value.agg #[.slice none 0 0, .slice none 0 0]).cells n).toList = List.replicate (n * 2) (.slice none 0 0) := by
    simp [Builtin.zeroCells, Value.cells]
    apply List.ext_getElem
    · simp
    · intro i h1 h2
      simp
      rcases Nat.mod_two_eq_zero_or_one i with h | h <;> rw [h] <;> rfl
  have hst := run_storeCells_cells (P := Tryd.prog) b o (List.replicate (n * 2) (.slice none 0 0)) 0 w (by simpa using hc) (by simpa using hf) (by intro v hv'; rw [List.eq_of_mem_replicate hv']; rfl)
  simp only [Nat.add_zero] at hst
  obtain ⟨m, rfl⟩ : ∃ m, n = m + 1 := ⟨n - 1, by omega⟩
  simp [Builtin.clear_, run_underlying Tryd.underlying42, Tryd.zeroValue30, hzc, hst]
set_option maxHeartbeats 4000000 in
set_option maxRecDepth 1000000 in
theorem Tryd.compactF (ov : α → OV) (ef : α → α → Bool) (g : Nat) (cb : Array Value) (eg : ∀ args w, (callFunc g args).run Tryd.prog w = .ok (.enter g args) w) (blk off cap : Nat) (d : Array α) (w : World) (hH : HoldsK (encO ov) 2 w blk off d) (hblk : blk < w.heap.size) (hsz : d.size < 4611686018427387904) (hcap : d.size ≤ cap)
    (heq : EqLays Tryd.prog g cb (encO ov) 2 ef blk off d.size w) :
    Calls Tryd.prog 43 #[.slice (some ⟨blk, off, none⟩) d.size cap, .func (.func g) #[] cb] w fun e w' => e = .returned (.slice (some ⟨blk, off, none⟩) (cpU ef d d.size).length cap) ∧
      ∃ (dk : Array α) (n : Nat) (os : Array Obj) (t : Nat), dk.size = d.size ∧ (∀ j, j < (cpU ef d d.size).length → (cpU ef d d.size)[j]? = some dk[j]!) ∧ ((cpU ef d d.size).length ≤ t) ∧ t ≤ d.size ∧
        w' = (sortWorldK (encO ov) 2 w blk off n dk os).setCells blk (off + t * 2) (List.replicate ((d.size - t) * 2) (.slice none 0 0)) := by
  have mixed : Tryd.prog.follows .mixedOrders = true := by kernel_rfl
  have HST : Hid (w = sortWorldK (encO ov) 2 w blk off 0 d #[]) := by show w = _; unfold sortWorldK; rw [grow_empty]; exact (putRowK_self (encO ov) 2 w blk off d hH).symm
  have HC : Aside _ := heq
  have HH : Hid (HoldsK (encO ov) 2 w blk off d) := hH
  clear heq hH
  by_cases h2 : d.size < 2
  · go_enter Tryd.func43, Tryd.ntmps43
    go_wp2
    go_ret
    have e : cpU ef d d.size = d.toList := by rw [cpU_all ef d _ (fun j hj => kp_one ef d j (by omega)), range_map_get]
    rw [e]
    exact ⟨by simp, d, 0, #[], d.size, rfl, fun j hj => by simp at hj; simp [hj], by simp, Nat.le_refl _, by rw [← HST.out]; simp [World.setCells]⟩
  · go_enter Tryd.func43, Tryd.ntmps43
    go_wp2
    go_loopg [5] d.size (fun gg s3 wr => ∃ (k q : Nat) (os : Array Obj), 1 ≤ k ∧ k ≤ d.size ∧ d.size - k ≤ gg ∧ s3 = .int .i64 k ∧ wr = sortWorldK (encO ov) 2 w blk off q d os ∧ ∀ j, j < k → kp ef d j = true)
    case atStart => exact ⟨1, 0, #[], Nat.le_refl _, by omega, by omega, rfl, HST.out, kp_one ef d⟩
    case round =>
      obtain ⟨k, q, os, hk1, hk, hg, rfl, rfl, hall⟩ := hrel
      by_cases hlt : k < d.size
      · obtain ⟨k', rfl⟩ : ∃ k', k = k' + 1 := ⟨k - 1, by omega⟩
        obtain ⟨xj, hxj⟩ : ∃ x, d[k' + 1]! = x := ⟨_, rfl⟩
        obtain ⟨xp, hxp⟩ : ∃ x, d[k']! = x := ⟨_, rfl⟩
        have hwp : IntKind.i64.wrap (k' : Int) = (k' : Int) := by rw [IntKind.wrap_i64]; omega
        have jz : (k' : Int) + 1 < (d.size : Int) := by omega
        have jz1 : (k' : Int) < (d.size : Int) := by omega
        have p0 : (0 : Int) ≤ (k' : Int) + 1 := by omega
        have e0 : ((k' : Int) + 1).toNat = k' + 1 := by omega
        have hcls : ∀ n' os', grow ((sortWorldK (encO ov) 2 w blk off q d os).drewN n') os' = sortWorldK (encO ov) 2 w blk off (q + n') d (os ++ os') := fun n' os' => sortWorldK_grown_c (encO ov) 2 w blk off q n' d os os'
        have hHc : ∀ n' os', HoldsK (encO ov) 2 (grow ((sortWorldK (encO ov) 2 w blk off q d os).drewN n') os') blk off d := fun n' os' => by rw [hcls]; exact holdsK_sortWorldK_c (encO ov) 2 w blk off d d _ _ HH.out hblk rfl
        have lj0 : ∀ n' os', (grow ((sortWorldK (encO ov) 2 w blk off q d os).drewN n') os').cell? ⟨blk, off + (k' + 1) * 2, none⟩ = some (ov xj).v1 := fun n' os' => by rw [← hxj]; exact (HoldsK.cell (hHc n' os') (i := k' + 1) (c := 0) (by omega) (by omega)).1
        have lj1 : ∀ n' os', (grow ((sortWorldK (encO ov) 2 w blk off q d os).drewN n') os').cell? ⟨blk, off + (k' + 1) * 2 + 1, none⟩ = some (ov xj).v2 := fun n' os' => by rw [← hxj]; exact (HoldsK.cell (hHc n' os') (i := k' + 1) (c := 1) (by omega) (by omega)).1
        have lp0 : ∀ n' os', (grow ((sortWorldK (encO ov) 2 w blk off q d os).drewN n') os').cell? ⟨blk, off + k' * 2, none⟩ = some (ov xp).v1 := fun n' os' => by rw [← hxp]; exact (HoldsK.cell (hHc n' os') (i := k') (c := 0) (by omega) (by omega)).1
        have lp1 : ∀ n' os', (grow ((sortWorldK (encO ov) 2 w blk off q d os).drewN n') os').cell? ⟨blk, off + k' * 2 + 1, none⟩ = some (ov xp).v2 := fun n' os' => by rw [← hxp]; exact (HoldsK.cell (hHc n' os') (i := k') (c := 1) (by omega) (by omega)).1
        have hcg : ∀ n' os', Calls Tryd.prog g (#[.agg #[(ov xj).v1, (ov xj).v2], .agg #[(ov xp).v1, (ov xp).v2]] ++ cb) (grow ((sortWorldK (encO ov) 2 w blk off q d os).drewN n') os') fun e w' => e = .returned (.bool (ef xj xp)) ∧ ∃ q' os'', w' = grow ((grow ((sortWorldK (encO ov) 2 w blk off q d os).drewN n') os').drewN q') os'' := fun n' os' => by
          rw [hcls]; exact HC.out _ _ d rfl xj xp
        have CLS : Hid _ := hcls
        have A : Aside _ := hall
        have B : Hid (d[k' + 1]! = xj ∧ d[k']! = xp) := ⟨hxj, hxp⟩
        clear hcls hHc hall hxj hxp
        generalize hwq : sortWorldK (encO ov) 2 w blk off q d os = wq at lj0 lj1 lp0 lp1 hcg CLS ⊢
        cases hdup : ef xj xp with
        | true =>
          simp only [hdup] at hcg
          go_wp2_with fail
          go_quiet_grown (first | (go_at_fn g; refine Calls.grown_of (hcg _ _)))
          go_wp2_with fail
          have hw2 : grow (wq.drewN nq) osq = sortWorldK (encO ov) 2 w blk off (q + nq) d (os ++ osq) := CLS.out nq osq
          clear lj0 lj1 lp0 lp1 hcg
          go_loopg [5, 7] d.size (fun gg s5 s7 wr => ∃ (kk k2 q2 : Nat) (dk : Array α) (os2 : Array Obj), s5 = .int .i64 kk ∧ s7 = .int .i64 k2 ∧ 1 ≤ k2 ∧ k' + 1 + k2 ≤ d.size ∧ d.size - (k' + 1 + k2) ≤ gg ∧ wr = sortWorldK (encO ov) 2 w blk off q2 dk os2 ∧ CpInv ef d (k' + 1 + k2) kk dk)
          case atStart => exact ⟨k' + 1, 1, q + nq, d, os ++ osq, by go_num, rfl, Nat.le_refl _, by omega, by omega, hw2, CpInv.start A.out (kp_neg (by omega) (by rw [B.out.1, show k' + 1 - 1 = k' by omega, B.out.2]; exact hdup))⟩
          case round =>
            obtain ⟨kk, k2, q2, dk, os2, rfl, rfl, h1, hle, hg2, rfl, hI⟩ := hrel
            have hkk := hI.lt
            have hds := hI.size
            by_cases hlt2 : k' + 1 + k2 < d.size
            · obtain ⟨k2', rfl⟩ : ∃ k2', k2 = k2' + 1 := ⟨k2 - 1, by omega⟩
              obtain ⟨xj2, hxj2⟩ : ∃ x, d[k' + 1 + (k2' + 1)]! = x := ⟨_, rfl⟩
              obtain ⟨xp2, hxp2⟩ : ∃ x, d[k' + 1 + k2']! = x := ⟨_, rfl⟩
              have hyj : dk[k' + 1 + (k2' + 1)]! = xj2 := by rw [hI.high _ (by omega), hxj2]
              have hyp : dk[k' + 1 + k2']! = xp2 := by rw [hI.high _ (by omega), hxp2]
              have iwp : IntKind.i64.wrap (k2' : Int) = (k2' : Int) := by rw [IntKind.wrap_i64]; omega
              have iz : (k2' : Int) + 1 < ((d.size - (k' + 1) : Nat) : Int) := by omega
              have iz1 : (k2' : Int) < ((d.size - (k' + 1) : Nat) : Int) := by omega
              have ip0 : (0 : Int) ≤ (k2' : Int) + 1 := by omega
              have ie0 : ((k2' : Int) + 1).toNat = k2' + 1 := by omega
              have icls : ∀ n' os', grow ((sortWorldK (encO ov) 2 w blk off q2 dk os2).drewN n') os' = sortWorldK (encO ov) 2 w blk off (q2 + n') dk (os2 ++ os') := fun n' os' => sortWorldK_grown_c (encO ov) 2 w blk off q2 n' dk os2 os'
              have iHc : ∀ n' os', HoldsK (encO ov) 2 (grow ((sortWorldK (encO ov) 2 w blk off q2 dk os2).drewN n') os') blk off dk := fun n' os' => by rw [icls]; exact holdsK_sortWorldK_c (encO ov) 2 w blk off d dk _ _ HH.out hblk hds
              have mj0 : ∀ n' os', (grow ((sortWorldK (encO ov) 2 w blk off q2 dk os2).drewN n') os').cell? ⟨blk, off + (k' + 1) * 2 + (k2' + 1) * 2, none⟩ = some (ov xj2).v1 := fun n' os' => by rw [← hyj, show off + (k' + 1) * 2 + (k2' + 1) * 2 = off + (k' + 1 + (k2' + 1)) * 2 + 0 by omega]; exact (HoldsK.cell (iHc n' os') (i := k' + 1 + (k2' + 1)) (c := 0) (by omega) (by omega)).1
              have mj1 : ∀ n' os', (grow ((sortWorldK (encO ov) 2 w blk off q2 dk os2).drewN n') os').cell? ⟨blk, off + (k' + 1) * 2 + (k2' + 1) * 2 + 1, none⟩ = some (ov xj2).v2 := fun n' os' => by rw [← hyj, show off + (k' + 1) * 2 + (k2' + 1) * 2 + 1 = off + (k' + 1 + (k2' + 1)) * 2 + 1 by omega]; exact (HoldsK.cell (iHc n' os') (i := k' + 1 + (k2' + 1)) (c := 1) (by omega) (by omega)).1
              have mp0 : ∀ n' os', (grow ((sortWorldK (encO ov) 2 w blk off q2 dk os2).drewN n') os').cell? ⟨blk, off + (k' + 1) * 2 + k2' * 2, none⟩ = some (ov xp2).v1 := fun n' os' => by rw [← hyp, show off + (k' + 1) * 2 + k2' * 2 = off + (k' + 1 + k2') * 2 + 0 by omega]; exact (HoldsK.cell (iHc n' os') (i := k' + 1 + k2') (c := 0) (by omega) (by omega)).1
              have mp1 : ∀ n' os', (grow ((sortWorldK (encO ov) 2 w blk off q2 dk os2).drewN n') os').cell? ⟨blk, off + (k' + 1) * 2 + k2' * 2 + 1, none⟩ = some (ov xp2).v2 := fun n' os' => by rw [← hyp, show off + (k' + 1) * 2 + k2' * 2 + 1 = off + (k' + 1 + k2') * 2 + 1 by omega]; exact (HoldsK.cell (iHc n' os') (i := k' + 1 + k2') (c := 1) (by omega) (by omega)).1
              have mk0 : ∀ n' os', ((grow ((sortWorldK (encO ov) 2 w blk off q2 dk os2).drewN n') os').cell? ⟨blk, off + kk * 2, none⟩).isSome = true ∧ (grow ((sortWorldK (encO ov) 2 w blk off q2 dk os2).drewN n') os').frozen? ⟨blk, off + kk * 2, none⟩ = false := fun n' os' => by
                have h := HoldsK.cell (iHc n' os') (i := kk) (c := 0) (by omega) (by omega)
                exact ⟨by rw [show off + kk * 2 = off + kk * 2 + 0 by omega, h.1]; rfl, h.2⟩
              have mk1 : ∀ n' os', ((grow ((sortWorldK (encO ov) 2 w blk off q2 dk os2).drewN n') os').cell? ⟨blk, off + kk * 2 + 1, none⟩).isSome = true ∧ (grow ((sortWorldK (encO ov) 2 w blk off q2 dk os2).drewN n') os').frozen? ⟨blk, off + kk * 2 + 1, none⟩ = false := fun n' os' => by
                have h := HoldsK.cell (iHc n' os') (i := kk) (c := 1) (by omega) (by omega)
                exact ⟨by rw [h.1]; rfl, h.2⟩
              have icg : ∀ n' os', Calls Tryd.prog g (#[.agg #[(ov xj2).v1, (ov xj2).v2], .agg #[(ov xp2).v1, (ov xp2).v2]] ++ cb) (grow ((sortWorldK (encO ov) 2 w blk off q2 dk os2).drewN n') os') fun e w' => e = .returned (.bool (ef xj2 xp2)) ∧ ∃ q' os'', w' = grow ((grow ((sortWorldK (encO ov) 2 w blk off q2 dk os2).drewN n') os').drewN q') os'' := fun n' os' => by
                rw [icls]; exact HC.out _ _ dk hds xj2 xp2
              have CLS2 : Hid _ := icls
              have HC2 : Hid (∀ n' os', HoldsK (encO ov) 2 (grow ((sortWorldK (encO ov) 2 w blk off q2 dk os2).drewN n') os') blk off dk) := iHc
              have I2 : Aside (CpInv ef d (k' + 1 + (k2' + 1)) kk dk) := hI
              have B2 : Hid (d[k' + 1 + (k2' + 1)]! = xj2 ∧ d[k' + 1 + k2']! = xp2) := ⟨hxj2, hxp2⟩
              clear icls iHc hI hxj2 hxp2 hyj hyp
              generalize hwq2 : sortWorldK (encO ov) 2 w blk off q2 dk os2 = wq2 at mj0 mj1 mp0 mp1 mk0 mk1 icg CLS2 HC2 ⊢
              cases hdup2 : ef xj2 xp2 with
              | true =>
                simp only [hdup2] at icg
                go_wp2_with fail
                go_quiet_grown (first | (go_at_fn g; refine Calls.grown_of (icg _ _)))
                go_wp2_with fail
                go_roundg (d.size - (k' + 1 + (k2' + 1 + 1)))
                case measure => omega
                case rel => exact ⟨kk, k2' + 1 + 1, q2 + nq, dk, os2 ++ osq, rfl, by go_num, by omega, by omega, Nat.le_refl _, CLS2.out _ _, I2.out.skip (kp_neg (by omega) (by rw [B2.out.1, show k' + 1 + (k2' + 1) - 1 = k' + 1 + k2' by omega, B2.out.2]; exact hdup2))⟩
              | false =>
                simp only [hdup2] at icg
                go_wp2_with fail
                go_quiet_grown (first | (go_at_fn g; refine Calls.grown_of (icg _ _)))
                obtain ⟨c0, hc0⟩ := Option.isSome_iff_exists.1 (mk0 nq osq).1
                obtain ⟨c1, hc1⟩ := Option.isSome_iff_exists.1 (mk1 nq osq).1
                have f0 := (mk0 nq osq).2
                have f1 := (mk1 nq osq).2
                have j0 := mj0 nq osq
                have j1 := mj1 nq osq
                have hw3 : Hid (grow (wq2.drewN nq) osq = sortWorldK (encO ov) 2 w blk off (q2 + nq) dk (os2 ++ osq)) := CLS2.out nq osq
                clear mj0 mj1 mp0 mp1 mk0 mk1 icg
                generalize grow (wq2.drewN nq) osq = wq3 at c0 hc0 c1 hc1 f0 f1 j0 j1 hw3 ⊢
                go_wp2
                go_roundg (d.size - (k' + 1 + (k2' + 1 + 1)))
                case measure => omega
                case rel => exact ⟨kk + 1, k2' + 1 + 1, q2 + nq, dk.setIfInBounds kk xj2, os2 ++ osq, by go_num, by go_num, by omega, by omega, Nat.le_refl _, by rw [hw3.out]; exact store_worldK ov w blk off _ dk _ hblk kk xj2 (by omega), by have := I2.out.keep hlt2 (kp_pos (by rw [B2.out.1, show k' + 1 + (k2' + 1) - 1 = k' + 1 + k2' by omega, B2.out.2]; exact hdup2)); rwa [B2.out.1] at this⟩
            · have hend : k' + 1 + k2 = d.size := by omega
              have hHk : HoldsK (encO ov) 2 (sortWorldK (encO ov) 2 w blk off q2 dk os2) blk off dk := holdsK_sortWorldK_c (encO ov) 2 w blk off d dk _ _ HH.out hblk hds
              have hat : ∀ j, j < (d.size - kk) * 2 → ((sortWorldK (encO ov) 2 w blk off q2 dk os2).cell? ⟨blk, off + kk * 2 + j, none⟩).isSome = true ∧ (sortWorldK (encO ov) 2 w blk off q2 dk os2).frozen? ⟨blk, off + kk * 2 + j, none⟩ = false := fun j hj => by
                have h := HoldsK.cell hHk (i := kk + j / 2) (c := j % 2) (by omega) (Nat.mod_lt _ (by decide))
                rw [show off + (kk + j / 2) * 2 + j % 2 = off + kk * 2 + j by omega] at h
                exact ⟨by rw [h.1]; rfl, h.2⟩
              have hcl : ∀ ty, (Builtin.clear_ #[42] ty #[.slice (some ⟨blk, off + kk * 2, none⟩) (d.size - kk) (cap - kk)]).run Tryd.prog (sortWorldK (encO ov) 2 w blk off q2 dk os2) = .ok (.tuple #[]) ((sortWorldK (encO ov) 2 w blk off q2 dk os2).setCells blk (off + kk * 2) (List.replicate ((d.size - kk) * 2) (.slice none 0 0))) :=
                fun ty => Tryd.run_clear2 _ ty blk _ _ _ (by omega) (fun j hj => (hat j hj).1) (fun j hj => (hat j hj).2)
              have I2 : Aside (CpInv ef d (k' + 1 + k2) kk dk) := hI
              clear hHk hat hI
              generalize hwq2 : sortWorldK (encO ov) 2 w blk off q2 dk os2 = wq2 at hcl ⊢
              have HW2 : Hid (sortWorldK (encO ov) 2 w blk off q2 dk os2 = wq2) := hwq2
              clear hwq2
              go_wp2
              go_ret
              have hI := I2.out
              rw [hend] at hI
              exact ⟨by rw [hI.len]; rfl, dk, q2, os2, kk, hI.size, fun j hj => hI.low j (by rw [hI.len] at hj; exact hj), by rw [hI.len]; exact Nat.le_refl _, by omega, by rw [HW2.out]⟩
        | false =>
          simp only [hdup] at hcg
          go_wp2_with fail
          go_quiet_grown (first | (go_at_fn g; refine Calls.grown_of (hcg _ _)))
          go_wp2_with fail
          go_roundg (d.size - (k' + 1 + 1))
          case measure => omega
          case rel =>
            refine ⟨k' + 1 + 1, q + nq, os ++ osq, by omega, by omega, Nat.le_refl _, by go_num, CLS.out nq osq, fun j hj => ?_⟩
            by_cases e : j = k' + 1
            · subst e
              exact kp_pos (by rw [B.out.1, show k' + 1 - 1 = k' by omega, B.out.2]; exact hdup)
            · exact A.out j (by omega)
      · have : k = d.size := by omega
        subst this
        go_wp2
        go_ret
        have e : cpU ef d d.size = d.toList := by rw [cpU_all ef d _ hall, range_map_get]
        rw [e]
        exact ⟨by simp, d, q, os, d.size, rfl, fun j hj => by simp at hj; simp [hj], by simp, Nat.le_refl _, by simp [World.setCells]⟩
end Go.Proofs
