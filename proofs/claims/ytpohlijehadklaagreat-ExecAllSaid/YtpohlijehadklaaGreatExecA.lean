import Derived.Test.YtpohlijehadklaaGreatRegsK
import Derived.Test.YtpohlijehadklaaGreatEngF
import Derived.Test.YtpohlijehadklaaGreatEngE
import Derived.Test.YtpohlijehadklaaGreatFlowA
set_option linter.unusedSimpArgs false
set_option linter.unusedVariables false
set_option autoImplicit false
namespace Go.Eng
open Go Go.RowKit
abbrev Wd : Type := BitVec 32
abbrev ub (b : Wd) : Int := (b.toNat : Int)
theorem ofInt_ub (b : Wd) : BitVec.ofInt 32 (ub b) = b := by
  apply BitVec.eq_of_toNat_eq
  have := b.isLt
  unfold ub
  rw [BitVec.toNat_ofInt]
  omega
theorem wrap_ub (b : Wd) : IntKind.wrap .u32 (ub b) = ub b := by
  have := b.isLt
  unfold ub
  rw [IntKind.wrap_u32]; omega
theorem ub_and (a b : Wd) : bits .and .u32 (ub a) (ub b) = ub (a &&& b) := by
  show IntKind.wrap .u32 ((BitVec.ofInt 32 (ub a) &&& BitVec.ofInt 32 (ub b)).toNat : Int) = _
  rw [ofInt_ub, ofInt_ub]; exact wrap_ub _
theorem ub_or (a b : Wd) : bits .or .u32 (ub a) (ub b) = ub (a ||| b) := by
  show IntKind.wrap .u32 ((BitVec.ofInt 32 (ub a) ||| BitVec.ofInt 32 (ub b)).toNat : Int) = _
  rw [ofInt_ub, ofInt_ub]; exact wrap_ub _
theorem ub_andNot (a b : Wd) : bits .andNot .u32 (ub a) (ub b) = ub (a &&& ~~~b) := by
  show IntKind.wrap .u32 ((BitVec.ofInt 32 (ub a) &&& ~~~BitVec.ofInt 32 (ub b)).toNat : Int) = _
  rw [ofInt_ub, ofInt_ub]; exact wrap_ub _
theorem ub_shr (a : Wd) (k : Nat) : (ub a).fdiv (2 ^ (min k 32)) = ub (a >>> k) := by
  unfold ub
  have hp : ((2 : Int) ^ min k 32) = ((2 ^ min k 32 : Nat) : Int) := by push_cast; rfl
  rw [hp, Int.fdiv_eq_ediv_of_nonneg _ (Int.natCast_nonneg _), ← Int.natCast_ediv]
  congr 1
  rw [BitVec.toNat_ushiftRight, Nat.shiftRight_eq_div_pow]
  by_cases h : k ≤ 32
  · rw [Nat.min_eq_left h]
  · rw [Nat.min_eq_right (by omega)]
    have h1 := a.isLt
    rw [Nat.div_eq_of_lt h1, Nat.div_eq_of_lt]
    exact Nat.lt_of_lt_of_le h1 (Nat.pow_le_pow_right (by decide) (by omega))
theorem ub_shl1 (k : Nat) : IntKind.wrap .u32 (1 * 2 ^ (min k 32)) = ub (1#32 <<< k) := by
  unfold ub
  rw [IntKind.wrap_u32, BitVec.toNat_shiftLeft, Nat.shiftLeft_eq]
  have hp : ((2 : Int) ^ min k 32) = ((2 ^ min k 32 : Nat) : Int) := by push_cast; rfl
  rw [hp]
  by_cases h : k < 32
  · rw [Nat.min_eq_left (by omega)]
    simp
  · rw [Nat.min_eq_right (by omega)]
    have h2 : 2 ^ k % 2 ^ 32 = 0 := by
      have : 2 ^ k = 2 ^ 32 * 2 ^ (k - 32) := by rw [← Nat.pow_add]; congr 1; omega
      rw [this]; exact Nat.mul_mod_right _ _
    simp [h2]
theorem ub_bit (a : Wd) (k : Nat) : bits .and .u32 (ub (a >>> k)) 1 = if a.getLsbD k = true then 1 else 0 := by
  have h1 : (1 : Int) = ub 1#32 := rfl
  conv => lhs; rw [h1, ub_and]
  have e : (a >>> k) &&& 1#32 = if a.getLsbD k = true then 1#32 else 0#32 := by
    apply BitVec.eq_of_getLsbD_eq
    intro i hi
    rw [BitVec.getLsbD_and, BitVec.getLsbD_ushiftRight]
    by_cases h0 : i = 0
    · subst h0
      cases h : a.getLsbD k <;> simp [h]
    · have : (1#32).getLsbD i = false := by simp [BitVec.getLsbD_one]; omega
      rw [this, Bool.and_false]
      split
      · exact this.symm
      · simp
  rw [e]
  split <;> rfl
/-- So many bits. -/
def allB (n : Nat) : Wd := BitVec.ofNat 32 (2 ^ n - 1)
theorem allB_bit {n : Nat} (h : n ≤ 32) (i : Nat) : (allB n).getLsbD i = decide (i < n) := by
  unfold allB
  rw [BitVec.getLsbD_ofNat, Nat.testBit_two_pow_sub_one]
  by_cases h1 : i < n
  · simp [h1]; omega
  · simp [h1]
theorem ub_all {n : Nat} (h : n ≤ 32) : IntKind.wrap .u32 (IntKind.wrap .u64 (IntKind.wrap .u64 (1 * 2 ^ (min n 64)) - 1)) = ub (allB n) := by
  have : ∀ m : Fin 33, IntKind.wrap .u32 (IntKind.wrap .u64 (IntKind.wrap .u64 (1 * 2 ^ (min m.1 64)) - 1)) = ub (allB m.1) := by decide
  exact this ⟨n, by omega⟩
theorem wd_ext {a b : Wd} (h : ∀ i, i < 32 → a.getLsbD i = b.getLsbD i) : a = b := BitVec.eq_of_getLsbD_eq h
end Go.Eng
set_option linter.unusedSimpArgs false
set_option linter.unusedVariables false
set_option autoImplicit false
namespace Go.Eng
open Go Go.RowKit
abbrev RL := List Wd
theorem getD_out {α : Type} (l : List α) (d : α) {i : Nat} (h : l.length ≤ i) : l.getD i d = d := by simp [List.getD, h]
theorem getD_in {α : Type} (l : List α) (d : α) {i : Nat} (h : i < l.length) : l.getD i d = l[i] := by simp [List.getD, h]
/-- A pair's bit. -/
def bitR (r : RL) (i k : Nat) : Bool := (r.getD i 0#32).getLsbD k
def addR (o : RL) (p : Nat × Nat) : RL := o.set p.1 (o.getD p.1 0#32 ||| 1#32 <<< p.2)
def foldR (n : Nat) (ps : List (Nat × Nat)) : RL := ps.foldl addR (List.replicate n 0#32)
def cleanR (r : RL) : RL := if 32 < r.length then [] else r.map (· &&& allB r.length)
def newR (n : Nat) : RL := List.replicate n 0#32
def inR (r : RL) (i k : Int) : Bool := decide (0 ≤ i) && decide (i < r.length) && decide (0 ≤ k) && decide (k < r.length)
def putR (r : RL) (i k : Int) : RL := if inR (cleanR r) i k = true then addR (cleanR r) (i.toNat, k.toNat) else cleanR r
def allP (n : Nat) : List (Nat × Nat) := (List.range n).flatMap fun i => (List.range n).map fun k => (i, k)
def pairsR (r : RL) : List (Nat × Nat) := (allP (cleanR r).length).filter fun p => bitR (cleanR r) p.1 p.2
/-- A relation of n things, with no bits that play no part. -/
structure Cl (n : Nat) (r : RL) : Prop where
  n32 : n ≤ 32
  len : r.length = n
  out : ∀ i k, n ≤ k → bitR r i k = false
theorem bit_out {r : RL} {i k : Nat} (h : r.length ≤ i) : bitR r i k = false := by
  unfold bitR
  rw [getD_out _ _ h]
  simp
theorem bit_row {r : RL} {i k : Nat} (h : 32 ≤ k) : bitR r i k = false := BitVec.getLsbD_of_ge _ _ h
theorem rel_ext {a b : RL} (hl : a.length = b.length) (h : ∀ i k, i < a.length → k < 32 → bitR a i k = bitR b i k) : a = b := by
  refine List.ext_getElem hl fun i h1 h2 => wd_ext fun k hk => ?_
  have := h i k h1 hk
  unfold bitR at this
  rwa [getD_in _ _ h1, getD_in _ _ h2] at this
theorem Cl.ext {n : Nat} {a b : RL} (ha : Cl n a) (hb : Cl n b) (h : ∀ i k, i < n → k < n → bitR a i k = bitR b i k) : a = b := by
  refine rel_ext (by rw [ha.len, hb.len]) fun i k hi hk => ?_
  rw [ha.len] at hi
  by_cases h1 : k < n
  · exact h i k hi h1
  · rw [ha.out i k (by omega), hb.out i k (by omega)]
theorem shl1_bit (k j : Nat) : (1#32 <<< k).getLsbD j = (decide (j = k) && decide (j < 32)) := by
  rw [BitVec.getLsbD_shiftLeft]
  by_cases h : j < 32
  · by_cases h2 : j < k
    · simp [h, h2]; omega
    · by_cases h3 : j = k
      · subst h3; simp [h]
      · have : ¬j - k = 0 := by omega
        simp [h, h2, h3, BitVec.getLsbD_one, this]
  · simp [h]
theorem add_len (o : RL) (p : Nat × Nat) : (addR o p).length = o.length := by simp [addR]
theorem add_bit (o : RL) (p : Nat × Nat) (i k : Nat) : bitR (addR o p) i k = (bitR o i k || (decide (i = p.1) && decide (k = p.2) && decide (i < o.length) && decide (k < 32))) := by
  unfold bitR addR
  by_cases h : i < o.length
  · rw [getD_in _ _ (by simpa using h), List.getElem_set]
    by_cases h1 : p.1 = i
    · subst h1
      rw [if_pos rfl, BitVec.getLsbD_or, shl1_bit]
      simp [h]
    · rw [if_neg h1, getD_in _ _ h]
      have : ¬i = p.1 := fun e => h1 e.symm
      simp [this]
  · rw [getD_out _ _ (by simp; omega), getD_out _ _ (by omega)]
    simp [h]
theorem bfoldl_len (ps : List (Nat × Nat)) : ∀ o : RL, (ps.foldl addR o).length = o.length := by
  induction ps with
  | nil => intro o; rfl
  | cons p ps ih => intro o; rw [List.foldl_cons, ih, add_len]
theorem foldl_bit (ps : List (Nat × Nat)) : ∀ (o : RL) (i k : Nat), i < o.length → k < 32 → bitR (ps.foldl addR o) i k = (bitR o i k || decide ((i, k) ∈ ps)) := by
  induction ps with
  | nil => intro o i k _ _; simp
  | cons p ps ih =>
    intro o i k hi hk
    rw [List.foldl_cons, ih _ _ _ (by rw [add_len]; exact hi) hk, add_bit]
    by_cases h : (i, k) = p
    · subst h; simp [hi, hk]
    · have h2 : (decide (i = p.1) && decide (k = p.2)) = false := by
        cases h3 : (decide (i = p.1) && decide (k = p.2))
        · rfl
        · simp at h3; exact absurd (Prod.ext h3.1 h3.2) h
      simp [h2, h]
theorem fold_len (n : Nat) (ps : List (Nat × Nat)) : (foldR n ps).length = n := by simp [foldR, bfoldl_len]
theorem bit_new (n i k : Nat) : bitR (List.replicate n 0#32) i k = false := by
  unfold bitR
  by_cases h : i < n
  · rw [getD_in _ _ (by simpa using h)]; simp
  · rw [getD_out _ _ (by simp; omega)]; simp
theorem fold_bit {n : Nat} {ps : List (Nat × Nat)} {i k : Nat} (hi : i < n) (hk : k < 32) : bitR (foldR n ps) i k = decide ((i, k) ∈ ps) := by
  unfold foldR
  rw [foldl_bit _ _ _ _ (by simpa using hi) hk, bit_new, Bool.false_or]
theorem fold_cl {n : Nat} {ps : List (Nat × Nat)} (h : n ≤ 32) (hp : ∀ p ∈ ps, p.2 < n) : Cl n (foldR n ps) := by
  refine ⟨h, fold_len _ _, fun i k hk => ?_⟩
  by_cases h32 : k < 32
  · by_cases hi : i < n
    · rw [fold_bit hi h32]
      refine decide_eq_false fun hm => ?_
      have := hp _ hm
      omega
    · exact bit_out (by rw [fold_len]; omega)
  · exact bit_row (by omega)
theorem clean_len {r : RL} (h : r.length ≤ 32) : (cleanR r).length = r.length := by
  unfold cleanR; rw [if_neg (by omega)]; simp
theorem clean_le (r : RL) : (cleanR r).length ≤ 32 := by
  unfold cleanR; split
  · simp
  · simp; omega
theorem clean_bit {r : RL} (h : r.length ≤ 32) (i k : Nat) : bitR (cleanR r) i k = (bitR r i k && decide (k < r.length)) := by
  unfold cleanR; rw [if_neg (by omega)]
  unfold bitR
  by_cases hi : i < r.length
  · rw [getD_in _ _ (by simpa using hi), getD_in _ _ hi, List.getElem_map, BitVec.getLsbD_and, allB_bit h]
  · rw [getD_out _ _ (by simp; omega), getD_out _ _ (by omega)]; simp
theorem Cl.clean {n : Nat} {r : RL} (h : Cl n r) : cleanR r = r := by
  have h32 : r.length ≤ 32 := by rw [h.len]; exact h.n32
  refine rel_ext (clean_len h32) fun i k hi hk => ?_
  rw [clean_bit h32, h.len]
  by_cases hk2 : k < n
  · simp [hk2]
  · rw [h.out i k (by omega)]; rfl
theorem mem_allP {n : Nat} {p : Nat × Nat} : p ∈ allP n ↔ p.1 < n ∧ p.2 < n := by
  unfold allP
  simp only [List.mem_flatMap, List.mem_range, List.mem_map]
  constructor
  · rintro ⟨i, hi, k, hk, rfl⟩; exact ⟨hi, hk⟩
  · rintro ⟨h1, h2⟩; exact ⟨p.1, h1, p.2, h2, rfl⟩
def browF (q : Nat × Nat → Bool) (i m : Nat) : List (Nat × Nat) := ((List.range m).map fun k => (i, k)).filter q
def uptoF (q : Nat × Nat → Bool) (n i : Nat) : List (Nat × Nat) := (List.range i).flatMap fun i => browF q i n
theorem brow_succ (q : Nat × Nat → Bool) (i k : Nat) : browF q i (k + 1) = browF q i k ++ (if q (i, k) = true then [(i, k)] else []) := by
  unfold browF
  rw [List.range_succ, List.map_append, List.filter_append]
  congr 1
  cases h : q (i, k) <;> simp [h]
theorem upto_succ (q : Nat × Nat → Bool) (n i : Nat) : uptoF q n (i + 1) = uptoF q n i ++ browF q i n := by
  unfold uptoF
  rw [List.range_succ, List.flatMap_append]
  simp
theorem upto_all (q : Nat × Nat → Bool) (n : Nat) : uptoF q n n = (allP n).filter q := by
  unfold uptoF allP
  have : ∀ l : List Nat, (l.flatMap fun i => browF q i n) = (l.flatMap fun i => (List.range n).map fun k => (i, k)).filter q := by
    intro l
    induction l with
    | nil => rfl
    | cons a l ih => rw [List.flatMap_cons, List.flatMap_cons, List.filter_append, ih]; rfl
  exact this _
theorem brow_zero (q : Nat × Nat → Bool) (i : Nat) : browF q i 0 = [] := rfl
theorem upto_zero (q : Nat × Nat → Bool) (n : Nat) : uptoF q n 0 = [] := rfl
theorem brow_len (q : Nat × Nat → Bool) (i m : Nat) : (browF q i m).length ≤ m := by
  unfold browF
  exact Nat.le_trans (List.length_filter_le _ _) (by simp)
theorem upto_len (q : Nat × Nat → Bool) (n : Nat) : ∀ i, (uptoF q n i).length ≤ i * n
  | 0 => by simp [upto_zero]
  | i + 1 => by
    rw [upto_succ, List.length_append, Nat.succ_mul]
    have := upto_len q n i
    have := brow_len q i n
    omega
theorem pairs_eq {r : RL} : pairsR r = uptoF (fun p => bitR (cleanR r) p.1 p.2) (cleanR r).length (cleanR r).length := by rw [upto_all]; rfl
theorem fold_snoc (n : Nat) (ps : List (Nat × Nat)) (p : Nat × Nat) : foldR n (ps ++ [p]) = addR (foldR n ps) p := by simp [foldR, List.foldl_append]
theorem put_cl {n : Nat} {r : RL} (h : Cl n r) {i k : Nat} (hi : i < n) (hk : k < n) : putR r i k = addR r (i, k) := by
  unfold putR
  rw [h.clean]
  have : inR r (i : Int) (k : Int) = true := by unfold inR; simp [h.len]; omega
  rw [if_pos this]
  simp
end Go.Eng
set_option linter.unusedSimpArgs false
set_option linter.unusedVariables false
set_option linter.constructorNameAsVariable false
set_option autoImplicit false
namespace Go.Eng
open Go Go.RowKit Go.Proofs
def rl (r : RL) : List (List PV) := r.map fun b => [C .u32 (ub b)]
theorem rl_len {r : RL} : (rl r).length = r.length := by simp [rl]
theorem rl_getE {r : RL} {i : Nat} (h : i < (rl r).length) : (rl r)[i] = [C .u32 (ub (r[i]'(by simpa [rl] using h)))] := by simp [rl]
theorem rl_set {r : RL} {i : Nat} {b : Wd} : (rl r).set i [C .u32 (ub b)] = rl (r.set i b) := by simp [rl, List.map_set]
theorem rl_nil : rl [] = [] := rfl
theorem rl_zero (n : Nat) : List.replicate n [C .u32 0] = rl (List.replicate n 0#32) := by simp [rl, ub]
theorem ub_zero : ub 0#32 = 0 := rfl
theorem ub_shl1' (k : Nat) : IntKind.wrap .u32 (2 ^ (min k 32)) = ub (1#32 <<< k) := by rw [← ub_shl1, Int.one_mul]
theorem ub_all' {n : Nat} (h : n ≤ 32) : IntKind.wrap .u32 (IntKind.wrap .u64 (IntKind.wrap .u64 (2 ^ (min n 64)) - 1)) = ub (allB n) := by rw [← ub_all h, Int.one_mul]
theorem wrap64u {n : Nat} (h : n ≤ 1000000) : IntKind.wrap .u64 (n : Int) = (n : Int) := by
  have hz : IntKind.wrap .u64 (n : Int) = (n : Int) % 18446744073709551616 := by simp [IntKind.wrap, IntKind.bits, IntKind.signed]
  rw [hz]; omega
/-- The first so many of another list. -/
def mixR (x z : RL) (i : Nat) : RL := z.take i ++ x.drop i
theorem mix_len {x z : RL} {i : Nat} (h : z.length = x.length) (hi : i ≤ x.length) : (mixR x z i).length = x.length := by simp [mixR]; omega
theorem mix_zero (x z : RL) : mixR x z 0 = x := by simp [mixR]
theorem mix_end {x z : RL} (h : z.length = x.length) : mixR x z x.length = z := by simp [mixR, ← h]
theorem mix_set {x z : RL} {i : Nat} {b : Wd} (h : z.length = x.length) (hi : i < x.length) (hb : b = z[i]'(by omega)) : (mixR x z i).set i b = mixR x z (i + 1) := by
  subst hb
  simp only [mixR]
  have hl : (z.take i).length = i := by simp; omega
  rw [List.set_append_right _ _ (by omega), hl, Nat.sub_self, List.drop_eq_getElem_cons hi, List.set_cons_zero, show z.take (i + 1) = z.take i ++ [z[i]] from by rw [List.take_add_one, List.getElem?_eq_getElem (by omega)]; rfl, List.append_assoc]
  rfl
set_option maxHeartbeats 16000000 in
theorem c_all {n : Nat} (h : n ≤ 32) : SC Tryz.prog 45 [I .i64 n] (I .u32 (ub (allB n))) := by
  have h1 := wrap64u (n := n) (by omega)
  refine scx_of Tryz.func45 rfl rfl rfl (Nat.le_of_ble_eq_true rfl) ?_
  repeat' (first
 | exact aw_ret (ret_vals (by simp; exact rfl) (by simp [ub_all' h]; fail_if_success (show _)))
 | refine ar_end rfl ?_
 | refine ar_go3 _ rfl (by simp [h1, IntKind.bits]; exact ⟨rfl, rfl, rfl⟩) rfl ?_
 | refine aw_sregK 0 [0] ?_
 | refine aw_sregK 1 [0] ?_)
set_option maxHeartbeats 16000000 in
theorem c_clean {r : RL} (hl : r.length ≤ maxLen) : SCO Tryz.prog 20 [.pv (.sl 1 (rl r))] 57 1 (rl (cleanR r)) := by
  by_cases h : 32 < r.length
  · have e : cleanR r = [] := by unfold cleanR; rw [if_pos h]
    have hc : (32 : Int) < (r.length : Int) := by omega
    rw [e]
    refine scx_of Tryz.func20 rfl rfl rfl (Nat.le_of_ble_eq_true rfl) ?_
    repeat' (first
 | refine ar_end rfl ?_
 | exact aw_ret (ret_own (.loc 8) (by simp; exact rfl) (by simp) (by simp [rl_nil]))
 | refine ar_go3 _ rfl (by simp [rl_len, rl_getE, rl_set, rl_nil, List.length_set, List.getElem_set, IntKind.bits, ub_shl1', ub_shr, ub_or, ub_and, ub_andNot, ub_bit, Int.toNat_natCast, ub_zero, hc]; exact ⟨rfl, rfl, rfl⟩) rfl ?_
 | refine aw_sregK 0 [0] ?_
 | refine aw_sregK 1 [0] ?_
 | refine aw_sregK 2 [] ?_
 | refine aw_ifT (b := true) rfl rfl ?_
 | refine aw_seq ?_)
  · have hc : ¬(32 : Int) < (r.length : Int) := by omega
    have e : cleanR r = r.map (· &&& allB r.length) := by unfold cleanR; rw [if_neg h]
    rw [e]
    generalize hz : r.map (· &&& allB r.length) = z
    have hzl : z.length = r.length := by rw [← hz]; simp
    have hzl2 : z.length = (List.replicate r.length 0#32).length := by rw [hzl]; simp
    have hA := c_all (n := r.length) (by omega)
    refine scx_of Tryz.func20 rfl rfl rfl (Nat.le_of_ble_eq_true rfl) ?_
    repeat' (first
 | refine ar_end rfl ?_
 | refine ar_make (m := r.length) rfl rfl rfl rfl (by simp; exact rfl) (by simp; exact rfl) (by simp; exact ⟨rfl, rfl⟩) (by simp; exact rfl) rfl (by simp; done) (by decide) (by simp [rl_len, rl_getE, rl_set, rl_nil, List.length_set, List.getElem_set, IntKind.bits, ub_shl1', ub_shr, ub_or, ub_and, ub_andNot, ub_bit, Int.toNat_natCast, ub_zero]; exact rfl) (by simp [rl_len, rl_getE, rl_set, rl_nil, List.length_set, List.getElem_set, IntKind.bits, ub_shl1', ub_shr, ub_or, ub_and, ub_andNot, ub_bit, Int.toNat_natCast, ub_zero]; exact rfl) rfl (by simp [maxLen]; omega) ?_
 | refine ar_go3 _ rfl (by simp [rl_len, rl_getE, rl_set, rl_nil, List.length_set, List.getElem_set, IntKind.bits, ub_shl1', ub_shr, ub_or, ub_and, ub_andNot, ub_bit, Int.toNat_natCast, ub_zero, hc]; exact ⟨rfl, rfl, rfl⟩) rfl ?_
 | refine aw_sregK 0 [0] ?_
 | refine aw_sregK 1 [0] ?_
 | refine aw_sregK 3 [0] ?_
 | refine aw_sregK 4 [0, 3] ?_
 | refine aw_ifF (b := false) rfl rfl ?_
 | refine aw_seq ?_
 | refine aw_block ?_
 | refine aw_skip ?_)
    refine aw_loopN [0, 3, 13, 14] [.loc 11] (by simp; exact rfl) (ι := {i : Nat // i ≤ r.length}) (fun i => ⟨30, [(0, .pv (.sl 1 (rl r))), (3, .own (.loc 11)), (13, I .i64 r.length), (14, I .i64 i.1)], [(.loc 11, some (.own 57 1 (rl (mixR (List.replicate r.length 0#32) z i.1))))]⟩) (fun i => r.length - i.1) ⟨0, by omega⟩ (by simp [mix_zero, rl_zero, rl_len]) ?_
    rintro ⟨i, hi⟩
    by_cases hlt : i < r.length
    · have hw : IntKind.wrap .i64 ((i : Int) + 1) = (i : Int) + 1 := wrap64s (by omega) (by omega)
      have hd : (i : Int) < (r.length : Int) := by omega
      have hml := mix_len (i := i) hzl2 (by simp; omega)
      rw [List.length_replicate] at hml
      have hms := mix_set (b := r[i] &&& allB r.length) hzl2 (by simpa using hlt) (by simp [← hz])
      generalize mixR (List.replicate r.length 0#32) z i = m at hml hms
      have hlm : i < m.length := by omega
      generalize hx : r[i] = x at hms
      repeat' (first
 | refine ar_end rfl ?_
 | refine ar_endD rfl (by kernel_rfl) ?_
 | refine ar_fin rfl ?_
 | refine ar_callV Tryz.call45 hA rfl rfl rfl rfl rfl (by simp; done) (by rfl) (by simp; done) ?_
 | refine lq_normN [0, 3, 13, 14] [.loc 11] (by simp; exact rfl) ⟨i + 1, by omega⟩ (by dsimp only; omega) (by simp [hms])
 | refine ar_go3 _ rfl (by simp [rl_len, rl_getE, rl_set, rl_nil, List.length_set, List.getElem_set, IntKind.bits, ub_shl1', ub_shr, ub_or, ub_and, ub_andNot, ub_bit, Int.toNat_natCast, ub_zero, hlt, hlm, hd, hx, hw]; exact ⟨rfl, rfl, rfl⟩) rfl ?_
 | refine aw_sregK 5 [0, 3, 13, 14] ?_
 | refine aw_sregK 6 [0, 3, 13, 14] ?_
 | refine aw_regKD mixed 7 [0, 3, 4, 13, 14] (by simp; exact rfl) ?_
 | refine aw_regK 8 [0, 3, 13, 14] ?_
 | refine aw_ifT (b := true) rfl rfl ?_
 | refine aw_seq ?_
 | refine aw_block ?_
 | refine aw_skip ?_)
    · have hd : ¬(i : Int) < (r.length : Int) := by omega
      have hie : i = r.length := by omega
      have hme := mix_end hzl2
      rw [List.length_replicate] at hme
      subst hie
      repeat' (first
 | refine ar_end rfl ?_
 | exact aw_ret (ret_own (.loc 11) (by simp; exact rfl) (by simp) (by simp [hme]))
 | refine ar_go3 _ rfl (by simp [rl_len, rl_getE, rl_set, rl_nil, List.length_set, List.getElem_set, IntKind.bits, ub_shl1', ub_shr, ub_or, ub_and, ub_andNot, ub_bit, Int.toNat_natCast, ub_zero, hd]; exact ⟨rfl, rfl, rfl⟩) rfl ?_
 | refine aw_sregK 5 [0, 3, 13, 14] ?_
 | refine aw_sregK 9 [3] ?_
 | refine aw_ifF (b := false) rfl rfl ?_
 | refine aw_seq ?_
 | refine aw_exit ?_)
set_option maxHeartbeats 16000000 in
theorem c_cleanV {r : RL} (hl : r.length ≤ maxLen) : SC Tryz.prog 20 [.pv (.sl 1 (rl r))] (.pv (.sl 1 (rl (cleanR r)))) := sco_sc (c_clean hl)
set_option maxHeartbeats 16000000 in
theorem c_new {n : Nat} (h : n ≤ 32) : SCO Tryz.prog 33 [I .i64 n] 57 1 (rl (newR n)) := by
  have h1 : ¬(n : Int) < 0 := by omega
  have h2 : ¬(32 : Int) < (n : Int) := by omega
  refine scx_of Tryz.func33 rfl rfl rfl (Nat.le_of_ble_eq_true rfl) ?_
  repeat' (first
 | refine ar_end rfl ?_
 | refine ar_make (m := n) rfl rfl rfl rfl (by simp; exact rfl) (by simp; exact rfl) (by simp; exact ⟨rfl, rfl⟩) (by simp; exact rfl) rfl (by simp; done) (by decide) (by simp []; exact rfl) (by simp []; exact rfl) rfl (by simp [maxLen]; omega) ?_
 | exact aw_ret (ret_own (.loc 11) (by simp; exact rfl) (by simp) (by simp [newR, rl_zero]))
 | refine ar_go3 _ rfl (by simp [h1, h2]; exact ⟨rfl, rfl, rfl⟩) rfl ?_
 | refine aw_sregK 0 [0] ?_
 | refine aw_sregK 1 [0] ?_
 | refine aw_sregK 3 [0] ?_
 | refine aw_ifF (b := false) rfl rfl ?_
 | refine aw_seq ?_
 | refine aw_skip ?_)
set_option maxHeartbeats 16000000 in
theorem c_newV {n : Nat} (h : n ≤ 32) : SC Tryz.prog 33 [I .i64 n] (.pv (.sl 1 (rl (newR n)))) := sco_sc (c_new h)
set_option maxHeartbeats 16000000 in
theorem c_rin {r : RL} {i k : Int} : SC Tryz.prog 77 [.pv (.sl 1 (rl r)), I .i64 i, I .i64 k] (B (inR r i k)) := by
  refine scx_of Tryz.func77 rfl rfl rfl (Nat.le_of_ble_eq_true rfl) ?_
  by_cases h1 : 0 ≤ i
  · by_cases h2 : i < (r.length : Int)
    · by_cases h3 : 0 ≤ k
      · by_cases h4 : k < (r.length : Int)
        ·
          repeat' (first
 | exact aw_ret (ret_vals (by simp; exact rfl) (by simp [inR, h1, h2, h3, h4]; fail_if_success (show _)))
 | refine ar_end rfl ?_
 | refine ar_go3 _ rfl (by simp [rl_len, rl_getE, rl_set, rl_nil, List.length_set, List.getElem_set, IntKind.bits, ub_shl1', ub_shr, ub_or, ub_and, ub_andNot, ub_bit, Int.toNat_natCast, ub_zero, h1, h2, h3, h4]; exact ⟨rfl, rfl, rfl⟩) rfl ?_
 | refine aw_sregK 0 [0, 1, 2] ?_
 | refine aw_sregK 1 [0, 1, 2] ?_)
        ·
          repeat' (first
 | exact aw_ret (ret_vals (by simp; exact rfl) (by simp [inR, h1, h2, h3, h4]; fail_if_success (show _)))
 | refine ar_end rfl ?_
 | refine ar_go3 _ rfl (by simp [rl_len, rl_getE, rl_set, rl_nil, List.length_set, List.getElem_set, IntKind.bits, ub_shl1', ub_shr, ub_or, ub_and, ub_andNot, ub_bit, Int.toNat_natCast, ub_zero, h1, h2, h3, h4]; exact ⟨rfl, rfl, rfl⟩) rfl ?_
 | refine aw_sregK 0 [0, 1, 2] ?_
 | refine aw_sregK 1 [0, 1, 2] ?_)
      ·
        repeat' (first
 | exact aw_ret (ret_vals (by simp; exact rfl) (by simp [inR, h1, h2, h3]; fail_if_success (show _)))
 | refine ar_end rfl ?_
 | refine ar_go3 _ rfl (by simp [rl_len, rl_getE, rl_set, rl_nil, List.length_set, List.getElem_set, IntKind.bits, ub_shl1', ub_shr, ub_or, ub_and, ub_andNot, ub_bit, Int.toNat_natCast, ub_zero, h1, h2, h3]; exact ⟨rfl, rfl, rfl⟩) rfl ?_
 | refine aw_sregK 0 [0, 1, 2] ?_
 | refine aw_sregK 1 [0, 1, 2] ?_)
    ·
      repeat' (first
 | exact aw_ret (ret_vals (by simp; exact rfl) (by simp [inR, h1, h2]; fail_if_success (show _)))
 | refine ar_end rfl ?_
 | refine ar_go3 _ rfl (by simp [rl_len, rl_getE, rl_set, rl_nil, List.length_set, List.getElem_set, IntKind.bits, ub_shl1', ub_shr, ub_or, ub_and, ub_andNot, ub_bit, Int.toNat_natCast, ub_zero, h1, h2]; exact ⟨rfl, rfl, rfl⟩) rfl ?_
 | refine aw_sregK 0 [0, 1, 2] ?_
 | refine aw_sregK 1 [0, 1, 2] ?_)
  ·
    repeat' (first
 | exact aw_ret (ret_vals (by simp; exact rfl) (by simp [inR, h1]; fail_if_success (show _)))
 | refine ar_end rfl ?_
 | refine ar_go3 _ rfl (by simp [rl_len, rl_getE, rl_set, rl_nil, List.length_set, List.getElem_set, IntKind.bits, ub_shl1', ub_shr, ub_or, ub_and, ub_andNot, ub_bit, Int.toNat_natCast, ub_zero, h1]; exact ⟨rfl, rfl, rfl⟩) rfl ?_
 | refine aw_sregK 0 [0, 1, 2] ?_
 | refine aw_sregK 1 [0, 1, 2] ?_)
theorem in_nat {r : RL} {i k : Int} (h : inR r i k = true) : ∃ a b : Nat, i = a ∧ k = b ∧ a < r.length ∧ b < r.length := by
  unfold inR at h
  simp only [Bool.and_eq_true, decide_eq_true_eq] at h
  exact ⟨i.toNat, k.toNat, by omega, by omega, by omega, by omega⟩
set_option maxHeartbeats 16000000 in
theorem c_put {r : RL} {i k : Int} (hl : r.length ≤ maxLen) : SCO Tryz.prog 57 [.pv (.sl 1 (rl r)), I .i64 i, I .i64 k] 57 1 (rl (putR r i k)) := by
  have hC := c_clean hl
  have hcl := clean_le r
  unfold putR
  generalize cleanR r = x at *
  have hI := c_rin (r := x) (i := i) (k := k)
  cases hin : inR x i k
  · rw [hin] at hI
    refine scx_of Tryz.func57 rfl rfl rfl (Nat.le_of_ble_eq_true rfl) ?_
    repeat' (first
 | refine ar_end rfl ?_
 | refine ar_lend Tryz.call77 hI rfl rfl rfl rfl rfl (by simp; done) rfl rfl rfl rfl ?_
 | refine ar_callO Tryz.call20 hC rfl rfl rfl rfl (by simp; exact rfl) rfl (by simp; done) (by rfl) rfl ?_
 | exact aw_ret (ret_own (.loc 9) (by simp; exact rfl) (by simp) (by simp []))
 | refine ar_go3 _ rfl (by simp [rl_len, rl_getE, rl_set, rl_nil, List.length_set, List.getElem_set, IntKind.bits, ub_shl1', ub_shr, ub_or, ub_and, ub_andNot, ub_bit, Int.toNat_natCast, ub_zero]; exact ⟨rfl, rfl, rfl⟩) rfl ?_
 | refine aw_sregK 0 [0, 1, 2] ?_
 | refine aw_sregK 1 [0, 1, 2] ?_
 | refine aw_sregK 2 [1, 2, 7] ?_
 | refine aw_sregK 4 [7] ?_
 | refine aw_ifF (b := false) rfl rfl ?_
 | refine aw_seq ?_
 | refine aw_skip ?_)
  · rw [hin] at hI
    obtain ⟨a, b, rfl, rfl, ha, hb⟩ := in_nat hin
    have hw := wrap64u (n := b) (by omega)
    have e : addR x (((a : Nat) : Int).toNat, ((b : Nat) : Int).toNat) = x.set a (x[a] ||| 1#32 <<< b) := by unfold addR; simp [getD_in _ _ ha, ha]
    rw [if_pos rfl, e]
    generalize hx : x[a] = y
    refine scx_of Tryz.func57 rfl rfl rfl (Nat.le_of_ble_eq_true rfl) ?_
    repeat' (first
 | refine ar_end rfl ?_
 | refine ar_lend Tryz.call77 hI rfl rfl rfl rfl rfl (by simp; done) rfl rfl rfl rfl ?_
 | refine ar_callO Tryz.call20 hC rfl rfl rfl rfl (by simp; exact rfl) rfl (by simp; done) (by rfl) rfl ?_
 | exact aw_ret (ret_own (.loc 9) (by simp; exact rfl) (by simp) (by simp []))
 | refine ar_go3 _ rfl (by simp [rl_len, rl_getE, rl_set, rl_nil, List.length_set, List.getElem_set, IntKind.bits, ub_shl1', ub_shr, ub_or, ub_and, ub_andNot, ub_bit, Int.toNat_natCast, ub_zero, ha, hw, hx]; exact ⟨rfl, rfl, rfl⟩) rfl ?_
 | refine aw_sregK 0 [0, 1, 2] ?_
 | refine aw_sregK 1 [0, 1, 2] ?_
 | refine aw_sregK 2 [1, 2, 7] ?_
 | refine aw_regK 3 [1, 2, 7] ?_
 | refine aw_sregK 4 [7] ?_
 | refine aw_ifT (b := true) rfl rfl ?_
 | refine aw_seq ?_)
set_option maxHeartbeats 16000000 in
theorem c_putV {r : RL} {i k : Int} (hl : r.length ≤ maxLen) : SC Tryz.prog 57 [.pv (.sl 1 (rl r)), I .i64 i, I .i64 k] (.pv (.sl 1 (rl (putR r i k)))) := sco_sc (c_put hl)
end Go.Eng
set_option linter.unusedSimpArgs false
set_option linter.unusedVariables false
set_option linter.constructorNameAsVariable false
set_option autoImplicit false
namespace Go.Eng
open Go Go.RowKit Go.Proofs
def prs (l : List (Nat × Nat)) : List (List PV) := l.map fun p => [C .i64 p.1, C .i64 p.2]
theorem prs_len {l : List (Nat × Nat)} : (prs l).length = l.length := by simp [prs]
theorem prs_getE {l : List (Nat × Nat)} {i : Nat} (h : i < (prs l).length) : (prs l)[i] = [C .i64 ((l[i]'(by simpa [prs] using h)).1 : Int), C .i64 ((l[i]'(by simpa [prs] using h)).2 : Int)] := by simp [prs]
theorem prs_app (s l : List (Nat × Nat)) : prs (s ++ l) = prs s ++ prs l := by simp [prs]
set_option maxHeartbeats 16000000 in
theorem c_pairs {r : RL} (hl : r.length ≤ maxLen) : SCO Tryz.prog 10 [.pv (.sl 1 (rl r))] 80 2 (prs (pairsR r)) := by
  have hC := c_cleanV hl
  have hcl := clean_le r
  have hlen : 0 < (cleanR r).length → r.length = (cleanR r).length := by
    intro h
    by_cases h2 : r.length ≤ 32
    · exact (clean_len h2).symm
    · unfold cleanR at h; rw [if_pos (by omega)] at h; simp at h
  rw [pairs_eq]
  generalize cleanR r = x at *
  generalize hq : (fun p : Nat × Nat => bitR x p.1 p.2) = q
  refine scx_of Tryz.func10 rfl rfl rfl (Nat.le_of_ble_eq_true rfl) ?_
  repeat' (first
 | refine ar_end rfl ?_
 | refine ar_callV Tryz.call20 hC rfl rfl rfl rfl rfl (by simp; done) (by rfl) (by simp; done) ?_
 | refine ar_go3 _ rfl (by simp [rl_len, rl_getE, rl_set, rl_nil, List.length_set, List.getElem_set, IntKind.bits, ub_shl1', ub_shr, ub_or, ub_and, ub_andNot, ub_bit, Int.toNat_natCast, ub_zero]; exact ⟨rfl, rfl, rfl⟩) rfl ?_
 | refine aw_sregK 0 [0] ?_
 | refine aw_sregK 1 [0] ?_
 | refine aw_sregK 2 [0, 3] ?_
 | refine aw_seq ?_
 | refine aw_block ?_)
  refine aw_nil 3 (.loc 1000) 80 2 (by simp; exact rfl) ?_
  refine aw_loopN [0, 3, 8, 9, 10] [.loc 1000] (by simp; exact rfl) (ι := {i : Nat // i ≤ x.length}) (fun i => ⟨35, [(0, .pv (.sl 1 (rl r))), (3, .own (.loc 1000)), (8, .pv (.sl 1 (rl x))), (9, I .i64 x.length), (10, I .i64 i.1)], [(.loc 1000, some (.own 80 2 (prs (uptoF q x.length i.1))))]⟩) (fun i => x.length - i.1) ⟨0, by omega⟩ (by simp [upto_zero, prs, rl_len]) ?_
  rintro ⟨i, hi⟩
  by_cases hlt : i < x.length
  · have hw : IntKind.wrap .i64 ((i : Int) + 1) = (i : Int) + 1 := wrap64s (by omega) (by omega)
    have hd : (i : Int) < (x.length : Int) := by omega
    have hrl := hlen (by omega)
    have hus := upto_succ q x.length i
    have hul := upto_len q x.length i
    have hul2 : i * x.length ≤ 1024 := Nat.le_trans (Nat.mul_le_mul (show i ≤ 32 by omega) hcl) (by decide)
    have hqi : ∀ k, q (i, k) = (x[i]).getLsbD k := fun k => by rw [← hq]; show (x.getD i 0#32).getLsbD k = _; rw [getD_in _ _ hlt]
    generalize hx : x[i] = w at hqi
    generalize uptoF q x.length i = U at *
    repeat' (first
 | refine ar_end rfl ?_
 | refine ar_go3 _ rfl (by simp [rl_len, rl_getE, rl_set, rl_nil, List.length_set, List.getElem_set, IntKind.bits, ub_shl1', ub_shr, ub_or, ub_and, ub_andNot, ub_bit, Int.toNat_natCast, ub_zero, hlt, hd, hx, hrl]; exact ⟨rfl, rfl, rfl⟩) rfl ?_
 | refine aw_sregK 3 [0, 3, 8, 9, 10] ?_
 | refine aw_sregK 4 [0, 3, 8, 9, 10] ?_
 | refine aw_sregK 5 [0, 3, 4, 5, 8, 9, 10] ?_
 | refine aw_ifT (b := true) rfl rfl ?_
 | refine aw_seq ?_
 | refine aw_block ?_
 | refine aw_skip ?_)
    refine aw_loopN [0, 3, 4, 5, 8, 9, 10, 16, 17] [.loc 1000] (by simp; exact rfl) (ι := {k : Nat // k ≤ x.length}) (fun k => ⟨35, [(0, .pv (.sl 1 (rl r))), (3, .own (.loc 1000)), (4, I .i64 i), (5, I .u32 (ub w)), (8, .pv (.sl 1 (rl x))), (9, I .i64 x.length), (10, I .i64 i), (16, I .i64 x.length), (17, I .i64 k.1)], [(.loc 1000, some (.own 80 2 (prs (U ++ browF q i k.1))))]⟩) (fun k => x.length - k.1) ⟨0, by omega⟩ (by simp [brow_zero, rl_len, hrl]) ?_
    rintro ⟨k, hk⟩
    by_cases hkl : k < x.length
    · have hw2 : IntKind.wrap .i64 ((k : Int) + 1) = (k : Int) + 1 := wrap64s (by omega) (by omega)
      have hwu := wrap64u (n := k) (by omega)
      have hd2 : (k : Int) < (x.length : Int) := by omega
      have hrs := brow_succ q i k
      have hrle := brow_len q i k
      have hqk := hqi k
      generalize browF q i k = V at *
      cases hb : w.getLsbD k
      · rw [hb] at hqk
        rw [hqk, if_neg (by decide), List.append_nil] at hrs
        repeat' (first
 | refine ar_end rfl ?_
 | refine ar_fin rfl ?_
 | refine bq_norm ?_
 | refine lq_normN [0, 3, 4, 5, 8, 9, 10, 16, 17] [.loc 1000] (by simp; exact rfl) ⟨k + 1, by omega⟩ (by dsimp only; omega) (by simp [hrs])
 | refine ar_go3 _ rfl (by simp [rl_len, rl_getE, rl_set, rl_nil, List.length_set, List.getElem_set, IntKind.bits, ub_shl1', ub_shr, ub_or, ub_and, ub_andNot, ub_bit, Int.toNat_natCast, ub_zero, hd2, hb, hw2, hwu]; exact ⟨rfl, rfl, rfl⟩) rfl ?_
 | refine aw_sregK 6 [0, 3, 4, 5, 8, 9, 10, 16, 17] ?_
 | refine aw_sregK 7 [0, 3, 4, 5, 8, 9, 10, 16, 17] ?_
 | refine aw_sregK 8 [0, 3, 4, 5, 6, 8, 9, 10, 16, 17] ?_
 | refine aw_regK 10 [0, 3, 4, 5, 8, 9, 10, 16, 17] ?_
 | refine aw_ifT (b := true) rfl rfl ?_
 | refine aw_ifF (b := false) rfl rfl ?_
 | refine aw_seq ?_
 | refine aw_block ?_
 | refine aw_skip ?_)
      · rw [hb] at hqk
        rw [hqk, if_pos rfl] at hrs
        repeat' (first
 | refine ar_end rfl ?_
 | refine ar_fin rfl ?_
 | refine ar_appO rfl rfl rfl rfl rfl (by simp; exact rfl) rfl (by simp; exact rfl) (by simp; exact rfl) (by simp; exact ⟨rfl, rfl⟩) rfl (by simp; exact rfl) (by simp; done) (by decide) (by simp [prs_len, maxLen]; try omega) ?_
 | refine lq_normR (.loc 31) (.loc 1000) [0, 3, 4, 5, 8, 9, 10, 16, 17] [.loc 1000] (by simp; exact rfl) ⟨k + 1, by omega⟩ (by dsimp only; omega) (by rw [hrs, ← List.append_assoc, prs_app]; simp [prs])
 | refine ar_go3 _ rfl (by simp [rl_len, rl_getE, rl_set, rl_nil, List.length_set, List.getElem_set, IntKind.bits, ub_shl1', ub_shr, ub_or, ub_and, ub_andNot, ub_bit, Int.toNat_natCast, ub_zero, hd2, hb, hw2, hwu]; exact ⟨rfl, rfl, rfl⟩) rfl ?_
 | refine aw_sregK 6 [0, 3, 4, 5, 8, 9, 10, 16, 17] ?_
 | refine aw_sregK 7 [0, 3, 4, 5, 8, 9, 10, 16, 17] ?_
 | refine aw_sregK 8 [0, 3, 4, 5, 6, 8, 9, 10, 16, 17] ?_
 | refine aw_regK 9 [0, 3, 4, 5, 6, 8, 9, 10, 16, 17] ?_
 | refine aw_regK 10 [0, 3, 4, 5, 8, 9, 10, 16, 17] ?_
 | refine aw_ifT (b := true) rfl rfl ?_
 | refine aw_seq ?_
 | refine aw_block ?_
 | refine aw_skip ?_)
    · have hd2 : ¬(k : Int) < (x.length : Int) := by omega
      have hke : k = x.length := by omega
      subst hke
      rw [← hus]
      repeat' (first
 | refine ar_end rfl ?_
 | refine ar_fin rfl ?_
 | refine lq_normN [0, 3, 8, 9, 10] [.loc 1000] (by simp; exact rfl) ⟨i + 1, by omega⟩ (by dsimp only; omega) (by simp [hd])
 | refine ar_go3 _ rfl (by simp [rl_len, rl_getE, rl_set, rl_nil, List.length_set, List.getElem_set, IntKind.bits, ub_shl1', ub_shr, ub_or, ub_and, ub_andNot, ub_bit, Int.toNat_natCast, ub_zero, hd2, hw]; exact ⟨rfl, rfl, rfl⟩) rfl ?_
 | refine aw_sregK 6 [0, 3, 4, 5, 8, 9, 10, 16, 17] ?_
 | refine aw_regK 11 [0, 3, 8, 9, 10] ?_
 | refine aw_ifF (b := false) rfl rfl ?_
 | refine aw_seq ?_
 | refine aw_exit ?_)
  · have hd : ¬(i : Int) < (x.length : Int) := by omega
    have hie : i = x.length := by omega
    subst hie
    repeat' (first
 | refine ar_end rfl ?_
 | exact aw_ret (ret_own (.loc 1000) (by simp; exact rfl) (by simp) (by simp []))
 | refine ar_go3 _ rfl (by simp [rl_len, rl_getE, rl_set, rl_nil, List.length_set, List.getElem_set, IntKind.bits, ub_shl1', ub_shr, ub_or, ub_and, ub_andNot, ub_bit, Int.toNat_natCast, ub_zero, hd]; exact ⟨rfl, rfl, rfl⟩) rfl ?_
 | refine aw_sregK 3 [0, 3, 8, 9, 10] ?_
 | refine aw_sregK 12 [3] ?_
 | refine aw_ifF (b := false) rfl rfl ?_
 | refine aw_seq ?_
 | refine aw_exit ?_)
set_option maxHeartbeats 16000000 in
theorem c_pairsV {r : RL} (hl : r.length ≤ maxLen) : SC Tryz.prog 10 [.pv (.sl 1 (rl r))] (.pv (.sl 2 (prs (pairsR r)))) := sco_sc (c_pairs hl)
end Go.Eng
set_option linter.unusedSimpArgs false
set_option linter.unusedVariables false
set_option linter.constructorNameAsVariable false
set_option autoImplicit false
namespace Go.Eng
open Go Go.RowKit Go.Proofs
structure Ex where
  es : List Ev
  po : RL
  ad : RL
  da : RL
  ct : RL
  rm : RL
  rg : List (List Int)
def rgL (l : List (List Int)) : List (List PV) := l.map fun x => [.sl 1 (ints x)]
theorem rgL_len {l : List (List Int)} : (rgL l).length = l.length := by simp [rgL]
theorem rgL_getE {l : List (List Int)} {i : Nat} (h : i < (rgL l).length) : (rgL l)[i] = [.sl 1 (ints (l[i]'(by simpa [rgL] using h)))] := by simp [rgL]
abbrev exA (e : Ex) : List PV := [.sl 7 (evsL e.es), .sl 1 (rl e.po), .sl 1 (rl e.ad), .sl 1 (rl e.da), .sl 1 (rl e.ct), .sl 1 (rl e.rm), .sl 1 (rgL e.rg)]
end Go.Eng
set_option linter.unusedSimpArgs false
set_option linter.unusedVariables false
set_option autoImplicit false
namespace Go.Eng
open Go Go.RowKit
variable {P : Program}
theorem elems_one {F : Nat → Prop} {w : World} : ∀ {cs : List PV} {vs : List Value}, PVs F w cs vs → PElems F w 1 (cs.map fun c => [c]) vs
  | [], vs, h => by simpa only [PVs, List.map_nil, PElems] using h
  | c :: cs, vs, h => by
    obtain ⟨v, vs', rfl, h1, h2⟩ := h
    exact ⟨[v], vs', rfl, rfl, ⟨v, [], rfl, h1, rfl⟩, elems_one h2⟩
theorem add0 (ad : Addr) : ad.add 0 = ad := by
  obtain ⟨b, o, k⟩ := ad
  simp [Addr.add]
theorem ok_sliceArr {o : Oper} {st : AState} {d : Nat} {x : Operand} {T e n : Nat} {cs : List PV} (ho : o.op = .slice T x none none none) (hd : o.dst = some d) (hlt : d < st.n) (hT : arrOf P T = some (n, e)) (hs : szOf P e = some 1)
    (hn : 0 < n) (hM : n ≤ maxLen) (hx : ev st x = .rptr cs) (hc : n ≤ cs.length) : OpOK P o st ⟨[(d, .pv (.sl 1 ((cs.take n).map fun c => [c])))], []⟩ [] :=
  ok_value hd hlt fun Γ ρ a w hok => by
    have k1 := ev_rel hok x; rw [hx] at k1
    obtain ⟨ad, vs, h1, h2, h3, h4⟩ := k1
    have hl : ((cs.take n).map fun c => [c]).length = n := by simp; omega
    refine ⟨.slice (some ad) n n, ⟨some ad, n, vs.take n, by rw [hl], by rw [hl]; exact Nat.le_refl _, hM, elems_one (h2.take n), ?_⟩, ?_⟩
    · rcases h3 with rfl | hF
      · exact .inl (by simp)
      · refine .inr ⟨ad, rfl, hF, fun j u hu => ?_⟩
        rw [List.getElem?_take] at hu
        split at hu
        · exact h4 j u hu
        · cases hu
    · simp [execOp, ho, Instr.sliceAt, run_underlying (und_arr hT), h1, Instr.sureAddr, Instr.sliceBounds, run_size hs, Nat.ne_of_gt hn]
      try exact add0 ad
theorem l_sliceArr {o : Oper} {st : AState} {d : Nat} {x : Operand} {T e n : Nat} {cs : List PV} (ho : o.op = .slice T x none none none) (hd : o.dst = some d) (hlt : d < st.n) (hT : arrOf P T = some (n, e)) (hs : szOf P e = some 1)
    (hn : 0 < n) (hM : n ≤ maxLen) (hx : ev st x = .rptr cs) (hc : n ≤ cs.length) : Local P o st ⟨keyO x, ⟨[(d, .pv (.sl 1 ((cs.take n).map fun c => [c])))], []⟩, []⟩ := by
  intro st2 hn2 hr
  exact ok_sliceArr ho hd (by rw [hn2]; exact hlt) hT hs hn hM (by rw [ev_agree hr (fun k hk => hk)]; exact hx) hc
theorem ar_sliceArr {ops : Array Oper} {draw : Bool} {st0 : AState} {Q : Exit → AState → Prop} {i d : Nat} {st : AState} {acc : List Eff} {o : Oper} {x : Operand} {T e n : Nat} {cs : List PV} (ho : ops[i]? = some o) (hg : o.guard = none) (hop : o.op = .slice T x none none none) (hd : o.dst = some d) (hlt : d < st.n) (hT : arrOf P T = some (n, e)) (hs : szOf P e = some 1)
    (hn : 0 < n) (hM : n ≤ maxLen) (hx : ev st x = .rptr cs) (hc : n ≤ cs.length)
    (k : AR P ops draw st0 Q (i + 1, { st with t := (d, .pv (.sl 1 ((cs.take n).map fun c => [c]))) :: st.t }, if draw = true then acc ++ [⟨keyO x, ⟨[(d, .pv (.sl 1 ((cs.take n).map fun c => [c])))], []⟩, []⟩] else acc)) : AR P ops draw st0 Q (i, st, acc) :=
  ar_loc (E := ⟨keyO x, ⟨[(d, .pv (.sl 1 ((cs.take n).map fun c => [c])))], []⟩, []⟩) (st1 := st) ho hg rfl (l_sliceArr hop hd hlt hT hs hn hM hx hc) k
theorem aw_frzB {c : Code} {Q : Exit → AState → Prop} {st st' : AState} (n : Name) (hs : st.freezeB n = st') (h : AW P c Q st') : AW P c Q st := by
  subst hs; exact aw_sub (Sub.freezeB st n) h
attribute [simp] AState.freezeB AV.frzB
end Go.Eng
namespace Go.Eng
open Go Go.RowKit
variable {P : Program}
theorem aw_impl {c : Code} {Q : Exit → AState → Prop} {st : AState} {t : Nat} {a a' : AV} (ht : tget st.t t = a) (h : ∀ ρ w v, ARel ρ w a v → ARel ρ w a' v) (k : AW P c Q ⟨st.n, (t, a') :: st.t, st.s⟩) : AW P c Q st := by
  refine aw_sub (st' := ⟨st.n, (t, a') :: st.t, st.s⟩) (fun Γ ρ a0 w hok => ⟨ρ, hok.defers, hok.size, fun q => ?_, hok.sok⟩) k
  simp only [tget]
  split
  · rename_i hq
    subst hq
    have h1 := hok.tmps q
    rw [ht] at h1
    exact h _ _ _ h1
  · exact hok.tmps q
/-- A slice of one slice, that is nil, is a slice of one that is empty. -/
theorem nil_in {es : Nat} (ρ : Rho) (w : World) (v : Value) (h : ARel ρ w (.pv (.sl 1 [[.v (.slice none 0 0)]])) v) : ARel ρ w (.pv (.sl 1 [[.sl es []]])) v := by
  obtain ⟨a, cap, vs, h1, h2, h3, h4, h5⟩ := h
  refine ⟨a, cap, vs, h1, h2, h3, ?_, h5⟩
  obtain ⟨v1, v2, e1, e2, e3, e4⟩ := h4
  obtain ⟨u, us, f1, f2, f3⟩ := e3
  have e : u = .slice none 0 0 := f2.1
  exact ⟨v1, v2, e1, e2, ⟨u, us, f1, ⟨none, 0, [], e, Nat.le_refl _, Nat.zero_le _, rfl, .inl rfl⟩, f3⟩, e4⟩
end Go.Eng
