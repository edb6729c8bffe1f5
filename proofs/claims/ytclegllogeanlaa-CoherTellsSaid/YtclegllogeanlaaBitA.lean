import Derived.Test.YtclegllogeanlaaEngC
set_option linter.unusedSimpArgs false
set_option linter.unusedVariables false
set_option autoImplicit false
namespace Go.Eng
open Go Go.RowKit
/-! Bits of 64, and of 32. -/
theorem ofInt_wrap64 (n : Int) : BitVec.ofInt 64 (IntKind.wrap .i64 n) = BitVec.ofInt 64 n := by
  apply BitVec.eq_of_toNat_eq
  simp only [BitVec.toNat_ofInt]
  rw [IntKind.wrap_i64]
  congr 1
  omega
theorem wrap_ofInt64 {n : Int} (h : -9223372036854775808 ≤ n ∧ n ≤ 9223372036854775807) : IntKind.wrap .i64 ((BitVec.ofInt 64 n).toNat : Int) = n := by
  rw [BitVec.toNat_ofInt, IntKind.wrap_i64]
  omega
theorem ofInt_toNat64 (b : BitVec 64) : BitVec.ofInt 64 (b.toNat : Int) = b := by
  apply BitVec.eq_of_toNat_eq
  rw [BitVec.toNat_ofInt]
  have := b.isLt
  omega
theorem bits_and64 (x y : Int) : BitVec.ofInt 64 (bits .and .i64 x y) = BitVec.ofInt 64 x &&& BitVec.ofInt 64 y := by
  show BitVec.ofInt 64 (IntKind.wrap .i64 ((BitVec.ofInt 64 x &&& BitVec.ofInt 64 y).toNat : Int)) = _
  rw [ofInt_wrap64, ofInt_toNat64]
theorem bits_xor64 (x y : Int) : BitVec.ofInt 64 (bits .xor .i64 x y) = BitVec.ofInt 64 x ^^^ BitVec.ofInt 64 y := by
  show BitVec.ofInt 64 (IntKind.wrap .i64 ((BitVec.ofInt 64 x ^^^ BitVec.ofInt 64 y).toNat : Int)) = _
  rw [ofInt_wrap64, ofInt_toNat64]
theorem bits_comm (k : IntKind) (op : BinOp) (h : op = .and ∨ op = .or ∨ op = .xor) (x y : Int) : bits op k x y = bits op k y x := by
  rcases h with rfl | rfl | rfl <;> simp only [bits]
  · rw [BitVec.and_comm]
  · rw [BitVec.or_comm]
  · rw [BitVec.xor_comm]
theorem add_sub64 {p q : Int} (h : -9223372036854775808 ≤ q ∧ q ≤ 9223372036854775807) : IntKind.wrap .i64 (IntKind.wrap .i64 (p + q) - p) = q := by
  rw [IntKind.wrap_i64, IntKind.wrap_i64]; omega
theorem xor_xor64 {p q : Int} (h : -9223372036854775808 ≤ q ∧ q ≤ 9223372036854775807) : bits .xor .i64 (bits .xor .i64 p q) p = q := by
  show IntKind.wrap .i64 ((BitVec.ofInt 64 (bits .xor .i64 p q) ^^^ BitVec.ofInt 64 p).toNat : Int) = q
  rw [bits_xor64, BitVec.xor_comm, ← BitVec.xor_assoc, BitVec.xor_self, BitVec.zero_xor, wrap_ofInt64 h]
theorem and_not64 (p q : Int) : bits .andNot .i64 (bits .and .i64 p q) p = 0 ∧ bits .andNot .i64 (bits .and .i64 p q) q = 0 := by
  constructor
  · show IntKind.wrap .i64 ((BitVec.ofInt 64 (bits .and .i64 p q) &&& ~~~BitVec.ofInt 64 p).toNat : Int) = 0
    rw [bits_and64, BitVec.and_comm (BitVec.ofInt 64 p), BitVec.and_assoc, BitVec.and_not_self]; simp [IntKind.wrap_i64]
  · show IntKind.wrap .i64 ((BitVec.ofInt 64 (bits .and .i64 p q) &&& ~~~BitVec.ofInt 64 q).toNat : Int) = 0
    rw [bits_and64, BitVec.and_assoc, BitVec.and_not_self]; simp [IntKind.wrap_i64]
theorem xor_self64 (p : Int) : bits .xor .i64 p p = 0 := by
  show IntKind.wrap .i64 ((BitVec.ofInt 64 p ^^^ BitVec.ofInt 64 p).toNat : Int) = 0
  rw [BitVec.xor_self]; rfl
theorem or_self32 {p : Int} (h : 0 ≤ p ∧ p ≤ 4294967295) : bits .or .u32 p p = p := by
  show IntKind.wrap .u32 ((BitVec.ofInt 32 p ||| BitVec.ofInt 32 p).toNat : Int) = p
  rw [BitVec.or_self, BitVec.toNat_ofInt, IntKind.wrap_u32]; omega
theorem wf_wrap (k : IntKind) (n : Int) : (Lit.int k (k.wrap n)).wf = true := by
  cases k <;> simp only [Lit.wf, IntKind.wrap, IntKind.min, IntKind.max, IntKind.bits, IntKind.signed, decide_eq_true_eq, Bool.and_eq_true] <;> simp <;> (try split) <;> omega
theorem wf_bits (op : BinOp) (k : IntKind) (x y : Int) : (Lit.int k (bits op k x y)).wf = true := wf_wrap k _
end Go.Eng
set_option linter.unusedSimpArgs false
set_option linter.unusedVariables false
set_option autoImplicit false
namespace Go.Eng
open Go Go.RowKit
/-! Bits of 32, as numbers of a relation's rows. -/
abbrev Wd : Type := BitVec 32
abbrev ub (b : Wd) : Int := (b.toNat : Int)
theorem ofInt_ub (b : Wd) : BitVec.ofInt 32 (ub b) = b := by
  apply BitVec.eq_of_toNat_eq
  have := b.isLt
  unfold ub
  rw [BitVec.toNat_ofInt]
  omega
theorem ub_bnd (b : Wd) : 0 ≤ ub b ∧ ub b ≤ 4294967295 := by have := b.isLt; unfold ub; omega
theorem wrap_ub (b : Wd) : IntKind.wrap .u32 (ub b) = ub b := by
  have := b.isLt
  unfold ub
  rw [IntKind.wrap_u32]; omega
theorem ub_and (a b : Wd) : bits .and .u32 (ub a) (ub b) = ub (a &&& b) := by
  show IntKind.wrap .u32 ((BitVec.ofInt 32 (ub a) &&& BitVec.ofInt 32 (ub b)).toNat : Int) = _
  rw [ofInt_ub, ofInt_ub]; exact wrap_ub _
theorem ub_or (a b : Wd) : bits .or .u32 (ub a) (ub b) = ub (a ||| b) := by
  show IntKind.wrap .u32 ((BitVec.ofInt 32 (ub a) ||| BitVec.ofInt 32 (ub b)).toNat : Int) = _
  rw [ofInt_ub, ofInt_ub]; exact wrap_ub _
theorem ub_andNot (a b : Wd) : bits .andNot .u32 (ub a) (ub b) = ub (a &&& ~~~b) := by
  show IntKind.wrap .u32 ((BitVec.ofInt 32 (ub a) &&& ~~~BitVec.ofInt 32 (ub b)).toNat : Int) = _
  rw [ofInt_ub, ofInt_ub]; exact wrap_ub _
theorem ub_inj {a b : Wd} : ub a = ub b ↔ a = b := by
  constructor
  · intro h; apply BitVec.eq_of_toNat_eq; unfold ub at h; omega
  · rintro rfl; rfl
theorem ub_shr (a : Wd) (k : Nat) : (ub a).fdiv (2 ^ (min k 32)) = ub (a >>> k) := by
  unfold ub
  have hp : ((2 : Int) ^ min k 32) = ((2 ^ min k 32 : Nat) : Int) := by push_cast; rfl
  rw [hp, Int.fdiv_eq_ediv_of_nonneg _ (Int.natCast_nonneg _), ← Int.natCast_ediv]
  congr 1
  rw [BitVec.toNat_ushiftRight, Nat.shiftRight_eq_div_pow]
  by_cases h : k ≤ 32
  · rw [Nat.min_eq_left h]
  · rw [Nat.min_eq_right (by omega)]
    have h1 := a.isLt
    rw [Nat.div_eq_of_lt h1, Nat.div_eq_of_lt]
    exact Nat.lt_of_lt_of_le h1 (Nat.pow_le_pow_right (by decide) (by omega))
theorem ub_shl1 (k : Nat) : IntKind.wrap .u32 (1 * 2 ^ (min k 32)) = ub (1#32 <<< k) := by
  unfold ub
  rw [IntKind.wrap_u32, BitVec.toNat_shiftLeft, Nat.shiftLeft_eq]
  have hp : ((2 : Int) ^ min k 32) = ((2 ^ min k 32 : Nat) : Int) := by push_cast; rfl
  rw [hp]
  by_cases h : k < 32
  · rw [Nat.min_eq_left (by omega)]
    simp
  · rw [Nat.min_eq_right (by omega)]
    have h2 : 2 ^ k % 2 ^ 32 = 0 := by
      have : 2 ^ k = 2 ^ 32 * 2 ^ (k - 32) := by rw [← Nat.pow_add]; congr 1; omega
      rw [this]; exact Nat.mul_mod_right _ _
    simp [h2]
theorem ub_bit (a : Wd) (k : Nat) : bits .and .u32 (ub (a >>> k)) 1 = if a.getLsbD k = true then 1 else 0 := by
  have h1 : (1 : Int) = ub 1#32 := rfl
  conv => lhs; rw [h1, ub_and]
  have e : (a >>> k) &&& 1#32 = if a.getLsbD k = true then 1#32 else 0#32 := by
    apply BitVec.eq_of_getLsbD_eq
    intro i hi
    rw [BitVec.getLsbD_and, BitVec.getLsbD_ushiftRight]
    by_cases h0 : i = 0
    · subst h0
      cases h : a.getLsbD k <;> simp [h]
    · have : (1#32).getLsbD i = false := by simp [BitVec.getLsbD_one]; omega
      rw [this, Bool.and_false]
      split
      · exact this.symm
      · simp
  rw [e]
  split <;> rfl
/-- So many bits. -/
def allB (n : Nat) : Wd := BitVec.ofNat 32 (2 ^ n - 1)
theorem allB_bit {n : Nat} (h : n ≤ 32) (i : Nat) : (allB n).getLsbD i = decide (i < n) := by
  unfold allB
  rw [BitVec.getLsbD_ofNat, Nat.testBit_two_pow_sub_one]
  by_cases h1 : i < n
  · simp [h1]; omega
  · simp [h1]
theorem ub_all {n : Nat} (h : n ≤ 32) : IntKind.wrap .u32 (IntKind.wrap .u64 (IntKind.wrap .u64 (1 * 2 ^ (min n 64)) - 1)) = ub (allB n) := by
  have : ∀ m : Fin 33, IntKind.wrap .u32 (IntKind.wrap .u64 (IntKind.wrap .u64 (1 * 2 ^ (min m.1 64)) - 1)) = ub (allB m.1) := by decide
  exact this ⟨n, by omega⟩
theorem wd_ext {a b : Wd} (h : ∀ i, i < 32 → a.getLsbD i = b.getLsbD i) : a = b := BitVec.eq_of_getLsbD_eq h
end Go.Eng
set_option linter.unusedSimpArgs false
set_option linter.unusedVariables false
set_option autoImplicit false
namespace Go.Eng
open Go Go.RowKit
/-! Relations: rows of bits. -/
abbrev RL := List Wd
theorem getD_out {α : Type} (l : List α) (d : α) {i : Nat} (h : l.length ≤ i) : l.getD i d = d := by simp [List.getD, h]
theorem getD_in {α : Type} (l : List α) (d : α) {i : Nat} (h : i < l.length) : l.getD i d = l[i] := by simp [List.getD, h]
/-- A pair's bit. -/
def bitR (r : RL) (i k : Nat) : Bool := (r.getD i 0#32).getLsbD k
def addR (o : RL) (p : Nat × Nat) : RL := o.set p.1 (o.getD p.1 0#32 ||| 1#32 <<< p.2)
def foldR (n : Nat) (ps : List (Nat × Nat)) : RL := ps.foldl addR (List.replicate n 0#32)
def cleanR (r : RL) : RL := if 32 < r.length then [] else r.map (· &&& allB r.length)
def newR (n : Nat) : RL := List.replicate n 0#32
def inR (r : RL) (i k : Int) : Bool := decide (0 ≤ i) && decide (i < r.length) && decide (0 ≤ k) && decide (k < r.length)
def putR (r : RL) (i k : Int) : RL := if inR (cleanR r) i k = true then addR (cleanR r) (i.toNat, k.toNat) else cleanR r
def hasR (r : RL) (i k : Int) : Bool := decide (r.length ≤ 32) && inR r i k && bitR r i.toNat k.toNat
def bothR (f : Wd → Wd → Wd) (a b : RL) : RL := if (cleanR a).length = (cleanR b).length then List.zipWith f (cleanR a) (cleanR b) else []
def onlyR (a : RL) (fr to : Wd) : RL := (cleanR a).mapIdx fun i x => (if fr.getLsbD i = true then x else 0#32) &&& to
def allP (n : Nat) : List (Nat × Nat) := (List.range n).flatMap fun i => (List.range n).map fun k => (i, k)
def pairsR (r : RL) : List (Nat × Nat) := (allP (cleanR r).length).filter fun p => bitR (cleanR r) p.1 p.2
def invR (r : RL) : RL := foldR (cleanR r).length ((pairsR (cleanR r)).map fun p => (p.2, p.1))
def sameR (a b : RL) : Bool := decide (cleanR a = cleanR b)
def crossR (n : Nat) (fr to : Wd) : RL := onlyR (List.replicate n (allB n)) fr to
/-- A relation of n things, with no bits that play no part. -/
structure Cl (n : Nat) (r : RL) : Prop where
  n32 : n ≤ 32
  len : r.length = n
  out : ∀ i k, n ≤ k → bitR r i k = false
theorem bit_out {r : RL} {i k : Nat} (h : r.length ≤ i) : bitR r i k = false := by
  unfold bitR
  rw [getD_out _ _ h]
  simp
theorem bit_row {r : RL} {i k : Nat} (h : 32 ≤ k) : bitR r i k = false := BitVec.getLsbD_of_ge _ _ h
theorem rel_ext {a b : RL} (hl : a.length = b.length) (h : ∀ i k, i < a.length → k < 32 → bitR a i k = bitR b i k) : a = b := by
  refine List.ext_getElem hl fun i h1 h2 => wd_ext fun k hk => ?_
  have := h i k h1 hk
  unfold bitR at this
  rwa [getD_in _ _ h1, getD_in _ _ h2] at this
theorem Cl.ext {n : Nat} {a b : RL} (ha : Cl n a) (hb : Cl n b) (h : ∀ i k, i < n → k < n → bitR a i k = bitR b i k) : a = b := by
  refine rel_ext (by rw [ha.len, hb.len]) fun i k hi hk => ?_
  rw [ha.len] at hi
  by_cases h1 : k < n
  · exact h i k hi h1
  · rw [ha.out i k (by omega), hb.out i k (by omega)]
theorem shl1_bit (k j : Nat) : (1#32 <<< k).getLsbD j = (decide (j = k) && decide (j < 32)) := by
  rw [BitVec.getLsbD_shiftLeft]
  by_cases h : j < 32
  · by_cases h2 : j < k
    · simp [h, h2]; omega
    · by_cases h3 : j = k
      · subst h3; simp [h]
      · have : ¬j - k = 0 := by omega
        simp [h, h2, h3, BitVec.getLsbD_one, this]
  · simp [h]
theorem add_len (o : RL) (p : Nat × Nat) : (addR o p).length = o.length := by simp [addR]
theorem add_bit (o : RL) (p : Nat × Nat) (i k : Nat) : bitR (addR o p) i k = (bitR o i k || (decide (i = p.1) && decide (k = p.2) && decide (i < o.length) && decide (k < 32))) := by
  unfold bitR addR
  by_cases h : i < o.length
  · rw [getD_in _ _ (by simpa using h), List.getElem_set]
    by_cases h1 : p.1 = i
    · subst h1
      rw [if_pos rfl, BitVec.getLsbD_or, shl1_bit]
      simp [h]
    · rw [if_neg h1, getD_in _ _ h]
      have : ¬i = p.1 := fun e => h1 e.symm
      simp [this]
  · rw [getD_out _ _ (by simp; omega), getD_out _ _ (by omega)]
    simp [h]
theorem foldl_len (ps : List (Nat × Nat)) : ∀ o : RL, (ps.foldl addR o).length = o.length := by
  induction ps with
  | nil => intro o; rfl
  | cons p ps ih => intro o; rw [List.foldl_cons, ih, add_len]
theorem foldl_bit (ps : List (Nat × Nat)) : ∀ (o : RL) (i k : Nat), i < o.length → k < 32 → bitR (ps.foldl addR o) i k = (bitR o i k || decide ((i, k) ∈ ps)) := by
  induction ps with
  | nil => intro o i k _ _; simp
  | cons p ps ih =>
    intro o i k hi hk
    rw [List.foldl_cons, ih _ _ _ (by rw [add_len]; exact hi) hk, add_bit]
    by_cases h : (i, k) = p
    · subst h; simp [hi, hk]
    · have h2 : (decide (i = p.1) && decide (k = p.2)) = false := by
        cases h3 : (decide (i = p.1) && decide (k = p.2))
        · rfl
        · simp at h3; exact absurd (Prod.ext h3.1 h3.2) h
      simp [h2, h]
theorem fold_len (n : Nat) (ps : List (Nat × Nat)) : (foldR n ps).length = n := by simp [foldR, foldl_len]
theorem bit_new (n i k : Nat) : bitR (List.replicate n 0#32) i k = false := by
  unfold bitR
  by_cases h : i < n
  · rw [getD_in _ _ (by simpa using h)]; simp
  · rw [getD_out _ _ (by simp; omega)]; simp
theorem fold_bit {n : Nat} {ps : List (Nat × Nat)} {i k : Nat} (hi : i < n) (hk : k < 32) : bitR (foldR n ps) i k = decide ((i, k) ∈ ps) := by
  unfold foldR
  rw [foldl_bit _ _ _ _ (by simpa using hi) hk, bit_new, Bool.false_or]
theorem fold_cl {n : Nat} {ps : List (Nat × Nat)} (h : n ≤ 32) (hp : ∀ p ∈ ps, p.2 < n) : Cl n (foldR n ps) := by
  refine ⟨h, fold_len _ _, fun i k hk => ?_⟩
  by_cases h32 : k < 32
  · by_cases hi : i < n
    · rw [fold_bit hi h32]
      refine decide_eq_false fun hm => ?_
      have := hp _ hm
      omega
    · exact bit_out (by rw [fold_len]; omega)
  · exact bit_row (by omega)
theorem clean_len {r : RL} (h : r.length ≤ 32) : (cleanR r).length = r.length := by
  unfold cleanR; rw [if_neg (by omega)]; simp
theorem clean_le (r : RL) : (cleanR r).length ≤ 32 := by
  unfold cleanR; split
  · simp
  · simp; omega
theorem clean_bit {r : RL} (h : r.length ≤ 32) (i k : Nat) : bitR (cleanR r) i k = (bitR r i k && decide (k < r.length)) := by
  unfold cleanR; rw [if_neg (by omega)]
  unfold bitR
  by_cases hi : i < r.length
  · rw [getD_in _ _ (by simpa using hi), getD_in _ _ hi, List.getElem_map, BitVec.getLsbD_and, allB_bit h]
  · rw [getD_out _ _ (by simp; omega), getD_out _ _ (by omega)]; simp
theorem clean_cl {r : RL} (h : r.length ≤ 32) : Cl r.length (cleanR r) :=
  ⟨h, clean_len h, fun i k hk => by rw [clean_bit h]; simp; omega⟩
theorem Cl.clean {n : Nat} {r : RL} (h : Cl n r) : cleanR r = r := by
  have h32 : r.length ≤ 32 := by rw [h.len]; exact h.n32
  refine rel_ext (clean_len h32) fun i k hi hk => ?_
  rw [clean_bit h32, h.len]
  by_cases hk2 : k < n
  · simp [hk2]
  · rw [h.out i k (by omega)]; rfl
theorem clean_clean (r : RL) : cleanR (cleanR r) = cleanR r := by
  by_cases h : r.length ≤ 32
  · exact (clean_cl h).clean
  · have : cleanR r = [] := by unfold cleanR; rw [if_pos (by omega)]
    rw [this]; rfl
theorem new_cl {n : Nat} (h : n ≤ 32) : Cl n (newR n) := ⟨h, by simp [newR], fun i k _ => bit_new n i k⟩
theorem zip_bit {f : Wd → Wd → Wd} {g : Bool → Bool → Bool} (hg : g false false = false) (hf : ∀ x y k, (f x y).getLsbD k = g (x.getLsbD k) (y.getLsbD k)) {a b : RL} (hl : a.length = b.length) (i k : Nat) : bitR (List.zipWith f a b) i k = g (bitR a i k) (bitR b i k) := by
  unfold bitR
  by_cases h : i < a.length
  · rw [getD_in _ _ (by simp; omega), getD_in _ _ h, getD_in _ _ (by omega), List.getElem_zipWith, hf]
  · rw [getD_out _ _ (by simp; omega), getD_out _ _ (by omega), getD_out _ _ (by omega)]
    simp [hg]
theorem both_cl {f : Wd → Wd → Wd} {g : Bool → Bool → Bool} (hg : g false false = false) (hf : ∀ x y k, (f x y).getLsbD k = g (x.getLsbD k) (y.getLsbD k)) {n : Nat} {a b : RL} (ha : Cl n a) (hb : Cl n b) :
    Cl n (bothR f a b) ∧ ∀ i k, bitR (bothR f a b) i k = g (bitR a i k) (bitR b i k) := by
  unfold bothR
  rw [ha.clean, hb.clean, if_pos (by rw [ha.len, hb.len])]
  have hl : a.length = b.length := by rw [ha.len, hb.len]
  refine ⟨⟨ha.n32, by simp [ha.len, hb.len], fun i k hk => ?_⟩, zip_bit hg hf hl⟩
  rw [zip_bit hg hf hl, ha.out i k hk, hb.out i k hk, hg]
theorem only_bit {a : RL} (fr to : Wd) (i k : Nat) : bitR (onlyR a fr to) i k = (bitR (cleanR a) i k && fr.getLsbD i && to.getLsbD k) := by
  unfold onlyR bitR
  by_cases h : i < (cleanR a).length
  · rw [getD_in _ _ (by simpa using h), getD_in _ _ h, List.getElem_mapIdx, BitVec.getLsbD_and]
    cases fr.getLsbD i <;> simp
  · rw [getD_out _ _ (by simp; omega), getD_out _ _ (by omega)]; simp
theorem only_cl {a : RL} (h : a.length ≤ 32) (fr to : Wd) : Cl a.length (onlyR a fr to) := by
  refine ⟨h, by simp [onlyR, clean_len h], fun i k hk => ?_⟩
  rw [only_bit, (clean_cl h).out i k hk]; rfl
theorem mem_allP {n : Nat} {p : Nat × Nat} : p ∈ allP n ↔ p.1 < n ∧ p.2 < n := by
  unfold allP
  simp only [List.mem_flatMap, List.mem_range, List.mem_map]
  constructor
  · rintro ⟨i, hi, k, hk, rfl⟩; exact ⟨hi, hk⟩
  · rintro ⟨h1, h2⟩; exact ⟨p.1, h1, p.2, h2, rfl⟩
theorem mem_pairs {r : RL} {p : Nat × Nat} : p ∈ pairsR r ↔ p.1 < (cleanR r).length ∧ p.2 < (cleanR r).length ∧ bitR (cleanR r) p.1 p.2 = true := by
  unfold pairsR
  rw [List.mem_filter, mem_allP]
  exact ⟨fun ⟨⟨a, b⟩, c⟩ => ⟨a, b, c⟩, fun ⟨a, b, c⟩ => ⟨⟨a, b⟩, c⟩⟩
theorem inv_cl {n : Nat} {r : RL} (h : Cl n r) : Cl n (invR r) ∧ ∀ i k, i < n → k < n → bitR (invR r) i k = bitR r k i := by
  unfold invR
  rw [h.clean, h.len]
  have hm : ∀ i k, (i, k) ∈ (pairsR r).map (fun p => (p.2, p.1)) ↔ k < n ∧ i < n ∧ bitR r k i = true := by
    intro i k
    rw [List.mem_map]
    constructor
    · rintro ⟨p, hp, e⟩
      rw [mem_pairs, h.clean, h.len] at hp
      cases e
      exact hp
    · rintro ⟨h1, h2, h3⟩
      exact ⟨(k, i), by rw [mem_pairs, h.clean, h.len]; exact ⟨h1, h2, h3⟩, rfl⟩
  refine ⟨fold_cl h.n32 fun p hp => ((hm p.1 p.2).1 hp).1, fun i k hi hk => ?_⟩
  have := h.n32
  rw [fold_bit hi (by omega)]
  cases hb : bitR r k i
  · exact decide_eq_false fun hm2 => by rw [((hm i k).1 hm2).2.2] at hb; cases hb
  · exact decide_eq_true ((hm i k).2 ⟨hk, hi, hb⟩)
/-! Pairs, row by row. -/
def rowF (q : Nat × Nat → Bool) (i m : Nat) : List (Nat × Nat) := ((List.range m).map fun k => (i, k)).filter q
def uptoF (q : Nat × Nat → Bool) (n i : Nat) : List (Nat × Nat) := (List.range i).flatMap fun i => rowF q i n
theorem row_succ (q : Nat × Nat → Bool) (i k : Nat) : rowF q i (k + 1) = rowF q i k ++ (if q (i, k) = true then [(i, k)] else []) := by
  unfold rowF
  rw [List.range_succ, List.map_append, List.filter_append]
  congr 1
  cases h : q (i, k) <;> simp [h]
theorem upto_succ (q : Nat × Nat → Bool) (n i : Nat) : uptoF q n (i + 1) = uptoF q n i ++ rowF q i n := by
  unfold uptoF
  rw [List.range_succ, List.flatMap_append]
  simp
theorem upto_all (q : Nat × Nat → Bool) (n : Nat) : uptoF q n n = (allP n).filter q := by
  unfold uptoF allP
  have : ∀ l : List Nat, (l.flatMap fun i => rowF q i n) = (l.flatMap fun i => (List.range n).map fun k => (i, k)).filter q := by
    intro l
    induction l with
    | nil => rfl
    | cons a l ih => rw [List.flatMap_cons, List.flatMap_cons, List.filter_append, ih]; rfl
  exact this _
theorem row_zero (q : Nat × Nat → Bool) (i : Nat) : rowF q i 0 = [] := rfl
theorem upto_zero (q : Nat × Nat → Bool) (n : Nat) : uptoF q n 0 = [] := rfl
theorem row_len (q : Nat × Nat → Bool) (i m : Nat) : (rowF q i m).length ≤ m := by
  unfold rowF
  exact Nat.le_trans (List.length_filter_le _ _) (by simp)
theorem upto_len (q : Nat × Nat → Bool) (n : Nat) : ∀ i, (uptoF q n i).length ≤ i * n
  | 0 => by simp [upto_zero]
  | i + 1 => by
    rw [upto_succ, List.length_append, Nat.succ_mul]
    have := upto_len q n i
    have := row_len q i n
    omega
theorem pairs_eq {r : RL} : pairsR r = uptoF (fun p => bitR (cleanR r) p.1 p.2) (cleanR r).length (cleanR r).length := by rw [upto_all]; rfl
theorem filter_take_succ {α : Type} {p : α → Bool} {l : List α} {n : Nat} (h : n < l.length) : (l.take (n + 1)).filter p = (l.take n).filter p ++ (if p l[n] = true then [l[n]] else []) := by
  rw [List.take_add_one, List.getElem?_eq_getElem h, List.filter_append]
  cases hp : p l[n] <;> simp [hp]
theorem fold_snoc (n : Nat) (ps : List (Nat × Nat)) (p : Nat × Nat) : foldR n (ps ++ [p]) = addR (foldR n ps) p := by simp [foldR, List.foldl_append]
theorem put_cl {n : Nat} {r : RL} (h : Cl n r) {i k : Nat} (hi : i < n) (hk : k < n) : putR r i k = addR r (i, k) := by
  unfold putR
  rw [h.clean]
  have : inR r (i : Int) (k : Int) = true := by unfold inR; simp [h.len]; omega
  rw [if_pos this]
  simp
theorem put_out {n : Nat} {r : RL} (h : Cl n r) {i k : Int} (hi : ¬(0 ≤ i ∧ i < n ∧ 0 ≤ k ∧ k < n)) : putR r i k = r := by
  unfold putR
  rw [h.clean]
  have : inR r i k = false := by
    unfold inR; rw [h.len]
    cases h2 : (decide (0 ≤ i) && decide (i < (n : Int)) && decide (0 ≤ k) && decide (k < (n : Int)))
    · rfl
    · simp at h2; omega
  rw [if_neg (by rw [this]; decide)]
theorem has_nat {n : Nat} {r : RL} (h : Cl n r) {i k : Nat} : hasR r i k = bitR r i k := by
  have h32 := h.n32
  unfold hasR
  rw [h.len]
  by_cases hi : i < n
  · by_cases hk : k < n
    · have : inR r (i : Int) (k : Int) = true := by unfold inR; simp [h.len]; omega
      rw [this]; simp [h32]
    · rw [h.out i k (by omega)]
      have : inR r (i : Int) (k : Int) = false := by unfold inR; simp [h.len]; omega
      rw [this]; simp
  · have hb : bitR r i k = false := bit_out (by rw [h.len]; omega)
    have : inR r (i : Int) (k : Int) = false := by unfold inR; simp [h.len]; omega
    rw [this, hb]; simp
theorem or_bit (x y : Wd) (k : Nat) : (x ||| y).getLsbD k = (x.getLsbD k || y.getLsbD k) := BitVec.getLsbD_or
theorem and_bit (x y : Wd) (k : Nat) : (x &&& y).getLsbD k = (x.getLsbD k && y.getLsbD k) := BitVec.getLsbD_and
theorem orR {n : Nat} {a b : RL} (ha : Cl n a) (hb : Cl n b) : Cl n (bothR (· ||| ·) a b) ∧ ∀ i k, bitR (bothR (· ||| ·) a b) i k = (bitR a i k || bitR b i k) := both_cl (g := (· || ·)) rfl or_bit ha hb
theorem andR {n : Nat} {a b : RL} (ha : Cl n a) (hb : Cl n b) : Cl n (bothR (· &&& ·) a b) ∧ ∀ i k, bitR (bothR (· &&& ·) a b) i k = (bitR a i k && bitR b i k) := both_cl (g := (· && ·)) rfl and_bit ha hb
/-- 'Or', 'And' see what is clean of their sides alone. -/
theorem both_clean (f : Wd → Wd → Wd) (a b : RL) : bothR f (cleanR a) (cleanR b) = bothR f a b := by unfold bothR; rw [clean_clean, clean_clean]
theorem both_cleanL (f : Wd → Wd → Wd) (a b : RL) : bothR f (cleanR a) b = bothR f a b := by unfold bothR; rw [clean_clean]
theorem pairs_clean (r : RL) : pairsR (cleanR r) = pairsR r := by unfold pairsR; rw [clean_clean]
end Go.Eng
