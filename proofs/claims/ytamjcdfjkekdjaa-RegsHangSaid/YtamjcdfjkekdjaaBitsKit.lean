import Derived.Test.YtamjcdfjkekdjaaEc4
set_option linter.unusedSimpArgs false
set_option linter.unusedVariables false
set_option autoImplicit false
namespace Go.Eng
open Go Go.RowKit
/-! Bits of 64, and of 32. -/
theorem ofInt_wrap64 (n : Int) : BitVec.ofInt 64 (IntKind.wrap .i64 n) = BitVec.ofInt 64 n := by
  apply BitVec.eq_of_toNat_eq
  simp only [BitVec.toNat_ofInt]
  rw [IntKind.wrap_i64]
  congr 1
  omega
theorem wrap_ofInt64 {n : Int} (h : -9223372036854775808 ≤ n ∧ n ≤ 9223372036854775807) : IntKind.wrap .i64 ((BitVec.ofInt 64 n).toNat : Int) = n := by
  rw [BitVec.toNat_ofInt, IntKind.wrap_i64]
  omega
theorem ofInt_toNat64 (b : BitVec 64) : BitVec.ofInt 64 (b.toNat : Int) = b := by
  apply BitVec.eq_of_toNat_eq
  rw [BitVec.toNat_ofInt]
  have := b.isLt
  omega
theorem bits_and64 (x y : Int) : BitVec.ofInt 64 (bits .and .i64 x y) = BitVec.ofInt 64 x &&& BitVec.ofInt 64 y := by
  show BitVec.ofInt 64 (IntKind.wrap .i64 ((BitVec.ofInt 64 x &&& BitVec.ofInt 64 y).toNat : Int)) = _
  rw [ofInt_wrap64, ofInt_toNat64]
theorem bits_xor64 (x y : Int) : BitVec.ofInt 64 (bits .xor .i64 x y) = BitVec.ofInt 64 x ^^^ BitVec.ofInt 64 y := by
  show BitVec.ofInt 64 (IntKind.wrap .i64 ((BitVec.ofInt 64 x ^^^ BitVec.ofInt 64 y).toNat : Int)) = _
  rw [ofInt_wrap64, ofInt_toNat64]
theorem bits_comm (k : IntKind) (op : BinOp) (h : op = .and ∨ op = .or ∨ op = .xor) (x y : Int) : bits op k x y = bits op k y x := by
  rcases h with rfl | rfl | rfl <;> simp only [bits]
  · rw [BitVec.and_comm]
  · rw [BitVec.or_comm]
  · rw [BitVec.xor_comm]
theorem add_sub64 {p q : Int} (h : -9223372036854775808 ≤ q ∧ q ≤ 9223372036854775807) : IntKind.wrap .i64 (IntKind.wrap .i64 (p + q) - p) = q := by
  rw [IntKind.wrap_i64, IntKind.wrap_i64]; omega
theorem xor_xor64 {p q : Int} (h : -9223372036854775808 ≤ q ∧ q ≤ 9223372036854775807) : bits .xor .i64 (bits .xor .i64 p q) p = q := by
  show IntKind.wrap .i64 ((BitVec.ofInt 64 (bits .xor .i64 p q) ^^^ BitVec.ofInt 64 p).toNat : Int) = q
  rw [bits_xor64, BitVec.xor_comm, ← BitVec.xor_assoc, BitVec.xor_self, BitVec.zero_xor, wrap_ofInt64 h]
theorem and_not64 (p q : Int) : bits .andNot .i64 (bits .and .i64 p q) p = 0 ∧ bits .andNot .i64 (bits .and .i64 p q) q = 0 := by
  constructor
  · show IntKind.wrap .i64 ((BitVec.ofInt 64 (bits .and .i64 p q) &&& ~~~BitVec.ofInt 64 p).toNat : Int) = 0
    rw [bits_and64, BitVec.and_comm (BitVec.ofInt 64 p), BitVec.and_assoc, BitVec.and_not_self]; simp [IntKind.wrap_i64]
  · show IntKind.wrap .i64 ((BitVec.ofInt 64 (bits .and .i64 p q) &&& ~~~BitVec.ofInt 64 q).toNat : Int) = 0
    rw [bits_and64, BitVec.and_assoc, BitVec.and_not_self]; simp [IntKind.wrap_i64]
theorem xor_self64 (p : Int) : bits .xor .i64 p p = 0 := by
  show IntKind.wrap .i64 ((BitVec.ofInt 64 p ^^^ BitVec.ofInt 64 p).toNat : Int) = 0
  rw [BitVec.xor_self]; rfl
theorem or_self32 {p : Int} (h : 0 ≤ p ∧ p ≤ 4294967295) : bits .or .u32 p p = p := by
  show IntKind.wrap .u32 ((BitVec.ofInt 32 p ||| BitVec.ofInt 32 p).toNat : Int) = p
  rw [BitVec.or_self, BitVec.toNat_ofInt, IntKind.wrap_u32]; omega
theorem wf_wrap (k : IntKind) (n : Int) : (Lit.int k (k.wrap n)).wf = true := by
  cases k <;> simp only [Lit.wf, IntKind.wrap, IntKind.min, IntKind.max, IntKind.bits, IntKind.signed, decide_eq_true_eq, Bool.and_eq_true] <;> simp <;> (try split) <;> omega
theorem wf_bits (op : BinOp) (k : IntKind) (x y : Int) : (Lit.int k (bits op k x y)).wf = true := wf_wrap k _
end Go.Eng
