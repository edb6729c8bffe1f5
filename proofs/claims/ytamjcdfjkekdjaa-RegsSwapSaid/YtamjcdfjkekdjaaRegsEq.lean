import Derived.Test.YtamjcdfjkekdjaaRegs
import Derived.Test.YtamjcdfjkekdjaaEc1
set_option linter.unusedSimpArgs false
set_option linter.unusedVariables false
set_option autoImplicit false
namespace Go.Eng
open Go Go.RowKit Go.Proofs
abbrev W64 (n : Int) : Prop := (Lit.int .i64 n).wf = true
abbrev W32 (n : Int) : Prop := (Lit.int .u32 n).wf = true
theorem eqFile {t : TypeId} (ht : t = 26 ∨ t = 34) {a0 a1 a2 a3 b0 b1 b2 b3 : Int} (h0 : W64 a0) (h1 : W64 a1) (h2 : W64 a2) (h3 : W64 a3) (k0 : W32 b0) (k1 : W32 b1) (k2 : W32 b2) (k3 : W32 b3) :
    EqAgg Try.prog t [.int .i64 a0, .int .i64 a1, .int .i64 a2, .int .i64 a3, .int .u32 b0, .int .u32 b1, .int .u32 b2, .int .u32 b3] [.int .i64 a0, .int .i64 a1, .int .i64 a2, .int .i64 a3, .int .u32 b0, .int .u32 b1, .int .u32 b2, .int .u32 b3] true := by
  have c2 : Try.prog.cellsOf 2 = 1 := by kernel_rfl
  have c23 : Try.prog.cellsOf 23 = 1 := by kernel_rfl
  have c22 : Try.prog.cellsOf 22 = 4 := by kernel_rfl
  have c24 : Try.prog.cellsOf 24 = 4 := by kernel_rfl
  have e22 : ∀ D, Try.prog.keyLits (D + 2) 22 [.int .i64 a0, .int .i64 a1, .int .i64 a2, .int .i64 a3] = some [.int .i64 a0, .int .i64 a1, .int .i64 a2, .int .i64 a3] := by
    intro D
    simp only [W64] at h0 h1 h2 h3
    simp [Program.keyLits, Try.underlying22, Try.underlying2, c22, c2, h0, h1, h2, h3, List.range, List.range.loop]
  have e24 : ∀ D, Try.prog.keyLits (D + 2) 24 [.int .u32 b0, .int .u32 b1, .int .u32 b2, .int .u32 b3] = some [.int .u32 b0, .int .u32 b1, .int .u32 b2, .int .u32 b3] := by
    intro D
    simp only [W32] at k0 k1 k2 k3
    simp [Program.keyLits, Try.underlying24, Try.underlying23, c24, c23, k0, k1, k2, k3, List.range, List.range.loop]
  rcases ht with rfl | rfl
  · have c26 : Try.prog.cellsOf 26 = 8 := by kernel_rfl
    refine ⟨⟨3, 3, 3, [.int .i64 a0, .int .i64 a1, .int .i64 a2, .int .i64 a3, .int .u32 b0, .int .u32 b1, .int .u32 b2, .int .u32 b3], [.int .i64 a0, .int .i64 a1, .int .i64 a2, .int .i64 a3, .int .u32 b0, .int .u32 b1, .int .u32 b2, .int .u32 b3], by decide, by kernel_rfl, ?_, ?_, Iff.intro (fun _ => rfl) (fun _ => rfl)⟩, by simp, ⟨c26.symm, c26.symm⟩, by kernel_rfl⟩
    all_goals
      have e1 := e22 0
      have e2 := e24 0
      unfold Program.keyLits
      simp only [Try.underlying26]
      simp [c26, c22, c24, e1, e2]
  · have c34 : Try.prog.cellsOf 34 = 8 := by kernel_rfl
    refine ⟨⟨3, 3, 3, [.int .i64 a0, .int .i64 a1, .int .i64 a2, .int .i64 a3, .int .u32 b0, .int .u32 b1, .int .u32 b2, .int .u32 b3], [.int .i64 a0, .int .i64 a1, .int .i64 a2, .int .i64 a3, .int .u32 b0, .int .u32 b1, .int .u32 b2, .int .u32 b3], by decide, by kernel_rfl, ?_, ?_, Iff.intro (fun _ => rfl) (fun _ => rfl)⟩, by simp, ⟨c34.symm, c34.symm⟩, by kernel_rfl⟩
    all_goals
      have e1 := e22 0
      have e2 := e24 0
      unfold Program.keyLits
      simp only [Try.underlying34]
      simp [c34, c22, c24, e1, e2]
theorem wf8 {n : Int} (h : (Lit.int .u8 n).wf = true) : 0 ≤ n ∧ n ≤ 255 := by
  simp [Lit.wf, IntKind.min, IntKind.max, IntKind.signed, IntKind.bits] at h; omega
end Go.Eng
