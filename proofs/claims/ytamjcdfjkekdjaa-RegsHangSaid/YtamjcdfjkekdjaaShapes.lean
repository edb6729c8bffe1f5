import Derived.Test.YtamjcdfjkekdjaaTab
import Derived.Test.YtamjcdfjkekdjaaEc1
set_option linter.unusedSimpArgs false
set_option linter.unusedVariables false
set_option linter.constructorNameAsVariable false
set_option autoImplicit false
namespace Go.Eng
open Go Go.RowKit Go.Proofs
theorem sa_int {m : Nat} {t : TypeId} {k : IntKind} {a : AV} (ht : Try.prog.underlying t = some (.int k)) (hg : aggOf Try.prog t = some false) (h : ShapeA Try.prog (m + 1) t a) : ∃ n, a = I k n ∧ (Lit.int k n).wf = true := by
  rcases h with ⟨h, _⟩ | ⟨_, p, rfl, h⟩
  · rw [hg] at h; cases h
  · simp only [Shape, ht] at h
    obtain ⟨n, e, hw⟩ := h
    cases e
    exact ⟨n, rfl, hw⟩
theorem sa_file {a : AV} (h : ShapeA Try.prog 4 26 a) : ∃ v0 v1 v2 v3 d0 d1 d2 d3, a = .agg [C .i64 v0, C .i64 v1, C .i64 v2, C .i64 v3, C .u32 d0, C .u32 d1, C .u32 d2, C .u32 d3] ∧
    (Lit.int .i64 v0).wf = true ∧ (Lit.int .i64 v1).wf = true ∧ (Lit.int .i64 v2).wf = true ∧ (Lit.int .i64 v3).wf = true ∧ (Lit.int .u32 d0).wf = true ∧ (Lit.int .u32 d1).wf = true ∧ (Lit.int .u32 d2).wf = true ∧ (Lit.int .u32 d3).wf = true := by
  rcases h with ⟨_, ps, rfl, h⟩ | ⟨h, _⟩
  · simp only [Shape, Try.underlying26, shapeF, Try.underlying22, Try.underlying24, Try.underlying2, Try.underlying23, shapeN] at h
    obtain ⟨q, r, rfl, ⟨q0, r0, rfl, ⟨v0, rfl, w0⟩, q1, r1, rfl, ⟨v1, rfl, w1⟩, q2, r2, rfl, ⟨v2, rfl, w2⟩, q3, r3, rfl, ⟨v3, rfl, w3⟩, rfl⟩, q', r', rfl, ⟨p0, s0, rfl, ⟨d0, rfl, x0⟩, p1, s1, rfl, ⟨d1, rfl, x1⟩, p2, s2, rfl, ⟨d2, rfl, x2⟩, p3, s3, rfl, ⟨d3, rfl, x3⟩, rfl⟩, rfl⟩ := h
    exact ⟨v0, v1, v2, v3, d0, d1, d2, d3, rfl, w0, w1, w2, w3, x0, x1, x2, x3⟩
  · simp at h
theorem sa_ins {a : AV} (h : ShapeA Try.prog 4 31 a) : ∃ op d a' b l m, a = .agg [C .i64 op, C .i64 d, C .i64 a', C .i64 b, C .i64 l, C .i64 m] ∧
    (Lit.int .i64 op).wf = true ∧ (Lit.int .i64 d).wf = true ∧ (Lit.int .i64 a').wf = true ∧ (Lit.int .i64 b).wf = true ∧ (Lit.int .i64 l).wf = true ∧ (Lit.int .i64 m).wf = true := by
  rcases h with ⟨_, ps, rfl, h⟩ | ⟨h, _⟩
  · simp only [Shape, Try.underlying31, shapeF, Try.underlying3, Try.underlying2] at h
    obtain ⟨_, _, rfl, ⟨v0, rfl, w0⟩, _, _, rfl, ⟨v1, rfl, w1⟩, _, _, rfl, ⟨v2, rfl, w2⟩, _, _, rfl, ⟨v3, rfl, w3⟩, _, _, rfl, ⟨v4, rfl, w4⟩, _, _, rfl, ⟨v5, rfl, w5⟩, rfl⟩ := h
    exact ⟨v0, v1, v2, v3, v4, v5, rfl, w0, w1, w2, w3, w4, w5⟩
  · simp at h
end Go.Eng
