import Derived.Test.YtamjcdfjkekdjaaTabB
import Derived.Test.YtamjcdfjkekdjaaEngC
import Derived.Test.YtamjcdfjkekdjaaRows
import Derived.WalkKit
import Derived.ShutString
import Derived.ChangeOld
import Derived.Below
import Derived.SizedLaws
set_option linter.unusedSimpArgs false
set_option linter.unusedVariables false
set_option linter.constructorNameAsVariable false
set_option autoImplicit false
namespace Go.Eng
open Go Go.RowKit Go.Proofs
theorem sa_int {m : Nat} {t : TypeId} {k : IntKind} {a : AV} (ht : Try.prog.underlying t = some (.int k)) (hg : aggOf Try.prog t = some false) (h : ShapeA Try.prog (m + 1) t a) : ∃ n, a = I k n ∧ (Lit.int k n).wf = true := by
  rcases h with ⟨h, _⟩ | ⟨_, p, rfl, h⟩
  · rw [hg] at h; cases h
  · simp only [Shape, ht] at h
    obtain ⟨n, e, hw⟩ := h
    cases e
    exact ⟨n, rfl, hw⟩
theorem sa_file {a : AV} (h : ShapeA Try.prog 4 26 a) : ∃ v0 v1 v2 v3 d0 d1 d2 d3, a = .agg [C .i64 v0, C .i64 v1, C .i64 v2, C .i64 v3, C .u32 d0, C .u32 d1, C .u32 d2, C .u32 d3] ∧
    (Lit.int .i64 v0).wf = true ∧ (Lit.int .i64 v1).wf = true ∧ (Lit.int .i64 v2).wf = true ∧ (Lit.int .i64 v3).wf = true ∧ (Lit.int .u32 d0).wf = true ∧ (Lit.int .u32 d1).wf = true ∧ (Lit.int .u32 d2).wf = true ∧ (Lit.int .u32 d3).wf = true := by
  rcases h with ⟨_, ps, rfl, h⟩ | ⟨h, _⟩
  · simp only [Shape, Try.underlying26, shapeF, Try.underlying22, Try.underlying24, Try.underlying2, Try.underlying23, shapeN] at h
    obtain ⟨q, r, rfl, ⟨q0, r0, rfl, ⟨v0, rfl, w0⟩, q1, r1, rfl, ⟨v1, rfl, w1⟩, q2, r2, rfl, ⟨v2, rfl, w2⟩, q3, r3, rfl, ⟨v3, rfl, w3⟩, rfl⟩, q', r', rfl, ⟨p0, s0, rfl, ⟨d0, rfl, x0⟩, p1, s1, rfl, ⟨d1, rfl, x1⟩, p2, s2, rfl, ⟨d2, rfl, x2⟩, p3, s3, rfl, ⟨d3, rfl, x3⟩, rfl⟩, rfl⟩ := h
    exact ⟨v0, v1, v2, v3, d0, d1, d2, d3, rfl, w0, w1, w2, w3, x0, x1, x2, x3⟩
  · simp at h
theorem sa_ins {a : AV} (h : ShapeA Try.prog 4 31 a) : ∃ op d a' b l m, a = .agg [C .i64 op, C .i64 d, C .i64 a', C .i64 b, C .i64 l, C .i64 m] ∧
    (Lit.int .i64 op).wf = true ∧ (Lit.int .i64 d).wf = true ∧ (Lit.int .i64 a').wf = true ∧ (Lit.int .i64 b).wf = true ∧ (Lit.int .i64 l).wf = true ∧ (Lit.int .i64 m).wf = true := by
  rcases h with ⟨_, ps, rfl, h⟩ | ⟨h, _⟩
  · simp only [Shape, Try.underlying31, shapeF, Try.underlying3, Try.underlying2] at h
    obtain ⟨_, _, rfl, ⟨v0, rfl, w0⟩, _, _, rfl, ⟨v1, rfl, w1⟩, _, _, rfl, ⟨v2, rfl, w2⟩, _, _, rfl, ⟨v3, rfl, w3⟩, _, _, rfl, ⟨v4, rfl, w4⟩, _, _, rfl, ⟨v5, rfl, w5⟩, rfl⟩ := h
    exact ⟨v0, v1, v2, v3, v4, v5, rfl, w0, w1, w2, w3, w4, w5⟩
  · simp at h
end Go.Eng
set_option linter.unusedVariables false
set_option autoImplicit false
namespace Go.Proofs.Ytamjcdfjkekdjaa.Rw
open Go.ChangeShapes Go.WideShapes Go.RowKit Go.Eng
theorem own : ownKnob Try.prog.godebug = none := by kernel_rfl
theorem laid : laidOutB Try.prog = true := by kernel_rfl
theorem maps : mapsRowed Try.prog = true := by kernel_rfl
theorem stops : Try.prog.stops = [] := by kernel_rfl
theorem stopKnobs : Try.prog.stopKnobs = [] := by kernel_rfl
theorem plainKeys : Try.prog.plainKeys = true := by kernel_rfl
theorem stopsHeard : Try.prog.stopsHeard = true := by kernel_rfl
def signs : List Char := ([104, 97, 114, 110, 101, 115, 115, 32, 98, 57, 53, 101, 54, 52, 50, 100, 100, 102, 97, 52, 57, 97, 99, 99, 48, 55, 48, 49, 51, 50, 52, 54, 49, 97, 100, 51, 54, 49, 55, 100, 51, 53, 99, 57, 49, 100, 101, 56, 53, 51, 97,
    51, 100, 52, 55, 53, 48, 52, 53, 50, 56, 56, 98, 56, 98, 97, 53, 54, 49, 102, 50, 56, 32, 99, 117, 116, 32, 97, 116, 32, 99, 117, 112, 111, 108, 97, 47, 99, 117, 112, 111, 108, 97, 108, 97, 119, 48, 55, 46, 82, 101, 103,
    115, 80, 108, 97, 99, 101, 32, 99, 117, 112, 111, 108, 97, 47, 99, 117, 112, 111, 108, 97, 108, 97, 119, 48, 55, 46, 82, 101, 103, 115, 83, 101, 116, 115, 32, 99, 117, 112, 111, 108, 97, 47, 99, 117, 112, 111, 108, 97,
    108, 97, 119, 48, 55, 46, 82, 101, 103, 115, 72, 97, 110, 103, 32, 99, 117, 112, 111, 108, 97, 47, 99, 117, 112, 111, 108, 97, 108, 97, 119, 48, 55, 46, 82, 101, 103, 115, 83, 119, 97, 112, 32, 99, 117, 112, 111, 108,
    97, 47, 99, 117, 112, 111, 108, 97, 108, 97, 119, 48, 49, 46, 73, 110, 115, 84, 101, 108, 108, 115, 32, 99, 117, 112, 111, 108, 97, 47, 99, 117, 112, 111, 108, 97, 108, 97, 119, 48, 49, 46, 73, 110, 115, 82, 101, 103,
    115, 32, 99, 117, 112, 111, 108, 97, 47, 99, 117, 112, 111, 108, 97, 108, 97, 119, 48, 49, 46, 73, 110, 115, 87, 105, 100, 101, 114, 32, 99, 117, 112, 111, 108, 97, 47, 99, 117, 112, 111, 108, 97, 108, 97, 119, 48, 49,
    46, 73, 110, 115, 84, 117, 114, 110, 101, 100, 32, 99, 117, 112, 111, 108, 97, 47, 99, 117, 112, 111, 108, 97, 108, 97, 119, 48, 49, 46, 73, 110, 115, 78, 97, 109, 101, 115, 32, 99, 117, 112, 111, 108, 97, 47, 99, 117,
    112, 111, 108, 97, 108, 97, 119, 48, 49, 46, 73, 110, 115, 76, 111, 97, 100, 115, 32, 99, 117, 112, 111, 108, 97, 47, 99, 117, 112, 111, 108, 97, 108, 97, 119, 48, 50, 46, 84, 101, 115, 116, 67, 104, 101, 99, 107, 115,
    32, 99, 117, 112, 111, 108, 97, 47, 99, 117, 112, 111, 108, 97, 108, 97, 119, 48, 50, 46, 84, 101, 115, 116, 67, 111, 117, 110, 116, 115, 32, 99, 117, 112, 111, 108, 97, 47, 99, 117, 112, 111, 108, 97, 108, 97, 119, 48,
    50, 46, 84, 101, 115, 116, 77, 111, 114, 101, 32, 99, 117, 112, 111, 108, 97, 47, 99, 117, 112, 111, 108, 97, 108, 97, 119, 48, 50, 46, 84, 101, 115, 116, 84, 117, 114, 110, 115, 32, 99, 117, 112, 111, 108, 97, 47, 99,
    117, 112, 111, 108, 97, 108, 97, 119, 48, 50, 46, 84, 101, 115, 116, 75, 101, 101, 112, 115, 32, 99, 117, 112, 111, 108, 97, 47, 99, 117, 112, 111, 108, 97, 108, 97, 119, 48, 50, 46, 84, 101, 115, 116, 65, 103, 97, 105,
    110, 32, 99, 117, 112, 111, 108, 97, 47, 99, 117, 112, 111, 108, 97, 108, 97, 119, 48, 56, 46, 70, 108, 111, 119, 82, 117, 110, 115, 32, 99, 117, 112, 111, 108, 97, 47, 99, 117, 112, 111, 108, 97, 108, 97, 119, 48, 56,
    46, 70, 108, 111, 119, 77, 111, 114, 101, 32, 99, 117, 112, 111, 108, 97, 47, 99, 117, 112, 111, 108, 97, 108, 97, 119, 48, 56, 46, 70, 108, 111, 119, 72, 97, 110, 103, 115, 32, 99, 117, 112, 111, 108, 97, 47, 99, 117,
    112, 111, 108, 97, 108, 97, 119, 48, 56, 46, 70, 108, 111, 119, 86, 97, 108, 115, 32, 99, 117, 112, 111, 108, 97, 47, 99, 117, 112, 111, 108, 97, 108, 97, 119, 48, 56, 46, 70, 108, 111, 119, 66, 97, 114, 101, 32, 99,
    117, 112, 111, 108, 97, 47, 99, 117, 112, 111, 108, 97, 108, 97, 119, 48, 56, 46, 70, 108, 111, 119, 66, 101, 103, 105, 110, 115, 32, 99, 117, 112, 111, 108, 97, 47, 99, 117, 112, 111, 108, 97, 108, 97, 119, 48, 57, 46,
    86, 97, 108, 115, 84, 114, 97, 99, 101, 115, 32, 99, 117, 112, 111, 108, 97, 47, 99, 117, 112, 111, 108, 97, 108, 97, 119, 48, 57, 46, 86, 97, 108, 115, 79, 102, 32, 99, 117, 112, 111, 108, 97, 47, 99, 117, 112, 111,
    108, 97, 108, 97, 119, 48, 57, 46, 86, 97, 108, 115, 77, 97, 110, 121, 32, 99, 117, 112, 111, 108, 97, 47, 99, 117, 112, 111, 108, 97, 108, 97, 119, 48, 57, 46, 86, 97, 108, 115, 82, 101, 97, 100, 115, 32, 99, 117, 112,
    111, 108, 97, 47, 99, 117, 112, 111, 108, 97, 108, 97, 119, 48, 57, 46, 86, 97, 108, 115, 67, 108, 111, 115, 101, 100, 32, 99, 117, 112, 111, 108, 97, 47, 99, 117, 112, 111, 108, 97, 108, 97, 119, 48, 57, 46, 86, 97,
    108, 115, 81, 117, 105, 101, 116, 32, 99, 117, 112, 111, 108, 97, 47, 99, 117, 112, 111, 108, 97, 108, 97, 119, 49, 48, 46, 69, 120, 101, 99, 69, 110, 100, 115, 32, 99, 117, 112, 111, 108, 97, 47, 99, 117, 112, 111, 108,
    97, 108, 97, 119, 49, 48, 46, 69, 120, 101, 99, 77, 97, 110, 121, 32, 99, 117, 112, 111, 108, 97, 47, 99, 117, 112, 111, 108, 97, 108, 97, 119, 49, 48, 46, 69, 120, 101, 99, 83, 104, 97, 112, 101] : List Nat).map Char.ofNat
theorem told : Try.prog.initOrder = String.ofList signs := by kernel_rfl
theorem io : Try.prog.initOrder.toList = signs := by rw [told, String.toList_ofList]
theorem headB : (match behindMainWord (wordsSigns signs) with | w :: _ => w == "cut".toList | [] => false) = true := by kernel_rfl
theorem head : ∃ r, behindMainWord (wordsSigns signs) = "cut".toList :: r := by
  have h := headB
  generalize behindMainWord (wordsSigns signs) = l at h ⊢
  cases l with
  | nil => cases h
  | cons w r => exact ⟨r, by rw [eq_of_beq h]⟩
theorem lifts0 (r : List (List Char)) : (stripLifts liftWords ("cut".toList :: r)) = ([], "cut".toList :: r) := by
  have : ∀ o ∈ liftWords, ("cut".toList == o.toList) = false := by decide +kernel
  generalize liftWords = l at this
  induction l with
  | nil => rfl
  | cons o os ih =>
    unfold stripLifts
    rw [if_neg (by rw [this o (by simp)]; simp)]
    exact ih (fun o h => this o (by simp [h]))
theorem heads_of {P : Program} {r : List (List Char)} (h : behindMainWord (wordsSigns P.initOrder.toList) = "cut".toList :: r) : P.headLifts = [] := by
  unfold Program.headLifts
  rw [h, lifts0]
  simp
theorem make_of {P : Program} {r : List (List Char)} (h : behindMainWord (wordsSigns P.initOrder.toList) = "cut".toList :: r) : P.make = some Make.cut := by
  unfold Program.make
  rw [h]
  have e1 : ("cut".toList == "gc".toList || "cut".toList == "spec".toList) = false := by decide +kernel
  have e2 : ("cut".toList == "cut".toList) = true := beq_self_eq_true _
  simp only [e1, e2, Bool.true_or, if_true, Bool.false_eq_true, if_false]
theorem lifts_of {P : Program} {r : List (List Char)} (h : behindMainWord (wordsSigns P.initOrder.toList) = "cut".toList :: r) : P.liftsFinal = false := by
  unfold Program.liftsFinal
  rw [h, heads_of h]
  simp
theorem enter_of {P : Program} {r : List (List Char)} (h : behindMainWord (wordsSigns P.initOrder.toList) = "cut".toList :: r) (h1 : P.laysLater = false) (h2 : P.bearsReflect = false) (h3 : P.doorFits [] = true) : P.mayEnter = true := by
  unfold Program.mayEnter
  rw [h]
  simp only [lifts0, h1, h2, h3]
  simp
theorem laysLater : Try.prog.laysLater = false := by kernel_rfl
theorem bearsReflect : Try.prog.bearsReflect = false := by kernel_rfl
theorem doorFits : Try.prog.doorFits [] = true := by kernel_rfl
theorem headP : ∃ r, behindMainWord (wordsSigns Try.prog.initOrder.toList) = "cut".toList :: r := by
  rw [io]; exact head
theorem mayEnter : Try.prog.mayEnter = true := by
  obtain ⟨r, h⟩ := headP
  exact enter_of h laysLater bearsReflect doorFits
theorem make : Try.prog.make = some Make.cut := by
  obtain ⟨r, h⟩ := headP
  exact make_of h
theorem lifts : Try.prog.liftsFinal = false := by
  obtain ⟨r, h⟩ := headP
  exact lifts_of h
end Go.Proofs.Ytamjcdfjkekdjaa.Rw
