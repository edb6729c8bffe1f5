import Derived.Test.YtpohlijehadklaaGreatTabB
import Derived.Test.YtpohlijehadklaaGreatEngC
import Derived.Test.YtpohlijehadklaaGreatRows
import Derived.WalkKit
import Derived.ShutString
import Derived.ChangeOld
import Derived.Below
import Derived.SizedLaws
set_option linter.unusedSimpArgs false
set_option linter.unusedVariables false
set_option linter.constructorNameAsVariable false
set_option autoImplicit false
namespace Go.Eng
open Go Go.RowKit Go.Proofs
theorem sa_int {m : Nat} {t : TypeId} {k : IntKind} {a : AV} (ht : Tryz.prog.underlying t = some (.int k)) (hg : aggOf Tryz.prog t = some false) (h : ShapeA Tryz.prog (m + 1) t a) : ∃ n, a = I k n ∧ (Lit.int k n).wf = true := by
  rcases h with ⟨h, _⟩ | ⟨_, p, rfl, h⟩
  · rw [hg] at h; cases h
  · simp only [Shape, ht] at h
    obtain ⟨n, e, hw⟩ := h
    cases e
    exact ⟨n, rfl, hw⟩
theorem sa_file {a : AV} (h : ShapeA Tryz.prog 4 70 a) : ∃ v0 v1 v2 v3 d0 d1 d2 d3, a = .agg [C .i64 v0, C .i64 v1, C .i64 v2, C .i64 v3, C .u32 d0, C .u32 d1, C .u32 d2, C .u32 d3] ∧
    (Lit.int .i64 v0).wf = true ∧ (Lit.int .i64 v1).wf = true ∧ (Lit.int .i64 v2).wf = true ∧ (Lit.int .i64 v3).wf = true ∧ (Lit.int .u32 d0).wf = true ∧ (Lit.int .u32 d1).wf = true ∧ (Lit.int .u32 d2).wf = true ∧ (Lit.int .u32 d3).wf = true := by
  rcases h with ⟨_, ps, rfl, h⟩ | ⟨h, _⟩
  · simp only [Shape, Tryz.underlying70, shapeF, Tryz.underlying56, Tryz.underlying58, Tryz.underlying2, Tryz.underlying57, shapeN] at h
    obtain ⟨q, r, rfl, ⟨q0, r0, rfl, ⟨v0, rfl, w0⟩, q1, r1, rfl, ⟨v1, rfl, w1⟩, q2, r2, rfl, ⟨v2, rfl, w2⟩, q3, r3, rfl, ⟨v3, rfl, w3⟩, rfl⟩, q', r', rfl, ⟨p0, s0, rfl, ⟨d0, rfl, x0⟩, p1, s1, rfl, ⟨d1, rfl, x1⟩, p2, s2, rfl, ⟨d2, rfl, x2⟩, p3, s3, rfl, ⟨d3, rfl, x3⟩, rfl⟩, rfl⟩ := h
    exact ⟨v0, v1, v2, v3, d0, d1, d2, d3, rfl, w0, w1, w2, w3, x0, x1, x2, x3⟩
  · simp at h
theorem sa_ins {a : AV} (h : ShapeA Tryz.prog 4 46 a) : ∃ op d a' b l m, a = .agg [C .i64 op, C .i64 d, C .i64 a', C .i64 b, C .i64 l, C .i64 m] ∧
    (Lit.int .i64 op).wf = true ∧ (Lit.int .i64 d).wf = true ∧ (Lit.int .i64 a').wf = true ∧ (Lit.int .i64 b).wf = true ∧ (Lit.int .i64 l).wf = true ∧ (Lit.int .i64 m).wf = true := by
  rcases h with ⟨_, ps, rfl, h⟩ | ⟨h, _⟩
  · simp only [Shape, Tryz.underlying46, shapeF, Tryz.underlying3, Tryz.underlying2] at h
    obtain ⟨_, _, rfl, ⟨v0, rfl, w0⟩, _, _, rfl, ⟨v1, rfl, w1⟩, _, _, rfl, ⟨v2, rfl, w2⟩, _, _, rfl, ⟨v3, rfl, w3⟩, _, _, rfl, ⟨v4, rfl, w4⟩, _, _, rfl, ⟨v5, rfl, w5⟩, rfl⟩ := h
    exact ⟨v0, v1, v2, v3, v4, v5, rfl, w0, w1, w2, w3, w4, w5⟩
  · simp at h
end Go.Eng
set_option linter.unusedVariables false
set_option autoImplicit false
namespace Go.Proofs.YtpohlijehadklaaGreat.Rw
open Go.ChangeShapes Go.WideShapes Go.RowKit Go.Eng
theorem own : ownKnob Tryz.prog.godebug = none := by kernel_rfl
theorem laid : laidOutB Tryz.prog = true := by kernel_rfl
theorem maps : mapsRowed Tryz.prog = true := by kernel_rfl
theorem stops : Tryz.prog.stops = [] := by kernel_rfl
theorem stopKnobs : Tryz.prog.stopKnobs = [] := by kernel_rfl
theorem plainKeys : Tryz.prog.plainKeys = true := by kernel_rfl
theorem stopsHeard : Tryz.prog.stopsHeard = true := by kernel_rfl
def signs : List Char := ([104, 97, 114, 110, 101, 115, 115, 32, 98, 102, 101, 57, 56, 57, 102, 48, 102, 100, 100, 57, 97, 101, 98, 99, 100, 48, 57, 56, 99, 56, 102, 56, 56, 48, 101, 97, 100, 52, 49, 50, 53, 51, 49, 56, 56, 49, 102, 52, 48,
    57, 56, 100, 50, 49, 48, 54, 53, 102, 48, 98, 101, 51, 57, 53, 56, 54, 53, 102, 51, 49, 57, 55, 32, 99, 117, 116, 32, 97, 116, 32, 99, 117, 112, 111, 108, 97, 47, 99, 117, 112, 111, 108, 97, 108, 97, 119, 49, 48,
    46, 69, 120, 101, 99, 65, 108, 108] : List Nat).map Char.ofNat
theorem told : Tryz.prog.initOrder = String.ofList signs := by kernel_rfl
theorem io : Tryz.prog.initOrder.toList = signs := by rw [told, String.toList_ofList]
theorem headB : (match behindMainWord (wordsSigns signs) with | w :: _ => w == "cut".toList | [] => false) = true := by kernel_rfl
theorem head : ∃ r, behindMainWord (wordsSigns signs) = "cut".toList :: r := by
  have h := headB
  generalize behindMainWord (wordsSigns signs) = l at h ⊢
  cases l with
  | nil => cases h
  | cons w r => exact ⟨r, by rw [eq_of_beq h]⟩
theorem lifts0 (r : List (List Char)) : (stripLifts liftWords ("cut".toList :: r)) = ([], "cut".toList :: r) := by
  have : ∀ o ∈ liftWords, ("cut".toList == o.toList) = false := by decide +kernel
  generalize liftWords = l at this
  induction l with
  | nil => rfl
  | cons o os ih =>
    unfold stripLifts
    rw [if_neg (by rw [this o (by simp)]; simp)]
    exact ih (fun o h => this o (by simp [h]))
theorem heads_of {P : Program} {r : List (List Char)} (h : behindMainWord (wordsSigns P.initOrder.toList) = "cut".toList :: r) : P.headLifts = [] := by
  unfold Program.headLifts
  rw [h, lifts0]
  simp
theorem make_of {P : Program} {r : List (List Char)} (h : behindMainWord (wordsSigns P.initOrder.toList) = "cut".toList :: r) : P.make = some Make.cut := by
  unfold Program.make
  rw [h]
  have e1 : ("cut".toList == "gc".toList || "cut".toList == "spec".toList) = false := by decide +kernel
  have e2 : ("cut".toList == "cut".toList) = true := beq_self_eq_true _
  simp only [e1, e2, Bool.true_or, if_true, Bool.false_eq_true, if_false]
theorem lifts_of {P : Program} {r : List (List Char)} (h : behindMainWord (wordsSigns P.initOrder.toList) = "cut".toList :: r) : P.liftsFinal = false := by
  unfold Program.liftsFinal
  rw [h, heads_of h]
  simp
theorem enter_of {P : Program} {r : List (List Char)} (h : behindMainWord (wordsSigns P.initOrder.toList) = "cut".toList :: r) (h1 : P.laysLater = false) (h2 : P.bearsReflect = false) (h3 : P.doorFits [] = true) : P.mayEnter = true := by
  unfold Program.mayEnter
  rw [h]
  simp only [lifts0, h1, h2, h3]
  simp
theorem laysLater : Tryz.prog.laysLater = false := by kernel_rfl
theorem bearsReflect : Tryz.prog.bearsReflect = false := by kernel_rfl
theorem doorFits : Tryz.prog.doorFits [] = true := by kernel_rfl
theorem headP : ∃ r, behindMainWord (wordsSigns Tryz.prog.initOrder.toList) = "cut".toList :: r := by
  rw [io]; exact head
theorem mayEnter : Tryz.prog.mayEnter = true := by
  obtain ⟨r, h⟩ := headP
  exact enter_of h laysLater bearsReflect doorFits
theorem make : Tryz.prog.make = some Make.cut := by
  obtain ⟨r, h⟩ := headP
  exact make_of h
theorem lifts : Tryz.prog.liftsFinal = false := by
  obtain ⟨r, h⟩ := headP
  exact lifts_of h
end Go.Proofs.YtpohlijehadklaaGreat.Rw
