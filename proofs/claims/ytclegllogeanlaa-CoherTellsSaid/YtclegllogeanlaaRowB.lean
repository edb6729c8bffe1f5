import Derived.Test.YtclegllogeanlaaEngC
import Derived.Test.YtclegllogeanlaaRows
import Derived.WalkKit
import Derived.ShutString
import Derived.ChangeOld
import Derived.Below
import Derived.SizedLaws
set_option linter.unusedVariables false
set_option autoImplicit false
namespace Go.Proofs.Ytclegllogeanlaa.Rw
open Go.ChangeShapes Go.WideShapes Go.RowKit Go.Eng
theorem own : ownKnob Try.prog.godebug = none := by kernel_rfl
theorem laid : laidOutB Try.prog = true := by kernel_rfl
theorem maps : mapsRowed Try.prog = true := by kernel_rfl
theorem stops : Try.prog.stops = [] := by kernel_rfl
theorem stopKnobs : Try.prog.stopKnobs = [] := by kernel_rfl
theorem plainKeys : Try.prog.plainKeys = true := by kernel_rfl
theorem stopsHeard : Try.prog.stopsHeard = true := by kernel_rfl
def signs : List Char := ([104, 97, 114, 110, 101, 115, 115, 32, 54, 97, 100, 98, 98, 49, 57, 56, 48, 49, 54, 99, 99, 99, 101, 53, 54, 56, 57, 97, 99, 57, 102, 48, 51, 97, 56, 97, 97, 52, 55, 101, 50, 53, 52, 102, 97, 53, 100, 48, 102, 97,
    50, 49, 53, 100, 52, 101, 51, 99, 54, 51, 55, 55, 49, 98, 97, 54, 57, 98, 98, 102, 102, 52, 32, 99, 117, 116, 32, 97, 116, 32, 99, 117, 112, 111, 108, 97, 47, 99, 117, 112, 111, 108, 97, 108, 97, 119, 49, 51, 46,
    68, 101, 114, 105, 118, 101, 80, 97, 114, 116, 115, 32, 99, 117, 112, 111, 108, 97, 47, 99, 117, 112, 111, 108, 97, 108, 97, 119, 49, 50, 46, 67, 111, 104, 101, 114, 84, 117, 114, 110, 101, 100, 32, 99, 117, 112,
    111, 108, 97, 47, 99, 117, 112, 111, 108, 97, 108, 97, 119, 49, 50, 46, 67, 111, 104, 101, 114, 85, 110, 108, 105, 107, 101, 32, 99, 117, 112, 111, 108, 97, 47, 99, 117, 112, 111, 108, 97, 108, 97, 119, 49, 50,
    46, 67, 111, 104, 101, 114, 70, 105, 116, 115, 32, 99, 117, 112, 111, 108, 97, 47, 99, 117, 112, 111, 108, 97, 108, 97, 119, 49, 50, 46, 67, 111, 104, 101, 114, 84, 101, 108, 108, 115, 32, 99, 117, 112, 111, 108,
    97, 47, 99, 117, 112, 111, 108, 97, 108, 97, 119, 49, 50, 46, 67, 111, 104, 101, 114, 76, 97, 115, 116, 32, 99, 117, 112, 111, 108, 97, 47, 99, 117, 112, 111, 108, 97, 108, 97, 119, 49, 51, 46, 68, 101, 114, 105,
    118, 101, 70, 114, 32, 99, 117, 112, 111, 108, 97, 47, 99, 117, 112, 111, 108, 97, 108, 97, 119, 49, 51, 46, 68, 101, 114, 105, 118, 101, 67, 111, 32, 99, 117, 112, 111, 108, 97, 47, 99, 117, 112, 111, 108, 97,
    108, 97, 119, 49, 51, 46, 68, 101, 114, 105, 118, 101, 79, 98, 115, 32, 99, 117, 112, 111, 108, 97, 47, 99, 117, 112, 111, 108, 97, 108, 97, 119, 49, 51, 46, 68, 101, 114, 105, 118, 101, 67, 111, 109] : List Nat).map Char.ofNat
theorem told : Try.prog.initOrder = String.ofList signs := by kernel_rfl
theorem io : Try.prog.initOrder.toList = signs := by rw [told, String.toList_ofList]
theorem headB : (match behindMainWord (wordsSigns signs) with | w :: _ => w == "cut".toList | [] => false) = true := by kernel_rfl
theorem head : ∃ r, behindMainWord (wordsSigns signs) = "cut".toList :: r := by
  have h := headB
  generalize behindMainWord (wordsSigns signs) = l at h ⊢
  cases l with
  | nil => cases h
  | cons w r => exact ⟨r, by rw [eq_of_beq h]⟩
theorem lifts0 (r : List (List Char)) : (stripLifts liftWords ("cut".toList :: r)) = ([], "cut".toList :: r) := by
  have : ∀ o ∈ liftWords, ("cut".toList == o.toList) = false := by decide +kernel
  generalize liftWords = l at this
  induction l with
  | nil => rfl
  | cons o os ih =>
    unfold stripLifts
    rw [if_neg (by rw [this o (by simp)]; simp)]
    exact ih (fun o h => this o (by simp [h]))
theorem heads_of {P : Program} {r : List (List Char)} (h : behindMainWord (wordsSigns P.initOrder.toList) = "cut".toList :: r) : P.headLifts = [] := by
  unfold Program.headLifts
  rw [h, lifts0]
  simp
theorem make_of {P : Program} {r : List (List Char)} (h : behindMainWord (wordsSigns P.initOrder.toList) = "cut".toList :: r) : P.make = some Make.cut := by
  unfold Program.make
  rw [h]
  have e1 : ("cut".toList == "gc".toList || "cut".toList == "spec".toList) = false := by decide +kernel
  have e2 : ("cut".toList == "cut".toList) = true := beq_self_eq_true _
  simp only [e1, e2, Bool.true_or, if_true, Bool.false_eq_true, if_false]
theorem lifts_of {P : Program} {r : List (List Char)} (h : behindMainWord (wordsSigns P.initOrder.toList) = "cut".toList :: r) : P.liftsFinal = false := by
  unfold Program.liftsFinal
  rw [h, heads_of h]
  simp
theorem enter_of {P : Program} {r : List (List Char)} (h : behindMainWord (wordsSigns P.initOrder.toList) = "cut".toList :: r) (h1 : P.laysLater = false) (h2 : P.bearsReflect = false) (h3 : P.doorFits [] = true) : P.mayEnter = true := by
  unfold Program.mayEnter
  rw [h]
  simp only [lifts0, h1, h2, h3]
  simp
theorem laysLater : Try.prog.laysLater = false := by kernel_rfl
theorem bearsReflect : Try.prog.bearsReflect = false := by kernel_rfl
theorem doorFits : Try.prog.doorFits [] = true := by kernel_rfl
theorem headP : ∃ r, behindMainWord (wordsSigns Try.prog.initOrder.toList) = "cut".toList :: r := by
  rw [io]; exact head
theorem mayEnter : Try.prog.mayEnter = true := by
  obtain ⟨r, h⟩ := headP
  exact enter_of h laysLater bearsReflect doorFits
theorem make : Try.prog.make = some Make.cut := by
  obtain ⟨r, h⟩ := headP
  exact make_of h
theorem lifts : Try.prog.liftsFinal = false := by
  obtain ⟨r, h⟩ := headP
  exact lifts_of h
end Go.Proofs.Ytclegllogeanlaa.Rw
