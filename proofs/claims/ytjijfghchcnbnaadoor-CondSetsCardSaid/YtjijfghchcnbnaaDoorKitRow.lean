import Derived.Test.YtjijfghchcnbnaaDoorEngC
import Derived.Test.YtjijfghchcnbnaaDoorRows
import Derived.WalkKit
import Derived.ShutString
import Derived.ChangeOld
import Derived.Below
import Derived.SizedLaws
set_option linter.unusedVariables false
set_option autoImplicit false
namespace Go.Proofs.YtjijfghchcnbnaaDoor.Rw
open Go.ChangeShapes Go.WideShapes Go.RowKit Go.Eng
theorem own : ownKnob Tryd.prog.godebug = none := by kernel_rfl
theorem laid : laidOutB Tryd.prog = true := by kernel_rfl
theorem maps : mapsRowed Tryd.prog = true := by kernel_rfl
theorem stops : Tryd.prog.stops = [] := by kernel_rfl
theorem stopKnobs : Tryd.prog.stopKnobs = [] := by kernel_rfl
theorem plainKeys : Tryd.prog.plainKeys = true := by kernel_rfl
theorem stopsHeard : Tryd.prog.stopsHeard = true := by kernel_rfl
def signs : List Char := ([104, 97, 114, 110, 101, 115, 115, 32, 54, 54, 98, 51, 56, 56, 55, 48, 50, 51, 55, 49, 97, 101, 51, 56, 52, 53, 100, 57, 97, 102, 51, 97, 57, 55, 57, 52, 101, 56, 50, 99, 98, 56, 55, 50, 51, 101, 98, 49, 56, 55,
    49, 54, 98, 97, 101, 99, 98, 50, 57, 99, 101, 101, 49, 49, 56, 98, 52, 50, 54, 51, 49, 53, 32, 99, 117, 116, 32, 97, 116, 32, 99, 117, 112, 111, 108, 97, 47, 99, 117, 112, 111, 108, 97, 108, 97, 119, 48, 52, 46,
    67, 111, 110, 100, 65, 116, 111, 109, 115, 32, 99, 117, 112, 111, 108, 97, 47, 99, 117, 112, 111, 108, 97, 108, 97, 119, 48, 52, 46, 67, 111, 110, 100, 69, 118, 97, 108, 115, 32, 99, 117, 112, 111, 108, 97, 47,
    99, 117, 112, 111, 108, 97, 108, 97, 119, 48, 52, 46, 67, 111, 110, 100, 83, 101, 116, 115, 32, 99, 117, 112, 111, 108, 97, 47, 99, 117, 112, 111, 108, 97, 108, 97, 119, 48, 52, 46, 67, 111, 110, 100, 79, 114, 100,
    101, 114, 32, 99, 117, 112, 111, 108, 97, 47, 99, 117, 112, 111, 108, 97, 108, 97, 119, 48, 52, 46, 67, 111, 110, 100, 86, 101, 114, 100, 105, 99, 116, 115, 32, 99, 117, 112, 111, 108, 97, 47, 99, 117, 112, 111,
    108, 97, 108, 97, 119, 48, 52, 46, 67, 111, 110, 100, 80, 97, 114, 116, 115] : List Nat).map Char.ofNat
theorem told : Tryd.prog.initOrder = String.ofList signs := by kernel_rfl
theorem io : Tryd.prog.initOrder.toList = signs := by rw [told, String.toList_ofList]
theorem headB : (match behindMainWord (wordsSigns signs) with | w :: _ => w == "cut".toList | [] => false) = true := by kernel_rfl
theorem head : ∃ r, behindMainWord (wordsSigns signs) = "cut".toList :: r := by
  have h := headB
  generalize behindMainWord (wordsSigns signs) = l at h ⊢
  cases l with
  | nil => cases h
  | cons w r => exact ⟨r, by rw [eq_of_beq h]⟩
theorem lifts0 (r : List (List Char)) : (stripLifts liftWords ("cut".toList :: r)) = ([], "cut".toList :: r) := by
  have : ∀ o ∈ liftWords, ("cut".toList == o.toList) = false := by decide +kernel
  generalize liftWords = l at this
  induction l with
  | nil => rfl
  | cons o os ih =>
    unfold stripLifts
    rw [if_neg (by rw [this o (by simp)]; simp)]
    exact ih (fun o h => this o (by simp [h]))
theorem heads_of {P : Program} {r : List (List Char)} (h : behindMainWord (wordsSigns P.initOrder.toList) = "cut".toList :: r) : P.headLifts = [] := by
  unfold Program.headLifts
  rw [h, lifts0]
  simp
theorem make_of {P : Program} {r : List (List Char)} (h : behindMainWord (wordsSigns P.initOrder.toList) = "cut".toList :: r) : P.make = some Make.cut := by
  unfold Program.make
  rw [h]
  have e1 : ("cut".toList == "gc".toList || "cut".toList == "spec".toList) = false := by decide +kernel
  have e2 : ("cut".toList == "cut".toList) = true := beq_self_eq_true _
  simp only [e1, e2, Bool.true_or, if_true, Bool.false_eq_true, if_false]
theorem lifts_of {P : Program} {r : List (List Char)} (h : behindMainWord (wordsSigns P.initOrder.toList) = "cut".toList :: r) : P.liftsFinal = false := by
  unfold Program.liftsFinal
  rw [h, heads_of h]
  simp
theorem enter_of {P : Program} {r : List (List Char)} (h : behindMainWord (wordsSigns P.initOrder.toList) = "cut".toList :: r) (h1 : P.laysLater = false) (h2 : P.bearsReflect = false) (h3 : P.doorFits [] = true) : P.mayEnter = true := by
  unfold Program.mayEnter
  rw [h]
  simp only [lifts0, h1, h2, h3]
  simp
theorem laysLater : Tryd.prog.laysLater = false := by kernel_rfl
theorem bearsReflect : Tryd.prog.bearsReflect = false := by kernel_rfl
theorem doorFits : Tryd.prog.doorFits [] = true := by kernel_rfl
theorem headP : ∃ r, behindMainWord (wordsSigns Tryd.prog.initOrder.toList) = "cut".toList :: r := by
  rw [io]; exact head
theorem mayEnter : Tryd.prog.mayEnter = true := by
  obtain ⟨r, h⟩ := headP
  exact enter_of h laysLater bearsReflect doorFits
theorem make : Tryd.prog.make = some Make.cut := by
  obtain ⟨r, h⟩ := headP
  exact make_of h
theorem lifts : Tryd.prog.liftsFinal = false := by
  obtain ⟨r, h⟩ := headP
  exact lifts_of h
end Go.Proofs.YtjijfghchcnbnaaDoor.Rw
