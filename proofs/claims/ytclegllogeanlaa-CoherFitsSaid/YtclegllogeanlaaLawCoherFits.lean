/- The law CoherFits returns true whatever its input, and its input reads behind the call as it did before; no conditions. -/
import Derived.Test.YtclegllogeanlaaCoherFitsWalk
import Derived.Test.YtclegllogeanlaaShapeC
import Derived.Test.YtclegllogeanlaaRowB
import Derived.Test.YtclegllogeanlaaShapeB
set_option linter.unusedSimpArgs false
set_option linter.unusedVariables false
set_option autoImplicit false
set_option linter.constructorNameAsVariable false
namespace Go.Proofs.Ytclegllogeanlaa.coherFits
open Go.ChangeShapes Go.WideShapes Go.ChangeAt Go.RowKit Go.Eng
theorem law (av : List AV) (h : ShapeAll Try.prog 8 Try.f6.params.toList av) : SC Try.prog 6 av (B true) := by
  rw [Try.params6] at h
  obtain ⟨a, _, rfl, h0, rfl⟩ := h
  obtain ⟨l, rfl, hll, hlw⟩ := sa_events h0
  exact law_CoherFits hll
set_option maxRecDepth 100000 in
theorem lifted (os : Os) (started : os.Started) (H : Type) (enc : TypeId × Value → H) :
    ReturnsInHanded {} Try.checked os 6 .any (Rows.coherFitsSpec.pre6 enc Try.prog Try.f6 Rows.coherFitsRow.domain false) (Rows.coherFitsSpec.post enc Try.prog Try.f6 false true false false) := by
  refine law_lifted (C := Try.checked) 8 Rw.own started (by kernel_rfl) Try.func6
    (ChangeSpec.witness6 (enc := enc) (C := Try.checked) false ⟨#[], #[.slice none 0 0], []⟩ 8 (by kernel_rfl) (by kernel_rfl) (by kernel_rfl) (by kernel_rfl))
    Rw.laid (by kernel_rfl) rfl rfl Try.underlying4 ?_ law
  intro ds hl
  rw [Try.params6] at hl
  match ds, hl with
  | [d1], _ => rfl
theorem k0 : (Rows.coherFitsRow.wf (OpenSpec.ofChange Rows.coherFitsSpec)) = true := by kernel_rfl
theorem k1 : (Try.f6.params.all (Try.prog.readableRec ·)) = true := by kernel_rfl
theorem k2 : (namedTie Try.prog Rows.coherFitsRow.named Rows.coherFitsSpec.vars) = true := by kernel_rfl
theorem k3 : ((Rows.coherFitsRow.stops == [])) = true := by kernel_rfl
theorem k4 : ((Rows.coherFitsRow.knobs == [])) = true := by kernel_rfl
theorem k5 : ((Rows.coherFitsRow.inPlace == Try.prog.inPlace 6)) = true := by kernel_rfl
theorem k6 : ((Rows.coherFitsRow.unfollowed == Try.prog.unfollowed 6)) = true := by kernel_rfl
theorem k7 : ((Rows.coherFitsRow.recurses == Try.prog.recurses 6)) = true := by kernel_rfl
theorem k8 : ((Rows.coherFitsRow.named == Try.prog.varsNamed 6)) = true := by kernel_rfl
theorem k9 : ((Rows.coherFitsRow.maps == (Try.f6.params.toList ++ Rows.coherFitsSpec.plain.varTypes Try.prog).any (Try.prog.mapsRec ·))) = true := by kernel_rfl
theorem k10 : ((Rows.coherFitsRow.ifaces == (Try.f6.params.toList ++ Rows.coherFitsSpec.plain.varTypes Try.prog).any (Try.prog.ifacesRec ·))) = true := by kernel_rfl
theorem k11 : ((Rows.coherFitsRow.mapsOut == Try.prog.mapsAmong Try.f6.resultTypes.toList)) = true := by kernel_rfl
theorem k12 : ((Rows.coherFitsRow.loops == (Try.f6.params.toList ++ Rows.coherFitsSpec.plain.varTypes Try.prog).any (Try.prog.loopsFrom ·))) = true := by kernel_rfl
theorem k13 : ((Rows.coherFitsRow.wideKeys == (Try.f6.params.toList ++ Rows.coherFitsSpec.plain.varTypes Try.prog ++ Try.f6.resultTypes.toList).any (Try.prog.wideKeysFrom ·))) = true := by kernel_rfl
theorem k14 : (Rows.coherFitsSpec.vars.all (Try.prog.varReadable ·)) = true := by kernel_rfl
theorem k15 : (Try.f6.resultTypes.all (fun t => Try.prog.readableRec t && decide (t < Try.prog.types.size))) = true := by kernel_rfl
theorem k16 : ((Rows.coherFitsRow.ifacesOut == Try.f6.resultTypes.toList.any (Try.prog.ifacesRec ·))) = true := by kernel_rfl
theorem k17 : ((Rows.coherFitsRow.loopsOut == Try.f6.resultTypes.toList.any (Try.prog.loopsFrom ·))) = true := by kernel_rfl
theorem k18 : (Rows.coherFitsRow.shortTexts.isNone) = true := by kernel_rfl
theorem k19 : ((Rows.coherFitsRow.pinned == Rows.coherFitsRow.pinnedBy)) = true := by kernel_rfl
theorem k20 : ((Rows.coherFitsRow.veiled == (Try.f6.params.toList ++ Rows.coherFitsSpec.plain.varTypes Try.prog ++ Try.f6.resultTypes.toList).any (Try.prog.veiledRec ·))) = true := by kernel_rfl
theorem k21 : (Rows.coherFitsRow.veiledFits Try.prog Try.f6.params.toList (Try.f6.params.toList ++ Rows.coherFitsSpec.plain.varTypes Try.prog ++ Try.f6.resultTypes.toList)) = true := by kernel_rfl
theorem g0 : (Try.prog.stops == []) = true := by rw [Rw.stops]; rfl
theorem g1 : (Try.prog.stopKnobs == []) = true := by rw [Rw.stopKnobs]; rfl
theorem g2 : (Rows.coherFitsRow.plainKeys == Try.prog.plainKeys) = true := by rw [Rw.plainKeys]; rfl
theorem g3 : (Rows.coherFitsRow.lifted == Try.prog.liftsFinal) = true := by rw [Rw.lifts]; rfl
theorem g4 : (Try.prog.make == some Rows.coherFitsRow.make) = true := by rw [Rw.make]; rfl
theorem closed : joinedFacts Try.prog 6 Try.f6 Rows.coherFitsSpec Rows.coherFitsRow = true := by
  unfold joinedFacts
  simp only [Rw.laid, Rw.maps, Rw.stopsHeard, Rw.mayEnter, g0, g1, g2, g3, g4, k0, k1, k2, k3, k4, k5, k6, k7, k8, k9, k10, k11, k12, k13, k14, k15, k16, k17, k18, k19, k20, k21, Bool.and_true]
  kernel_rfl
theorem named : Try.prog.funcNamed Rows.coherFitsRow.func = some 6 := by kernel_rfl
theorem inst : Try.f6.isInstance Try.prog Rows.coherFitsRow.origin Rows.coherFitsRow.targs := of_decide_eq_true (by kernel_rfl)
theorem wrap : Try.f6.isWrapper Try.prog Rows.coherFitsRow.wrapper Rows.coherFitsRow.mainSum := by
  unfold Func.isWrapper
  rw [if_neg (by decide +kernel)]
  exact ⟨rfl, rfl⟩
theorem over : Rows.coherFitsRow.holds Try.pinned (OpenSpec.ofChange Rows.coherFitsSpec) :=
  OpenClaim.holds_of_wide 6 Try.f6 rfl rfl rfl rfl rfl rfl rfl ⟨rfl, rfl, rfl, rfl, rfl⟩ rfl rfl rfl rfl rfl named Try.func6 closed inst wrap
    (fun os started H enc _ => lifted os started H enc)
theorem proved : Rows.CoherFitsSaid := over
#print axioms proved
end Go.Proofs.Ytclegllogeanlaa.coherFits
namespace Go.Proofs.Ytclegllogeanlaa
/-- The row, under a short name, for the claim. -/
theorem coherFits_holds : Rows.CoherFitsSaid := coherFits.proved
end Go.Proofs.Ytclegllogeanlaa
