/- The law DeriveParts returns true whatever its input, and its input reads behind the call as it did before; no conditions. -/
import Derived.Test.YtclegllogeanlaaDerivePartsWalk
import Derived.Test.YtclegllogeanlaaRowB
import Derived.Test.YtclegllogeanlaaShapeB
set_option linter.unusedSimpArgs false
set_option linter.unusedVariables false
set_option autoImplicit false
set_option linter.constructorNameAsVariable false
namespace Go.Proofs.Ytclegllogeanlaa.deriveParts
open Go.ChangeShapes Go.WideShapes Go.ChangeAt Go.RowKit Go.Eng
theorem law (av : List AV) (h : ShapeAll Try.prog 8 Try.f3.params.toList av) : SC Try.prog 3 av (B true) := by
  rw [Try.params3] at h
  obtain ⟨a, _, rfl, h0, b, _, rfl, h1, rfl⟩ := h
  obtain ⟨l, rfl, hll, hlw⟩ := sa_events h0
  obtain ⟨r, rfl, hrl⟩ := sa_rel h1
  exact law_DeriveParts hrl
set_option maxRecDepth 100000 in
theorem lifted (os : Os) (started : os.Started) (H : Type) (enc : TypeId × Value → H) :
    ReturnsInHanded {} Try.checked os 3 .any (Rows.derivePartsSpec.pre6 enc Try.prog Try.f3 Rows.derivePartsRow.domain false) (Rows.derivePartsSpec.post enc Try.prog Try.f3 false true false false) := by
  refine law_lifted (C := Try.checked) 8 Rw.own started (by kernel_rfl) Try.func3
    (ChangeSpec.witness6 (enc := enc) (C := Try.checked) false ⟨#[], #[.slice none 0 0, .slice none 0 0], []⟩ 8 (by kernel_rfl) (by kernel_rfl) (by kernel_rfl) (by kernel_rfl))
    Rw.laid (by kernel_rfl) rfl rfl Try.underlying4 ?_ law
  intro ds hl
  rw [Try.params3] at hl
  match ds, hl with
  | [d1, d2], _ => rfl
theorem k0 : (Rows.derivePartsRow.wf (OpenSpec.ofChange Rows.derivePartsSpec)) = true := by kernel_rfl
theorem k1 : (Try.f3.params.all (Try.prog.readableRec ·)) = true := by kernel_rfl
theorem k2 : (namedTie Try.prog Rows.derivePartsRow.named Rows.derivePartsSpec.vars) = true := by kernel_rfl
theorem k3 : ((Rows.derivePartsRow.stops == [])) = true := by kernel_rfl
theorem k4 : ((Rows.derivePartsRow.knobs == [])) = true := by kernel_rfl
theorem k5 : ((Rows.derivePartsRow.inPlace == Try.prog.inPlace 3)) = true := by kernel_rfl
theorem k6 : ((Rows.derivePartsRow.unfollowed == Try.prog.unfollowed 3)) = true := by kernel_rfl
theorem k7 : ((Rows.derivePartsRow.recurses == Try.prog.recurses 3)) = true := by kernel_rfl
theorem k8 : ((Rows.derivePartsRow.named == Try.prog.varsNamed 3)) = true := by kernel_rfl
theorem k9 : ((Rows.derivePartsRow.maps == (Try.f3.params.toList ++ Rows.derivePartsSpec.plain.varTypes Try.prog).any (Try.prog.mapsRec ·))) = true := by kernel_rfl
theorem k10 : ((Rows.derivePartsRow.ifaces == (Try.f3.params.toList ++ Rows.derivePartsSpec.plain.varTypes Try.prog).any (Try.prog.ifacesRec ·))) = true := by kernel_rfl
theorem k11 : ((Rows.derivePartsRow.mapsOut == Try.prog.mapsAmong Try.f3.resultTypes.toList)) = true := by kernel_rfl
theorem k12 : ((Rows.derivePartsRow.loops == (Try.f3.params.toList ++ Rows.derivePartsSpec.plain.varTypes Try.prog).any (Try.prog.loopsFrom ·))) = true := by kernel_rfl
theorem k13 : ((Rows.derivePartsRow.wideKeys == (Try.f3.params.toList ++ Rows.derivePartsSpec.plain.varTypes Try.prog ++ Try.f3.resultTypes.toList).any (Try.prog.wideKeysFrom ·))) = true := by kernel_rfl
theorem k14 : (Rows.derivePartsSpec.vars.all (Try.prog.varReadable ·)) = true := by kernel_rfl
theorem k15 : (Try.f3.resultTypes.all (fun t => Try.prog.readableRec t && decide (t < Try.prog.types.size))) = true := by kernel_rfl
theorem k16 : ((Rows.derivePartsRow.ifacesOut == Try.f3.resultTypes.toList.any (Try.prog.ifacesRec ·))) = true := by kernel_rfl
theorem k17 : ((Rows.derivePartsRow.loopsOut == Try.f3.resultTypes.toList.any (Try.prog.loopsFrom ·))) = true := by kernel_rfl
theorem k18 : (Rows.derivePartsRow.shortTexts.isNone) = true := by kernel_rfl
theorem k19 : ((Rows.derivePartsRow.pinned == Rows.derivePartsRow.pinnedBy)) = true := by kernel_rfl
theorem k20 : ((Rows.derivePartsRow.veiled == (Try.f3.params.toList ++ Rows.derivePartsSpec.plain.varTypes Try.prog ++ Try.f3.resultTypes.toList).any (Try.prog.veiledRec ·))) = true := by kernel_rfl
theorem k21 : (Rows.derivePartsRow.veiledFits Try.prog Try.f3.params.toList (Try.f3.params.toList ++ Rows.derivePartsSpec.plain.varTypes Try.prog ++ Try.f3.resultTypes.toList)) = true := by kernel_rfl
theorem g0 : (Try.prog.stops == []) = true := by rw [Rw.stops]; rfl
theorem g1 : (Try.prog.stopKnobs == []) = true := by rw [Rw.stopKnobs]; rfl
theorem g2 : (Rows.derivePartsRow.plainKeys == Try.prog.plainKeys) = true := by rw [Rw.plainKeys]; rfl
theorem g3 : (Rows.derivePartsRow.lifted == Try.prog.liftsFinal) = true := by rw [Rw.lifts]; rfl
theorem g4 : (Try.prog.make == some Rows.derivePartsRow.make) = true := by rw [Rw.make]; rfl
theorem closed : joinedFacts Try.prog 3 Try.f3 Rows.derivePartsSpec Rows.derivePartsRow = true := by
  unfold joinedFacts
  simp only [Rw.laid, Rw.maps, Rw.stopsHeard, Rw.mayEnter, g0, g1, g2, g3, g4, k0, k1, k2, k3, k4, k5, k6, k7, k8, k9, k10, k11, k12, k13, k14, k15, k16, k17, k18, k19, k20, k21, Bool.and_true]
  kernel_rfl
theorem named : Try.prog.funcNamed Rows.derivePartsRow.func = some 3 := by kernel_rfl
theorem inst : Try.f3.isInstance Try.prog Rows.derivePartsRow.origin Rows.derivePartsRow.targs := of_decide_eq_true (by kernel_rfl)
theorem wrap : Try.f3.isWrapper Try.prog Rows.derivePartsRow.wrapper Rows.derivePartsRow.mainSum := by
  unfold Func.isWrapper
  rw [if_neg (by decide +kernel)]
  exact ⟨rfl, rfl⟩
theorem over : Rows.derivePartsRow.holds Try.pinned (OpenSpec.ofChange Rows.derivePartsSpec) :=
  OpenClaim.holds_of_wide 3 Try.f3 rfl rfl rfl rfl rfl rfl rfl ⟨rfl, rfl, rfl, rfl, rfl⟩ rfl rfl rfl rfl rfl named Try.func3 closed inst wrap
    (fun os started H enc _ => lifted os started H enc)
theorem proved : Rows.DerivePartsSaid := over
#print axioms proved
end Go.Proofs.Ytclegllogeanlaa.deriveParts
namespace Go.Proofs.Ytclegllogeanlaa
/-- The row, under a short name, for the claim. -/
theorem deriveParts_holds : Rows.DerivePartsSaid := deriveParts.proved
end Go.Proofs.Ytclegllogeanlaa
