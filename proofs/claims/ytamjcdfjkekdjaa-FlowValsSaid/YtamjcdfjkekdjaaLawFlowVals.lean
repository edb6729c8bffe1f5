/- The law FlowVals returns true whatever its input, and its input reads behind the call as it did before; no conditions. -/
import Derived.Test.YtamjcdfjkekdjaaFlowValsWalk
import Derived.Test.YtamjcdfjkekdjaaFlowE
import Derived.Test.YtamjcdfjkekdjaaKitRow
set_option linter.unusedSimpArgs false
set_option linter.unusedVariables false
set_option autoImplicit false
set_option linter.constructorNameAsVariable false
namespace Go.Proofs.Ytamjcdfjkekdjaa.flowVals
open Go.ChangeShapes Go.WideShapes Go.ChangeAt Go.RowKit Go.Eng
theorem law (av : List AV) (h : ShapeAll Try.prog 8 Try.f22.params.toList av) : SC Try.prog 22 av (B true) := by
  rw [Try.params22] at h
  obtain ⟨a, _, rfl, h0, b, _, rfl, h1, c, _, rfl, h2, rfl⟩ := h
  obtain ⟨th, rfl, hl, hth⟩ := sa_thread h0
  obtain ⟨vals, rfl, hvl, hvw⟩ := sa_nums h1
  obtain ⟨lucks, rfl, hll⟩ := sa_bools h2
  exact law_FlowVals hth hvw
set_option maxRecDepth 100000 in
theorem lifted (os : Os) (started : os.Started) (H : Type) (enc : TypeId × Value → H) :
    ReturnsInHanded {} Try.checked os 22 .any (Rows.flowValsSpec.pre6 enc Try.prog Try.f22 Rows.flowValsRow.domain false) (Rows.flowValsSpec.post enc Try.prog Try.f22 false true false false) := by
  refine law_lifted (C := Try.checked) 8 Rw.own started (by kernel_rfl) Try.func22
    (ChangeSpec.witness6 (enc := enc) (C := Try.checked) false ⟨#[], #[.slice none 0 0, .slice none 0 0, .slice none 0 0], []⟩ 8 (by kernel_rfl) (by kernel_rfl) (by kernel_rfl) (by kernel_rfl))
    Rw.laid (by kernel_rfl) rfl rfl Try.underlying4 ?_ law
  intro ds hl
  rw [Try.params22] at hl
  match ds, hl with
  | [d1, d2, d3], _ => rfl
theorem k0 : (Rows.flowValsRow.wf (OpenSpec.ofChange Rows.flowValsSpec)) = true := by kernel_rfl
theorem k1 : (Try.f22.params.all (Try.prog.readableRec ·)) = true := by kernel_rfl
theorem k2 : (namedTie Try.prog Rows.flowValsRow.named Rows.flowValsSpec.vars) = true := by kernel_rfl
theorem k3 : ((Rows.flowValsRow.stops == [])) = true := by kernel_rfl
theorem k4 : ((Rows.flowValsRow.knobs == [])) = true := by kernel_rfl
theorem k5 : ((Rows.flowValsRow.inPlace == Try.prog.inPlace 22)) = true := by kernel_rfl
theorem k6 : ((Rows.flowValsRow.unfollowed == Try.prog.unfollowed 22)) = true := by kernel_rfl
theorem k7 : ((Rows.flowValsRow.recurses == Try.prog.recurses 22)) = true := by kernel_rfl
theorem k8 : ((Rows.flowValsRow.named == Try.prog.varsNamed 22)) = true := by kernel_rfl
theorem k9 : ((Rows.flowValsRow.maps == (Try.f22.params.toList ++ Rows.flowValsSpec.plain.varTypes Try.prog).any (Try.prog.mapsRec ·))) = true := by kernel_rfl
theorem k10 : ((Rows.flowValsRow.ifaces == (Try.f22.params.toList ++ Rows.flowValsSpec.plain.varTypes Try.prog).any (Try.prog.ifacesRec ·))) = true := by kernel_rfl
theorem k11 : ((Rows.flowValsRow.mapsOut == Try.prog.mapsAmong Try.f22.resultTypes.toList)) = true := by kernel_rfl
theorem k12 : ((Rows.flowValsRow.loops == (Try.f22.params.toList ++ Rows.flowValsSpec.plain.varTypes Try.prog).any (Try.prog.loopsFrom ·))) = true := by kernel_rfl
theorem k13 : ((Rows.flowValsRow.wideKeys == (Try.f22.params.toList ++ Rows.flowValsSpec.plain.varTypes Try.prog ++ Try.f22.resultTypes.toList).any (Try.prog.wideKeysFrom ·))) = true := by kernel_rfl
theorem k14 : (Rows.flowValsSpec.vars.all (Try.prog.varReadable ·)) = true := by kernel_rfl
theorem k15 : (Try.f22.resultTypes.all (fun t => Try.prog.readableRec t && decide (t < Try.prog.types.size))) = true := by kernel_rfl
theorem k16 : ((Rows.flowValsRow.ifacesOut == Try.f22.resultTypes.toList.any (Try.prog.ifacesRec ·))) = true := by kernel_rfl
theorem k17 : ((Rows.flowValsRow.loopsOut == Try.f22.resultTypes.toList.any (Try.prog.loopsFrom ·))) = true := by kernel_rfl
theorem k18 : (Rows.flowValsRow.shortTexts.isNone) = true := by kernel_rfl
theorem k19 : ((Rows.flowValsRow.pinned == Rows.flowValsRow.pinnedBy)) = true := by kernel_rfl
theorem k20 : ((Rows.flowValsRow.veiled == (Try.f22.params.toList ++ Rows.flowValsSpec.plain.varTypes Try.prog ++ Try.f22.resultTypes.toList).any (Try.prog.veiledRec ·))) = true := by kernel_rfl
theorem k21 : (Rows.flowValsRow.veiledFits Try.prog Try.f22.params.toList (Try.f22.params.toList ++ Rows.flowValsSpec.plain.varTypes Try.prog ++ Try.f22.resultTypes.toList)) = true := by kernel_rfl
theorem g0 : (Try.prog.stops == []) = true := by rw [Rw.stops]; rfl
theorem g1 : (Try.prog.stopKnobs == []) = true := by rw [Rw.stopKnobs]; rfl
theorem g2 : (Rows.flowValsRow.plainKeys == Try.prog.plainKeys) = true := by rw [Rw.plainKeys]; rfl
theorem g3 : (Rows.flowValsRow.lifted == Try.prog.liftsFinal) = true := by rw [Rw.lifts]; rfl
theorem g4 : (Try.prog.make == some Rows.flowValsRow.make) = true := by rw [Rw.make]; rfl
theorem closed : joinedFacts Try.prog 22 Try.f22 Rows.flowValsSpec Rows.flowValsRow = true := by
  unfold joinedFacts
  simp only [Rw.laid, Rw.maps, Rw.stopsHeard, Rw.mayEnter, g0, g1, g2, g3, g4, k0, k1, k2, k3, k4, k5, k6, k7, k8, k9, k10, k11, k12, k13, k14, k15, k16, k17, k18, k19, k20, k21, Bool.and_true]
  kernel_rfl
theorem named : Try.prog.funcNamed Rows.flowValsRow.func = some 22 := by kernel_rfl
theorem inst : Try.f22.isInstance Try.prog Rows.flowValsRow.origin Rows.flowValsRow.targs := of_decide_eq_true (by kernel_rfl)
theorem wrap : Try.f22.isWrapper Try.prog Rows.flowValsRow.wrapper Rows.flowValsRow.mainSum := by
  unfold Func.isWrapper
  rw [if_neg (by decide +kernel)]
  exact ⟨rfl, rfl⟩
theorem over : Rows.flowValsRow.holds Try.pinned (OpenSpec.ofChange Rows.flowValsSpec) :=
  OpenClaim.holds_of_wide 22 Try.f22 rfl rfl rfl rfl rfl rfl rfl ⟨rfl, rfl, rfl, rfl, rfl⟩ rfl rfl rfl rfl rfl named Try.func22 closed inst wrap
    (fun os started H enc _ => lifted os started H enc)
theorem proved : Rows.FlowValsSaid := over
#print axioms proved
end Go.Proofs.Ytamjcdfjkekdjaa.flowVals
namespace Go.Proofs.Ytamjcdfjkekdjaa
/-- The row, under a short name, for the claim. -/
theorem flowVals_holds : Rows.FlowValsSaid := flowVals.proved
end Go.Proofs.Ytamjcdfjkekdjaa
