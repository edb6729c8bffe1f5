/- The law FlowMore returns true whatever its input, and its input reads behind the call as it did before; no conditions. -/
import Derived.Test.YtamjcdfjkekdjaaFlowMoreWalk
import Derived.Test.YtamjcdfjkekdjaaFlowE
import Derived.Test.YtamjcdfjkekdjaaKitRow
set_option linter.unusedSimpArgs false
set_option linter.unusedVariables false
set_option autoImplicit false
set_option linter.constructorNameAsVariable false
namespace Go.Proofs.Ytamjcdfjkekdjaa.flowMore
open Go.ChangeShapes Go.WideShapes Go.ChangeAt Go.RowKit Go.Eng
theorem law (av : List AV) (h : ShapeAll Try.prog 8 Try.f20.params.toList av) : SC Try.prog 20 av (B true) := by
  rw [Try.params20] at h
  obtain ⟨a, _, rfl, h0, b, _, rfl, h1, c, _, rfl, h2, d, _, rfl, h3, rfl⟩ := h
  obtain ⟨th, rfl, hl, hth⟩ := sa_thread h0
  obtain ⟨vals, rfl, hvl, hvw⟩ := sa_nums h1
  obtain ⟨lucks, rfl, hll⟩ := sa_bools h2
  obtain ⟨cut, rfl, wcut⟩ := sa_int Try.underlying5 (by simp) h3
  exact law_FlowMore hth hvw wcut
set_option maxRecDepth 100000 in
theorem lifted (os : Os) (started : os.Started) (H : Type) (enc : TypeId × Value → H) :
    ReturnsInHanded {} Try.checked os 20 .any (Rows.flowMoreSpec.pre6 enc Try.prog Try.f20 Rows.flowMoreRow.domain false) (Rows.flowMoreSpec.post enc Try.prog Try.f20 false true false false) := by
  refine law_lifted (C := Try.checked) 8 Rw.own started (by kernel_rfl) Try.func20
    (ChangeSpec.witness6 (enc := enc) (C := Try.checked) false ⟨#[], #[.slice none 0 0, .slice none 0 0, .slice none 0 0, .int .u8 0], []⟩ 8 (by kernel_rfl) (by kernel_rfl) (by kernel_rfl) (by kernel_rfl))
    Rw.laid (by kernel_rfl) rfl rfl Try.underlying4 ?_ law
  intro ds hl
  rw [Try.params20] at hl
  match ds, hl with
  | [d1, d2, d3, d4], _ => rfl
theorem k0 : (Rows.flowMoreRow.wf (OpenSpec.ofChange Rows.flowMoreSpec)) = true := by kernel_rfl
theorem k1 : (Try.f20.params.all (Try.prog.readableRec ·)) = true := by kernel_rfl
theorem k2 : (namedTie Try.prog Rows.flowMoreRow.named Rows.flowMoreSpec.vars) = true := by kernel_rfl
theorem k3 : ((Rows.flowMoreRow.stops == [])) = true := by kernel_rfl
theorem k4 : ((Rows.flowMoreRow.knobs == [])) = true := by kernel_rfl
theorem k5 : ((Rows.flowMoreRow.inPlace == Try.prog.inPlace 20)) = true := by kernel_rfl
theorem k6 : ((Rows.flowMoreRow.unfollowed == Try.prog.unfollowed 20)) = true := by kernel_rfl
theorem k7 : ((Rows.flowMoreRow.recurses == Try.prog.recurses 20)) = true := by kernel_rfl
theorem k8 : ((Rows.flowMoreRow.named == Try.prog.varsNamed 20)) = true := by kernel_rfl
theorem k9 : ((Rows.flowMoreRow.maps == (Try.f20.params.toList ++ Rows.flowMoreSpec.plain.varTypes Try.prog).any (Try.prog.mapsRec ·))) = true := by kernel_rfl
theorem k10 : ((Rows.flowMoreRow.ifaces == (Try.f20.params.toList ++ Rows.flowMoreSpec.plain.varTypes Try.prog).any (Try.prog.ifacesRec ·))) = true := by kernel_rfl
theorem k11 : ((Rows.flowMoreRow.mapsOut == Try.prog.mapsAmong Try.f20.resultTypes.toList)) = true := by kernel_rfl
theorem k12 : ((Rows.flowMoreRow.loops == (Try.f20.params.toList ++ Rows.flowMoreSpec.plain.varTypes Try.prog).any (Try.prog.loopsFrom ·))) = true := by kernel_rfl
theorem k13 : ((Rows.flowMoreRow.wideKeys == (Try.f20.params.toList ++ Rows.flowMoreSpec.plain.varTypes Try.prog ++ Try.f20.resultTypes.toList).any (Try.prog.wideKeysFrom ·))) = true := by kernel_rfl
theorem k14 : (Rows.flowMoreSpec.vars.all (Try.prog.varReadable ·)) = true := by kernel_rfl
theorem k15 : (Try.f20.resultTypes.all (fun t => Try.prog.readableRec t && decide (t < Try.prog.types.size))) = true := by kernel_rfl
theorem k16 : ((Rows.flowMoreRow.ifacesOut == Try.f20.resultTypes.toList.any (Try.prog.ifacesRec ·))) = true := by kernel_rfl
theorem k17 : ((Rows.flowMoreRow.loopsOut == Try.f20.resultTypes.toList.any (Try.prog.loopsFrom ·))) = true := by kernel_rfl
theorem k18 : (Rows.flowMoreRow.shortTexts.isNone) = true := by kernel_rfl
theorem k19 : ((Rows.flowMoreRow.pinned == Rows.flowMoreRow.pinnedBy)) = true := by kernel_rfl
theorem k20 : ((Rows.flowMoreRow.veiled == (Try.f20.params.toList ++ Rows.flowMoreSpec.plain.varTypes Try.prog ++ Try.f20.resultTypes.toList).any (Try.prog.veiledRec ·))) = true := by kernel_rfl
theorem k21 : (Rows.flowMoreRow.veiledFits Try.prog Try.f20.params.toList (Try.f20.params.toList ++ Rows.flowMoreSpec.plain.varTypes Try.prog ++ Try.f20.resultTypes.toList)) = true := by kernel_rfl
theorem g0 : (Try.prog.stops == []) = true := by rw [Rw.stops]; rfl
theorem g1 : (Try.prog.stopKnobs == []) = true := by rw [Rw.stopKnobs]; rfl
theorem g2 : (Rows.flowMoreRow.plainKeys == Try.prog.plainKeys) = true := by rw [Rw.plainKeys]; rfl
theorem g3 : (Rows.flowMoreRow.lifted == Try.prog.liftsFinal) = true := by rw [Rw.lifts]; rfl
theorem g4 : (Try.prog.make == some Rows.flowMoreRow.make) = true := by rw [Rw.make]; rfl
theorem closed : joinedFacts Try.prog 20 Try.f20 Rows.flowMoreSpec Rows.flowMoreRow = true := by
  unfold joinedFacts
  simp only [Rw.laid, Rw.maps, Rw.stopsHeard, Rw.mayEnter, g0, g1, g2, g3, g4, k0, k1, k2, k3, k4, k5, k6, k7, k8, k9, k10, k11, k12, k13, k14, k15, k16, k17, k18, k19, k20, k21, Bool.and_true]
  kernel_rfl
theorem named : Try.prog.funcNamed Rows.flowMoreRow.func = some 20 := by kernel_rfl
theorem inst : Try.f20.isInstance Try.prog Rows.flowMoreRow.origin Rows.flowMoreRow.targs := of_decide_eq_true (by kernel_rfl)
theorem wrap : Try.f20.isWrapper Try.prog Rows.flowMoreRow.wrapper Rows.flowMoreRow.mainSum := by
  unfold Func.isWrapper
  rw [if_neg (by decide +kernel)]
  exact ⟨rfl, rfl⟩
theorem over : Rows.flowMoreRow.holds Try.pinned (OpenSpec.ofChange Rows.flowMoreSpec) :=
  OpenClaim.holds_of_wide 20 Try.f20 rfl rfl rfl rfl rfl rfl rfl ⟨rfl, rfl, rfl, rfl, rfl⟩ rfl rfl rfl rfl rfl named Try.func20 closed inst wrap
    (fun os started H enc _ => lifted os started H enc)
theorem proved : Rows.FlowMoreSaid := over
#print axioms proved
end Go.Proofs.Ytamjcdfjkekdjaa.flowMore
namespace Go.Proofs.Ytamjcdfjkekdjaa
/-- The row, under a short name, for the claim. -/
theorem flowMore_holds : Rows.FlowMoreSaid := flowMore.proved
end Go.Proofs.Ytamjcdfjkekdjaa
