/- The law FlowRuns returns true whatever its input, and its input reads behind the call as it did before; no conditions. -/
import Derived.Test.YtamjcdfjkekdjaaFlowRunsWalk
import Derived.Test.YtamjcdfjkekdjaaFlowE
import Derived.Test.YtamjcdfjkekdjaaKitRow
set_option linter.unusedSimpArgs false
set_option linter.unusedVariables false
set_option autoImplicit false
set_option linter.constructorNameAsVariable false
namespace Go.Proofs.Ytamjcdfjkekdjaa.flowRuns
open Go.ChangeShapes Go.WideShapes Go.ChangeAt Go.RowKit Go.Eng
theorem law (av : List AV) (h : ShapeAll Try.prog 8 Try.f19.params.toList av) : SC Try.prog 19 av (B true) := by
  rw [Try.params19] at h
  obtain ⟨a, _, rfl, h0, b, _, rfl, h1, c, _, rfl, h2, d, _, rfl, h3, rfl⟩ := h
  obtain ⟨th, rfl, hl, hth⟩ := sa_thread h0
  obtain ⟨locs, rfl, hlw⟩ := sa_int Try.underlying3 (by simp) h1
  obtain ⟨vals, rfl, hvl, hvw⟩ := sa_nums h2
  obtain ⟨lucks, rfl, hll⟩ := sa_bools h3
  exact law_FlowRuns hth hlw hvw
set_option maxRecDepth 100000 in
theorem lifted (os : Os) (started : os.Started) (H : Type) (enc : TypeId × Value → H) :
    ReturnsInHanded {} Try.checked os 19 .any (Rows.flowRunsSpec.pre6 enc Try.prog Try.f19 Rows.flowRunsRow.domain false) (Rows.flowRunsSpec.post enc Try.prog Try.f19 false true false false) := by
  refine law_lifted (C := Try.checked) 8 Rw.own started (by kernel_rfl) Try.func19
    (ChangeSpec.witness6 (enc := enc) (C := Try.checked) false ⟨#[], #[.slice none 0 0, .int .i64 0, .slice none 0 0, .slice none 0 0], []⟩ 8 (by kernel_rfl) (by kernel_rfl) (by kernel_rfl) (by kernel_rfl))
    Rw.laid (by kernel_rfl) rfl rfl Try.underlying4 ?_ law
  intro ds hl
  rw [Try.params19] at hl
  match ds, hl with
  | [d1, d2, d3, d4], _ => rfl
theorem k0 : (Rows.flowRunsRow.wf (OpenSpec.ofChange Rows.flowRunsSpec)) = true := by kernel_rfl
theorem k1 : (Try.f19.params.all (Try.prog.readableRec ·)) = true := by kernel_rfl
theorem k2 : (namedTie Try.prog Rows.flowRunsRow.named Rows.flowRunsSpec.vars) = true := by kernel_rfl
theorem k3 : ((Rows.flowRunsRow.stops == [])) = true := by kernel_rfl
theorem k4 : ((Rows.flowRunsRow.knobs == [])) = true := by kernel_rfl
theorem k5 : ((Rows.flowRunsRow.inPlace == Try.prog.inPlace 19)) = true := by kernel_rfl
theorem k6 : ((Rows.flowRunsRow.unfollowed == Try.prog.unfollowed 19)) = true := by kernel_rfl
theorem k7 : ((Rows.flowRunsRow.recurses == Try.prog.recurses 19)) = true := by kernel_rfl
theorem k8 : ((Rows.flowRunsRow.named == Try.prog.varsNamed 19)) = true := by kernel_rfl
theorem k9 : ((Rows.flowRunsRow.maps == (Try.f19.params.toList ++ Rows.flowRunsSpec.plain.varTypes Try.prog).any (Try.prog.mapsRec ·))) = true := by kernel_rfl
theorem k10 : ((Rows.flowRunsRow.ifaces == (Try.f19.params.toList ++ Rows.flowRunsSpec.plain.varTypes Try.prog).any (Try.prog.ifacesRec ·))) = true := by kernel_rfl
theorem k11 : ((Rows.flowRunsRow.mapsOut == Try.prog.mapsAmong Try.f19.resultTypes.toList)) = true := by kernel_rfl
theorem k12 : ((Rows.flowRunsRow.loops == (Try.f19.params.toList ++ Rows.flowRunsSpec.plain.varTypes Try.prog).any (Try.prog.loopsFrom ·))) = true := by kernel_rfl
theorem k13 : ((Rows.flowRunsRow.wideKeys == (Try.f19.params.toList ++ Rows.flowRunsSpec.plain.varTypes Try.prog ++ Try.f19.resultTypes.toList).any (Try.prog.wideKeysFrom ·))) = true := by kernel_rfl
theorem k14 : (Rows.flowRunsSpec.vars.all (Try.prog.varReadable ·)) = true := by kernel_rfl
theorem k15 : (Try.f19.resultTypes.all (fun t => Try.prog.readableRec t && decide (t < Try.prog.types.size))) = true := by kernel_rfl
theorem k16 : ((Rows.flowRunsRow.ifacesOut == Try.f19.resultTypes.toList.any (Try.prog.ifacesRec ·))) = true := by kernel_rfl
theorem k17 : ((Rows.flowRunsRow.loopsOut == Try.f19.resultTypes.toList.any (Try.prog.loopsFrom ·))) = true := by kernel_rfl
theorem k18 : (Rows.flowRunsRow.shortTexts.isNone) = true := by kernel_rfl
theorem k19 : ((Rows.flowRunsRow.pinned == Rows.flowRunsRow.pinnedBy)) = true := by kernel_rfl
theorem k20 : ((Rows.flowRunsRow.veiled == (Try.f19.params.toList ++ Rows.flowRunsSpec.plain.varTypes Try.prog ++ Try.f19.resultTypes.toList).any (Try.prog.veiledRec ·))) = true := by kernel_rfl
theorem k21 : (Rows.flowRunsRow.veiledFits Try.prog Try.f19.params.toList (Try.f19.params.toList ++ Rows.flowRunsSpec.plain.varTypes Try.prog ++ Try.f19.resultTypes.toList)) = true := by kernel_rfl
theorem g0 : (Try.prog.stops == []) = true := by rw [Rw.stops]; rfl
theorem g1 : (Try.prog.stopKnobs == []) = true := by rw [Rw.stopKnobs]; rfl
theorem g2 : (Rows.flowRunsRow.plainKeys == Try.prog.plainKeys) = true := by rw [Rw.plainKeys]; rfl
theorem g3 : (Rows.flowRunsRow.lifted == Try.prog.liftsFinal) = true := by rw [Rw.lifts]; rfl
theorem g4 : (Try.prog.make == some Rows.flowRunsRow.make) = true := by rw [Rw.make]; rfl
theorem closed : joinedFacts Try.prog 19 Try.f19 Rows.flowRunsSpec Rows.flowRunsRow = true := by
  unfold joinedFacts
  simp only [Rw.laid, Rw.maps, Rw.stopsHeard, Rw.mayEnter, g0, g1, g2, g3, g4, k0, k1, k2, k3, k4, k5, k6, k7, k8, k9, k10, k11, k12, k13, k14, k15, k16, k17, k18, k19, k20, k21, Bool.and_true]
  kernel_rfl
theorem named : Try.prog.funcNamed Rows.flowRunsRow.func = some 19 := by kernel_rfl
theorem inst : Try.f19.isInstance Try.prog Rows.flowRunsRow.origin Rows.flowRunsRow.targs := of_decide_eq_true (by kernel_rfl)
theorem wrap : Try.f19.isWrapper Try.prog Rows.flowRunsRow.wrapper Rows.flowRunsRow.mainSum := by
  unfold Func.isWrapper
  rw [if_neg (by decide +kernel)]
  exact ⟨rfl, rfl⟩
theorem over : Rows.flowRunsRow.holds Try.pinned (OpenSpec.ofChange Rows.flowRunsSpec) :=
  OpenClaim.holds_of_wide 19 Try.f19 rfl rfl rfl rfl rfl rfl rfl ⟨rfl, rfl, rfl, rfl, rfl⟩ rfl rfl rfl rfl rfl named Try.func19 closed inst wrap
    (fun os started H enc _ => lifted os started H enc)
theorem proved : Rows.FlowRunsSaid := over
#print axioms proved
end Go.Proofs.Ytamjcdfjkekdjaa.flowRuns
namespace Go.Proofs.Ytamjcdfjkekdjaa
/-- The row, under a short name, for the claim. -/
theorem flowRuns_holds : Rows.FlowRunsSaid := flowRuns.proved
end Go.Proofs.Ytamjcdfjkekdjaa
