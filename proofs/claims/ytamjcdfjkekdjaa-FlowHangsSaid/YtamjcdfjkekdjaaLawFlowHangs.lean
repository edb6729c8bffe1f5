/- The law FlowHangs returns true whatever its input, and its input reads behind the call as it did before; no conditions. -/
import Derived.Test.YtamjcdfjkekdjaaFlowHangsWalk
import Derived.Test.YtamjcdfjkekdjaaFlowE
import Derived.Test.YtamjcdfjkekdjaaKitRow
set_option linter.unusedSimpArgs false
set_option linter.unusedVariables false
set_option autoImplicit false
set_option linter.constructorNameAsVariable false
namespace Go.Proofs.Ytamjcdfjkekdjaa.flowHangs
open Go.ChangeShapes Go.WideShapes Go.ChangeAt Go.RowKit Go.Eng
theorem law (av : List AV) (h : ShapeAll Try.prog 8 Try.f21.params.toList av) : SC Try.prog 21 av (B true) := by
  rw [Try.params21] at h
  obtain ⟨a, _, rfl, h0, b, _, rfl, h1, c, _, rfl, h2, rfl⟩ := h
  obtain ⟨th, rfl, hl, hth⟩ := sa_thread h0
  obtain ⟨vals, rfl, hvl, hvw⟩ := sa_nums h1
  obtain ⟨lucks, rfl, hll⟩ := sa_bools h2
  exact law_FlowHangs hth hvw
set_option maxRecDepth 100000 in
theorem lifted (os : Os) (started : os.Started) (H : Type) (enc : TypeId × Value → H) :
    ReturnsInHanded {} Try.checked os 21 .any (Rows.flowHangsSpec.pre6 enc Try.prog Try.f21 Rows.flowHangsRow.domain false) (Rows.flowHangsSpec.post enc Try.prog Try.f21 false true false false) := by
  refine law_lifted (C := Try.checked) 8 Rw.own started (by kernel_rfl) Try.func21
    (ChangeSpec.witness6 (enc := enc) (C := Try.checked) false ⟨#[], #[.slice none 0 0, .slice none 0 0, .slice none 0 0], []⟩ 8 (by kernel_rfl) (by kernel_rfl) (by kernel_rfl) (by kernel_rfl))
    Rw.laid (by kernel_rfl) rfl rfl Try.underlying4 ?_ law
  intro ds hl
  rw [Try.params21] at hl
  match ds, hl with
  | [d1, d2, d3], _ => rfl
theorem k0 : (Rows.flowHangsRow.wf (OpenSpec.ofChange Rows.flowHangsSpec)) = true := by kernel_rfl
theorem k1 : (Try.f21.params.all (Try.prog.readableRec ·)) = true := by kernel_rfl
theorem k2 : (namedTie Try.prog Rows.flowHangsRow.named Rows.flowHangsSpec.vars) = true := by kernel_rfl
theorem k3 : ((Rows.flowHangsRow.stops == [])) = true := by kernel_rfl
theorem k4 : ((Rows.flowHangsRow.knobs == [])) = true := by kernel_rfl
theorem k5 : ((Rows.flowHangsRow.inPlace == Try.prog.inPlace 21)) = true := by kernel_rfl
theorem k6 : ((Rows.flowHangsRow.unfollowed == Try.prog.unfollowed 21)) = true := by kernel_rfl
theorem k7 : ((Rows.flowHangsRow.recurses == Try.prog.recurses 21)) = true := by kernel_rfl
theorem k8 : ((Rows.flowHangsRow.named == Try.prog.varsNamed 21)) = true := by kernel_rfl
theorem k9 : ((Rows.flowHangsRow.maps == (Try.f21.params.toList ++ Rows.flowHangsSpec.plain.varTypes Try.prog).any (Try.prog.mapsRec ·))) = true := by kernel_rfl
theorem k10 : ((Rows.flowHangsRow.ifaces == (Try.f21.params.toList ++ Rows.flowHangsSpec.plain.varTypes Try.prog).any (Try.prog.ifacesRec ·))) = true := by kernel_rfl
theorem k11 : ((Rows.flowHangsRow.mapsOut == Try.prog.mapsAmong Try.f21.resultTypes.toList)) = true := by kernel_rfl
theorem k12 : ((Rows.flowHangsRow.loops == (Try.f21.params.toList ++ Rows.flowHangsSpec.plain.varTypes Try.prog).any (Try.prog.loopsFrom ·))) = true := by kernel_rfl
theorem k13 : ((Rows.flowHangsRow.wideKeys == (Try.f21.params.toList ++ Rows.flowHangsSpec.plain.varTypes Try.prog ++ Try.f21.resultTypes.toList).any (Try.prog.wideKeysFrom ·))) = true := by kernel_rfl
theorem k14 : (Rows.flowHangsSpec.vars.all (Try.prog.varReadable ·)) = true := by kernel_rfl
theorem k15 : (Try.f21.resultTypes.all (fun t => Try.prog.readableRec t && decide (t < Try.prog.types.size))) = true := by kernel_rfl
theorem k16 : ((Rows.flowHangsRow.ifacesOut == Try.f21.resultTypes.toList.any (Try.prog.ifacesRec ·))) = true := by kernel_rfl
theorem k17 : ((Rows.flowHangsRow.loopsOut == Try.f21.resultTypes.toList.any (Try.prog.loopsFrom ·))) = true := by kernel_rfl
theorem k18 : (Rows.flowHangsRow.shortTexts.isNone) = true := by kernel_rfl
theorem k19 : ((Rows.flowHangsRow.pinned == Rows.flowHangsRow.pinnedBy)) = true := by kernel_rfl
theorem k20 : ((Rows.flowHangsRow.veiled == (Try.f21.params.toList ++ Rows.flowHangsSpec.plain.varTypes Try.prog ++ Try.f21.resultTypes.toList).any (Try.prog.veiledRec ·))) = true := by kernel_rfl
theorem k21 : (Rows.flowHangsRow.veiledFits Try.prog Try.f21.params.toList (Try.f21.params.toList ++ Rows.flowHangsSpec.plain.varTypes Try.prog ++ Try.f21.resultTypes.toList)) = true := by kernel_rfl
theorem g0 : (Try.prog.stops == []) = true := by rw [Rw.stops]; rfl
theorem g1 : (Try.prog.stopKnobs == []) = true := by rw [Rw.stopKnobs]; rfl
theorem g2 : (Rows.flowHangsRow.plainKeys == Try.prog.plainKeys) = true := by rw [Rw.plainKeys]; rfl
theorem g3 : (Rows.flowHangsRow.lifted == Try.prog.liftsFinal) = true := by rw [Rw.lifts]; rfl
theorem g4 : (Try.prog.make == some Rows.flowHangsRow.make) = true := by rw [Rw.make]; rfl
theorem closed : joinedFacts Try.prog 21 Try.f21 Rows.flowHangsSpec Rows.flowHangsRow = true := by
  unfold joinedFacts
  simp only [Rw.laid, Rw.maps, Rw.stopsHeard, Rw.mayEnter, g0, g1, g2, g3, g4, k0, k1, k2, k3, k4, k5, k6, k7, k8, k9, k10, k11, k12, k13, k14, k15, k16, k17, k18, k19, k20, k21, Bool.and_true]
  kernel_rfl
theorem named : Try.prog.funcNamed Rows.flowHangsRow.func = some 21 := by kernel_rfl
theorem inst : Try.f21.isInstance Try.prog Rows.flowHangsRow.origin Rows.flowHangsRow.targs := of_decide_eq_true (by kernel_rfl)
theorem wrap : Try.f21.isWrapper Try.prog Rows.flowHangsRow.wrapper Rows.flowHangsRow.mainSum := by
  unfold Func.isWrapper
  rw [if_neg (by decide +kernel)]
  exact ⟨rfl, rfl⟩
theorem over : Rows.flowHangsRow.holds Try.pinned (OpenSpec.ofChange Rows.flowHangsSpec) :=
  OpenClaim.holds_of_wide 21 Try.f21 rfl rfl rfl rfl rfl rfl rfl ⟨rfl, rfl, rfl, rfl, rfl⟩ rfl rfl rfl rfl rfl named Try.func21 closed inst wrap
    (fun os started H enc _ => lifted os started H enc)
theorem proved : Rows.FlowHangsSaid := over
#print axioms proved
end Go.Proofs.Ytamjcdfjkekdjaa.flowHangs
namespace Go.Proofs.Ytamjcdfjkekdjaa
/-- The row, under a short name, for the claim. -/
theorem flowHangs_holds : Rows.FlowHangsSaid := flowHangs.proved
end Go.Proofs.Ytamjcdfjkekdjaa
