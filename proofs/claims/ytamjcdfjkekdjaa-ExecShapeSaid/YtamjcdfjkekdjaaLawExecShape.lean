/- The law ExecShape returns true whatever its input, and its input reads behind the call as it did before; no conditions. -/
import Derived.Test.YtamjcdfjkekdjaaExecShapeWalk
import Derived.Test.YtamjcdfjkekdjaaTestD
import Derived.Test.YtamjcdfjkekdjaaKitRow
set_option linter.unusedSimpArgs false
set_option linter.unusedVariables false
set_option autoImplicit false
set_option linter.constructorNameAsVariable false
namespace Go.Proofs.Ytamjcdfjkekdjaa.execShape
open Go.ChangeShapes Go.WideShapes Go.ChangeAt Go.RowKit Go.Eng
theorem law (av : List AV) (h : ShapeAll Try.prog 8 Try.f33.params.toList av) : SC Try.prog 33 av (B true) := by
  rw [Try.params33] at h
  obtain ⟨a, _, rfl, h0, rfl⟩ := h
  obtain ⟨i, t, rfl, hi, ht, hw⟩ := sa_test h0
  exact law_ExecShape (fun th h => (hw th h).2)
set_option maxRecDepth 100000 in
theorem lifted (os : Os) (started : os.Started) (H : Type) (enc : TypeId × Value → H) :
    ReturnsInHanded {} Try.checked os 33 .any (Rows.execShapeSpec.pre6 enc Try.prog Try.f33 Rows.execShapeRow.domain false) (Rows.execShapeSpec.post enc Try.prog Try.f33 false true false false) := by
  refine law_lifted (C := Try.checked) 8 Rw.own started (by kernel_rfl) Try.func33
    (ChangeSpec.witness6 (enc := enc) (C := Try.checked) false ⟨#[], #[.agg #[.slice none 0 0, .slice none 0 0]], []⟩ 8 (by kernel_rfl) (by kernel_rfl) (by kernel_rfl) (by kernel_rfl))
    Rw.laid (by kernel_rfl) rfl rfl Try.underlying4 ?_ law
  intro ds hl
  rw [Try.params33] at hl
  match ds, hl with
  | [d1], _ => rfl
theorem k0 : (Rows.execShapeRow.wf (OpenSpec.ofChange Rows.execShapeSpec)) = true := by kernel_rfl
theorem k1 : (Try.f33.params.all (Try.prog.readableRec ·)) = true := by kernel_rfl
theorem k2 : (namedTie Try.prog Rows.execShapeRow.named Rows.execShapeSpec.vars) = true := by kernel_rfl
theorem k3 : ((Rows.execShapeRow.stops == [])) = true := by kernel_rfl
theorem k4 : ((Rows.execShapeRow.knobs == [])) = true := by kernel_rfl
theorem k5 : ((Rows.execShapeRow.inPlace == Try.prog.inPlace 33)) = true := by kernel_rfl
theorem k6 : ((Rows.execShapeRow.unfollowed == Try.prog.unfollowed 33)) = true := by kernel_rfl
theorem k7 : ((Rows.execShapeRow.recurses == Try.prog.recurses 33)) = true := by kernel_rfl
theorem k8 : ((Rows.execShapeRow.named == Try.prog.varsNamed 33)) = true := by kernel_rfl
theorem k9 : ((Rows.execShapeRow.maps == (Try.f33.params.toList ++ Rows.execShapeSpec.plain.varTypes Try.prog).any (Try.prog.mapsRec ·))) = true := by kernel_rfl
theorem k10 : ((Rows.execShapeRow.ifaces == (Try.f33.params.toList ++ Rows.execShapeSpec.plain.varTypes Try.prog).any (Try.prog.ifacesRec ·))) = true := by kernel_rfl
theorem k11 : ((Rows.execShapeRow.mapsOut == Try.prog.mapsAmong Try.f33.resultTypes.toList)) = true := by kernel_rfl
theorem k12 : ((Rows.execShapeRow.loops == (Try.f33.params.toList ++ Rows.execShapeSpec.plain.varTypes Try.prog).any (Try.prog.loopsFrom ·))) = true := by kernel_rfl
theorem k13 : ((Rows.execShapeRow.wideKeys == (Try.f33.params.toList ++ Rows.execShapeSpec.plain.varTypes Try.prog ++ Try.f33.resultTypes.toList).any (Try.prog.wideKeysFrom ·))) = true := by kernel_rfl
theorem k14 : (Rows.execShapeSpec.vars.all (Try.prog.varReadable ·)) = true := by kernel_rfl
theorem k15 : (Try.f33.resultTypes.all (fun t => Try.prog.readableRec t && decide (t < Try.prog.types.size))) = true := by kernel_rfl
theorem k16 : ((Rows.execShapeRow.ifacesOut == Try.f33.resultTypes.toList.any (Try.prog.ifacesRec ·))) = true := by kernel_rfl
theorem k17 : ((Rows.execShapeRow.loopsOut == Try.f33.resultTypes.toList.any (Try.prog.loopsFrom ·))) = true := by kernel_rfl
theorem k18 : (Rows.execShapeRow.shortTexts.isNone) = true := by kernel_rfl
theorem k19 : ((Rows.execShapeRow.pinned == Rows.execShapeRow.pinnedBy)) = true := by kernel_rfl
theorem k20 : ((Rows.execShapeRow.veiled == (Try.f33.params.toList ++ Rows.execShapeSpec.plain.varTypes Try.prog ++ Try.f33.resultTypes.toList).any (Try.prog.veiledRec ·))) = true := by kernel_rfl
theorem k21 : (Rows.execShapeRow.veiledFits Try.prog Try.f33.params.toList (Try.f33.params.toList ++ Rows.execShapeSpec.plain.varTypes Try.prog ++ Try.f33.resultTypes.toList)) = true := by kernel_rfl
theorem g0 : (Try.prog.stops == []) = true := by rw [Rw.stops]; rfl
theorem g1 : (Try.prog.stopKnobs == []) = true := by rw [Rw.stopKnobs]; rfl
theorem g2 : (Rows.execShapeRow.plainKeys == Try.prog.plainKeys) = true := by rw [Rw.plainKeys]; rfl
theorem g3 : (Rows.execShapeRow.lifted == Try.prog.liftsFinal) = true := by rw [Rw.lifts]; rfl
theorem g4 : (Try.prog.make == some Rows.execShapeRow.make) = true := by rw [Rw.make]; rfl
theorem closed : joinedFacts Try.prog 33 Try.f33 Rows.execShapeSpec Rows.execShapeRow = true := by
  unfold joinedFacts
  simp only [Rw.laid, Rw.maps, Rw.stopsHeard, Rw.mayEnter, g0, g1, g2, g3, g4, k0, k1, k2, k3, k4, k5, k6, k7, k8, k9, k10, k11, k12, k13, k14, k15, k16, k17, k18, k19, k20, k21, Bool.and_true]
  kernel_rfl
theorem named : Try.prog.funcNamed Rows.execShapeRow.func = some 33 := by kernel_rfl
theorem inst : Try.f33.isInstance Try.prog Rows.execShapeRow.origin Rows.execShapeRow.targs := of_decide_eq_true (by kernel_rfl)
theorem wrap : Try.f33.isWrapper Try.prog Rows.execShapeRow.wrapper Rows.execShapeRow.mainSum := by
  unfold Func.isWrapper
  rw [if_neg (by decide +kernel)]
  exact ⟨rfl, rfl⟩
theorem over : Rows.execShapeRow.holds Try.pinned (OpenSpec.ofChange Rows.execShapeSpec) :=
  OpenClaim.holds_of_wide 33 Try.f33 rfl rfl rfl rfl rfl rfl rfl ⟨rfl, rfl, rfl, rfl, rfl⟩ rfl rfl rfl rfl rfl named Try.func33 closed inst wrap
    (fun os started H enc _ => lifted os started H enc)
theorem proved : Rows.ExecShapeSaid := over
#print axioms proved
end Go.Proofs.Ytamjcdfjkekdjaa.execShape
namespace Go.Proofs.Ytamjcdfjkekdjaa
/-- The row, under a short name, for the claim. -/
theorem execShape_holds : Rows.ExecShapeSaid := execShape.proved
end Go.Proofs.Ytamjcdfjkekdjaa
