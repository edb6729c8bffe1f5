/- The law ValsOf returns true whatever its input, and its input reads behind the call as it did before; no conditions. -/
import Derived.Test.YtamjcdfjkekdjaaValsI
import Derived.Test.YtamjcdfjkekdjaaTestD
import Derived.Test.YtamjcdfjkekdjaaKitRow
set_option linter.unusedSimpArgs false
set_option linter.unusedVariables false
set_option autoImplicit false
set_option linter.constructorNameAsVariable false
namespace Go.Proofs.Ytamjcdfjkekdjaa.valsOf
open Go.ChangeShapes Go.WideShapes Go.ChangeAt Go.RowKit Go.Eng
theorem law (av : List AV) (h : ShapeAll Try.prog 8 Try.f26.params.toList av) : SC Try.prog 26 av (B true) := by
  rw [Try.params26] at h
  obtain ⟨a, _, rfl, h0, rfl⟩ := h
  obtain ⟨i, t, rfl, hi, ht, hw⟩ := sa_test h0
  exact law_ValsOf (fun th h => (hw th h).2)
set_option maxRecDepth 100000 in
theorem lifted (os : Os) (started : os.Started) (H : Type) (enc : TypeId × Value → H) :
    ReturnsInHanded {} Try.checked os 26 .any (Rows.valsOfSpec.pre6 enc Try.prog Try.f26 Rows.valsOfRow.domain false) (Rows.valsOfSpec.post enc Try.prog Try.f26 false true false false) := by
  refine law_lifted (C := Try.checked) 8 Rw.own started (by kernel_rfl) Try.func26
    (ChangeSpec.witness6 (enc := enc) (C := Try.checked) false ⟨#[], #[.agg #[.slice none 0 0, .slice none 0 0]], []⟩ 8 (by kernel_rfl) (by kernel_rfl) (by kernel_rfl) (by kernel_rfl))
    Rw.laid (by kernel_rfl) rfl rfl Try.underlying4 ?_ law
  intro ds hl
  rw [Try.params26] at hl
  match ds, hl with
  | [d1], _ => rfl
theorem k0 : (Rows.valsOfRow.wf (OpenSpec.ofChange Rows.valsOfSpec)) = true := by kernel_rfl
theorem k1 : (Try.f26.params.all (Try.prog.readableRec ·)) = true := by kernel_rfl
theorem k2 : (namedTie Try.prog Rows.valsOfRow.named Rows.valsOfSpec.vars) = true := by kernel_rfl
theorem k3 : ((Rows.valsOfRow.stops == [])) = true := by kernel_rfl
theorem k4 : ((Rows.valsOfRow.knobs == [])) = true := by kernel_rfl
theorem k5 : ((Rows.valsOfRow.inPlace == Try.prog.inPlace 26)) = true := by kernel_rfl
theorem k6 : ((Rows.valsOfRow.unfollowed == Try.prog.unfollowed 26)) = true := by kernel_rfl
theorem k7 : ((Rows.valsOfRow.recurses == Try.prog.recurses 26)) = true := by kernel_rfl
theorem k8 : ((Rows.valsOfRow.named == Try.prog.varsNamed 26)) = true := by kernel_rfl
theorem k9 : ((Rows.valsOfRow.maps == (Try.f26.params.toList ++ Rows.valsOfSpec.plain.varTypes Try.prog).any (Try.prog.mapsRec ·))) = true := by kernel_rfl
theorem k10 : ((Rows.valsOfRow.ifaces == (Try.f26.params.toList ++ Rows.valsOfSpec.plain.varTypes Try.prog).any (Try.prog.ifacesRec ·))) = true := by kernel_rfl
theorem k11 : ((Rows.valsOfRow.mapsOut == Try.prog.mapsAmong Try.f26.resultTypes.toList)) = true := by kernel_rfl
theorem k12 : ((Rows.valsOfRow.loops == (Try.f26.params.toList ++ Rows.valsOfSpec.plain.varTypes Try.prog).any (Try.prog.loopsFrom ·))) = true := by kernel_rfl
theorem k13 : ((Rows.valsOfRow.wideKeys == (Try.f26.params.toList ++ Rows.valsOfSpec.plain.varTypes Try.prog ++ Try.f26.resultTypes.toList).any (Try.prog.wideKeysFrom ·))) = true := by kernel_rfl
theorem k14 : (Rows.valsOfSpec.vars.all (Try.prog.varReadable ·)) = true := by kernel_rfl
theorem k15 : (Try.f26.resultTypes.all (fun t => Try.prog.readableRec t && decide (t < Try.prog.types.size))) = true := by kernel_rfl
theorem k16 : ((Rows.valsOfRow.ifacesOut == Try.f26.resultTypes.toList.any (Try.prog.ifacesRec ·))) = true := by kernel_rfl
theorem k17 : ((Rows.valsOfRow.loopsOut == Try.f26.resultTypes.toList.any (Try.prog.loopsFrom ·))) = true := by kernel_rfl
theorem k18 : (Rows.valsOfRow.shortTexts.isNone) = true := by kernel_rfl
theorem k19 : ((Rows.valsOfRow.pinned == Rows.valsOfRow.pinnedBy)) = true := by kernel_rfl
theorem k20 : ((Rows.valsOfRow.veiled == (Try.f26.params.toList ++ Rows.valsOfSpec.plain.varTypes Try.prog ++ Try.f26.resultTypes.toList).any (Try.prog.veiledRec ·))) = true := by kernel_rfl
theorem k21 : (Rows.valsOfRow.veiledFits Try.prog Try.f26.params.toList (Try.f26.params.toList ++ Rows.valsOfSpec.plain.varTypes Try.prog ++ Try.f26.resultTypes.toList)) = true := by kernel_rfl
theorem g0 : (Try.prog.stops == []) = true := by rw [Rw.stops]; rfl
theorem g1 : (Try.prog.stopKnobs == []) = true := by rw [Rw.stopKnobs]; rfl
theorem g2 : (Rows.valsOfRow.plainKeys == Try.prog.plainKeys) = true := by rw [Rw.plainKeys]; rfl
theorem g3 : (Rows.valsOfRow.lifted == Try.prog.liftsFinal) = true := by rw [Rw.lifts]; rfl
theorem g4 : (Try.prog.make == some Rows.valsOfRow.make) = true := by rw [Rw.make]; rfl
theorem closed : joinedFacts Try.prog 26 Try.f26 Rows.valsOfSpec Rows.valsOfRow = true := by
  unfold joinedFacts
  simp only [Rw.laid, Rw.maps, Rw.stopsHeard, Rw.mayEnter, g0, g1, g2, g3, g4, k0, k1, k2, k3, k4, k5, k6, k7, k8, k9, k10, k11, k12, k13, k14, k15, k16, k17, k18, k19, k20, k21, Bool.and_true]
  kernel_rfl
theorem named : Try.prog.funcNamed Rows.valsOfRow.func = some 26 := by kernel_rfl
theorem inst : Try.f26.isInstance Try.prog Rows.valsOfRow.origin Rows.valsOfRow.targs := of_decide_eq_true (by kernel_rfl)
theorem wrap : Try.f26.isWrapper Try.prog Rows.valsOfRow.wrapper Rows.valsOfRow.mainSum := by
  unfold Func.isWrapper
  rw [if_neg (by decide +kernel)]
  exact ⟨rfl, rfl⟩
theorem over : Rows.valsOfRow.holds Try.pinned (OpenSpec.ofChange Rows.valsOfSpec) :=
  OpenClaim.holds_of_wide 26 Try.f26 rfl rfl rfl rfl rfl rfl rfl ⟨rfl, rfl, rfl, rfl, rfl⟩ rfl rfl rfl rfl rfl named Try.func26 closed inst wrap
    (fun os started H enc _ => lifted os started H enc)
theorem proved : Rows.ValsOfSaid := over
#print axioms proved
end Go.Proofs.Ytamjcdfjkekdjaa.valsOf
namespace Go.Proofs.Ytamjcdfjkekdjaa
/-- The row, under a short name, for the claim. -/
theorem valsOf_holds : Rows.ValsOfSaid := valsOf.proved
end Go.Proofs.Ytamjcdfjkekdjaa
