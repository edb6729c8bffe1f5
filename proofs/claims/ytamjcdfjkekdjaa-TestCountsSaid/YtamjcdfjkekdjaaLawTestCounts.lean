/- The law TestCounts returns true whatever its input, and its input reads behind the call as it did before; no conditions. -/
import Derived.Test.YtamjcdfjkekdjaaTestCountsWalk
import Derived.Test.YtamjcdfjkekdjaaTestD
import Derived.Test.YtamjcdfjkekdjaaKitRow
set_option linter.unusedSimpArgs false
set_option linter.unusedVariables false
set_option autoImplicit false
set_option linter.constructorNameAsVariable false
namespace Go.Proofs.Ytamjcdfjkekdjaa.testCounts
open Go.ChangeShapes Go.WideShapes Go.ChangeAt Go.RowKit Go.Eng
theorem law (av : List AV) (h : ShapeAll Try.prog 8 Try.f14.params.toList av) : SC Try.prog 14 av (B true) := by
  rw [Try.params14] at h
  obtain ⟨a, _, rfl, h0, rfl⟩ := h
  obtain ⟨i, t, rfl, hi, ht, hw⟩ := sa_test h0
  exact law_TestCounts
set_option maxRecDepth 100000 in
theorem lifted (os : Os) (started : os.Started) (H : Type) (enc : TypeId × Value → H) :
    ReturnsInHanded {} Try.checked os 14 .any (Rows.testCountsSpec.pre6 enc Try.prog Try.f14 Rows.testCountsRow.domain false) (Rows.testCountsSpec.post enc Try.prog Try.f14 false true false false) := by
  refine law_lifted (C := Try.checked) 8 Rw.own started (by kernel_rfl) Try.func14
    (ChangeSpec.witness6 (enc := enc) (C := Try.checked) false ⟨#[], #[.agg #[.slice none 0 0, .slice none 0 0]], []⟩ 8 (by kernel_rfl) (by kernel_rfl) (by kernel_rfl) (by kernel_rfl))
    Rw.laid (by kernel_rfl) rfl rfl Try.underlying4 ?_ law
  intro ds hl
  rw [Try.params14] at hl
  match ds, hl with
  | [d1], _ => rfl
theorem k0 : (Rows.testCountsRow.wf (OpenSpec.ofChange Rows.testCountsSpec)) = true := by kernel_rfl
theorem k1 : (Try.f14.params.all (Try.prog.readableRec ·)) = true := by kernel_rfl
theorem k2 : (namedTie Try.prog Rows.testCountsRow.named Rows.testCountsSpec.vars) = true := by kernel_rfl
theorem k3 : ((Rows.testCountsRow.stops == [])) = true := by kernel_rfl
theorem k4 : ((Rows.testCountsRow.knobs == [])) = true := by kernel_rfl
theorem k5 : ((Rows.testCountsRow.inPlace == Try.prog.inPlace 14)) = true := by kernel_rfl
theorem k6 : ((Rows.testCountsRow.unfollowed == Try.prog.unfollowed 14)) = true := by kernel_rfl
theorem k7 : ((Rows.testCountsRow.recurses == Try.prog.recurses 14)) = true := by kernel_rfl
theorem k8 : ((Rows.testCountsRow.named == Try.prog.varsNamed 14)) = true := by kernel_rfl
theorem k9 : ((Rows.testCountsRow.maps == (Try.f14.params.toList ++ Rows.testCountsSpec.plain.varTypes Try.prog).any (Try.prog.mapsRec ·))) = true := by kernel_rfl
theorem k10 : ((Rows.testCountsRow.ifaces == (Try.f14.params.toList ++ Rows.testCountsSpec.plain.varTypes Try.prog).any (Try.prog.ifacesRec ·))) = true := by kernel_rfl
theorem k11 : ((Rows.testCountsRow.mapsOut == Try.prog.mapsAmong Try.f14.resultTypes.toList)) = true := by kernel_rfl
theorem k12 : ((Rows.testCountsRow.loops == (Try.f14.params.toList ++ Rows.testCountsSpec.plain.varTypes Try.prog).any (Try.prog.loopsFrom ·))) = true := by kernel_rfl
theorem k13 : ((Rows.testCountsRow.wideKeys == (Try.f14.params.toList ++ Rows.testCountsSpec.plain.varTypes Try.prog ++ Try.f14.resultTypes.toList).any (Try.prog.wideKeysFrom ·))) = true := by kernel_rfl
theorem k14 : (Rows.testCountsSpec.vars.all (Try.prog.varReadable ·)) = true := by kernel_rfl
theorem k15 : (Try.f14.resultTypes.all (fun t => Try.prog.readableRec t && decide (t < Try.prog.types.size))) = true := by kernel_rfl
theorem k16 : ((Rows.testCountsRow.ifacesOut == Try.f14.resultTypes.toList.any (Try.prog.ifacesRec ·))) = true := by kernel_rfl
theorem k17 : ((Rows.testCountsRow.loopsOut == Try.f14.resultTypes.toList.any (Try.prog.loopsFrom ·))) = true := by kernel_rfl
theorem k18 : (Rows.testCountsRow.shortTexts.isNone) = true := by kernel_rfl
theorem k19 : ((Rows.testCountsRow.pinned == Rows.testCountsRow.pinnedBy)) = true := by kernel_rfl
theorem k20 : ((Rows.testCountsRow.veiled == (Try.f14.params.toList ++ Rows.testCountsSpec.plain.varTypes Try.prog ++ Try.f14.resultTypes.toList).any (Try.prog.veiledRec ·))) = true := by kernel_rfl
theorem k21 : (Rows.testCountsRow.veiledFits Try.prog Try.f14.params.toList (Try.f14.params.toList ++ Rows.testCountsSpec.plain.varTypes Try.prog ++ Try.f14.resultTypes.toList)) = true := by kernel_rfl
theorem g0 : (Try.prog.stops == []) = true := by rw [Rw.stops]; rfl
theorem g1 : (Try.prog.stopKnobs == []) = true := by rw [Rw.stopKnobs]; rfl
theorem g2 : (Rows.testCountsRow.plainKeys == Try.prog.plainKeys) = true := by rw [Rw.plainKeys]; rfl
theorem g3 : (Rows.testCountsRow.lifted == Try.prog.liftsFinal) = true := by rw [Rw.lifts]; rfl
theorem g4 : (Try.prog.make == some Rows.testCountsRow.make) = true := by rw [Rw.make]; rfl
theorem closed : joinedFacts Try.prog 14 Try.f14 Rows.testCountsSpec Rows.testCountsRow = true := by
  unfold joinedFacts
  simp only [Rw.laid, Rw.maps, Rw.stopsHeard, Rw.mayEnter, g0, g1, g2, g3, g4, k0, k1, k2, k3, k4, k5, k6, k7, k8, k9, k10, k11, k12, k13, k14, k15, k16, k17, k18, k19, k20, k21, Bool.and_true]
  kernel_rfl
theorem named : Try.prog.funcNamed Rows.testCountsRow.func = some 14 := by kernel_rfl
theorem inst : Try.f14.isInstance Try.prog Rows.testCountsRow.origin Rows.testCountsRow.targs := of_decide_eq_true (by kernel_rfl)
theorem wrap : Try.f14.isWrapper Try.prog Rows.testCountsRow.wrapper Rows.testCountsRow.mainSum := by
  unfold Func.isWrapper
  rw [if_neg (by decide +kernel)]
  exact ⟨rfl, rfl⟩
theorem over : Rows.testCountsRow.holds Try.pinned (OpenSpec.ofChange Rows.testCountsSpec) :=
  OpenClaim.holds_of_wide 14 Try.f14 rfl rfl rfl rfl rfl rfl rfl ⟨rfl, rfl, rfl, rfl, rfl⟩ rfl rfl rfl rfl rfl named Try.func14 closed inst wrap
    (fun os started H enc _ => lifted os started H enc)
theorem proved : Rows.TestCountsSaid := over
#print axioms proved
end Go.Proofs.Ytamjcdfjkekdjaa.testCounts
namespace Go.Proofs.Ytamjcdfjkekdjaa
/-- The row, under a short name, for the claim. -/
theorem testCounts_holds : Rows.TestCountsSaid := testCounts.proved
end Go.Proofs.Ytamjcdfjkekdjaa
