/- The law TestAgain returns true whatever its input, and its input reads behind the call as it did before; no conditions. -/
import Derived.Test.YtamjcdfjkekdjaaTestAgainWalk
import Derived.Test.YtamjcdfjkekdjaaTestD
import Derived.Test.YtamjcdfjkekdjaaKitRow
set_option linter.unusedSimpArgs false
set_option linter.unusedVariables false
set_option autoImplicit false
set_option linter.constructorNameAsVariable false
namespace Go.Proofs.Ytamjcdfjkekdjaa.testAgain
open Go.ChangeShapes Go.WideShapes Go.ChangeAt Go.RowKit Go.Eng
theorem law (av : List AV) (h : ShapeAll Try.prog 8 Try.f18.params.toList av) : SC Try.prog 18 av (B true) := by
  rw [Try.params18] at h
  obtain ⟨a, _, rfl, h0, rfl⟩ := h
  obtain ⟨i, t, rfl, hi, ht, hw⟩ := sa_test h0
  exact law_TestAgain ⟨ht, hw⟩
set_option maxRecDepth 100000 in
theorem lifted (os : Os) (started : os.Started) (H : Type) (enc : TypeId × Value → H) :
    ReturnsInHanded {} Try.checked os 18 .any (Rows.testAgainSpec.pre6 enc Try.prog Try.f18 Rows.testAgainRow.domain false) (Rows.testAgainSpec.post enc Try.prog Try.f18 false true false false) := by
  refine law_lifted (C := Try.checked) 8 Rw.own started (by kernel_rfl) Try.func18
    (ChangeSpec.witness6 (enc := enc) (C := Try.checked) false ⟨#[], #[.agg #[.slice none 0 0, .slice none 0 0]], []⟩ 8 (by kernel_rfl) (by kernel_rfl) (by kernel_rfl) (by kernel_rfl))
    Rw.laid (by kernel_rfl) rfl rfl Try.underlying4 ?_ law
  intro ds hl
  rw [Try.params18] at hl
  match ds, hl with
  | [d1], _ => rfl
theorem k0 : (Rows.testAgainRow.wf (OpenSpec.ofChange Rows.testAgainSpec)) = true := by kernel_rfl
theorem k1 : (Try.f18.params.all (Try.prog.readableRec ·)) = true := by kernel_rfl
theorem k2 : (namedTie Try.prog Rows.testAgainRow.named Rows.testAgainSpec.vars) = true := by kernel_rfl
theorem k3 : ((Rows.testAgainRow.stops == [])) = true := by kernel_rfl
theorem k4 : ((Rows.testAgainRow.knobs == [])) = true := by kernel_rfl
theorem k5 : ((Rows.testAgainRow.inPlace == Try.prog.inPlace 18)) = true := by kernel_rfl
theorem k6 : ((Rows.testAgainRow.unfollowed == Try.prog.unfollowed 18)) = true := by kernel_rfl
theorem k7 : ((Rows.testAgainRow.recurses == Try.prog.recurses 18)) = true := by kernel_rfl
theorem k8 : ((Rows.testAgainRow.named == Try.prog.varsNamed 18)) = true := by kernel_rfl
theorem k9 : ((Rows.testAgainRow.maps == (Try.f18.params.toList ++ Rows.testAgainSpec.plain.varTypes Try.prog).any (Try.prog.mapsRec ·))) = true := by kernel_rfl
theorem k10 : ((Rows.testAgainRow.ifaces == (Try.f18.params.toList ++ Rows.testAgainSpec.plain.varTypes Try.prog).any (Try.prog.ifacesRec ·))) = true := by kernel_rfl
theorem k11 : ((Rows.testAgainRow.mapsOut == Try.prog.mapsAmong Try.f18.resultTypes.toList)) = true := by kernel_rfl
theorem k12 : ((Rows.testAgainRow.loops == (Try.f18.params.toList ++ Rows.testAgainSpec.plain.varTypes Try.prog).any (Try.prog.loopsFrom ·))) = true := by kernel_rfl
theorem k13 : ((Rows.testAgainRow.wideKeys == (Try.f18.params.toList ++ Rows.testAgainSpec.plain.varTypes Try.prog ++ Try.f18.resultTypes.toList).any (Try.prog.wideKeysFrom ·))) = true := by kernel_rfl
theorem k14 : (Rows.testAgainSpec.vars.all (Try.prog.varReadable ·)) = true := by kernel_rfl
theorem k15 : (Try.f18.resultTypes.all (fun t => Try.prog.readableRec t && decide (t < Try.prog.types.size))) = true := by kernel_rfl
theorem k16 : ((Rows.testAgainRow.ifacesOut == Try.f18.resultTypes.toList.any (Try.prog.ifacesRec ·))) = true := by kernel_rfl
theorem k17 : ((Rows.testAgainRow.loopsOut == Try.f18.resultTypes.toList.any (Try.prog.loopsFrom ·))) = true := by kernel_rfl
theorem k18 : (Rows.testAgainRow.shortTexts.isNone) = true := by kernel_rfl
theorem k19 : ((Rows.testAgainRow.pinned == Rows.testAgainRow.pinnedBy)) = true := by kernel_rfl
theorem k20 : ((Rows.testAgainRow.veiled == (Try.f18.params.toList ++ Rows.testAgainSpec.plain.varTypes Try.prog ++ Try.f18.resultTypes.toList).any (Try.prog.veiledRec ·))) = true := by kernel_rfl
theorem k21 : (Rows.testAgainRow.veiledFits Try.prog Try.f18.params.toList (Try.f18.params.toList ++ Rows.testAgainSpec.plain.varTypes Try.prog ++ Try.f18.resultTypes.toList)) = true := by kernel_rfl
theorem g0 : (Try.prog.stops == []) = true := by rw [Rw.stops]; rfl
theorem g1 : (Try.prog.stopKnobs == []) = true := by rw [Rw.stopKnobs]; rfl
theorem g2 : (Rows.testAgainRow.plainKeys == Try.prog.plainKeys) = true := by rw [Rw.plainKeys]; rfl
theorem g3 : (Rows.testAgainRow.lifted == Try.prog.liftsFinal) = true := by rw [Rw.lifts]; rfl
theorem g4 : (Try.prog.make == some Rows.testAgainRow.make) = true := by rw [Rw.make]; rfl
theorem closed : joinedFacts Try.prog 18 Try.f18 Rows.testAgainSpec Rows.testAgainRow = true := by
  unfold joinedFacts
  simp only [Rw.laid, Rw.maps, Rw.stopsHeard, Rw.mayEnter, g0, g1, g2, g3, g4, k0, k1, k2, k3, k4, k5, k6, k7, k8, k9, k10, k11, k12, k13, k14, k15, k16, k17, k18, k19, k20, k21, Bool.and_true]
  kernel_rfl
theorem named : Try.prog.funcNamed Rows.testAgainRow.func = some 18 := by kernel_rfl
theorem inst : Try.f18.isInstance Try.prog Rows.testAgainRow.origin Rows.testAgainRow.targs := of_decide_eq_true (by kernel_rfl)
theorem wrap : Try.f18.isWrapper Try.prog Rows.testAgainRow.wrapper Rows.testAgainRow.mainSum := by
  unfold Func.isWrapper
  rw [if_neg (by decide +kernel)]
  exact ⟨rfl, rfl⟩
theorem over : Rows.testAgainRow.holds Try.pinned (OpenSpec.ofChange Rows.testAgainSpec) :=
  OpenClaim.holds_of_wide 18 Try.f18 rfl rfl rfl rfl rfl rfl rfl ⟨rfl, rfl, rfl, rfl, rfl⟩ rfl rfl rfl rfl rfl named Try.func18 closed inst wrap
    (fun os started H enc _ => lifted os started H enc)
theorem proved : Rows.TestAgainSaid := over
#print axioms proved
end Go.Proofs.Ytamjcdfjkekdjaa.testAgain
namespace Go.Proofs.Ytamjcdfjkekdjaa
/-- The row, under a short name, for the claim. -/
theorem testAgain_holds : Rows.TestAgainSaid := testAgain.proved
end Go.Proofs.Ytamjcdfjkekdjaa
