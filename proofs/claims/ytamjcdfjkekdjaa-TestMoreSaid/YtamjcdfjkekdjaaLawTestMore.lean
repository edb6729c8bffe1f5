/- The law TestMore returns true whatever its input, and its input reads behind the call as it did before; no conditions. -/
import Derived.Test.YtamjcdfjkekdjaaTestMoreWalk
import Derived.Test.YtamjcdfjkekdjaaTestD
import Derived.Test.YtamjcdfjkekdjaaKitRow
set_option linter.unusedSimpArgs false
set_option linter.unusedVariables false
set_option autoImplicit false
set_option linter.constructorNameAsVariable false
namespace Go.Proofs.Ytamjcdfjkekdjaa.testMore
open Go.ChangeShapes Go.WideShapes Go.ChangeAt Go.RowKit Go.Eng
theorem law (av : List AV) (h : ShapeAll Try.prog 8 Try.f15.params.toList av) : SC Try.prog 15 av (B true) := by
  rw [Try.params15] at h
  obtain ⟨a, _, rfl, h0, rfl⟩ := h
  obtain ⟨i, t, rfl, hi, ht, hw⟩ := sa_test h0
  exact law_TestMore
set_option maxRecDepth 100000 in
theorem lifted (os : Os) (started : os.Started) (H : Type) (enc : TypeId × Value → H) :
    ReturnsInHanded {} Try.checked os 15 .any (Rows.testMoreSpec.pre6 enc Try.prog Try.f15 Rows.testMoreRow.domain false) (Rows.testMoreSpec.post enc Try.prog Try.f15 false true false false) := by
  refine law_lifted (C := Try.checked) 8 Rw.own started (by kernel_rfl) Try.func15
    (ChangeSpec.witness6 (enc := enc) (C := Try.checked) false ⟨#[], #[.agg #[.slice none 0 0, .slice none 0 0]], []⟩ 8 (by kernel_rfl) (by kernel_rfl) (by kernel_rfl) (by kernel_rfl))
    Rw.laid (by kernel_rfl) rfl rfl Try.underlying4 ?_ law
  intro ds hl
  rw [Try.params15] at hl
  match ds, hl with
  | [d1], _ => rfl
theorem k0 : (Rows.testMoreRow.wf (OpenSpec.ofChange Rows.testMoreSpec)) = true := by kernel_rfl
theorem k1 : (Try.f15.params.all (Try.prog.readableRec ·)) = true := by kernel_rfl
theorem k2 : (namedTie Try.prog Rows.testMoreRow.named Rows.testMoreSpec.vars) = true := by kernel_rfl
theorem k3 : ((Rows.testMoreRow.stops == [])) = true := by kernel_rfl
theorem k4 : ((Rows.testMoreRow.knobs == [])) = true := by kernel_rfl
theorem k5 : ((Rows.testMoreRow.inPlace == Try.prog.inPlace 15)) = true := by kernel_rfl
theorem k6 : ((Rows.testMoreRow.unfollowed == Try.prog.unfollowed 15)) = true := by kernel_rfl
theorem k7 : ((Rows.testMoreRow.recurses == Try.prog.recurses 15)) = true := by kernel_rfl
theorem k8 : ((Rows.testMoreRow.named == Try.prog.varsNamed 15)) = true := by kernel_rfl
theorem k9 : ((Rows.testMoreRow.maps == (Try.f15.params.toList ++ Rows.testMoreSpec.plain.varTypes Try.prog).any (Try.prog.mapsRec ·))) = true := by kernel_rfl
theorem k10 : ((Rows.testMoreRow.ifaces == (Try.f15.params.toList ++ Rows.testMoreSpec.plain.varTypes Try.prog).any (Try.prog.ifacesRec ·))) = true := by kernel_rfl
theorem k11 : ((Rows.testMoreRow.mapsOut == Try.prog.mapsAmong Try.f15.resultTypes.toList)) = true := by kernel_rfl
theorem k12 : ((Rows.testMoreRow.loops == (Try.f15.params.toList ++ Rows.testMoreSpec.plain.varTypes Try.prog).any (Try.prog.loopsFrom ·))) = true := by kernel_rfl
theorem k13 : ((Rows.testMoreRow.wideKeys == (Try.f15.params.toList ++ Rows.testMoreSpec.plain.varTypes Try.prog ++ Try.f15.resultTypes.toList).any (Try.prog.wideKeysFrom ·))) = true := by kernel_rfl
theorem k14 : (Rows.testMoreSpec.vars.all (Try.prog.varReadable ·)) = true := by kernel_rfl
theorem k15 : (Try.f15.resultTypes.all (fun t => Try.prog.readableRec t && decide (t < Try.prog.types.size))) = true := by kernel_rfl
theorem k16 : ((Rows.testMoreRow.ifacesOut == Try.f15.resultTypes.toList.any (Try.prog.ifacesRec ·))) = true := by kernel_rfl
theorem k17 : ((Rows.testMoreRow.loopsOut == Try.f15.resultTypes.toList.any (Try.prog.loopsFrom ·))) = true := by kernel_rfl
theorem k18 : (Rows.testMoreRow.shortTexts.isNone) = true := by kernel_rfl
theorem k19 : ((Rows.testMoreRow.pinned == Rows.testMoreRow.pinnedBy)) = true := by kernel_rfl
theorem k20 : ((Rows.testMoreRow.veiled == (Try.f15.params.toList ++ Rows.testMoreSpec.plain.varTypes Try.prog ++ Try.f15.resultTypes.toList).any (Try.prog.veiledRec ·))) = true := by kernel_rfl
theorem k21 : (Rows.testMoreRow.veiledFits Try.prog Try.f15.params.toList (Try.f15.params.toList ++ Rows.testMoreSpec.plain.varTypes Try.prog ++ Try.f15.resultTypes.toList)) = true := by kernel_rfl
theorem g0 : (Try.prog.stops == []) = true := by rw [Rw.stops]; rfl
theorem g1 : (Try.prog.stopKnobs == []) = true := by rw [Rw.stopKnobs]; rfl
theorem g2 : (Rows.testMoreRow.plainKeys == Try.prog.plainKeys) = true := by rw [Rw.plainKeys]; rfl
theorem g3 : (Rows.testMoreRow.lifted == Try.prog.liftsFinal) = true := by rw [Rw.lifts]; rfl
theorem g4 : (Try.prog.make == some Rows.testMoreRow.make) = true := by rw [Rw.make]; rfl
theorem closed : joinedFacts Try.prog 15 Try.f15 Rows.testMoreSpec Rows.testMoreRow = true := by
  unfold joinedFacts
  simp only [Rw.laid, Rw.maps, Rw.stopsHeard, Rw.mayEnter, g0, g1, g2, g3, g4, k0, k1, k2, k3, k4, k5, k6, k7, k8, k9, k10, k11, k12, k13, k14, k15, k16, k17, k18, k19, k20, k21, Bool.and_true]
  kernel_rfl
theorem named : Try.prog.funcNamed Rows.testMoreRow.func = some 15 := by kernel_rfl
theorem inst : Try.f15.isInstance Try.prog Rows.testMoreRow.origin Rows.testMoreRow.targs := of_decide_eq_true (by kernel_rfl)
theorem wrap : Try.f15.isWrapper Try.prog Rows.testMoreRow.wrapper Rows.testMoreRow.mainSum := by
  unfold Func.isWrapper
  rw [if_neg (by decide +kernel)]
  exact ⟨rfl, rfl⟩
theorem over : Rows.testMoreRow.holds Try.pinned (OpenSpec.ofChange Rows.testMoreSpec) :=
  OpenClaim.holds_of_wide 15 Try.f15 rfl rfl rfl rfl rfl rfl rfl ⟨rfl, rfl, rfl, rfl, rfl⟩ rfl rfl rfl rfl rfl named Try.func15 closed inst wrap
    (fun os started H enc _ => lifted os started H enc)
theorem proved : Rows.TestMoreSaid := over
#print axioms proved
end Go.Proofs.Ytamjcdfjkekdjaa.testMore
namespace Go.Proofs.Ytamjcdfjkekdjaa
/-- The row, under a short name, for the claim. -/
theorem testMore_holds : Rows.TestMoreSaid := testMore.proved
end Go.Proofs.Ytamjcdfjkekdjaa
