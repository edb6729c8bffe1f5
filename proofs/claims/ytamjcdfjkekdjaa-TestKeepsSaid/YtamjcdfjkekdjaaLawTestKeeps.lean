/- The law TestKeeps returns true whatever its input, and its input reads behind the call as it did before; no conditions. -/
import Derived.Test.YtamjcdfjkekdjaaTestKeepsWalk
import Derived.Test.YtamjcdfjkekdjaaTestD
import Derived.Test.YtamjcdfjkekdjaaKitRow
set_option linter.unusedSimpArgs false
set_option linter.unusedVariables false
set_option autoImplicit false
set_option linter.constructorNameAsVariable false
namespace Go.Proofs.Ytamjcdfjkekdjaa.testKeeps
open Go.ChangeShapes Go.WideShapes Go.ChangeAt Go.RowKit Go.Eng
theorem law (av : List AV) (h : ShapeAll Try.prog 8 Try.f17.params.toList av) : SC Try.prog 17 av (B true) := by
  rw [Try.params17] at h
  obtain ⟨a, _, rfl, h0, rfl⟩ := h
  obtain ⟨i, t, rfl, hi, ht, hw⟩ := sa_test h0
  exact law_TestKeeps ⟨ht, hw⟩
set_option maxRecDepth 100000 in
theorem lifted (os : Os) (started : os.Started) (H : Type) (enc : TypeId × Value → H) :
    ReturnsInHanded {} Try.checked os 17 .any (Rows.testKeepsSpec.pre6 enc Try.prog Try.f17 Rows.testKeepsRow.domain false) (Rows.testKeepsSpec.post enc Try.prog Try.f17 false true false false) := by
  refine law_lifted (C := Try.checked) 8 Rw.own started (by kernel_rfl) Try.func17
    (ChangeSpec.witness6 (enc := enc) (C := Try.checked) false ⟨#[], #[.agg #[.slice none 0 0, .slice none 0 0]], []⟩ 8 (by kernel_rfl) (by kernel_rfl) (by kernel_rfl) (by kernel_rfl))
    Rw.laid (by kernel_rfl) rfl rfl Try.underlying4 ?_ law
  intro ds hl
  rw [Try.params17] at hl
  match ds, hl with
  | [d1], _ => rfl
theorem k0 : (Rows.testKeepsRow.wf (OpenSpec.ofChange Rows.testKeepsSpec)) = true := by kernel_rfl
theorem k1 : (Try.f17.params.all (Try.prog.readableRec ·)) = true := by kernel_rfl
theorem k2 : (namedTie Try.prog Rows.testKeepsRow.named Rows.testKeepsSpec.vars) = true := by kernel_rfl
theorem k3 : ((Rows.testKeepsRow.stops == [])) = true := by kernel_rfl
theorem k4 : ((Rows.testKeepsRow.knobs == [])) = true := by kernel_rfl
theorem k5 : ((Rows.testKeepsRow.inPlace == Try.prog.inPlace 17)) = true := by kernel_rfl
theorem k6 : ((Rows.testKeepsRow.unfollowed == Try.prog.unfollowed 17)) = true := by kernel_rfl
theorem k7 : ((Rows.testKeepsRow.recurses == Try.prog.recurses 17)) = true := by kernel_rfl
theorem k8 : ((Rows.testKeepsRow.named == Try.prog.varsNamed 17)) = true := by kernel_rfl
theorem k9 : ((Rows.testKeepsRow.maps == (Try.f17.params.toList ++ Rows.testKeepsSpec.plain.varTypes Try.prog).any (Try.prog.mapsRec ·))) = true := by kernel_rfl
theorem k10 : ((Rows.testKeepsRow.ifaces == (Try.f17.params.toList ++ Rows.testKeepsSpec.plain.varTypes Try.prog).any (Try.prog.ifacesRec ·))) = true := by kernel_rfl
theorem k11 : ((Rows.testKeepsRow.mapsOut == Try.prog.mapsAmong Try.f17.resultTypes.toList)) = true := by kernel_rfl
theorem k12 : ((Rows.testKeepsRow.loops == (Try.f17.params.toList ++ Rows.testKeepsSpec.plain.varTypes Try.prog).any (Try.prog.loopsFrom ·))) = true := by kernel_rfl
theorem k13 : ((Rows.testKeepsRow.wideKeys == (Try.f17.params.toList ++ Rows.testKeepsSpec.plain.varTypes Try.prog ++ Try.f17.resultTypes.toList).any (Try.prog.wideKeysFrom ·))) = true := by kernel_rfl
theorem k14 : (Rows.testKeepsSpec.vars.all (Try.prog.varReadable ·)) = true := by kernel_rfl
theorem k15 : (Try.f17.resultTypes.all (fun t => Try.prog.readableRec t && decide (t < Try.prog.types.size))) = true := by kernel_rfl
theorem k16 : ((Rows.testKeepsRow.ifacesOut == Try.f17.resultTypes.toList.any (Try.prog.ifacesRec ·))) = true := by kernel_rfl
theorem k17 : ((Rows.testKeepsRow.loopsOut == Try.f17.resultTypes.toList.any (Try.prog.loopsFrom ·))) = true := by kernel_rfl
theorem k18 : (Rows.testKeepsRow.shortTexts.isNone) = true := by kernel_rfl
theorem k19 : ((Rows.testKeepsRow.pinned == Rows.testKeepsRow.pinnedBy)) = true := by kernel_rfl
theorem k20 : ((Rows.testKeepsRow.veiled == (Try.f17.params.toList ++ Rows.testKeepsSpec.plain.varTypes Try.prog ++ Try.f17.resultTypes.toList).any (Try.prog.veiledRec ·))) = true := by kernel_rfl
theorem k21 : (Rows.testKeepsRow.veiledFits Try.prog Try.f17.params.toList (Try.f17.params.toList ++ Rows.testKeepsSpec.plain.varTypes Try.prog ++ Try.f17.resultTypes.toList)) = true := by kernel_rfl
theorem g0 : (Try.prog.stops == []) = true := by rw [Rw.stops]; rfl
theorem g1 : (Try.prog.stopKnobs == []) = true := by rw [Rw.stopKnobs]; rfl
theorem g2 : (Rows.testKeepsRow.plainKeys == Try.prog.plainKeys) = true := by rw [Rw.plainKeys]; rfl
theorem g3 : (Rows.testKeepsRow.lifted == Try.prog.liftsFinal) = true := by rw [Rw.lifts]; rfl
theorem g4 : (Try.prog.make == some Rows.testKeepsRow.make) = true := by rw [Rw.make]; rfl
theorem closed : joinedFacts Try.prog 17 Try.f17 Rows.testKeepsSpec Rows.testKeepsRow = true := by
  unfold joinedFacts
  simp only [Rw.laid, Rw.maps, Rw.stopsHeard, Rw.mayEnter, g0, g1, g2, g3, g4, k0, k1, k2, k3, k4, k5, k6, k7, k8, k9, k10, k11, k12, k13, k14, k15, k16, k17, k18, k19, k20, k21, Bool.and_true]
  kernel_rfl
theorem named : Try.prog.funcNamed Rows.testKeepsRow.func = some 17 := by kernel_rfl
theorem inst : Try.f17.isInstance Try.prog Rows.testKeepsRow.origin Rows.testKeepsRow.targs := of_decide_eq_true (by kernel_rfl)
theorem wrap : Try.f17.isWrapper Try.prog Rows.testKeepsRow.wrapper Rows.testKeepsRow.mainSum := by
  unfold Func.isWrapper
  rw [if_neg (by decide +kernel)]
  exact ⟨rfl, rfl⟩
theorem over : Rows.testKeepsRow.holds Try.pinned (OpenSpec.ofChange Rows.testKeepsSpec) :=
  OpenClaim.holds_of_wide 17 Try.f17 rfl rfl rfl rfl rfl rfl rfl ⟨rfl, rfl, rfl, rfl, rfl⟩ rfl rfl rfl rfl rfl named Try.func17 closed inst wrap
    (fun os started H enc _ => lifted os started H enc)
theorem proved : Rows.TestKeepsSaid := over
#print axioms proved
end Go.Proofs.Ytamjcdfjkekdjaa.testKeeps
namespace Go.Proofs.Ytamjcdfjkekdjaa
/-- The row, under a short name, for the claim. -/
theorem testKeeps_holds : Rows.TestKeepsSaid := testKeeps.proved
end Go.Proofs.Ytamjcdfjkekdjaa
