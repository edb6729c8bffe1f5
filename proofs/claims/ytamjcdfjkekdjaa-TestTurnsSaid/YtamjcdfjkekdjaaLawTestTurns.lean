/- The law TestTurns returns true whatever its input, and its input reads behind the call as it did before; no conditions. -/
import Derived.Test.YtamjcdfjkekdjaaTestF
import Derived.Test.YtamjcdfjkekdjaaTestD
import Derived.Test.YtamjcdfjkekdjaaKitRow
set_option linter.unusedSimpArgs false
set_option linter.unusedVariables false
set_option autoImplicit false
set_option linter.constructorNameAsVariable false
namespace Go.Proofs.Ytamjcdfjkekdjaa.testTurns
open Go.ChangeShapes Go.WideShapes Go.ChangeAt Go.RowKit Go.Eng
theorem law (av : List AV) (h : ShapeAll Try.prog 8 Try.f16.params.toList av) : SC Try.prog 16 av (B true) := by
  rw [Try.params16] at h
  obtain ⟨a, _, rfl, h0, rfl⟩ := h
  obtain ⟨i, t, rfl, hi, ht, hw⟩ := sa_test h0
  exact law_TestTurns ⟨ht, hw⟩
set_option maxRecDepth 100000 in
theorem lifted (os : Os) (started : os.Started) (H : Type) (enc : TypeId × Value → H) :
    ReturnsInHanded {} Try.checked os 16 .any (Rows.testTurnsSpec.pre6 enc Try.prog Try.f16 Rows.testTurnsRow.domain false) (Rows.testTurnsSpec.post enc Try.prog Try.f16 false true false false) := by
  refine law_lifted (C := Try.checked) 8 Rw.own started (by kernel_rfl) Try.func16
    (ChangeSpec.witness6 (enc := enc) (C := Try.checked) false ⟨#[], #[.agg #[.slice none 0 0, .slice none 0 0]], []⟩ 8 (by kernel_rfl) (by kernel_rfl) (by kernel_rfl) (by kernel_rfl))
    Rw.laid (by kernel_rfl) rfl rfl Try.underlying4 ?_ law
  intro ds hl
  rw [Try.params16] at hl
  match ds, hl with
  | [d1], _ => rfl
theorem k0 : (Rows.testTurnsRow.wf (OpenSpec.ofChange Rows.testTurnsSpec)) = true := by kernel_rfl
theorem k1 : (Try.f16.params.all (Try.prog.readableRec ·)) = true := by kernel_rfl
theorem k2 : (namedTie Try.prog Rows.testTurnsRow.named Rows.testTurnsSpec.vars) = true := by kernel_rfl
theorem k3 : ((Rows.testTurnsRow.stops == [])) = true := by kernel_rfl
theorem k4 : ((Rows.testTurnsRow.knobs == [])) = true := by kernel_rfl
theorem k5 : ((Rows.testTurnsRow.inPlace == Try.prog.inPlace 16)) = true := by kernel_rfl
theorem k6 : ((Rows.testTurnsRow.unfollowed == Try.prog.unfollowed 16)) = true := by kernel_rfl
theorem k7 : ((Rows.testTurnsRow.recurses == Try.prog.recurses 16)) = true := by kernel_rfl
theorem k8 : ((Rows.testTurnsRow.named == Try.prog.varsNamed 16)) = true := by kernel_rfl
theorem k9 : ((Rows.testTurnsRow.maps == (Try.f16.params.toList ++ Rows.testTurnsSpec.plain.varTypes Try.prog).any (Try.prog.mapsRec ·))) = true := by kernel_rfl
theorem k10 : ((Rows.testTurnsRow.ifaces == (Try.f16.params.toList ++ Rows.testTurnsSpec.plain.varTypes Try.prog).any (Try.prog.ifacesRec ·))) = true := by kernel_rfl
theorem k11 : ((Rows.testTurnsRow.mapsOut == Try.prog.mapsAmong Try.f16.resultTypes.toList)) = true := by kernel_rfl
theorem k12 : ((Rows.testTurnsRow.loops == (Try.f16.params.toList ++ Rows.testTurnsSpec.plain.varTypes Try.prog).any (Try.prog.loopsFrom ·))) = true := by kernel_rfl
theorem k13 : ((Rows.testTurnsRow.wideKeys == (Try.f16.params.toList ++ Rows.testTurnsSpec.plain.varTypes Try.prog ++ Try.f16.resultTypes.toList).any (Try.prog.wideKeysFrom ·))) = true := by kernel_rfl
theorem k14 : (Rows.testTurnsSpec.vars.all (Try.prog.varReadable ·)) = true := by kernel_rfl
theorem k15 : (Try.f16.resultTypes.all (fun t => Try.prog.readableRec t && decide (t < Try.prog.types.size))) = true := by kernel_rfl
theorem k16 : ((Rows.testTurnsRow.ifacesOut == Try.f16.resultTypes.toList.any (Try.prog.ifacesRec ·))) = true := by kernel_rfl
theorem k17 : ((Rows.testTurnsRow.loopsOut == Try.f16.resultTypes.toList.any (Try.prog.loopsFrom ·))) = true := by kernel_rfl
theorem k18 : (Rows.testTurnsRow.shortTexts.isNone) = true := by kernel_rfl
theorem k19 : ((Rows.testTurnsRow.pinned == Rows.testTurnsRow.pinnedBy)) = true := by kernel_rfl
theorem k20 : ((Rows.testTurnsRow.veiled == (Try.f16.params.toList ++ Rows.testTurnsSpec.plain.varTypes Try.prog ++ Try.f16.resultTypes.toList).any (Try.prog.veiledRec ·))) = true := by kernel_rfl
theorem k21 : (Rows.testTurnsRow.veiledFits Try.prog Try.f16.params.toList (Try.f16.params.toList ++ Rows.testTurnsSpec.plain.varTypes Try.prog ++ Try.f16.resultTypes.toList)) = true := by kernel_rfl
theorem g0 : (Try.prog.stops == []) = true := by rw [Rw.stops]; rfl
theorem g1 : (Try.prog.stopKnobs == []) = true := by rw [Rw.stopKnobs]; rfl
theorem g2 : (Rows.testTurnsRow.plainKeys == Try.prog.plainKeys) = true := by rw [Rw.plainKeys]; rfl
theorem g3 : (Rows.testTurnsRow.lifted == Try.prog.liftsFinal) = true := by rw [Rw.lifts]; rfl
theorem g4 : (Try.prog.make == some Rows.testTurnsRow.make) = true := by rw [Rw.make]; rfl
theorem closed : joinedFacts Try.prog 16 Try.f16 Rows.testTurnsSpec Rows.testTurnsRow = true := by
  unfold joinedFacts
  simp only [Rw.laid, Rw.maps, Rw.stopsHeard, Rw.mayEnter, g0, g1, g2, g3, g4, k0, k1, k2, k3, k4, k5, k6, k7, k8, k9, k10, k11, k12, k13, k14, k15, k16, k17, k18, k19, k20, k21, Bool.and_true]
  kernel_rfl
theorem named : Try.prog.funcNamed Rows.testTurnsRow.func = some 16 := by kernel_rfl
theorem inst : Try.f16.isInstance Try.prog Rows.testTurnsRow.origin Rows.testTurnsRow.targs := of_decide_eq_true (by kernel_rfl)
theorem wrap : Try.f16.isWrapper Try.prog Rows.testTurnsRow.wrapper Rows.testTurnsRow.mainSum := by
  unfold Func.isWrapper
  rw [if_neg (by decide +kernel)]
  exact ⟨rfl, rfl⟩
theorem over : Rows.testTurnsRow.holds Try.pinned (OpenSpec.ofChange Rows.testTurnsSpec) :=
  OpenClaim.holds_of_wide 16 Try.f16 rfl rfl rfl rfl rfl rfl rfl ⟨rfl, rfl, rfl, rfl, rfl⟩ rfl rfl rfl rfl rfl named Try.func16 closed inst wrap
    (fun os started H enc _ => lifted os started H enc)
theorem proved : Rows.TestTurnsSaid := over
#print axioms proved
end Go.Proofs.Ytamjcdfjkekdjaa.testTurns
namespace Go.Proofs.Ytamjcdfjkekdjaa
/-- The row, under a short name, for the claim. -/
theorem testTurns_holds : Rows.TestTurnsSaid := testTurns.proved
end Go.Proofs.Ytamjcdfjkekdjaa
