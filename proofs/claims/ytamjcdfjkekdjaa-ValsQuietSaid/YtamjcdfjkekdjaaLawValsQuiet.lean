/- The law ValsQuiet returns true whatever its input, and its input reads behind the call as it did before; no conditions. -/
import Derived.Test.YtamjcdfjkekdjaaValsQuietWalk
import Derived.Test.YtamjcdfjkekdjaaTestD
import Derived.Test.YtamjcdfjkekdjaaKitRow
set_option linter.unusedSimpArgs false
set_option linter.unusedVariables false
set_option autoImplicit false
set_option linter.constructorNameAsVariable false
namespace Go.Proofs.Ytamjcdfjkekdjaa.valsQuiet
open Go.ChangeShapes Go.WideShapes Go.ChangeAt Go.RowKit Go.Eng
theorem law (av : List AV) (h : ShapeAll Try.prog 8 Try.f30.params.toList av) : SC Try.prog 30 av (B true) := by
  rw [Try.params30] at h
  obtain ⟨a, _, rfl, h0, rfl⟩ := h
  obtain ⟨i, t, rfl, hi, ht, hw⟩ := sa_test h0
  exact law_ValsQuiet (fun th h => (hw th h).2)
set_option maxRecDepth 100000 in
theorem lifted (os : Os) (started : os.Started) (H : Type) (enc : TypeId × Value → H) :
    ReturnsInHanded {} Try.checked os 30 .any (Rows.valsQuietSpec.pre6 enc Try.prog Try.f30 Rows.valsQuietRow.domain false) (Rows.valsQuietSpec.post enc Try.prog Try.f30 false true false false) := by
  refine law_lifted (C := Try.checked) 8 Rw.own started (by kernel_rfl) Try.func30
    (ChangeSpec.witness6 (enc := enc) (C := Try.checked) false ⟨#[], #[.agg #[.slice none 0 0, .slice none 0 0]], []⟩ 8 (by kernel_rfl) (by kernel_rfl) (by kernel_rfl) (by kernel_rfl))
    Rw.laid (by kernel_rfl) rfl rfl Try.underlying4 ?_ law
  intro ds hl
  rw [Try.params30] at hl
  match ds, hl with
  | [d1], _ => rfl
theorem k0 : (Rows.valsQuietRow.wf (OpenSpec.ofChange Rows.valsQuietSpec)) = true := by kernel_rfl
theorem k1 : (Try.f30.params.all (Try.prog.readableRec ·)) = true := by kernel_rfl
theorem k2 : (namedTie Try.prog Rows.valsQuietRow.named Rows.valsQuietSpec.vars) = true := by kernel_rfl
theorem k3 : ((Rows.valsQuietRow.stops == [])) = true := by kernel_rfl
theorem k4 : ((Rows.valsQuietRow.knobs == [])) = true := by kernel_rfl
theorem k5 : ((Rows.valsQuietRow.inPlace == Try.prog.inPlace 30)) = true := by kernel_rfl
theorem k6 : ((Rows.valsQuietRow.unfollowed == Try.prog.unfollowed 30)) = true := by kernel_rfl
theorem k7 : ((Rows.valsQuietRow.recurses == Try.prog.recurses 30)) = true := by kernel_rfl
theorem k8 : ((Rows.valsQuietRow.named == Try.prog.varsNamed 30)) = true := by kernel_rfl
theorem k9 : ((Rows.valsQuietRow.maps == (Try.f30.params.toList ++ Rows.valsQuietSpec.plain.varTypes Try.prog).any (Try.prog.mapsRec ·))) = true := by kernel_rfl
theorem k10 : ((Rows.valsQuietRow.ifaces == (Try.f30.params.toList ++ Rows.valsQuietSpec.plain.varTypes Try.prog).any (Try.prog.ifacesRec ·))) = true := by kernel_rfl
theorem k11 : ((Rows.valsQuietRow.mapsOut == Try.prog.mapsAmong Try.f30.resultTypes.toList)) = true := by kernel_rfl
theorem k12 : ((Rows.valsQuietRow.loops == (Try.f30.params.toList ++ Rows.valsQuietSpec.plain.varTypes Try.prog).any (Try.prog.loopsFrom ·))) = true := by kernel_rfl
theorem k13 : ((Rows.valsQuietRow.wideKeys == (Try.f30.params.toList ++ Rows.valsQuietSpec.plain.varTypes Try.prog ++ Try.f30.resultTypes.toList).any (Try.prog.wideKeysFrom ·))) = true := by kernel_rfl
theorem k14 : (Rows.valsQuietSpec.vars.all (Try.prog.varReadable ·)) = true := by kernel_rfl
theorem k15 : (Try.f30.resultTypes.all (fun t => Try.prog.readableRec t && decide (t < Try.prog.types.size))) = true := by kernel_rfl
theorem k16 : ((Rows.valsQuietRow.ifacesOut == Try.f30.resultTypes.toList.any (Try.prog.ifacesRec ·))) = true := by kernel_rfl
theorem k17 : ((Rows.valsQuietRow.loopsOut == Try.f30.resultTypes.toList.any (Try.prog.loopsFrom ·))) = true := by kernel_rfl
theorem k18 : (Rows.valsQuietRow.shortTexts.isNone) = true := by kernel_rfl
theorem k19 : ((Rows.valsQuietRow.pinned == Rows.valsQuietRow.pinnedBy)) = true := by kernel_rfl
theorem k20 : ((Rows.valsQuietRow.veiled == (Try.f30.params.toList ++ Rows.valsQuietSpec.plain.varTypes Try.prog ++ Try.f30.resultTypes.toList).any (Try.prog.veiledRec ·))) = true := by kernel_rfl
theorem k21 : (Rows.valsQuietRow.veiledFits Try.prog Try.f30.params.toList (Try.f30.params.toList ++ Rows.valsQuietSpec.plain.varTypes Try.prog ++ Try.f30.resultTypes.toList)) = true := by kernel_rfl
theorem g0 : (Try.prog.stops == []) = true := by rw [Rw.stops]; rfl
theorem g1 : (Try.prog.stopKnobs == []) = true := by rw [Rw.stopKnobs]; rfl
theorem g2 : (Rows.valsQuietRow.plainKeys == Try.prog.plainKeys) = true := by rw [Rw.plainKeys]; rfl
theorem g3 : (Rows.valsQuietRow.lifted == Try.prog.liftsFinal) = true := by rw [Rw.lifts]; rfl
theorem g4 : (Try.prog.make == some Rows.valsQuietRow.make) = true := by rw [Rw.make]; rfl
theorem closed : joinedFacts Try.prog 30 Try.f30 Rows.valsQuietSpec Rows.valsQuietRow = true := by
  unfold joinedFacts
  simp only [Rw.laid, Rw.maps, Rw.stopsHeard, Rw.mayEnter, g0, g1, g2, g3, g4, k0, k1, k2, k3, k4, k5, k6, k7, k8, k9, k10, k11, k12, k13, k14, k15, k16, k17, k18, k19, k20, k21, Bool.and_true]
  kernel_rfl
theorem named : Try.prog.funcNamed Rows.valsQuietRow.func = some 30 := by kernel_rfl
theorem inst : Try.f30.isInstance Try.prog Rows.valsQuietRow.origin Rows.valsQuietRow.targs := of_decide_eq_true (by kernel_rfl)
theorem wrap : Try.f30.isWrapper Try.prog Rows.valsQuietRow.wrapper Rows.valsQuietRow.mainSum := by
  unfold Func.isWrapper
  rw [if_neg (by decide +kernel)]
  exact ⟨rfl, rfl⟩
theorem over : Rows.valsQuietRow.holds Try.pinned (OpenSpec.ofChange Rows.valsQuietSpec) :=
  OpenClaim.holds_of_wide 30 Try.f30 rfl rfl rfl rfl rfl rfl rfl ⟨rfl, rfl, rfl, rfl, rfl⟩ rfl rfl rfl rfl rfl named Try.func30 closed inst wrap
    (fun os started H enc _ => lifted os started H enc)
theorem proved : Rows.ValsQuietSaid := over
#print axioms proved
end Go.Proofs.Ytamjcdfjkekdjaa.valsQuiet
namespace Go.Proofs.Ytamjcdfjkekdjaa
/-- The row, under a short name, for the claim. -/
theorem valsQuiet_holds : Rows.ValsQuietSaid := valsQuiet.proved
end Go.Proofs.Ytamjcdfjkekdjaa
