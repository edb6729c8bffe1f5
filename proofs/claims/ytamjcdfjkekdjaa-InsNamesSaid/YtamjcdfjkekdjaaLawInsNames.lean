/- The law InsNames returns true whatever its input, and its input reads behind the call as it did before; no conditions. -/
import Derived.Test.YtamjcdfjkekdjaaInsNamesWalk
import Derived.Test.YtamjcdfjkekdjaaRowing
import Derived.Test.YtamjcdfjkekdjaaShapes
set_option linter.unusedSimpArgs false
set_option linter.unusedVariables false
set_option autoImplicit false
set_option linter.constructorNameAsVariable false
namespace Go.Proofs.Ytamjcdfjkekdjaa.insNames
open Go.ChangeShapes Go.WideShapes Go.ChangeAt Go.RowKit Go.Eng
theorem law (av : List AV) (h : ShapeAll Try.prog 4 Try.f11.params.toList av) : SC Try.prog 11 av (B true) := by
  rw [Try.params11] at h
  obtain ⟨a, _, rfl, h0, b, _, rfl, h1, rfl⟩ := h
  obtain ⟨u, rfl, wu⟩ := sa_int Try.underlying3 (by simp) h0
  obtain ⟨v, rfl, wv⟩ := sa_int Try.underlying3 (by simp) h1
  exact law_InsNames
set_option maxRecDepth 100000 in
theorem lifted (os : Os) (started : os.Started) (H : Type) (enc : TypeId × Value → H) :
    ReturnsInHanded {} Try.checked os 11 .any (Rows.insNamesSpec.pre6 enc Try.prog Try.f11 Rows.insNamesRow.domain false) (Rows.insNamesSpec.post enc Try.prog Try.f11 false true false false) := by
  refine law_lifted (C := Try.checked) 4 Rw.own started (by kernel_rfl) Try.func11
    (ChangeSpec.witness6 (enc := enc) (C := Try.checked) false ⟨#[], #[.int .i64 0, .int .i64 0], []⟩ 8 (by kernel_rfl) (by kernel_rfl) (by kernel_rfl) (by kernel_rfl))
    Rw.laid (by kernel_rfl) rfl rfl Try.underlying4 ?_ law
  intro ds hl
  rw [Try.params11] at hl
  match ds, hl with
  | [d1, d2], _ => rfl
theorem k0 : (Rows.insNamesRow.wf (OpenSpec.ofChange Rows.insNamesSpec)) = true := by kernel_rfl
theorem k1 : (Try.f11.params.all (Try.prog.readableRec ·)) = true := by kernel_rfl
theorem k2 : (namedTie Try.prog Rows.insNamesRow.named Rows.insNamesSpec.vars) = true := by kernel_rfl
theorem k3 : ((Rows.insNamesRow.stops == [])) = true := by kernel_rfl
theorem k4 : ((Rows.insNamesRow.knobs == [])) = true := by kernel_rfl
theorem k5 : ((Rows.insNamesRow.inPlace == Try.prog.inPlace 11)) = true := by kernel_rfl
theorem k6 : ((Rows.insNamesRow.unfollowed == Try.prog.unfollowed 11)) = true := by kernel_rfl
theorem k7 : ((Rows.insNamesRow.recurses == Try.prog.recurses 11)) = true := by kernel_rfl
theorem k8 : ((Rows.insNamesRow.named == Try.prog.varsNamed 11)) = true := by kernel_rfl
theorem k9 : ((Rows.insNamesRow.maps == (Try.f11.params.toList ++ Rows.insNamesSpec.plain.varTypes Try.prog).any (Try.prog.mapsRec ·))) = true := by kernel_rfl
theorem k10 : ((Rows.insNamesRow.ifaces == (Try.f11.params.toList ++ Rows.insNamesSpec.plain.varTypes Try.prog).any (Try.prog.ifacesRec ·))) = true := by kernel_rfl
theorem k11 : ((Rows.insNamesRow.mapsOut == Try.prog.mapsAmong Try.f11.resultTypes.toList)) = true := by kernel_rfl
theorem k12 : ((Rows.insNamesRow.loops == (Try.f11.params.toList ++ Rows.insNamesSpec.plain.varTypes Try.prog).any (Try.prog.loopsFrom ·))) = true := by kernel_rfl
theorem k13 : ((Rows.insNamesRow.wideKeys == (Try.f11.params.toList ++ Rows.insNamesSpec.plain.varTypes Try.prog ++ Try.f11.resultTypes.toList).any (Try.prog.wideKeysFrom ·))) = true := by kernel_rfl
theorem k14 : (Rows.insNamesSpec.vars.all (Try.prog.varReadable ·)) = true := by kernel_rfl
theorem k15 : (Try.f11.resultTypes.all (fun t => Try.prog.readableRec t && decide (t < Try.prog.types.size))) = true := by kernel_rfl
theorem k16 : ((Rows.insNamesRow.ifacesOut == Try.f11.resultTypes.toList.any (Try.prog.ifacesRec ·))) = true := by kernel_rfl
theorem k17 : ((Rows.insNamesRow.loopsOut == Try.f11.resultTypes.toList.any (Try.prog.loopsFrom ·))) = true := by kernel_rfl
theorem k18 : (Rows.insNamesRow.shortTexts.isNone) = true := by kernel_rfl
theorem k19 : ((Rows.insNamesRow.pinned == Rows.insNamesRow.pinnedBy)) = true := by kernel_rfl
theorem k20 : ((Rows.insNamesRow.veiled == (Try.f11.params.toList ++ Rows.insNamesSpec.plain.varTypes Try.prog ++ Try.f11.resultTypes.toList).any (Try.prog.veiledRec ·))) = true := by kernel_rfl
theorem k21 : (Rows.insNamesRow.veiledFits Try.prog Try.f11.params.toList (Try.f11.params.toList ++ Rows.insNamesSpec.plain.varTypes Try.prog ++ Try.f11.resultTypes.toList)) = true := by kernel_rfl
theorem g0 : (Try.prog.stops == []) = true := by rw [Rw.stops]; rfl
theorem g1 : (Try.prog.stopKnobs == []) = true := by rw [Rw.stopKnobs]; rfl
theorem g2 : (Rows.insNamesRow.plainKeys == Try.prog.plainKeys) = true := by rw [Rw.plainKeys]; rfl
theorem g3 : (Rows.insNamesRow.lifted == Try.prog.liftsFinal) = true := by rw [Rw.lifts]; rfl
theorem g4 : (Try.prog.make == some Rows.insNamesRow.make) = true := by rw [Rw.make]; rfl
theorem closed : joinedFacts Try.prog 11 Try.f11 Rows.insNamesSpec Rows.insNamesRow = true := by
  unfold joinedFacts
  simp only [Rw.laid, Rw.maps, Rw.stopsHeard, Rw.mayEnter, g0, g1, g2, g3, g4, k0, k1, k2, k3, k4, k5, k6, k7, k8, k9, k10, k11, k12, k13, k14, k15, k16, k17, k18, k19, k20, k21, Bool.and_true]
  kernel_rfl
theorem named : Try.prog.funcNamed Rows.insNamesRow.func = some 11 := by kernel_rfl
theorem inst : Try.f11.isInstance Try.prog Rows.insNamesRow.origin Rows.insNamesRow.targs := of_decide_eq_true (by kernel_rfl)
theorem wrap : Try.f11.isWrapper Try.prog Rows.insNamesRow.wrapper Rows.insNamesRow.mainSum := by
  unfold Func.isWrapper
  rw [if_neg (by decide +kernel)]
  exact ⟨rfl, rfl⟩
theorem over : Rows.insNamesRow.holds Try.pinned (OpenSpec.ofChange Rows.insNamesSpec) :=
  OpenClaim.holds_of_wide 11 Try.f11 rfl rfl rfl rfl rfl rfl rfl ⟨rfl, rfl, rfl, rfl, rfl⟩ rfl rfl rfl rfl rfl named Try.func11 closed inst wrap
    (fun os started H enc _ => lifted os started H enc)
theorem proved : Rows.InsNamesSaid := over
#print axioms proved
end Go.Proofs.Ytamjcdfjkekdjaa.insNames
namespace Go.Proofs.Ytamjcdfjkekdjaa
/-- The row, under a short name, for the claim. -/
theorem insNames_holds : Rows.InsNamesSaid := insNames.proved
end Go.Proofs.Ytamjcdfjkekdjaa
