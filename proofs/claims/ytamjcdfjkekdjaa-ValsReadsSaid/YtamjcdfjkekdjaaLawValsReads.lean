/- The law ValsReads returns true whatever its input, and its input reads behind the call as it did before; no conditions. -/
import Derived.Test.YtamjcdfjkekdjaaValsReadsWalk
import Derived.Test.YtamjcdfjkekdjaaFlowE
import Derived.Test.YtamjcdfjkekdjaaKitRow
set_option linter.unusedSimpArgs false
set_option linter.unusedVariables false
set_option autoImplicit false
set_option linter.constructorNameAsVariable false
namespace Go.Proofs.Ytamjcdfjkekdjaa.valsReads
open Go.ChangeShapes Go.WideShapes Go.ChangeAt Go.RowKit Go.Eng
theorem law (av : List AV) (h : ShapeAll Try.prog 8 Try.f28.params.toList av) : SC Try.prog 28 av (B true) := by
  rw [Try.params28] at h
  obtain ⟨a, _, rfl, h0, b, _, rfl, h1, rfl⟩ := h
  obtain ⟨th, rfl, hl, hth⟩ := sa_thread h0
  obtain ⟨vals, rfl, hvl, hvw⟩ := sa_nums h1
  exact law_ValsReads hth hvw
set_option maxRecDepth 100000 in
theorem lifted (os : Os) (started : os.Started) (H : Type) (enc : TypeId × Value → H) :
    ReturnsInHanded {} Try.checked os 28 .any (Rows.valsReadsSpec.pre6 enc Try.prog Try.f28 Rows.valsReadsRow.domain false) (Rows.valsReadsSpec.post enc Try.prog Try.f28 false true false false) := by
  refine law_lifted (C := Try.checked) 8 Rw.own started (by kernel_rfl) Try.func28
    (ChangeSpec.witness6 (enc := enc) (C := Try.checked) false ⟨#[], #[.slice none 0 0, .slice none 0 0], []⟩ 8 (by kernel_rfl) (by kernel_rfl) (by kernel_rfl) (by kernel_rfl))
    Rw.laid (by kernel_rfl) rfl rfl Try.underlying4 ?_ law
  intro ds hl
  rw [Try.params28] at hl
  match ds, hl with
  | [d1, d2], _ => rfl
theorem k0 : (Rows.valsReadsRow.wf (OpenSpec.ofChange Rows.valsReadsSpec)) = true := by kernel_rfl
theorem k1 : (Try.f28.params.all (Try.prog.readableRec ·)) = true := by kernel_rfl
theorem k2 : (namedTie Try.prog Rows.valsReadsRow.named Rows.valsReadsSpec.vars) = true := by kernel_rfl
theorem k3 : ((Rows.valsReadsRow.stops == [])) = true := by kernel_rfl
theorem k4 : ((Rows.valsReadsRow.knobs == [])) = true := by kernel_rfl
theorem k5 : ((Rows.valsReadsRow.inPlace == Try.prog.inPlace 28)) = true := by kernel_rfl
theorem k6 : ((Rows.valsReadsRow.unfollowed == Try.prog.unfollowed 28)) = true := by kernel_rfl
theorem k7 : ((Rows.valsReadsRow.recurses == Try.prog.recurses 28)) = true := by kernel_rfl
theorem k8 : ((Rows.valsReadsRow.named == Try.prog.varsNamed 28)) = true := by kernel_rfl
theorem k9 : ((Rows.valsReadsRow.maps == (Try.f28.params.toList ++ Rows.valsReadsSpec.plain.varTypes Try.prog).any (Try.prog.mapsRec ·))) = true := by kernel_rfl
theorem k10 : ((Rows.valsReadsRow.ifaces == (Try.f28.params.toList ++ Rows.valsReadsSpec.plain.varTypes Try.prog).any (Try.prog.ifacesRec ·))) = true := by kernel_rfl
theorem k11 : ((Rows.valsReadsRow.mapsOut == Try.prog.mapsAmong Try.f28.resultTypes.toList)) = true := by kernel_rfl
theorem k12 : ((Rows.valsReadsRow.loops == (Try.f28.params.toList ++ Rows.valsReadsSpec.plain.varTypes Try.prog).any (Try.prog.loopsFrom ·))) = true := by kernel_rfl
theorem k13 : ((Rows.valsReadsRow.wideKeys == (Try.f28.params.toList ++ Rows.valsReadsSpec.plain.varTypes Try.prog ++ Try.f28.resultTypes.toList).any (Try.prog.wideKeysFrom ·))) = true := by kernel_rfl
theorem k14 : (Rows.valsReadsSpec.vars.all (Try.prog.varReadable ·)) = true := by kernel_rfl
theorem k15 : (Try.f28.resultTypes.all (fun t => Try.prog.readableRec t && decide (t < Try.prog.types.size))) = true := by kernel_rfl
theorem k16 : ((Rows.valsReadsRow.ifacesOut == Try.f28.resultTypes.toList.any (Try.prog.ifacesRec ·))) = true := by kernel_rfl
theorem k17 : ((Rows.valsReadsRow.loopsOut == Try.f28.resultTypes.toList.any (Try.prog.loopsFrom ·))) = true := by kernel_rfl
theorem k18 : (Rows.valsReadsRow.shortTexts.isNone) = true := by kernel_rfl
theorem k19 : ((Rows.valsReadsRow.pinned == Rows.valsReadsRow.pinnedBy)) = true := by kernel_rfl
theorem k20 : ((Rows.valsReadsRow.veiled == (Try.f28.params.toList ++ Rows.valsReadsSpec.plain.varTypes Try.prog ++ Try.f28.resultTypes.toList).any (Try.prog.veiledRec ·))) = true := by kernel_rfl
theorem k21 : (Rows.valsReadsRow.veiledFits Try.prog Try.f28.params.toList (Try.f28.params.toList ++ Rows.valsReadsSpec.plain.varTypes Try.prog ++ Try.f28.resultTypes.toList)) = true := by kernel_rfl
theorem g0 : (Try.prog.stops == []) = true := by rw [Rw.stops]; rfl
theorem g1 : (Try.prog.stopKnobs == []) = true := by rw [Rw.stopKnobs]; rfl
theorem g2 : (Rows.valsReadsRow.plainKeys == Try.prog.plainKeys) = true := by rw [Rw.plainKeys]; rfl
theorem g3 : (Rows.valsReadsRow.lifted == Try.prog.liftsFinal) = true := by rw [Rw.lifts]; rfl
theorem g4 : (Try.prog.make == some Rows.valsReadsRow.make) = true := by rw [Rw.make]; rfl
theorem closed : joinedFacts Try.prog 28 Try.f28 Rows.valsReadsSpec Rows.valsReadsRow = true := by
  unfold joinedFacts
  simp only [Rw.laid, Rw.maps, Rw.stopsHeard, Rw.mayEnter, g0, g1, g2, g3, g4, k0, k1, k2, k3, k4, k5, k6, k7, k8, k9, k10, k11, k12, k13, k14, k15, k16, k17, k18, k19, k20, k21, Bool.and_true]
  kernel_rfl
theorem named : Try.prog.funcNamed Rows.valsReadsRow.func = some 28 := by kernel_rfl
theorem inst : Try.f28.isInstance Try.prog Rows.valsReadsRow.origin Rows.valsReadsRow.targs := of_decide_eq_true (by kernel_rfl)
theorem wrap : Try.f28.isWrapper Try.prog Rows.valsReadsRow.wrapper Rows.valsReadsRow.mainSum := by
  unfold Func.isWrapper
  rw [if_neg (by decide +kernel)]
  exact ⟨rfl, rfl⟩
theorem over : Rows.valsReadsRow.holds Try.pinned (OpenSpec.ofChange Rows.valsReadsSpec) :=
  OpenClaim.holds_of_wide 28 Try.f28 rfl rfl rfl rfl rfl rfl rfl ⟨rfl, rfl, rfl, rfl, rfl⟩ rfl rfl rfl rfl rfl named Try.func28 closed inst wrap
    (fun os started H enc _ => lifted os started H enc)
theorem proved : Rows.ValsReadsSaid := over
#print axioms proved
end Go.Proofs.Ytamjcdfjkekdjaa.valsReads
namespace Go.Proofs.Ytamjcdfjkekdjaa
/-- The row, under a short name, for the claim. -/
theorem valsReads_holds : Rows.ValsReadsSaid := valsReads.proved
end Go.Proofs.Ytamjcdfjkekdjaa
