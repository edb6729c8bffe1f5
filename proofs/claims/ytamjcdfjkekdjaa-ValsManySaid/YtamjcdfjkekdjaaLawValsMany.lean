/- The law ValsMany returns true whatever its input, and its input reads behind the call as it did before; no conditions. -/
import Derived.Test.YtamjcdfjkekdjaaValsManyWalk
import Derived.Test.YtamjcdfjkekdjaaFlowE
import Derived.Test.YtamjcdfjkekdjaaKitRow
set_option linter.unusedSimpArgs false
set_option linter.unusedVariables false
set_option autoImplicit false
set_option linter.constructorNameAsVariable false
namespace Go.Proofs.Ytamjcdfjkekdjaa.valsMany
open Go.ChangeShapes Go.WideShapes Go.ChangeAt Go.RowKit Go.Eng
theorem law (av : List AV) (h : ShapeAll Try.prog 8 Try.f27.params.toList av) : SC Try.prog 27 av (B true) := by
  rw [Try.params27] at h
  obtain ⟨a, _, rfl, h0, b, _, rfl, h1, c, _, rfl, h2, rfl⟩ := h
  obtain ⟨th, rfl, hl, hth⟩ := sa_thread h0
  obtain ⟨vals, rfl, hvl, hvw⟩ := sa_nums h1
  obtain ⟨n, rfl, hnw⟩ := sa_int Try.underlying2 (by simp) h2
  exact law_ValsMany hth hvw hnw
set_option maxRecDepth 100000 in
theorem lifted (os : Os) (started : os.Started) (H : Type) (enc : TypeId × Value → H) :
    ReturnsInHanded {} Try.checked os 27 .any (Rows.valsManySpec.pre6 enc Try.prog Try.f27 Rows.valsManyRow.domain false) (Rows.valsManySpec.post enc Try.prog Try.f27 false true false false) := by
  refine law_lifted (C := Try.checked) 8 Rw.own started (by kernel_rfl) Try.func27
    (ChangeSpec.witness6 (enc := enc) (C := Try.checked) false ⟨#[], #[.slice none 0 0, .slice none 0 0, .int .i64 0], []⟩ 8 (by kernel_rfl) (by kernel_rfl) (by kernel_rfl) (by kernel_rfl))
    Rw.laid (by kernel_rfl) rfl rfl Try.underlying4 ?_ law
  intro ds hl
  rw [Try.params27] at hl
  match ds, hl with
  | [d1, d2, d3], _ => rfl
theorem k0 : (Rows.valsManyRow.wf (OpenSpec.ofChange Rows.valsManySpec)) = true := by kernel_rfl
theorem k1 : (Try.f27.params.all (Try.prog.readableRec ·)) = true := by kernel_rfl
theorem k2 : (namedTie Try.prog Rows.valsManyRow.named Rows.valsManySpec.vars) = true := by kernel_rfl
theorem k3 : ((Rows.valsManyRow.stops == [])) = true := by kernel_rfl
theorem k4 : ((Rows.valsManyRow.knobs == [])) = true := by kernel_rfl
theorem k5 : ((Rows.valsManyRow.inPlace == Try.prog.inPlace 27)) = true := by kernel_rfl
theorem k6 : ((Rows.valsManyRow.unfollowed == Try.prog.unfollowed 27)) = true := by kernel_rfl
theorem k7 : ((Rows.valsManyRow.recurses == Try.prog.recurses 27)) = true := by kernel_rfl
theorem k8 : ((Rows.valsManyRow.named == Try.prog.varsNamed 27)) = true := by kernel_rfl
theorem k9 : ((Rows.valsManyRow.maps == (Try.f27.params.toList ++ Rows.valsManySpec.plain.varTypes Try.prog).any (Try.prog.mapsRec ·))) = true := by kernel_rfl
theorem k10 : ((Rows.valsManyRow.ifaces == (Try.f27.params.toList ++ Rows.valsManySpec.plain.varTypes Try.prog).any (Try.prog.ifacesRec ·))) = true := by kernel_rfl
theorem k11 : ((Rows.valsManyRow.mapsOut == Try.prog.mapsAmong Try.f27.resultTypes.toList)) = true := by kernel_rfl
theorem k12 : ((Rows.valsManyRow.loops == (Try.f27.params.toList ++ Rows.valsManySpec.plain.varTypes Try.prog).any (Try.prog.loopsFrom ·))) = true := by kernel_rfl
theorem k13 : ((Rows.valsManyRow.wideKeys == (Try.f27.params.toList ++ Rows.valsManySpec.plain.varTypes Try.prog ++ Try.f27.resultTypes.toList).any (Try.prog.wideKeysFrom ·))) = true := by kernel_rfl
theorem k14 : (Rows.valsManySpec.vars.all (Try.prog.varReadable ·)) = true := by kernel_rfl
theorem k15 : (Try.f27.resultTypes.all (fun t => Try.prog.readableRec t && decide (t < Try.prog.types.size))) = true := by kernel_rfl
theorem k16 : ((Rows.valsManyRow.ifacesOut == Try.f27.resultTypes.toList.any (Try.prog.ifacesRec ·))) = true := by kernel_rfl
theorem k17 : ((Rows.valsManyRow.loopsOut == Try.f27.resultTypes.toList.any (Try.prog.loopsFrom ·))) = true := by kernel_rfl
theorem k18 : (Rows.valsManyRow.shortTexts.isNone) = true := by kernel_rfl
theorem k19 : ((Rows.valsManyRow.pinned == Rows.valsManyRow.pinnedBy)) = true := by kernel_rfl
theorem k20 : ((Rows.valsManyRow.veiled == (Try.f27.params.toList ++ Rows.valsManySpec.plain.varTypes Try.prog ++ Try.f27.resultTypes.toList).any (Try.prog.veiledRec ·))) = true := by kernel_rfl
theorem k21 : (Rows.valsManyRow.veiledFits Try.prog Try.f27.params.toList (Try.f27.params.toList ++ Rows.valsManySpec.plain.varTypes Try.prog ++ Try.f27.resultTypes.toList)) = true := by kernel_rfl
theorem g0 : (Try.prog.stops == []) = true := by rw [Rw.stops]; rfl
theorem g1 : (Try.prog.stopKnobs == []) = true := by rw [Rw.stopKnobs]; rfl
theorem g2 : (Rows.valsManyRow.plainKeys == Try.prog.plainKeys) = true := by rw [Rw.plainKeys]; rfl
theorem g3 : (Rows.valsManyRow.lifted == Try.prog.liftsFinal) = true := by rw [Rw.lifts]; rfl
theorem g4 : (Try.prog.make == some Rows.valsManyRow.make) = true := by rw [Rw.make]; rfl
theorem closed : joinedFacts Try.prog 27 Try.f27 Rows.valsManySpec Rows.valsManyRow = true := by
  unfold joinedFacts
  simp only [Rw.laid, Rw.maps, Rw.stopsHeard, Rw.mayEnter, g0, g1, g2, g3, g4, k0, k1, k2, k3, k4, k5, k6, k7, k8, k9, k10, k11, k12, k13, k14, k15, k16, k17, k18, k19, k20, k21, Bool.and_true]
  kernel_rfl
theorem named : Try.prog.funcNamed Rows.valsManyRow.func = some 27 := by kernel_rfl
theorem inst : Try.f27.isInstance Try.prog Rows.valsManyRow.origin Rows.valsManyRow.targs := of_decide_eq_true (by kernel_rfl)
theorem wrap : Try.f27.isWrapper Try.prog Rows.valsManyRow.wrapper Rows.valsManyRow.mainSum := by
  unfold Func.isWrapper
  rw [if_neg (by decide +kernel)]
  exact ⟨rfl, rfl⟩
theorem over : Rows.valsManyRow.holds Try.pinned (OpenSpec.ofChange Rows.valsManySpec) :=
  OpenClaim.holds_of_wide 27 Try.f27 rfl rfl rfl rfl rfl rfl rfl ⟨rfl, rfl, rfl, rfl, rfl⟩ rfl rfl rfl rfl rfl named Try.func27 closed inst wrap
    (fun os started H enc _ => lifted os started H enc)
theorem proved : Rows.ValsManySaid := over
#print axioms proved
end Go.Proofs.Ytamjcdfjkekdjaa.valsMany
namespace Go.Proofs.Ytamjcdfjkekdjaa
/-- The row, under a short name, for the claim. -/
theorem valsMany_holds : Rows.ValsManySaid := valsMany.proved
end Go.Proofs.Ytamjcdfjkekdjaa
