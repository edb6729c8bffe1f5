/- The law ValsTraces returns true whatever its input, and its input reads behind the call as it did before; no conditions. -/
import Derived.Test.YtamjcdfjkekdjaaValsTracesWalk
import Derived.Test.YtamjcdfjkekdjaaFlowE
import Derived.Test.YtamjcdfjkekdjaaKitRow
set_option linter.unusedSimpArgs false
set_option linter.unusedVariables false
set_option autoImplicit false
set_option linter.constructorNameAsVariable false
namespace Go.Proofs.Ytamjcdfjkekdjaa.valsTraces
open Go.ChangeShapes Go.WideShapes Go.ChangeAt Go.RowKit Go.Eng
theorem law (av : List AV) (h : ShapeAll Try.prog 8 Try.f25.params.toList av) : SC Try.prog 25 av (B true) := by
  rw [Try.params25] at h
  obtain ⟨a, _, rfl, h0, b, _, rfl, h1, c, _, rfl, h2, rfl⟩ := h
  obtain ⟨th, rfl, hl, hth⟩ := sa_thread h0
  obtain ⟨locs, rfl, hlw⟩ := sa_int Try.underlying3 (by simp) h1
  obtain ⟨vals, rfl, hvl, hvw⟩ := sa_nums h2
  exact law_ValsTraces hth hlw hvw
set_option maxRecDepth 100000 in
theorem lifted (os : Os) (started : os.Started) (H : Type) (enc : TypeId × Value → H) :
    ReturnsInHanded {} Try.checked os 25 .any (Rows.valsTracesSpec.pre6 enc Try.prog Try.f25 Rows.valsTracesRow.domain false) (Rows.valsTracesSpec.post enc Try.prog Try.f25 false true false false) := by
  refine law_lifted (C := Try.checked) 8 Rw.own started (by kernel_rfl) Try.func25
    (ChangeSpec.witness6 (enc := enc) (C := Try.checked) false ⟨#[], #[.slice none 0 0, .int .i64 0, .slice none 0 0], []⟩ 8 (by kernel_rfl) (by kernel_rfl) (by kernel_rfl) (by kernel_rfl))
    Rw.laid (by kernel_rfl) rfl rfl Try.underlying4 ?_ law
  intro ds hl
  rw [Try.params25] at hl
  match ds, hl with
  | [d1, d2, d3], _ => rfl
theorem k0 : (Rows.valsTracesRow.wf (OpenSpec.ofChange Rows.valsTracesSpec)) = true := by kernel_rfl
theorem k1 : (Try.f25.params.all (Try.prog.readableRec ·)) = true := by kernel_rfl
theorem k2 : (namedTie Try.prog Rows.valsTracesRow.named Rows.valsTracesSpec.vars) = true := by kernel_rfl
theorem k3 : ((Rows.valsTracesRow.stops == [])) = true := by kernel_rfl
theorem k4 : ((Rows.valsTracesRow.knobs == [])) = true := by kernel_rfl
theorem k5 : ((Rows.valsTracesRow.inPlace == Try.prog.inPlace 25)) = true := by kernel_rfl
theorem k6 : ((Rows.valsTracesRow.unfollowed == Try.prog.unfollowed 25)) = true := by kernel_rfl
theorem k7 : ((Rows.valsTracesRow.recurses == Try.prog.recurses 25)) = true := by kernel_rfl
theorem k8 : ((Rows.valsTracesRow.named == Try.prog.varsNamed 25)) = true := by kernel_rfl
theorem k9 : ((Rows.valsTracesRow.maps == (Try.f25.params.toList ++ Rows.valsTracesSpec.plain.varTypes Try.prog).any (Try.prog.mapsRec ·))) = true := by kernel_rfl
theorem k10 : ((Rows.valsTracesRow.ifaces == (Try.f25.params.toList ++ Rows.valsTracesSpec.plain.varTypes Try.prog).any (Try.prog.ifacesRec ·))) = true := by kernel_rfl
theorem k11 : ((Rows.valsTracesRow.mapsOut == Try.prog.mapsAmong Try.f25.resultTypes.toList)) = true := by kernel_rfl
theorem k12 : ((Rows.valsTracesRow.loops == (Try.f25.params.toList ++ Rows.valsTracesSpec.plain.varTypes Try.prog).any (Try.prog.loopsFrom ·))) = true := by kernel_rfl
theorem k13 : ((Rows.valsTracesRow.wideKeys == (Try.f25.params.toList ++ Rows.valsTracesSpec.plain.varTypes Try.prog ++ Try.f25.resultTypes.toList).any (Try.prog.wideKeysFrom ·))) = true := by kernel_rfl
theorem k14 : (Rows.valsTracesSpec.vars.all (Try.prog.varReadable ·)) = true := by kernel_rfl
theorem k15 : (Try.f25.resultTypes.all (fun t => Try.prog.readableRec t && decide (t < Try.prog.types.size))) = true := by kernel_rfl
theorem k16 : ((Rows.valsTracesRow.ifacesOut == Try.f25.resultTypes.toList.any (Try.prog.ifacesRec ·))) = true := by kernel_rfl
theorem k17 : ((Rows.valsTracesRow.loopsOut == Try.f25.resultTypes.toList.any (Try.prog.loopsFrom ·))) = true := by kernel_rfl
theorem k18 : (Rows.valsTracesRow.shortTexts.isNone) = true := by kernel_rfl
theorem k19 : ((Rows.valsTracesRow.pinned == Rows.valsTracesRow.pinnedBy)) = true := by kernel_rfl
theorem k20 : ((Rows.valsTracesRow.veiled == (Try.f25.params.toList ++ Rows.valsTracesSpec.plain.varTypes Try.prog ++ Try.f25.resultTypes.toList).any (Try.prog.veiledRec ·))) = true := by kernel_rfl
theorem k21 : (Rows.valsTracesRow.veiledFits Try.prog Try.f25.params.toList (Try.f25.params.toList ++ Rows.valsTracesSpec.plain.varTypes Try.prog ++ Try.f25.resultTypes.toList)) = true := by kernel_rfl
theorem g0 : (Try.prog.stops == []) = true := by rw [Rw.stops]; rfl
theorem g1 : (Try.prog.stopKnobs == []) = true := by rw [Rw.stopKnobs]; rfl
theorem g2 : (Rows.valsTracesRow.plainKeys == Try.prog.plainKeys) = true := by rw [Rw.plainKeys]; rfl
theorem g3 : (Rows.valsTracesRow.lifted == Try.prog.liftsFinal) = true := by rw [Rw.lifts]; rfl
theorem g4 : (Try.prog.make == some Rows.valsTracesRow.make) = true := by rw [Rw.make]; rfl
theorem closed : joinedFacts Try.prog 25 Try.f25 Rows.valsTracesSpec Rows.valsTracesRow = true := by
  unfold joinedFacts
  simp only [Rw.laid, Rw.maps, Rw.stopsHeard, Rw.mayEnter, g0, g1, g2, g3, g4, k0, k1, k2, k3, k4, k5, k6, k7, k8, k9, k10, k11, k12, k13, k14, k15, k16, k17, k18, k19, k20, k21, Bool.and_true]
  kernel_rfl
theorem named : Try.prog.funcNamed Rows.valsTracesRow.func = some 25 := by kernel_rfl
theorem inst : Try.f25.isInstance Try.prog Rows.valsTracesRow.origin Rows.valsTracesRow.targs := of_decide_eq_true (by kernel_rfl)
theorem wrap : Try.f25.isWrapper Try.prog Rows.valsTracesRow.wrapper Rows.valsTracesRow.mainSum := by
  unfold Func.isWrapper
  rw [if_neg (by decide +kernel)]
  exact ⟨rfl, rfl⟩
theorem over : Rows.valsTracesRow.holds Try.pinned (OpenSpec.ofChange Rows.valsTracesSpec) :=
  OpenClaim.holds_of_wide 25 Try.f25 rfl rfl rfl rfl rfl rfl rfl ⟨rfl, rfl, rfl, rfl, rfl⟩ rfl rfl rfl rfl rfl named Try.func25 closed inst wrap
    (fun os started H enc _ => lifted os started H enc)
theorem proved : Rows.ValsTracesSaid := over
#print axioms proved
end Go.Proofs.Ytamjcdfjkekdjaa.valsTraces
namespace Go.Proofs.Ytamjcdfjkekdjaa
/-- The row, under a short name, for the claim. -/
theorem valsTraces_holds : Rows.ValsTracesSaid := valsTraces.proved
end Go.Proofs.Ytamjcdfjkekdjaa
