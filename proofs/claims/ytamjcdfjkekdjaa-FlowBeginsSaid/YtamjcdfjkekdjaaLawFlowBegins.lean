/- The law FlowBegins returns true whatever its input, and its input reads behind the call as it did before; no conditions. -/
import Derived.Test.YtamjcdfjkekdjaaFlowBeginsWalk
import Derived.Test.YtamjcdfjkekdjaaFlowE
import Derived.Test.YtamjcdfjkekdjaaKitRow
set_option linter.unusedSimpArgs false
set_option linter.unusedVariables false
set_option autoImplicit false
set_option linter.constructorNameAsVariable false
namespace Go.Proofs.Ytamjcdfjkekdjaa.flowBegins
open Go.ChangeShapes Go.WideShapes Go.ChangeAt Go.RowKit Go.Eng
theorem law (av : List AV) (h : ShapeAll Try.prog 8 Try.f24.params.toList av) : SC Try.prog 24 av (B true) := by
  rw [Try.params24] at h
  obtain ⟨a, _, rfl, h0, b, _, rfl, h1, c, _, rfl, h2, d, _, rfl, h3, rfl⟩ := h
  obtain ⟨th, rfl, hl, hth⟩ := sa_thread h0
  obtain ⟨vals, rfl, hvl, hvw⟩ := sa_nums h1
  obtain ⟨lucks, rfl, hll⟩ := sa_bools h2
  obtain ⟨cut, rfl, wcut⟩ := sa_int Try.underlying5 (by simp) h3
  exact law_FlowBegins hth hvw wcut
set_option maxRecDepth 100000 in
theorem lifted (os : Os) (started : os.Started) (H : Type) (enc : TypeId × Value → H) :
    ReturnsInHanded {} Try.checked os 24 .any (Rows.flowBeginsSpec.pre6 enc Try.prog Try.f24 Rows.flowBeginsRow.domain false) (Rows.flowBeginsSpec.post enc Try.prog Try.f24 false true false false) := by
  refine law_lifted (C := Try.checked) 8 Rw.own started (by kernel_rfl) Try.func24
    (ChangeSpec.witness6 (enc := enc) (C := Try.checked) false ⟨#[], #[.slice none 0 0, .slice none 0 0, .slice none 0 0, .int .u8 0], []⟩ 8 (by kernel_rfl) (by kernel_rfl) (by kernel_rfl) (by kernel_rfl))
    Rw.laid (by kernel_rfl) rfl rfl Try.underlying4 ?_ law
  intro ds hl
  rw [Try.params24] at hl
  match ds, hl with
  | [d1, d2, d3, d4], _ => rfl
theorem k0 : (Rows.flowBeginsRow.wf (OpenSpec.ofChange Rows.flowBeginsSpec)) = true := by kernel_rfl
theorem k1 : (Try.f24.params.all (Try.prog.readableRec ·)) = true := by kernel_rfl
theorem k2 : (namedTie Try.prog Rows.flowBeginsRow.named Rows.flowBeginsSpec.vars) = true := by kernel_rfl
theorem k3 : ((Rows.flowBeginsRow.stops == [])) = true := by kernel_rfl
theorem k4 : ((Rows.flowBeginsRow.knobs == [])) = true := by kernel_rfl
theorem k5 : ((Rows.flowBeginsRow.inPlace == Try.prog.inPlace 24)) = true := by kernel_rfl
theorem k6 : ((Rows.flowBeginsRow.unfollowed == Try.prog.unfollowed 24)) = true := by kernel_rfl
theorem k7 : ((Rows.flowBeginsRow.recurses == Try.prog.recurses 24)) = true := by kernel_rfl
theorem k8 : ((Rows.flowBeginsRow.named == Try.prog.varsNamed 24)) = true := by kernel_rfl
theorem k9 : ((Rows.flowBeginsRow.maps == (Try.f24.params.toList ++ Rows.flowBeginsSpec.plain.varTypes Try.prog).any (Try.prog.mapsRec ·))) = true := by kernel_rfl
theorem k10 : ((Rows.flowBeginsRow.ifaces == (Try.f24.params.toList ++ Rows.flowBeginsSpec.plain.varTypes Try.prog).any (Try.prog.ifacesRec ·))) = true := by kernel_rfl
theorem k11 : ((Rows.flowBeginsRow.mapsOut == Try.prog.mapsAmong Try.f24.resultTypes.toList)) = true := by kernel_rfl
theorem k12 : ((Rows.flowBeginsRow.loops == (Try.f24.params.toList ++ Rows.flowBeginsSpec.plain.varTypes Try.prog).any (Try.prog.loopsFrom ·))) = true := by kernel_rfl
theorem k13 : ((Rows.flowBeginsRow.wideKeys == (Try.f24.params.toList ++ Rows.flowBeginsSpec.plain.varTypes Try.prog ++ Try.f24.resultTypes.toList).any (Try.prog.wideKeysFrom ·))) = true := by kernel_rfl
theorem k14 : (Rows.flowBeginsSpec.vars.all (Try.prog.varReadable ·)) = true := by kernel_rfl
theorem k15 : (Try.f24.resultTypes.all (fun t => Try.prog.readableRec t && decide (t < Try.prog.types.size))) = true := by kernel_rfl
theorem k16 : ((Rows.flowBeginsRow.ifacesOut == Try.f24.resultTypes.toList.any (Try.prog.ifacesRec ·))) = true := by kernel_rfl
theorem k17 : ((Rows.flowBeginsRow.loopsOut == Try.f24.resultTypes.toList.any (Try.prog.loopsFrom ·))) = true := by kernel_rfl
theorem k18 : (Rows.flowBeginsRow.shortTexts.isNone) = true := by kernel_rfl
theorem k19 : ((Rows.flowBeginsRow.pinned == Rows.flowBeginsRow.pinnedBy)) = true := by kernel_rfl
theorem k20 : ((Rows.flowBeginsRow.veiled == (Try.f24.params.toList ++ Rows.flowBeginsSpec.plain.varTypes Try.prog ++ Try.f24.resultTypes.toList).any (Try.prog.veiledRec ·))) = true := by kernel_rfl
theorem k21 : (Rows.flowBeginsRow.veiledFits Try.prog Try.f24.params.toList (Try.f24.params.toList ++ Rows.flowBeginsSpec.plain.varTypes Try.prog ++ Try.f24.resultTypes.toList)) = true := by kernel_rfl
theorem g0 : (Try.prog.stops == []) = true := by rw [Rw.stops]; rfl
theorem g1 : (Try.prog.stopKnobs == []) = true := by rw [Rw.stopKnobs]; rfl
theorem g2 : (Rows.flowBeginsRow.plainKeys == Try.prog.plainKeys) = true := by rw [Rw.plainKeys]; rfl
theorem g3 : (Rows.flowBeginsRow.lifted == Try.prog.liftsFinal) = true := by rw [Rw.lifts]; rfl
theorem g4 : (Try.prog.make == some Rows.flowBeginsRow.make) = true := by rw [Rw.make]; rfl
theorem closed : joinedFacts Try.prog 24 Try.f24 Rows.flowBeginsSpec Rows.flowBeginsRow = true := by
  unfold joinedFacts
  simp only [Rw.laid, Rw.maps, Rw.stopsHeard, Rw.mayEnter, g0, g1, g2, g3, g4, k0, k1, k2, k3, k4, k5, k6, k7, k8, k9, k10, k11, k12, k13, k14, k15, k16, k17, k18, k19, k20, k21, Bool.and_true]
  kernel_rfl
theorem named : Try.prog.funcNamed Rows.flowBeginsRow.func = some 24 := by kernel_rfl
theorem inst : Try.f24.isInstance Try.prog Rows.flowBeginsRow.origin Rows.flowBeginsRow.targs := of_decide_eq_true (by kernel_rfl)
theorem wrap : Try.f24.isWrapper Try.prog Rows.flowBeginsRow.wrapper Rows.flowBeginsRow.mainSum := by
  unfold Func.isWrapper
  rw [if_neg (by decide +kernel)]
  exact ⟨rfl, rfl⟩
theorem over : Rows.flowBeginsRow.holds Try.pinned (OpenSpec.ofChange Rows.flowBeginsSpec) :=
  OpenClaim.holds_of_wide 24 Try.f24 rfl rfl rfl rfl rfl rfl rfl ⟨rfl, rfl, rfl, rfl, rfl⟩ rfl rfl rfl rfl rfl named Try.func24 closed inst wrap
    (fun os started H enc _ => lifted os started H enc)
theorem proved : Rows.FlowBeginsSaid := over
#print axioms proved
end Go.Proofs.Ytamjcdfjkekdjaa.flowBegins
namespace Go.Proofs.Ytamjcdfjkekdjaa
/-- The row, under a short name, for the claim. -/
theorem flowBegins_holds : Rows.FlowBeginsSaid := flowBegins.proved
end Go.Proofs.Ytamjcdfjkekdjaa
