/- The law FlowBare returns true whatever its input, and its input reads behind the call as it did before; no conditions. -/
import Derived.Test.YtamjcdfjkekdjaaFlowBareWalk
import Derived.Test.YtamjcdfjkekdjaaFlowE
import Derived.Test.YtamjcdfjkekdjaaKitRow
set_option linter.unusedSimpArgs false
set_option linter.unusedVariables false
set_option autoImplicit false
set_option linter.constructorNameAsVariable false
namespace Go.Proofs.Ytamjcdfjkekdjaa.flowBare
open Go.ChangeShapes Go.WideShapes Go.ChangeAt Go.RowKit Go.Eng
theorem law (av : List AV) (h : ShapeAll Try.prog 8 Try.f23.params.toList av) : SC Try.prog 23 av (B true) := by
  rw [Try.params23] at h
  obtain ⟨a, _, rfl, h0, b, _, rfl, h1, c, _, rfl, h2, rfl⟩ := h
  obtain ⟨th, rfl, hl, hth⟩ := sa_thread h0
  obtain ⟨vals, rfl, hvl, hvw⟩ := sa_nums h1
  obtain ⟨lucks, rfl, hll⟩ := sa_bools h2
  exact law_FlowBare hth hvw
set_option maxRecDepth 100000 in
theorem lifted (os : Os) (started : os.Started) (H : Type) (enc : TypeId × Value → H) :
    ReturnsInHanded {} Try.checked os 23 .any (Rows.flowBareSpec.pre6 enc Try.prog Try.f23 Rows.flowBareRow.domain false) (Rows.flowBareSpec.post enc Try.prog Try.f23 false true false false) := by
  refine law_lifted (C := Try.checked) 8 Rw.own started (by kernel_rfl) Try.func23
    (ChangeSpec.witness6 (enc := enc) (C := Try.checked) false ⟨#[], #[.slice none 0 0, .slice none 0 0, .slice none 0 0], []⟩ 8 (by kernel_rfl) (by kernel_rfl) (by kernel_rfl) (by kernel_rfl))
    Rw.laid (by kernel_rfl) rfl rfl Try.underlying4 ?_ law
  intro ds hl
  rw [Try.params23] at hl
  match ds, hl with
  | [d1, d2, d3], _ => rfl
theorem k0 : (Rows.flowBareRow.wf (OpenSpec.ofChange Rows.flowBareSpec)) = true := by kernel_rfl
theorem k1 : (Try.f23.params.all (Try.prog.readableRec ·)) = true := by kernel_rfl
theorem k2 : (namedTie Try.prog Rows.flowBareRow.named Rows.flowBareSpec.vars) = true := by kernel_rfl
theorem k3 : ((Rows.flowBareRow.stops == [])) = true := by kernel_rfl
theorem k4 : ((Rows.flowBareRow.knobs == [])) = true := by kernel_rfl
theorem k5 : ((Rows.flowBareRow.inPlace == Try.prog.inPlace 23)) = true := by kernel_rfl
theorem k6 : ((Rows.flowBareRow.unfollowed == Try.prog.unfollowed 23)) = true := by kernel_rfl
theorem k7 : ((Rows.flowBareRow.recurses == Try.prog.recurses 23)) = true := by kernel_rfl
theorem k8 : ((Rows.flowBareRow.named == Try.prog.varsNamed 23)) = true := by kernel_rfl
theorem k9 : ((Rows.flowBareRow.maps == (Try.f23.params.toList ++ Rows.flowBareSpec.plain.varTypes Try.prog).any (Try.prog.mapsRec ·))) = true := by kernel_rfl
theorem k10 : ((Rows.flowBareRow.ifaces == (Try.f23.params.toList ++ Rows.flowBareSpec.plain.varTypes Try.prog).any (Try.prog.ifacesRec ·))) = true := by kernel_rfl
theorem k11 : ((Rows.flowBareRow.mapsOut == Try.prog.mapsAmong Try.f23.resultTypes.toList)) = true := by kernel_rfl
theorem k12 : ((Rows.flowBareRow.loops == (Try.f23.params.toList ++ Rows.flowBareSpec.plain.varTypes Try.prog).any (Try.prog.loopsFrom ·))) = true := by kernel_rfl
theorem k13 : ((Rows.flowBareRow.wideKeys == (Try.f23.params.toList ++ Rows.flowBareSpec.plain.varTypes Try.prog ++ Try.f23.resultTypes.toList).any (Try.prog.wideKeysFrom ·))) = true := by kernel_rfl
theorem k14 : (Rows.flowBareSpec.vars.all (Try.prog.varReadable ·)) = true := by kernel_rfl
theorem k15 : (Try.f23.resultTypes.all (fun t => Try.prog.readableRec t && decide (t < Try.prog.types.size))) = true := by kernel_rfl
theorem k16 : ((Rows.flowBareRow.ifacesOut == Try.f23.resultTypes.toList.any (Try.prog.ifacesRec ·))) = true := by kernel_rfl
theorem k17 : ((Rows.flowBareRow.loopsOut == Try.f23.resultTypes.toList.any (Try.prog.loopsFrom ·))) = true := by kernel_rfl
theorem k18 : (Rows.flowBareRow.shortTexts.isNone) = true := by kernel_rfl
theorem k19 : ((Rows.flowBareRow.pinned == Rows.flowBareRow.pinnedBy)) = true := by kernel_rfl
theorem k20 : ((Rows.flowBareRow.veiled == (Try.f23.params.toList ++ Rows.flowBareSpec.plain.varTypes Try.prog ++ Try.f23.resultTypes.toList).any (Try.prog.veiledRec ·))) = true := by kernel_rfl
theorem k21 : (Rows.flowBareRow.veiledFits Try.prog Try.f23.params.toList (Try.f23.params.toList ++ Rows.flowBareSpec.plain.varTypes Try.prog ++ Try.f23.resultTypes.toList)) = true := by kernel_rfl
theorem g0 : (Try.prog.stops == []) = true := by rw [Rw.stops]; rfl
theorem g1 : (Try.prog.stopKnobs == []) = true := by rw [Rw.stopKnobs]; rfl
theorem g2 : (Rows.flowBareRow.plainKeys == Try.prog.plainKeys) = true := by rw [Rw.plainKeys]; rfl
theorem g3 : (Rows.flowBareRow.lifted == Try.prog.liftsFinal) = true := by rw [Rw.lifts]; rfl
theorem g4 : (Try.prog.make == some Rows.flowBareRow.make) = true := by rw [Rw.make]; rfl
theorem closed : joinedFacts Try.prog 23 Try.f23 Rows.flowBareSpec Rows.flowBareRow = true := by
  unfold joinedFacts
  simp only [Rw.laid, Rw.maps, Rw.stopsHeard, Rw.mayEnter, g0, g1, g2, g3, g4, k0, k1, k2, k3, k4, k5, k6, k7, k8, k9, k10, k11, k12, k13, k14, k15, k16, k17, k18, k19, k20, k21, Bool.and_true]
  kernel_rfl
theorem named : Try.prog.funcNamed Rows.flowBareRow.func = some 23 := by kernel_rfl
theorem inst : Try.f23.isInstance Try.prog Rows.flowBareRow.origin Rows.flowBareRow.targs := of_decide_eq_true (by kernel_rfl)
theorem wrap : Try.f23.isWrapper Try.prog Rows.flowBareRow.wrapper Rows.flowBareRow.mainSum := by
  unfold Func.isWrapper
  rw [if_neg (by decide +kernel)]
  exact ⟨rfl, rfl⟩
theorem over : Rows.flowBareRow.holds Try.pinned (OpenSpec.ofChange Rows.flowBareSpec) :=
  OpenClaim.holds_of_wide 23 Try.f23 rfl rfl rfl rfl rfl rfl rfl ⟨rfl, rfl, rfl, rfl, rfl⟩ rfl rfl rfl rfl rfl named Try.func23 closed inst wrap
    (fun os started H enc _ => lifted os started H enc)
theorem proved : Rows.FlowBareSaid := over
#print axioms proved
end Go.Proofs.Ytamjcdfjkekdjaa.flowBare
namespace Go.Proofs.Ytamjcdfjkekdjaa
/-- The row, under a short name, for the claim. -/
theorem flowBare_holds : Rows.FlowBareSaid := flowBare.proved
end Go.Proofs.Ytamjcdfjkekdjaa
