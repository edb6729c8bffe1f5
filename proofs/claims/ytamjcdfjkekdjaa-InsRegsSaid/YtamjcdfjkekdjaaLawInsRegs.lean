/- The law InsRegs returns true whatever its input, and its input reads behind the call as it did before; no conditions. -/
import Derived.Test.YtamjcdfjkekdjaaInsRegsWalk
import Derived.Test.YtamjcdfjkekdjaaRowing
import Derived.Test.YtamjcdfjkekdjaaShapes
set_option linter.unusedSimpArgs false
set_option linter.unusedVariables false
set_option autoImplicit false
set_option linter.constructorNameAsVariable false
namespace Go.Proofs.Ytamjcdfjkekdjaa.insRegs
open Go.ChangeShapes Go.WideShapes Go.ChangeAt Go.RowKit Go.Eng
theorem law (av : List AV) (h : ShapeAll Try.prog 4 Try.f8.params.toList av) : SC Try.prog 8 av (B true) := by
  rw [Try.params8] at h
  obtain ⟨a, _, rfl, h0, b, _, rfl, h1, c, _, rfl, h2, rfl⟩ := h
  obtain ⟨op, d, a', b, l, m, rfl, wo, wd, wa, wb, wl, wm⟩ := sa_ins h0
  obtain ⟨behind, rfl, wbe⟩ := sa_int Try.underlying3 (by simp) h1
  obtain ⟨locs, rfl, wlo⟩ := sa_int Try.underlying3 (by simp) h2
  exact law_InsRegs
set_option maxRecDepth 100000 in
theorem lifted (os : Os) (started : os.Started) (H : Type) (enc : TypeId × Value → H) :
    ReturnsInHanded {} Try.checked os 8 .any (Rows.insRegsSpec.pre6 enc Try.prog Try.f8 Rows.insRegsRow.domain false) (Rows.insRegsSpec.post enc Try.prog Try.f8 false true false false) := by
  refine law_lifted (C := Try.checked) 4 Rw.own started (by kernel_rfl) Try.func8
    (ChangeSpec.witness6 (enc := enc) (C := Try.checked) false ⟨#[], #[.agg #[.int .i64 0, .int .i64 0, .int .i64 0, .int .i64 0, .int .i64 0, .int .i64 0], .int .i64 0, .int .i64 0], []⟩ 8 (by kernel_rfl) (by kernel_rfl) (by kernel_rfl) (by kernel_rfl))
    Rw.laid (by kernel_rfl) rfl rfl Try.underlying4 ?_ law
  intro ds hl
  rw [Try.params8] at hl
  match ds, hl with
  | [d1, d2, d3], _ => rfl
theorem k0 : (Rows.insRegsRow.wf (OpenSpec.ofChange Rows.insRegsSpec)) = true := by kernel_rfl
theorem k1 : (Try.f8.params.all (Try.prog.readableRec ·)) = true := by kernel_rfl
theorem k2 : (namedTie Try.prog Rows.insRegsRow.named Rows.insRegsSpec.vars) = true := by kernel_rfl
theorem k3 : ((Rows.insRegsRow.stops == [])) = true := by kernel_rfl
theorem k4 : ((Rows.insRegsRow.knobs == [])) = true := by kernel_rfl
theorem k5 : ((Rows.insRegsRow.inPlace == Try.prog.inPlace 8)) = true := by kernel_rfl
theorem k6 : ((Rows.insRegsRow.unfollowed == Try.prog.unfollowed 8)) = true := by kernel_rfl
theorem k7 : ((Rows.insRegsRow.recurses == Try.prog.recurses 8)) = true := by kernel_rfl
theorem k8 : ((Rows.insRegsRow.named == Try.prog.varsNamed 8)) = true := by kernel_rfl
theorem k9 : ((Rows.insRegsRow.maps == (Try.f8.params.toList ++ Rows.insRegsSpec.plain.varTypes Try.prog).any (Try.prog.mapsRec ·))) = true := by kernel_rfl
theorem k10 : ((Rows.insRegsRow.ifaces == (Try.f8.params.toList ++ Rows.insRegsSpec.plain.varTypes Try.prog).any (Try.prog.ifacesRec ·))) = true := by kernel_rfl
theorem k11 : ((Rows.insRegsRow.mapsOut == Try.prog.mapsAmong Try.f8.resultTypes.toList)) = true := by kernel_rfl
theorem k12 : ((Rows.insRegsRow.loops == (Try.f8.params.toList ++ Rows.insRegsSpec.plain.varTypes Try.prog).any (Try.prog.loopsFrom ·))) = true := by kernel_rfl
theorem k13 : ((Rows.insRegsRow.wideKeys == (Try.f8.params.toList ++ Rows.insRegsSpec.plain.varTypes Try.prog ++ Try.f8.resultTypes.toList).any (Try.prog.wideKeysFrom ·))) = true := by kernel_rfl
theorem k14 : (Rows.insRegsSpec.vars.all (Try.prog.varReadable ·)) = true := by kernel_rfl
theorem k15 : (Try.f8.resultTypes.all (fun t => Try.prog.readableRec t && decide (t < Try.prog.types.size))) = true := by kernel_rfl
theorem k16 : ((Rows.insRegsRow.ifacesOut == Try.f8.resultTypes.toList.any (Try.prog.ifacesRec ·))) = true := by kernel_rfl
theorem k17 : ((Rows.insRegsRow.loopsOut == Try.f8.resultTypes.toList.any (Try.prog.loopsFrom ·))) = true := by kernel_rfl
theorem k18 : (Rows.insRegsRow.shortTexts.isNone) = true := by kernel_rfl
theorem k19 : ((Rows.insRegsRow.pinned == Rows.insRegsRow.pinnedBy)) = true := by kernel_rfl
theorem k20 : ((Rows.insRegsRow.veiled == (Try.f8.params.toList ++ Rows.insRegsSpec.plain.varTypes Try.prog ++ Try.f8.resultTypes.toList).any (Try.prog.veiledRec ·))) = true := by kernel_rfl
theorem k21 : (Rows.insRegsRow.veiledFits Try.prog Try.f8.params.toList (Try.f8.params.toList ++ Rows.insRegsSpec.plain.varTypes Try.prog ++ Try.f8.resultTypes.toList)) = true := by kernel_rfl
theorem g0 : (Try.prog.stops == []) = true := by rw [Rw.stops]; rfl
theorem g1 : (Try.prog.stopKnobs == []) = true := by rw [Rw.stopKnobs]; rfl
theorem g2 : (Rows.insRegsRow.plainKeys == Try.prog.plainKeys) = true := by rw [Rw.plainKeys]; rfl
theorem g3 : (Rows.insRegsRow.lifted == Try.prog.liftsFinal) = true := by rw [Rw.lifts]; rfl
theorem g4 : (Try.prog.make == some Rows.insRegsRow.make) = true := by rw [Rw.make]; rfl
theorem closed : joinedFacts Try.prog 8 Try.f8 Rows.insRegsSpec Rows.insRegsRow = true := by
  unfold joinedFacts
  simp only [Rw.laid, Rw.maps, Rw.stopsHeard, Rw.mayEnter, g0, g1, g2, g3, g4, k0, k1, k2, k3, k4, k5, k6, k7, k8, k9, k10, k11, k12, k13, k14, k15, k16, k17, k18, k19, k20, k21, Bool.and_true]
  kernel_rfl
theorem named : Try.prog.funcNamed Rows.insRegsRow.func = some 8 := by kernel_rfl
theorem inst : Try.f8.isInstance Try.prog Rows.insRegsRow.origin Rows.insRegsRow.targs := of_decide_eq_true (by kernel_rfl)
theorem wrap : Try.f8.isWrapper Try.prog Rows.insRegsRow.wrapper Rows.insRegsRow.mainSum := by
  unfold Func.isWrapper
  rw [if_neg (by decide +kernel)]
  exact ⟨rfl, rfl⟩
theorem over : Rows.insRegsRow.holds Try.pinned (OpenSpec.ofChange Rows.insRegsSpec) :=
  OpenClaim.holds_of_wide 8 Try.f8 rfl rfl rfl rfl rfl rfl rfl ⟨rfl, rfl, rfl, rfl, rfl⟩ rfl rfl rfl rfl rfl named Try.func8 closed inst wrap
    (fun os started H enc _ => lifted os started H enc)
theorem proved : Rows.InsRegsSaid := over
#print axioms proved
end Go.Proofs.Ytamjcdfjkekdjaa.insRegs
namespace Go.Proofs.Ytamjcdfjkekdjaa
/-- The row, under a short name, for the claim. -/
theorem insRegs_holds : Rows.InsRegsSaid := insRegs.proved
end Go.Proofs.Ytamjcdfjkekdjaa
