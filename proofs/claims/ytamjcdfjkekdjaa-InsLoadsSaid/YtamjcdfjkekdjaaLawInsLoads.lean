/- The law InsLoads returns true whatever its input, and its input reads behind the call as it did before; no conditions. -/
import Derived.Test.YtamjcdfjkekdjaaInsLoadsWalk
import Derived.Test.YtamjcdfjkekdjaaRowing
import Derived.Test.YtamjcdfjkekdjaaShapes
set_option linter.unusedSimpArgs false
set_option linter.unusedVariables false
set_option autoImplicit false
set_option linter.constructorNameAsVariable false
namespace Go.Proofs.Ytamjcdfjkekdjaa.insLoads
open Go.ChangeShapes Go.WideShapes Go.ChangeAt Go.RowKit Go.Eng
theorem law (av : List AV) (h : ShapeAll Try.prog 4 Try.f12.params.toList av) : SC Try.prog 12 av (B true) := by
  rw [Try.params12] at h
  obtain ⟨a, _, rfl, h0, b, _, rfl, h1, c, _, rfl, h2, rfl⟩ := h
  obtain ⟨op, d, a', b, l, m, rfl, wo, wd, wa, wb, wl, wm⟩ := sa_ins h0
  obtain ⟨behind, rfl, wbe⟩ := sa_int Try.underlying3 (by simp) h1
  obtain ⟨locs, rfl, wlo⟩ := sa_int Try.underlying3 (by simp) h2
  exact law_InsLoads
set_option maxRecDepth 100000 in
theorem lifted (os : Os) (started : os.Started) (H : Type) (enc : TypeId × Value → H) :
    ReturnsInHanded {} Try.checked os 12 .any (Rows.insLoadsSpec.pre6 enc Try.prog Try.f12 Rows.insLoadsRow.domain false) (Rows.insLoadsSpec.post enc Try.prog Try.f12 false true false false) := by
  refine law_lifted (C := Try.checked) 4 Rw.own started (by kernel_rfl) Try.func12
    (ChangeSpec.witness6 (enc := enc) (C := Try.checked) false ⟨#[], #[.agg #[.int .i64 0, .int .i64 0, .int .i64 0, .int .i64 0, .int .i64 0, .int .i64 0], .int .i64 0, .int .i64 0], []⟩ 8 (by kernel_rfl) (by kernel_rfl) (by kernel_rfl) (by kernel_rfl))
    Rw.laid (by kernel_rfl) rfl rfl Try.underlying4 ?_ law
  intro ds hl
  rw [Try.params12] at hl
  match ds, hl with
  | [d1, d2, d3], _ => rfl
theorem k0 : (Rows.insLoadsRow.wf (OpenSpec.ofChange Rows.insLoadsSpec)) = true := by kernel_rfl
theorem k1 : (Try.f12.params.all (Try.prog.readableRec ·)) = true := by kernel_rfl
theorem k2 : (namedTie Try.prog Rows.insLoadsRow.named Rows.insLoadsSpec.vars) = true := by kernel_rfl
theorem k3 : ((Rows.insLoadsRow.stops == [])) = true := by kernel_rfl
theorem k4 : ((Rows.insLoadsRow.knobs == [])) = true := by kernel_rfl
theorem k5 : ((Rows.insLoadsRow.inPlace == Try.prog.inPlace 12)) = true := by kernel_rfl
theorem k6 : ((Rows.insLoadsRow.unfollowed == Try.prog.unfollowed 12)) = true := by kernel_rfl
theorem k7 : ((Rows.insLoadsRow.recurses == Try.prog.recurses 12)) = true := by kernel_rfl
theorem k8 : ((Rows.insLoadsRow.named == Try.prog.varsNamed 12)) = true := by kernel_rfl
theorem k9 : ((Rows.insLoadsRow.maps == (Try.f12.params.toList ++ Rows.insLoadsSpec.plain.varTypes Try.prog).any (Try.prog.mapsRec ·))) = true := by kernel_rfl
theorem k10 : ((Rows.insLoadsRow.ifaces == (Try.f12.params.toList ++ Rows.insLoadsSpec.plain.varTypes Try.prog).any (Try.prog.ifacesRec ·))) = true := by kernel_rfl
theorem k11 : ((Rows.insLoadsRow.mapsOut == Try.prog.mapsAmong Try.f12.resultTypes.toList)) = true := by kernel_rfl
theorem k12 : ((Rows.insLoadsRow.loops == (Try.f12.params.toList ++ Rows.insLoadsSpec.plain.varTypes Try.prog).any (Try.prog.loopsFrom ·))) = true := by kernel_rfl
theorem k13 : ((Rows.insLoadsRow.wideKeys == (Try.f12.params.toList ++ Rows.insLoadsSpec.plain.varTypes Try.prog ++ Try.f12.resultTypes.toList).any (Try.prog.wideKeysFrom ·))) = true := by kernel_rfl
theorem k14 : (Rows.insLoadsSpec.vars.all (Try.prog.varReadable ·)) = true := by kernel_rfl
theorem k15 : (Try.f12.resultTypes.all (fun t => Try.prog.readableRec t && decide (t < Try.prog.types.size))) = true := by kernel_rfl
theorem k16 : ((Rows.insLoadsRow.ifacesOut == Try.f12.resultTypes.toList.any (Try.prog.ifacesRec ·))) = true := by kernel_rfl
theorem k17 : ((Rows.insLoadsRow.loopsOut == Try.f12.resultTypes.toList.any (Try.prog.loopsFrom ·))) = true := by kernel_rfl
theorem k18 : (Rows.insLoadsRow.shortTexts.isNone) = true := by kernel_rfl
theorem k19 : ((Rows.insLoadsRow.pinned == Rows.insLoadsRow.pinnedBy)) = true := by kernel_rfl
theorem k20 : ((Rows.insLoadsRow.veiled == (Try.f12.params.toList ++ Rows.insLoadsSpec.plain.varTypes Try.prog ++ Try.f12.resultTypes.toList).any (Try.prog.veiledRec ·))) = true := by kernel_rfl
theorem k21 : (Rows.insLoadsRow.veiledFits Try.prog Try.f12.params.toList (Try.f12.params.toList ++ Rows.insLoadsSpec.plain.varTypes Try.prog ++ Try.f12.resultTypes.toList)) = true := by kernel_rfl
theorem g0 : (Try.prog.stops == []) = true := by rw [Rw.stops]; rfl
theorem g1 : (Try.prog.stopKnobs == []) = true := by rw [Rw.stopKnobs]; rfl
theorem g2 : (Rows.insLoadsRow.plainKeys == Try.prog.plainKeys) = true := by rw [Rw.plainKeys]; rfl
theorem g3 : (Rows.insLoadsRow.lifted == Try.prog.liftsFinal) = true := by rw [Rw.lifts]; rfl
theorem g4 : (Try.prog.make == some Rows.insLoadsRow.make) = true := by rw [Rw.make]; rfl
theorem closed : joinedFacts Try.prog 12 Try.f12 Rows.insLoadsSpec Rows.insLoadsRow = true := by
  unfold joinedFacts
  simp only [Rw.laid, Rw.maps, Rw.stopsHeard, Rw.mayEnter, g0, g1, g2, g3, g4, k0, k1, k2, k3, k4, k5, k6, k7, k8, k9, k10, k11, k12, k13, k14, k15, k16, k17, k18, k19, k20, k21, Bool.and_true]
  kernel_rfl
theorem named : Try.prog.funcNamed Rows.insLoadsRow.func = some 12 := by kernel_rfl
theorem inst : Try.f12.isInstance Try.prog Rows.insLoadsRow.origin Rows.insLoadsRow.targs := of_decide_eq_true (by kernel_rfl)
theorem wrap : Try.f12.isWrapper Try.prog Rows.insLoadsRow.wrapper Rows.insLoadsRow.mainSum := by
  unfold Func.isWrapper
  rw [if_neg (by decide +kernel)]
  exact ⟨rfl, rfl⟩
theorem over : Rows.insLoadsRow.holds Try.pinned (OpenSpec.ofChange Rows.insLoadsSpec) :=
  OpenClaim.holds_of_wide 12 Try.f12 rfl rfl rfl rfl rfl rfl rfl ⟨rfl, rfl, rfl, rfl, rfl⟩ rfl rfl rfl rfl rfl named Try.func12 closed inst wrap
    (fun os started H enc _ => lifted os started H enc)
theorem proved : Rows.InsLoadsSaid := over
#print axioms proved
end Go.Proofs.Ytamjcdfjkekdjaa.insLoads
namespace Go.Proofs.Ytamjcdfjkekdjaa
/-- The row, under a short name, for the claim. -/
theorem insLoads_holds : Rows.InsLoadsSaid := insLoads.proved
end Go.Proofs.Ytamjcdfjkekdjaa
