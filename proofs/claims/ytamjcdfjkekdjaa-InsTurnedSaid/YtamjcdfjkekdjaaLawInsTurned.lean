/- The law InsTurned returns true whatever its input, and its input reads behind the call as it did before; no conditions. -/
import Derived.Test.YtamjcdfjkekdjaaInsTurnedWalk
import Derived.Test.YtamjcdfjkekdjaaRowing
import Derived.Test.YtamjcdfjkekdjaaShapes
set_option linter.unusedSimpArgs false
set_option linter.unusedVariables false
set_option autoImplicit false
set_option linter.constructorNameAsVariable false
namespace Go.Proofs.Ytamjcdfjkekdjaa.insTurned
open Go.ChangeShapes Go.WideShapes Go.ChangeAt Go.RowKit Go.Eng
theorem law (av : List AV) (h : ShapeAll Try.prog 4 Try.f10.params.toList av) : SC Try.prog 10 av (B true) := by
  rw [Try.params10] at h
  obtain ⟨a, _, rfl, h0, b, _, rfl, h1, c, _, rfl, h2, rfl⟩ := h
  obtain ⟨op, d, a', b, l, m, rfl, wo, wd, wa, wb, wl, wm⟩ := sa_ins h0
  obtain ⟨behind, rfl, wbe⟩ := sa_int Try.underlying3 (by simp) h1
  obtain ⟨locs, rfl, wlo⟩ := sa_int Try.underlying3 (by simp) h2
  exact law_InsTurned wlo
set_option maxRecDepth 100000 in
theorem lifted (os : Os) (started : os.Started) (H : Type) (enc : TypeId × Value → H) :
    ReturnsInHanded {} Try.checked os 10 .any (Rows.insTurnedSpec.pre6 enc Try.prog Try.f10 Rows.insTurnedRow.domain false) (Rows.insTurnedSpec.post enc Try.prog Try.f10 false true false false) := by
  refine law_lifted (C := Try.checked) 4 Rw.own started (by kernel_rfl) Try.func10
    (ChangeSpec.witness6 (enc := enc) (C := Try.checked) false ⟨#[], #[.agg #[.int .i64 0, .int .i64 0, .int .i64 0, .int .i64 0, .int .i64 0, .int .i64 0], .int .i64 0, .int .i64 0], []⟩ 8 (by kernel_rfl) (by kernel_rfl) (by kernel_rfl) (by kernel_rfl))
    Rw.laid (by kernel_rfl) rfl rfl Try.underlying4 ?_ law
  intro ds hl
  rw [Try.params10] at hl
  match ds, hl with
  | [d1, d2, d3], _ => rfl
theorem k0 : (Rows.insTurnedRow.wf (OpenSpec.ofChange Rows.insTurnedSpec)) = true := by kernel_rfl
theorem k1 : (Try.f10.params.all (Try.prog.readableRec ·)) = true := by kernel_rfl
theorem k2 : (namedTie Try.prog Rows.insTurnedRow.named Rows.insTurnedSpec.vars) = true := by kernel_rfl
theorem k3 : ((Rows.insTurnedRow.stops == [])) = true := by kernel_rfl
theorem k4 : ((Rows.insTurnedRow.knobs == [])) = true := by kernel_rfl
theorem k5 : ((Rows.insTurnedRow.inPlace == Try.prog.inPlace 10)) = true := by kernel_rfl
theorem k6 : ((Rows.insTurnedRow.unfollowed == Try.prog.unfollowed 10)) = true := by kernel_rfl
theorem k7 : ((Rows.insTurnedRow.recurses == Try.prog.recurses 10)) = true := by kernel_rfl
theorem k8 : ((Rows.insTurnedRow.named == Try.prog.varsNamed 10)) = true := by kernel_rfl
theorem k9 : ((Rows.insTurnedRow.maps == (Try.f10.params.toList ++ Rows.insTurnedSpec.plain.varTypes Try.prog).any (Try.prog.mapsRec ·))) = true := by kernel_rfl
theorem k10 : ((Rows.insTurnedRow.ifaces == (Try.f10.params.toList ++ Rows.insTurnedSpec.plain.varTypes Try.prog).any (Try.prog.ifacesRec ·))) = true := by kernel_rfl
theorem k11 : ((Rows.insTurnedRow.mapsOut == Try.prog.mapsAmong Try.f10.resultTypes.toList)) = true := by kernel_rfl
theorem k12 : ((Rows.insTurnedRow.loops == (Try.f10.params.toList ++ Rows.insTurnedSpec.plain.varTypes Try.prog).any (Try.prog.loopsFrom ·))) = true := by kernel_rfl
theorem k13 : ((Rows.insTurnedRow.wideKeys == (Try.f10.params.toList ++ Rows.insTurnedSpec.plain.varTypes Try.prog ++ Try.f10.resultTypes.toList).any (Try.prog.wideKeysFrom ·))) = true := by kernel_rfl
theorem k14 : (Rows.insTurnedSpec.vars.all (Try.prog.varReadable ·)) = true := by kernel_rfl
theorem k15 : (Try.f10.resultTypes.all (fun t => Try.prog.readableRec t && decide (t < Try.prog.types.size))) = true := by kernel_rfl
theorem k16 : ((Rows.insTurnedRow.ifacesOut == Try.f10.resultTypes.toList.any (Try.prog.ifacesRec ·))) = true := by kernel_rfl
theorem k17 : ((Rows.insTurnedRow.loopsOut == Try.f10.resultTypes.toList.any (Try.prog.loopsFrom ·))) = true := by kernel_rfl
theorem k18 : (Rows.insTurnedRow.shortTexts.isNone) = true := by kernel_rfl
theorem k19 : ((Rows.insTurnedRow.pinned == Rows.insTurnedRow.pinnedBy)) = true := by kernel_rfl
theorem k20 : ((Rows.insTurnedRow.veiled == (Try.f10.params.toList ++ Rows.insTurnedSpec.plain.varTypes Try.prog ++ Try.f10.resultTypes.toList).any (Try.prog.veiledRec ·))) = true := by kernel_rfl
theorem k21 : (Rows.insTurnedRow.veiledFits Try.prog Try.f10.params.toList (Try.f10.params.toList ++ Rows.insTurnedSpec.plain.varTypes Try.prog ++ Try.f10.resultTypes.toList)) = true := by kernel_rfl
theorem g0 : (Try.prog.stops == []) = true := by rw [Rw.stops]; rfl
theorem g1 : (Try.prog.stopKnobs == []) = true := by rw [Rw.stopKnobs]; rfl
theorem g2 : (Rows.insTurnedRow.plainKeys == Try.prog.plainKeys) = true := by rw [Rw.plainKeys]; rfl
theorem g3 : (Rows.insTurnedRow.lifted == Try.prog.liftsFinal) = true := by rw [Rw.lifts]; rfl
theorem g4 : (Try.prog.make == some Rows.insTurnedRow.make) = true := by rw [Rw.make]; rfl
theorem closed : joinedFacts Try.prog 10 Try.f10 Rows.insTurnedSpec Rows.insTurnedRow = true := by
  unfold joinedFacts
  simp only [Rw.laid, Rw.maps, Rw.stopsHeard, Rw.mayEnter, g0, g1, g2, g3, g4, k0, k1, k2, k3, k4, k5, k6, k7, k8, k9, k10, k11, k12, k13, k14, k15, k16, k17, k18, k19, k20, k21, Bool.and_true]
  kernel_rfl
theorem named : Try.prog.funcNamed Rows.insTurnedRow.func = some 10 := by kernel_rfl
theorem inst : Try.f10.isInstance Try.prog Rows.insTurnedRow.origin Rows.insTurnedRow.targs := of_decide_eq_true (by kernel_rfl)
theorem wrap : Try.f10.isWrapper Try.prog Rows.insTurnedRow.wrapper Rows.insTurnedRow.mainSum := by
  unfold Func.isWrapper
  rw [if_neg (by decide +kernel)]
  exact ⟨rfl, rfl⟩
theorem over : Rows.insTurnedRow.holds Try.pinned (OpenSpec.ofChange Rows.insTurnedSpec) :=
  OpenClaim.holds_of_wide 10 Try.f10 rfl rfl rfl rfl rfl rfl rfl ⟨rfl, rfl, rfl, rfl, rfl⟩ rfl rfl rfl rfl rfl named Try.func10 closed inst wrap
    (fun os started H enc _ => lifted os started H enc)
theorem proved : Rows.InsTurnedSaid := over
#print axioms proved
end Go.Proofs.Ytamjcdfjkekdjaa.insTurned
namespace Go.Proofs.Ytamjcdfjkekdjaa
/-- The row, under a short name, for the claim. -/
theorem insTurned_holds : Rows.InsTurnedSaid := insTurned.proved
end Go.Proofs.Ytamjcdfjkekdjaa
