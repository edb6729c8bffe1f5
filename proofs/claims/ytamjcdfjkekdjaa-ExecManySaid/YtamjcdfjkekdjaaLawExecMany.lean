/- The law ExecMany returns true whatever its input, and its input reads behind the call as it did before; no conditions. -/
import Derived.Test.YtamjcdfjkekdjaaExecManyWalk
import Derived.Test.YtamjcdfjkekdjaaTestD
import Derived.Test.YtamjcdfjkekdjaaKitRow
set_option linter.unusedSimpArgs false
set_option linter.unusedVariables false
set_option autoImplicit false
set_option linter.constructorNameAsVariable false
namespace Go.Proofs.Ytamjcdfjkekdjaa.execMany
open Go.ChangeShapes Go.WideShapes Go.ChangeAt Go.RowKit Go.Eng
theorem law (av : List AV) (h : ShapeAll Try.prog 8 Try.f32.params.toList av) : SC Try.prog 32 av (B true) := by
  rw [Try.params32] at h
  obtain ⟨a, _, rfl, h0, rfl⟩ := h
  obtain ⟨i, t, rfl, hi, ht, hw⟩ := sa_test h0
  exact law_ExecMany (fun th h => (hw th h).2)
set_option maxRecDepth 100000 in
theorem lifted (os : Os) (started : os.Started) (H : Type) (enc : TypeId × Value → H) :
    ReturnsInHanded {} Try.checked os 32 .any (Rows.execManySpec.pre6 enc Try.prog Try.f32 Rows.execManyRow.domain false) (Rows.execManySpec.post enc Try.prog Try.f32 false true false false) := by
  refine law_lifted (C := Try.checked) 8 Rw.own started (by kernel_rfl) Try.func32
    (ChangeSpec.witness6 (enc := enc) (C := Try.checked) false ⟨#[], #[.agg #[.slice none 0 0, .slice none 0 0]], []⟩ 8 (by kernel_rfl) (by kernel_rfl) (by kernel_rfl) (by kernel_rfl))
    Rw.laid (by kernel_rfl) rfl rfl Try.underlying4 ?_ law
  intro ds hl
  rw [Try.params32] at hl
  match ds, hl with
  | [d1], _ => rfl
theorem k0 : (Rows.execManyRow.wf (OpenSpec.ofChange Rows.execManySpec)) = true := by kernel_rfl
theorem k1 : (Try.f32.params.all (Try.prog.readableRec ·)) = true := by kernel_rfl
theorem k2 : (namedTie Try.prog Rows.execManyRow.named Rows.execManySpec.vars) = true := by kernel_rfl
theorem k3 : ((Rows.execManyRow.stops == [])) = true := by kernel_rfl
theorem k4 : ((Rows.execManyRow.knobs == [])) = true := by kernel_rfl
theorem k5 : ((Rows.execManyRow.inPlace == Try.prog.inPlace 32)) = true := by kernel_rfl
theorem k6 : ((Rows.execManyRow.unfollowed == Try.prog.unfollowed 32)) = true := by kernel_rfl
theorem k7 : ((Rows.execManyRow.recurses == Try.prog.recurses 32)) = true := by kernel_rfl
theorem k8 : ((Rows.execManyRow.named == Try.prog.varsNamed 32)) = true := by kernel_rfl
theorem k9 : ((Rows.execManyRow.maps == (Try.f32.params.toList ++ Rows.execManySpec.plain.varTypes Try.prog).any (Try.prog.mapsRec ·))) = true := by kernel_rfl
theorem k10 : ((Rows.execManyRow.ifaces == (Try.f32.params.toList ++ Rows.execManySpec.plain.varTypes Try.prog).any (Try.prog.ifacesRec ·))) = true := by kernel_rfl
theorem k11 : ((Rows.execManyRow.mapsOut == Try.prog.mapsAmong Try.f32.resultTypes.toList)) = true := by kernel_rfl
theorem k12 : ((Rows.execManyRow.loops == (Try.f32.params.toList ++ Rows.execManySpec.plain.varTypes Try.prog).any (Try.prog.loopsFrom ·))) = true := by kernel_rfl
theorem k13 : ((Rows.execManyRow.wideKeys == (Try.f32.params.toList ++ Rows.execManySpec.plain.varTypes Try.prog ++ Try.f32.resultTypes.toList).any (Try.prog.wideKeysFrom ·))) = true := by kernel_rfl
theorem k14 : (Rows.execManySpec.vars.all (Try.prog.varReadable ·)) = true := by kernel_rfl
theorem k15 : (Try.f32.resultTypes.all (fun t => Try.prog.readableRec t && decide (t < Try.prog.types.size))) = true := by kernel_rfl
theorem k16 : ((Rows.execManyRow.ifacesOut == Try.f32.resultTypes.toList.any (Try.prog.ifacesRec ·))) = true := by kernel_rfl
theorem k17 : ((Rows.execManyRow.loopsOut == Try.f32.resultTypes.toList.any (Try.prog.loopsFrom ·))) = true := by kernel_rfl
theorem k18 : (Rows.execManyRow.shortTexts.isNone) = true := by kernel_rfl
theorem k19 : ((Rows.execManyRow.pinned == Rows.execManyRow.pinnedBy)) = true := by kernel_rfl
theorem k20 : ((Rows.execManyRow.veiled == (Try.f32.params.toList ++ Rows.execManySpec.plain.varTypes Try.prog ++ Try.f32.resultTypes.toList).any (Try.prog.veiledRec ·))) = true := by kernel_rfl
theorem k21 : (Rows.execManyRow.veiledFits Try.prog Try.f32.params.toList (Try.f32.params.toList ++ Rows.execManySpec.plain.varTypes Try.prog ++ Try.f32.resultTypes.toList)) = true := by kernel_rfl
theorem g0 : (Try.prog.stops == []) = true := by rw [Rw.stops]; rfl
theorem g1 : (Try.prog.stopKnobs == []) = true := by rw [Rw.stopKnobs]; rfl
theorem g2 : (Rows.execManyRow.plainKeys == Try.prog.plainKeys) = true := by rw [Rw.plainKeys]; rfl
theorem g3 : (Rows.execManyRow.lifted == Try.prog.liftsFinal) = true := by rw [Rw.lifts]; rfl
theorem g4 : (Try.prog.make == some Rows.execManyRow.make) = true := by rw [Rw.make]; rfl
theorem closed : joinedFacts Try.prog 32 Try.f32 Rows.execManySpec Rows.execManyRow = true := by
  unfold joinedFacts
  simp only [Rw.laid, Rw.maps, Rw.stopsHeard, Rw.mayEnter, g0, g1, g2, g3, g4, k0, k1, k2, k3, k4, k5, k6, k7, k8, k9, k10, k11, k12, k13, k14, k15, k16, k17, k18, k19, k20, k21, Bool.and_true]
  kernel_rfl
theorem named : Try.prog.funcNamed Rows.execManyRow.func = some 32 := by kernel_rfl
theorem inst : Try.f32.isInstance Try.prog Rows.execManyRow.origin Rows.execManyRow.targs := of_decide_eq_true (by kernel_rfl)
theorem wrap : Try.f32.isWrapper Try.prog Rows.execManyRow.wrapper Rows.execManyRow.mainSum := by
  unfold Func.isWrapper
  rw [if_neg (by decide +kernel)]
  exact ⟨rfl, rfl⟩
theorem over : Rows.execManyRow.holds Try.pinned (OpenSpec.ofChange Rows.execManySpec) :=
  OpenClaim.holds_of_wide 32 Try.f32 rfl rfl rfl rfl rfl rfl rfl ⟨rfl, rfl, rfl, rfl, rfl⟩ rfl rfl rfl rfl rfl named Try.func32 closed inst wrap
    (fun os started H enc _ => lifted os started H enc)
theorem proved : Rows.ExecManySaid := over
#print axioms proved
end Go.Proofs.Ytamjcdfjkekdjaa.execMany
namespace Go.Proofs.Ytamjcdfjkekdjaa
/-- The row, under a short name, for the claim. -/
theorem execMany_holds : Rows.ExecManySaid := execMany.proved
end Go.Proofs.Ytamjcdfjkekdjaa
