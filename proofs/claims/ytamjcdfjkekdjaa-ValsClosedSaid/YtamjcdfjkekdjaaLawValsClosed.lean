/- The law ValsClosed returns true whatever its input, and its input reads behind the call as it did before; no conditions. -/
import Derived.Test.YtamjcdfjkekdjaaValsClosedWalk
import Derived.Test.YtamjcdfjkekdjaaTestD
import Derived.Test.YtamjcdfjkekdjaaKitRow
set_option linter.unusedSimpArgs false
set_option linter.unusedVariables false
set_option autoImplicit false
set_option linter.constructorNameAsVariable false
namespace Go.Proofs.Ytamjcdfjkekdjaa.valsClosed
open Go.ChangeShapes Go.WideShapes Go.ChangeAt Go.RowKit Go.Eng
theorem law (av : List AV) (h : ShapeAll Try.prog 8 Try.f29.params.toList av) : SC Try.prog 29 av (B true) := by
  rw [Try.params29] at h
  obtain ⟨a, _, rfl, h0, rfl⟩ := h
  obtain ⟨i, t, rfl, hi, ht, hw⟩ := sa_test h0
  exact law_ValsClosed (fun th h => (hw th h).2)
set_option maxRecDepth 100000 in
theorem lifted (os : Os) (started : os.Started) (H : Type) (enc : TypeId × Value → H) :
    ReturnsInHanded {} Try.checked os 29 .any (Rows.valsClosedSpec.pre6 enc Try.prog Try.f29 Rows.valsClosedRow.domain false) (Rows.valsClosedSpec.post enc Try.prog Try.f29 false true false false) := by
  refine law_lifted (C := Try.checked) 8 Rw.own started (by kernel_rfl) Try.func29
    (ChangeSpec.witness6 (enc := enc) (C := Try.checked) false ⟨#[], #[.agg #[.slice none 0 0, .slice none 0 0]], []⟩ 8 (by kernel_rfl) (by kernel_rfl) (by kernel_rfl) (by kernel_rfl))
    Rw.laid (by kernel_rfl) rfl rfl Try.underlying4 ?_ law
  intro ds hl
  rw [Try.params29] at hl
  match ds, hl with
  | [d1], _ => rfl
theorem k0 : (Rows.valsClosedRow.wf (OpenSpec.ofChange Rows.valsClosedSpec)) = true := by kernel_rfl
theorem k1 : (Try.f29.params.all (Try.prog.readableRec ·)) = true := by kernel_rfl
theorem k2 : (namedTie Try.prog Rows.valsClosedRow.named Rows.valsClosedSpec.vars) = true := by kernel_rfl
theorem k3 : ((Rows.valsClosedRow.stops == [])) = true := by kernel_rfl
theorem k4 : ((Rows.valsClosedRow.knobs == [])) = true := by kernel_rfl
theorem k5 : ((Rows.valsClosedRow.inPlace == Try.prog.inPlace 29)) = true := by kernel_rfl
theorem k6 : ((Rows.valsClosedRow.unfollowed == Try.prog.unfollowed 29)) = true := by kernel_rfl
theorem k7 : ((Rows.valsClosedRow.recurses == Try.prog.recurses 29)) = true := by kernel_rfl
theorem k8 : ((Rows.valsClosedRow.named == Try.prog.varsNamed 29)) = true := by kernel_rfl
theorem k9 : ((Rows.valsClosedRow.maps == (Try.f29.params.toList ++ Rows.valsClosedSpec.plain.varTypes Try.prog).any (Try.prog.mapsRec ·))) = true := by kernel_rfl
theorem k10 : ((Rows.valsClosedRow.ifaces == (Try.f29.params.toList ++ Rows.valsClosedSpec.plain.varTypes Try.prog).any (Try.prog.ifacesRec ·))) = true := by kernel_rfl
theorem k11 : ((Rows.valsClosedRow.mapsOut == Try.prog.mapsAmong Try.f29.resultTypes.toList)) = true := by kernel_rfl
theorem k12 : ((Rows.valsClosedRow.loops == (Try.f29.params.toList ++ Rows.valsClosedSpec.plain.varTypes Try.prog).any (Try.prog.loopsFrom ·))) = true := by kernel_rfl
theorem k13 : ((Rows.valsClosedRow.wideKeys == (Try.f29.params.toList ++ Rows.valsClosedSpec.plain.varTypes Try.prog ++ Try.f29.resultTypes.toList).any (Try.prog.wideKeysFrom ·))) = true := by kernel_rfl
theorem k14 : (Rows.valsClosedSpec.vars.all (Try.prog.varReadable ·)) = true := by kernel_rfl
theorem k15 : (Try.f29.resultTypes.all (fun t => Try.prog.readableRec t && decide (t < Try.prog.types.size))) = true := by kernel_rfl
theorem k16 : ((Rows.valsClosedRow.ifacesOut == Try.f29.resultTypes.toList.any (Try.prog.ifacesRec ·))) = true := by kernel_rfl
theorem k17 : ((Rows.valsClosedRow.loopsOut == Try.f29.resultTypes.toList.any (Try.prog.loopsFrom ·))) = true := by kernel_rfl
theorem k18 : (Rows.valsClosedRow.shortTexts.isNone) = true := by kernel_rfl
theorem k19 : ((Rows.valsClosedRow.pinned == Rows.valsClosedRow.pinnedBy)) = true := by kernel_rfl
theorem k20 : ((Rows.valsClosedRow.veiled == (Try.f29.params.toList ++ Rows.valsClosedSpec.plain.varTypes Try.prog ++ Try.f29.resultTypes.toList).any (Try.prog.veiledRec ·))) = true := by kernel_rfl
theorem k21 : (Rows.valsClosedRow.veiledFits Try.prog Try.f29.params.toList (Try.f29.params.toList ++ Rows.valsClosedSpec.plain.varTypes Try.prog ++ Try.f29.resultTypes.toList)) = true := by kernel_rfl
theorem g0 : (Try.prog.stops == []) = true := by rw [Rw.stops]; rfl
theorem g1 : (Try.prog.stopKnobs == []) = true := by rw [Rw.stopKnobs]; rfl
theorem g2 : (Rows.valsClosedRow.plainKeys == Try.prog.plainKeys) = true := by rw [Rw.plainKeys]; rfl
theorem g3 : (Rows.valsClosedRow.lifted == Try.prog.liftsFinal) = true := by rw [Rw.lifts]; rfl
theorem g4 : (Try.prog.make == some Rows.valsClosedRow.make) = true := by rw [Rw.make]; rfl
theorem closed : joinedFacts Try.prog 29 Try.f29 Rows.valsClosedSpec Rows.valsClosedRow = true := by
  unfold joinedFacts
  simp only [Rw.laid, Rw.maps, Rw.stopsHeard, Rw.mayEnter, g0, g1, g2, g3, g4, k0, k1, k2, k3, k4, k5, k6, k7, k8, k9, k10, k11, k12, k13, k14, k15, k16, k17, k18, k19, k20, k21, Bool.and_true]
  kernel_rfl
theorem named : Try.prog.funcNamed Rows.valsClosedRow.func = some 29 := by kernel_rfl
theorem inst : Try.f29.isInstance Try.prog Rows.valsClosedRow.origin Rows.valsClosedRow.targs := of_decide_eq_true (by kernel_rfl)
theorem wrap : Try.f29.isWrapper Try.prog Rows.valsClosedRow.wrapper Rows.valsClosedRow.mainSum := by
  unfold Func.isWrapper
  rw [if_neg (by decide +kernel)]
  exact ⟨rfl, rfl⟩
theorem over : Rows.valsClosedRow.holds Try.pinned (OpenSpec.ofChange Rows.valsClosedSpec) :=
  OpenClaim.holds_of_wide 29 Try.f29 rfl rfl rfl rfl rfl rfl rfl ⟨rfl, rfl, rfl, rfl, rfl⟩ rfl rfl rfl rfl rfl named Try.func29 closed inst wrap
    (fun os started H enc _ => lifted os started H enc)
theorem proved : Rows.ValsClosedSaid := over
#print axioms proved
end Go.Proofs.Ytamjcdfjkekdjaa.valsClosed
namespace Go.Proofs.Ytamjcdfjkekdjaa
/-- The row, under a short name, for the claim. -/
theorem valsClosed_holds : Rows.ValsClosedSaid := valsClosed.proved
end Go.Proofs.Ytamjcdfjkekdjaa
