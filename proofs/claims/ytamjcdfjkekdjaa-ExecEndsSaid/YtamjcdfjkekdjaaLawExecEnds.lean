/- The law ExecEnds returns true whatever its input, and its input reads behind the call as it did before; no conditions. -/
import Derived.Test.YtamjcdfjkekdjaaExecEndsWalk
import Derived.Test.YtamjcdfjkekdjaaTestD
import Derived.Test.YtamjcdfjkekdjaaKitRow
set_option linter.unusedSimpArgs false
set_option linter.unusedVariables false
set_option autoImplicit false
set_option linter.constructorNameAsVariable false
namespace Go.Proofs.Ytamjcdfjkekdjaa.execEnds
open Go.ChangeShapes Go.WideShapes Go.ChangeAt Go.RowKit Go.Eng
theorem law (av : List AV) (h : ShapeAll Try.prog 8 Try.f31.params.toList av) : SC Try.prog 31 av (B true) := by
  rw [Try.params31] at h
  obtain ⟨a, _, rfl, h0, b, _, rfl, h1, rfl⟩ := h
  obtain ⟨i, t, rfl, hi, ht, hw⟩ := sa_test h0
  obtain ⟨w, rfl, hww⟩ := sa_int Try.underlying27 (by simp) h1
  have hw0 : 0 ≤ w ∧ w < 65536 := by
    simp [Lit.wf, IntKind.min, IntKind.max, IntKind.signed, IntKind.bits] at hww
    omega
  exact law_ExecEnds hw0 (fun th h => (hw th h).2)
set_option maxRecDepth 100000 in
theorem lifted (os : Os) (started : os.Started) (H : Type) (enc : TypeId × Value → H) :
    ReturnsInHanded {} Try.checked os 31 .any (Rows.execEndsSpec.pre6 enc Try.prog Try.f31 Rows.execEndsRow.domain false) (Rows.execEndsSpec.post enc Try.prog Try.f31 false true false false) := by
  refine law_lifted (C := Try.checked) 8 Rw.own started (by kernel_rfl) Try.func31
    (ChangeSpec.witness6 (enc := enc) (C := Try.checked) false ⟨#[], #[.agg #[.slice none 0 0, .slice none 0 0], .int .u16 0], []⟩ 8 (by kernel_rfl) (by kernel_rfl) (by kernel_rfl) (by kernel_rfl))
    Rw.laid (by kernel_rfl) rfl rfl Try.underlying4 ?_ law
  intro ds hl
  rw [Try.params31] at hl
  match ds, hl with
  | [d1, d2], _ => rfl
theorem k0 : (Rows.execEndsRow.wf (OpenSpec.ofChange Rows.execEndsSpec)) = true := by kernel_rfl
theorem k1 : (Try.f31.params.all (Try.prog.readableRec ·)) = true := by kernel_rfl
theorem k2 : (namedTie Try.prog Rows.execEndsRow.named Rows.execEndsSpec.vars) = true := by kernel_rfl
theorem k3 : ((Rows.execEndsRow.stops == [])) = true := by kernel_rfl
theorem k4 : ((Rows.execEndsRow.knobs == [])) = true := by kernel_rfl
theorem k5 : ((Rows.execEndsRow.inPlace == Try.prog.inPlace 31)) = true := by kernel_rfl
theorem k6 : ((Rows.execEndsRow.unfollowed == Try.prog.unfollowed 31)) = true := by kernel_rfl
theorem k7 : ((Rows.execEndsRow.recurses == Try.prog.recurses 31)) = true := by kernel_rfl
theorem k8 : ((Rows.execEndsRow.named == Try.prog.varsNamed 31)) = true := by kernel_rfl
theorem k9 : ((Rows.execEndsRow.maps == (Try.f31.params.toList ++ Rows.execEndsSpec.plain.varTypes Try.prog).any (Try.prog.mapsRec ·))) = true := by kernel_rfl
theorem k10 : ((Rows.execEndsRow.ifaces == (Try.f31.params.toList ++ Rows.execEndsSpec.plain.varTypes Try.prog).any (Try.prog.ifacesRec ·))) = true := by kernel_rfl
theorem k11 : ((Rows.execEndsRow.mapsOut == Try.prog.mapsAmong Try.f31.resultTypes.toList)) = true := by kernel_rfl
theorem k12 : ((Rows.execEndsRow.loops == (Try.f31.params.toList ++ Rows.execEndsSpec.plain.varTypes Try.prog).any (Try.prog.loopsFrom ·))) = true := by kernel_rfl
theorem k13 : ((Rows.execEndsRow.wideKeys == (Try.f31.params.toList ++ Rows.execEndsSpec.plain.varTypes Try.prog ++ Try.f31.resultTypes.toList).any (Try.prog.wideKeysFrom ·))) = true := by kernel_rfl
theorem k14 : (Rows.execEndsSpec.vars.all (Try.prog.varReadable ·)) = true := by kernel_rfl
theorem k15 : (Try.f31.resultTypes.all (fun t => Try.prog.readableRec t && decide (t < Try.prog.types.size))) = true := by kernel_rfl
theorem k16 : ((Rows.execEndsRow.ifacesOut == Try.f31.resultTypes.toList.any (Try.prog.ifacesRec ·))) = true := by kernel_rfl
theorem k17 : ((Rows.execEndsRow.loopsOut == Try.f31.resultTypes.toList.any (Try.prog.loopsFrom ·))) = true := by kernel_rfl
theorem k18 : (Rows.execEndsRow.shortTexts.isNone) = true := by kernel_rfl
theorem k19 : ((Rows.execEndsRow.pinned == Rows.execEndsRow.pinnedBy)) = true := by kernel_rfl
theorem k20 : ((Rows.execEndsRow.veiled == (Try.f31.params.toList ++ Rows.execEndsSpec.plain.varTypes Try.prog ++ Try.f31.resultTypes.toList).any (Try.prog.veiledRec ·))) = true := by kernel_rfl
theorem k21 : (Rows.execEndsRow.veiledFits Try.prog Try.f31.params.toList (Try.f31.params.toList ++ Rows.execEndsSpec.plain.varTypes Try.prog ++ Try.f31.resultTypes.toList)) = true := by kernel_rfl
theorem g0 : (Try.prog.stops == []) = true := by rw [Rw.stops]; rfl
theorem g1 : (Try.prog.stopKnobs == []) = true := by rw [Rw.stopKnobs]; rfl
theorem g2 : (Rows.execEndsRow.plainKeys == Try.prog.plainKeys) = true := by rw [Rw.plainKeys]; rfl
theorem g3 : (Rows.execEndsRow.lifted == Try.prog.liftsFinal) = true := by rw [Rw.lifts]; rfl
theorem g4 : (Try.prog.make == some Rows.execEndsRow.make) = true := by rw [Rw.make]; rfl
theorem closed : joinedFacts Try.prog 31 Try.f31 Rows.execEndsSpec Rows.execEndsRow = true := by
  unfold joinedFacts
  simp only [Rw.laid, Rw.maps, Rw.stopsHeard, Rw.mayEnter, g0, g1, g2, g3, g4, k0, k1, k2, k3, k4, k5, k6, k7, k8, k9, k10, k11, k12, k13, k14, k15, k16, k17, k18, k19, k20, k21, Bool.and_true]
  kernel_rfl
theorem named : Try.prog.funcNamed Rows.execEndsRow.func = some 31 := by kernel_rfl
theorem inst : Try.f31.isInstance Try.prog Rows.execEndsRow.origin Rows.execEndsRow.targs := of_decide_eq_true (by kernel_rfl)
theorem wrap : Try.f31.isWrapper Try.prog Rows.execEndsRow.wrapper Rows.execEndsRow.mainSum := by
  unfold Func.isWrapper
  rw [if_neg (by decide +kernel)]
  exact ⟨rfl, rfl⟩
theorem over : Rows.execEndsRow.holds Try.pinned (OpenSpec.ofChange Rows.execEndsSpec) :=
  OpenClaim.holds_of_wide 31 Try.f31 rfl rfl rfl rfl rfl rfl rfl ⟨rfl, rfl, rfl, rfl, rfl⟩ rfl rfl rfl rfl rfl named Try.func31 closed inst wrap
    (fun os started H enc _ => lifted os started H enc)
theorem proved : Rows.ExecEndsSaid := over
#print axioms proved
end Go.Proofs.Ytamjcdfjkekdjaa.execEnds
namespace Go.Proofs.Ytamjcdfjkekdjaa
/-- The row, under a short name, for the claim. -/
theorem execEnds_holds : Rows.ExecEndsSaid := execEnds.proved
end Go.Proofs.Ytamjcdfjkekdjaa
