/- The law CoherTurned returns true whatever its input, and its input reads behind the call as it did before; no conditions. -/
import Derived.Test.YtclegllogeanlaaCoherTurnedWalk
import Derived.Test.YtclegllogeanlaaShapeC
import Derived.Test.YtclegllogeanlaaRowB
import Derived.Test.YtclegllogeanlaaShapeB
set_option linter.unusedSimpArgs false
set_option linter.unusedVariables false
set_option autoImplicit false
set_option linter.constructorNameAsVariable false
namespace Go.Proofs.Ytclegllogeanlaa.coherTurned
open Go.ChangeShapes Go.WideShapes Go.ChangeAt Go.RowKit Go.Eng
theorem law (av : List AV) (h : ShapeAll Try.prog 8 Try.f4.params.toList av) : SC Try.prog 4 av (B true) := by
  rw [Try.params4] at h
  obtain ⟨a, _, rfl, h0, b, _, rfl, h1, c, _, rfl, h2, d, _, rfl, h3, rfl⟩ := h
  obtain ⟨l, rfl, hll, hlw⟩ := sa_events h0
  obtain ⟨w, rfl, ww⟩ := sa_int Try.underlying40 (by simp) h1
  obtain ⟨i, rfl, wi⟩ := sa_int Try.underlying5 (by simp) h2
  obtain ⟨k, rfl, wk⟩ := sa_int Try.underlying5 (by simp) h3
  obtain ⟨w2, rfl, hw2⟩ := wf16 ww
  obtain ⟨i2, rfl, hi2⟩ := wf8 wi
  obtain ⟨k2, rfl, hk2⟩ := wf8 wk
  exact law_CoherTurned hll hw2 hi2 hk2
set_option maxRecDepth 100000 in
theorem lifted (os : Os) (started : os.Started) (H : Type) (enc : TypeId × Value → H) :
    ReturnsInHanded {} Try.checked os 4 .any (Rows.coherTurnedSpec.pre6 enc Try.prog Try.f4 Rows.coherTurnedRow.domain false) (Rows.coherTurnedSpec.post enc Try.prog Try.f4 false true false false) := by
  refine law_lifted (C := Try.checked) 8 Rw.own started (by kernel_rfl) Try.func4
    (ChangeSpec.witness6 (enc := enc) (C := Try.checked) false ⟨#[], #[.slice none 0 0, .int .u16 0, .int .u8 0, .int .u8 0], []⟩ 8 (by kernel_rfl) (by kernel_rfl) (by kernel_rfl) (by kernel_rfl))
    Rw.laid (by kernel_rfl) rfl rfl Try.underlying4 ?_ law
  intro ds hl
  rw [Try.params4] at hl
  match ds, hl with
  | [d1, d2, d3, d4], _ => rfl
theorem k0 : (Rows.coherTurnedRow.wf (OpenSpec.ofChange Rows.coherTurnedSpec)) = true := by kernel_rfl
theorem k1 : (Try.f4.params.all (Try.prog.readableRec ·)) = true := by kernel_rfl
theorem k2 : (namedTie Try.prog Rows.coherTurnedRow.named Rows.coherTurnedSpec.vars) = true := by kernel_rfl
theorem k3 : ((Rows.coherTurnedRow.stops == [])) = true := by kernel_rfl
theorem k4 : ((Rows.coherTurnedRow.knobs == [])) = true := by kernel_rfl
theorem k5 : ((Rows.coherTurnedRow.inPlace == Try.prog.inPlace 4)) = true := by kernel_rfl
theorem k6 : ((Rows.coherTurnedRow.unfollowed == Try.prog.unfollowed 4)) = true := by kernel_rfl
theorem k7 : ((Rows.coherTurnedRow.recurses == Try.prog.recurses 4)) = true := by kernel_rfl
theorem k8 : ((Rows.coherTurnedRow.named == Try.prog.varsNamed 4)) = true := by kernel_rfl
theorem k9 : ((Rows.coherTurnedRow.maps == (Try.f4.params.toList ++ Rows.coherTurnedSpec.plain.varTypes Try.prog).any (Try.prog.mapsRec ·))) = true := by kernel_rfl
theorem k10 : ((Rows.coherTurnedRow.ifaces == (Try.f4.params.toList ++ Rows.coherTurnedSpec.plain.varTypes Try.prog).any (Try.prog.ifacesRec ·))) = true := by kernel_rfl
theorem k11 : ((Rows.coherTurnedRow.mapsOut == Try.prog.mapsAmong Try.f4.resultTypes.toList)) = true := by kernel_rfl
theorem k12 : ((Rows.coherTurnedRow.loops == (Try.f4.params.toList ++ Rows.coherTurnedSpec.plain.varTypes Try.prog).any (Try.prog.loopsFrom ·))) = true := by kernel_rfl
theorem k13 : ((Rows.coherTurnedRow.wideKeys == (Try.f4.params.toList ++ Rows.coherTurnedSpec.plain.varTypes Try.prog ++ Try.f4.resultTypes.toList).any (Try.prog.wideKeysFrom ·))) = true := by kernel_rfl
theorem k14 : (Rows.coherTurnedSpec.vars.all (Try.prog.varReadable ·)) = true := by kernel_rfl
theorem k15 : (Try.f4.resultTypes.all (fun t => Try.prog.readableRec t && decide (t < Try.prog.types.size))) = true := by kernel_rfl
theorem k16 : ((Rows.coherTurnedRow.ifacesOut == Try.f4.resultTypes.toList.any (Try.prog.ifacesRec ·))) = true := by kernel_rfl
theorem k17 : ((Rows.coherTurnedRow.loopsOut == Try.f4.resultTypes.toList.any (Try.prog.loopsFrom ·))) = true := by kernel_rfl
theorem k18 : (Rows.coherTurnedRow.shortTexts.isNone) = true := by kernel_rfl
theorem k19 : ((Rows.coherTurnedRow.pinned == Rows.coherTurnedRow.pinnedBy)) = true := by kernel_rfl
theorem k20 : ((Rows.coherTurnedRow.veiled == (Try.f4.params.toList ++ Rows.coherTurnedSpec.plain.varTypes Try.prog ++ Try.f4.resultTypes.toList).any (Try.prog.veiledRec ·))) = true := by kernel_rfl
theorem k21 : (Rows.coherTurnedRow.veiledFits Try.prog Try.f4.params.toList (Try.f4.params.toList ++ Rows.coherTurnedSpec.plain.varTypes Try.prog ++ Try.f4.resultTypes.toList)) = true := by kernel_rfl
theorem g0 : (Try.prog.stops == []) = true := by rw [Rw.stops]; rfl
theorem g1 : (Try.prog.stopKnobs == []) = true := by rw [Rw.stopKnobs]; rfl
theorem g2 : (Rows.coherTurnedRow.plainKeys == Try.prog.plainKeys) = true := by rw [Rw.plainKeys]; rfl
theorem g3 : (Rows.coherTurnedRow.lifted == Try.prog.liftsFinal) = true := by rw [Rw.lifts]; rfl
theorem g4 : (Try.prog.make == some Rows.coherTurnedRow.make) = true := by rw [Rw.make]; rfl
theorem closed : joinedFacts Try.prog 4 Try.f4 Rows.coherTurnedSpec Rows.coherTurnedRow = true := by
  unfold joinedFacts
  simp only [Rw.laid, Rw.maps, Rw.stopsHeard, Rw.mayEnter, g0, g1, g2, g3, g4, k0, k1, k2, k3, k4, k5, k6, k7, k8, k9, k10, k11, k12, k13, k14, k15, k16, k17, k18, k19, k20, k21, Bool.and_true]
  kernel_rfl
theorem named : Try.prog.funcNamed Rows.coherTurnedRow.func = some 4 := by kernel_rfl
theorem inst : Try.f4.isInstance Try.prog Rows.coherTurnedRow.origin Rows.coherTurnedRow.targs := of_decide_eq_true (by kernel_rfl)
theorem wrap : Try.f4.isWrapper Try.prog Rows.coherTurnedRow.wrapper Rows.coherTurnedRow.mainSum := by
  unfold Func.isWrapper
  rw [if_neg (by decide +kernel)]
  exact ⟨rfl, rfl⟩
theorem over : Rows.coherTurnedRow.holds Try.pinned (OpenSpec.ofChange Rows.coherTurnedSpec) :=
  OpenClaim.holds_of_wide 4 Try.f4 rfl rfl rfl rfl rfl rfl rfl ⟨rfl, rfl, rfl, rfl, rfl⟩ rfl rfl rfl rfl rfl named Try.func4 closed inst wrap
    (fun os started H enc _ => lifted os started H enc)
theorem proved : Rows.CoherTurnedSaid := over
#print axioms proved
end Go.Proofs.Ytclegllogeanlaa.coherTurned
namespace Go.Proofs.Ytclegllogeanlaa
/-- The row, under a short name, for the claim. -/
theorem coherTurned_holds : Rows.CoherTurnedSaid := coherTurned.proved
end Go.Proofs.Ytclegllogeanlaa
