/- The law CoherUnlike returns true whatever its input, and its input reads behind the call as it did before; no conditions. -/
import Derived.Test.YtclegllogeanlaaCoherUnlikeWalk
import Derived.Test.YtclegllogeanlaaShapeC
import Derived.Test.YtclegllogeanlaaRowB
import Derived.Test.YtclegllogeanlaaShapeB
set_option linter.unusedSimpArgs false
set_option linter.unusedVariables false
set_option autoImplicit false
set_option linter.constructorNameAsVariable false
namespace Go.Proofs.Ytclegllogeanlaa.coherUnlike
open Go.ChangeShapes Go.WideShapes Go.ChangeAt Go.RowKit Go.Eng
theorem law (av : List AV) (h : ShapeAll Try.prog 8 Try.f5.params.toList av) : SC Try.prog 5 av (B true) := by
  rw [Try.params5] at h
  obtain ⟨a, _, rfl, h0, b, _, rfl, h1, rfl⟩ := h
  obtain ⟨l, rfl, hll, hlw⟩ := sa_events h0
  obtain ⟨w, rfl, ww⟩ := sa_int Try.underlying5 (by simp) h1
  obtain ⟨w2, rfl, hw2⟩ := wf8 ww
  exact law_CoherUnlike hll hw2
set_option maxRecDepth 100000 in
theorem lifted (os : Os) (started : os.Started) (H : Type) (enc : TypeId × Value → H) :
    ReturnsInHanded {} Try.checked os 5 .any (Rows.coherUnlikeSpec.pre6 enc Try.prog Try.f5 Rows.coherUnlikeRow.domain false) (Rows.coherUnlikeSpec.post enc Try.prog Try.f5 false true false false) := by
  refine law_lifted (C := Try.checked) 8 Rw.own started (by kernel_rfl) Try.func5
    (ChangeSpec.witness6 (enc := enc) (C := Try.checked) false ⟨#[], #[.slice none 0 0, .int .u8 0], []⟩ 8 (by kernel_rfl) (by kernel_rfl) (by kernel_rfl) (by kernel_rfl))
    Rw.laid (by kernel_rfl) rfl rfl Try.underlying4 ?_ law
  intro ds hl
  rw [Try.params5] at hl
  match ds, hl with
  | [d1, d2], _ => rfl
theorem k0 : (Rows.coherUnlikeRow.wf (OpenSpec.ofChange Rows.coherUnlikeSpec)) = true := by kernel_rfl
theorem k1 : (Try.f5.params.all (Try.prog.readableRec ·)) = true := by kernel_rfl
theorem k2 : (namedTie Try.prog Rows.coherUnlikeRow.named Rows.coherUnlikeSpec.vars) = true := by kernel_rfl
theorem k3 : ((Rows.coherUnlikeRow.stops == [])) = true := by kernel_rfl
theorem k4 : ((Rows.coherUnlikeRow.knobs == [])) = true := by kernel_rfl
theorem k5 : ((Rows.coherUnlikeRow.inPlace == Try.prog.inPlace 5)) = true := by kernel_rfl
theorem k6 : ((Rows.coherUnlikeRow.unfollowed == Try.prog.unfollowed 5)) = true := by kernel_rfl
theorem k7 : ((Rows.coherUnlikeRow.recurses == Try.prog.recurses 5)) = true := by kernel_rfl
theorem k8 : ((Rows.coherUnlikeRow.named == Try.prog.varsNamed 5)) = true := by kernel_rfl
theorem k9 : ((Rows.coherUnlikeRow.maps == (Try.f5.params.toList ++ Rows.coherUnlikeSpec.plain.varTypes Try.prog).any (Try.prog.mapsRec ·))) = true := by kernel_rfl
theorem k10 : ((Rows.coherUnlikeRow.ifaces == (Try.f5.params.toList ++ Rows.coherUnlikeSpec.plain.varTypes Try.prog).any (Try.prog.ifacesRec ·))) = true := by kernel_rfl
theorem k11 : ((Rows.coherUnlikeRow.mapsOut == Try.prog.mapsAmong Try.f5.resultTypes.toList)) = true := by kernel_rfl
theorem k12 : ((Rows.coherUnlikeRow.loops == (Try.f5.params.toList ++ Rows.coherUnlikeSpec.plain.varTypes Try.prog).any (Try.prog.loopsFrom ·))) = true := by kernel_rfl
theorem k13 : ((Rows.coherUnlikeRow.wideKeys == (Try.f5.params.toList ++ Rows.coherUnlikeSpec.plain.varTypes Try.prog ++ Try.f5.resultTypes.toList).any (Try.prog.wideKeysFrom ·))) = true := by kernel_rfl
theorem k14 : (Rows.coherUnlikeSpec.vars.all (Try.prog.varReadable ·)) = true := by kernel_rfl
theorem k15 : (Try.f5.resultTypes.all (fun t => Try.prog.readableRec t && decide (t < Try.prog.types.size))) = true := by kernel_rfl
theorem k16 : ((Rows.coherUnlikeRow.ifacesOut == Try.f5.resultTypes.toList.any (Try.prog.ifacesRec ·))) = true := by kernel_rfl
theorem k17 : ((Rows.coherUnlikeRow.loopsOut == Try.f5.resultTypes.toList.any (Try.prog.loopsFrom ·))) = true := by kernel_rfl
theorem k18 : (Rows.coherUnlikeRow.shortTexts.isNone) = true := by kernel_rfl
theorem k19 : ((Rows.coherUnlikeRow.pinned == Rows.coherUnlikeRow.pinnedBy)) = true := by kernel_rfl
theorem k20 : ((Rows.coherUnlikeRow.veiled == (Try.f5.params.toList ++ Rows.coherUnlikeSpec.plain.varTypes Try.prog ++ Try.f5.resultTypes.toList).any (Try.prog.veiledRec ·))) = true := by kernel_rfl
theorem k21 : (Rows.coherUnlikeRow.veiledFits Try.prog Try.f5.params.toList (Try.f5.params.toList ++ Rows.coherUnlikeSpec.plain.varTypes Try.prog ++ Try.f5.resultTypes.toList)) = true := by kernel_rfl
theorem g0 : (Try.prog.stops == []) = true := by rw [Rw.stops]; rfl
theorem g1 : (Try.prog.stopKnobs == []) = true := by rw [Rw.stopKnobs]; rfl
theorem g2 : (Rows.coherUnlikeRow.plainKeys == Try.prog.plainKeys) = true := by rw [Rw.plainKeys]; rfl
theorem g3 : (Rows.coherUnlikeRow.lifted == Try.prog.liftsFinal) = true := by rw [Rw.lifts]; rfl
theorem g4 : (Try.prog.make == some Rows.coherUnlikeRow.make) = true := by rw [Rw.make]; rfl
theorem closed : joinedFacts Try.prog 5 Try.f5 Rows.coherUnlikeSpec Rows.coherUnlikeRow = true := by
  unfold joinedFacts
  simp only [Rw.laid, Rw.maps, Rw.stopsHeard, Rw.mayEnter, g0, g1, g2, g3, g4, k0, k1, k2, k3, k4, k5, k6, k7, k8, k9, k10, k11, k12, k13, k14, k15, k16, k17, k18, k19, k20, k21, Bool.and_true]
  kernel_rfl
theorem named : Try.prog.funcNamed Rows.coherUnlikeRow.func = some 5 := by kernel_rfl
theorem inst : Try.f5.isInstance Try.prog Rows.coherUnlikeRow.origin Rows.coherUnlikeRow.targs := of_decide_eq_true (by kernel_rfl)
theorem wrap : Try.f5.isWrapper Try.prog Rows.coherUnlikeRow.wrapper Rows.coherUnlikeRow.mainSum := by
  unfold Func.isWrapper
  rw [if_neg (by decide +kernel)]
  exact ⟨rfl, rfl⟩
theorem over : Rows.coherUnlikeRow.holds Try.pinned (OpenSpec.ofChange Rows.coherUnlikeSpec) :=
  OpenClaim.holds_of_wide 5 Try.f5 rfl rfl rfl rfl rfl rfl rfl ⟨rfl, rfl, rfl, rfl, rfl⟩ rfl rfl rfl rfl rfl named Try.func5 closed inst wrap
    (fun os started H enc _ => lifted os started H enc)
theorem proved : Rows.CoherUnlikeSaid := over
#print axioms proved
end Go.Proofs.Ytclegllogeanlaa.coherUnlike
namespace Go.Proofs.Ytclegllogeanlaa
/-- The row, under a short name, for the claim. -/
theorem coherUnlike_holds : Rows.CoherUnlikeSaid := coherUnlike.proved
end Go.Proofs.Ytclegllogeanlaa
