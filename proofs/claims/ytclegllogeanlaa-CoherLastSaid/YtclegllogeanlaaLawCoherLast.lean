/- The law CoherLast returns true whatever its input, and its input reads behind the call as it did before; no conditions. -/
import Derived.Test.YtclegllogeanlaaCoherLastWalk
import Derived.Test.YtclegllogeanlaaShapeC
import Derived.Test.YtclegllogeanlaaRowB
import Derived.Test.YtclegllogeanlaaShapeB
set_option linter.unusedSimpArgs false
set_option linter.unusedVariables false
set_option autoImplicit false
set_option linter.constructorNameAsVariable false
namespace Go.Proofs.Ytclegllogeanlaa.coherLast
open Go.ChangeShapes Go.WideShapes Go.ChangeAt Go.RowKit Go.Eng
theorem law (av : List AV) (h : ShapeAll Try.prog 8 Try.f8.params.toList av) : SC Try.prog 8 av (B true) := by
  rw [Try.params8] at h
  obtain ⟨a, _, rfl, h0, b, _, rfl, h1, c, _, rfl, h2, rfl⟩ := h
  obtain ⟨l, rfl, hll, hlw⟩ := sa_events h0
  obtain ⟨w, rfl, ww⟩ := sa_int Try.underlying40 (by simp) h1
  obtain ⟨w2, rfl, hw2⟩ := wf16 ww
  obtain ⟨m, rfl, hml, hmw⟩ := sa_nums h2
  exact law_CoherLast hll hml hw2
set_option maxRecDepth 100000 in
theorem lifted (os : Os) (started : os.Started) (H : Type) (enc : TypeId × Value → H) :
    ReturnsInHanded {} Try.checked os 8 .any (Rows.coherLastSpec.pre6 enc Try.prog Try.f8 Rows.coherLastRow.domain false) (Rows.coherLastSpec.post enc Try.prog Try.f8 false true false false) := by
  refine law_lifted (C := Try.checked) 8 Rw.own started (by kernel_rfl) Try.func8
    (ChangeSpec.witness6 (enc := enc) (C := Try.checked) false ⟨#[], #[.slice none 0 0, .int .u16 0, .slice none 0 0], []⟩ 8 (by kernel_rfl) (by kernel_rfl) (by kernel_rfl) (by kernel_rfl))
    Rw.laid (by kernel_rfl) rfl rfl Try.underlying4 ?_ law
  intro ds hl
  rw [Try.params8] at hl
  match ds, hl with
  | [d1, d2, d3], _ => rfl
theorem k0 : (Rows.coherLastRow.wf (OpenSpec.ofChange Rows.coherLastSpec)) = true := by kernel_rfl
theorem k1 : (Try.f8.params.all (Try.prog.readableRec ·)) = true := by kernel_rfl
theorem k2 : (namedTie Try.prog Rows.coherLastRow.named Rows.coherLastSpec.vars) = true := by kernel_rfl
theorem k3 : ((Rows.coherLastRow.stops == [])) = true := by kernel_rfl
theorem k4 : ((Rows.coherLastRow.knobs == [])) = true := by kernel_rfl
theorem k5 : ((Rows.coherLastRow.inPlace == Try.prog.inPlace 8)) = true := by kernel_rfl
theorem k6 : ((Rows.coherLastRow.unfollowed == Try.prog.unfollowed 8)) = true := by kernel_rfl
theorem k7 : ((Rows.coherLastRow.recurses == Try.prog.recurses 8)) = true := by kernel_rfl
theorem k8 : ((Rows.coherLastRow.named == Try.prog.varsNamed 8)) = true := by kernel_rfl
theorem k9 : ((Rows.coherLastRow.maps == (Try.f8.params.toList ++ Rows.coherLastSpec.plain.varTypes Try.prog).any (Try.prog.mapsRec ·))) = true := by kernel_rfl
theorem k10 : ((Rows.coherLastRow.ifaces == (Try.f8.params.toList ++ Rows.coherLastSpec.plain.varTypes Try.prog).any (Try.prog.ifacesRec ·))) = true := by kernel_rfl
theorem k11 : ((Rows.coherLastRow.mapsOut == Try.prog.mapsAmong Try.f8.resultTypes.toList)) = true := by kernel_rfl
theorem k12 : ((Rows.coherLastRow.loops == (Try.f8.params.toList ++ Rows.coherLastSpec.plain.varTypes Try.prog).any (Try.prog.loopsFrom ·))) = true := by kernel_rfl
theorem k13 : ((Rows.coherLastRow.wideKeys == (Try.f8.params.toList ++ Rows.coherLastSpec.plain.varTypes Try.prog ++ Try.f8.resultTypes.toList).any (Try.prog.wideKeysFrom ·))) = true := by kernel_rfl
theorem k14 : (Rows.coherLastSpec.vars.all (Try.prog.varReadable ·)) = true := by kernel_rfl
theorem k15 : (Try.f8.resultTypes.all (fun t => Try.prog.readableRec t && decide (t < Try.prog.types.size))) = true := by kernel_rfl
theorem k16 : ((Rows.coherLastRow.ifacesOut == Try.f8.resultTypes.toList.any (Try.prog.ifacesRec ·))) = true := by kernel_rfl
theorem k17 : ((Rows.coherLastRow.loopsOut == Try.f8.resultTypes.toList.any (Try.prog.loopsFrom ·))) = true := by kernel_rfl
theorem k18 : (Rows.coherLastRow.shortTexts.isNone) = true := by kernel_rfl
theorem k19 : ((Rows.coherLastRow.pinned == Rows.coherLastRow.pinnedBy)) = true := by kernel_rfl
theorem k20 : ((Rows.coherLastRow.veiled == (Try.f8.params.toList ++ Rows.coherLastSpec.plain.varTypes Try.prog ++ Try.f8.resultTypes.toList).any (Try.prog.veiledRec ·))) = true := by kernel_rfl
theorem k21 : (Rows.coherLastRow.veiledFits Try.prog Try.f8.params.toList (Try.f8.params.toList ++ Rows.coherLastSpec.plain.varTypes Try.prog ++ Try.f8.resultTypes.toList)) = true := by kernel_rfl
theorem g0 : (Try.prog.stops == []) = true := by rw [Rw.stops]; rfl
theorem g1 : (Try.prog.stopKnobs == []) = true := by rw [Rw.stopKnobs]; rfl
theorem g2 : (Rows.coherLastRow.plainKeys == Try.prog.plainKeys) = true := by rw [Rw.plainKeys]; rfl
theorem g3 : (Rows.coherLastRow.lifted == Try.prog.liftsFinal) = true := by rw [Rw.lifts]; rfl
theorem g4 : (Try.prog.make == some Rows.coherLastRow.make) = true := by rw [Rw.make]; rfl
theorem closed : joinedFacts Try.prog 8 Try.f8 Rows.coherLastSpec Rows.coherLastRow = true := by
  unfold joinedFacts
  simp only [Rw.laid, Rw.maps, Rw.stopsHeard, Rw.mayEnter, g0, g1, g2, g3, g4, k0, k1, k2, k3, k4, k5, k6, k7, k8, k9, k10, k11, k12, k13, k14, k15, k16, k17, k18, k19, k20, k21, Bool.and_true]
  kernel_rfl
theorem named : Try.prog.funcNamed Rows.coherLastRow.func = some 8 := by kernel_rfl
theorem inst : Try.f8.isInstance Try.prog Rows.coherLastRow.origin Rows.coherLastRow.targs := of_decide_eq_true (by kernel_rfl)
theorem wrap : Try.f8.isWrapper Try.prog Rows.coherLastRow.wrapper Rows.coherLastRow.mainSum := by
  unfold Func.isWrapper
  rw [if_neg (by decide +kernel)]
  exact ⟨rfl, rfl⟩
theorem over : Rows.coherLastRow.holds Try.pinned (OpenSpec.ofChange Rows.coherLastSpec) :=
  OpenClaim.holds_of_wide 8 Try.f8 rfl rfl rfl rfl rfl rfl rfl ⟨rfl, rfl, rfl, rfl, rfl⟩ rfl rfl rfl rfl rfl named Try.func8 closed inst wrap
    (fun os started H enc _ => lifted os started H enc)
theorem proved : Rows.CoherLastSaid := over
#print axioms proved
end Go.Proofs.Ytclegllogeanlaa.coherLast
namespace Go.Proofs.Ytclegllogeanlaa
/-- The row, under a short name, for the claim. -/
theorem coherLast_holds : Rows.CoherLastSaid := coherLast.proved
end Go.Proofs.Ytclegllogeanlaa
