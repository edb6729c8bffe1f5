/- The law DeriveFr returns true whatever its input, and its input reads behind the call as it did before; no conditions. -/
import Derived.Test.YtclegllogeanlaaDeriveFrWalk
import Derived.Test.YtclegllogeanlaaShapeC
import Derived.Test.YtclegllogeanlaaRowB
import Derived.Test.YtclegllogeanlaaShapeB
set_option linter.unusedSimpArgs false
set_option linter.unusedVariables false
set_option autoImplicit false
set_option linter.constructorNameAsVariable false
namespace Go.Proofs.Ytclegllogeanlaa.deriveFr
open Go.ChangeShapes Go.WideShapes Go.ChangeAt Go.RowKit Go.Eng
theorem law (av : List AV) (h : ShapeAll Try.prog 8 Try.f9.params.toList av) : SC Try.prog 9 av (B true) := by
  rw [Try.params9] at h
  obtain ⟨a, _, rfl, h0, b, _, rfl, h1, c, _, rfl, h2, d, _, rfl, h3, rfl⟩ := h
  obtain ⟨l, rfl, hll, hlw⟩ := sa_events h0
  obtain ⟨m, rfl, hml, hmw⟩ := sa_nums h1
  obtain ⟨w, rfl, ww⟩ := sa_int Try.underlying40 (by simp) h2
  obtain ⟨v, rfl, wv⟩ := sa_int Try.underlying40 (by simp) h3
  obtain ⟨w2, rfl, hw2⟩ := wf16 ww
  obtain ⟨v2, rfl, hv2⟩ := wf16 wv
  exact law_DeriveFr hll hw2 hv2
set_option maxRecDepth 100000 in
theorem lifted (os : Os) (started : os.Started) (H : Type) (enc : TypeId × Value → H) :
    ReturnsInHanded {} Try.checked os 9 .any (Rows.deriveFrSpec.pre6 enc Try.prog Try.f9 Rows.deriveFrRow.domain false) (Rows.deriveFrSpec.post enc Try.prog Try.f9 false true false false) := by
  refine law_lifted (C := Try.checked) 8 Rw.own started (by kernel_rfl) Try.func9
    (ChangeSpec.witness6 (enc := enc) (C := Try.checked) false ⟨#[], #[.slice none 0 0, .slice none 0 0, .int .u16 0, .int .u16 0], []⟩ 8 (by kernel_rfl) (by kernel_rfl) (by kernel_rfl) (by kernel_rfl))
    Rw.laid (by kernel_rfl) rfl rfl Try.underlying4 ?_ law
  intro ds hl
  rw [Try.params9] at hl
  match ds, hl with
  | [d1, d2, d3, d4], _ => rfl
theorem k0 : (Rows.deriveFrRow.wf (OpenSpec.ofChange Rows.deriveFrSpec)) = true := by kernel_rfl
theorem k1 : (Try.f9.params.all (Try.prog.readableRec ·)) = true := by kernel_rfl
theorem k2 : (namedTie Try.prog Rows.deriveFrRow.named Rows.deriveFrSpec.vars) = true := by kernel_rfl
theorem k3 : ((Rows.deriveFrRow.stops == [])) = true := by kernel_rfl
theorem k4 : ((Rows.deriveFrRow.knobs == [])) = true := by kernel_rfl
theorem k5 : ((Rows.deriveFrRow.inPlace == Try.prog.inPlace 9)) = true := by kernel_rfl
theorem k6 : ((Rows.deriveFrRow.unfollowed == Try.prog.unfollowed 9)) = true := by kernel_rfl
theorem k7 : ((Rows.deriveFrRow.recurses == Try.prog.recurses 9)) = true := by kernel_rfl
theorem k8 : ((Rows.deriveFrRow.named == Try.prog.varsNamed 9)) = true := by kernel_rfl
theorem k9 : ((Rows.deriveFrRow.maps == (Try.f9.params.toList ++ Rows.deriveFrSpec.plain.varTypes Try.prog).any (Try.prog.mapsRec ·))) = true := by kernel_rfl
theorem k10 : ((Rows.deriveFrRow.ifaces == (Try.f9.params.toList ++ Rows.deriveFrSpec.plain.varTypes Try.prog).any (Try.prog.ifacesRec ·))) = true := by kernel_rfl
theorem k11 : ((Rows.deriveFrRow.mapsOut == Try.prog.mapsAmong Try.f9.resultTypes.toList)) = true := by kernel_rfl
theorem k12 : ((Rows.deriveFrRow.loops == (Try.f9.params.toList ++ Rows.deriveFrSpec.plain.varTypes Try.prog).any (Try.prog.loopsFrom ·))) = true := by kernel_rfl
theorem k13 : ((Rows.deriveFrRow.wideKeys == (Try.f9.params.toList ++ Rows.deriveFrSpec.plain.varTypes Try.prog ++ Try.f9.resultTypes.toList).any (Try.prog.wideKeysFrom ·))) = true := by kernel_rfl
theorem k14 : (Rows.deriveFrSpec.vars.all (Try.prog.varReadable ·)) = true := by kernel_rfl
theorem k15 : (Try.f9.resultTypes.all (fun t => Try.prog.readableRec t && decide (t < Try.prog.types.size))) = true := by kernel_rfl
theorem k16 : ((Rows.deriveFrRow.ifacesOut == Try.f9.resultTypes.toList.any (Try.prog.ifacesRec ·))) = true := by kernel_rfl
theorem k17 : ((Rows.deriveFrRow.loopsOut == Try.f9.resultTypes.toList.any (Try.prog.loopsFrom ·))) = true := by kernel_rfl
theorem k18 : (Rows.deriveFrRow.shortTexts.isNone) = true := by kernel_rfl
theorem k19 : ((Rows.deriveFrRow.pinned == Rows.deriveFrRow.pinnedBy)) = true := by kernel_rfl
theorem k20 : ((Rows.deriveFrRow.veiled == (Try.f9.params.toList ++ Rows.deriveFrSpec.plain.varTypes Try.prog ++ Try.f9.resultTypes.toList).any (Try.prog.veiledRec ·))) = true := by kernel_rfl
theorem k21 : (Rows.deriveFrRow.veiledFits Try.prog Try.f9.params.toList (Try.f9.params.toList ++ Rows.deriveFrSpec.plain.varTypes Try.prog ++ Try.f9.resultTypes.toList)) = true := by kernel_rfl
theorem g0 : (Try.prog.stops == []) = true := by rw [Rw.stops]; rfl
theorem g1 : (Try.prog.stopKnobs == []) = true := by rw [Rw.stopKnobs]; rfl
theorem g2 : (Rows.deriveFrRow.plainKeys == Try.prog.plainKeys) = true := by rw [Rw.plainKeys]; rfl
theorem g3 : (Rows.deriveFrRow.lifted == Try.prog.liftsFinal) = true := by rw [Rw.lifts]; rfl
theorem g4 : (Try.prog.make == some Rows.deriveFrRow.make) = true := by rw [Rw.make]; rfl
theorem closed : joinedFacts Try.prog 9 Try.f9 Rows.deriveFrSpec Rows.deriveFrRow = true := by
  unfold joinedFacts
  simp only [Rw.laid, Rw.maps, Rw.stopsHeard, Rw.mayEnter, g0, g1, g2, g3, g4, k0, k1, k2, k3, k4, k5, k6, k7, k8, k9, k10, k11, k12, k13, k14, k15, k16, k17, k18, k19, k20, k21, Bool.and_true]
  kernel_rfl
theorem named : Try.prog.funcNamed Rows.deriveFrRow.func = some 9 := by kernel_rfl
theorem inst : Try.f9.isInstance Try.prog Rows.deriveFrRow.origin Rows.deriveFrRow.targs := of_decide_eq_true (by kernel_rfl)
theorem wrap : Try.f9.isWrapper Try.prog Rows.deriveFrRow.wrapper Rows.deriveFrRow.mainSum := by
  unfold Func.isWrapper
  rw [if_neg (by decide +kernel)]
  exact ⟨rfl, rfl⟩
theorem over : Rows.deriveFrRow.holds Try.pinned (OpenSpec.ofChange Rows.deriveFrSpec) :=
  OpenClaim.holds_of_wide 9 Try.f9 rfl rfl rfl rfl rfl rfl rfl ⟨rfl, rfl, rfl, rfl, rfl⟩ rfl rfl rfl rfl rfl named Try.func9 closed inst wrap
    (fun os started H enc _ => lifted os started H enc)
theorem proved : Rows.DeriveFrSaid := over
#print axioms proved
end Go.Proofs.Ytclegllogeanlaa.deriveFr
namespace Go.Proofs.Ytclegllogeanlaa
/-- The row, under a short name, for the claim. -/
theorem deriveFr_holds : Rows.DeriveFrSaid := deriveFr.proved
end Go.Proofs.Ytclegllogeanlaa
