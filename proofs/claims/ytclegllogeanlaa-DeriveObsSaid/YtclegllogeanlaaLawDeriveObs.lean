/- The law DeriveObs returns true whatever its input, and its input reads behind the call as it did before; no conditions. -/
import Derived.Test.YtclegllogeanlaaDeriveObsWalk
import Derived.Test.YtclegllogeanlaaShapeC
import Derived.Test.YtclegllogeanlaaRowB
import Derived.Test.YtclegllogeanlaaShapeB
set_option linter.unusedSimpArgs false
set_option linter.unusedVariables false
set_option autoImplicit false
set_option linter.constructorNameAsVariable false
namespace Go.Proofs.Ytclegllogeanlaa.deriveObs
open Go.ChangeShapes Go.WideShapes Go.ChangeAt Go.RowKit Go.Eng
theorem law (av : List AV) (h : ShapeAll Try.prog 8 Try.f11.params.toList av) : SC Try.prog 11 av (B true) := by
  rw [Try.params11] at h
  obtain ⟨a, _, rfl, h0, b, _, rfl, h1, c, _, rfl, h2, d, _, rfl, h3, rfl⟩ := h
  obtain ⟨l, rfl, hll, hlw⟩ := sa_events h0
  obtain ⟨m, rfl, hml, hmw⟩ := sa_nums h1
  obtain ⟨w, rfl, ww⟩ := sa_int Try.underlying40 (by simp) h2
  obtain ⟨v, rfl, wv⟩ := sa_int Try.underlying40 (by simp) h3
  obtain ⟨w2, rfl, hw2⟩ := wf16 ww
  obtain ⟨v2, rfl, hv2⟩ := wf16 wv
  exact law_DeriveObs hll hw2 hv2
set_option maxRecDepth 100000 in
theorem lifted (os : Os) (started : os.Started) (H : Type) (enc : TypeId × Value → H) :
    ReturnsInHanded {} Try.checked os 11 .any (Rows.deriveObsSpec.pre6 enc Try.prog Try.f11 Rows.deriveObsRow.domain false) (Rows.deriveObsSpec.post enc Try.prog Try.f11 false true false false) := by
  refine law_lifted (C := Try.checked) 8 Rw.own started (by kernel_rfl) Try.func11
    (ChangeSpec.witness6 (enc := enc) (C := Try.checked) false ⟨#[], #[.slice none 0 0, .slice none 0 0, .int .u16 0, .int .u16 0], []⟩ 8 (by kernel_rfl) (by kernel_rfl) (by kernel_rfl) (by kernel_rfl))
    Rw.laid (by kernel_rfl) rfl rfl Try.underlying4 ?_ law
  intro ds hl
  rw [Try.params11] at hl
  match ds, hl with
  | [d1, d2, d3, d4], _ => rfl
theorem k0 : (Rows.deriveObsRow.wf (OpenSpec.ofChange Rows.deriveObsSpec)) = true := by kernel_rfl
theorem k1 : (Try.f11.params.all (Try.prog.readableRec ·)) = true := by kernel_rfl
theorem k2 : (namedTie Try.prog Rows.deriveObsRow.named Rows.deriveObsSpec.vars) = true := by kernel_rfl
theorem k3 : ((Rows.deriveObsRow.stops == [])) = true := by kernel_rfl
theorem k4 : ((Rows.deriveObsRow.knobs == [])) = true := by kernel_rfl
theorem k5 : ((Rows.deriveObsRow.inPlace == Try.prog.inPlace 11)) = true := by kernel_rfl
theorem k6 : ((Rows.deriveObsRow.unfollowed == Try.prog.unfollowed 11)) = true := by kernel_rfl
theorem k7 : ((Rows.deriveObsRow.recurses == Try.prog.recurses 11)) = true := by kernel_rfl
theorem k8 : ((Rows.deriveObsRow.named == Try.prog.varsNamed 11)) = true := by kernel_rfl
theorem k9 : ((Rows.deriveObsRow.maps == (Try.f11.params.toList ++ Rows.deriveObsSpec.plain.varTypes Try.prog).any (Try.prog.mapsRec ·))) = true := by kernel_rfl
theorem k10 : ((Rows.deriveObsRow.ifaces == (Try.f11.params.toList ++ Rows.deriveObsSpec.plain.varTypes Try.prog).any (Try.prog.ifacesRec ·))) = true := by kernel_rfl
theorem k11 : ((Rows.deriveObsRow.mapsOut == Try.prog.mapsAmong Try.f11.resultTypes.toList)) = true := by kernel_rfl
theorem k12 : ((Rows.deriveObsRow.loops == (Try.f11.params.toList ++ Rows.deriveObsSpec.plain.varTypes Try.prog).any (Try.prog.loopsFrom ·))) = true := by kernel_rfl
theorem k13 : ((Rows.deriveObsRow.wideKeys == (Try.f11.params.toList ++ Rows.deriveObsSpec.plain.varTypes Try.prog ++ Try.f11.resultTypes.toList).any (Try.prog.wideKeysFrom ·))) = true := by kernel_rfl
theorem k14 : (Rows.deriveObsSpec.vars.all (Try.prog.varReadable ·)) = true := by kernel_rfl
theorem k15 : (Try.f11.resultTypes.all (fun t => Try.prog.readableRec t && decide (t < Try.prog.types.size))) = true := by kernel_rfl
theorem k16 : ((Rows.deriveObsRow.ifacesOut == Try.f11.resultTypes.toList.any (Try.prog.ifacesRec ·))) = true := by kernel_rfl
theorem k17 : ((Rows.deriveObsRow.loopsOut == Try.f11.resultTypes.toList.any (Try.prog.loopsFrom ·))) = true := by kernel_rfl
theorem k18 : (Rows.deriveObsRow.shortTexts.isNone) = true := by kernel_rfl
theorem k19 : ((Rows.deriveObsRow.pinned == Rows.deriveObsRow.pinnedBy)) = true := by kernel_rfl
theorem k20 : ((Rows.deriveObsRow.veiled == (Try.f11.params.toList ++ Rows.deriveObsSpec.plain.varTypes Try.prog ++ Try.f11.resultTypes.toList).any (Try.prog.veiledRec ·))) = true := by kernel_rfl
theorem k21 : (Rows.deriveObsRow.veiledFits Try.prog Try.f11.params.toList (Try.f11.params.toList ++ Rows.deriveObsSpec.plain.varTypes Try.prog ++ Try.f11.resultTypes.toList)) = true := by kernel_rfl
theorem g0 : (Try.prog.stops == []) = true := by rw [Rw.stops]; rfl
theorem g1 : (Try.prog.stopKnobs == []) = true := by rw [Rw.stopKnobs]; rfl
theorem g2 : (Rows.deriveObsRow.plainKeys == Try.prog.plainKeys) = true := by rw [Rw.plainKeys]; rfl
theorem g3 : (Rows.deriveObsRow.lifted == Try.prog.liftsFinal) = true := by rw [Rw.lifts]; rfl
theorem g4 : (Try.prog.make == some Rows.deriveObsRow.make) = true := by rw [Rw.make]; rfl
theorem closed : joinedFacts Try.prog 11 Try.f11 Rows.deriveObsSpec Rows.deriveObsRow = true := by
  unfold joinedFacts
  simp only [Rw.laid, Rw.maps, Rw.stopsHeard, Rw.mayEnter, g0, g1, g2, g3, g4, k0, k1, k2, k3, k4, k5, k6, k7, k8, k9, k10, k11, k12, k13, k14, k15, k16, k17, k18, k19, k20, k21, Bool.and_true]
  kernel_rfl
theorem named : Try.prog.funcNamed Rows.deriveObsRow.func = some 11 := by kernel_rfl
theorem inst : Try.f11.isInstance Try.prog Rows.deriveObsRow.origin Rows.deriveObsRow.targs := of_decide_eq_true (by kernel_rfl)
theorem wrap : Try.f11.isWrapper Try.prog Rows.deriveObsRow.wrapper Rows.deriveObsRow.mainSum := by
  unfold Func.isWrapper
  rw [if_neg (by decide +kernel)]
  exact ⟨rfl, rfl⟩
theorem over : Rows.deriveObsRow.holds Try.pinned (OpenSpec.ofChange Rows.deriveObsSpec) :=
  OpenClaim.holds_of_wide 11 Try.f11 rfl rfl rfl rfl rfl rfl rfl ⟨rfl, rfl, rfl, rfl, rfl⟩ rfl rfl rfl rfl rfl named Try.func11 closed inst wrap
    (fun os started H enc _ => lifted os started H enc)
theorem proved : Rows.DeriveObsSaid := over
#print axioms proved
end Go.Proofs.Ytclegllogeanlaa.deriveObs
namespace Go.Proofs.Ytclegllogeanlaa
/-- The row, under a short name, for the claim. -/
theorem deriveObs_holds : Rows.DeriveObsSaid := deriveObs.proved
end Go.Proofs.Ytclegllogeanlaa
