/- The law DeriveCo returns true whatever its input, and its input reads behind the call as it did before; no conditions. -/
import Derived.Test.YtclegllogeanlaaDeriveCoWalk
import Derived.Test.YtclegllogeanlaaShapeC
import Derived.Test.YtclegllogeanlaaRowB
import Derived.Test.YtclegllogeanlaaShapeB
set_option linter.unusedSimpArgs false
set_option linter.unusedVariables false
set_option autoImplicit false
set_option linter.constructorNameAsVariable false
namespace Go.Proofs.Ytclegllogeanlaa.deriveCo
open Go.ChangeShapes Go.WideShapes Go.ChangeAt Go.RowKit Go.Eng
theorem law (av : List AV) (h : ShapeAll Try.prog 8 Try.f10.params.toList av) : SC Try.prog 10 av (B true) := by
  rw [Try.params10] at h
  obtain ⟨a, _, rfl, h0, b, _, rfl, h1, c, _, rfl, h2, d, _, rfl, h3, rfl⟩ := h
  obtain ⟨l, rfl, hll, hlw⟩ := sa_events h0
  obtain ⟨m, rfl, hml, hmw⟩ := sa_nums h1
  obtain ⟨w, rfl, ww⟩ := sa_int Try.underlying40 (by simp) h2
  obtain ⟨v, rfl, wv⟩ := sa_int Try.underlying40 (by simp) h3
  obtain ⟨w2, rfl, hw2⟩ := wf16 ww
  obtain ⟨v2, rfl, hv2⟩ := wf16 wv
  exact law_DeriveCo hll hw2 hv2
set_option maxRecDepth 100000 in
theorem lifted (os : Os) (started : os.Started) (H : Type) (enc : TypeId × Value → H) :
    ReturnsInHanded {} Try.checked os 10 .any (Rows.deriveCoSpec.pre6 enc Try.prog Try.f10 Rows.deriveCoRow.domain false) (Rows.deriveCoSpec.post enc Try.prog Try.f10 false true false false) := by
  refine law_lifted (C := Try.checked) 8 Rw.own started (by kernel_rfl) Try.func10
    (ChangeSpec.witness6 (enc := enc) (C := Try.checked) false ⟨#[], #[.slice none 0 0, .slice none 0 0, .int .u16 0, .int .u16 0], []⟩ 8 (by kernel_rfl) (by kernel_rfl) (by kernel_rfl) (by kernel_rfl))
    Rw.laid (by kernel_rfl) rfl rfl Try.underlying4 ?_ law
  intro ds hl
  rw [Try.params10] at hl
  match ds, hl with
  | [d1, d2, d3, d4], _ => rfl
theorem k0 : (Rows.deriveCoRow.wf (OpenSpec.ofChange Rows.deriveCoSpec)) = true := by kernel_rfl
theorem k1 : (Try.f10.params.all (Try.prog.readableRec ·)) = true := by kernel_rfl
theorem k2 : (namedTie Try.prog Rows.deriveCoRow.named Rows.deriveCoSpec.vars) = true := by kernel_rfl
theorem k3 : ((Rows.deriveCoRow.stops == [])) = true := by kernel_rfl
theorem k4 : ((Rows.deriveCoRow.knobs == [])) = true := by kernel_rfl
theorem k5 : ((Rows.deriveCoRow.inPlace == Try.prog.inPlace 10)) = true := by kernel_rfl
theorem k6 : ((Rows.deriveCoRow.unfollowed == Try.prog.unfollowed 10)) = true := by kernel_rfl
theorem k7 : ((Rows.deriveCoRow.recurses == Try.prog.recurses 10)) = true := by kernel_rfl
theorem k8 : ((Rows.deriveCoRow.named == Try.prog.varsNamed 10)) = true := by kernel_rfl
theorem k9 : ((Rows.deriveCoRow.maps == (Try.f10.params.toList ++ Rows.deriveCoSpec.plain.varTypes Try.prog).any (Try.prog.mapsRec ·))) = true := by kernel_rfl
theorem k10 : ((Rows.deriveCoRow.ifaces == (Try.f10.params.toList ++ Rows.deriveCoSpec.plain.varTypes Try.prog).any (Try.prog.ifacesRec ·))) = true := by kernel_rfl
theorem k11 : ((Rows.deriveCoRow.mapsOut == Try.prog.mapsAmong Try.f10.resultTypes.toList)) = true := by kernel_rfl
theorem k12 : ((Rows.deriveCoRow.loops == (Try.f10.params.toList ++ Rows.deriveCoSpec.plain.varTypes Try.prog).any (Try.prog.loopsFrom ·))) = true := by kernel_rfl
theorem k13 : ((Rows.deriveCoRow.wideKeys == (Try.f10.params.toList ++ Rows.deriveCoSpec.plain.varTypes Try.prog ++ Try.f10.resultTypes.toList).any (Try.prog.wideKeysFrom ·))) = true := by kernel_rfl
theorem k14 : (Rows.deriveCoSpec.vars.all (Try.prog.varReadable ·)) = true := by kernel_rfl
theorem k15 : (Try.f10.resultTypes.all (fun t => Try.prog.readableRec t && decide (t < Try.prog.types.size))) = true := by kernel_rfl
theorem k16 : ((Rows.deriveCoRow.ifacesOut == Try.f10.resultTypes.toList.any (Try.prog.ifacesRec ·))) = true := by kernel_rfl
theorem k17 : ((Rows.deriveCoRow.loopsOut == Try.f10.resultTypes.toList.any (Try.prog.loopsFrom ·))) = true := by kernel_rfl
theorem k18 : (Rows.deriveCoRow.shortTexts.isNone) = true := by kernel_rfl
theorem k19 : ((Rows.deriveCoRow.pinned == Rows.deriveCoRow.pinnedBy)) = true := by kernel_rfl
theorem k20 : ((Rows.deriveCoRow.veiled == (Try.f10.params.toList ++ Rows.deriveCoSpec.plain.varTypes Try.prog ++ Try.f10.resultTypes.toList).any (Try.prog.veiledRec ·))) = true := by kernel_rfl
theorem k21 : (Rows.deriveCoRow.veiledFits Try.prog Try.f10.params.toList (Try.f10.params.toList ++ Rows.deriveCoSpec.plain.varTypes Try.prog ++ Try.f10.resultTypes.toList)) = true := by kernel_rfl
theorem g0 : (Try.prog.stops == []) = true := by rw [Rw.stops]; rfl
theorem g1 : (Try.prog.stopKnobs == []) = true := by rw [Rw.stopKnobs]; rfl
theorem g2 : (Rows.deriveCoRow.plainKeys == Try.prog.plainKeys) = true := by rw [Rw.plainKeys]; rfl
theorem g3 : (Rows.deriveCoRow.lifted == Try.prog.liftsFinal) = true := by rw [Rw.lifts]; rfl
theorem g4 : (Try.prog.make == some Rows.deriveCoRow.make) = true := by rw [Rw.make]; rfl
theorem closed : joinedFacts Try.prog 10 Try.f10 Rows.deriveCoSpec Rows.deriveCoRow = true := by
  unfold joinedFacts
  simp only [Rw.laid, Rw.maps, Rw.stopsHeard, Rw.mayEnter, g0, g1, g2, g3, g4, k0, k1, k2, k3, k4, k5, k6, k7, k8, k9, k10, k11, k12, k13, k14, k15, k16, k17, k18, k19, k20, k21, Bool.and_true]
  kernel_rfl
theorem named : Try.prog.funcNamed Rows.deriveCoRow.func = some 10 := by kernel_rfl
theorem inst : Try.f10.isInstance Try.prog Rows.deriveCoRow.origin Rows.deriveCoRow.targs := of_decide_eq_true (by kernel_rfl)
theorem wrap : Try.f10.isWrapper Try.prog Rows.deriveCoRow.wrapper Rows.deriveCoRow.mainSum := by
  unfold Func.isWrapper
  rw [if_neg (by decide +kernel)]
  exact ⟨rfl, rfl⟩
theorem over : Rows.deriveCoRow.holds Try.pinned (OpenSpec.ofChange Rows.deriveCoSpec) :=
  OpenClaim.holds_of_wide 10 Try.f10 rfl rfl rfl rfl rfl rfl rfl ⟨rfl, rfl, rfl, rfl, rfl⟩ rfl rfl rfl rfl rfl named Try.func10 closed inst wrap
    (fun os started H enc _ => lifted os started H enc)
theorem proved : Rows.DeriveCoSaid := over
#print axioms proved
end Go.Proofs.Ytclegllogeanlaa.deriveCo
namespace Go.Proofs.Ytclegllogeanlaa
/-- The row, under a short name, for the claim. -/
theorem deriveCo_holds : Rows.DeriveCoSaid := deriveCo.proved
end Go.Proofs.Ytclegllogeanlaa
