/- The law DeriveCom returns true whatever its input, and its input reads behind the call as it did before; no conditions. -/
import Derived.Test.YtclegllogeanlaaDeriveComWalk
import Derived.Test.YtclegllogeanlaaShapeC
import Derived.Test.YtclegllogeanlaaRowB
import Derived.Test.YtclegllogeanlaaShapeB
set_option linter.unusedSimpArgs false
set_option linter.unusedVariables false
set_option autoImplicit false
set_option linter.constructorNameAsVariable false
namespace Go.Proofs.Ytclegllogeanlaa.deriveCom
open Go.ChangeShapes Go.WideShapes Go.ChangeAt Go.RowKit Go.Eng
theorem law (av : List AV) (h : ShapeAll Try.prog 8 Try.f12.params.toList av) : SC Try.prog 12 av (B true) := by
  rw [Try.params12] at h
  obtain ⟨a, _, rfl, h0, b, _, rfl, h1, c, _, rfl, h2, d, _, rfl, h3, rfl⟩ := h
  obtain ⟨l, rfl, hll, hlw⟩ := sa_events h0
  obtain ⟨m, rfl, hml, hmw⟩ := sa_nums h1
  obtain ⟨w, rfl, ww⟩ := sa_int Try.underlying40 (by simp) h2
  obtain ⟨v, rfl, wv⟩ := sa_int Try.underlying40 (by simp) h3
  obtain ⟨w2, rfl, hw2⟩ := wf16 ww
  obtain ⟨v2, rfl, hv2⟩ := wf16 wv
  exact law_DeriveCom hll hw2 hv2
set_option maxRecDepth 100000 in
theorem lifted (os : Os) (started : os.Started) (H : Type) (enc : TypeId × Value → H) :
    ReturnsInHanded {} Try.checked os 12 .any (Rows.deriveComSpec.pre6 enc Try.prog Try.f12 Rows.deriveComRow.domain false) (Rows.deriveComSpec.post enc Try.prog Try.f12 false true false false) := by
  refine law_lifted (C := Try.checked) 8 Rw.own started (by kernel_rfl) Try.func12
    (ChangeSpec.witness6 (enc := enc) (C := Try.checked) false ⟨#[], #[.slice none 0 0, .slice none 0 0, .int .u16 0, .int .u16 0], []⟩ 8 (by kernel_rfl) (by kernel_rfl) (by kernel_rfl) (by kernel_rfl))
    Rw.laid (by kernel_rfl) rfl rfl Try.underlying4 ?_ law
  intro ds hl
  rw [Try.params12] at hl
  match ds, hl with
  | [d1, d2, d3, d4], _ => rfl
theorem k0 : (Rows.deriveComRow.wf (OpenSpec.ofChange Rows.deriveComSpec)) = true := by kernel_rfl
theorem k1 : (Try.f12.params.all (Try.prog.readableRec ·)) = true := by kernel_rfl
theorem k2 : (namedTie Try.prog Rows.deriveComRow.named Rows.deriveComSpec.vars) = true := by kernel_rfl
theorem k3 : ((Rows.deriveComRow.stops == [])) = true := by kernel_rfl
theorem k4 : ((Rows.deriveComRow.knobs == [])) = true := by kernel_rfl
theorem k5 : ((Rows.deriveComRow.inPlace == Try.prog.inPlace 12)) = true := by kernel_rfl
theorem k6 : ((Rows.deriveComRow.unfollowed == Try.prog.unfollowed 12)) = true := by kernel_rfl
theorem k7 : ((Rows.deriveComRow.recurses == Try.prog.recurses 12)) = true := by kernel_rfl
theorem k8 : ((Rows.deriveComRow.named == Try.prog.varsNamed 12)) = true := by kernel_rfl
theorem k9 : ((Rows.deriveComRow.maps == (Try.f12.params.toList ++ Rows.deriveComSpec.plain.varTypes Try.prog).any (Try.prog.mapsRec ·))) = true := by kernel_rfl
theorem k10 : ((Rows.deriveComRow.ifaces == (Try.f12.params.toList ++ Rows.deriveComSpec.plain.varTypes Try.prog).any (Try.prog.ifacesRec ·))) = true := by kernel_rfl
theorem k11 : ((Rows.deriveComRow.mapsOut == Try.prog.mapsAmong Try.f12.resultTypes.toList)) = true := by kernel_rfl
theorem k12 : ((Rows.deriveComRow.loops == (Try.f12.params.toList ++ Rows.deriveComSpec.plain.varTypes Try.prog).any (Try.prog.loopsFrom ·))) = true := by kernel_rfl
theorem k13 : ((Rows.deriveComRow.wideKeys == (Try.f12.params.toList ++ Rows.deriveComSpec.plain.varTypes Try.prog ++ Try.f12.resultTypes.toList).any (Try.prog.wideKeysFrom ·))) = true := by kernel_rfl
theorem k14 : (Rows.deriveComSpec.vars.all (Try.prog.varReadable ·)) = true := by kernel_rfl
theorem k15 : (Try.f12.resultTypes.all (fun t => Try.prog.readableRec t && decide (t < Try.prog.types.size))) = true := by kernel_rfl
theorem k16 : ((Rows.deriveComRow.ifacesOut == Try.f12.resultTypes.toList.any (Try.prog.ifacesRec ·))) = true := by kernel_rfl
theorem k17 : ((Rows.deriveComRow.loopsOut == Try.f12.resultTypes.toList.any (Try.prog.loopsFrom ·))) = true := by kernel_rfl
theorem k18 : (Rows.deriveComRow.shortTexts.isNone) = true := by kernel_rfl
theorem k19 : ((Rows.deriveComRow.pinned == Rows.deriveComRow.pinnedBy)) = true := by kernel_rfl
theorem k20 : ((Rows.deriveComRow.veiled == (Try.f12.params.toList ++ Rows.deriveComSpec.plain.varTypes Try.prog ++ Try.f12.resultTypes.toList).any (Try.prog.veiledRec ·))) = true := by kernel_rfl
theorem k21 : (Rows.deriveComRow.veiledFits Try.prog Try.f12.params.toList (Try.f12.params.toList ++ Rows.deriveComSpec.plain.varTypes Try.prog ++ Try.f12.resultTypes.toList)) = true := by kernel_rfl
theorem g0 : (Try.prog.stops == []) = true := by rw [Rw.stops]; rfl
theorem g1 : (Try.prog.stopKnobs == []) = true := by rw [Rw.stopKnobs]; rfl
theorem g2 : (Rows.deriveComRow.plainKeys == Try.prog.plainKeys) = true := by rw [Rw.plainKeys]; rfl
theorem g3 : (Rows.deriveComRow.lifted == Try.prog.liftsFinal) = true := by rw [Rw.lifts]; rfl
theorem g4 : (Try.prog.make == some Rows.deriveComRow.make) = true := by rw [Rw.make]; rfl
theorem closed : joinedFacts Try.prog 12 Try.f12 Rows.deriveComSpec Rows.deriveComRow = true := by
  unfold joinedFacts
  simp only [Rw.laid, Rw.maps, Rw.stopsHeard, Rw.mayEnter, g0, g1, g2, g3, g4, k0, k1, k2, k3, k4, k5, k6, k7, k8, k9, k10, k11, k12, k13, k14, k15, k16, k17, k18, k19, k20, k21, Bool.and_true]
  kernel_rfl
theorem named : Try.prog.funcNamed Rows.deriveComRow.func = some 12 := by kernel_rfl
theorem inst : Try.f12.isInstance Try.prog Rows.deriveComRow.origin Rows.deriveComRow.targs := of_decide_eq_true (by kernel_rfl)
theorem wrap : Try.f12.isWrapper Try.prog Rows.deriveComRow.wrapper Rows.deriveComRow.mainSum := by
  unfold Func.isWrapper
  rw [if_neg (by decide +kernel)]
  exact ⟨rfl, rfl⟩
theorem over : Rows.deriveComRow.holds Try.pinned (OpenSpec.ofChange Rows.deriveComSpec) :=
  OpenClaim.holds_of_wide 12 Try.f12 rfl rfl rfl rfl rfl rfl rfl ⟨rfl, rfl, rfl, rfl, rfl⟩ rfl rfl rfl rfl rfl named Try.func12 closed inst wrap
    (fun os started H enc _ => lifted os started H enc)
theorem proved : Rows.DeriveComSaid := over
#print axioms proved
end Go.Proofs.Ytclegllogeanlaa.deriveCom
namespace Go.Proofs.Ytclegllogeanlaa
/-- The row, under a short name, for the claim. -/
theorem deriveCom_holds : Rows.DeriveComSaid := deriveCom.proved
end Go.Proofs.Ytclegllogeanlaa
