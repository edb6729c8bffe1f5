/- The law CoherTells returns true whatever its input, and its input reads behind the call as it did before; no conditions. -/
import Derived.Test.YtclegllogeanlaaCoherTellsWalk
import Derived.Test.YtclegllogeanlaaShapeC
import Derived.Test.YtclegllogeanlaaRowB
import Derived.Test.YtclegllogeanlaaShapeB
set_option linter.unusedSimpArgs false
set_option linter.unusedVariables false
set_option autoImplicit false
set_option linter.constructorNameAsVariable false
namespace Go.Proofs.Ytclegllogeanlaa.coherTells
open Go.ChangeShapes Go.WideShapes Go.ChangeAt Go.RowKit Go.Eng
theorem law (av : List AV) (h : ShapeAll Try.prog 8 Try.f7.params.toList av) : SC Try.prog 7 av (B true) := by
  rw [Try.params7] at h
  obtain ⟨a, _, rfl, h0, b, _, rfl, h1, c, _, rfl, h2, d, _, rfl, h3, rfl⟩ := h
  obtain ⟨l, rfl, hll, hlw⟩ := sa_events h0
  obtain ⟨r, rfl, hrl⟩ := sa_rel h1
  obtain ⟨n, rfl, wn⟩ := sa_int Try.underlying3 (by simp) h2
  obtain ⟨m, rfl, hml, hmw⟩ := sa_nums h3
  exact law_CoherTells hll hrl hml
set_option maxRecDepth 100000 in
theorem lifted (os : Os) (started : os.Started) (H : Type) (enc : TypeId × Value → H) :
    ReturnsInHanded {} Try.checked os 7 .any (Rows.coherTellsSpec.pre6 enc Try.prog Try.f7 Rows.coherTellsRow.domain false) (Rows.coherTellsSpec.post enc Try.prog Try.f7 false true false false) := by
  refine law_lifted (C := Try.checked) 8 Rw.own started (by kernel_rfl) Try.func7
    (ChangeSpec.witness6 (enc := enc) (C := Try.checked) false ⟨#[], #[.slice none 0 0, .slice none 0 0, .int .i64 0, .slice none 0 0], []⟩ 8 (by kernel_rfl) (by kernel_rfl) (by kernel_rfl) (by kernel_rfl))
    Rw.laid (by kernel_rfl) rfl rfl Try.underlying4 ?_ law
  intro ds hl
  rw [Try.params7] at hl
  match ds, hl with
  | [d1, d2, d3, d4], _ => rfl
theorem k0 : (Rows.coherTellsRow.wf (OpenSpec.ofChange Rows.coherTellsSpec)) = true := by kernel_rfl
theorem k1 : (Try.f7.params.all (Try.prog.readableRec ·)) = true := by kernel_rfl
theorem k2 : (namedTie Try.prog Rows.coherTellsRow.named Rows.coherTellsSpec.vars) = true := by kernel_rfl
theorem k3 : ((Rows.coherTellsRow.stops == [])) = true := by kernel_rfl
theorem k4 : ((Rows.coherTellsRow.knobs == [])) = true := by kernel_rfl
theorem k5 : ((Rows.coherTellsRow.inPlace == Try.prog.inPlace 7)) = true := by kernel_rfl
theorem k6 : ((Rows.coherTellsRow.unfollowed == Try.prog.unfollowed 7)) = true := by kernel_rfl
theorem k7 : ((Rows.coherTellsRow.recurses == Try.prog.recurses 7)) = true := by kernel_rfl
theorem k8 : ((Rows.coherTellsRow.named == Try.prog.varsNamed 7)) = true := by kernel_rfl
theorem k9 : ((Rows.coherTellsRow.maps == (Try.f7.params.toList ++ Rows.coherTellsSpec.plain.varTypes Try.prog).any (Try.prog.mapsRec ·))) = true := by kernel_rfl
theorem k10 : ((Rows.coherTellsRow.ifaces == (Try.f7.params.toList ++ Rows.coherTellsSpec.plain.varTypes Try.prog).any (Try.prog.ifacesRec ·))) = true := by kernel_rfl
theorem k11 : ((Rows.coherTellsRow.mapsOut == Try.prog.mapsAmong Try.f7.resultTypes.toList)) = true := by kernel_rfl
theorem k12 : ((Rows.coherTellsRow.loops == (Try.f7.params.toList ++ Rows.coherTellsSpec.plain.varTypes Try.prog).any (Try.prog.loopsFrom ·))) = true := by kernel_rfl
theorem k13 : ((Rows.coherTellsRow.wideKeys == (Try.f7.params.toList ++ Rows.coherTellsSpec.plain.varTypes Try.prog ++ Try.f7.resultTypes.toList).any (Try.prog.wideKeysFrom ·))) = true := by kernel_rfl
theorem k14 : (Rows.coherTellsSpec.vars.all (Try.prog.varReadable ·)) = true := by kernel_rfl
theorem k15 : (Try.f7.resultTypes.all (fun t => Try.prog.readableRec t && decide (t < Try.prog.types.size))) = true := by kernel_rfl
theorem k16 : ((Rows.coherTellsRow.ifacesOut == Try.f7.resultTypes.toList.any (Try.prog.ifacesRec ·))) = true := by kernel_rfl
theorem k17 : ((Rows.coherTellsRow.loopsOut == Try.f7.resultTypes.toList.any (Try.prog.loopsFrom ·))) = true := by kernel_rfl
theorem k18 : (Rows.coherTellsRow.shortTexts.isNone) = true := by kernel_rfl
theorem k19 : ((Rows.coherTellsRow.pinned == Rows.coherTellsRow.pinnedBy)) = true := by kernel_rfl
theorem k20 : ((Rows.coherTellsRow.veiled == (Try.f7.params.toList ++ Rows.coherTellsSpec.plain.varTypes Try.prog ++ Try.f7.resultTypes.toList).any (Try.prog.veiledRec ·))) = true := by kernel_rfl
theorem k21 : (Rows.coherTellsRow.veiledFits Try.prog Try.f7.params.toList (Try.f7.params.toList ++ Rows.coherTellsSpec.plain.varTypes Try.prog ++ Try.f7.resultTypes.toList)) = true := by kernel_rfl
theorem g0 : (Try.prog.stops == []) = true := by rw [Rw.stops]; rfl
theorem g1 : (Try.prog.stopKnobs == []) = true := by rw [Rw.stopKnobs]; rfl
theorem g2 : (Rows.coherTellsRow.plainKeys == Try.prog.plainKeys) = true := by rw [Rw.plainKeys]; rfl
theorem g3 : (Rows.coherTellsRow.lifted == Try.prog.liftsFinal) = true := by rw [Rw.lifts]; rfl
theorem g4 : (Try.prog.make == some Rows.coherTellsRow.make) = true := by rw [Rw.make]; rfl
theorem closed : joinedFacts Try.prog 7 Try.f7 Rows.coherTellsSpec Rows.coherTellsRow = true := by
  unfold joinedFacts
  simp only [Rw.laid, Rw.maps, Rw.stopsHeard, Rw.mayEnter, g0, g1, g2, g3, g4, k0, k1, k2, k3, k4, k5, k6, k7, k8, k9, k10, k11, k12, k13, k14, k15, k16, k17, k18, k19, k20, k21, Bool.and_true]
  kernel_rfl
theorem named : Try.prog.funcNamed Rows.coherTellsRow.func = some 7 := by kernel_rfl
theorem inst : Try.f7.isInstance Try.prog Rows.coherTellsRow.origin Rows.coherTellsRow.targs := of_decide_eq_true (by kernel_rfl)
theorem wrap : Try.f7.isWrapper Try.prog Rows.coherTellsRow.wrapper Rows.coherTellsRow.mainSum := by
  unfold Func.isWrapper
  rw [if_neg (by decide +kernel)]
  exact ⟨rfl, rfl⟩
theorem over : Rows.coherTellsRow.holds Try.pinned (OpenSpec.ofChange Rows.coherTellsSpec) :=
  OpenClaim.holds_of_wide 7 Try.f7 rfl rfl rfl rfl rfl rfl rfl ⟨rfl, rfl, rfl, rfl, rfl⟩ rfl rfl rfl rfl rfl named Try.func7 closed inst wrap
    (fun os started H enc _ => lifted os started H enc)
theorem proved : Rows.CoherTellsSaid := over
#print axioms proved
end Go.Proofs.Ytclegllogeanlaa.coherTells
namespace Go.Proofs.Ytclegllogeanlaa
/-- The row, under a short name, for the claim. -/
theorem coherTells_holds : Rows.CoherTellsSaid := coherTells.proved
end Go.Proofs.Ytclegllogeanlaa
