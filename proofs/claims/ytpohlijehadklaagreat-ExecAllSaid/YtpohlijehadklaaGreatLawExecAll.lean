/- The law ExecAll returns true whatever its input, and its input reads behind the call as it did before; no conditions. -/
import Derived.Test.YtpohlijehadklaaGreatExecAllWalk
import Derived.Test.YtpohlijehadklaaGreatTestD
import Derived.Test.YtpohlijehadklaaGreatKitRow
set_option linter.unusedSimpArgs false
set_option linter.unusedVariables false
set_option autoImplicit false
set_option linter.constructorNameAsVariable false
namespace Go.Proofs.YtpohlijehadklaaGreat.execAll
open Go.ChangeShapes Go.WideShapes Go.ChangeAt Go.RowKit Go.Eng
theorem law (av : List AV) (h : ShapeAll Tryz.prog 8 Tryz.f3.params.toList av) : SC Tryz.prog 3 av (B true) := by
  rw [Tryz.params3] at h
  obtain ⟨a, _, rfl, h0, rfl⟩ := h
  obtain ⟨i, t, rfl, hi, ht, hw⟩ := sa_test h0
  exact law_ExecAll (fun th h => (hw th h).2)
set_option maxRecDepth 100000 in
theorem lifted (os : Os) (started : os.Started) (H : Type) (enc : TypeId × Value → H) :
    ReturnsInHanded {} Tryz.checked os 3 .any (Rows.execAllSpec.pre6 enc Tryz.prog Tryz.f3 Rows.execAllRow.domain false) (Rows.execAllSpec.post enc Tryz.prog Tryz.f3 false true false false) := by
  refine law_lifted (C := Tryz.checked) 8 Rw.own started (by kernel_rfl) Tryz.func3
    (ChangeSpec.witness6 (enc := enc) (C := Tryz.checked) false ⟨#[], #[.agg #[.slice none 0 0, .slice none 0 0]], []⟩ 8 (by kernel_rfl) (by kernel_rfl) (by kernel_rfl) (by kernel_rfl))
    Rw.laid (by kernel_rfl) rfl rfl Tryz.underlying4 ?_ law
  intro ds hl
  rw [Tryz.params3] at hl
  match ds, hl with
  | [d1], _ => rfl
theorem k0 : (Rows.execAllRow.wf (OpenSpec.ofChange Rows.execAllSpec)) = true := by kernel_rfl
theorem k1 : (Tryz.f3.params.all (Tryz.prog.readableRec ·)) = true := by kernel_rfl
theorem k2 : (namedTie Tryz.prog Rows.execAllRow.named Rows.execAllSpec.vars) = true := by kernel_rfl
theorem k3 : ((Rows.execAllRow.stops == [])) = true := by kernel_rfl
theorem k4 : ((Rows.execAllRow.knobs == [])) = true := by kernel_rfl
theorem k5 : ((Rows.execAllRow.inPlace == Tryz.prog.inPlace 3)) = true := by kernel_rfl
theorem k6 : ((Rows.execAllRow.unfollowed == Tryz.prog.unfollowed 3)) = true := by kernel_rfl
theorem k7 : ((Rows.execAllRow.recurses == Tryz.prog.recurses 3)) = true := by kernel_rfl
theorem k8 : ((Rows.execAllRow.named == Tryz.prog.varsNamed 3)) = true := by kernel_rfl
theorem k9 : ((Rows.execAllRow.maps == (Tryz.f3.params.toList ++ Rows.execAllSpec.plain.varTypes Tryz.prog).any (Tryz.prog.mapsRec ·))) = true := by kernel_rfl
theorem k10 : ((Rows.execAllRow.ifaces == (Tryz.f3.params.toList ++ Rows.execAllSpec.plain.varTypes Tryz.prog).any (Tryz.prog.ifacesRec ·))) = true := by kernel_rfl
theorem k11 : ((Rows.execAllRow.mapsOut == Tryz.prog.mapsAmong Tryz.f3.resultTypes.toList)) = true := by kernel_rfl
theorem k12 : ((Rows.execAllRow.loops == (Tryz.f3.params.toList ++ Rows.execAllSpec.plain.varTypes Tryz.prog).any (Tryz.prog.loopsFrom ·))) = true := by kernel_rfl
theorem k13 : ((Rows.execAllRow.wideKeys == (Tryz.f3.params.toList ++ Rows.execAllSpec.plain.varTypes Tryz.prog ++ Tryz.f3.resultTypes.toList).any (Tryz.prog.wideKeysFrom ·))) = true := by kernel_rfl
theorem k14 : (Rows.execAllSpec.vars.all (Tryz.prog.varReadable ·)) = true := by kernel_rfl
theorem k15 : (Tryz.f3.resultTypes.all (fun t => Tryz.prog.readableRec t && decide (t < Tryz.prog.types.size))) = true := by kernel_rfl
theorem k16 : ((Rows.execAllRow.ifacesOut == Tryz.f3.resultTypes.toList.any (Tryz.prog.ifacesRec ·))) = true := by kernel_rfl
theorem k17 : ((Rows.execAllRow.loopsOut == Tryz.f3.resultTypes.toList.any (Tryz.prog.loopsFrom ·))) = true := by kernel_rfl
theorem k18 : (Rows.execAllRow.shortTexts.isNone) = true := by kernel_rfl
theorem k19 : ((Rows.execAllRow.pinned == Rows.execAllRow.pinnedBy)) = true := by kernel_rfl
theorem k20 : ((Rows.execAllRow.veiled == (Tryz.f3.params.toList ++ Rows.execAllSpec.plain.varTypes Tryz.prog ++ Tryz.f3.resultTypes.toList).any (Tryz.prog.veiledRec ·))) = true := by kernel_rfl
theorem k21 : (Rows.execAllRow.veiledFits Tryz.prog Tryz.f3.params.toList (Tryz.f3.params.toList ++ Rows.execAllSpec.plain.varTypes Tryz.prog ++ Tryz.f3.resultTypes.toList)) = true := by kernel_rfl
theorem g0 : (Tryz.prog.stops == []) = true := by rw [Rw.stops]; rfl
theorem g1 : (Tryz.prog.stopKnobs == []) = true := by rw [Rw.stopKnobs]; rfl
theorem g2 : (Rows.execAllRow.plainKeys == Tryz.prog.plainKeys) = true := by rw [Rw.plainKeys]; rfl
theorem g3 : (Rows.execAllRow.lifted == Tryz.prog.liftsFinal) = true := by rw [Rw.lifts]; rfl
theorem g4 : (Tryz.prog.make == some Rows.execAllRow.make) = true := by rw [Rw.make]; rfl
theorem closed : joinedFacts Tryz.prog 3 Tryz.f3 Rows.execAllSpec Rows.execAllRow = true := by
  unfold joinedFacts
  simp only [Rw.laid, Rw.maps, Rw.stopsHeard, Rw.mayEnter, g0, g1, g2, g3, g4, k0, k1, k2, k3, k4, k5, k6, k7, k8, k9, k10, k11, k12, k13, k14, k15, k16, k17, k18, k19, k20, k21, Bool.and_true]
  kernel_rfl
theorem named : Tryz.prog.funcNamed Rows.execAllRow.func = some 3 := by kernel_rfl
theorem inst : Tryz.f3.isInstance Tryz.prog Rows.execAllRow.origin Rows.execAllRow.targs := of_decide_eq_true (by kernel_rfl)
theorem wrap : Tryz.f3.isWrapper Tryz.prog Rows.execAllRow.wrapper Rows.execAllRow.mainSum := by
  unfold Func.isWrapper
  rw [if_neg (by decide +kernel)]
  exact ⟨rfl, rfl⟩
theorem over : Rows.execAllRow.holds Tryz.pinned (OpenSpec.ofChange Rows.execAllSpec) :=
  OpenClaim.holds_of_wide 3 Tryz.f3 rfl rfl rfl rfl rfl rfl rfl ⟨rfl, rfl, rfl, rfl, rfl⟩ rfl rfl rfl rfl rfl named Tryz.func3 closed inst wrap
    (fun os started H enc _ => lifted os started H enc)
theorem proved : Rows.ExecAllSaid := over
#print axioms proved
end Go.Proofs.YtpohlijehadklaaGreat.execAll
namespace Go.Proofs.YtpohlijehadklaaGreat
/-- The row, under a short name, for the claim. -/
theorem execAll_holds : Rows.ExecAllSaid := execAll.proved
end Go.Proofs.YtpohlijehadklaaGreat
