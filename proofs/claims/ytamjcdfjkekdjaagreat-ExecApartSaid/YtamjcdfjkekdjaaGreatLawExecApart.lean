/- The law ExecApart returns true whatever its input, and its input reads behind the call as it did before; no conditions. -/
import Derived.Test.YtamjcdfjkekdjaaGreatExecApartWalk
import Derived.Test.YtamjcdfjkekdjaaGreatTestD
import Derived.Test.YtamjcdfjkekdjaaGreatKitRow
set_option linter.unusedSimpArgs false
set_option linter.unusedVariables false
set_option autoImplicit false
set_option linter.constructorNameAsVariable false
namespace Go.Proofs.YtamjcdfjkekdjaaGreat.execApart
open Go.ChangeShapes Go.WideShapes Go.ChangeAt Go.RowKit Go.Eng
theorem law (av : List AV) (h : ShapeAll Tryz.prog 8 Tryz.f4.params.toList av) : SC Tryz.prog 4 av (B true) := by
  rw [Tryz.params4] at h
  obtain ⟨a, _, rfl, h0, b, _, rfl, h1, rfl⟩ := h
  obtain ⟨i, t, rfl, hi, ht, hw⟩ := sa_test h0
  obtain ⟨w, rfl, hww⟩ := sa_int Tryz.underlying45 (by simp) h1
  have hw0 : 0 ≤ w ∧ w < 65536 := by
    simp [Lit.wf, IntKind.min, IntKind.max, IntKind.signed, IntKind.bits] at hww
    omega
  exact law_ExecApart hw0 (fun th h => (hw th h).2)
set_option maxRecDepth 100000 in
theorem lifted (os : Os) (started : os.Started) (H : Type) (enc : TypeId × Value → H) :
    ReturnsInHanded {} Tryz.checked os 4 .any (Rows.execApartSpec.pre6 enc Tryz.prog Tryz.f4 Rows.execApartRow.domain false) (Rows.execApartSpec.post enc Tryz.prog Tryz.f4 false true false false) := by
  refine law_lifted (C := Tryz.checked) 8 Rw.own started (by kernel_rfl) Tryz.func4
    (ChangeSpec.witness6 (enc := enc) (C := Tryz.checked) false ⟨#[], #[.agg #[.slice none 0 0, .slice none 0 0], .int .u16 0], []⟩ 8 (by kernel_rfl) (by kernel_rfl) (by kernel_rfl) (by kernel_rfl))
    Rw.laid (by kernel_rfl) rfl rfl Tryz.underlying4 ?_ law
  intro ds hl
  rw [Tryz.params4] at hl
  match ds, hl with
  | [d1, d2], _ => rfl
theorem k0 : (Rows.execApartRow.wf (OpenSpec.ofChange Rows.execApartSpec)) = true := by kernel_rfl
theorem k1 : (Tryz.f4.params.all (Tryz.prog.readableRec ·)) = true := by kernel_rfl
theorem k2 : (namedTie Tryz.prog Rows.execApartRow.named Rows.execApartSpec.vars) = true := by kernel_rfl
theorem k3 : ((Rows.execApartRow.stops == [])) = true := by kernel_rfl
theorem k4 : ((Rows.execApartRow.knobs == [])) = true := by kernel_rfl
theorem k5 : ((Rows.execApartRow.inPlace == Tryz.prog.inPlace 4)) = true := by kernel_rfl
theorem k6 : ((Rows.execApartRow.unfollowed == Tryz.prog.unfollowed 4)) = true := by kernel_rfl
theorem k7 : ((Rows.execApartRow.recurses == Tryz.prog.recurses 4)) = true := by kernel_rfl
theorem k8 : ((Rows.execApartRow.named == Tryz.prog.varsNamed 4)) = true := by kernel_rfl
theorem k9 : ((Rows.execApartRow.maps == (Tryz.f4.params.toList ++ Rows.execApartSpec.plain.varTypes Tryz.prog).any (Tryz.prog.mapsRec ·))) = true := by kernel_rfl
theorem k10 : ((Rows.execApartRow.ifaces == (Tryz.f4.params.toList ++ Rows.execApartSpec.plain.varTypes Tryz.prog).any (Tryz.prog.ifacesRec ·))) = true := by kernel_rfl
theorem k11 : ((Rows.execApartRow.mapsOut == Tryz.prog.mapsAmong Tryz.f4.resultTypes.toList)) = true := by kernel_rfl
theorem k12 : ((Rows.execApartRow.loops == (Tryz.f4.params.toList ++ Rows.execApartSpec.plain.varTypes Tryz.prog).any (Tryz.prog.loopsFrom ·))) = true := by kernel_rfl
theorem k13 : ((Rows.execApartRow.wideKeys == (Tryz.f4.params.toList ++ Rows.execApartSpec.plain.varTypes Tryz.prog ++ Tryz.f4.resultTypes.toList).any (Tryz.prog.wideKeysFrom ·))) = true := by kernel_rfl
theorem k14 : (Rows.execApartSpec.vars.all (Tryz.prog.varReadable ·)) = true := by kernel_rfl
theorem k15 : (Tryz.f4.resultTypes.all (fun t => Tryz.prog.readableRec t && decide (t < Tryz.prog.types.size))) = true := by kernel_rfl
theorem k16 : ((Rows.execApartRow.ifacesOut == Tryz.f4.resultTypes.toList.any (Tryz.prog.ifacesRec ·))) = true := by kernel_rfl
theorem k17 : ((Rows.execApartRow.loopsOut == Tryz.f4.resultTypes.toList.any (Tryz.prog.loopsFrom ·))) = true := by kernel_rfl
theorem k18 : (Rows.execApartRow.shortTexts.isNone) = true := by kernel_rfl
theorem k19 : ((Rows.execApartRow.pinned == Rows.execApartRow.pinnedBy)) = true := by kernel_rfl
theorem k20 : ((Rows.execApartRow.veiled == (Tryz.f4.params.toList ++ Rows.execApartSpec.plain.varTypes Tryz.prog ++ Tryz.f4.resultTypes.toList).any (Tryz.prog.veiledRec ·))) = true := by kernel_rfl
theorem k21 : (Rows.execApartRow.veiledFits Tryz.prog Tryz.f4.params.toList (Tryz.f4.params.toList ++ Rows.execApartSpec.plain.varTypes Tryz.prog ++ Tryz.f4.resultTypes.toList)) = true := by kernel_rfl
theorem g0 : (Tryz.prog.stops == []) = true := by rw [Rw.stops]; rfl
theorem g1 : (Tryz.prog.stopKnobs == []) = true := by rw [Rw.stopKnobs]; rfl
theorem g2 : (Rows.execApartRow.plainKeys == Tryz.prog.plainKeys) = true := by rw [Rw.plainKeys]; rfl
theorem g3 : (Rows.execApartRow.lifted == Tryz.prog.liftsFinal) = true := by rw [Rw.lifts]; rfl
theorem g4 : (Tryz.prog.make == some Rows.execApartRow.make) = true := by rw [Rw.make]; rfl
theorem closed : joinedFacts Tryz.prog 4 Tryz.f4 Rows.execApartSpec Rows.execApartRow = true := by
  unfold joinedFacts
  simp only [Rw.laid, Rw.maps, Rw.stopsHeard, Rw.mayEnter, g0, g1, g2, g3, g4, k0, k1, k2, k3, k4, k5, k6, k7, k8, k9, k10, k11, k12, k13, k14, k15, k16, k17, k18, k19, k20, k21, Bool.and_true]
  kernel_rfl
theorem named : Tryz.prog.funcNamed Rows.execApartRow.func = some 4 := by kernel_rfl
theorem inst : Tryz.f4.isInstance Tryz.prog Rows.execApartRow.origin Rows.execApartRow.targs := of_decide_eq_true (by kernel_rfl)
theorem wrap : Tryz.f4.isWrapper Tryz.prog Rows.execApartRow.wrapper Rows.execApartRow.mainSum := by
  unfold Func.isWrapper
  rw [if_neg (by decide +kernel)]
  exact ⟨rfl, rfl⟩
theorem over : Rows.execApartRow.holds Tryz.pinned (OpenSpec.ofChange Rows.execApartSpec) :=
  OpenClaim.holds_of_wide 4 Tryz.f4 rfl rfl rfl rfl rfl rfl rfl ⟨rfl, rfl, rfl, rfl, rfl⟩ rfl rfl rfl rfl rfl named Tryz.func4 closed inst wrap
    (fun os started H enc _ => lifted os started H enc)
theorem proved : Rows.ExecApartSaid := over
#print axioms proved
end Go.Proofs.YtamjcdfjkekdjaaGreat.execApart
namespace Go.Proofs.YtamjcdfjkekdjaaGreat
/-- The row, under a short name, for the claim. -/
theorem execApart_holds : Rows.ExecApartSaid := execApart.proved
end Go.Proofs.YtamjcdfjkekdjaaGreat
