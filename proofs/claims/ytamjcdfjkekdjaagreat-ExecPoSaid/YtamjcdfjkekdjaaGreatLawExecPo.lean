/- The law ExecPo returns true whatever its input, and its input reads behind the call as it did before; no conditions. -/
import Derived.Test.YtamjcdfjkekdjaaGreatExecPoWalk
import Derived.Test.YtamjcdfjkekdjaaGreatTestD
import Derived.Test.YtamjcdfjkekdjaaGreatKitRow
set_option linter.unusedSimpArgs false
set_option linter.unusedVariables false
set_option autoImplicit false
set_option linter.constructorNameAsVariable false
namespace Go.Proofs.YtamjcdfjkekdjaaGreat.execPo
open Go.ChangeShapes Go.WideShapes Go.ChangeAt Go.RowKit Go.Eng
theorem law (av : List AV) (h : ShapeAll Tryz.prog 8 Tryz.f5.params.toList av) : SC Tryz.prog 5 av (B true) := by
  rw [Tryz.params5] at h
  obtain ⟨a, _, rfl, h0, b, _, rfl, h1, rfl⟩ := h
  obtain ⟨i, t, rfl, hi, ht, hw⟩ := sa_test h0
  obtain ⟨w, rfl, hww⟩ := sa_int Tryz.underlying45 (by simp) h1
  have hw0 : 0 ≤ w ∧ w < 65536 := by
    simp [Lit.wf, IntKind.min, IntKind.max, IntKind.signed, IntKind.bits] at hww
    omega
  exact law_ExecPo hw0 (fun th h => (hw th h).2)
set_option maxRecDepth 100000 in
theorem lifted (os : Os) (started : os.Started) (H : Type) (enc : TypeId × Value → H) :
    ReturnsInHanded {} Tryz.checked os 5 .any (Rows.execPoSpec.pre6 enc Tryz.prog Tryz.f5 Rows.execPoRow.domain false) (Rows.execPoSpec.post enc Tryz.prog Tryz.f5 false true false false) := by
  refine law_lifted (C := Tryz.checked) 8 Rw.own started (by kernel_rfl) Tryz.func5
    (ChangeSpec.witness6 (enc := enc) (C := Tryz.checked) false ⟨#[], #[.agg #[.slice none 0 0, .slice none 0 0], .int .u16 0], []⟩ 8 (by kernel_rfl) (by kernel_rfl) (by kernel_rfl) (by kernel_rfl))
    Rw.laid (by kernel_rfl) rfl rfl Tryz.underlying4 ?_ law
  intro ds hl
  rw [Tryz.params5] at hl
  match ds, hl with
  | [d1, d2], _ => rfl
theorem k0 : (Rows.execPoRow.wf (OpenSpec.ofChange Rows.execPoSpec)) = true := by kernel_rfl
theorem k1 : (Tryz.f5.params.all (Tryz.prog.readableRec ·)) = true := by kernel_rfl
theorem k2 : (namedTie Tryz.prog Rows.execPoRow.named Rows.execPoSpec.vars) = true := by kernel_rfl
theorem k3 : ((Rows.execPoRow.stops == [])) = true := by kernel_rfl
theorem k4 : ((Rows.execPoRow.knobs == [])) = true := by kernel_rfl
theorem k5 : ((Rows.execPoRow.inPlace == Tryz.prog.inPlace 5)) = true := by kernel_rfl
theorem k6 : ((Rows.execPoRow.unfollowed == Tryz.prog.unfollowed 5)) = true := by kernel_rfl
theorem k7 : ((Rows.execPoRow.recurses == Tryz.prog.recurses 5)) = true := by kernel_rfl
theorem k8 : ((Rows.execPoRow.named == Tryz.prog.varsNamed 5)) = true := by kernel_rfl
theorem k9 : ((Rows.execPoRow.maps == (Tryz.f5.params.toList ++ Rows.execPoSpec.plain.varTypes Tryz.prog).any (Tryz.prog.mapsRec ·))) = true := by kernel_rfl
theorem k10 : ((Rows.execPoRow.ifaces == (Tryz.f5.params.toList ++ Rows.execPoSpec.plain.varTypes Tryz.prog).any (Tryz.prog.ifacesRec ·))) = true := by kernel_rfl
theorem k11 : ((Rows.execPoRow.mapsOut == Tryz.prog.mapsAmong Tryz.f5.resultTypes.toList)) = true := by kernel_rfl
theorem k12 : ((Rows.execPoRow.loops == (Tryz.f5.params.toList ++ Rows.execPoSpec.plain.varTypes Tryz.prog).any (Tryz.prog.loopsFrom ·))) = true := by kernel_rfl
theorem k13 : ((Rows.execPoRow.wideKeys == (Tryz.f5.params.toList ++ Rows.execPoSpec.plain.varTypes Tryz.prog ++ Tryz.f5.resultTypes.toList).any (Tryz.prog.wideKeysFrom ·))) = true := by kernel_rfl
theorem k14 : (Rows.execPoSpec.vars.all (Tryz.prog.varReadable ·)) = true := by kernel_rfl
theorem k15 : (Tryz.f5.resultTypes.all (fun t => Tryz.prog.readableRec t && decide (t < Tryz.prog.types.size))) = true := by kernel_rfl
theorem k16 : ((Rows.execPoRow.ifacesOut == Tryz.f5.resultTypes.toList.any (Tryz.prog.ifacesRec ·))) = true := by kernel_rfl
theorem k17 : ((Rows.execPoRow.loopsOut == Tryz.f5.resultTypes.toList.any (Tryz.prog.loopsFrom ·))) = true := by kernel_rfl
theorem k18 : (Rows.execPoRow.shortTexts.isNone) = true := by kernel_rfl
theorem k19 : ((Rows.execPoRow.pinned == Rows.execPoRow.pinnedBy)) = true := by kernel_rfl
theorem k20 : ((Rows.execPoRow.veiled == (Tryz.f5.params.toList ++ Rows.execPoSpec.plain.varTypes Tryz.prog ++ Tryz.f5.resultTypes.toList).any (Tryz.prog.veiledRec ·))) = true := by kernel_rfl
theorem k21 : (Rows.execPoRow.veiledFits Tryz.prog Tryz.f5.params.toList (Tryz.f5.params.toList ++ Rows.execPoSpec.plain.varTypes Tryz.prog ++ Tryz.f5.resultTypes.toList)) = true := by kernel_rfl
theorem g0 : (Tryz.prog.stops == []) = true := by rw [Rw.stops]; rfl
theorem g1 : (Tryz.prog.stopKnobs == []) = true := by rw [Rw.stopKnobs]; rfl
theorem g2 : (Rows.execPoRow.plainKeys == Tryz.prog.plainKeys) = true := by rw [Rw.plainKeys]; rfl
theorem g3 : (Rows.execPoRow.lifted == Tryz.prog.liftsFinal) = true := by rw [Rw.lifts]; rfl
theorem g4 : (Tryz.prog.make == some Rows.execPoRow.make) = true := by rw [Rw.make]; rfl
theorem closed : joinedFacts Tryz.prog 5 Tryz.f5 Rows.execPoSpec Rows.execPoRow = true := by
  unfold joinedFacts
  simp only [Rw.laid, Rw.maps, Rw.stopsHeard, Rw.mayEnter, g0, g1, g2, g3, g4, k0, k1, k2, k3, k4, k5, k6, k7, k8, k9, k10, k11, k12, k13, k14, k15, k16, k17, k18, k19, k20, k21, Bool.and_true]
  kernel_rfl
theorem named : Tryz.prog.funcNamed Rows.execPoRow.func = some 5 := by kernel_rfl
theorem inst : Tryz.f5.isInstance Tryz.prog Rows.execPoRow.origin Rows.execPoRow.targs := of_decide_eq_true (by kernel_rfl)
theorem wrap : Tryz.f5.isWrapper Tryz.prog Rows.execPoRow.wrapper Rows.execPoRow.mainSum := by
  unfold Func.isWrapper
  rw [if_neg (by decide +kernel)]
  exact ⟨rfl, rfl⟩
theorem over : Rows.execPoRow.holds Tryz.pinned (OpenSpec.ofChange Rows.execPoSpec) :=
  OpenClaim.holds_of_wide 5 Tryz.f5 rfl rfl rfl rfl rfl rfl rfl ⟨rfl, rfl, rfl, rfl, rfl⟩ rfl rfl rfl rfl rfl named Tryz.func5 closed inst wrap
    (fun os started H enc _ => lifted os started H enc)
theorem proved : Rows.ExecPoSaid := over
#print axioms proved
end Go.Proofs.YtamjcdfjkekdjaaGreat.execPo
namespace Go.Proofs.YtamjcdfjkekdjaaGreat
/-- The row, under a short name, for the claim. -/
theorem execPo_holds : Rows.ExecPoSaid := execPo.proved
end Go.Proofs.YtamjcdfjkekdjaaGreat
