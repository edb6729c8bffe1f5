/- The law InsWider returns true whatever its input, and its input reads behind the call as it did before; no conditions. -/
import Derived.Test.YtamjcdfjkekdjaaInsWiderWalk
import Derived.Test.YtamjcdfjkekdjaaRowing
import Derived.Test.YtamjcdfjkekdjaaShapes
set_option linter.unusedSimpArgs false
set_option linter.unusedVariables false
set_option autoImplicit false
set_option linter.constructorNameAsVariable false
namespace Go.Proofs.Ytamjcdfjkekdjaa.insWider
open Go.ChangeShapes Go.WideShapes Go.ChangeAt Go.RowKit Go.Eng
theorem law (av : List AV) (h : ShapeAll Try.prog 4 Try.f9.params.toList av) : SC Try.prog 9 av (B true) := by
  rw [Try.params9] at h
  obtain ⟨a, _, rfl, h0, b, _, rfl, h1, c, _, rfl, h2, e, _, rfl, h3, rfl⟩ := h
  obtain ⟨op, d, a', b, l, m, rfl, wo, wd, wa, wb, wl, wm⟩ := sa_ins h0
  obtain ⟨u, rfl, wu⟩ := sa_int Try.underlying5 (by simp) h1
  obtain ⟨v, rfl, wv⟩ := sa_int Try.underlying5 (by simp) h2
  obtain ⟨c, rfl, wc⟩ := sa_int Try.underlying5 (by simp) h3
  exact law_InsWider wu wv wc
set_option maxRecDepth 100000 in
theorem lifted (os : Os) (started : os.Started) (H : Type) (enc : TypeId × Value → H) :
    ReturnsInHanded {} Try.checked os 9 .any (Rows.insWiderSpec.pre6 enc Try.prog Try.f9 Rows.insWiderRow.domain false) (Rows.insWiderSpec.post enc Try.prog Try.f9 false true false false) := by
  refine law_lifted (C := Try.checked) 4 Rw.own started (by kernel_rfl) Try.func9
    (ChangeSpec.witness6 (enc := enc) (C := Try.checked) false ⟨#[], #[.agg #[.int .i64 0, .int .i64 0, .int .i64 0, .int .i64 0, .int .i64 0, .int .i64 0], .int .u8 0, .int .u8 0, .int .u8 0], []⟩ 8 (by kernel_rfl) (by kernel_rfl) (by kernel_rfl) (by kernel_rfl))
    Rw.laid (by kernel_rfl) rfl rfl Try.underlying4 ?_ law
  intro ds hl
  rw [Try.params9] at hl
  match ds, hl with
  | [d1, d2, d3, d4], _ => rfl
theorem k0 : (Rows.insWiderRow.wf (OpenSpec.ofChange Rows.insWiderSpec)) = true := by kernel_rfl
theorem k1 : (Try.f9.params.all (Try.prog.readableRec ·)) = true := by kernel_rfl
theorem k2 : (namedTie Try.prog Rows.insWiderRow.named Rows.insWiderSpec.vars) = true := by kernel_rfl
theorem k3 : ((Rows.insWiderRow.stops == [])) = true := by kernel_rfl
theorem k4 : ((Rows.insWiderRow.knobs == [])) = true := by kernel_rfl
theorem k5 : ((Rows.insWiderRow.inPlace == Try.prog.inPlace 9)) = true := by kernel_rfl
theorem k6 : ((Rows.insWiderRow.unfollowed == Try.prog.unfollowed 9)) = true := by kernel_rfl
theorem k7 : ((Rows.insWiderRow.recurses == Try.prog.recurses 9)) = true := by kernel_rfl
theorem k8 : ((Rows.insWiderRow.named == Try.prog.varsNamed 9)) = true := by kernel_rfl
theorem k9 : ((Rows.insWiderRow.maps == (Try.f9.params.toList ++ Rows.insWiderSpec.plain.varTypes Try.prog).any (Try.prog.mapsRec ·))) = true := by kernel_rfl
theorem k10 : ((Rows.insWiderRow.ifaces == (Try.f9.params.toList ++ Rows.insWiderSpec.plain.varTypes Try.prog).any (Try.prog.ifacesRec ·))) = true := by kernel_rfl
theorem k11 : ((Rows.insWiderRow.mapsOut == Try.prog.mapsAmong Try.f9.resultTypes.toList)) = true := by kernel_rfl
theorem k12 : ((Rows.insWiderRow.loops == (Try.f9.params.toList ++ Rows.insWiderSpec.plain.varTypes Try.prog).any (Try.prog.loopsFrom ·))) = true := by kernel_rfl
theorem k13 : ((Rows.insWiderRow.wideKeys == (Try.f9.params.toList ++ Rows.insWiderSpec.plain.varTypes Try.prog ++ Try.f9.resultTypes.toList).any (Try.prog.wideKeysFrom ·))) = true := by kernel_rfl
theorem k14 : (Rows.insWiderSpec.vars.all (Try.prog.varReadable ·)) = true := by kernel_rfl
theorem k15 : (Try.f9.resultTypes.all (fun t => Try.prog.readableRec t && decide (t < Try.prog.types.size))) = true := by kernel_rfl
theorem k16 : ((Rows.insWiderRow.ifacesOut == Try.f9.resultTypes.toList.any (Try.prog.ifacesRec ·))) = true := by kernel_rfl
theorem k17 : ((Rows.insWiderRow.loopsOut == Try.f9.resultTypes.toList.any (Try.prog.loopsFrom ·))) = true := by kernel_rfl
theorem k18 : (Rows.insWiderRow.shortTexts.isNone) = true := by kernel_rfl
theorem k19 : ((Rows.insWiderRow.pinned == Rows.insWiderRow.pinnedBy)) = true := by kernel_rfl
theorem k20 : ((Rows.insWiderRow.veiled == (Try.f9.params.toList ++ Rows.insWiderSpec.plain.varTypes Try.prog ++ Try.f9.resultTypes.toList).any (Try.prog.veiledRec ·))) = true := by kernel_rfl
theorem k21 : (Rows.insWiderRow.veiledFits Try.prog Try.f9.params.toList (Try.f9.params.toList ++ Rows.insWiderSpec.plain.varTypes Try.prog ++ Try.f9.resultTypes.toList)) = true := by kernel_rfl
theorem g0 : (Try.prog.stops == []) = true := by rw [Rw.stops]; rfl
theorem g1 : (Try.prog.stopKnobs == []) = true := by rw [Rw.stopKnobs]; rfl
theorem g2 : (Rows.insWiderRow.plainKeys == Try.prog.plainKeys) = true := by rw [Rw.plainKeys]; rfl
theorem g3 : (Rows.insWiderRow.lifted == Try.prog.liftsFinal) = true := by rw [Rw.lifts]; rfl
theorem g4 : (Try.prog.make == some Rows.insWiderRow.make) = true := by rw [Rw.make]; rfl
theorem closed : joinedFacts Try.prog 9 Try.f9 Rows.insWiderSpec Rows.insWiderRow = true := by
  unfold joinedFacts
  simp only [Rw.laid, Rw.maps, Rw.stopsHeard, Rw.mayEnter, g0, g1, g2, g3, g4, k0, k1, k2, k3, k4, k5, k6, k7, k8, k9, k10, k11, k12, k13, k14, k15, k16, k17, k18, k19, k20, k21, Bool.and_true]
  kernel_rfl
theorem named : Try.prog.funcNamed Rows.insWiderRow.func = some 9 := by kernel_rfl
theorem inst : Try.f9.isInstance Try.prog Rows.insWiderRow.origin Rows.insWiderRow.targs := of_decide_eq_true (by kernel_rfl)
theorem wrap : Try.f9.isWrapper Try.prog Rows.insWiderRow.wrapper Rows.insWiderRow.mainSum := by
  unfold Func.isWrapper
  rw [if_neg (by decide +kernel)]
  exact ⟨rfl, rfl⟩
theorem over : Rows.insWiderRow.holds Try.pinned (OpenSpec.ofChange Rows.insWiderSpec) :=
  OpenClaim.holds_of_wide 9 Try.f9 rfl rfl rfl rfl rfl rfl rfl ⟨rfl, rfl, rfl, rfl, rfl⟩ rfl rfl rfl rfl rfl named Try.func9 closed inst wrap
    (fun os started H enc _ => lifted os started H enc)
theorem proved : Rows.InsWiderSaid := over
#print axioms proved
end Go.Proofs.Ytamjcdfjkekdjaa.insWider
namespace Go.Proofs.Ytamjcdfjkekdjaa
/-- The row, under a short name, for the claim. -/
theorem insWider_holds : Rows.InsWiderSaid := insWider.proved
end Go.Proofs.Ytamjcdfjkekdjaa
