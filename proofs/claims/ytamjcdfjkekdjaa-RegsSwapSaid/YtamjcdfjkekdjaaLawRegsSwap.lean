/- The law RegsSwap returns true whatever its input, and its input reads behind the call as it did before; no conditions. -/
import Derived.Test.YtamjcdfjkekdjaaRegsSwapWalk
import Derived.Test.YtamjcdfjkekdjaaRowing
import Derived.Test.YtamjcdfjkekdjaaShapes
set_option linter.unusedSimpArgs false
set_option linter.unusedVariables false
set_option autoImplicit false
set_option linter.constructorNameAsVariable false
namespace Go.Proofs.Ytamjcdfjkekdjaa.regsSwap
open Go.ChangeShapes Go.WideShapes Go.ChangeAt Go.RowKit Go.Eng
theorem law (av : List AV) (h : ShapeAll Try.prog 4 Try.f6.params.toList av) : SC Try.prog 6 av (B true) := by
  rw [Try.params6] at h
  obtain ⟨a, _, rfl, h0, b, _, rfl, h1, c, _, rfl, h2, d, _, rfl, h3, e, _, rfl, h4, rfl⟩ := h
  obtain ⟨v0, v1, v2, v3, d0, d1, d2, d3, rfl, w0, w1, w2, w3, x0, x1, x2, x3⟩ := sa_file h0
  obtain ⟨l, rfl, wl⟩ := sa_int Try.underlying5 (by simp) h1
  obtain ⟨n, rfl, wn⟩ := sa_int Try.underlying5 (by simp) h2
  obtain ⟨o, rfl, wo⟩ := sa_int Try.underlying5 (by simp) h3
  obtain ⟨q, rfl, wq⟩ := sa_int Try.underlying5 (by simp) h4
  exact law_RegsSwap w0 w1 w2 w3 x0 x1 x2 x3 wl wn wo wq
set_option maxRecDepth 100000 in
theorem lifted (os : Os) (started : os.Started) (H : Type) (enc : TypeId × Value → H) :
    ReturnsInHanded {} Try.checked os 6 .any (Rows.regsSwapSpec.pre6 enc Try.prog Try.f6 Rows.regsSwapRow.domain false) (Rows.regsSwapSpec.post enc Try.prog Try.f6 false true false false) := by
  refine law_lifted (C := Try.checked) 4 Rw.own started (by kernel_rfl) Try.func6
    (ChangeSpec.witness6 (enc := enc) (C := Try.checked) false ⟨#[], #[.agg #[.int .i64 0, .int .i64 0, .int .i64 0, .int .i64 0, .int .u32 0, .int .u32 0, .int .u32 0, .int .u32 0], .int .u8 0, .int .u8 0, .int .u8 0, .int .u8 0], []⟩ 8 (by kernel_rfl) (by kernel_rfl) (by kernel_rfl) (by kernel_rfl))
    Rw.laid (by kernel_rfl) rfl rfl Try.underlying4 ?_ law
  intro ds hl
  rw [Try.params6] at hl
  match ds, hl with
  | [d1, d2, d3, d4, d5], _ => rfl
theorem k0 : (Rows.regsSwapRow.wf (OpenSpec.ofChange Rows.regsSwapSpec)) = true := by kernel_rfl
theorem k1 : (Try.f6.params.all (Try.prog.readableRec ·)) = true := by kernel_rfl
theorem k2 : (namedTie Try.prog Rows.regsSwapRow.named Rows.regsSwapSpec.vars) = true := by kernel_rfl
theorem k3 : ((Rows.regsSwapRow.stops == [])) = true := by kernel_rfl
theorem k4 : ((Rows.regsSwapRow.knobs == [])) = true := by kernel_rfl
theorem k5 : ((Rows.regsSwapRow.inPlace == Try.prog.inPlace 6)) = true := by kernel_rfl
theorem k6 : ((Rows.regsSwapRow.unfollowed == Try.prog.unfollowed 6)) = true := by kernel_rfl
theorem k7 : ((Rows.regsSwapRow.recurses == Try.prog.recurses 6)) = true := by kernel_rfl
theorem k8 : ((Rows.regsSwapRow.named == Try.prog.varsNamed 6)) = true := by kernel_rfl
theorem k9 : ((Rows.regsSwapRow.maps == (Try.f6.params.toList ++ Rows.regsSwapSpec.plain.varTypes Try.prog).any (Try.prog.mapsRec ·))) = true := by kernel_rfl
theorem k10 : ((Rows.regsSwapRow.ifaces == (Try.f6.params.toList ++ Rows.regsSwapSpec.plain.varTypes Try.prog).any (Try.prog.ifacesRec ·))) = true := by kernel_rfl
theorem k11 : ((Rows.regsSwapRow.mapsOut == Try.prog.mapsAmong Try.f6.resultTypes.toList)) = true := by kernel_rfl
theorem k12 : ((Rows.regsSwapRow.loops == (Try.f6.params.toList ++ Rows.regsSwapSpec.plain.varTypes Try.prog).any (Try.prog.loopsFrom ·))) = true := by kernel_rfl
theorem k13 : ((Rows.regsSwapRow.wideKeys == (Try.f6.params.toList ++ Rows.regsSwapSpec.plain.varTypes Try.prog ++ Try.f6.resultTypes.toList).any (Try.prog.wideKeysFrom ·))) = true := by kernel_rfl
theorem k14 : (Rows.regsSwapSpec.vars.all (Try.prog.varReadable ·)) = true := by kernel_rfl
theorem k15 : (Try.f6.resultTypes.all (fun t => Try.prog.readableRec t && decide (t < Try.prog.types.size))) = true := by kernel_rfl
theorem k16 : ((Rows.regsSwapRow.ifacesOut == Try.f6.resultTypes.toList.any (Try.prog.ifacesRec ·))) = true := by kernel_rfl
theorem k17 : ((Rows.regsSwapRow.loopsOut == Try.f6.resultTypes.toList.any (Try.prog.loopsFrom ·))) = true := by kernel_rfl
theorem k18 : (Rows.regsSwapRow.shortTexts.isNone) = true := by kernel_rfl
theorem k19 : ((Rows.regsSwapRow.pinned == Rows.regsSwapRow.pinnedBy)) = true := by kernel_rfl
theorem k20 : ((Rows.regsSwapRow.veiled == (Try.f6.params.toList ++ Rows.regsSwapSpec.plain.varTypes Try.prog ++ Try.f6.resultTypes.toList).any (Try.prog.veiledRec ·))) = true := by kernel_rfl
theorem k21 : (Rows.regsSwapRow.veiledFits Try.prog Try.f6.params.toList (Try.f6.params.toList ++ Rows.regsSwapSpec.plain.varTypes Try.prog ++ Try.f6.resultTypes.toList)) = true := by kernel_rfl
theorem g0 : (Try.prog.stops == []) = true := by rw [Rw.stops]; rfl
theorem g1 : (Try.prog.stopKnobs == []) = true := by rw [Rw.stopKnobs]; rfl
theorem g2 : (Rows.regsSwapRow.plainKeys == Try.prog.plainKeys) = true := by rw [Rw.plainKeys]; rfl
theorem g3 : (Rows.regsSwapRow.lifted == Try.prog.liftsFinal) = true := by rw [Rw.lifts]; rfl
theorem g4 : (Try.prog.make == some Rows.regsSwapRow.make) = true := by rw [Rw.make]; rfl
theorem closed : joinedFacts Try.prog 6 Try.f6 Rows.regsSwapSpec Rows.regsSwapRow = true := by
  unfold joinedFacts
  simp only [Rw.laid, Rw.maps, Rw.stopsHeard, Rw.mayEnter, g0, g1, g2, g3, g4, k0, k1, k2, k3, k4, k5, k6, k7, k8, k9, k10, k11, k12, k13, k14, k15, k16, k17, k18, k19, k20, k21, Bool.and_true]
  kernel_rfl
theorem named : Try.prog.funcNamed Rows.regsSwapRow.func = some 6 := by kernel_rfl
theorem inst : Try.f6.isInstance Try.prog Rows.regsSwapRow.origin Rows.regsSwapRow.targs := of_decide_eq_true (by kernel_rfl)
theorem wrap : Try.f6.isWrapper Try.prog Rows.regsSwapRow.wrapper Rows.regsSwapRow.mainSum := by
  unfold Func.isWrapper
  rw [if_neg (by decide +kernel)]
  exact ⟨rfl, rfl⟩
theorem over : Rows.regsSwapRow.holds Try.pinned (OpenSpec.ofChange Rows.regsSwapSpec) :=
  OpenClaim.holds_of_wide 6 Try.f6 rfl rfl rfl rfl rfl rfl rfl ⟨rfl, rfl, rfl, rfl, rfl⟩ rfl rfl rfl rfl rfl named Try.func6 closed inst wrap
    (fun os started H enc _ => lifted os started H enc)
theorem proved : Rows.RegsSwapSaid := over
#print axioms proved
end Go.Proofs.Ytamjcdfjkekdjaa.regsSwap
namespace Go.Proofs.Ytamjcdfjkekdjaa
/-- The row, under a short name, for the claim. -/
theorem regsSwap_holds : Rows.RegsSwapSaid := regsSwap.proved
end Go.Proofs.Ytamjcdfjkekdjaa
