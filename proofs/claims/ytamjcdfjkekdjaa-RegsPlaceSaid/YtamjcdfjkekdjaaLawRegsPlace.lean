/- The law RegsPlace returns true whatever its input, and its input reads behind the call as it did before; no conditions. -/
import Derived.Test.YtamjcdfjkekdjaaRegsPlaceWalk
import Derived.Test.YtamjcdfjkekdjaaRowing
import Derived.Test.YtamjcdfjkekdjaaShapes
set_option linter.unusedSimpArgs false
set_option linter.unusedVariables false
set_option autoImplicit false
set_option linter.constructorNameAsVariable false
namespace Go.Proofs.Ytamjcdfjkekdjaa.regsPlace
open Go.ChangeShapes Go.WideShapes Go.ChangeAt Go.RowKit Go.Eng
theorem law (av : List AV) (h : ShapeAll Try.prog 4 Try.f3.params.toList av) : SC Try.prog 3 av (B true) := by
  rw [Try.params3] at h
  obtain ⟨a, _, rfl, h0, b, _, rfl, h1, c, _, rfl, h2, d, _, rfl, h3, rfl⟩ := h
  obtain ⟨v0, v1, v2, v3, d0, d1, d2, d3, rfl, w0, w1, w2, w3, x0, x1, x2, x3⟩ := sa_file h0
  obtain ⟨l, rfl, wl⟩ := sa_int Try.underlying27 (by simp) h1
  obtain ⟨n, rfl, wn⟩ := sa_int Try.underlying28 (by simp) h2
  obtain ⟨o, rfl, wo⟩ := sa_int Try.underlying5 (by simp) h3
  exact law_RegsPlace w0 w1 w2 w3 wl wn wo
set_option maxRecDepth 100000 in
theorem lifted (os : Os) (started : os.Started) (H : Type) (enc : TypeId × Value → H) :
    ReturnsInHanded {} Try.checked os 3 .any (Rows.regsPlaceSpec.pre6 enc Try.prog Try.f3 Rows.regsPlaceRow.domain false) (Rows.regsPlaceSpec.post enc Try.prog Try.f3 false true false false) := by
  refine law_lifted (C := Try.checked) 4 Rw.own started (by kernel_rfl) Try.func3
    (ChangeSpec.witness6 (enc := enc) (C := Try.checked) false ⟨#[], #[.agg #[.int .i64 0, .int .i64 0, .int .i64 0, .int .i64 0, .int .u32 0, .int .u32 0, .int .u32 0, .int .u32 0], .int .u16 0, .int .i8 0, .int .u8 0], []⟩ 8 (by kernel_rfl) (by kernel_rfl) (by kernel_rfl) (by kernel_rfl))
    Rw.laid (by kernel_rfl) rfl rfl Try.underlying4 ?_ law
  intro ds hl
  rw [Try.params3] at hl
  match ds, hl with
  | [d1, d2, d3, d4], _ => rfl
theorem k0 : (Rows.regsPlaceRow.wf (OpenSpec.ofChange Rows.regsPlaceSpec)) = true := by kernel_rfl
theorem k1 : (Try.f3.params.all (Try.prog.readableRec ·)) = true := by kernel_rfl
theorem k2 : (namedTie Try.prog Rows.regsPlaceRow.named Rows.regsPlaceSpec.vars) = true := by kernel_rfl
theorem k3 : ((Rows.regsPlaceRow.stops == [])) = true := by kernel_rfl
theorem k4 : ((Rows.regsPlaceRow.knobs == [])) = true := by kernel_rfl
theorem k5 : ((Rows.regsPlaceRow.inPlace == Try.prog.inPlace 3)) = true := by kernel_rfl
theorem k6 : ((Rows.regsPlaceRow.unfollowed == Try.prog.unfollowed 3)) = true := by kernel_rfl
theorem k7 : ((Rows.regsPlaceRow.recurses == Try.prog.recurses 3)) = true := by kernel_rfl
theorem k8 : ((Rows.regsPlaceRow.named == Try.prog.varsNamed 3)) = true := by kernel_rfl
theorem k9 : ((Rows.regsPlaceRow.maps == (Try.f3.params.toList ++ Rows.regsPlaceSpec.plain.varTypes Try.prog).any (Try.prog.mapsRec ·))) = true := by kernel_rfl
theorem k10 : ((Rows.regsPlaceRow.ifaces == (Try.f3.params.toList ++ Rows.regsPlaceSpec.plain.varTypes Try.prog).any (Try.prog.ifacesRec ·))) = true := by kernel_rfl
theorem k11 : ((Rows.regsPlaceRow.mapsOut == Try.prog.mapsAmong Try.f3.resultTypes.toList)) = true := by kernel_rfl
theorem k12 : ((Rows.regsPlaceRow.loops == (Try.f3.params.toList ++ Rows.regsPlaceSpec.plain.varTypes Try.prog).any (Try.prog.loopsFrom ·))) = true := by kernel_rfl
theorem k13 : ((Rows.regsPlaceRow.wideKeys == (Try.f3.params.toList ++ Rows.regsPlaceSpec.plain.varTypes Try.prog ++ Try.f3.resultTypes.toList).any (Try.prog.wideKeysFrom ·))) = true := by kernel_rfl
theorem k14 : (Rows.regsPlaceSpec.vars.all (Try.prog.varReadable ·)) = true := by kernel_rfl
theorem k15 : (Try.f3.resultTypes.all (fun t => Try.prog.readableRec t && decide (t < Try.prog.types.size))) = true := by kernel_rfl
theorem k16 : ((Rows.regsPlaceRow.ifacesOut == Try.f3.resultTypes.toList.any (Try.prog.ifacesRec ·))) = true := by kernel_rfl
theorem k17 : ((Rows.regsPlaceRow.loopsOut == Try.f3.resultTypes.toList.any (Try.prog.loopsFrom ·))) = true := by kernel_rfl
theorem k18 : (Rows.regsPlaceRow.shortTexts.isNone) = true := by kernel_rfl
theorem k19 : ((Rows.regsPlaceRow.pinned == Rows.regsPlaceRow.pinnedBy)) = true := by kernel_rfl
theorem k20 : ((Rows.regsPlaceRow.veiled == (Try.f3.params.toList ++ Rows.regsPlaceSpec.plain.varTypes Try.prog ++ Try.f3.resultTypes.toList).any (Try.prog.veiledRec ·))) = true := by kernel_rfl
theorem k21 : (Rows.regsPlaceRow.veiledFits Try.prog Try.f3.params.toList (Try.f3.params.toList ++ Rows.regsPlaceSpec.plain.varTypes Try.prog ++ Try.f3.resultTypes.toList)) = true := by kernel_rfl
theorem g0 : (Try.prog.stops == []) = true := by rw [Rw.stops]; rfl
theorem g1 : (Try.prog.stopKnobs == []) = true := by rw [Rw.stopKnobs]; rfl
theorem g2 : (Rows.regsPlaceRow.plainKeys == Try.prog.plainKeys) = true := by rw [Rw.plainKeys]; rfl
theorem g3 : (Rows.regsPlaceRow.lifted == Try.prog.liftsFinal) = true := by rw [Rw.lifts]; rfl
theorem g4 : (Try.prog.make == some Rows.regsPlaceRow.make) = true := by rw [Rw.make]; rfl
theorem closed : joinedFacts Try.prog 3 Try.f3 Rows.regsPlaceSpec Rows.regsPlaceRow = true := by
  unfold joinedFacts
  simp only [Rw.laid, Rw.maps, Rw.stopsHeard, Rw.mayEnter, g0, g1, g2, g3, g4, k0, k1, k2, k3, k4, k5, k6, k7, k8, k9, k10, k11, k12, k13, k14, k15, k16, k17, k18, k19, k20, k21, Bool.and_true]
  kernel_rfl
theorem named : Try.prog.funcNamed Rows.regsPlaceRow.func = some 3 := by kernel_rfl
theorem inst : Try.f3.isInstance Try.prog Rows.regsPlaceRow.origin Rows.regsPlaceRow.targs := of_decide_eq_true (by kernel_rfl)
theorem wrap : Try.f3.isWrapper Try.prog Rows.regsPlaceRow.wrapper Rows.regsPlaceRow.mainSum := by
  unfold Func.isWrapper
  rw [if_neg (by decide +kernel)]
  exact ⟨rfl, rfl⟩
theorem over : Rows.regsPlaceRow.holds Try.pinned (OpenSpec.ofChange Rows.regsPlaceSpec) :=
  OpenClaim.holds_of_wide 3 Try.f3 rfl rfl rfl rfl rfl rfl rfl ⟨rfl, rfl, rfl, rfl, rfl⟩ rfl rfl rfl rfl rfl named Try.func3 closed inst wrap
    (fun os started H enc _ => lifted os started H enc)
theorem proved : Rows.RegsPlaceSaid := over
#print axioms proved
end Go.Proofs.Ytamjcdfjkekdjaa.regsPlace
namespace Go.Proofs.Ytamjcdfjkekdjaa
/-- The row, under a short name, for the claim. -/
theorem regsPlace_holds : Rows.RegsPlaceSaid := regsPlace.proved
end Go.Proofs.Ytamjcdfjkekdjaa
