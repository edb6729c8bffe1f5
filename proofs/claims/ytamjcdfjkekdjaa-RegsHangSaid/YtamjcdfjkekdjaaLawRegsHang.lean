/- The law RegsHang returns true whatever its input, and its input reads behind the call as it did before; no conditions. -/
import Derived.Test.YtamjcdfjkekdjaaRegsHangWalk
import Derived.Test.YtamjcdfjkekdjaaRowing
import Derived.Test.YtamjcdfjkekdjaaShapes
set_option linter.unusedSimpArgs false
set_option linter.unusedVariables false
set_option autoImplicit false
set_option linter.constructorNameAsVariable false
namespace Go.Proofs.Ytamjcdfjkekdjaa.regsHang
open Go.ChangeShapes Go.WideShapes Go.ChangeAt Go.RowKit Go.Eng
theorem law (av : List AV) (h : ShapeAll Try.prog 4 Try.f5.params.toList av) : SC Try.prog 5 av (B true) := by
  rw [Try.params5] at h
  obtain ⟨a, _, rfl, h0, b, _, rfl, h1, c, _, rfl, h2, d, _, rfl, h3, e, _, rfl, h4, rfl⟩ := h
  obtain ⟨v0, v1, v2, v3, d0, d1, d2, d3, rfl, w0, w1, w2, w3, x0, x1, x2, x3⟩ := sa_file h0
  obtain ⟨l, rfl, wl⟩ := sa_int Try.underlying5 (by simp) h1
  obtain ⟨n, rfl, wn⟩ := sa_int Try.underlying5 (by simp) h2
  obtain ⟨o, rfl, wo⟩ := sa_int Try.underlying5 (by simp) h3
  obtain ⟨q, rfl, wq⟩ := sa_int Try.underlying5 (by simp) h4
  exact law_RegsHang w0 w1 w2 w3 x0 x1 x2 x3 wl wn wo wq
set_option maxRecDepth 100000 in
theorem lifted (os : Os) (started : os.Started) (H : Type) (enc : TypeId × Value → H) :
    ReturnsInHanded {} Try.checked os 5 .any (Rows.regsHangSpec.pre6 enc Try.prog Try.f5 Rows.regsHangRow.domain false) (Rows.regsHangSpec.post enc Try.prog Try.f5 false true false false) := by
  refine law_lifted (C := Try.checked) 4 Rw.own started (by kernel_rfl) Try.func5
    (ChangeSpec.witness6 (enc := enc) (C := Try.checked) false ⟨#[], #[.agg #[.int .i64 0, .int .i64 0, .int .i64 0, .int .i64 0, .int .u32 0, .int .u32 0, .int .u32 0, .int .u32 0], .int .u8 0, .int .u8 0, .int .u8 0, .int .u8 0], []⟩ 8 (by kernel_rfl) (by kernel_rfl) (by kernel_rfl) (by kernel_rfl))
    Rw.laid (by kernel_rfl) rfl rfl Try.underlying4 ?_ law
  intro ds hl
  rw [Try.params5] at hl
  match ds, hl with
  | [d1, d2, d3, d4, d5], _ => rfl
theorem k0 : (Rows.regsHangRow.wf (OpenSpec.ofChange Rows.regsHangSpec)) = true := by kernel_rfl
theorem k1 : (Try.f5.params.all (Try.prog.readableRec ·)) = true := by kernel_rfl
theorem k2 : (namedTie Try.prog Rows.regsHangRow.named Rows.regsHangSpec.vars) = true := by kernel_rfl
theorem k3 : ((Rows.regsHangRow.stops == [])) = true := by kernel_rfl
theorem k4 : ((Rows.regsHangRow.knobs == [])) = true := by kernel_rfl
theorem k5 : ((Rows.regsHangRow.inPlace == Try.prog.inPlace 5)) = true := by kernel_rfl
theorem k6 : ((Rows.regsHangRow.unfollowed == Try.prog.unfollowed 5)) = true := by kernel_rfl
theorem k7 : ((Rows.regsHangRow.recurses == Try.prog.recurses 5)) = true := by kernel_rfl
theorem k8 : ((Rows.regsHangRow.named == Try.prog.varsNamed 5)) = true := by kernel_rfl
theorem k9 : ((Rows.regsHangRow.maps == (Try.f5.params.toList ++ Rows.regsHangSpec.plain.varTypes Try.prog).any (Try.prog.mapsRec ·))) = true := by kernel_rfl
theorem k10 : ((Rows.regsHangRow.ifaces == (Try.f5.params.toList ++ Rows.regsHangSpec.plain.varTypes Try.prog).any (Try.prog.ifacesRec ·))) = true := by kernel_rfl
theorem k11 : ((Rows.regsHangRow.mapsOut == Try.prog.mapsAmong Try.f5.resultTypes.toList)) = true := by kernel_rfl
theorem k12 : ((Rows.regsHangRow.loops == (Try.f5.params.toList ++ Rows.regsHangSpec.plain.varTypes Try.prog).any (Try.prog.loopsFrom ·))) = true := by kernel_rfl
theorem k13 : ((Rows.regsHangRow.wideKeys == (Try.f5.params.toList ++ Rows.regsHangSpec.plain.varTypes Try.prog ++ Try.f5.resultTypes.toList).any (Try.prog.wideKeysFrom ·))) = true := by kernel_rfl
theorem k14 : (Rows.regsHangSpec.vars.all (Try.prog.varReadable ·)) = true := by kernel_rfl
theorem k15 : (Try.f5.resultTypes.all (fun t => Try.prog.readableRec t && decide (t < Try.prog.types.size))) = true := by kernel_rfl
theorem k16 : ((Rows.regsHangRow.ifacesOut == Try.f5.resultTypes.toList.any (Try.prog.ifacesRec ·))) = true := by kernel_rfl
theorem k17 : ((Rows.regsHangRow.loopsOut == Try.f5.resultTypes.toList.any (Try.prog.loopsFrom ·))) = true := by kernel_rfl
theorem k18 : (Rows.regsHangRow.shortTexts.isNone) = true := by kernel_rfl
theorem k19 : ((Rows.regsHangRow.pinned == Rows.regsHangRow.pinnedBy)) = true := by kernel_rfl
theorem k20 : ((Rows.regsHangRow.veiled == (Try.f5.params.toList ++ Rows.regsHangSpec.plain.varTypes Try.prog ++ Try.f5.resultTypes.toList).any (Try.prog.veiledRec ·))) = true := by kernel_rfl
theorem k21 : (Rows.regsHangRow.veiledFits Try.prog Try.f5.params.toList (Try.f5.params.toList ++ Rows.regsHangSpec.plain.varTypes Try.prog ++ Try.f5.resultTypes.toList)) = true := by kernel_rfl
theorem g0 : (Try.prog.stops == []) = true := by rw [Rw.stops]; rfl
theorem g1 : (Try.prog.stopKnobs == []) = true := by rw [Rw.stopKnobs]; rfl
theorem g2 : (Rows.regsHangRow.plainKeys == Try.prog.plainKeys) = true := by rw [Rw.plainKeys]; rfl
theorem g3 : (Rows.regsHangRow.lifted == Try.prog.liftsFinal) = true := by rw [Rw.lifts]; rfl
theorem g4 : (Try.prog.make == some Rows.regsHangRow.make) = true := by rw [Rw.make]; rfl
theorem closed : joinedFacts Try.prog 5 Try.f5 Rows.regsHangSpec Rows.regsHangRow = true := by
  unfold joinedFacts
  simp only [Rw.laid, Rw.maps, Rw.stopsHeard, Rw.mayEnter, g0, g1, g2, g3, g4, k0, k1, k2, k3, k4, k5, k6, k7, k8, k9, k10, k11, k12, k13, k14, k15, k16, k17, k18, k19, k20, k21, Bool.and_true]
  kernel_rfl
theorem named : Try.prog.funcNamed Rows.regsHangRow.func = some 5 := by kernel_rfl
theorem inst : Try.f5.isInstance Try.prog Rows.regsHangRow.origin Rows.regsHangRow.targs := of_decide_eq_true (by kernel_rfl)
theorem wrap : Try.f5.isWrapper Try.prog Rows.regsHangRow.wrapper Rows.regsHangRow.mainSum := by
  unfold Func.isWrapper
  rw [if_neg (by decide +kernel)]
  exact ⟨rfl, rfl⟩
theorem over : Rows.regsHangRow.holds Try.pinned (OpenSpec.ofChange Rows.regsHangSpec) :=
  OpenClaim.holds_of_wide 5 Try.f5 rfl rfl rfl rfl rfl rfl rfl ⟨rfl, rfl, rfl, rfl, rfl⟩ rfl rfl rfl rfl rfl named Try.func5 closed inst wrap
    (fun os started H enc _ => lifted os started H enc)
theorem proved : Rows.RegsHangSaid := over
#print axioms proved
end Go.Proofs.Ytamjcdfjkekdjaa.regsHang
namespace Go.Proofs.Ytamjcdfjkekdjaa
/-- The row, under a short name, for the claim. -/
theorem regsHang_holds : Rows.RegsHangSaid := regsHang.proved
end Go.Proofs.Ytamjcdfjkekdjaa
