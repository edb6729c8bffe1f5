/- The law cupolalaw07.RegsSets returns true whatever its input, and its input reads behind the call as before; no conditions. -/
import Derived.Test.YtamjcdfjkekdjaaRegsSetsWalk
import Derived.Test.YtamjcdfjkekdjaaRowing
import Derived.Test.YtamjcdfjkekdjaaRows
import Derived.WalkKit
import Derived.ShutString
import Derived.ChangeOld
import Derived.Below
import Derived.SizedLaws
set_option linter.unusedSimpArgs false
set_option linter.unusedVariables false
set_option autoImplicit false
set_option linter.constructorNameAsVariable false
namespace Go.Eng
open Go Go.RowKit Go.Proofs
theorem sh_int {m : Nat} {t : TypeId} {k : IntKind} {a : AV} (ht : Try.prog.underlying t = some (.int k)) (hg : aggOf Try.prog t = some false) (h : ShapeA Try.prog (m + 1) t a) : ∃ n, a = I k n ∧ (Lit.int k n).wf = true := by
  rcases h with ⟨h, _⟩ | ⟨_, p, rfl, h⟩
  · rw [hg] at h; cases h
  · simp only [Shape, ht] at h
    obtain ⟨n, e, hw⟩ := h
    cases e
    exact ⟨n, rfl, hw⟩
theorem sh_file {a : AV} (h : ShapeA Try.prog 4 26 a) : ∃ v0 v1 v2 v3 d0 d1 d2 d3, a = .agg (fileL v0 v1 v2 v3 d0 d1 d2 d3) ∧ W64 v0 ∧ W64 v1 ∧ W64 v2 ∧ W64 v3 ∧ W32 d0 ∧ W32 d1 ∧ W32 d2 ∧ W32 d3 := by
  rcases h with ⟨_, ps, rfl, h⟩ | ⟨h, _⟩
  · simp only [Shape, Try.underlying26, shapeF, Try.underlying22, Try.underlying24, Try.underlying2, Try.underlying23, shapeN] at h
    obtain ⟨q, r, rfl, ⟨q0, r0, rfl, ⟨v0, rfl, w0⟩, q1, r1, rfl, ⟨v1, rfl, w1⟩, q2, r2, rfl, ⟨v2, rfl, w2⟩, q3, r3, rfl, ⟨v3, rfl, w3⟩, rfl⟩, q', r', rfl, ⟨p0, s0, rfl, ⟨d0, rfl, x0⟩, p1, s1, rfl, ⟨d1, rfl, x1⟩, p2, s2, rfl, ⟨d2, rfl, x2⟩, p3, s3, rfl, ⟨d3, rfl, x3⟩, rfl⟩, rfl⟩ := h
    exact ⟨v0, v1, v2, v3, d0, d1, d2, d3, rfl, w0, w1, w2, w3, x0, x1, x2, x3⟩
  · simp at h
end Go.Eng
namespace Go.Proofs.Ytamjcdfjkekdjaa.regsSets
open Go.ChangeShapes Go.WideShapes Go.ChangeAt Go.RowKit Go.Eng
set_option linter.unusedVariables false
theorem law (av : List AV) (h : ShapeAll Try.prog 4 Try.f4.params.toList av) : SC Try.prog 4 av (B true) := by
  rw [Try.params4] at h
  obtain ⟨a, _, rfl, h0, b, _, rfl, h1, c, _, rfl, h2, d, _, rfl, h3, e, _, rfl, h4, rfl⟩ := h
  obtain ⟨v0, v1, v2, v3, d0, d1, d2, d3, rfl, w0, w1, w2, w3, x0, x1, x2, x3⟩ := sh_file h0
  obtain ⟨n, rfl, wn⟩ := sh_int Try.underlying3 (by simp) h1
  obtain ⟨v, rfl, wv⟩ := sh_int Try.underlying2 (by simp) h2
  obtain ⟨dep, rfl, wd⟩ := sh_int Try.underlying23 (by simp) h3
  obtain ⟨o, rfl, wo⟩ := sh_int Try.underlying5 (by simp) h4
  exact law_RegsSets w0 w1 w2 w3 x0 x1 x2 x3 wv wd wo
set_option maxRecDepth 100000 in
theorem lifted (os : Os) (started : os.Started) (H : Type) (enc : TypeId × Value → H) :
    ReturnsInHanded {} Try.checked os 4 .any (Rows.regsSetsSpec.pre6 enc Try.prog Try.f4 Rows.regsSetsRow.domain false) (Rows.regsSetsSpec.post enc Try.prog Try.f4 false true false false) := by
  refine law_lifted (C := Try.checked) 4 Rw.own started (by kernel_rfl) Try.func4
    (ChangeSpec.witness6 (enc := enc) (C := Try.checked) false ⟨#[], #[.agg #[.int .i64 0, .int .i64 0, .int .i64 0, .int .i64 0, .int .u32 0, .int .u32 0, .int .u32 0, .int .u32 0], .int .i64 0, .int .i64 0, .int .u32 0, .int .u8 0], []⟩ 8 (by kernel_rfl) (by kernel_rfl) (by kernel_rfl) (by kernel_rfl))
    Rw.laid (by kernel_rfl) rfl rfl Try.underlying4 ?_ law
  intro ds hl
  rw [Try.params4] at hl
  match ds, hl with
  | [d1, d2, d3, d4, d5], _ => rfl
theorem k0 : (Rows.regsSetsRow.wf (OpenSpec.ofChange Rows.regsSetsSpec)) = true := by kernel_rfl
theorem k1 : (Try.f4.params.all (Try.prog.readableRec ·)) = true := by kernel_rfl
theorem k2 : (namedTie Try.prog Rows.regsSetsRow.named Rows.regsSetsSpec.vars) = true := by kernel_rfl
theorem k3 : ((Rows.regsSetsRow.stops == [])) = true := by kernel_rfl
theorem k4 : ((Rows.regsSetsRow.knobs == [])) = true := by kernel_rfl
theorem k5 : ((Rows.regsSetsRow.inPlace == Try.prog.inPlace 4)) = true := by kernel_rfl
theorem k6 : ((Rows.regsSetsRow.unfollowed == Try.prog.unfollowed 4)) = true := by kernel_rfl
theorem k7 : ((Rows.regsSetsRow.recurses == Try.prog.recurses 4)) = true := by kernel_rfl
theorem k8 : ((Rows.regsSetsRow.named == Try.prog.varsNamed 4)) = true := by kernel_rfl
theorem k9 : ((Rows.regsSetsRow.maps == (Try.f4.params.toList ++ Rows.regsSetsSpec.plain.varTypes Try.prog).any (Try.prog.mapsRec ·))) = true := by kernel_rfl
theorem k10 : ((Rows.regsSetsRow.ifaces == (Try.f4.params.toList ++ Rows.regsSetsSpec.plain.varTypes Try.prog).any (Try.prog.ifacesRec ·))) = true := by kernel_rfl
theorem k11 : ((Rows.regsSetsRow.mapsOut == Try.prog.mapsAmong Try.f4.resultTypes.toList)) = true := by kernel_rfl
theorem k12 : ((Rows.regsSetsRow.loops == (Try.f4.params.toList ++ Rows.regsSetsSpec.plain.varTypes Try.prog).any (Try.prog.loopsFrom ·))) = true := by kernel_rfl
theorem k13 : ((Rows.regsSetsRow.wideKeys == (Try.f4.params.toList ++ Rows.regsSetsSpec.plain.varTypes Try.prog ++ Try.f4.resultTypes.toList).any (Try.prog.wideKeysFrom ·))) = true := by kernel_rfl
theorem k14 : (Rows.regsSetsSpec.vars.all (Try.prog.varReadable ·)) = true := by kernel_rfl
theorem k15 : (Try.f4.resultTypes.all (fun t => Try.prog.readableRec t && decide (t < Try.prog.types.size))) = true := by kernel_rfl
theorem k16 : ((Rows.regsSetsRow.ifacesOut == Try.f4.resultTypes.toList.any (Try.prog.ifacesRec ·))) = true := by kernel_rfl
theorem k17 : ((Rows.regsSetsRow.loopsOut == Try.f4.resultTypes.toList.any (Try.prog.loopsFrom ·))) = true := by kernel_rfl
theorem k18 : (Rows.regsSetsRow.shortTexts.isNone) = true := by kernel_rfl
theorem k20 : ((Rows.regsSetsRow.pinned == Rows.regsSetsRow.pinnedBy)) = true := by kernel_rfl
theorem k21 : ((Rows.regsSetsRow.veiled == (Try.f4.params.toList ++ Rows.regsSetsSpec.plain.varTypes Try.prog ++ Try.f4.resultTypes.toList).any (Try.prog.veiledRec ·))) = true := by kernel_rfl
theorem k22 : (Rows.regsSetsRow.veiledFits Try.prog Try.f4.params.toList (Try.f4.params.toList ++ Rows.regsSetsSpec.plain.varTypes Try.prog ++ Try.f4.resultTypes.toList)) = true := by kernel_rfl
theorem g0 : (Try.prog.stops == []) = true := by rw [Rw.stops]; rfl
theorem g1 : (Try.prog.stopKnobs == []) = true := by rw [Rw.stopKnobs]; rfl
theorem g2 : (Rows.regsSetsRow.plainKeys == Try.prog.plainKeys) = true := by rw [Rw.plainKeys]; rfl
theorem g3 : (Rows.regsSetsRow.lifted == Try.prog.liftsFinal) = true := by rw [Rw.lifts]; rfl
theorem g4 : (Try.prog.make == some Rows.regsSetsRow.make) = true := by rw [Rw.make]; rfl
theorem closed : joinedFacts Try.prog 4 Try.f4 Rows.regsSetsSpec Rows.regsSetsRow = true := by
  unfold joinedFacts
  simp only [Rw.laid, Rw.maps, Rw.stopsHeard, Rw.mayEnter, g0, g1, g2, g3, g4, k0, k1, k2, k3, k4, k5, k6, k7, k8, k9, k10, k11, k12, k13, k14, k15, k16, k17, k18, k20, k21, k22, Bool.and_true]
  kernel_rfl
theorem named : Try.prog.funcNamed Rows.regsSetsRow.func = some 4 := by kernel_rfl
theorem inst : Try.f4.isInstance Try.prog Rows.regsSetsRow.origin Rows.regsSetsRow.targs := of_decide_eq_true (by kernel_rfl)
theorem wrap : Try.f4.isWrapper Try.prog Rows.regsSetsRow.wrapper Rows.regsSetsRow.mainSum := by
  unfold Func.isWrapper
  rw [if_neg (by decide +kernel)]
  exact ⟨rfl, rfl⟩
theorem over : Rows.regsSetsRow.holds Try.pinned (OpenSpec.ofChange Rows.regsSetsSpec) :=
  OpenClaim.holds_of_wide 4 Try.f4 rfl rfl rfl rfl rfl rfl rfl ⟨rfl, rfl, rfl, rfl, rfl⟩ rfl rfl rfl rfl rfl named Try.func4 closed inst wrap
    (fun os started H enc _ => lifted os started H enc)
theorem proved : Rows.RegsSetsSaid := over
#print axioms proved
end Go.Proofs.Ytamjcdfjkekdjaa.regsSets
namespace Go.Proofs.Ytamjcdfjkekdjaa
/-- The row, under a short name, for the claim. -/
theorem regsSets_holds : Rows.RegsSetsSaid := regsSets.proved
end Go.Proofs.Ytamjcdfjkekdjaa
