/- The law CondAtoms returns true whatever its input, and its input reads behind the call as it did before; what the three listed tables hold at the start is tied to the text of the program; no other conditions. -/
import Derived.Test.YtjijfghchcnbnaaDoorCondAtomsWalk
import Derived.Test.YtjijfghchcnbnaaDoorKitRow
import Derived.Test.YtjijfghchcnbnaaDoorCondI
import Derived.Test.YtjijfghchcnbnaaDoorTie
import Derived.Test.YtjijfghchcnbnaaDoorCards
set_option linter.unusedSimpArgs false
set_option linter.unusedVariables false
set_option autoImplicit false
set_option linter.constructorNameAsVariable false
namespace Go.Proofs.YtjijfghchcnbnaaDoor.condAtoms
open Go.ChangeShapes Go.WideShapes Go.ChangeAt Go.RowKit Go.Eng
instance calm : Trk := ⟨⟨False⟩⟩
theorem law (av : List AV) (h : ShapeAll Tryd.prog 8 Tryd.f3.params.toList av) : SC Tryd.prog 3 av (B true) := by
  rw [Tryd.params3] at h
  obtain ⟨_, _, rfl, h0, _, _, rfl, h1, _, _, rfl, h2, rfl⟩ := h
  obtain ⟨c, rfl, hc, _⟩ := sa_co h0
  obtain ⟨x, rfl, _⟩ := sa_at h1
  obtain ⟨o, rfl, _⟩ := sa_ou h2
  exact law_CondAtoms (fun h => h) hc.len
set_option maxRecDepth 100000 in
theorem lifted (os : Os) (started : os.Started) (H : Type) (enc : TypeId × Value → H) :
    ReturnsInHanded {} Tryd.checked os 3 .any (fun w args => (Rows.condAtomsSpec.pre enc Tryd.prog Tryd.f3 Rows.condAtomsRow.domain false w args ∧ laidMetH Tryd.prog Rows.condAtomsRow.laid w) ∧ sizedMet enc Tryd.prog Tryd.f3 (OpenSpec.ofChange Rows.condAtomsSpec) false w args) (Rows.condAtomsSpec.post enc Tryd.prog Tryd.f3 false true false false) := by
  refine law_lifted_laid (C := Tryd.checked) (L := Rows.condAtomsRow.laid) 8 Rw.own started (by kernel_rfl) Tryd.func3
    (ChangeSpec.witness_shaped (enc := enc) (C := Tryd.checked) (os := os) (X := fun w _ => laidMetH Tryd.prog Rows.condAtomsRow.laid w) false (World.laidAll Tryd.prog os Rows.condAtomsRow.laid) #[.agg #[.bool false, .slice none 0 0], .agg #[.int .i64 0, .int .i64 0, .int .i64 0, .bool false], .agg #[.slice none 0 0, .slice none 0 0]] 8 (World.laidAll_os _ _ _)
      (World.shaped_of_ZipB (by kernel_rfl) (by kernel_rfl)) (by kernel_rfl) (by kernel_rfl) (by kernel_rfl)
      (by rw [MakeChecks.laidMetH_plain _ _ _ (by kernel_rfl)]; exact laidMet_laidAll _ (by kernel_rfl) (by kernel_rfl)))
    Rw.laid (by kernel_rfl) rfl rfl Tryd.underlying4 ?_ (fun w h => glob_of h) law
  intro ds hl
  rw [Tryd.params3] at hl
  match ds, hl with
  | [d1, d2, d3], _ => rfl
theorem k0 : (Rows.condAtomsRow.wf (OpenSpec.ofChange Rows.condAtomsSpec)) = true := by kernel_rfl
theorem k1 : (Tryd.f3.params.all (Tryd.prog.readableRec ·)) = true := by kernel_rfl
theorem k2 : (namedTie Tryd.prog Rows.condAtomsRow.named Rows.condAtomsSpec.vars) = true := by kernel_rfl
theorem k3 : ((Rows.condAtomsRow.stops == [])) = true := by kernel_rfl
theorem k4 : ((Rows.condAtomsRow.knobs == [])) = true := by kernel_rfl
theorem k5 : ((Rows.condAtomsRow.inPlace == Tryd.prog.inPlace 3)) = true := by kernel_rfl
theorem k6 : ((Rows.condAtomsRow.unfollowed == Tryd.prog.unfollowed 3)) = true := by kernel_rfl
theorem k7 : ((Rows.condAtomsRow.recurses == Tryd.prog.recurses 3)) = true := by kernel_rfl
theorem k8 : ((Rows.condAtomsRow.named == Tryd.prog.varsNamed 3)) = true := by kernel_rfl
theorem k9 : ((Rows.condAtomsRow.maps == (Tryd.f3.params.toList ++ Rows.condAtomsSpec.plain.varTypes Tryd.prog).any (Tryd.prog.mapsRec ·))) = true := by kernel_rfl
theorem k10 : ((Rows.condAtomsRow.ifaces == (Tryd.f3.params.toList ++ Rows.condAtomsSpec.plain.varTypes Tryd.prog).any (Tryd.prog.ifacesRec ·))) = true := by kernel_rfl
theorem k11 : ((Rows.condAtomsRow.mapsOut == Tryd.prog.mapsAmong Tryd.f3.resultTypes.toList)) = true := by kernel_rfl
theorem k12 : ((Rows.condAtomsRow.loops == (Tryd.f3.params.toList ++ Rows.condAtomsSpec.plain.varTypes Tryd.prog).any (Tryd.prog.loopsFrom ·))) = true := by kernel_rfl
theorem k13 : ((Rows.condAtomsRow.wideKeys == (Tryd.f3.params.toList ++ Rows.condAtomsSpec.plain.varTypes Tryd.prog ++ Tryd.f3.resultTypes.toList).any (Tryd.prog.wideKeysFrom ·))) = true := by kernel_rfl
theorem k14 : (Rows.condAtomsSpec.vars.all (Tryd.prog.varReadable ·)) = true := by kernel_rfl
theorem k15 : (Tryd.f3.resultTypes.all (fun t => Tryd.prog.readableRec t && decide (t < Tryd.prog.types.size))) = true := by kernel_rfl
theorem k16 : ((Rows.condAtomsRow.ifacesOut == Tryd.f3.resultTypes.toList.any (Tryd.prog.ifacesRec ·))) = true := by kernel_rfl
theorem k17 : ((Rows.condAtomsRow.loopsOut == Tryd.f3.resultTypes.toList.any (Tryd.prog.loopsFrom ·))) = true := by kernel_rfl
theorem k18 : (Rows.condAtomsRow.shortTexts.isNone) = true := by kernel_rfl
theorem k19 : ((Rows.condAtomsRow.pinned == Rows.condAtomsRow.pinnedBy)) = true := by kernel_rfl
theorem k20 : ((Rows.condAtomsRow.veiled == (Tryd.f3.params.toList ++ Rows.condAtomsSpec.plain.varTypes Tryd.prog ++ Tryd.f3.resultTypes.toList).any (Tryd.prog.veiledRec ·))) = true := by kernel_rfl
theorem k21 : (Rows.condAtomsRow.veiledFits Tryd.prog Tryd.f3.params.toList (Tryd.f3.params.toList ++ Rows.condAtomsSpec.plain.varTypes Tryd.prog ++ Tryd.f3.resultTypes.toList)) = true := by kernel_rfl
theorem g0 : (Tryd.prog.stops == []) = true := by rw [Rw.stops]; rfl
theorem g1 : (Tryd.prog.stopKnobs == []) = true := by rw [Rw.stopKnobs]; rfl
theorem g2 : (Rows.condAtomsRow.plainKeys == Tryd.prog.plainKeys) = true := by rw [Rw.plainKeys]; rfl
theorem g3 : (Rows.condAtomsRow.lifted == Tryd.prog.liftsFinal) = true := by rw [Rw.lifts]; rfl
theorem g4 : (Tryd.prog.make == some Rows.condAtomsRow.make) = true := by rw [Rw.make]; rfl
theorem closed : joinedFacts Tryd.prog 3 Tryd.f3 Rows.condAtomsSpec Rows.condAtomsRow = true := by
  unfold joinedFacts
  simp only [Rw.laid, Rw.maps, Rw.stopsHeard, Rw.mayEnter, g0, g1, g2, g3, g4, k0, k1, k2, k3, k4, k5, k6, k7, k8, k9, k10, k11, k12, k13, k14, k15, k16, k17, k18, k19, k20, k21, Bool.and_true]
  kernel_rfl
theorem named : Tryd.prog.funcNamed Rows.condAtomsRow.func = some 3 := by kernel_rfl
theorem inst : Tryd.f3.isInstance Tryd.prog Rows.condAtomsRow.origin Rows.condAtomsRow.targs := of_decide_eq_true (by kernel_rfl)
theorem wrap : Tryd.f3.isWrapper Tryd.prog Rows.condAtomsRow.wrapper Rows.condAtomsRow.mainSum := by
  unfold Func.isWrapper
  rw [if_neg (by decide +kernel)]
  exact ⟨rfl, rfl⟩
theorem over : Rows.condAtomsRow.holds Tryd.pinned (OpenSpec.ofChange Rows.condAtomsSpec) :=
  OpenClaim.holds_of_wide 3 Tryd.f3 rfl rfl rfl rfl rfl rfl rfl ⟨rfl, rfl, rfl, rfl, rfl⟩ rfl rfl rfl rfl rfl named Tryd.func3 closed inst wrap
    (fun os started H enc _ => lifted os started H enc)
theorem proved : Rows.CondAtomsCardSaid :=
  Claim7.holds_tied_plain_at .later [] [.data, .data, .data] true (true, "66b388702371ae3845d9af3a9794e82cb8723eb18716baecb29cee118b426315") false
    over (fun _ h => by cases h) (by kernel_rfl) (fun _ h => by cases h) condAtoms_row_tie rfl ⟨rfl, rfl⟩ (by kernel_rfl) rfl
    (fun f fn hf hfn => by
      obtain rfl : f = 3 := (Option.some.inj (named.symm.trans hf)).symm
      obtain rfl : fn = Tryd.f3 := (Option.some.inj (Tryd.func3.symm.trans hfn)).symm
      exact ⟨by kernel_rfl, fun j t ht => by
        rw [Tryd.params3] at ht
        have ht' := Array.mem_of_getElem? ht
        simp only [List.mem_toArray, List.mem_cons, List.not_mem_nil, or_false] at ht'
        rcases ht' with rfl | rfl | rfl
        · exact (show Tryd.prog.wantsStandIn 24 = false by kernel_rfl)
        · exact (show Tryd.prog.wantsStandIn 26 = false by kernel_rfl)
        · exact (show Tryd.prog.wantsStandIn 30 = false by kernel_rfl)⟩)
    (by kernel_rfl)
#print axioms proved
end Go.Proofs.YtjijfghchcnbnaaDoor.condAtoms
namespace Go.Proofs.YtjijfghchcnbnaaDoor
/-- The card, under a short name, for the claim. -/
theorem condAtoms_holds : Rows.CondAtomsCardSaid := condAtoms.proved
end Go.Proofs.YtjijfghchcnbnaaDoor
