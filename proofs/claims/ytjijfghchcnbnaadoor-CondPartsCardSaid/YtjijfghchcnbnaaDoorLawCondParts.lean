/- The law CondParts returns true whatever its input, and its input reads behind the call as it did before; what the three listed tables hold at the start is tied to the text of the program; no other conditions. -/
import Derived.Test.YtjijfghchcnbnaaDoorCondPartsWalk
import Derived.Test.YtjijfghchcnbnaaDoorSetF
import Derived.Test.YtjijfghchcnbnaaDoorKitRow
import Derived.Test.YtjijfghchcnbnaaDoorCondI
import Derived.Test.YtjijfghchcnbnaaDoorTie
import Derived.Test.YtjijfghchcnbnaaDoorCards
set_option linter.unusedSimpArgs false
set_option linter.unusedVariables false
set_option autoImplicit false
set_option linter.constructorNameAsVariable false
namespace Go.Proofs.YtjijfghchcnbnaaDoor.condParts
open Go.ChangeShapes Go.WideShapes Go.ChangeAt Go.RowKit Go.Eng
instance calm : Trk := ⟨⟨False⟩⟩
theorem law (av : List AV) (h : ShapeAll Tryd.prog 8 Tryd.f8.params.toList av) : SC Tryd.prog 8 av (B true) := by
  rw [Tryd.params8] at h
  obtain ⟨_, _, rfl, h0, _, _, rfl, h1, _, _, rfl, h2, rfl⟩ := h
  obtain ⟨c, rfl, hc, _⟩ := sa_co h0
  obtain ⟨a, rfl, ha, hao⟩ := sa_ous h1
  obtain ⟨b, rfl, hb, hbo⟩ := sa_ous h2
  exact law_CondParts (fun h => h) (c_Set fun h => h) hc ha hb hao hbo
set_option maxRecDepth 100000 in
theorem lifted (os : Os) (started : os.Started) (H : Type) (enc : TypeId × Value → H) :
    ReturnsInHanded {} Tryd.checked os 8 .any (fun w args => (Rows.condPartsSpec.pre enc Tryd.prog Tryd.f8 Rows.condPartsRow.domain false w args ∧ laidMetH Tryd.prog Rows.condPartsRow.laid w) ∧ sizedMet enc Tryd.prog Tryd.f8 (OpenSpec.ofChange Rows.condPartsSpec) false w args) (Rows.condPartsSpec.post enc Tryd.prog Tryd.f8 false true false false) := by
  refine law_lifted_laid (C := Tryd.checked) (L := Rows.condPartsRow.laid) 8 Rw.own started (by kernel_rfl) Tryd.func8
    (ChangeSpec.witness_shaped (enc := enc) (C := Tryd.checked) (os := os) (X := fun w _ => laidMetH Tryd.prog Rows.condPartsRow.laid w) false (World.laidAll Tryd.prog os Rows.condPartsRow.laid) #[.agg #[.bool false, .slice none 0 0], .slice none 0 0, .slice none 0 0] 8 (World.laidAll_os _ _ _)
      (World.shaped_of_ZipB (by kernel_rfl) (by kernel_rfl)) (by kernel_rfl) (by kernel_rfl) (by kernel_rfl)
      (by rw [MakeChecks.laidMetH_plain _ _ _ (by kernel_rfl)]; exact laidMet_laidAll _ (by kernel_rfl) (by kernel_rfl)))
    Rw.laid (by kernel_rfl) rfl rfl Tryd.underlying4 ?_ (fun w h => glob_of h) law
  intro ds hl
  rw [Tryd.params8] at hl
  match ds, hl with
  | [d1, d2, d3], _ => rfl
theorem k0 : (Rows.condPartsRow.wf (OpenSpec.ofChange Rows.condPartsSpec)) = true := by kernel_rfl
theorem k1 : (Tryd.f8.params.all (Tryd.prog.readableRec ·)) = true := by kernel_rfl
theorem k2 : (namedTie Tryd.prog Rows.condPartsRow.named Rows.condPartsSpec.vars) = true := by kernel_rfl
theorem k3 : ((Rows.condPartsRow.stops == [])) = true := by kernel_rfl
theorem k4 : ((Rows.condPartsRow.knobs == [])) = true := by kernel_rfl
theorem k5 : ((Rows.condPartsRow.inPlace == Tryd.prog.inPlace 8)) = true := by kernel_rfl
theorem k6 : ((Rows.condPartsRow.unfollowed == Tryd.prog.unfollowed 8)) = true := by kernel_rfl
theorem k7 : ((Rows.condPartsRow.recurses == Tryd.prog.recurses 8)) = true := by kernel_rfl
theorem k8 : ((Rows.condPartsRow.named == Tryd.prog.varsNamed 8)) = true := by kernel_rfl
theorem k9 : ((Rows.condPartsRow.maps == (Tryd.f8.params.toList ++ Rows.condPartsSpec.plain.varTypes Tryd.prog).any (Tryd.prog.mapsRec ·))) = true := by kernel_rfl
theorem k10 : ((Rows.condPartsRow.ifaces == (Tryd.f8.params.toList ++ Rows.condPartsSpec.plain.varTypes Tryd.prog).any (Tryd.prog.ifacesRec ·))) = true := by kernel_rfl
theorem k11 : ((Rows.condPartsRow.mapsOut == Tryd.prog.mapsAmong Tryd.f8.resultTypes.toList)) = true := by kernel_rfl
theorem k12 : ((Rows.condPartsRow.loops == (Tryd.f8.params.toList ++ Rows.condPartsSpec.plain.varTypes Tryd.prog).any (Tryd.prog.loopsFrom ·))) = true := by kernel_rfl
theorem k13 : ((Rows.condPartsRow.wideKeys == (Tryd.f8.params.toList ++ Rows.condPartsSpec.plain.varTypes Tryd.prog ++ Tryd.f8.resultTypes.toList).any (Tryd.prog.wideKeysFrom ·))) = true := by kernel_rfl
theorem k14 : (Rows.condPartsSpec.vars.all (Tryd.prog.varReadable ·)) = true := by kernel_rfl
theorem k15 : (Tryd.f8.resultTypes.all (fun t => Tryd.prog.readableRec t && decide (t < Tryd.prog.types.size))) = true := by kernel_rfl
theorem k16 : ((Rows.condPartsRow.ifacesOut == Tryd.f8.resultTypes.toList.any (Tryd.prog.ifacesRec ·))) = true := by kernel_rfl
theorem k17 : ((Rows.condPartsRow.loopsOut == Tryd.f8.resultTypes.toList.any (Tryd.prog.loopsFrom ·))) = true := by kernel_rfl
theorem k18 : (Rows.condPartsRow.shortTexts.isNone) = true := by kernel_rfl
theorem k19 : ((Rows.condPartsRow.pinned == Rows.condPartsRow.pinnedBy)) = true := by kernel_rfl
theorem k20 : ((Rows.condPartsRow.veiled == (Tryd.f8.params.toList ++ Rows.condPartsSpec.plain.varTypes Tryd.prog ++ Tryd.f8.resultTypes.toList).any (Tryd.prog.veiledRec ·))) = true := by kernel_rfl
theorem k21 : (Rows.condPartsRow.veiledFits Tryd.prog Tryd.f8.params.toList (Tryd.f8.params.toList ++ Rows.condPartsSpec.plain.varTypes Tryd.prog ++ Tryd.f8.resultTypes.toList)) = true := by kernel_rfl
theorem g0 : (Tryd.prog.stops == []) = true := by rw [Rw.stops]; rfl
theorem g1 : (Tryd.prog.stopKnobs == []) = true := by rw [Rw.stopKnobs]; rfl
theorem g2 : (Rows.condPartsRow.plainKeys == Tryd.prog.plainKeys) = true := by rw [Rw.plainKeys]; rfl
theorem g3 : (Rows.condPartsRow.lifted == Tryd.prog.liftsFinal) = true := by rw [Rw.lifts]; rfl
theorem g4 : (Tryd.prog.make == some Rows.condPartsRow.make) = true := by rw [Rw.make]; rfl
theorem closed : joinedFacts Tryd.prog 8 Tryd.f8 Rows.condPartsSpec Rows.condPartsRow = true := by
  unfold joinedFacts
  simp only [Rw.laid, Rw.maps, Rw.stopsHeard, Rw.mayEnter, g0, g1, g2, g3, g4, k0, k1, k2, k3, k4, k5, k6, k7, k8, k9, k10, k11, k12, k13, k14, k15, k16, k17, k18, k19, k20, k21, Bool.and_true]
  kernel_rfl
theorem named : Tryd.prog.funcNamed Rows.condPartsRow.func = some 8 := by kernel_rfl
theorem inst : Tryd.f8.isInstance Tryd.prog Rows.condPartsRow.origin Rows.condPartsRow.targs := of_decide_eq_true (by kernel_rfl)
theorem wrap : Tryd.f8.isWrapper Tryd.prog Rows.condPartsRow.wrapper Rows.condPartsRow.mainSum := by
  unfold Func.isWrapper
  rw [if_neg (by decide +kernel)]
  exact ⟨rfl, rfl⟩
theorem over : Rows.condPartsRow.holds Tryd.pinned (OpenSpec.ofChange Rows.condPartsSpec) :=
  OpenClaim.holds_of_wide 8 Tryd.f8 rfl rfl rfl rfl rfl rfl rfl ⟨rfl, rfl, rfl, rfl, rfl⟩ rfl rfl rfl rfl rfl named Tryd.func8 closed inst wrap
    (fun os started H enc _ => lifted os started H enc)
theorem proved : Rows.CondPartsCardSaid :=
  Claim7.holds_tied_plain_at .later [] [.data, .data, .data] true (true, "66b388702371ae3845d9af3a9794e82cb8723eb18716baecb29cee118b426315") false
    over (fun _ h => by cases h) (by kernel_rfl) (fun _ h => by cases h) condParts_row_tie rfl ⟨rfl, rfl⟩ (by kernel_rfl) rfl
    (fun f fn hf hfn => by
      obtain rfl : f = 8 := (Option.some.inj (named.symm.trans hf)).symm
      obtain rfl : fn = Tryd.f8 := (Option.some.inj (Tryd.func8.symm.trans hfn)).symm
      exact ⟨by kernel_rfl, fun j t ht => by
        rw [Tryd.params8] at ht
        have ht' := Array.mem_of_getElem? ht
        simp only [List.mem_toArray, List.mem_cons, List.not_mem_nil, or_false] at ht'
        rcases ht' with rfl | rfl | rfl
        · exact (show Tryd.prog.wantsStandIn 24 = false by kernel_rfl)
        · exact (show Tryd.prog.wantsStandIn 42 = false by kernel_rfl)
        · exact (show Tryd.prog.wantsStandIn 42 = false by kernel_rfl)⟩)
    (by kernel_rfl)
#print axioms proved
end Go.Proofs.YtjijfghchcnbnaaDoor.condParts
namespace Go.Proofs.YtjijfghchcnbnaaDoor
/-- The card, under a short name, for the claim. -/
theorem condParts_holds : Rows.CondPartsCardSaid := condParts.proved
end Go.Proofs.YtjijfghchcnbnaaDoor
