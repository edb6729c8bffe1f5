/- The law CondSets returns true whatever its input, and its input reads behind the call as it did before; what the three listed tables hold at the start is tied to the text of the program; no other conditions. -/
import Derived.Test.YtjijfghchcnbnaaDoorCondSetsWalk
import Derived.Test.YtjijfghchcnbnaaDoorSetF
import Derived.Test.YtjijfghchcnbnaaDoorKitRow
import Derived.Test.YtjijfghchcnbnaaDoorCondI
import Derived.Test.YtjijfghchcnbnaaDoorTie
import Derived.Test.YtjijfghchcnbnaaDoorCards
set_option linter.unusedSimpArgs false
set_option linter.unusedVariables false
set_option autoImplicit false
set_option linter.constructorNameAsVariable false
namespace Go.Proofs.YtjijfghchcnbnaaDoor.condSets
open Go.ChangeShapes Go.WideShapes Go.ChangeAt Go.RowKit Go.Eng
instance calm : Trk := ⟨⟨False⟩⟩
theorem law (av : List AV) (h : ShapeAll Tryd.prog 8 Tryd.f5.params.toList av) : SC Tryd.prog 5 av (B true) := by
  rw [Tryd.params5] at h
  obtain ⟨_, _, rfl, h0, rfl⟩ := h
  obtain ⟨l, rfl, hl, ho⟩ := sa_ous h0
  exact law_CondSets (fun h => h) (c_Set fun h => h) hl ho
set_option maxRecDepth 100000 in
theorem lifted (os : Os) (started : os.Started) (H : Type) (enc : TypeId × Value → H) :
    ReturnsInHanded {} Tryd.checked os 5 .any (fun w args => (Rows.condSetsSpec.pre enc Tryd.prog Tryd.f5 Rows.condSetsRow.domain false w args ∧ laidMetH Tryd.prog Rows.condSetsRow.laid w) ∧ sizedMet enc Tryd.prog Tryd.f5 (OpenSpec.ofChange Rows.condSetsSpec) false w args) (Rows.condSetsSpec.post enc Tryd.prog Tryd.f5 false true false false) := by
  refine law_lifted_laid (C := Tryd.checked) (L := Rows.condSetsRow.laid) 8 Rw.own started (by kernel_rfl) Tryd.func5
    (ChangeSpec.witness_shaped (enc := enc) (C := Tryd.checked) (os := os) (X := fun w _ => laidMetH Tryd.prog Rows.condSetsRow.laid w) false (World.laidAll Tryd.prog os Rows.condSetsRow.laid) #[.slice none 0 0] 8 (World.laidAll_os _ _ _)
      (World.shaped_of_ZipB (by kernel_rfl) (by kernel_rfl)) (by kernel_rfl) (by kernel_rfl) (by kernel_rfl)
      (by rw [MakeChecks.laidMetH_plain _ _ _ (by kernel_rfl)]; exact laidMet_laidAll _ (by kernel_rfl) (by kernel_rfl)))
    Rw.laid (by kernel_rfl) rfl rfl Tryd.underlying4 ?_ (fun w h => glob_of h) law
  intro ds hl
  rw [Tryd.params5] at hl
  match ds, hl with
  | [d1], _ => rfl
theorem k0 : (Rows.condSetsRow.wf (OpenSpec.ofChange Rows.condSetsSpec)) = true := by kernel_rfl
theorem k1 : (Tryd.f5.params.all (Tryd.prog.readableRec ·)) = true := by kernel_rfl
theorem k2 : (namedTie Tryd.prog Rows.condSetsRow.named Rows.condSetsSpec.vars) = true := by kernel_rfl
theorem k3 : ((Rows.condSetsRow.stops == [])) = true := by kernel_rfl
theorem k4 : ((Rows.condSetsRow.knobs == [])) = true := by kernel_rfl
theorem k5 : ((Rows.condSetsRow.inPlace == Tryd.prog.inPlace 5)) = true := by kernel_rfl
theorem k6 : ((Rows.condSetsRow.unfollowed == Tryd.prog.unfollowed 5)) = true := by kernel_rfl
theorem k7 : ((Rows.condSetsRow.recurses == Tryd.prog.recurses 5)) = true := by kernel_rfl
theorem k8 : ((Rows.condSetsRow.named == Tryd.prog.varsNamed 5)) = true := by kernel_rfl
theorem k9 : ((Rows.condSetsRow.maps == (Tryd.f5.params.toList ++ Rows.condSetsSpec.plain.varTypes Tryd.prog).any (Tryd.prog.mapsRec ·))) = true := by kernel_rfl
theorem k10 : ((Rows.condSetsRow.ifaces == (Tryd.f5.params.toList ++ Rows.condSetsSpec.plain.varTypes Tryd.prog).any (Tryd.prog.ifacesRec ·))) = true := by kernel_rfl
theorem k11 : ((Rows.condSetsRow.mapsOut == Tryd.prog.mapsAmong Tryd.f5.resultTypes.toList)) = true := by kernel_rfl
theorem k12 : ((Rows.condSetsRow.loops == (Tryd.f5.params.toList ++ Rows.condSetsSpec.plain.varTypes Tryd.prog).any (Tryd.prog.loopsFrom ·))) = true := by kernel_rfl
theorem k13 : ((Rows.condSetsRow.wideKeys == (Tryd.f5.params.toList ++ Rows.condSetsSpec.plain.varTypes Tryd.prog ++ Tryd.f5.resultTypes.toList).any (Tryd.prog.wideKeysFrom ·))) = true := by kernel_rfl
theorem k14 : (Rows.condSetsSpec.vars.all (Tryd.prog.varReadable ·)) = true := by kernel_rfl
theorem k15 : (Tryd.f5.resultTypes.all (fun t => Tryd.prog.readableRec t && decide (t < Tryd.prog.types.size))) = true := by kernel_rfl
theorem k16 : ((Rows.condSetsRow.ifacesOut == Tryd.f5.resultTypes.toList.any (Tryd.prog.ifacesRec ·))) = true := by kernel_rfl
theorem k17 : ((Rows.condSetsRow.loopsOut == Tryd.f5.resultTypes.toList.any (Tryd.prog.loopsFrom ·))) = true := by kernel_rfl
theorem k18 : (Rows.condSetsRow.shortTexts.isNone) = true := by kernel_rfl
theorem k19 : ((Rows.condSetsRow.pinned == Rows.condSetsRow.pinnedBy)) = true := by kernel_rfl
theorem k20 : ((Rows.condSetsRow.veiled == (Tryd.f5.params.toList ++ Rows.condSetsSpec.plain.varTypes Tryd.prog ++ Tryd.f5.resultTypes.toList).any (Tryd.prog.veiledRec ·))) = true := by kernel_rfl
theorem k21 : (Rows.condSetsRow.veiledFits Tryd.prog Tryd.f5.params.toList (Tryd.f5.params.toList ++ Rows.condSetsSpec.plain.varTypes Tryd.prog ++ Tryd.f5.resultTypes.toList)) = true := by kernel_rfl
theorem g0 : (Tryd.prog.stops == []) = true := by rw [Rw.stops]; rfl
theorem g1 : (Tryd.prog.stopKnobs == []) = true := by rw [Rw.stopKnobs]; rfl
theorem g2 : (Rows.condSetsRow.plainKeys == Tryd.prog.plainKeys) = true := by rw [Rw.plainKeys]; rfl
theorem g3 : (Rows.condSetsRow.lifted == Tryd.prog.liftsFinal) = true := by rw [Rw.lifts]; rfl
theorem g4 : (Tryd.prog.make == some Rows.condSetsRow.make) = true := by rw [Rw.make]; rfl
theorem closed : joinedFacts Tryd.prog 5 Tryd.f5 Rows.condSetsSpec Rows.condSetsRow = true := by
  unfold joinedFacts
  simp only [Rw.laid, Rw.maps, Rw.stopsHeard, Rw.mayEnter, g0, g1, g2, g3, g4, k0, k1, k2, k3, k4, k5, k6, k7, k8, k9, k10, k11, k12, k13, k14, k15, k16, k17, k18, k19, k20, k21, Bool.and_true]
  kernel_rfl
theorem named : Tryd.prog.funcNamed Rows.condSetsRow.func = some 5 := by kernel_rfl
theorem inst : Tryd.f5.isInstance Tryd.prog Rows.condSetsRow.origin Rows.condSetsRow.targs := of_decide_eq_true (by kernel_rfl)
theorem wrap : Tryd.f5.isWrapper Tryd.prog Rows.condSetsRow.wrapper Rows.condSetsRow.mainSum := by
  unfold Func.isWrapper
  rw [if_neg (by decide +kernel)]
  exact ⟨rfl, rfl⟩
theorem over : Rows.condSetsRow.holds Tryd.pinned (OpenSpec.ofChange Rows.condSetsSpec) :=
  OpenClaim.holds_of_wide 5 Tryd.f5 rfl rfl rfl rfl rfl rfl rfl ⟨rfl, rfl, rfl, rfl, rfl⟩ rfl rfl rfl rfl rfl named Tryd.func5 closed inst wrap
    (fun os started H enc _ => lifted os started H enc)
theorem proved : Rows.CondSetsCardSaid :=
  Claim7.holds_tied_plain_at .later [] [.data, .data, .data] true (true, "66b388702371ae3845d9af3a9794e82cb8723eb18716baecb29cee118b426315") false
    over (fun _ h => by cases h) (by kernel_rfl) (fun _ h => by cases h) condSets_row_tie rfl ⟨rfl, rfl⟩ (by kernel_rfl) rfl
    (fun f fn hf hfn => by
      obtain rfl : f = 5 := (Option.some.inj (named.symm.trans hf)).symm
      obtain rfl : fn = Tryd.f5 := (Option.some.inj (Tryd.func5.symm.trans hfn)).symm
      exact ⟨by kernel_rfl, fun j t ht => by
        rw [Tryd.params5] at ht
        have ht' := Array.mem_of_getElem? ht
        simp only [List.mem_toArray, List.mem_cons, List.not_mem_nil, or_false] at ht'
        rcases ht' with rfl
        · exact (show Tryd.prog.wantsStandIn 42 = false by kernel_rfl)⟩)
    (by kernel_rfl)
#print axioms proved
end Go.Proofs.YtjijfghchcnbnaaDoor.condSets
namespace Go.Proofs.YtjijfghchcnbnaaDoor
/-- The card, under a short name, for the claim. -/
theorem condSets_holds : Rows.CondSetsCardSaid := condSets.proved
end Go.Proofs.YtjijfghchcnbnaaDoor
