/-
  No cell of these rows narrows 'for every input' (looked for: loops, veiled, ifaces, maps, wideKeys, modest, calm, conditions, laid).
  DERIVED. THE GIVEN ROWS OF THIS SEAT. 10 by the template 'for every input the law returns true; each argument reads behind the call as it read before'; 0 by the template 'total and deterministic' (their statements: YtclegllogeanlaaTotals.lean).
  GIVEN WITH THE SEED: the statements are not yours to turn. If you find one false, say at which input.
  Laid BY PROGRAM, IN A SANDBOX (cutbox-rows.mjs): the forced cells as the released guide's own fill.sh prints them over the translation d41ee9179037ea4a… (all of the seat's roots in one cut). By AI agents, Wed Nov 11 2026. No macro, syntax, notation, axiom, sorry.
-/
import Derived.Test.YtclegllogeanlaaChecked
import GoSem.Claim
import GoSem.ClaimJoined
import GoSem.ClaimMapViews
import Derived.JoinedTies
import Derived.KernelRfl
namespace Go.Proofs.Ytclegllogeanlaa
/- THE CELL 'sum', in the pinned program and in every row, IS THE sha256 OF THE DUMP (.gsa) THAT YtclegllogeanlaaProg.lean LOADS. Nothing in Lean hashes anything: it is a label: what it is worth is what the hold of that sum in a sandbox is worth. -/
noncomputable def Try.pinned : Pinned := { name := "ytclegllogeanlaa", sum := "d41ee9179037ea4a71b23cb8805fafc0af144f4b4305f0274425ff02e3fbefa9", checked := Try.checked }
namespace Rows
def none {H : Type} : Left H := { results := [], args := [] }

/-- 'cupolalaw13.DeriveParts': WHATEVER THE INPUT: true; the input reads as it did. -/
def derivePartsSpec : ChangeSpec := { name := "deriveParts", fn := fun _ => fun
  | [d1, d2] => { results := [.lit (.bool true)], args := [d1, d2] }
  | _ => none }
def derivePartsRow : OpenClaim := { program := "ytclegllogeanlaa", sum := "d41ee9179037ea4a71b23cb8805fafc0af144f4b4305f0274425ff02e3fbefa9", func := "cupola/cupolalaw13.DeriveParts", spec := "deriveParts", unfollowed := true, recurses := true, apart := false }
def DerivePartsSaid : Prop := derivePartsRow.holds Try.pinned (OpenSpec.ofChange derivePartsSpec)

/-- ITS FALSE NEIGHBOUR: 'it returns false'. Refute it at one input. -/
def derivePartsWrong : ChangeSpec := { name := "deriveParts", fn := fun _ => fun
  | [d1, d2] => { results := [.lit (.bool false)], args := [d1, d2] }
  | _ => none }
def DerivePartsWrongFalsely : Prop := derivePartsRow.holds Try.pinned (OpenSpec.ofChange derivePartsWrong)

/-- 'cupolalaw12.CoherTurned': WHATEVER THE INPUT: true; the input reads as it did. -/
def coherTurnedSpec : ChangeSpec := { name := "coherTurned", fn := fun _ => fun
  | [d1, d2, d3, d4] => { results := [.lit (.bool true)], args := [d1, d2, d3, d4] }
  | _ => none }
def coherTurnedRow : OpenClaim := { program := "ytclegllogeanlaa", sum := "d41ee9179037ea4a71b23cb8805fafc0af144f4b4305f0274425ff02e3fbefa9", func := "cupola/cupolalaw12.CoherTurned", spec := "coherTurned", unfollowed := true, recurses := true, apart := false }
def CoherTurnedSaid : Prop := coherTurnedRow.holds Try.pinned (OpenSpec.ofChange coherTurnedSpec)

/-- ITS FALSE NEIGHBOUR: 'it returns false'. Refute it at one input. -/
def coherTurnedWrong : ChangeSpec := { name := "coherTurned", fn := fun _ => fun
  | [d1, d2, d3, d4] => { results := [.lit (.bool false)], args := [d1, d2, d3, d4] }
  | _ => none }
def CoherTurnedWrongFalsely : Prop := coherTurnedRow.holds Try.pinned (OpenSpec.ofChange coherTurnedWrong)

/-- 'cupolalaw12.CoherUnlike': WHATEVER THE INPUT: true; the input reads as it did. -/
def coherUnlikeSpec : ChangeSpec := { name := "coherUnlike", fn := fun _ => fun
  | [d1, d2] => { results := [.lit (.bool true)], args := [d1, d2] }
  | _ => none }
def coherUnlikeRow : OpenClaim := { program := "ytclegllogeanlaa", sum := "d41ee9179037ea4a71b23cb8805fafc0af144f4b4305f0274425ff02e3fbefa9", func := "cupola/cupolalaw12.CoherUnlike", spec := "coherUnlike", unfollowed := true, recurses := true, apart := false }
def CoherUnlikeSaid : Prop := coherUnlikeRow.holds Try.pinned (OpenSpec.ofChange coherUnlikeSpec)

/-- ITS FALSE NEIGHBOUR: 'it returns false'. Refute it at one input. -/
def coherUnlikeWrong : ChangeSpec := { name := "coherUnlike", fn := fun _ => fun
  | [d1, d2] => { results := [.lit (.bool false)], args := [d1, d2] }
  | _ => none }
def CoherUnlikeWrongFalsely : Prop := coherUnlikeRow.holds Try.pinned (OpenSpec.ofChange coherUnlikeWrong)

/-- 'cupolalaw12.CoherFits': WHATEVER THE INPUT: true; the input reads as it did. -/
def coherFitsSpec : ChangeSpec := { name := "coherFits", fn := fun _ => fun
  | [d] => { results := [.lit (.bool true)], args := [d] }
  | _ => none }
def coherFitsRow : OpenClaim := { program := "ytclegllogeanlaa", sum := "d41ee9179037ea4a71b23cb8805fafc0af144f4b4305f0274425ff02e3fbefa9", func := "cupola/cupolalaw12.CoherFits", spec := "coherFits", unfollowed := true, recurses := true, apart := false }
def CoherFitsSaid : Prop := coherFitsRow.holds Try.pinned (OpenSpec.ofChange coherFitsSpec)

/-- ITS FALSE NEIGHBOUR: 'it returns false'. Refute it at one input. -/
def coherFitsWrong : ChangeSpec := { name := "coherFits", fn := fun _ => fun
  | [d] => { results := [.lit (.bool false)], args := [d] }
  | _ => none }
def CoherFitsWrongFalsely : Prop := coherFitsRow.holds Try.pinned (OpenSpec.ofChange coherFitsWrong)

/-- 'cupolalaw12.CoherTells': WHATEVER THE INPUT: true; the input reads as it did. -/
def coherTellsSpec : ChangeSpec := { name := "coherTells", fn := fun _ => fun
  | [d1, d2, d3, d4] => { results := [.lit (.bool true)], args := [d1, d2, d3, d4] }
  | _ => none }
def coherTellsRow : OpenClaim := { program := "ytclegllogeanlaa", sum := "d41ee9179037ea4a71b23cb8805fafc0af144f4b4305f0274425ff02e3fbefa9", func := "cupola/cupolalaw12.CoherTells", spec := "coherTells", unfollowed := true, recurses := true, apart := false }
def CoherTellsSaid : Prop := coherTellsRow.holds Try.pinned (OpenSpec.ofChange coherTellsSpec)

/-- ITS FALSE NEIGHBOUR: 'it returns false'. Refute it at one input. -/
def coherTellsWrong : ChangeSpec := { name := "coherTells", fn := fun _ => fun
  | [d1, d2, d3, d4] => { results := [.lit (.bool false)], args := [d1, d2, d3, d4] }
  | _ => none }
def CoherTellsWrongFalsely : Prop := coherTellsRow.holds Try.pinned (OpenSpec.ofChange coherTellsWrong)

/-- 'cupolalaw12.CoherLast': WHATEVER THE INPUT: true; the input reads as it did. -/
def coherLastSpec : ChangeSpec := { name := "coherLast", fn := fun _ => fun
  | [d1, d2, d3] => { results := [.lit (.bool true)], args := [d1, d2, d3] }
  | _ => none }
def coherLastRow : OpenClaim := { program := "ytclegllogeanlaa", sum := "d41ee9179037ea4a71b23cb8805fafc0af144f4b4305f0274425ff02e3fbefa9", func := "cupola/cupolalaw12.CoherLast", spec := "coherLast", unfollowed := true, recurses := true, apart := false }
def CoherLastSaid : Prop := coherLastRow.holds Try.pinned (OpenSpec.ofChange coherLastSpec)

/-- ITS FALSE NEIGHBOUR: 'it returns false'. Refute it at one input. -/
def coherLastWrong : ChangeSpec := { name := "coherLast", fn := fun _ => fun
  | [d1, d2, d3] => { results := [.lit (.bool false)], args := [d1, d2, d3] }
  | _ => none }
def CoherLastWrongFalsely : Prop := coherLastRow.holds Try.pinned (OpenSpec.ofChange coherLastWrong)

/-- 'cupolalaw13.DeriveFr': WHATEVER THE INPUT: true; the input reads as it did. -/
def deriveFrSpec : ChangeSpec := { name := "deriveFr", fn := fun _ => fun
  | [d1, d2, d3, d4] => { results := [.lit (.bool true)], args := [d1, d2, d3, d4] }
  | _ => none }
def deriveFrRow : OpenClaim := { program := "ytclegllogeanlaa", sum := "d41ee9179037ea4a71b23cb8805fafc0af144f4b4305f0274425ff02e3fbefa9", func := "cupola/cupolalaw13.DeriveFr", spec := "deriveFr", unfollowed := true, recurses := true, apart := false }
def DeriveFrSaid : Prop := deriveFrRow.holds Try.pinned (OpenSpec.ofChange deriveFrSpec)

/-- ITS FALSE NEIGHBOUR: 'it returns false'. Refute it at one input. -/
def deriveFrWrong : ChangeSpec := { name := "deriveFr", fn := fun _ => fun
  | [d1, d2, d3, d4] => { results := [.lit (.bool false)], args := [d1, d2, d3, d4] }
  | _ => none }
def DeriveFrWrongFalsely : Prop := deriveFrRow.holds Try.pinned (OpenSpec.ofChange deriveFrWrong)

/-- 'cupolalaw13.DeriveCo': WHATEVER THE INPUT: true; the input reads as it did. -/
def deriveCoSpec : ChangeSpec := { name := "deriveCo", fn := fun _ => fun
  | [d1, d2, d3, d4] => { results := [.lit (.bool true)], args := [d1, d2, d3, d4] }
  | _ => none }
def deriveCoRow : OpenClaim := { program := "ytclegllogeanlaa", sum := "d41ee9179037ea4a71b23cb8805fafc0af144f4b4305f0274425ff02e3fbefa9", func := "cupola/cupolalaw13.DeriveCo", spec := "deriveCo", unfollowed := true, recurses := true, apart := false }
def DeriveCoSaid : Prop := deriveCoRow.holds Try.pinned (OpenSpec.ofChange deriveCoSpec)

/-- ITS FALSE NEIGHBOUR: 'it returns false'. Refute it at one input. -/
def deriveCoWrong : ChangeSpec := { name := "deriveCo", fn := fun _ => fun
  | [d1, d2, d3, d4] => { results := [.lit (.bool false)], args := [d1, d2, d3, d4] }
  | _ => none }
def DeriveCoWrongFalsely : Prop := deriveCoRow.holds Try.pinned (OpenSpec.ofChange deriveCoWrong)

/-- 'cupolalaw13.DeriveObs': WHATEVER THE INPUT: true; the input reads as it did. -/
def deriveObsSpec : ChangeSpec := { name := "deriveObs", fn := fun _ => fun
  | [d1, d2, d3, d4] => { results := [.lit (.bool true)], args := [d1, d2, d3, d4] }
  | _ => none }
def deriveObsRow : OpenClaim := { program := "ytclegllogeanlaa", sum := "d41ee9179037ea4a71b23cb8805fafc0af144f4b4305f0274425ff02e3fbefa9", func := "cupola/cupolalaw13.DeriveObs", spec := "deriveObs", unfollowed := true, recurses := true, apart := false }
def DeriveObsSaid : Prop := deriveObsRow.holds Try.pinned (OpenSpec.ofChange deriveObsSpec)

/-- ITS FALSE NEIGHBOUR: 'it returns false'. Refute it at one input. -/
def deriveObsWrong : ChangeSpec := { name := "deriveObs", fn := fun _ => fun
  | [d1, d2, d3, d4] => { results := [.lit (.bool false)], args := [d1, d2, d3, d4] }
  | _ => none }
def DeriveObsWrongFalsely : Prop := deriveObsRow.holds Try.pinned (OpenSpec.ofChange deriveObsWrong)

/-- 'cupolalaw13.DeriveCom': WHATEVER THE INPUT: true; the input reads as it did. -/
def deriveComSpec : ChangeSpec := { name := "deriveCom", fn := fun _ => fun
  | [d1, d2, d3, d4] => { results := [.lit (.bool true)], args := [d1, d2, d3, d4] }
  | _ => none }
def deriveComRow : OpenClaim := { program := "ytclegllogeanlaa", sum := "d41ee9179037ea4a71b23cb8805fafc0af144f4b4305f0274425ff02e3fbefa9", func := "cupola/cupolalaw13.DeriveCom", spec := "deriveCom", unfollowed := true, recurses := true, apart := false }
def DeriveComSaid : Prop := deriveComRow.holds Try.pinned (OpenSpec.ofChange deriveComSpec)

/-- ITS FALSE NEIGHBOUR: 'it returns false'. Refute it at one input. -/
def deriveComWrong : ChangeSpec := { name := "deriveCom", fn := fun _ => fun
  | [d1, d2, d3, d4] => { results := [.lit (.bool false)], args := [d1, d2, d3, d4] }
  | _ => none }
def DeriveComWrongFalsely : Prop := deriveComRow.holds Try.pinned (OpenSpec.ofChange deriveComWrong)

/- THE SECOND FORM. 'bulk': how many values and letters a reading holds, each counted each time it is reached (what is shared counts as often as it is met; a slice's spare places count too). A statement '..UptoSaid' is the law's where the arguments, and the package variables that the reading takes, are together of bulk at most 1048576: NARROWER than '..Said'. Prove '..Said' where nothing that the law and all that it calls make is longer than what came in: it says more and counts as full. Else prove '..UptoSaid'. A law counts once. -/
mutual
def uptoBulk {H : Type} : DataW H → Nat
  | .lit (.string bytes) => bytes.length + 1
  | .lit _ => 1
  | .nil => 1
  | .ptr d => uptoBulk d + 1
  | .slice elems spare => uptoBulkAll elems + uptoBulkAll spare + 1
  | .agg parts => uptoBulkAll parts + 1
  | .iface _ d => uptoBulk d + 1
  | .map entries => uptoBulkEntries entries + 1
  | .held _ => 1
def uptoBulkAll {H : Type} : List (DataW H) → Nat
  | [] => 0
  | d :: r => uptoBulk d + uptoBulkAll r
def uptoBulkEntries {H : Type} : List (Lit × DataW H) → Nat
  | [] => 0
  | x :: r => uptoBulkEntry x + uptoBulkEntries r
def uptoBulkEntry {H : Type} : Lit × DataW H → Nat
  | (.string bytes, d) => bytes.length + uptoBulk d + 1
  | (_, d) => uptoBulk d + 1
 end
def uptoSmall : (H : Type) → List (DataW H) → Bool := fun _ ds => decide (uptoBulkAll ds ≤ 1048576)
def OpenSpec.upto (s : _root_.Go.ChangeSpec) : _root_.Go.OpenSpec := { _root_.Go.OpenSpec.ofChange s with cond := some uptoSmall }

/-- 'cupolalaw13.DeriveParts', WHERE WHAT IT READS IS OF BULK AT MOST 1048576: true; the input reads as it did. -/
def derivePartsUptoRow : OpenClaim := { program := "ytclegllogeanlaa", sum := "d41ee9179037ea4a71b23cb8805fafc0af144f4b4305f0274425ff02e3fbefa9", func := "cupola/cupolalaw13.DeriveParts", spec := "deriveParts", unfollowed := true, recurses := true, apart := false, narrowed := true }
def DerivePartsUptoSaid : Prop := derivePartsUptoRow.holds Try.pinned (OpenSpec.upto derivePartsSpec)

/-- 'cupolalaw12.CoherTurned', WHERE WHAT IT READS IS OF BULK AT MOST 1048576: true; the input reads as it did. -/
def coherTurnedUptoRow : OpenClaim := { program := "ytclegllogeanlaa", sum := "d41ee9179037ea4a71b23cb8805fafc0af144f4b4305f0274425ff02e3fbefa9", func := "cupola/cupolalaw12.CoherTurned", spec := "coherTurned", unfollowed := true, recurses := true, apart := false, narrowed := true }
def CoherTurnedUptoSaid : Prop := coherTurnedUptoRow.holds Try.pinned (OpenSpec.upto coherTurnedSpec)

/-- 'cupolalaw12.CoherUnlike', WHERE WHAT IT READS IS OF BULK AT MOST 1048576: true; the input reads as it did. -/
def coherUnlikeUptoRow : OpenClaim := { program := "ytclegllogeanlaa", sum := "d41ee9179037ea4a71b23cb8805fafc0af144f4b4305f0274425ff02e3fbefa9", func := "cupola/cupolalaw12.CoherUnlike", spec := "coherUnlike", unfollowed := true, recurses := true, apart := false, narrowed := true }
def CoherUnlikeUptoSaid : Prop := coherUnlikeUptoRow.holds Try.pinned (OpenSpec.upto coherUnlikeSpec)

/-- 'cupolalaw12.CoherFits', WHERE WHAT IT READS IS OF BULK AT MOST 1048576: true; the input reads as it did. -/
def coherFitsUptoRow : OpenClaim := { program := "ytclegllogeanlaa", sum := "d41ee9179037ea4a71b23cb8805fafc0af144f4b4305f0274425ff02e3fbefa9", func := "cupola/cupolalaw12.CoherFits", spec := "coherFits", unfollowed := true, recurses := true, apart := false, narrowed := true }
def CoherFitsUptoSaid : Prop := coherFitsUptoRow.holds Try.pinned (OpenSpec.upto coherFitsSpec)

/-- 'cupolalaw12.CoherTells', WHERE WHAT IT READS IS OF BULK AT MOST 1048576: true; the input reads as it did. -/
def coherTellsUptoRow : OpenClaim := { program := "ytclegllogeanlaa", sum := "d41ee9179037ea4a71b23cb8805fafc0af144f4b4305f0274425ff02e3fbefa9", func := "cupola/cupolalaw12.CoherTells", spec := "coherTells", unfollowed := true, recurses := true, apart := false, narrowed := true }
def CoherTellsUptoSaid : Prop := coherTellsUptoRow.holds Try.pinned (OpenSpec.upto coherTellsSpec)

/-- 'cupolalaw12.CoherLast', WHERE WHAT IT READS IS OF BULK AT MOST 1048576: true; the input reads as it did. -/
def coherLastUptoRow : OpenClaim := { program := "ytclegllogeanlaa", sum := "d41ee9179037ea4a71b23cb8805fafc0af144f4b4305f0274425ff02e3fbefa9", func := "cupola/cupolalaw12.CoherLast", spec := "coherLast", unfollowed := true, recurses := true, apart := false, narrowed := true }
def CoherLastUptoSaid : Prop := coherLastUptoRow.holds Try.pinned (OpenSpec.upto coherLastSpec)

/-- 'cupolalaw13.DeriveFr', WHERE WHAT IT READS IS OF BULK AT MOST 1048576: true; the input reads as it did. -/
def deriveFrUptoRow : OpenClaim := { program := "ytclegllogeanlaa", sum := "d41ee9179037ea4a71b23cb8805fafc0af144f4b4305f0274425ff02e3fbefa9", func := "cupola/cupolalaw13.DeriveFr", spec := "deriveFr", unfollowed := true, recurses := true, apart := false, narrowed := true }
def DeriveFrUptoSaid : Prop := deriveFrUptoRow.holds Try.pinned (OpenSpec.upto deriveFrSpec)

/-- 'cupolalaw13.DeriveCo', WHERE WHAT IT READS IS OF BULK AT MOST 1048576: true; the input reads as it did. -/
def deriveCoUptoRow : OpenClaim := { program := "ytclegllogeanlaa", sum := "d41ee9179037ea4a71b23cb8805fafc0af144f4b4305f0274425ff02e3fbefa9", func := "cupola/cupolalaw13.DeriveCo", spec := "deriveCo", unfollowed := true, recurses := true, apart := false, narrowed := true }
def DeriveCoUptoSaid : Prop := deriveCoUptoRow.holds Try.pinned (OpenSpec.upto deriveCoSpec)

/-- 'cupolalaw13.DeriveObs', WHERE WHAT IT READS IS OF BULK AT MOST 1048576: true; the input reads as it did. -/
def deriveObsUptoRow : OpenClaim := { program := "ytclegllogeanlaa", sum := "d41ee9179037ea4a71b23cb8805fafc0af144f4b4305f0274425ff02e3fbefa9", func := "cupola/cupolalaw13.DeriveObs", spec := "deriveObs", unfollowed := true, recurses := true, apart := false, narrowed := true }
def DeriveObsUptoSaid : Prop := deriveObsUptoRow.holds Try.pinned (OpenSpec.upto deriveObsSpec)

/-- 'cupolalaw13.DeriveCom', WHERE WHAT IT READS IS OF BULK AT MOST 1048576: true; the input reads as it did. -/
def deriveComUptoRow : OpenClaim := { program := "ytclegllogeanlaa", sum := "d41ee9179037ea4a71b23cb8805fafc0af144f4b4305f0274425ff02e3fbefa9", func := "cupola/cupolalaw13.DeriveCom", spec := "deriveCom", unfollowed := true, recurses := true, apart := false, narrowed := true }
def DeriveComUptoSaid : Prop := deriveComUptoRow.holds Try.pinned (OpenSpec.upto deriveComSpec)

end Rows
end Go.Proofs.Ytclegllogeanlaa
