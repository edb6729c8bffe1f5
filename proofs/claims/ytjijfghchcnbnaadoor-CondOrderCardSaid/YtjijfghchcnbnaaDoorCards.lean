/-
  DERIVED. GIVEN WITH THE SEED: THE CARDS: each row of YtjijfghchcnbnaaDoorRows.lean that lists a variable, with what it lists TIED to the program's text (the seventh form; the later family's looks); each row that meets fmt, with fmt's text TOLD by the authors' own Lean function (tested against real Go, not proved from fmt's source: count such statements apart). THE CARD IS WHAT COUNTS. Prove the row's statement (the work); the ties are given (YtjijfghchcnbnaaDoorTie.lean); close each card by the builder's one call (the guide's Derived/Test/ToyasCard.lean, 'card_holds'). Laid BY PROGRAM, IN A SANDBOX (cutbox-door.mjs). By AI agents, Wed Nov 11 2026. No macro, syntax, notation, axiom, sorry.
-/
import Derived.Test.YtjijfghchcnbnaaDoorRows
import GoSem.ClaimSeven
namespace Go.Proofs.YtjijfghchcnbnaaDoor
namespace Rows

/-- THE TIED CARD OF 'cupolalaw04.CondAtoms'. -/
def condAtomsCard : Claim7 := { stood := { row := condAtomsRow, standIns := [], harness := (true, "66b388702371ae3845d9af3a9794e82cb8723eb18716baecb29cee118b426315"), looks := false }, kinds := [], alts := [], laidByText := true, laidKinds := [.data, .data, .data], laidTests := true, laidLooks := .later }
def CondAtomsCardSaid : Prop := Claim7.holds Tryd.pinned (.plain (OpenSpec.ofChange condAtomsSpec)) condAtomsCard

/-- THE TIED CARD OF 'cupolalaw04.CondEvals'. -/
def condEvalsCard : Claim7 := { stood := { row := condEvalsRow, standIns := [], harness := (true, "66b388702371ae3845d9af3a9794e82cb8723eb18716baecb29cee118b426315"), looks := false }, kinds := [], alts := [], laidByText := true, laidKinds := [.data, .data, .data], laidTests := true, laidLooks := .later }
def CondEvalsCardSaid : Prop := Claim7.holds Tryd.pinned (.plain (OpenSpec.ofChange condEvalsSpec)) condEvalsCard

/-- THE TIED CARD OF 'cupolalaw04.CondSets'. -/
def condSetsCard : Claim7 := { stood := { row := condSetsRow, standIns := [], harness := (true, "66b388702371ae3845d9af3a9794e82cb8723eb18716baecb29cee118b426315"), looks := false }, kinds := [], alts := [], laidByText := true, laidKinds := [.data, .data, .data], laidTests := true, laidLooks := .later }
def CondSetsCardSaid : Prop := Claim7.holds Tryd.pinned (.plain (OpenSpec.ofChange condSetsSpec)) condSetsCard

/-- THE TIED CARD OF 'cupolalaw04.CondOrder'. -/
def condOrderCard : Claim7 := { stood := { row := condOrderRow, standIns := [], harness := (true, "66b388702371ae3845d9af3a9794e82cb8723eb18716baecb29cee118b426315"), looks := false }, kinds := [], alts := [], laidByText := true, laidKinds := [.data, .data, .data], laidTests := true, laidLooks := .later }
def CondOrderCardSaid : Prop := Claim7.holds Tryd.pinned (.plain (OpenSpec.ofChange condOrderSpec)) condOrderCard

/-- THE TIED CARD OF 'cupolalaw04.CondVerdicts'. -/
def condVerdictsCard : Claim7 := { stood := { row := condVerdictsRow, standIns := [], harness := (true, "66b388702371ae3845d9af3a9794e82cb8723eb18716baecb29cee118b426315"), looks := false }, kinds := [], alts := [], laidByText := true, laidKinds := [.data, .data, .data], laidTests := true, laidLooks := .later }
def CondVerdictsCardSaid : Prop := Claim7.holds Tryd.pinned (.plain (OpenSpec.ofChange condVerdictsSpec)) condVerdictsCard

/-- THE TIED CARD OF 'cupolalaw04.CondParts'. -/
def condPartsCard : Claim7 := { stood := { row := condPartsRow, standIns := [], harness := (true, "66b388702371ae3845d9af3a9794e82cb8723eb18716baecb29cee118b426315"), looks := false }, kinds := [], alts := [], laidByText := true, laidKinds := [.data, .data, .data], laidTests := true, laidLooks := .later }
def CondPartsCardSaid : Prop := Claim7.holds Tryd.pinned (.plain (OpenSpec.ofChange condPartsSpec)) condPartsCard

/-- THE SECOND FORM's CARD OF 'cupolalaw04.CondAtoms'. -/
def condAtomsUptoCard : Claim7 := { stood := { row := condAtomsUptoRow, standIns := [], harness := (true, "66b388702371ae3845d9af3a9794e82cb8723eb18716baecb29cee118b426315"), looks := false }, kinds := [], alts := [], laidByText := true, laidKinds := [.data, .data, .data], laidTests := true, laidLooks := .later }
def CondAtomsUptoCardSaid : Prop := Claim7.holds Tryd.pinned (.plain (OpenSpec.upto condAtomsSpec)) condAtomsUptoCard

/-- THE SECOND FORM's CARD OF 'cupolalaw04.CondEvals'. -/
def condEvalsUptoCard : Claim7 := { stood := { row := condEvalsUptoRow, standIns := [], harness := (true, "66b388702371ae3845d9af3a9794e82cb8723eb18716baecb29cee118b426315"), looks := false }, kinds := [], alts := [], laidByText := true, laidKinds := [.data, .data, .data], laidTests := true, laidLooks := .later }
def CondEvalsUptoCardSaid : Prop := Claim7.holds Tryd.pinned (.plain (OpenSpec.upto condEvalsSpec)) condEvalsUptoCard

/-- THE SECOND FORM's CARD OF 'cupolalaw04.CondSets'. -/
def condSetsUptoCard : Claim7 := { stood := { row := condSetsUptoRow, standIns := [], harness := (true, "66b388702371ae3845d9af3a9794e82cb8723eb18716baecb29cee118b426315"), looks := false }, kinds := [], alts := [], laidByText := true, laidKinds := [.data, .data, .data], laidTests := true, laidLooks := .later }
def CondSetsUptoCardSaid : Prop := Claim7.holds Tryd.pinned (.plain (OpenSpec.upto condSetsSpec)) condSetsUptoCard

/-- THE SECOND FORM's CARD OF 'cupolalaw04.CondOrder'. -/
def condOrderUptoCard : Claim7 := { stood := { row := condOrderUptoRow, standIns := [], harness := (true, "66b388702371ae3845d9af3a9794e82cb8723eb18716baecb29cee118b426315"), looks := false }, kinds := [], alts := [], laidByText := true, laidKinds := [.data, .data, .data], laidTests := true, laidLooks := .later }
def CondOrderUptoCardSaid : Prop := Claim7.holds Tryd.pinned (.plain (OpenSpec.upto condOrderSpec)) condOrderUptoCard

/-- THE SECOND FORM's CARD OF 'cupolalaw04.CondVerdicts'. -/
def condVerdictsUptoCard : Claim7 := { stood := { row := condVerdictsUptoRow, standIns := [], harness := (true, "66b388702371ae3845d9af3a9794e82cb8723eb18716baecb29cee118b426315"), looks := false }, kinds := [], alts := [], laidByText := true, laidKinds := [.data, .data, .data], laidTests := true, laidLooks := .later }
def CondVerdictsUptoCardSaid : Prop := Claim7.holds Tryd.pinned (.plain (OpenSpec.upto condVerdictsSpec)) condVerdictsUptoCard

/-- THE SECOND FORM's CARD OF 'cupolalaw04.CondParts'. -/
def condPartsUptoCard : Claim7 := { stood := { row := condPartsUptoRow, standIns := [], harness := (true, "66b388702371ae3845d9af3a9794e82cb8723eb18716baecb29cee118b426315"), looks := false }, kinds := [], alts := [], laidByText := true, laidKinds := [.data, .data, .data], laidTests := true, laidLooks := .later }
def CondPartsUptoCardSaid : Prop := Claim7.holds Tryd.pinned (.plain (OpenSpec.upto condPartsSpec)) condPartsUptoCard
end Rows
end Go.Proofs.YtjijfghchcnbnaaDoor
