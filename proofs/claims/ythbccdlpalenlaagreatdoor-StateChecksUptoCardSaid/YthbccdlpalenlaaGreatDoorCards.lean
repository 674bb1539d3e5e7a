/-
  DERIVED. GIVEN WITH THE SEED: THE CARDS: each row of YthbccdlpalenlaaGreatDoorRows.lean that lists a variable, with what it lists TIED to the program's text (the seventh form; the later family's looks); each row that meets fmt, with fmt's text TOLD by the authors' own Lean function (tested against real Go, not proved from fmt's source: count such statements apart). THE CARD IS WHAT COUNTS. Prove the row's statement (the work); the ties are given (YthbccdlpalenlaaGreatDoorTie.lean); close each card by the builder's one call (the guide's Derived/Test/ToyasCard.lean, 'card_holds'). Laid BY PROGRAM, IN A SANDBOX (cutbox-door.mjs). By AI agents, Wed Nov 11 2026. No macro, syntax, notation, axiom, sorry.
-/
import Derived.Test.YthbccdlpalenlaaGreatDoorRows
import GoSem.ClaimSeven
namespace Go.Proofs.YthbccdlpalenlaaGreatDoor
namespace Rows

/-- THE TIED CARD OF 'rectolaw8.StoreBytes'. -/
def storeBytesCard : Claim7 := { stood := { row := storeBytesRow, standIns := [], harness := (true, "b3093e97f6958bb6796da790b775916eb43e9d90cc467c68f2cf6bae0a7de349"), looks := true }, kinds := [], alts := [], laidByText := true, laidKinds := [.data, .pinned], laidTests := true, laidLooks := .later }
def StoreBytesCardSaid : Prop := Claim7.holds Tryz.pinned (.plain (OpenSpec.ofChange storeBytesSpec)) storeBytesCard

/-- THE TIED CARD OF 'rectolaw25.MarkBack'. -/
def markBackCard : Claim7 := { stood := { row := markBackRow, standIns := [], harness := (true, "b3093e97f6958bb6796da790b775916eb43e9d90cc467c68f2cf6bae0a7de349"), looks := true }, kinds := [], alts := [], laidByText := true, laidKinds := [.data, .data, .data, .data, .pinned], laidTests := true, laidLooks := .later }
def MarkBackCardSaid : Prop := Claim7.holds Tryz.pinned (.plain (OpenSpec.ofChange markBackSpec)) markBackCard

/-- THE TIED CARD OF 'rectolaw25.MarkTexts'. -/
def markTextsCard : Claim7 := { stood := { row := markTextsRow, standIns := [], harness := (true, "b3093e97f6958bb6796da790b775916eb43e9d90cc467c68f2cf6bae0a7de349"), looks := true }, kinds := [], alts := [], laidByText := true, laidKinds := [.data, .data, .data, .data, .pinned], laidTests := true, laidLooks := .later }
def MarkTextsCardSaid : Prop := Claim7.holds Tryz.pinned (.plain (OpenSpec.ofChange markTextsSpec)) markTextsCard

/-- THE TIED CARD OF 'rectolaw25.StateTwo'. -/
def stateTwoCard : Claim7 := { stood := { row := stateTwoRow, standIns := [], harness := (true, "b3093e97f6958bb6796da790b775916eb43e9d90cc467c68f2cf6bae0a7de349"), looks := true }, kinds := [], alts := [], laidByText := true, laidKinds := [.data, .data, .data, .data, .pinned], laidTests := true, laidLooks := .later }
def StateTwoCardSaid : Prop := Claim7.holds Tryz.pinned (.plain (OpenSpec.ofChange stateTwoSpec)) stateTwoCard

/-- THE TIED CARD OF 'rectolaw25.StateBytes'. -/
def stateBytesCard : Claim7 := { stood := { row := stateBytesRow, standIns := [], harness := (true, "b3093e97f6958bb6796da790b775916eb43e9d90cc467c68f2cf6bae0a7de349"), looks := true }, kinds := [], alts := [], laidByText := true, laidKinds := [.data, .data, .data, .data, .pinned], laidTests := true, laidLooks := .later }
def StateBytesCardSaid : Prop := Claim7.holds Tryz.pinned (.plain (OpenSpec.ofChange stateBytesSpec)) stateBytesCard

/-- THE TIED CARD OF 'rectolaw25.StateLog'. -/
def stateLogCard : Claim7 := { stood := { row := stateLogRow, standIns := [], harness := (true, "b3093e97f6958bb6796da790b775916eb43e9d90cc467c68f2cf6bae0a7de349"), looks := true }, kinds := [], alts := [], laidByText := true, laidKinds := [.data, .data, .data, .data, .pinned], laidTests := true, laidLooks := .later }
def StateLogCardSaid : Prop := Claim7.holds Tryz.pinned (.plain (OpenSpec.ofChange stateLogSpec)) stateLogCard

/-- THE TIED CARD OF 'rectolaw25.StateBack'. -/
def stateBackCard : Claim7 := { stood := { row := stateBackRow, standIns := [], harness := (true, "b3093e97f6958bb6796da790b775916eb43e9d90cc467c68f2cf6bae0a7de349"), looks := true }, kinds := [], alts := [], laidByText := true, laidKinds := [.data, .data, .data, .data, .pinned], laidTests := true, laidLooks := .later }
def StateBackCardSaid : Prop := Claim7.holds Tryz.pinned (.plain (OpenSpec.ofChange stateBackSpec)) stateBackCard

/-- THE TIED CARD OF 'rectolaw25.StateChecks'. -/
def stateChecksCard : Claim7 := { stood := { row := stateChecksRow, standIns := [], harness := (true, "b3093e97f6958bb6796da790b775916eb43e9d90cc467c68f2cf6bae0a7de349"), looks := true }, kinds := [], alts := [], laidByText := true, laidKinds := [.data, .data, .data, .data, .handle, .pinned], laidTests := true, laidLooks := .later }
def StateChecksCardSaid : Prop := Claim7.holds Tryz.pinned (.plain (OpenSpec.ofChange stateChecksSpec)) stateChecksCard

/-- THE SECOND FORM's CARD OF 'rectolaw8.StoreBytes'. -/
def storeBytesUptoCard : Claim7 := { stood := { row := storeBytesUptoRow, standIns := [], harness := (true, "b3093e97f6958bb6796da790b775916eb43e9d90cc467c68f2cf6bae0a7de349"), looks := true }, kinds := [], alts := [], laidByText := true, laidKinds := [.data, .pinned], laidTests := true, laidLooks := .later }
def StoreBytesUptoCardSaid : Prop := Claim7.holds Tryz.pinned (.plain (OpenSpec.upto storeBytesSpec)) storeBytesUptoCard

/-- THE SECOND FORM's CARD OF 'rectolaw25.MarkBack'. -/
def markBackUptoCard : Claim7 := { stood := { row := markBackUptoRow, standIns := [], harness := (true, "b3093e97f6958bb6796da790b775916eb43e9d90cc467c68f2cf6bae0a7de349"), looks := true }, kinds := [], alts := [], laidByText := true, laidKinds := [.data, .data, .data, .data, .pinned], laidTests := true, laidLooks := .later }
def MarkBackUptoCardSaid : Prop := Claim7.holds Tryz.pinned (.plain (OpenSpec.upto markBackSpec)) markBackUptoCard

/-- THE SECOND FORM's CARD OF 'rectolaw25.MarkTexts'. -/
def markTextsUptoCard : Claim7 := { stood := { row := markTextsUptoRow, standIns := [], harness := (true, "b3093e97f6958bb6796da790b775916eb43e9d90cc467c68f2cf6bae0a7de349"), looks := true }, kinds := [], alts := [], laidByText := true, laidKinds := [.data, .data, .data, .data, .pinned], laidTests := true, laidLooks := .later }
def MarkTextsUptoCardSaid : Prop := Claim7.holds Tryz.pinned (.plain (OpenSpec.upto markTextsSpec)) markTextsUptoCard

/-- THE SECOND FORM's CARD OF 'rectolaw25.StateTwo'. -/
def stateTwoUptoCard : Claim7 := { stood := { row := stateTwoUptoRow, standIns := [], harness := (true, "b3093e97f6958bb6796da790b775916eb43e9d90cc467c68f2cf6bae0a7de349"), looks := true }, kinds := [], alts := [], laidByText := true, laidKinds := [.data, .data, .data, .data, .pinned], laidTests := true, laidLooks := .later }
def StateTwoUptoCardSaid : Prop := Claim7.holds Tryz.pinned (.plain (OpenSpec.upto stateTwoSpec)) stateTwoUptoCard

/-- THE SECOND FORM's CARD OF 'rectolaw25.StateBytes'. -/
def stateBytesUptoCard : Claim7 := { stood := { row := stateBytesUptoRow, standIns := [], harness := (true, "b3093e97f6958bb6796da790b775916eb43e9d90cc467c68f2cf6bae0a7de349"), looks := true }, kinds := [], alts := [], laidByText := true, laidKinds := [.data, .data, .data, .data, .pinned], laidTests := true, laidLooks := .later }
def StateBytesUptoCardSaid : Prop := Claim7.holds Tryz.pinned (.plain (OpenSpec.upto stateBytesSpec)) stateBytesUptoCard

/-- THE SECOND FORM's CARD OF 'rectolaw25.StateLog'. -/
def stateLogUptoCard : Claim7 := { stood := { row := stateLogUptoRow, standIns := [], harness := (true, "b3093e97f6958bb6796da790b775916eb43e9d90cc467c68f2cf6bae0a7de349"), looks := true }, kinds := [], alts := [], laidByText := true, laidKinds := [.data, .data, .data, .data, .pinned], laidTests := true, laidLooks := .later }
def StateLogUptoCardSaid : Prop := Claim7.holds Tryz.pinned (.plain (OpenSpec.upto stateLogSpec)) stateLogUptoCard

/-- THE SECOND FORM's CARD OF 'rectolaw25.StateBack'. -/
def stateBackUptoCard : Claim7 := { stood := { row := stateBackUptoRow, standIns := [], harness := (true, "b3093e97f6958bb6796da790b775916eb43e9d90cc467c68f2cf6bae0a7de349"), looks := true }, kinds := [], alts := [], laidByText := true, laidKinds := [.data, .data, .data, .data, .pinned], laidTests := true, laidLooks := .later }
def StateBackUptoCardSaid : Prop := Claim7.holds Tryz.pinned (.plain (OpenSpec.upto stateBackSpec)) stateBackUptoCard

/-- THE SECOND FORM's CARD OF 'rectolaw25.StateChecks'. -/
def stateChecksUptoCard : Claim7 := { stood := { row := stateChecksUptoRow, standIns := [], harness := (true, "b3093e97f6958bb6796da790b775916eb43e9d90cc467c68f2cf6bae0a7de349"), looks := true }, kinds := [], alts := [], laidByText := true, laidKinds := [.data, .data, .data, .data, .handle, .pinned], laidTests := true, laidLooks := .later }
def StateChecksUptoCardSaid : Prop := Claim7.holds Tryz.pinned (.plain (OpenSpec.upto stateChecksSpec)) stateChecksUptoCard
end Rows
end Go.Proofs.YthbccdlpalenlaaGreatDoor
