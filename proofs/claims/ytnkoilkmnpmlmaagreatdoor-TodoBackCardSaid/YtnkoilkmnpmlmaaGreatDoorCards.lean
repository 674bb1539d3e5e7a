/-
  DERIVED. GIVEN WITH THE SEED: THE CARDS: each row of YtnkoilkmnpmlmaaGreatDoorRows.lean that lists a variable, with what it lists TIED to the program's text (the seventh form; the later family's looks); each row that meets fmt, with fmt's text TOLD by the authors' own Lean function (tested against real Go, not proved from fmt's source: count such statements apart). THE CARD IS WHAT COUNTS. Prove the row's statement (the work); the ties are given (YtnkoilkmnpmlmaaGreatDoorTie.lean); close each card by the builder's one call (the guide's Derived/Test/ToyasCard.lean, 'card_holds'). Laid BY PROGRAM, IN A SANDBOX (cutbox-door.mjs). By AI agents, Wed Nov 11 2026. No macro, syntax, notation, axiom, sorry.
-/
import Derived.Test.YtnkoilkmnpmlmaaGreatDoorRows
import GoSem.ClaimSeven
namespace Go.Proofs.YtnkoilkmnpmlmaaGreatDoor
namespace Rows

/-- THE TIED CARD OF 'rectolaw21.TodoTexts'. -/
def todoTextsCard : Claim7 := { stood := { row := todoTextsRow, standIns := [], harness := (true, "7b97e2da38e480712badfee02c886b742542a6459c96d9c85c3f03eec6647362"), looks := true }, kinds := [], alts := [], laidByText := true, laidKinds := [.data, .data, .data, .data, .handle, .pinned], laidTests := true, laidLooks := .later }
def TodoTextsCardSaid : Prop := Claim7.holds Tryz.pinned (.plain (OpenSpec.ofChange todoTextsSpec)) todoTextsCard

/-- THE TIED CARD OF 'rectolaw21.TodoBack'. -/
def todoBackCard : Claim7 := { stood := { row := todoBackRow, standIns := [], harness := (true, "7b97e2da38e480712badfee02c886b742542a6459c96d9c85c3f03eec6647362"), looks := true }, kinds := [], alts := [], laidByText := true, laidKinds := [.data, .data, .data, .data, .handle, .pinned], laidTests := true, laidLooks := .later }
def TodoBackCardSaid : Prop := Claim7.holds Tryz.pinned (.plain (OpenSpec.ofChange todoBackSpec)) todoBackCard

/-- THE TIED CARD OF 'rectolaw7.ObjectBack'. -/
def objectBackCard : Claim7 := { stood := { row := objectBackRow, standIns := [], harness := (true, "7b97e2da38e480712badfee02c886b742542a6459c96d9c85c3f03eec6647362"), looks := true }, kinds := [], alts := [], laidByText := true, laidKinds := [.data, .handle, .pinned], laidTests := true, laidLooks := .later }
def ObjectBackCardSaid : Prop := Claim7.holds Tryz.pinned (.plain (OpenSpec.ofChange objectBackSpec)) objectBackCard

/-- THE TIED CARD OF 'rectolaw7.ObjectBytes'. -/
def objectBytesCard : Claim7 := { stood := { row := objectBytesRow, standIns := [], harness := (true, "7b97e2da38e480712badfee02c886b742542a6459c96d9c85c3f03eec6647362"), looks := true }, kinds := [], alts := [], laidByText := true, laidKinds := [.data, .handle, .pinned], laidTests := true, laidLooks := .later }
def ObjectBytesCardSaid : Prop := Claim7.holds Tryz.pinned (.plain (OpenSpec.ofChange objectBytesSpec)) objectBytesCard

/-- THE TIED CARD OF 'rectolaw7.ObjectLimits'. -/
def objectLimitsCard : Claim7 := { stood := { row := objectLimitsRow, standIns := [], harness := (true, "7b97e2da38e480712badfee02c886b742542a6459c96d9c85c3f03eec6647362"), looks := true }, kinds := [], alts := [], laidByText := true, laidKinds := [.data, .handle, .pinned], laidTests := true, laidLooks := .later }
def ObjectLimitsCardSaid : Prop := Claim7.holds Tryz.pinned (.plain (OpenSpec.ofChange objectLimitsSpec)) objectLimitsCard

/-- THE TIED CARD OF 'rectolaw14.RowAny'. -/
def rowAnyCard : Claim7 := { stood := { row := rowAnyRow, standIns := [], harness := (true, "7b97e2da38e480712badfee02c886b742542a6459c96d9c85c3f03eec6647362"), looks := true }, kinds := [], alts := [], laidByText := true, laidKinds := [.data, .handle, .pinned], laidTests := true, laidLooks := .later }
def RowAnyCardSaid : Prop := Claim7.holds Tryz.pinned (.plain (OpenSpec.ofChange rowAnySpec)) rowAnyCard

/-- THE SECOND FORM's CARD OF 'rectolaw21.TodoTexts'. -/
def todoTextsUptoCard : Claim7 := { stood := { row := todoTextsUptoRow, standIns := [], harness := (true, "7b97e2da38e480712badfee02c886b742542a6459c96d9c85c3f03eec6647362"), looks := true }, kinds := [], alts := [], laidByText := true, laidKinds := [.data, .data, .data, .data, .handle, .pinned], laidTests := true, laidLooks := .later }
def TodoTextsUptoCardSaid : Prop := Claim7.holds Tryz.pinned (.plain (OpenSpec.upto todoTextsSpec)) todoTextsUptoCard

/-- THE SECOND FORM's CARD OF 'rectolaw21.TodoBack'. -/
def todoBackUptoCard : Claim7 := { stood := { row := todoBackUptoRow, standIns := [], harness := (true, "7b97e2da38e480712badfee02c886b742542a6459c96d9c85c3f03eec6647362"), looks := true }, kinds := [], alts := [], laidByText := true, laidKinds := [.data, .data, .data, .data, .handle, .pinned], laidTests := true, laidLooks := .later }
def TodoBackUptoCardSaid : Prop := Claim7.holds Tryz.pinned (.plain (OpenSpec.upto todoBackSpec)) todoBackUptoCard

/-- THE SECOND FORM's CARD OF 'rectolaw7.ObjectBack'. -/
def objectBackUptoCard : Claim7 := { stood := { row := objectBackUptoRow, standIns := [], harness := (true, "7b97e2da38e480712badfee02c886b742542a6459c96d9c85c3f03eec6647362"), looks := true }, kinds := [], alts := [], laidByText := true, laidKinds := [.data, .handle, .pinned], laidTests := true, laidLooks := .later }
def ObjectBackUptoCardSaid : Prop := Claim7.holds Tryz.pinned (.plain (OpenSpec.upto objectBackSpec)) objectBackUptoCard

/-- THE SECOND FORM's CARD OF 'rectolaw7.ObjectBytes'. -/
def objectBytesUptoCard : Claim7 := { stood := { row := objectBytesUptoRow, standIns := [], harness := (true, "7b97e2da38e480712badfee02c886b742542a6459c96d9c85c3f03eec6647362"), looks := true }, kinds := [], alts := [], laidByText := true, laidKinds := [.data, .handle, .pinned], laidTests := true, laidLooks := .later }
def ObjectBytesUptoCardSaid : Prop := Claim7.holds Tryz.pinned (.plain (OpenSpec.upto objectBytesSpec)) objectBytesUptoCard

/-- THE SECOND FORM's CARD OF 'rectolaw7.ObjectLimits'. -/
def objectLimitsUptoCard : Claim7 := { stood := { row := objectLimitsUptoRow, standIns := [], harness := (true, "7b97e2da38e480712badfee02c886b742542a6459c96d9c85c3f03eec6647362"), looks := true }, kinds := [], alts := [], laidByText := true, laidKinds := [.data, .handle, .pinned], laidTests := true, laidLooks := .later }
def ObjectLimitsUptoCardSaid : Prop := Claim7.holds Tryz.pinned (.plain (OpenSpec.upto objectLimitsSpec)) objectLimitsUptoCard

/-- THE SECOND FORM's CARD OF 'rectolaw14.RowAny'. -/
def rowAnyUptoCard : Claim7 := { stood := { row := rowAnyUptoRow, standIns := [], harness := (true, "7b97e2da38e480712badfee02c886b742542a6459c96d9c85c3f03eec6647362"), looks := true }, kinds := [], alts := [], laidByText := true, laidKinds := [.data, .handle, .pinned], laidTests := true, laidLooks := .later }
def RowAnyUptoCardSaid : Prop := Claim7.holds Tryz.pinned (.plain (OpenSpec.upto rowAnySpec)) rowAnyUptoCard
end Rows
end Go.Proofs.YtnkoilkmnpmlmaaGreatDoor
