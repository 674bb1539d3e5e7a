/-
  DERIVED. GIVEN WITH THE SEED: THE CARDS: each row of YtleokmhhloamaaaGreatDoorRows.lean that lists a variable, with what it lists TIED to the program's text (the seventh form; the later family's looks); each row that meets fmt, with fmt's text TOLD by the authors' own Lean function (tested against real Go, not proved from fmt's source: count such statements apart). THE CARD IS WHAT COUNTS. Prove the row's statement (the work); the ties are given (YtleokmhhloamaaaGreatDoorTie.lean); close each card by the builder's one call (the guide's Derived/Test/ToyasCard.lean, 'card_holds'). Laid BY PROGRAM, IN A SANDBOX (cutbox-door.mjs). By AI agents, Wed Nov 11 2026. No macro, syntax, notation, axiom, sorry.
-/
import Derived.Test.YtleokmhhloamaaaGreatDoorRows
import GoSem.ClaimSeven
namespace Go.Proofs.YtleokmhhloamaaaGreatDoor
namespace Rows

/-- THE TIED CARD OF 'rectolaw8.StoreOnce'. -/
def storeOnceCard : Claim7 := { stood := { row := storeOnceRow, standIns := [], harness := (true, "6646f065cb23503cb25be77214b6f17b7c0f214537b6f8b8fcbda26bc4ddd091"), looks := true }, kinds := [], alts := [], laidByText := true, laidKinds := [.data, .pinned], laidTests := true, laidLooks := .later }
def StoreOnceCardSaid : Prop := Claim7.holds Tryz.pinned (.plain (OpenSpec.ofChange storeOnceSpec)) storeOnceCard

/-- THE TIED CARD OF 'rectolaw16.TreesOne'. -/
def treesOneCard : Claim7 := { stood := { row := treesOneRow, standIns := [], harness := (true, "6646f065cb23503cb25be77214b6f17b7c0f214537b6f8b8fcbda26bc4ddd091"), looks := true }, kinds := [], alts := [], laidByText := true, laidKinds := [.data, .pinned], laidTests := true, laidLooks := .later }
def TreesOneCardSaid : Prop := Claim7.holds Tryz.pinned (.plain (OpenSpec.ofChange treesOneSpec)) treesOneCard

/-- THE TIED CARD OF 'rectolaw14.RowAny'. -/
def rowAnyCard : Claim7 := { stood := { row := rowAnyRow, standIns := [], harness := (true, "6646f065cb23503cb25be77214b6f17b7c0f214537b6f8b8fcbda26bc4ddd091"), looks := true }, kinds := [], alts := [], laidByText := true, laidKinds := [.data, .handle, .pinned], laidTests := true, laidLooks := .later }
def RowAnyCardSaid : Prop := Claim7.holds Tryz.pinned (.plain (OpenSpec.ofChange rowAnySpec)) rowAnyCard

/-- THE TIED CARD OF 'rectolaw15.IndexAny'. -/
def indexAnyCard : Claim7 := { stood := { row := indexAnyRow, standIns := [], harness := (true, "6646f065cb23503cb25be77214b6f17b7c0f214537b6f8b8fcbda26bc4ddd091"), looks := true }, kinds := [], alts := [], laidByText := true, laidKinds := [.data, .handle, .pinned], laidTests := true, laidLooks := .later }
def IndexAnyCardSaid : Prop := Claim7.holds Tryz.pinned (.plain (OpenSpec.ofChange indexAnySpec)) indexAnyCard

/-- THE TIED CARD OF 'rectolaw16.TreesMerge'. -/
def treesMergeCard : Claim7 := { stood := { row := treesMergeRow, standIns := [], harness := (true, "6646f065cb23503cb25be77214b6f17b7c0f214537b6f8b8fcbda26bc4ddd091"), looks := true }, kinds := [], alts := [], laidByText := true, laidKinds := [.data, .handle, .pinned], laidTests := true, laidLooks := .later }
def TreesMergeCardSaid : Prop := Claim7.holds Tryz.pinned (.plain (OpenSpec.ofChange treesMergeSpec)) treesMergeCard

/-- THE SECOND FORM's CARD OF 'rectolaw8.StoreOnce'. -/
def storeOnceUptoCard : Claim7 := { stood := { row := storeOnceUptoRow, standIns := [], harness := (true, "6646f065cb23503cb25be77214b6f17b7c0f214537b6f8b8fcbda26bc4ddd091"), looks := true }, kinds := [], alts := [], laidByText := true, laidKinds := [.data, .pinned], laidTests := true, laidLooks := .later }
def StoreOnceUptoCardSaid : Prop := Claim7.holds Tryz.pinned (.plain (OpenSpec.upto storeOnceSpec)) storeOnceUptoCard

/-- THE SECOND FORM's CARD OF 'rectolaw16.TreesOne'. -/
def treesOneUptoCard : Claim7 := { stood := { row := treesOneUptoRow, standIns := [], harness := (true, "6646f065cb23503cb25be77214b6f17b7c0f214537b6f8b8fcbda26bc4ddd091"), looks := true }, kinds := [], alts := [], laidByText := true, laidKinds := [.data, .pinned], laidTests := true, laidLooks := .later }
def TreesOneUptoCardSaid : Prop := Claim7.holds Tryz.pinned (.plain (OpenSpec.upto treesOneSpec)) treesOneUptoCard

/-- THE SECOND FORM's CARD OF 'rectolaw14.RowAny'. -/
def rowAnyUptoCard : Claim7 := { stood := { row := rowAnyUptoRow, standIns := [], harness := (true, "6646f065cb23503cb25be77214b6f17b7c0f214537b6f8b8fcbda26bc4ddd091"), looks := true }, kinds := [], alts := [], laidByText := true, laidKinds := [.data, .handle, .pinned], laidTests := true, laidLooks := .later }
def RowAnyUptoCardSaid : Prop := Claim7.holds Tryz.pinned (.plain (OpenSpec.upto rowAnySpec)) rowAnyUptoCard

/-- THE SECOND FORM's CARD OF 'rectolaw15.IndexAny'. -/
def indexAnyUptoCard : Claim7 := { stood := { row := indexAnyUptoRow, standIns := [], harness := (true, "6646f065cb23503cb25be77214b6f17b7c0f214537b6f8b8fcbda26bc4ddd091"), looks := true }, kinds := [], alts := [], laidByText := true, laidKinds := [.data, .handle, .pinned], laidTests := true, laidLooks := .later }
def IndexAnyUptoCardSaid : Prop := Claim7.holds Tryz.pinned (.plain (OpenSpec.upto indexAnySpec)) indexAnyUptoCard

/-- THE SECOND FORM's CARD OF 'rectolaw16.TreesMerge'. -/
def treesMergeUptoCard : Claim7 := { stood := { row := treesMergeUptoRow, standIns := [], harness := (true, "6646f065cb23503cb25be77214b6f17b7c0f214537b6f8b8fcbda26bc4ddd091"), looks := true }, kinds := [], alts := [], laidByText := true, laidKinds := [.data, .handle, .pinned], laidTests := true, laidLooks := .later }
def TreesMergeUptoCardSaid : Prop := Claim7.holds Tryz.pinned (.plain (OpenSpec.upto treesMergeSpec)) treesMergeUptoCard
end Rows
end Go.Proofs.YtleokmhhloamaaaGreatDoor
