/-
  DERIVED. GIVEN WITH THE SEED: THE CARDS: each row of YtipnlckfohhkbaaDoorRows.lean that lists a variable, with what it lists TIED to the program's text (the seventh form; the later family's looks); each row that meets fmt, with fmt's text TOLD by the authors' own Lean function (tested against real Go, not proved from fmt's source: count such statements apart). THE CARD IS WHAT COUNTS. Prove the row's statement (the work); the ties are given (YtipnlckfohhkbaaDoorTie.lean); close each card by the builder's one call (the guide's Derived/Test/ToyasCard.lean, 'card_holds'). Laid BY PROGRAM, IN A SANDBOX (cutbox-door.mjs). By AI agents, Wed Nov 11 2026. No macro, syntax, notation, axiom, sorry.
-/
import Derived.Test.YtipnlckfohhkbaaDoorRows
import GoSem.ClaimSeven
namespace Go.Proofs.YtipnlckfohhkbaaDoor
namespace Rows

/-- THE TIED CARD OF 'rectolaw21.TodoLines'. -/
def todoLinesCard : Claim7 := { stood := { row := todoLinesRow, standIns := [], harness := (true, "63111ccc22840064956b00befcee19eb5b0b49b664c63450bea08efe35f63a0c"), looks := false }, kinds := [], alts := [], laidByText := true, laidKinds := [.data, .data, .data, .data, .pinned], laidTests := true, laidLooks := .later }
def TodoLinesCardSaid : Prop := Claim7.holds Tryd.pinned (.plain (OpenSpec.ofChange todoLinesSpec)) todoLinesCard

/-- THE TIED CARD OF 'rectolaw14.RowTwo'. -/
def rowTwoCard : Claim7 := { stood := { row := rowTwoRow, standIns := [], harness := (true, "63111ccc22840064956b00befcee19eb5b0b49b664c63450bea08efe35f63a0c"), looks := false }, kinds := [], alts := [], laidByText := true, laidKinds := [.data, .pinned], laidTests := true, laidLooks := .later }
def RowTwoCardSaid : Prop := Claim7.holds Tryd.pinned (.plain (OpenSpec.ofChange rowTwoSpec)) rowTwoCard

/-- THE TIED CARD OF 'rectolaw14.RowPut'. -/
def rowPutCard : Claim7 := { stood := { row := rowPutRow, standIns := [], harness := (true, "63111ccc22840064956b00befcee19eb5b0b49b664c63450bea08efe35f63a0c"), looks := false }, kinds := [], alts := [], laidByText := true, laidKinds := [.data, .pinned], laidTests := true, laidLooks := .later }
def RowPutCardSaid : Prop := Claim7.holds Tryd.pinned (.plain (OpenSpec.ofChange rowPutSpec)) rowPutCard

/-- THE TIED CARD OF 'rectolaw14.RowDiffs'. -/
def rowDiffsCard : Claim7 := { stood := { row := rowDiffsRow, standIns := [], harness := (true, "63111ccc22840064956b00befcee19eb5b0b49b664c63450bea08efe35f63a0c"), looks := false }, kinds := [], alts := [], laidByText := true, laidKinds := [.data, .pinned], laidTests := true, laidLooks := .later }
def RowDiffsCardSaid : Prop := Claim7.holds Tryd.pinned (.plain (OpenSpec.ofChange rowDiffsSpec)) rowDiffsCard

/-- THE TIED CARD OF 'rectolaw22.CmdTwo'. -/
def cmdTwoCard : Claim7 := { stood := { row := cmdTwoRow, standIns := [], harness := (true, "63111ccc22840064956b00befcee19eb5b0b49b664c63450bea08efe35f63a0c"), looks := false }, kinds := [], alts := [], laidByText := true, laidKinds := [.data, .data, .data, .data, .pinned], laidTests := true, laidLooks := .later }
def CmdTwoCardSaid : Prop := Claim7.holds Tryd.pinned (.plain (OpenSpec.ofChange cmdTwoSpec)) cmdTwoCard

/-- THE TIED CARD OF 'rectolaw22.CmdVerbs'. -/
def cmdVerbsCard : Claim7 := { stood := { row := cmdVerbsRow, standIns := [], harness := (true, "63111ccc22840064956b00befcee19eb5b0b49b664c63450bea08efe35f63a0c"), looks := false }, kinds := [], alts := [], laidByText := true, laidKinds := [.data, .data, .data, .data, .pinned], laidTests := true, laidLooks := .later }
def CmdVerbsCardSaid : Prop := Claim7.holds Tryd.pinned (.plain (OpenSpec.ofChange cmdVerbsSpec)) cmdVerbsCard

/-- THE SECOND FORM's CARD OF 'rectolaw21.TodoLines'. -/
def todoLinesUptoCard : Claim7 := { stood := { row := todoLinesUptoRow, standIns := [], harness := (true, "63111ccc22840064956b00befcee19eb5b0b49b664c63450bea08efe35f63a0c"), looks := false }, kinds := [], alts := [], laidByText := true, laidKinds := [.data, .data, .data, .data, .pinned], laidTests := true, laidLooks := .later }
def TodoLinesUptoCardSaid : Prop := Claim7.holds Tryd.pinned (.plain (OpenSpec.upto todoLinesSpec)) todoLinesUptoCard

/-- THE SECOND FORM's CARD OF 'rectolaw14.RowTwo'. -/
def rowTwoUptoCard : Claim7 := { stood := { row := rowTwoUptoRow, standIns := [], harness := (true, "63111ccc22840064956b00befcee19eb5b0b49b664c63450bea08efe35f63a0c"), looks := false }, kinds := [], alts := [], laidByText := true, laidKinds := [.data, .pinned], laidTests := true, laidLooks := .later }
def RowTwoUptoCardSaid : Prop := Claim7.holds Tryd.pinned (.plain (OpenSpec.upto rowTwoSpec)) rowTwoUptoCard

/-- THE SECOND FORM's CARD OF 'rectolaw14.RowPut'. -/
def rowPutUptoCard : Claim7 := { stood := { row := rowPutUptoRow, standIns := [], harness := (true, "63111ccc22840064956b00befcee19eb5b0b49b664c63450bea08efe35f63a0c"), looks := false }, kinds := [], alts := [], laidByText := true, laidKinds := [.data, .pinned], laidTests := true, laidLooks := .later }
def RowPutUptoCardSaid : Prop := Claim7.holds Tryd.pinned (.plain (OpenSpec.upto rowPutSpec)) rowPutUptoCard

/-- THE SECOND FORM's CARD OF 'rectolaw14.RowDiffs'. -/
def rowDiffsUptoCard : Claim7 := { stood := { row := rowDiffsUptoRow, standIns := [], harness := (true, "63111ccc22840064956b00befcee19eb5b0b49b664c63450bea08efe35f63a0c"), looks := false }, kinds := [], alts := [], laidByText := true, laidKinds := [.data, .pinned], laidTests := true, laidLooks := .later }
def RowDiffsUptoCardSaid : Prop := Claim7.holds Tryd.pinned (.plain (OpenSpec.upto rowDiffsSpec)) rowDiffsUptoCard

/-- THE SECOND FORM's CARD OF 'rectolaw22.CmdTwo'. -/
def cmdTwoUptoCard : Claim7 := { stood := { row := cmdTwoUptoRow, standIns := [], harness := (true, "63111ccc22840064956b00befcee19eb5b0b49b664c63450bea08efe35f63a0c"), looks := false }, kinds := [], alts := [], laidByText := true, laidKinds := [.data, .data, .data, .data, .pinned], laidTests := true, laidLooks := .later }
def CmdTwoUptoCardSaid : Prop := Claim7.holds Tryd.pinned (.plain (OpenSpec.upto cmdTwoSpec)) cmdTwoUptoCard

/-- THE SECOND FORM's CARD OF 'rectolaw22.CmdVerbs'. -/
def cmdVerbsUptoCard : Claim7 := { stood := { row := cmdVerbsUptoRow, standIns := [], harness := (true, "63111ccc22840064956b00befcee19eb5b0b49b664c63450bea08efe35f63a0c"), looks := false }, kinds := [], alts := [], laidByText := true, laidKinds := [.data, .data, .data, .data, .pinned], laidTests := true, laidLooks := .later }
def CmdVerbsUptoCardSaid : Prop := Claim7.holds Tryd.pinned (.plain (OpenSpec.upto cmdVerbsSpec)) cmdVerbsUptoCard
end Rows
end Go.Proofs.YtipnlckfohhkbaaDoor
