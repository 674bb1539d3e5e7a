/-
  DERIVED. GIVEN WITH THE SEED: THE CARDS: each row of YtedhnpjkoeblnaaGreatDoorRows.lean that lists a variable, with what it lists TIED to the program's text (the seventh form; the later family's looks); each row that meets fmt, with fmt's text TOLD by the authors' own Lean function (tested against real Go, not proved from fmt's source: count such statements apart). THE CARD IS WHAT COUNTS. Prove the row's statement (the work); the ties are given (YtedhnpjkoeblnaaGreatDoorTie.lean); close each card by the builder's one call (the guide's Derived/Test/ToyasCard.lean, 'card_holds'). Laid BY PROGRAM, IN A SANDBOX (cutbox-door.mjs). By AI agents, Wed Nov 11 2026. No macro, syntax, notation, axiom, sorry.
-/
import Derived.Test.YtedhnpjkoeblnaaGreatDoorRows
import GoSem.ClaimSeven
namespace Go.Proofs.YtedhnpjkoeblnaaGreatDoor
namespace Rows

/-- THE TIED CARD OF 'rectotop.TopLaid'. -/
def topLaidCard : Claim7 := { stood := { row := topLaidRow, standIns := [], harness := (true, "d1c32e2a98c95a9712c0414126ffc73d884b42c7fcf9aa6da87876357e12cd43"), looks := true }, kinds := [], alts := [], laidByText := true, laidKinds := [.data, .data, .data, .data, .handle, .pinned], laidTests := true, laidLooks := .later }
def TopLaidCardSaid : Prop := Claim7.holds Tryz.pinned (.plain (OpenSpec.ofChange topLaidSpec)) topLaidCard

/-- THE SECOND FORM's CARD OF 'rectotop.TopLaid'. -/
def topLaidUptoCard : Claim7 := { stood := { row := topLaidUptoRow, standIns := [], harness := (true, "d1c32e2a98c95a9712c0414126ffc73d884b42c7fcf9aa6da87876357e12cd43"), looks := true }, kinds := [], alts := [], laidByText := true, laidKinds := [.data, .data, .data, .data, .handle, .pinned], laidTests := true, laidLooks := .later }
def TopLaidUptoCardSaid : Prop := Claim7.holds Tryz.pinned (.plain (OpenSpec.upto topLaidSpec)) topLaidUptoCard
end Rows
end Go.Proofs.YtedhnpjkoeblnaaGreatDoor
