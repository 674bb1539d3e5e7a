/-
  DERIVED. GIVEN WITH THE SEED: THE CARDS: each row of YtaohfeokfcdojaaGreatDoorRows.lean that lists a variable, with what it lists TIED to the program's text (the seventh form; the later family's looks); each row that meets fmt, with fmt's text TOLD by the authors' own Lean function (tested against real Go, not proved from fmt's source: count such statements apart). THE CARD IS WHAT COUNTS. Prove the row's statement (the work); the ties are given (YtaohfeokfcdojaaGreatDoorTie.lean); close each card by the builder's one call (the guide's Derived/Test/ToyasCard.lean, 'card_holds'). Laid BY PROGRAM, IN A SANDBOX (cutbox-door.mjs). By AI agents, Wed Nov 11 2026. No macro, syntax, notation, axiom, sorry.
-/
import Derived.Test.YtaohfeokfcdojaaGreatDoorRows
import GoSem.ClaimSeven
namespace Go.Proofs.YtaohfeokfcdojaaGreatDoor
namespace Rows

/-- THE TIED CARD OF 'rectotop.TopKeeps'. -/
def topKeepsCard : Claim7 := { stood := { row := topKeepsRow, standIns := [], harness := (true, "bc411581a17ddc94632a43c20f72b99c7e21c06b28a344229df4cdddaa3a7664"), looks := true }, kinds := [], alts := [], laidByText := true, laidKinds := [.data, .data, .data, .data, .handle, .pinned], laidTests := true, laidLooks := .later }
def TopKeepsCardSaid : Prop := Claim7.holds Tryz.pinned (.plain (OpenSpec.ofChange topKeepsSpec)) topKeepsCard

/-- THE SECOND FORM's CARD OF 'rectotop.TopKeeps'. -/
def topKeepsUptoCard : Claim7 := { stood := { row := topKeepsUptoRow, standIns := [], harness := (true, "bc411581a17ddc94632a43c20f72b99c7e21c06b28a344229df4cdddaa3a7664"), looks := true }, kinds := [], alts := [], laidByText := true, laidKinds := [.data, .data, .data, .data, .handle, .pinned], laidTests := true, laidLooks := .later }
def TopKeepsUptoCardSaid : Prop := Claim7.holds Tryz.pinned (.plain (OpenSpec.upto topKeepsSpec)) topKeepsUptoCard
end Rows
end Go.Proofs.YtaohfeokfcdojaaGreatDoor
