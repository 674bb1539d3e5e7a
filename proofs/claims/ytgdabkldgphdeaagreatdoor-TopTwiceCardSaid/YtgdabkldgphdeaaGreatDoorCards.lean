/-
  DERIVED. GIVEN WITH THE SEED: THE CARDS: each row of YtgdabkldgphdeaaGreatDoorRows.lean that lists a variable, with what it lists TIED to the program's text (the seventh form; the later family's looks); each row that meets fmt, with fmt's text TOLD by the authors' own Lean function (tested against real Go, not proved from fmt's source: count such statements apart). THE CARD IS WHAT COUNTS. Prove the row's statement (the work); the ties are given (YtgdabkldgphdeaaGreatDoorTie.lean); close each card by the builder's one call (the guide's Derived/Test/ToyasCard.lean, 'card_holds'). Laid BY PROGRAM, IN A SANDBOX (cutbox-door.mjs). By AI agents, Wed Nov 11 2026. No macro, syntax, notation, axiom, sorry.
-/
import Derived.Test.YtgdabkldgphdeaaGreatDoorRows
import GoSem.ClaimSeven
namespace Go.Proofs.YtgdabkldgphdeaaGreatDoor
namespace Rows

/-- THE TIED CARD OF 'rectotop.TopTwice'. -/
def topTwiceCard : Claim7 := { stood := { row := topTwiceRow, standIns := [], harness := (true, "055fe7fa162cbd98a6ae178d664d84db43ad0be66b865c9408578936250d6cf8"), looks := true }, kinds := [], alts := [], laidByText := true, laidKinds := [.data, .data, .data, .data, .handle, .pinned], laidTests := true, laidLooks := .later }
def TopTwiceCardSaid : Prop := Claim7.holds Tryz.pinned (.plain (OpenSpec.ofChange topTwiceSpec)) topTwiceCard

/-- THE SECOND FORM's CARD OF 'rectotop.TopTwice'. -/
def topTwiceUptoCard : Claim7 := { stood := { row := topTwiceUptoRow, standIns := [], harness := (true, "055fe7fa162cbd98a6ae178d664d84db43ad0be66b865c9408578936250d6cf8"), looks := true }, kinds := [], alts := [], laidByText := true, laidKinds := [.data, .data, .data, .data, .handle, .pinned], laidTests := true, laidLooks := .later }
def TopTwiceUptoCardSaid : Prop := Claim7.holds Tryz.pinned (.plain (OpenSpec.upto topTwiceSpec)) topTwiceUptoCard
end Rows
end Go.Proofs.YtgdabkldgphdeaaGreatDoor
