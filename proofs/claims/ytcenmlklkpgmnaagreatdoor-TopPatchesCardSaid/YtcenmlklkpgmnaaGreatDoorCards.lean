/-
  DERIVED. GIVEN WITH THE SEED: THE CARDS: each row of YtcenmlklkpgmnaaGreatDoorRows.lean that lists a variable, with what it lists TIED to the program's text (the seventh form; the later family's looks); each row that meets fmt, with fmt's text TOLD by the authors' own Lean function (tested against real Go, not proved from fmt's source: count such statements apart). THE CARD IS WHAT COUNTS. Prove the row's statement (the work); the ties are given (YtcenmlklkpgmnaaGreatDoorTie.lean); close each card by the builder's one call (the guide's Derived/Test/ToyasCard.lean, 'card_holds'). Laid BY PROGRAM, IN A SANDBOX (cutbox-door.mjs). By AI agents, Wed Nov 11 2026. No macro, syntax, notation, axiom, sorry.
-/
import Derived.Test.YtcenmlklkpgmnaaGreatDoorRows
import GoSem.ClaimSeven
namespace Go.Proofs.YtcenmlklkpgmnaaGreatDoor
namespace Rows

/-- THE TIED CARD OF 'rectotop.TopPatches'. -/
def topPatchesCard : Claim7 := { stood := { row := topPatchesRow, standIns := [], harness := (true, "cea09535b30419020336509e744d8076d27a159c13eef443bcad2b7c6853715e"), looks := true }, kinds := [], alts := [], laidByText := true, laidKinds := [.data, .data, .data, .data, .handle, .pinned], laidTests := true, laidLooks := .later }
def TopPatchesCardSaid : Prop := Claim7.holds Tryz.pinned (.plain (OpenSpec.ofChange topPatchesSpec)) topPatchesCard

/-- THE SECOND FORM's CARD OF 'rectotop.TopPatches'. -/
def topPatchesUptoCard : Claim7 := { stood := { row := topPatchesUptoRow, standIns := [], harness := (true, "cea09535b30419020336509e744d8076d27a159c13eef443bcad2b7c6853715e"), looks := true }, kinds := [], alts := [], laidByText := true, laidKinds := [.data, .data, .data, .data, .handle, .pinned], laidTests := true, laidLooks := .later }
def TopPatchesUptoCardSaid : Prop := Claim7.holds Tryz.pinned (.plain (OpenSpec.upto topPatchesSpec)) topPatchesUptoCard
end Rows
end Go.Proofs.YtcenmlklkpgmnaaGreatDoor
