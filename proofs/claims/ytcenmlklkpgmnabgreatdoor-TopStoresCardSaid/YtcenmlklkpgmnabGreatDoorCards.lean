/-
  DERIVED. GIVEN WITH THE SEED: THE CARDS: each row of YtcenmlklkpgmnabGreatDoorRows.lean that lists a variable, with what it lists TIED to the program's text (the seventh form; the later family's looks); each row that meets fmt, with fmt's text TOLD by the authors' own Lean function (tested against real Go, not proved from fmt's source: count such statements apart). THE CARD IS WHAT COUNTS. Prove the row's statement (the work); the ties are given (YtcenmlklkpgmnabGreatDoorTie.lean); close each card by the builder's one call (the guide's Derived/Test/ToyasCard.lean, 'card_holds'). Laid BY PROGRAM, IN A SANDBOX (cutbox-door.mjs). By AI agents, Wed Nov 11 2026. No macro, syntax, notation, axiom, sorry.
-/
import Derived.Test.YtcenmlklkpgmnabGreatDoorRows
import GoSem.ClaimSeven
namespace Go.Proofs.YtcenmlklkpgmnabGreatDoor
namespace Rows

/-- THE TIED CARD OF 'rectotop.TopStores'. -/
def topStoresCard : Claim7 := { stood := { row := topStoresRow, standIns := [], harness := (true, "52f49da37e666621c6c73a2bcd9f40bb6dc30ca228ccb512e965aaba7bca589a"), looks := true }, kinds := [], alts := [], laidByText := true, laidKinds := [.data, .data, .data, .data, .handle, .pinned], laidTests := true, laidLooks := .later }
def TopStoresCardSaid : Prop := Claim7.holds Tryz.pinned (.plain (OpenSpec.ofChange topStoresSpec)) topStoresCard

/-- THE SECOND FORM's CARD OF 'rectotop.TopStores'. -/
def topStoresUptoCard : Claim7 := { stood := { row := topStoresUptoRow, standIns := [], harness := (true, "52f49da37e666621c6c73a2bcd9f40bb6dc30ca228ccb512e965aaba7bca589a"), looks := true }, kinds := [], alts := [], laidByText := true, laidKinds := [.data, .data, .data, .data, .handle, .pinned], laidTests := true, laidLooks := .later }
def TopStoresUptoCardSaid : Prop := Claim7.holds Tryz.pinned (.plain (OpenSpec.upto topStoresSpec)) topStoresUptoCard
end Rows
end Go.Proofs.YtcenmlklkpgmnabGreatDoor
