/-
  DERIVED. GIVEN WITH THE SEED: THE CARDS: each row of YtdfbpkpldjpioaaGreatDoorRows.lean that lists a variable, with what it lists TIED to the program's text (the seventh form; the later family's looks); each row that meets fmt, with fmt's text TOLD by the authors' own Lean function (tested against real Go, not proved from fmt's source: count such statements apart). THE CARD IS WHAT COUNTS. Prove the row's statement (the work); the ties are given (YtdfbpkpldjpioaaGreatDoorTie.lean); close each card by the builder's one call (the guide's Derived/Test/ToyasCard.lean, 'card_holds'). Laid BY PROGRAM, IN A SANDBOX (cutbox-door.mjs). By AI agents, Wed Nov 11 2026. No macro, syntax, notation, axiom, sorry.
-/
import Derived.Test.YtdfbpkpldjpioaaGreatDoorRows
import GoSem.ClaimSeven
namespace Go.Proofs.YtdfbpkpldjpioaaGreatDoor
namespace Rows

/-- THE TIED CARD OF 'rectotop.TopForward'. -/
def topForwardCard : Claim7 := { stood := { row := topForwardRow, standIns := [], harness := (true, "12ebf8fd874e23c3b14edcba95178735bbd9e5685857bf4fcd642cf3714e0a44"), looks := true }, kinds := [], alts := [], laidByText := true, laidKinds := [.data, .data, .data, .data, .handle, .pinned], laidTests := true, laidLooks := .later }
def TopForwardCardSaid : Prop := Claim7.holds Tryz.pinned (.plain (OpenSpec.ofChange topForwardSpec)) topForwardCard

/-- THE TIED CARD OF 'rectotop.TopDirty'. -/
def topDirtyCard : Claim7 := { stood := { row := topDirtyRow, standIns := [], harness := (true, "12ebf8fd874e23c3b14edcba95178735bbd9e5685857bf4fcd642cf3714e0a44"), looks := true }, kinds := [], alts := [], laidByText := true, laidKinds := [.data, .data, .data, .data, .handle, .pinned], laidTests := true, laidLooks := .later }
def TopDirtyCardSaid : Prop := Claim7.holds Tryz.pinned (.plain (OpenSpec.ofChange topDirtySpec)) topDirtyCard

/-- THE SECOND FORM's CARD OF 'rectotop.TopForward'. -/
def topForwardUptoCard : Claim7 := { stood := { row := topForwardUptoRow, standIns := [], harness := (true, "12ebf8fd874e23c3b14edcba95178735bbd9e5685857bf4fcd642cf3714e0a44"), looks := true }, kinds := [], alts := [], laidByText := true, laidKinds := [.data, .data, .data, .data, .handle, .pinned], laidTests := true, laidLooks := .later }
def TopForwardUptoCardSaid : Prop := Claim7.holds Tryz.pinned (.plain (OpenSpec.upto topForwardSpec)) topForwardUptoCard

/-- THE SECOND FORM's CARD OF 'rectotop.TopDirty'. -/
def topDirtyUptoCard : Claim7 := { stood := { row := topDirtyUptoRow, standIns := [], harness := (true, "12ebf8fd874e23c3b14edcba95178735bbd9e5685857bf4fcd642cf3714e0a44"), looks := true }, kinds := [], alts := [], laidByText := true, laidKinds := [.data, .data, .data, .data, .handle, .pinned], laidTests := true, laidLooks := .later }
def TopDirtyUptoCardSaid : Prop := Claim7.holds Tryz.pinned (.plain (OpenSpec.upto topDirtySpec)) topDirtyUptoCard
end Rows
end Go.Proofs.YtdfbpkpldjpioaaGreatDoor
