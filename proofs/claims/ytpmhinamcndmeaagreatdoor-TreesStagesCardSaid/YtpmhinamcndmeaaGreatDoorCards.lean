/-
  DERIVED. GIVEN WITH THE SEED: THE CARDS: each row of YtpmhinamcndmeaaGreatDoorRows.lean that lists a variable, with what it lists TIED to the program's text (the seventh form; the later family's looks); each row that meets fmt, with fmt's text TOLD by the authors' own Lean function (tested against real Go, not proved from fmt's source: count such statements apart). THE CARD IS WHAT COUNTS. Prove the row's statement (the work); the ties are given (YtpmhinamcndmeaaGreatDoorTie.lean); close each card by the builder's one call (the guide's Derived/Test/ToyasCard.lean, 'card_holds'). Laid BY PROGRAM, IN A SANDBOX (cutbox-door.mjs). By AI agents, Wed Nov 11 2026. No macro, syntax, notation, axiom, sorry.
-/
import Derived.Test.YtpmhinamcndmeaaGreatDoorRows
import GoSem.ClaimSeven
namespace Go.Proofs.YtpmhinamcndmeaaGreatDoor
namespace Rows

/-- THE TIED CARD OF 'rectolaw20.PlanClean'. -/
def planCleanCard : Claim7 := { stood := { row := planCleanRow, standIns := [], harness := (true, "bc0485e9faf56d8703ab906b75231921d891ee5a8f5e75fa53361739f4973d19"), looks := true }, kinds := [], alts := [], laidByText := true, laidKinds := [.data, .pinned], laidTests := true, laidLooks := .later }
def PlanCleanCardSaid : Prop := Claim7.holds Tryz.pinned (.plain (OpenSpec.ofChange planCleanSpec)) planCleanCard

/-- THE TIED CARD OF 'rectolaw20.PlanKeeps'. -/
def planKeepsCard : Claim7 := { stood := { row := planKeepsRow, standIns := [], harness := (true, "bc0485e9faf56d8703ab906b75231921d891ee5a8f5e75fa53361739f4973d19"), looks := true }, kinds := [], alts := [], laidByText := true, laidKinds := [.data, .pinned], laidTests := true, laidLooks := .later }
def PlanKeepsCardSaid : Prop := Claim7.holds Tryz.pinned (.plain (OpenSpec.ofChange planKeepsSpec)) planKeepsCard

/-- THE TIED CARD OF 'rectolaw20.PlanForces'. -/
def planForcesCard : Claim7 := { stood := { row := planForcesRow, standIns := [], harness := (true, "bc0485e9faf56d8703ab906b75231921d891ee5a8f5e75fa53361739f4973d19"), looks := true }, kinds := [], alts := [], laidByText := true, laidKinds := [.data, .pinned], laidTests := true, laidLooks := .later }
def PlanForcesCardSaid : Prop := Claim7.holds Tryz.pinned (.plain (OpenSpec.ofChange planForcesSpec)) planForcesCard

/-- THE TIED CARD OF 'rectolaw8.StoreOnce'. -/
def storeOnceCard : Claim7 := { stood := { row := storeOnceRow, standIns := [], harness := (true, "bc0485e9faf56d8703ab906b75231921d891ee5a8f5e75fa53361739f4973d19"), looks := true }, kinds := [], alts := [], laidByText := true, laidKinds := [.data, .pinned], laidTests := true, laidLooks := .later }
def StoreOnceCardSaid : Prop := Claim7.holds Tryz.pinned (.plain (OpenSpec.ofChange storeOnceSpec)) storeOnceCard

/-- THE TIED CARD OF 'rectolaw16.TreesApart'. -/
def treesApartCard : Claim7 := { stood := { row := treesApartRow, standIns := [], harness := (true, "bc0485e9faf56d8703ab906b75231921d891ee5a8f5e75fa53361739f4973d19"), looks := true }, kinds := [], alts := [], laidByText := true, laidKinds := [.data, .pinned], laidTests := true, laidLooks := .later }
def TreesApartCardSaid : Prop := Claim7.holds Tryz.pinned (.plain (OpenSpec.ofChange treesApartSpec)) treesApartCard

/-- THE TIED CARD OF 'rectolaw16.TreesStages'. -/
def treesStagesCard : Claim7 := { stood := { row := treesStagesRow, standIns := [], harness := (true, "bc0485e9faf56d8703ab906b75231921d891ee5a8f5e75fa53361739f4973d19"), looks := true }, kinds := [], alts := [], laidByText := true, laidKinds := [.data, .pinned], laidTests := true, laidLooks := .later }
def TreesStagesCardSaid : Prop := Claim7.holds Tryz.pinned (.plain (OpenSpec.ofChange treesStagesSpec)) treesStagesCard

/-- THE TIED CARD OF 'rectolaw16.TreesSides'. -/
def treesSidesCard : Claim7 := { stood := { row := treesSidesRow, standIns := [], harness := (true, "bc0485e9faf56d8703ab906b75231921d891ee5a8f5e75fa53361739f4973d19"), looks := true }, kinds := [], alts := [], laidByText := true, laidKinds := [.data, .pinned], laidTests := true, laidLooks := .later }
def TreesSidesCardSaid : Prop := Claim7.holds Tryz.pinned (.plain (OpenSpec.ofChange treesSidesSpec)) treesSidesCard

/-- THE TIED CARD OF 'rectolaw22.CmdBack'. -/
def cmdBackCard : Claim7 := { stood := { row := cmdBackRow, standIns := [], harness := (true, "bc0485e9faf56d8703ab906b75231921d891ee5a8f5e75fa53361739f4973d19"), looks := true }, kinds := [], alts := [], laidByText := true, laidKinds := [.data, .data, .data, .data, .handle, .pinned], laidTests := true, laidLooks := .later }
def CmdBackCardSaid : Prop := Claim7.holds Tryz.pinned (.plain (OpenSpec.ofChange cmdBackSpec)) cmdBackCard

/-- THE SECOND FORM's CARD OF 'rectolaw20.PlanClean'. -/
def planCleanUptoCard : Claim7 := { stood := { row := planCleanUptoRow, standIns := [], harness := (true, "bc0485e9faf56d8703ab906b75231921d891ee5a8f5e75fa53361739f4973d19"), looks := true }, kinds := [], alts := [], laidByText := true, laidKinds := [.data, .pinned], laidTests := true, laidLooks := .later }
def PlanCleanUptoCardSaid : Prop := Claim7.holds Tryz.pinned (.plain (OpenSpec.upto planCleanSpec)) planCleanUptoCard

/-- THE SECOND FORM's CARD OF 'rectolaw20.PlanKeeps'. -/
def planKeepsUptoCard : Claim7 := { stood := { row := planKeepsUptoRow, standIns := [], harness := (true, "bc0485e9faf56d8703ab906b75231921d891ee5a8f5e75fa53361739f4973d19"), looks := true }, kinds := [], alts := [], laidByText := true, laidKinds := [.data, .pinned], laidTests := true, laidLooks := .later }
def PlanKeepsUptoCardSaid : Prop := Claim7.holds Tryz.pinned (.plain (OpenSpec.upto planKeepsSpec)) planKeepsUptoCard

/-- THE SECOND FORM's CARD OF 'rectolaw20.PlanForces'. -/
def planForcesUptoCard : Claim7 := { stood := { row := planForcesUptoRow, standIns := [], harness := (true, "bc0485e9faf56d8703ab906b75231921d891ee5a8f5e75fa53361739f4973d19"), looks := true }, kinds := [], alts := [], laidByText := true, laidKinds := [.data, .pinned], laidTests := true, laidLooks := .later }
def PlanForcesUptoCardSaid : Prop := Claim7.holds Tryz.pinned (.plain (OpenSpec.upto planForcesSpec)) planForcesUptoCard

/-- THE SECOND FORM's CARD OF 'rectolaw8.StoreOnce'. -/
def storeOnceUptoCard : Claim7 := { stood := { row := storeOnceUptoRow, standIns := [], harness := (true, "bc0485e9faf56d8703ab906b75231921d891ee5a8f5e75fa53361739f4973d19"), looks := true }, kinds := [], alts := [], laidByText := true, laidKinds := [.data, .pinned], laidTests := true, laidLooks := .later }
def StoreOnceUptoCardSaid : Prop := Claim7.holds Tryz.pinned (.plain (OpenSpec.upto storeOnceSpec)) storeOnceUptoCard

/-- THE SECOND FORM's CARD OF 'rectolaw16.TreesApart'. -/
def treesApartUptoCard : Claim7 := { stood := { row := treesApartUptoRow, standIns := [], harness := (true, "bc0485e9faf56d8703ab906b75231921d891ee5a8f5e75fa53361739f4973d19"), looks := true }, kinds := [], alts := [], laidByText := true, laidKinds := [.data, .pinned], laidTests := true, laidLooks := .later }
def TreesApartUptoCardSaid : Prop := Claim7.holds Tryz.pinned (.plain (OpenSpec.upto treesApartSpec)) treesApartUptoCard

/-- THE SECOND FORM's CARD OF 'rectolaw16.TreesStages'. -/
def treesStagesUptoCard : Claim7 := { stood := { row := treesStagesUptoRow, standIns := [], harness := (true, "bc0485e9faf56d8703ab906b75231921d891ee5a8f5e75fa53361739f4973d19"), looks := true }, kinds := [], alts := [], laidByText := true, laidKinds := [.data, .pinned], laidTests := true, laidLooks := .later }
def TreesStagesUptoCardSaid : Prop := Claim7.holds Tryz.pinned (.plain (OpenSpec.upto treesStagesSpec)) treesStagesUptoCard

/-- THE SECOND FORM's CARD OF 'rectolaw16.TreesSides'. -/
def treesSidesUptoCard : Claim7 := { stood := { row := treesSidesUptoRow, standIns := [], harness := (true, "bc0485e9faf56d8703ab906b75231921d891ee5a8f5e75fa53361739f4973d19"), looks := true }, kinds := [], alts := [], laidByText := true, laidKinds := [.data, .pinned], laidTests := true, laidLooks := .later }
def TreesSidesUptoCardSaid : Prop := Claim7.holds Tryz.pinned (.plain (OpenSpec.upto treesSidesSpec)) treesSidesUptoCard

/-- THE SECOND FORM's CARD OF 'rectolaw22.CmdBack'. -/
def cmdBackUptoCard : Claim7 := { stood := { row := cmdBackUptoRow, standIns := [], harness := (true, "bc0485e9faf56d8703ab906b75231921d891ee5a8f5e75fa53361739f4973d19"), looks := true }, kinds := [], alts := [], laidByText := true, laidKinds := [.data, .data, .data, .data, .handle, .pinned], laidTests := true, laidLooks := .later }
def CmdBackUptoCardSaid : Prop := Claim7.holds Tryz.pinned (.plain (OpenSpec.upto cmdBackSpec)) cmdBackUptoCard
end Rows
end Go.Proofs.YtpmhinamcndmeaaGreatDoor
