/-
  DERIVED. GIVEN WITH THE SEED: THE CARDS: each row of YtipnlckfohhkbaaGreatDoorRows.lean that lists a variable, with what it lists TIED to the program's text (the seventh form; the later family's looks); each row that meets fmt, with fmt's text TOLD by the authors' own Lean function (tested against real Go, not proved from fmt's source: count such statements apart). THE CARD IS WHAT COUNTS. Prove the row's statement (the work); the ties are given (YtipnlckfohhkbaaGreatDoorTie.lean); close each card by the builder's one call (the guide's Derived/Test/ToyasCard.lean, 'card_holds'). Laid BY PROGRAM, IN A SANDBOX (cutbox-door.mjs). By AI agents, Wed Nov 11 2026. No macro, syntax, notation, axiom, sorry.
-/
import Derived.Test.YtipnlckfohhkbaaGreatDoorRows
import GoSem.ClaimSeven
namespace Go.Proofs.YtipnlckfohhkbaaGreatDoor
namespace Rows

/-- THE TIED CARD OF 'rectolaw7.ObjectLimits'. -/
def objectLimitsCard : Claim7 := { stood := { row := objectLimitsRow, standIns := [], harness := (true, "efbe73222836482793489d58382bf3c709394427f644ec032325f298215716d1"), looks := true }, kinds := [], alts := [], laidByText := true, laidKinds := [.data, .handle, .pinned], laidTests := true, laidLooks := .later }
def ObjectLimitsCardSaid : Prop := Claim7.holds Tryz.pinned (.plain (OpenSpec.ofChange objectLimitsSpec)) objectLimitsCard

/-- THE TIED CARD OF 'rectolaw15.IndexPlays'. -/
def indexPlaysCard : Claim7 := { stood := { row := indexPlaysRow, standIns := [], harness := (true, "efbe73222836482793489d58382bf3c709394427f644ec032325f298215716d1"), looks := true }, kinds := [], alts := [], laidByText := true, laidKinds := [.data, .pinned], laidTests := true, laidLooks := .later }
def IndexPlaysCardSaid : Prop := Claim7.holds Tryz.pinned (.plain (OpenSpec.ofChange indexPlaysSpec)) indexPlaysCard

/-- THE TIED CARD OF 'rectolaw15.IndexStages'. -/
def indexStagesCard : Claim7 := { stood := { row := indexStagesRow, standIns := [], harness := (true, "efbe73222836482793489d58382bf3c709394427f644ec032325f298215716d1"), looks := true }, kinds := [], alts := [], laidByText := true, laidKinds := [.data, .pinned], laidTests := true, laidLooks := .later }
def IndexStagesCardSaid : Prop := Claim7.holds Tryz.pinned (.plain (OpenSpec.ofChange indexStagesSpec)) indexStagesCard

/-- THE TIED CARD OF 'rectolaw8.StoreOnce'. -/
def storeOnceCard : Claim7 := { stood := { row := storeOnceRow, standIns := [], harness := (true, "efbe73222836482793489d58382bf3c709394427f644ec032325f298215716d1"), looks := true }, kinds := [], alts := [], laidByText := true, laidKinds := [.data, .pinned], laidTests := true, laidLooks := .later }
def StoreOnceCardSaid : Prop := Claim7.holds Tryz.pinned (.plain (OpenSpec.ofChange storeOnceSpec)) storeOnceCard

/-- THE TIED CARD OF 'rectolaw22.CmdBack'. -/
def cmdBackCard : Claim7 := { stood := { row := cmdBackRow, standIns := [], harness := (true, "efbe73222836482793489d58382bf3c709394427f644ec032325f298215716d1"), looks := true }, kinds := [], alts := [], laidByText := true, laidKinds := [.data, .data, .data, .data, .handle, .pinned], laidTests := true, laidLooks := .later }
def CmdBackCardSaid : Prop := Claim7.holds Tryz.pinned (.plain (OpenSpec.ofChange cmdBackSpec)) cmdBackCard

/-- THE SECOND FORM's CARD OF 'rectolaw7.ObjectLimits'. -/
def objectLimitsUptoCard : Claim7 := { stood := { row := objectLimitsUptoRow, standIns := [], harness := (true, "efbe73222836482793489d58382bf3c709394427f644ec032325f298215716d1"), looks := true }, kinds := [], alts := [], laidByText := true, laidKinds := [.data, .handle, .pinned], laidTests := true, laidLooks := .later }
def ObjectLimitsUptoCardSaid : Prop := Claim7.holds Tryz.pinned (.plain (OpenSpec.upto objectLimitsSpec)) objectLimitsUptoCard

/-- THE SECOND FORM's CARD OF 'rectolaw15.IndexPlays'. -/
def indexPlaysUptoCard : Claim7 := { stood := { row := indexPlaysUptoRow, standIns := [], harness := (true, "efbe73222836482793489d58382bf3c709394427f644ec032325f298215716d1"), looks := true }, kinds := [], alts := [], laidByText := true, laidKinds := [.data, .pinned], laidTests := true, laidLooks := .later }
def IndexPlaysUptoCardSaid : Prop := Claim7.holds Tryz.pinned (.plain (OpenSpec.upto indexPlaysSpec)) indexPlaysUptoCard

/-- THE SECOND FORM's CARD OF 'rectolaw15.IndexStages'. -/
def indexStagesUptoCard : Claim7 := { stood := { row := indexStagesUptoRow, standIns := [], harness := (true, "efbe73222836482793489d58382bf3c709394427f644ec032325f298215716d1"), looks := true }, kinds := [], alts := [], laidByText := true, laidKinds := [.data, .pinned], laidTests := true, laidLooks := .later }
def IndexStagesUptoCardSaid : Prop := Claim7.holds Tryz.pinned (.plain (OpenSpec.upto indexStagesSpec)) indexStagesUptoCard

/-- THE SECOND FORM's CARD OF 'rectolaw8.StoreOnce'. -/
def storeOnceUptoCard : Claim7 := { stood := { row := storeOnceUptoRow, standIns := [], harness := (true, "efbe73222836482793489d58382bf3c709394427f644ec032325f298215716d1"), looks := true }, kinds := [], alts := [], laidByText := true, laidKinds := [.data, .pinned], laidTests := true, laidLooks := .later }
def StoreOnceUptoCardSaid : Prop := Claim7.holds Tryz.pinned (.plain (OpenSpec.upto storeOnceSpec)) storeOnceUptoCard

/-- THE SECOND FORM's CARD OF 'rectolaw22.CmdBack'. -/
def cmdBackUptoCard : Claim7 := { stood := { row := cmdBackUptoRow, standIns := [], harness := (true, "efbe73222836482793489d58382bf3c709394427f644ec032325f298215716d1"), looks := true }, kinds := [], alts := [], laidByText := true, laidKinds := [.data, .data, .data, .data, .handle, .pinned], laidTests := true, laidLooks := .later }
def CmdBackUptoCardSaid : Prop := Claim7.holds Tryz.pinned (.plain (OpenSpec.upto cmdBackSpec)) cmdBackUptoCard
end Rows
end Go.Proofs.YtipnlckfohhkbaaGreatDoor
