/- the law StoreBytes: any bytes loaded: a store of which all holds, or an error; what it tells is loaded as itself (any bytes) -/
import Derived.Test.YthbccdlpalenlaaGreatDoorCards
import Derived.Test.YthbccdlpalenlaaGreatDoorTie
import Derived.Test.YthbccdlpalenlaaGreatDoorBYBXb
set_option linter.unusedVariables false
set_option linter.unusedSimpArgs false
set_option linter.unusedSectionVars false
section
set_option linter.unusedVariables false
namespace Go.Proofs.YthbccdlpalenlaaGreatDoor
open Go.ChangeShapes Go.WideShapes Go.ChangeAt Go.RowKit Go.V
open Go.S hiding Str
theorem storeBytes_card : Rows.StoreBytesCardSaid :=
  Claim7.holds_tied_plain_at .later [] [.data, .pinned] true (true, "b3093e97f6958bb6796da790b775916eb43e9d90cc467c68f2cf6bae0a7de349") true storeBytes_holds (fun _ h => by cases h) (by as_aux_lemma => kernel_rfl) (fun _ h => by cases h) storeBytes_row_tie rfl ⟨rfl, rfl⟩ (by as_aux_lemma => kernel_rfl) rfl
    (fun f fn hf hfn => by
      obtain rfl : f = 3 := Option.some.inj ((show Tryz.prog.funcNamed "recto/rectolaw8.StoreBytes" = some 3 by as_aux_lemma => kernel_rfl).symm.trans hf) |>.symm
      obtain rfl : fn = Tryz.f3 := (Option.some.inj (Tryz.func3.symm.trans hfn)).symm
      exact ⟨by as_aux_lemma => kernel_rfl, fun j t ht => by
        rw [Tryz.params3] at ht
        have hm : t ∈ [22] := by simpa using Array.mem_of_getElem? ht
        have hall : ([22].all fun u => !Tryz.prog.wantsStandIn u) = true := by as_aux_lemma => kernel_rfl
        exact (show Tryz.prog.wantsStandIn t = false by simpa using List.all_eq_true.1 hall t hm)⟩)
    (by as_aux_lemma => kernel_rfl)
end Go.Proofs.YthbccdlpalenlaaGreatDoor
end
