/- Any three trees merged: each path, what clashes, with its stages; or why not, as the document says. -/
import Derived.Test.YtleokmhhloamaaaGreatDoorCards
import Derived.Test.YtleokmhhloamaaaGreatDoorTie
import Derived.Test.YtleokmhhloamaaaGreatDoorMTMXb
set_option linter.unusedVariables false
set_option linter.unusedSimpArgs false
set_option linter.unusedSectionVars false
section
set_option linter.unusedVariables false
namespace Go.Proofs.YtleokmhhloamaaaGreatDoor
open Go.ChangeShapes Go.WideShapes Go.ChangeAt Go.RowKit Go.V
open Go.S hiding Str
theorem treesMerge_card : Rows.TreesMergeCardSaid :=
  Claim7.holds_tied_plain_at .later [] [.data, .handle, .pinned] true (true, "6646f065cb23503cb25be77214b6f17b7c0f214537b6f8b8fcbda26bc4ddd091") true treesMerge_holds (fun _ h => by cases h) (by as_aux_lemma => kernel_rfl) (fun _ h => by cases h) treesMerge_row_tie rfl ⟨rfl, rfl⟩ (by as_aux_lemma => kernel_rfl) rfl
    (fun f fn hf hfn => by
      obtain rfl : f = 7 := Option.some.inj ((show Tryz.prog.funcNamed "recto/rectolaw16.TreesMerge" = some 7 by as_aux_lemma => kernel_rfl).symm.trans hf) |>.symm
      obtain rfl : fn = Tryz.f7 := (Option.some.inj (Tryz.func7.symm.trans hfn)).symm
      exact ⟨by as_aux_lemma => kernel_rfl, fun j t ht => by
        rw [Tryz.params7] at ht
        have hm : t ∈ [38, 38, 38, 9, 9] := by simpa using Array.mem_of_getElem? ht
        have hall : ([38, 38, 38, 9, 9].all fun u => !Tryz.prog.wantsStandIn u) = true := by as_aux_lemma => kernel_rfl
        exact (show Tryz.prog.wantsStandIn t = false by simpa using List.all_eq_true.1 hall t hm)⟩)
    (by as_aux_lemma => kernel_rfl)
end Go.Proofs.YtleokmhhloamaaaGreatDoor
end
