/- what one side did, as pieces, done to base, is that side; merged with nothing done by the other it is that, too (any two texts) -/
import Derived.Test.YtcenmlklkpgmnaaGreatDoorCards
import Derived.Test.YtcenmlklkpgmnaaGreatDoorTie
import Derived.Test.YtcenmlklkpgmnaaGreatDoorPUAXb
set_option linter.unusedVariables false
set_option linter.unusedSimpArgs false
set_option linter.unusedSectionVars false
section
set_option linter.unusedVariables false
namespace Go.Proofs.YtcenmlklkpgmnaaGreatDoor
open Go.ChangeShapes Go.WideShapes Go.ChangeAt Go.RowKit Go.V
open Go.S hiding aV
theorem topPatches_card:Rows.TopPatchesCardSaid :=
  Claim7.holds_tied_plain_at .later [] [.data,.data,.data,.data,.handle,.pinned] true (true, "cea09535b30419020336509e744d8076d27a159c13eef443bcad2b7c6853715e") true V1 (fun _ h=>by cases h) (by as_aux_lemma=>kernel_rfl) (fun _ h=>by cases h) topPatches_row_tie rfl ⟨rfl,rfl⟩ (by as_aux_lemma=>kernel_rfl) rfl
    (fun f fn hf hfn=>by
      obtain rfl:f=3:=Option.some.inj ((show Tryz.prog.funcNamed "recto/rectotop.TopPatches" = some 3 by as_aux_lemma=>kernel_rfl).symm.trans hf) |>.symm
      obtain rfl:fn=Tryz.f3:=(Option.some.inj (Tryz.func3.symm.trans hfn)).symm
      exact ⟨by as_aux_lemma=>kernel_rfl,fun j t ht=>by
        rw [Tryz.params3] at ht
        have hm:t∈[9,9]:=by simpa using Array.mem_of_getElem? ht
        have hall:([9,9].all fun u => !Tryz.prog.wantsStandIn u)=true:=by as_aux_lemma=>kernel_rfl
        exact (show Tryz.prog.wantsStandIn t=false by simpa using List.all_eq_true.1 hall t hm)⟩)
    (by as_aux_lemma=>kernel_rfl)
end Go.Proofs.YtcenmlklkpgmnaaGreatDoor
end
