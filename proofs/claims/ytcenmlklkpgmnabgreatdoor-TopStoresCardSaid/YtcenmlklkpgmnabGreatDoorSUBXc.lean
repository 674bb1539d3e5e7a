/- a folder's tree, put into a store, file by file, is there again, told in bytes and loaded; each file's bytes are there once, named by one name (any tree) -/
import Derived.Test.YtcenmlklkpgmnabGreatDoorCards
import Derived.Test.YtcenmlklkpgmnabGreatDoorTie
import Derived.Test.YtcenmlklkpgmnabGreatDoorSUBXb
set_option linter.unusedVariables false
set_option linter.unusedSimpArgs false
set_option linter.unusedSectionVars false
section
set_option linter.unusedVariables false
namespace Go.Proofs.YtcenmlklkpgmnabGreatDoor
open Go.ChangeShapes Go.WideShapes Go.ChangeAt Go.RowKit Go.V
open Go.S hiding bB
theorem a1y:Tryz.prog.funcs.any Func.goes=false:=by kernel_rfl
theorem topStores_card:Rows.TopStoresCardSaid :=
  Claim7.holds_tied_plain_at .later [] [.data,.data,.data,.data,.handle,.pinned] true (true, "52f49da37e666621c6c73a2bcd9f40bb6dc30ca228ccb512e965aaba7bca589a") true aDl (fun _ h=>by cases h) (by as_aux_lemma=>kernel_rfl) (fun _ h=>by cases h) topStores_row_tie rfl ⟨rfl,rfl⟩ (by as_aux_lemma=>kernel_rfl) rfl
    (fun f fn hf hfn=>by
      obtain rfl:f=3:=Option.some.inj ((show Tryz.prog.funcNamed "recto/rectotop.TopStores" = some 3 by as_aux_lemma=>kernel_rfl).symm.trans hf) |>.symm
      obtain rfl:fn=Tryz.f3:=(Option.some.inj (Tryz.func3.symm.trans hfn)).symm
      exact ⟨by as_aux_lemma=>kernel_rfl,fun j t ht=>by
        rw [Tryz.params3] at ht
        have hm:t∈[23]:=by simpa using Array.mem_of_getElem? ht
        have hall:([23].all fun u => !Tryz.prog.wantsStandIn u)=true:=by as_aux_lemma=>kernel_rfl
        exact (show Tryz.prog.wantsStandIn t=false by simpa using List.all_eq_true.1 hall t hm)⟩)
    (aNm rfl a1y)
end Go.Proofs.YtcenmlklkpgmnabGreatDoor
end
