/- the law StateChecks (second form: where what is read is of bulk at most 1048576) -/
import Derived.Test.YthbccdlpalenlaaGreatDoorCards
import Derived.Test.YthbccdlpalenlaaGreatDoorTie
import Derived.Test.YthbccdlpalenlaaGreatDoorCSCXb
set_option linter.unusedVariables false
set_option linter.unusedSimpArgs false
set_option linter.unusedSectionVars false
section
set_option linter.unusedVariables false
namespace Go.Proofs.YthbccdlpalenlaaGreatDoor
open Go.ChangeShapes Go.WideShapes Go.ChangeAt Go.RowKit Go.V
open Go.S hiding bN
theorem stateChecksUpto_card:Rows.StateChecksUptoCardSaid :=
  Claim7.holds_tied_plain_at .later [] [.data,.data,.data,.data,.handle,.pinned] true (true, "b3093e97f6958bb6796da790b775916eb43e9d90cc467c68f2cf6bae0a7de349") true WC (fun _ h=>by cases h) (by as_aux_lemma=>kernel_rfl) (fun _ h=>by cases h) stateChecksUpto_row_tie rfl ⟨rfl,rfl⟩ (by as_aux_lemma=>kernel_rfl) rfl
    (fun f fn hf hfn=>by
      obtain rfl:f=10:=Option.some.inj ((show Tryz.prog.funcNamed "recto/rectolaw25.StateChecks" = some 10 by as_aux_lemma=>kernel_rfl).symm.trans hf) |>.symm
      obtain rfl:fn=Tryz.f10:=(Option.some.inj (Tryz.func10.symm.trans hfn)).symm
      exact ⟨by as_aux_lemma=>kernel_rfl,fun j t ht=>by
        rw [Tryz.params10] at ht
        have hm:t∈[71]:=by simpa using Array.mem_of_getElem? ht
        have hall:([71].all fun u => !Tryz.prog.wantsStandIn u)=true:=by as_aux_lemma=>kernel_rfl
        exact (show Tryz.prog.wantsStandIn t=false by simpa using List.all_eq_true.1 hall t hm)⟩)
    (by as_aux_lemma=>kernel_rfl)
end Go.Proofs.YthbccdlpalenlaaGreatDoor
end
