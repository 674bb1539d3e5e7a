/- a plan's folder, laid down by the journal, is on the disk as planned, and outlasts the power (any two trees, any keep) -/
import Derived.Test.YtedhnpjkoeblnaaGreatDoorCards
import Derived.Test.YtedhnpjkoeblnaaGreatDoorTie
import Derived.Test.YtedhnpjkoeblnaaGreatDoorLUCXb
set_option linter.unusedVariables false
set_option linter.unusedSimpArgs false
set_option linter.unusedSectionVars false
section
set_option linter.unusedVariables false
namespace Go.Proofs.YtedhnpjkoeblnaaGreatDoor
open Go.ChangeShapes Go.WideShapes Go.ChangeAt Go.RowKit Go.V
open Go.S hiding aK
theorem a2R:Tryz.prog.funcs.any Func.goes=false:=by kernel_rfl
theorem topLaid_card:Rows.TopLaidCardSaid :=
  Claim7.holds_tied_plain_at .later [] [.data,.data,.data,.data,.handle,.pinned] true (true, "d1c32e2a98c95a9712c0414126ffc73d884b42c7fcf9aa6da87876357e12cd43") true aGr (fun _ h=>by cases h) (by as_aux_lemma=>kernel_rfl) (fun _ h=>by cases h) topLaid_row_tie rfl ⟨rfl,rfl⟩ (by as_aux_lemma=>kernel_rfl) rfl
    (fun f fn hf hfn=>by
      obtain rfl:f=3:=Option.some.inj ((show Tryz.prog.funcNamed "recto/rectotop.TopLaid" = some 3 by as_aux_lemma=>kernel_rfl).symm.trans hf) |>.symm
      obtain rfl:fn=Tryz.f3:=(Option.some.inj (Tryz.func3.symm.trans hfn)).symm
      exact ⟨by as_aux_lemma=>kernel_rfl,fun j t ht=>by
        rw [Tryz.params3] at ht
        have hm:t∈[23,23,24]:=by simpa using Array.mem_of_getElem? ht
        have hall:([23,23,24].all fun u => !Tryz.prog.wantsStandIn u)=true:=by as_aux_lemma=>kernel_rfl
        exact (show Tryz.prog.wantsStandIn t=false by simpa using List.all_eq_true.1 hall t hm)⟩)
    (aOY rfl a2R)
end Go.Proofs.YtedhnpjkoeblnaaGreatDoor
end
