/- the law TopKeeps: what is changed and not committed is there, or put aside, behind every command that does not say otherwise (any acts, any line), where what is read is of bulk at most 1048576 -/
import Derived.Test.YtaohfeokfcdojaaGreatDoorCards
import Derived.Test.YtaohfeokfcdojaaGreatDoorTie
import Derived.Test.YtaohfeokfcdojaaGreatDoorTKTXb
set_option linter.unusedVariables false
set_option linter.unusedSimpArgs false
set_option linter.unusedSectionVars false
section
set_option linter.unusedVariables false
set_option linter.unusedSectionVars false
namespace Go.Proofs.YtaohfeokfcdojaaGreatDoor
open Go.ChangeShapes Go.WideShapes Go.ChangeAt Go.RowKit Go.V
open Go.S
theorem aUu {P:Program} (h:P.funcs.any Func.goes=false) (f:FuncId):P.goes f=false:=by
  have h':P.funcs.toList.any Func.goes=false:=by rw [Array.any_toList]; exact h
  unfold Program.goes
  rw [h,Bool.and_false,Bool.or_false,List.any_eq_false]
  intro g _
  cases hf:P.funcs[g]? with
  | none=>simp
  | some fn =>
    have:=List.any_eq_false.1 h' fn (Array.mem_toList_iff.2 (Array.mem_of_getElem? hf))
    simpa using this
theorem aMG {P:Program} {c:OpenClaim} (hs:c.start = .entering) (h:P.funcs.any Func.goes=false):false=c.goesBy P:=by
  unfold OpenClaim.goesBy Program.goesAt Program.goesFrom
  rw [hs]
  cases P.funcNamed c.func with
  | none=>rfl
  | some f=>simp [aUu h f]
theorem a0n:Tryz.prog.funcs.any Func.goes=false:=by kernel_rfl
theorem topKeepsUpto_card:Rows.TopKeepsUptoCardSaid :=
  Claim7.holds_tied_plain_at .later [] [.data,.data,.data,.data,.handle,.pinned] true (true, "bc411581a17ddc94632a43c20f72b99c7e21c06b28a344229df4cdddaa3a7664") true aF3 (fun _ h=>by cases h) (by as_aux_lemma=>kernel_rfl) (fun _ h=>by cases h) topKeepsUpto_row_tie rfl ⟨rfl,rfl⟩ (by as_aux_lemma=>kernel_rfl) rfl
    (fun f fn hf hfn=>by
      obtain rfl:f=3:=Option.some.inj ((show Tryz.prog.funcNamed "recto/rectotop.TopKeeps" = some 3 by as_aux_lemma=>kernel_rfl).symm.trans hf) |>.symm
      obtain rfl:fn=Tryz.f3:=(Option.some.inj (Tryz.func3.symm.trans hfn)).symm
      exact ⟨by as_aux_lemma=>kernel_rfl,fun j t ht=>by
        rw [Tryz.params3] at ht
        have hm:t∈[22,9]:=by simpa using Array.mem_of_getElem? ht
        have hall:([22,9].all fun u => !Tryz.prog.wantsStandIn u)=true:=by as_aux_lemma=>kernel_rfl
        exact (show Tryz.prog.wantsStandIn t=false by simpa using List.all_eq_true.1 hall t hm)⟩)
    (aMG rfl a0n)
end Go.Proofs.YtaohfeokfcdojaaGreatDoor
end
