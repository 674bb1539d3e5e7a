/- Part of the proofs of: a plan's folder, laid down by the journal, is on the disk as planned, and outlasts the power (any two trees, any keep) -/
import Derived.Test.YtedhnpjkoeblnaaGreatDoorCards
import Derived.Test.YtedhnpjkoeblnaaGreatDoorTie
import GoSem.ClaimSeven
import Derived.KernelRfl
import Derived.Test.YtedhnpjkoeblnaaGreatDoorLUCXa
set_option linter.unusedVariables false
set_option linter.unusedSimpArgs false
set_option linter.unusedSectionVars false
section
set_option linter.unusedVariables false
namespace Go.Proofs.YtedhnpjkoeblnaaGreatDoor
open Go.ChangeShapes Go.WideShapes Go.ChangeAt Go.RowKit Go.V
open Go.S hiding aK
set_option maxRecDepth 100000 in
set_option maxHeartbeats 8000000 in
theorem aEV:joinedFacts Tryz.prog 3 Tryz.f3 Rows.topLaidSpec Rows.topLaidRow=true:=by
  unfold joinedFacts
  simp only [Bool.and_eq_true]
  and_intros
  all_goals as_aux_lemma=>kernel_rfl
theorem aGr:Rows.TopLaidSaid :=
  OpenClaim.holds_of_wide 3 Tryz.f3 rfl rfl rfl rfl rfl rfl rfl ⟨rfl,rfl,rfl,rfl,rfl⟩ rfl rfl rfl rfl rfl (by kernel_rfl) Tryz.func3 aEV
    (of_decide_eq_true (by as_aux_lemma=>kernel_rfl)) (by unfold Func.isWrapper; first | (rw [if_pos (by decide +kernel)]; kernel_rfl) | (rw [if_neg (by decide +kernel)]; exact ⟨rfl,rfl⟩))
    (fun os started H enc _=>aEW os started H enc)
end Go.Proofs.YtedhnpjkoeblnaaGreatDoor
end

section
namespace Go.V
open Go
theorem aW8 {P:Program} (h:P.funcs.any Func.goes=false) (f:FuncId):P.goes f=false:=by
 have h':P.funcs.toList.any Func.goes=false:=by rw [Array.any_toList]; exact h
 unfold Program.goes
 rw [h,Bool.and_false,Bool.or_false,List.any_eq_false]
 intro g _
 cases hf:P.funcs[g]? with
 | none=>simp
 | some fn =>
   have:=List.any_eq_false.1 h' fn (Array.mem_toList_iff.2 (Array.mem_of_getElem? hf))
   simpa using this
theorem aOY {P:Program} {c:OpenClaim} (hs:c.start = .entering) (h:P.funcs.any Func.goes=false):false=c.goesBy P:=by
 unfold OpenClaim.goesBy Program.goesAt Program.goesFrom
 rw [hs]
 cases P.funcNamed c.func with
 | none=>rfl
 | some f=>simp [aW8 h f]
end Go.V
end
