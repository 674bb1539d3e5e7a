/- Part of the proofs of: For every command it is told whether it may be and why not, and in words, and back, as far as its verb has it. -/
import Derived.Test.YtpmhinamcndmeaaGreatDoorCards
import Derived.Test.YtpmhinamcndmeaaGreatDoorTie
import Derived.Test.YtpmhinamcndmeaaGreatDoorCCKXa
set_option linter.unusedVariables false
set_option linter.unusedSimpArgs false
set_option linter.unusedSectionVars false
section
set_option linter.unusedVariables false
namespace Go.Proofs.YtpmhinamcndmeaaGreatDoor
open Go.ChangeShapes Go.WideShapes Go.ChangeAt Go.RowKit Go.V
open Go.S hiding Str
set_option maxRecDepth 100000 in
set_option maxHeartbeats 8000000 in
theorem cmdBack_closed : joinedFacts Tryz.prog 10 Tryz.f10 Rows.cmdBackSpec Rows.cmdBackRow = true := by
  unfold joinedFacts
  simp only [Bool.and_eq_true]
  and_intros
  all_goals as_aux_lemma => kernel_rfl
theorem cmdBack_holds : Rows.CmdBackSaid :=
  OpenClaim.holds_of_wide 10 Tryz.f10 rfl rfl rfl rfl rfl rfl rfl ⟨rfl, rfl, rfl, rfl, rfl⟩ rfl rfl rfl rfl rfl (by kernel_rfl) Tryz.func10 cmdBack_closed
    (of_decide_eq_true (by as_aux_lemma => kernel_rfl)) (by unfold Func.isWrapper; first | (rw [if_pos (by decide +kernel)]; kernel_rfl) | (rw [if_neg (by decide +kernel)]; exact ⟨rfl, rfl⟩))
    (fun os started H enc _ => cmdBack_lifted os started H enc)
end Go.Proofs.YtpmhinamcndmeaaGreatDoor
end
