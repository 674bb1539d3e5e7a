/- Part of the proofs of: The laws on plans hold for every input: what is laid into a folder keeps what was changed, a clean folder takes any tree, and by force the index is the tree. -/
import Derived.Test.YtpmhinamcndmeaaGreatDoorCards
import Derived.Test.YtpmhinamcndmeaaGreatDoorTie
import Derived.Test.YtpmhinamcndmeaaGreatDoorPPKXa
set_option linter.unusedVariables false
set_option linter.unusedSimpArgs false
set_option linter.unusedSectionVars false
section
set_option linter.unusedVariables false
namespace Go.Proofs.YtpmhinamcndmeaaGreatDoor
open Go.ChangeShapes Go.WideShapes Go.ChangeAt Go.RowKit Go.V
open Go.S hiding Str
set_option maxRecDepth 100000 in
set_option maxHeartbeats 8000000 in
theorem planKeeps_closed : joinedFacts Tryz.prog 4 Tryz.f4 Rows.planKeepsSpec Rows.planKeepsRow = true := by
  unfold joinedFacts
  simp only [Bool.and_eq_true]
  and_intros
  all_goals as_aux_lemma => kernel_rfl
theorem planKeeps_holds : Rows.PlanKeepsSaid :=
  OpenClaim.holds_of_wide 4 Tryz.f4 rfl rfl rfl rfl rfl rfl rfl ⟨rfl, rfl, rfl, rfl, rfl⟩ rfl rfl rfl rfl rfl (by kernel_rfl) Tryz.func4 planKeeps_closed
    (of_decide_eq_true (by as_aux_lemma => kernel_rfl)) (by unfold Func.isWrapper; first | (rw [if_pos (by decide +kernel)]; kernel_rfl) | (rw [if_neg (by decide +kernel)]; exact ⟨rfl, rfl⟩))
    (fun os started H enc _ => planKeeps_lifted os started H enc)
end Go.Proofs.YtpmhinamcndmeaaGreatDoor
end
