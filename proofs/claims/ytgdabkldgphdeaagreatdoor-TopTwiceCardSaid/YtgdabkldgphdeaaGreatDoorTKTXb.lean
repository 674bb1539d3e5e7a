/- Part of the proofs of: the law TopTwice: the same play leads to the same, each time (any acts) -/
import Derived.Test.YtgdabkldgphdeaaGreatDoorCards
import Derived.Test.YtgdabkldgphdeaaGreatDoorTie
import Derived.Test.YtgdabkldgphdeaaGreatDoorTKTXa
set_option linter.unusedVariables false
set_option linter.unusedSimpArgs false
set_option linter.unusedSectionVars false
section
set_option linter.unusedVariables false
namespace Go.Proofs.YtgdabkldgphdeaaGreatDoor
open Go.ChangeShapes Go.WideShapes Go.ChangeAt Go.RowKit Go.V
open Go.S
set_option maxRecDepth 100000 in
set_option maxHeartbeats 8000000 in
theorem aDJ:joinedFacts Tryz.prog 3 Tryz.f3 Rows.topTwiceSpec Rows.topTwiceRow=true:=by
  unfold joinedFacts
  simp only [Bool.and_eq_true]
  and_intros
  all_goals as_aux_lemma=>kernel_rfl
theorem aEP:Rows.TopTwiceSaid :=
  OpenClaim.holds_of_wide 3 Tryz.f3 rfl rfl rfl rfl rfl rfl rfl ⟨rfl,rfl,rfl,rfl,rfl⟩ rfl rfl rfl rfl rfl (by kernel_rfl) Tryz.func3 aDJ
    (of_decide_eq_true (by as_aux_lemma=>kernel_rfl)) (by unfold Func.isWrapper; first | (rw [if_pos (by decide +kernel)]; kernel_rfl) | (rw [if_neg (by decide +kernel)]; exact ⟨rfl,rfl⟩))
    (fun os started H enc _=>aDK os started H enc)
end Go.Proofs.YtgdabkldgphdeaaGreatDoor
end
