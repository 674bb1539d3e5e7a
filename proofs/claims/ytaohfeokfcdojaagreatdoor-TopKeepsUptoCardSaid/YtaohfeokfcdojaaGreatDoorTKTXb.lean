/- Part of the proofs of: the law TopKeeps: what is changed and not committed is there, or put aside, behind every command that does not say otherwise (any acts, any line), where what is read is of bulk at most 1048576 -/
import Derived.Test.YtaohfeokfcdojaaGreatDoorCards
import Derived.Test.YtaohfeokfcdojaaGreatDoorTie
import Derived.Test.YtaohfeokfcdojaaGreatDoorTKTXa
set_option linter.unusedVariables false
set_option linter.unusedSimpArgs false
set_option linter.unusedSectionVars false
section
set_option linter.unusedVariables false
set_option linter.unusedSectionVars false
namespace Go.Proofs.YtaohfeokfcdojaaGreatDoor
open Go.ChangeShapes Go.WideShapes Go.ChangeAt Go.RowKit Go.V
open Go.S
set_option maxRecDepth 100000 in
set_option maxHeartbeats 8000000 in
theorem UY:joinedFacts Tryz.prog 3 Tryz.f3 (Rows.OpenSpec.upto Rows.topKeepsSpec).bare Rows.topKeepsUptoRow=true:=by
  unfold joinedFacts
  simp only [Bool.and_eq_true]
  and_intros
  all_goals as_aux_lemma=>kernel_rfl
theorem aF3:Rows.TopKeepsUptoSaid :=
  OpenClaim.holds_of_cond 3 Tryz.f3 rfl rfl rfl rfl rfl rfl rfl ⟨rfl,rfl,rfl,rfl,rfl⟩ rfl rfl rfl rfl rfl (by kernel_rfl) Tryz.func3 UY
    (of_decide_eq_true (by as_aux_lemma=>kernel_rfl)) (by unfold Func.isWrapper; first | (rw [if_pos (by decide +kernel)]; kernel_rfl) | (rw [if_neg (by decide +kernel)]; exact ⟨rfl,rfl⟩))
    (fun os started H enc _ F=>by rw [OpenClaim.pre_eq_preRow]; exact UZ os started H enc F)
end Go.Proofs.YtaohfeokfcdojaaGreatDoor
end
