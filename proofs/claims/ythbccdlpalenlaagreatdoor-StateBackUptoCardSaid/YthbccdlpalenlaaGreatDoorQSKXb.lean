/- Part of the proofs of: the law StateBack: any state as bytes, and back; its graph, its trees, its weight (any parts) (second form: where what is read is of bulk at most 1048576) -/
import Derived.Test.YthbccdlpalenlaaGreatDoorCards
import Derived.Test.YthbccdlpalenlaaGreatDoorTie
import Derived.Test.YthbccdlpalenlaaGreatDoorQSKXa
set_option linter.unusedVariables false
set_option linter.unusedSimpArgs false
set_option linter.unusedSectionVars false
section
set_option linter.unusedVariables false
namespace Go.Proofs.YthbccdlpalenlaaGreatDoor
open Go.ChangeShapes Go.WideShapes Go.ChangeAt Go.RowKit Go.V
open Go.S hiding Str
set_option maxRecDepth 100000 in
set_option maxHeartbeats 8000000 in
theorem stateBackUpto_closed : joinedFacts Tryz.prog 9 Tryz.f9 (Rows.OpenSpec.upto Rows.stateBackSpec).bare Rows.stateBackUptoRow = true := by
  unfold joinedFacts
  simp only [Bool.and_eq_true]
  and_intros
  all_goals as_aux_lemma => kernel_rfl
theorem stateBack_upto : Rows.StateBackUptoSaid :=
  OpenClaim.holds_of_cond 9 Tryz.f9 rfl rfl rfl rfl rfl rfl rfl ⟨rfl, rfl, rfl, rfl, rfl⟩ rfl rfl rfl rfl rfl (by kernel_rfl) Tryz.func9 stateBackUpto_closed
    (of_decide_eq_true (by as_aux_lemma => kernel_rfl)) (by unfold Func.isWrapper; first | (rw [if_pos (by decide +kernel)]; kernel_rfl) | (rw [if_neg (by decide +kernel)]; exact ⟨rfl, rfl⟩))
    (fun os started H enc _ F => by rw [OpenClaim.pre_eq_preRow]; exact stateBackUpto_lifted os started H enc F)
end Go.Proofs.YthbccdlpalenlaaGreatDoor
end
