/- Part of the proofs of: what one side did, as pieces, done to base, is that side; merged with nothing done by the other it is that, too (any two texts) -/
import Derived.Test.YtcenmlklkpgmnaaGreatDoorCards
import Derived.Test.YtcenmlklkpgmnaaGreatDoorTie
import Derived.Test.YtcenmlklkpgmnaaGreatDoorPUAXa
set_option linter.unusedVariables false
set_option linter.unusedSimpArgs false
set_option linter.unusedSectionVars false
section
set_option linter.unusedVariables false
namespace Go.Proofs.YtcenmlklkpgmnaaGreatDoor
open Go.ChangeShapes Go.WideShapes Go.ChangeAt Go.RowKit Go.V
open Go.S hiding aV
set_option maxRecDepth 100000 in
set_option maxHeartbeats 8000000 in
theorem TF:joinedFacts Tryz.prog 3 Tryz.f3 Rows.topPatchesSpec Rows.topPatchesRow=true:=by
  unfold joinedFacts
  simp only [Bool.and_eq_true]
  and_intros
  all_goals as_aux_lemma=>kernel_rfl
theorem V1:Rows.TopPatchesSaid :=
  OpenClaim.holds_of_wide 3 Tryz.f3 rfl rfl rfl rfl rfl rfl rfl ⟨rfl,rfl,rfl,rfl,rfl⟩ rfl rfl rfl rfl rfl (by kernel_rfl) Tryz.func3 TF
    (of_decide_eq_true (by as_aux_lemma=>kernel_rfl)) (by unfold Func.isWrapper; first | (rw [if_pos (by decide +kernel)]; kernel_rfl) | (rw [if_neg (by decide +kernel)]; exact ⟨rfl,rfl⟩))
    (fun os started H enc _=>TG os started H enc)
end Go.Proofs.YtcenmlklkpgmnaaGreatDoor
end
