/- Part of the proofs of: On any entries of an index the program tells what the document tells: whether they may be, their stages, conflicts; as bytes, and back. -/
import Derived.Test.YtleokmhhloamaaaGreatDoorCards
import Derived.Test.YtleokmhhloamaaaGreatDoorTie
import Derived.Test.YtleokmhhloamaaaGreatDoorIIAXa
set_option linter.unusedVariables false
set_option linter.unusedSimpArgs false
set_option linter.unusedSectionVars false
section
set_option linter.unusedVariables false
namespace Go.Proofs.YtleokmhhloamaaaGreatDoor
open Go.ChangeShapes Go.WideShapes Go.ChangeAt Go.RowKit Go.V
open Go.S hiding Str
set_option maxRecDepth 100000 in
set_option maxHeartbeats 8000000 in
theorem indexAny_closed : joinedFacts Tryz.prog 6 Tryz.f6 Rows.indexAnySpec Rows.indexAnyRow = true := by
  unfold joinedFacts
  simp only [Bool.and_eq_true]
  and_intros
  all_goals as_aux_lemma => kernel_rfl
theorem indexAny_holds : Rows.IndexAnySaid :=
  OpenClaim.holds_of_wide 6 Tryz.f6 rfl rfl rfl rfl rfl rfl rfl ⟨rfl, rfl, rfl, rfl, rfl⟩ rfl rfl rfl rfl rfl (by kernel_rfl) Tryz.func6 indexAny_closed
    (of_decide_eq_true (by as_aux_lemma => kernel_rfl)) (by unfold Func.isWrapper; first | (rw [if_pos (by decide +kernel)]; kernel_rfl) | (rw [if_neg (by decide +kernel)]; exact ⟨rfl, rfl⟩))
    (fun os started H enc _ => indexAny_lifted os started H enc)
end Go.Proofs.YtleokmhhloamaaaGreatDoor
end
