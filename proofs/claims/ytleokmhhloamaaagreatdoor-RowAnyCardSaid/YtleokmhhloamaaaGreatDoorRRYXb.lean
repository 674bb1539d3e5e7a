/- Part of the proofs of: On any row of files the program tells what the document tells: whether it may be, and gets, puts, cuts, clears. -/
import Derived.Test.YtleokmhhloamaaaGreatDoorCards
import Derived.Test.YtleokmhhloamaaaGreatDoorTie
import Derived.Test.YtleokmhhloamaaaGreatDoorRRYXa
set_option linter.unusedVariables false
set_option linter.unusedSimpArgs false
set_option linter.unusedSectionVars false
section
set_option linter.unusedVariables false
namespace Go.Proofs.YtleokmhhloamaaaGreatDoor
open Go.ChangeShapes Go.WideShapes Go.ChangeAt Go.RowKit Go.V
open Go.S hiding Str
set_option maxRecDepth 100000 in
set_option maxHeartbeats 8000000 in
theorem rowAny_closed : joinedFacts Tryz.prog 5 Tryz.f5 Rows.rowAnySpec Rows.rowAnyRow = true := by
  unfold joinedFacts
  simp only [Bool.and_eq_true]
  and_intros
  all_goals as_aux_lemma => kernel_rfl
theorem rowAny_holds : Rows.RowAnySaid :=
  OpenClaim.holds_of_wide 5 Tryz.f5 rfl rfl rfl rfl rfl rfl rfl ⟨rfl, rfl, rfl, rfl, rfl⟩ rfl rfl rfl rfl rfl (by kernel_rfl) Tryz.func5 rowAny_closed
    (of_decide_eq_true (by as_aux_lemma => kernel_rfl)) (by unfold Func.isWrapper; first | (rw [if_pos (by decide +kernel)]; kernel_rfl) | (rw [if_neg (by decide +kernel)]; exact ⟨rfl, rfl⟩))
    (fun os started H enc _ => rowAny_lifted os started H enc)
end Go.Proofs.YtleokmhhloamaaaGreatDoor
end
