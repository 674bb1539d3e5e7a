/- Part of the proofs of: What another branch has beyond one's own is taken as it is, and the second time there is nothing to do, for every number of commits. -/
import Derived.Test.YtdfbpkpldjpioaaGreatDoorCards
import Derived.Test.YtdfbpkpldjpioaaGreatDoorTie
import Derived.Test.YtdfbpkpldjpioaaGreatDoorFW
set_option linter.unusedVariables false
set_option linter.unusedSimpArgs false
set_option linter.unusedSectionVars false
section
set_option linter.unusedVariables false
namespace Go.Proofs.YtdfbpkpldjpioaaGreatDoor
open Go.ChangeShapes Go.WideShapes Go.ChangeAt Go.RowKit Go.V
open Go.S hiding Str
set_option maxRecDepth 100000 in
set_option maxHeartbeats 8000000 in
theorem topDirty_closed : joinedFacts Tryz.prog 4 Tryz.f4 Rows.topDirtySpec Rows.topDirtyRow = true := by
  unfold joinedFacts
  simp only [Bool.and_eq_true]
  and_intros
  all_goals as_aux_lemma => kernel_rfl
end Go.Proofs.YtdfbpkpldjpioaaGreatDoor
end
