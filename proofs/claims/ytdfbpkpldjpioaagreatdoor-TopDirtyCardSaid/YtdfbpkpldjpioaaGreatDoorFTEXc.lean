/- A switch that would lose what was changed is refused, and one that does not touch it takes it along, for every word. -/
import Derived.Test.YtdfbpkpldjpioaaGreatDoorCards
import Derived.Test.YtdfbpkpldjpioaaGreatDoorTie
import Derived.Test.YtdfbpkpldjpioaaGreatDoorFTEXa
import Derived.Test.YtdfbpkpldjpioaaGreatDoorFTEXd
import Derived.Test.YtdfbpkpldjpioaaGreatDoorFTEXe
set_option linter.unusedVariables false
set_option linter.unusedSimpArgs false
set_option linter.unusedSectionVars false
section
set_option linter.unusedVariables false
namespace Go.Proofs.YtdfbpkpldjpioaaGreatDoor
open Go.ChangeShapes Go.WideShapes Go.ChangeAt Go.RowKit Go.V
open Go.S hiding Str
theorem topDirty_card : Rows.TopDirtyCardSaid := topDirty_card_of (topDirty_holds_of topDirty_closed fun os started H enc => topDirty_lifted os started H enc)
end Go.Proofs.YtdfbpkpldjpioaaGreatDoor
end
