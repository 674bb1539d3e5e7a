/- Part of the proofs of: What another branch has beyond one's own is taken as it is, and the second time there is nothing to do, for every number of commits. -/
import Derived.Test.YtdfbpkpldjpioaaGreatDoorFHA
set_option linter.unusedVariables false
set_option linter.unusedSimpArgs false
set_option linter.unusedSectionVars false
section
namespace Go.S
open Go
theorem dt2 : dbody S7t 2 true = some true := by decide +kernel
theorem dt5 : dbody S7t 5 true = some true := by decide +kernel
theorem dt8 : dbody S7t 8 true = some true := by decide +kernel
theorem dt11 : dbody S7t 11 true = some true := by decide +kernel
theorem dt14 : dbody S7t 14 true = some true := by decide +kernel
theorem dt17 : dbody S7t 17 true = some true := by decide +kernel
theorem dt20 : dbody S7t 20 true = some true := by decide +kernel
theorem dt23 : dbody S7t 23 true = some true := by decide +kernel
theorem df0 : dbody S7f 0 false = some true := by decide +kernel
theorem df3 : dbody S7f 3 false = some true := by decide +kernel
theorem df6 : dbody S7f 6 false = some true := by decide +kernel
theorem df9 : dbody S7f 9 false = some true := by decide +kernel
theorem df12 : dbody S7f 12 false = some true := by decide +kernel
theorem df15 : dbody S7f 15 false = some true := by decide +kernel
theorem df18 : dbody S7f 18 false = some true := by decide +kernel
theorem df21 : dbody S7f 21 false = some true := by decide +kernel
theorem df24 : dbody S7f 24 false = some true := by decide +kernel
end Go.S
end
