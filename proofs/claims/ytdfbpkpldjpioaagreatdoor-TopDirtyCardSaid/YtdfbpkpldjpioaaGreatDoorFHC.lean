/- Part of the proofs of: What another branch has beyond one's own is taken as it is, and the second time there is nothing to do, for every number of commits. -/
import Derived.Test.YtdfbpkpldjpioaaGreatDoorFHA
set_option linter.unusedVariables false
set_option linter.unusedSimpArgs false
set_option linter.unusedSectionVars false
section
namespace Go.S
open Go
theorem dt0 : dbody S7t 0 true = some true := by decide +kernel
theorem dt3 : dbody S7t 3 true = some true := by decide +kernel
theorem dt6 : dbody S7t 6 true = some true := by decide +kernel
theorem dt9 : dbody S7t 9 true = some true := by decide +kernel
theorem dt12 : dbody S7t 12 true = some true := by decide +kernel
theorem dt15 : dbody S7t 15 true = some true := by decide +kernel
theorem dt18 : dbody S7t 18 true = some true := by decide +kernel
theorem dt21 : dbody S7t 21 true = some true := by decide +kernel
theorem dt24 : dbody S7t 24 true = some true := by decide +kernel
theorem df1 : dbody S7f 1 false = some true := by decide +kernel
theorem df4 : dbody S7f 4 false = some true := by decide +kernel
theorem df7 : dbody S7f 7 false = some true := by decide +kernel
theorem df10 : dbody S7f 10 false = some true := by decide +kernel
theorem df13 : dbody S7f 13 false = some true := by decide +kernel
theorem df16 : dbody S7f 16 false = some true := by decide +kernel
theorem df19 : dbody S7f 19 false = some true := by decide +kernel
theorem df22 : dbody S7f 22 false = some true := by decide +kernel
theorem df25 : dbody S7f 25 false = some true := by decide +kernel
end Go.S
end
