/- Part of the proofs of: What another branch has beyond one's own is taken as it is, and the second time there is nothing to do, for every number of commits. -/
import Derived.Test.YtdfbpkpldjpioaaGreatDoorFHA
set_option linter.unusedVariables false
set_option linter.unusedSimpArgs false
set_option linter.unusedSectionVars false
section
namespace Go.S
open Go
theorem dt1 : dbody S7t 1 true = some true := by decide +kernel
theorem dt4 : dbody S7t 4 true = some true := by decide +kernel
theorem dt7 : dbody S7t 7 true = some true := by decide +kernel
theorem dt10 : dbody S7t 10 true = some true := by decide +kernel
theorem dt13 : dbody S7t 13 true = some true := by decide +kernel
theorem dt16 : dbody S7t 16 true = some true := by decide +kernel
theorem dt19 : dbody S7t 19 true = some true := by decide +kernel
theorem dt22 : dbody S7t 22 true = some true := by decide +kernel
theorem dt25 : dbody S7t 25 true = some true := by decide +kernel
theorem df2 : dbody S7f 2 false = some true := by decide +kernel
theorem df5 : dbody S7f 5 false = some true := by decide +kernel
theorem df8 : dbody S7f 8 false = some true := by decide +kernel
theorem df11 : dbody S7f 11 false = some true := by decide +kernel
theorem df14 : dbody S7f 14 false = some true := by decide +kernel
theorem df17 : dbody S7f 17 false = some true := by decide +kernel
theorem df20 : dbody S7f 20 false = some true := by decide +kernel
theorem df23 : dbody S7f 23 false = some true := by decide +kernel
end Go.S
end
