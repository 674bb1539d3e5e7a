/- Part of the proofs of: What another branch has beyond one's own is taken as it is, and the second time there is nothing to do, for every number of commits. -/
import Derived.Test.YtdfbpkpldjpioaaGreatDoorFHB
import Derived.Test.YtdfbpkpldjpioaaGreatDoorFHC
import Derived.Test.YtdfbpkpldjpioaaGreatDoorFHD
import Derived.Test.YtdfbpkpldjpioaaGreatDoorFHE
set_option linter.unusedVariables false
set_option linter.unusedSimpArgs false
set_option linter.unusedSectionVars false
section
namespace Go.S
open Go
theorem topDirty_ok (a : Int) (t : Bool) (hb : 0 ≤ a ∧ a ≤ 255) : Sh.rectotop_TopDirty a t = some true := by
  have h := hb.1
  have h1 : a % 26 < 26 := Int.emod_lt_of_pos _ (by decide)
  have h2 : 0 ≤ a % 26 := Int.emod_nonneg _ (by decide)
  rw [dirty_mod h]
  generalize a % 26 = k at *
  have hk : k = 0 ∨ k = 1 ∨ k = 2 ∨ k = 3 ∨ k = 4 ∨ k = 5 ∨ k = 6 ∨ k = 7 ∨ k = 8 ∨ k = 9 ∨ k = 10 ∨ k = 11 ∨ k = 12 ∨ k = 13 ∨ k = 14 ∨ k = 15 ∨ k = 16 ∨ k = 17 ∨ k = 18 ∨ k = 19 ∨ k = 20 ∨ k = 21 ∨ k = 22 ∨ k = 23 ∨ k = 24 ∨ k = 25 := by omega
  cases t with
  | true =>
    rw [dirty_t]
    rcases hk with rfl | rfl | rfl | rfl | rfl | rfl | rfl | rfl | rfl | rfl | rfl | rfl | rfl | rfl | rfl | rfl | rfl | rfl | rfl | rfl | rfl | rfl | rfl | rfl | rfl | rfl
    · exact dt0
    · exact dt1
    · exact dt2
    · exact dt3
    · exact dt4
    · exact dt5
    · exact dt6
    · exact dt7
    · exact dt8
    · exact dt9
    · exact dt10
    · exact dt11
    · exact dt12
    · exact dt13
    · exact dt14
    · exact dt15
    · exact dt16
    · exact dt17
    · exact dt18
    · exact dt19
    · exact dt20
    · exact dt21
    · exact dt22
    · exact dt23
    · exact dt24
    · exact dt25
  | false =>
    rw [dirty_f]
    rcases hk with rfl | rfl | rfl | rfl | rfl | rfl | rfl | rfl | rfl | rfl | rfl | rfl | rfl | rfl | rfl | rfl | rfl | rfl | rfl | rfl | rfl | rfl | rfl | rfl | rfl | rfl
    · exact df0
    · exact df1
    · exact df2
    · exact df3
    · exact df4
    · exact df5
    · exact df6
    · exact df7
    · exact df8
    · exact df9
    · exact df10
    · exact df11
    · exact df12
    · exact df13
    · exact df14
    · exact df15
    · exact df16
    · exact df17
    · exact df18
    · exact df19
    · exact df20
    · exact df21
    · exact df22
    · exact df23
    · exact df24
    · exact df25
end Go.S
end
