/- Part of the proofs of: What another branch has beyond one's own is taken as it is, and the second time there is nothing to do, for every number of commits. -/
import Derived.Test.YtdfbpkpldjpioaaGreatDoorFHA
set_option linter.unusedVariables false
set_option linter.unusedSimpArgs false
set_option linter.unusedSectionVars false
section
namespace Go.S
open Go
theorem gd_tt {α : Type} {c d : Prop} [Decidable c] [Decidable d] (hc : c) (hd : d) (k : Option α) : gd c k = gd d k := by
  unfold gd
  rw [if_pos hc, if_pos hd]
theorem word_mod {a : Int} (h : 0 ≤ a) : Sh.rectotop_word a = Sh.rectotop_word (a % 26) := by
  have h2 : 0 ≤ a % 26 := Int.emod_nonneg _ (by decide)
  have e : a % 26 % 26 = a % 26 := by omega
  have g : ∀ {α : Type} (k : Option α), gd ((0 : Int) ≤ a ∧ (26 : Int) ≠ 0) k = gd ((0 : Int) ≤ a % 26 ∧ (26 : Int) ≠ 0) k := fun k => gd_tt ⟨h, by decide⟩ ⟨h2, by decide⟩ k
  unfold Sh.rectotop_word
  rw [e]
  simp only [g]
theorem dirty_mod {a : Int} (h : 0 ≤ a) (t : Bool) : Sh.rectotop_TopDirty a t = Sh.rectotop_TopDirty (a % 26) t := by
  unfold Sh.rectotop_TopDirty
  rw [word_mod h]
theorem knownTop : Sh.rectotop_known = some true := by decide +kernel
theorem e1 : Sh.state_New = some S1 := by decide +kernel
theorem e2 : Sh.rectotop_saved S1 [102] [48] [98, 97, 115, 101] = some S2 := by decide +kernel
theorem e3 : Sh.rectotop_saved S2 [103] [48] [98, 97, 115, 101] = some S3 := by decide +kernel
theorem e4 : Sh.rectotop_say S3 [98, 114, 97, 110, 99, 104, 32, 100, 101, 118] = some (S4, Err.nil) := by decide +kernel
theorem e5 : Sh.rectotop_say S4 [115, 119, 105, 116, 99, 104, 32, 100, 101, 118] = some (S5, Err.nil) := by decide +kernel
theorem e6t : Sh.rectotop_saved S5 [102] [49] [100, 101, 118] = some S6t := by decide +kernel
theorem e7t : Sh.rectotop_say S6t [115, 119, 105, 116, 99, 104, 32, 109, 97, 105, 110] = some (S7t, Err.nil) := by decide +kernel
theorem e6f : Sh.rectotop_saved S5 [103] [49] [100, 101, 118] = some S6f := by decide +kernel
theorem e7f : Sh.rectotop_say S6f [115, 119, 105, 116, 99, 104, 32, 109, 97, 105, 110] = some (S7f, Err.nil) := by decide +kernel
theorem dirty_t (a : Int) : Sh.rectotop_TopDirty a true = dbody S7t a true := by
  unfold Sh.rectotop_TopDirty
  rw [knownTop, Option.bind_some, if_neg (by simp), e1, Option.bind_some, e2, Option.bind_some, e3, Option.bind_some, e4, Option.bind_some]
  dsimp only
  rw [e5, Option.bind_some]
  dsimp only [jn]
  rw [if_pos rfl, e6t, Option.bind_some, e7t, Option.bind_some]
  rfl
theorem dirty_f (a : Int) : Sh.rectotop_TopDirty a false = dbody S7f a false := by
  unfold Sh.rectotop_TopDirty
  rw [knownTop, Option.bind_some, if_neg (by simp), e1, Option.bind_some, e2, Option.bind_some, e3, Option.bind_some, e4, Option.bind_some]
  dsimp only
  rw [e5, Option.bind_some]
  dsimp only [jn]
  rw [if_neg (by simp), e6f, Option.bind_some, e7f, Option.bind_some]
  rfl
end Go.S
end
