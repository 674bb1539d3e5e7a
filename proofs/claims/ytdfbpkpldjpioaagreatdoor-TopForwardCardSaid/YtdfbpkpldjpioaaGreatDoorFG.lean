/- Part of the proofs of: What another branch has beyond one's own is taken as it is, and the second time there is nothing to do, for every number of commits. -/
import Derived.Test.YtdfbpkpldjpioaaGreatDoorFB
set_option linter.unusedVariables false
set_option linter.unusedSimpArgs false
set_option linter.unusedSectionVars false
section
namespace Go.S
open Go
theorem gd_tt {α : Type} {c d : Prop} [Decidable c] [Decidable d] (hc : c) (hd : d) (k : Option α) : gd c k = gd d k := by
  unfold gd
  rw [if_pos hc, if_pos hd]
theorem fwd_mod {n : Int} (h : 0 ≤ n) : Sh.rectotop_TopForward n = Sh.rectotop_TopForward (n % 6) := by
  have h2 : 0 ≤ n % 6 := Int.emod_nonneg _ (by decide)
  have e : n % 6 % 6 = n % 6 := by omega
  have g : ∀ {α : Type} (k : Option α), gd ((0 : Int) ≤ n ∧ (6 : Int) ≠ 0) k = gd ((0 : Int) ≤ n % 6 ∧ (6 : Int) ≠ 0) k := fun k => gd_tt ⟨h, by decide⟩ ⟨h2, by decide⟩ k
  unfold Sh.rectotop_TopForward
  rw [e]
  simp only [g]
theorem knownTop : Sh.rectotop_known = some true := by decide +kernel
theorem bd_known {α : Type} {f : Bool → Option α} {r : Option α} (h : f true = r) : (Sh.rectotop_known).bind f = r := by rw [knownTop, Option.bind_some, h]
end Go.S
end

section
namespace Go.S
open Go
theorem fwd0 : Sh.rectotop_TopForward 0 = some true := by
  unfold Sh.rectotop_TopForward
  exact bd_known (by decide +kernel)
theorem fwd1 : Sh.rectotop_TopForward 1 = some true := by
  unfold Sh.rectotop_TopForward
  exact bd_known (by decide +kernel)
theorem fwd2 : Sh.rectotop_TopForward 2 = some true := by
  unfold Sh.rectotop_TopForward
  exact bd_known (by decide +kernel)
set_option maxHeartbeats 100000000 in
theorem fwd3 : Sh.rectotop_TopForward 3 = some true := by
  unfold Sh.rectotop_TopForward
  exact bd_known (by decide +kernel)
set_option maxHeartbeats 100000000 in
theorem fwd4 : Sh.rectotop_TopForward 4 = some true := by
  unfold Sh.rectotop_TopForward
  exact bd_known (by decide +kernel)
set_option maxHeartbeats 100000000 in
theorem fwd5 : Sh.rectotop_TopForward 5 = some true := by
  unfold Sh.rectotop_TopForward
  exact bd_known (by decide +kernel)
theorem topForward_ok (n : Int) (hb : 0 ≤ n ∧ n ≤ 255) : Sh.rectotop_TopForward n = some true := by
  have h := hb.1
  have h1 : n % 6 < 6 := Int.emod_lt_of_pos _ (by decide)
  have h2 : 0 ≤ n % 6 := Int.emod_nonneg _ (by decide)
  rw [fwd_mod h]
  generalize n % 6 = k at *
  obtain rfl | rfl | rfl | rfl | rfl | rfl : k = 0 ∨ k = 1 ∨ k = 2 ∨ k = 3 ∨ k = 4 ∨ k = 5 := by omega
  · exact fwd0
  · exact fwd1
  · exact fwd2
  · exact fwd3
  · exact fwd4
  · exact fwd5
end Go.S
end
