/- A switch that would lose what was changed is refused, and one that does not touch it takes it along, for every word. -/
import Derived.Test.YtdfbpkpldjpioaaGreatDoorCards
import Derived.Test.YtdfbpkpldjpioaaGreatDoorTie
import Derived.Test.YtdfbpkpldjpioaaGreatDoorFW
set_option linter.unusedVariables false
set_option linter.unusedSimpArgs false
set_option linter.unusedSectionVars false
section
set_option linter.unusedVariables false
namespace Go.Proofs.YtdfbpkpldjpioaaGreatDoor
open Go.ChangeShapes Go.WideShapes Go.ChangeAt Go.RowKit Go.V
open Go.S hiding Str
theorem topDirty_holds_of (hc : joinedFacts Tryz.prog 4 Tryz.f4 Rows.topDirtySpec Rows.topDirtyRow = true) (hl : ∀ (os : Os) (started : os.Started) (H : Type) (enc : TypeId × Value → H), ReturnsInHanded {} Tryz.checked os 4 .any (fun w args => (Rows.topDirtySpec.pre enc Tryz.prog Tryz.f4 Rows.topDirtyRow.domain false w args ∧ laidMetH Tryz.prog Rows.topDirtyRow.laid w) ∧ sizedMet enc Tryz.prog Tryz.f4 (OpenSpec.ofChange Rows.topDirtySpec) false w args)
      (Rows.topDirtySpec.post enc Tryz.prog Tryz.f4 false true false false)) : Rows.TopDirtySaid :=
  OpenClaim.holds_of_wide 4 Tryz.f4 rfl rfl rfl rfl rfl rfl rfl ⟨rfl, rfl, rfl, rfl, rfl⟩ rfl rfl rfl rfl rfl (by kernel_rfl) Tryz.func4 hc
    (of_decide_eq_true (by as_aux_lemma => kernel_rfl)) (by unfold Func.isWrapper; first | (rw [if_pos (by decide +kernel)]; kernel_rfl) | (rw [if_neg (by decide +kernel)]; exact ⟨rfl, rfl⟩))
    (fun os started H enc _ => hl os started H enc)
theorem topDirty_card_of (hh : Rows.TopDirtySaid) : Rows.TopDirtyCardSaid :=
  Claim7.holds_tied_plain_at .later [] [.data, .data, .data, .data, .handle, .pinned] true (true, "12ebf8fd874e23c3b14edcba95178735bbd9e5685857bf4fcd642cf3714e0a44") true hh (fun _ h => by cases h) (by as_aux_lemma => kernel_rfl) (fun _ h => by cases h) topDirty_row_tie rfl ⟨rfl, rfl⟩ (by as_aux_lemma => kernel_rfl) rfl
    (fun f fn hf hfn => by
      obtain rfl : f = 4 := Option.some.inj ((show Tryz.prog.funcNamed "recto/rectotop.TopDirty" = some 4 by as_aux_lemma => kernel_rfl).symm.trans hf) |>.symm
      obtain rfl : fn = Tryz.f4 := (Option.some.inj (Tryz.func4.symm.trans hfn)).symm
      exact ⟨by as_aux_lemma => kernel_rfl, fun j t ht => by
        rw [Tryz.params4] at ht
        have hm : t ∈ [5, 4] := by simpa using Array.mem_of_getElem? ht
        have hall : ([5, 4].all fun u => !Tryz.prog.wantsStandIn u) = true := by as_aux_lemma => kernel_rfl
        exact (show Tryz.prog.wantsStandIn t = false by simpa using List.all_eq_true.1 hall t hm)⟩)
    (by as_aux_lemma => kernel_rfl)
end Go.Proofs.YtdfbpkpldjpioaaGreatDoor
end
