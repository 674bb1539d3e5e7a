/- Whatever texts a base and two heirs are, the merge keeps one side's edits, its parts, its marks and its turning: MergeSides, MergeParts, MergeMarked and MergeTurned answer true at every input. No condition. -/
import Derived.Test.YtmkncbldffncpaaE
set_option linter.unusedVariables false
set_option linter.unusedSimpArgs false
set_option linter.unusedSectionVars false
section
set_option linter.unusedVariables false
namespace Go.Proofs.Ytmkncbldffncpaa
open Go.ChangeShapes Go.WideShapes Go.ChangeAt Go.RowKit Go.V
open Go.S hiding Str
theorem Try.own : ownKnob Try.prog.godebug = none := by kernel_rfl
theorem Try.laidOut : laidOutB Try.prog = true := by kernel_rfl
set_option maxRecDepth 100000 in
theorem mergeSides_lifted (os : Os) (started : os.Started) (H : Type) (enc : TypeId × Value → H) :
    ReturnsInHanded {} Try.checked os 3 .any (Rows.mergeSidesSpec.pre6 enc Try.prog Try.f3 Rows.mergeSidesRow.domain false) (Rows.mergeSidesSpec.post enc Try.prog Try.f3 false true false false) := by
  refine returnsInHanded_of_change (C := Try.checked) Try.own started (by kernel_rfl) Try.func3
    (ChangeSpec.witness6 (enc := enc) (C := Try.checked) false ⟨#[], #[.string ⟨#[]⟩, .string ⟨#[]⟩], []⟩ 8 (by kernel_rfl) (by kernel_rfl) (by kernel_rfl) (by kernel_rfl)) ?_
  intro W base args ds gs before hval0 hW hcnd _
  have hval : ∀ (j : Nat) t v, Try.f3.params[j]? = some t → args[j]? = some v → Value.okWide Try.prog W .any base t v := hval0
  have hW' := hW
  obtain ⟨p, q, hA0, hV, hpq, hfz, hnd⟩ := hW'
  have hA : DataW.TrodAll enc Try.prog W 0 (fun _ => true) true Try.f3.params.toList args.toList ds p := hA0
  rw [Try.params3] at hA hval
  obtain ⟨v0, vs0, d0, ds0, p0, q0, hargs, rfl, hp0, h0, r0⟩ := trodAll_cons hA
  obtain ⟨v1, vs1, d1, ds1, p1, q1, rfl, rfl, hp1, h1, r1⟩ := trodAll_cons r0
  obtain ⟨rfl, rfl, hq⟩ := trodAll_nil r1
  obtain rfl : args = #[v0, v1] := by cases args; simp_all
  obtain ⟨x0, rfl⟩ := op_str Try.underlying9 (hval 0 9 v0 rfl rfl)
  obtain ⟨x1, rfl⟩ := op_str Try.underlying9 (hval 1 9 v1 rfl rfl)
  refine (((rectolaw13_MergeSides_ct x0 x1 (sides x0 x1)).law trivial)).mono fun e W' ⟨he, hg⟩ => ⟨_, he, ?_⟩
  exact law_post Try.laidOut (by kernel_rfl) (by kernel_rfl) Try.underlying4 rfl hW hg rfl
theorem mergeSides_holds : Rows.MergeSidesSaid :=
  OpenClaim.holds_of_wide 3 Try.f3 rfl rfl rfl rfl rfl rfl rfl ⟨rfl, rfl, rfl, rfl, rfl⟩ rfl rfl rfl rfl rfl (by kernel_rfl) Try.func3 (by kernel_rfl)
    (of_decide_eq_true (by kernel_rfl)) (by unfold Func.isWrapper; first | (rw [if_pos (by decide +kernel)]; kernel_rfl) | (rw [if_neg (by decide +kernel)]; exact ⟨rfl, rfl⟩))
    (fun os started H enc _ => mergeSides_lifted os started H enc)
set_option maxRecDepth 100000 in
theorem mergeParts_lifted (os : Os) (started : os.Started) (H : Type) (enc : TypeId × Value → H) :
    ReturnsInHanded {} Try.checked os 4 .any (Rows.mergePartsSpec.pre6 enc Try.prog Try.f4 Rows.mergePartsRow.domain false) (Rows.mergePartsSpec.post enc Try.prog Try.f4 false true false false) := by
  refine returnsInHanded_of_change (C := Try.checked) Try.own started (by kernel_rfl) Try.func4
    (ChangeSpec.witness6 (enc := enc) (C := Try.checked) false ⟨#[], #[.slice none 0 0, .slice none 0 0, .slice none 0 0], []⟩ 8 (by kernel_rfl) (by kernel_rfl) (by kernel_rfl) (by kernel_rfl)) ?_
  intro W base args ds gs before hval0 hW hcnd _
  have hval : ∀ (j : Nat) t v, Try.f4.params[j]? = some t → args[j]? = some v → Value.okWide Try.prog W .any base t v := hval0
  have hW' := hW
  obtain ⟨p, q, hA0, hV, hpq, hfz, hnd⟩ := hW'
  have hA : DataW.TrodAll enc Try.prog W 0 (fun _ => true) true Try.f4.params.toList args.toList ds p := hA0
  rw [Try.params4] at hA hval
  obtain ⟨v0, vs0, d0, ds0, p0, q0, hargs, rfl, hp0, h0, r0⟩ := trodAll_cons hA
  obtain ⟨v1, vs1, d1, ds1, p1, q1, rfl, rfl, hp1, h1, r1⟩ := trodAll_cons r0
  obtain ⟨v2, vs2, d2, ds2, p2, q2, rfl, rfl, hp2, h2, r2⟩ := trodAll_cons r1
  obtain ⟨rfl, rfl, hq⟩ := trodAll_nil r2
  obtain rfl : args = #[v0, v1, v2] := by cases args; simp_all
  obtain ⟨x0, rfl, m0⟩ := op_strs Try.underlying28 Try.underlying9 (by kernel_rfl) (hval 0 28 v0 rfl rfl) h0
  obtain ⟨x1, rfl, m1⟩ := op_strs Try.underlying28 Try.underlying9 (by kernel_rfl) (hval 1 28 v1 rfl rfl) h1
  obtain ⟨x2, rfl, m2⟩ := op_strs Try.underlying28 Try.underlying9 (by kernel_rfl) (hval 2 28 v2 rfl rfl) h2
  refine (((rectolaw13_MergeParts_ct x0 x1 x2 (parts x0.l x1.l x2.l)).law ⟨m0, m1, m2⟩)).mono fun e W' ⟨he, hg⟩ => ⟨_, he, ?_⟩
  exact law_post Try.laidOut (by kernel_rfl) (by kernel_rfl) Try.underlying4 rfl hW hg rfl
theorem mergeParts_holds : Rows.MergePartsSaid :=
  OpenClaim.holds_of_wide 4 Try.f4 rfl rfl rfl rfl rfl rfl rfl ⟨rfl, rfl, rfl, rfl, rfl⟩ rfl rfl rfl rfl rfl (by kernel_rfl) Try.func4 (by kernel_rfl)
    (of_decide_eq_true (by kernel_rfl)) (by unfold Func.isWrapper; first | (rw [if_pos (by decide +kernel)]; kernel_rfl) | (rw [if_neg (by decide +kernel)]; exact ⟨rfl, rfl⟩))
    (fun os started H enc _ => mergeParts_lifted os started H enc)
set_option maxRecDepth 100000 in
theorem mergeMarked_lifted (os : Os) (started : os.Started) (H : Type) (enc : TypeId × Value → H) :
    ReturnsInHanded {} Try.checked os 5 .any (Rows.mergeMarkedSpec.pre6 enc Try.prog Try.f5 Rows.mergeMarkedRow.domain false) (Rows.mergeMarkedSpec.post enc Try.prog Try.f5 false true false false) := by
  refine returnsInHanded_of_change (C := Try.checked) Try.own started (by kernel_rfl) Try.func5
    (ChangeSpec.witness6 (enc := enc) (C := Try.checked) false ⟨#[], #[.string ⟨#[]⟩], []⟩ 8 (by kernel_rfl) (by kernel_rfl) (by kernel_rfl) (by kernel_rfl)) ?_
  intro W base args ds gs before hval0 hW hcnd _
  have hval : ∀ (j : Nat) t v, Try.f5.params[j]? = some t → args[j]? = some v → Value.okWide Try.prog W .any base t v := hval0
  have hW' := hW
  obtain ⟨p, q, hA0, hV, hpq, hfz, hnd⟩ := hW'
  have hA : DataW.TrodAll enc Try.prog W 0 (fun _ => true) true Try.f5.params.toList args.toList ds p := hA0
  rw [Try.params5] at hA hval
  obtain ⟨v0, vs0, d0, ds0, p0, q0, hargs, rfl, hp0, h0, r0⟩ := trodAll_cons hA
  obtain ⟨rfl, rfl, hq⟩ := trodAll_nil r0
  obtain rfl : args = #[v0] := by cases args; simp_all
  obtain ⟨x0, rfl⟩ := op_str Try.underlying9 (hval 0 9 v0 rfl rfl)
  refine (((rectolaw13_MergeMarked_ct x0 (marked x0)).law trivial)).mono fun e W' ⟨he, hg⟩ => ⟨_, he, ?_⟩
  exact law_post Try.laidOut (by kernel_rfl) (by kernel_rfl) Try.underlying4 rfl hW hg rfl
theorem mergeMarked_holds : Rows.MergeMarkedSaid :=
  OpenClaim.holds_of_wide 5 Try.f5 rfl rfl rfl rfl rfl rfl rfl ⟨rfl, rfl, rfl, rfl, rfl⟩ rfl rfl rfl rfl rfl (by kernel_rfl) Try.func5 (by kernel_rfl)
    (of_decide_eq_true (by kernel_rfl)) (by unfold Func.isWrapper; first | (rw [if_pos (by decide +kernel)]; kernel_rfl) | (rw [if_neg (by decide +kernel)]; exact ⟨rfl, rfl⟩))
    (fun os started H enc _ => mergeMarked_lifted os started H enc)
set_option maxRecDepth 100000 in
theorem mergeTurned_lifted (os : Os) (started : os.Started) (H : Type) (enc : TypeId × Value → H) :
    ReturnsInHanded {} Try.checked os 6 .any (Rows.mergeTurnedSpec.pre6 enc Try.prog Try.f6 Rows.mergeTurnedRow.domain false) (Rows.mergeTurnedSpec.post enc Try.prog Try.f6 false true false false) := by
  refine returnsInHanded_of_change (C := Try.checked) Try.own started (by kernel_rfl) Try.func6
    (ChangeSpec.witness6 (enc := enc) (C := Try.checked) false ⟨#[], #[.slice none 0 0, .slice none 0 0, .slice none 0 0], []⟩ 8 (by kernel_rfl) (by kernel_rfl) (by kernel_rfl) (by kernel_rfl)) ?_
  intro W base args ds gs before hval0 hW hcnd _
  have hval : ∀ (j : Nat) t v, Try.f6.params[j]? = some t → args[j]? = some v → Value.okWide Try.prog W .any base t v := hval0
  have hW' := hW
  obtain ⟨p, q, hA0, hV, hpq, hfz, hnd⟩ := hW'
  have hA : DataW.TrodAll enc Try.prog W 0 (fun _ => true) true Try.f6.params.toList args.toList ds p := hA0
  rw [Try.params6] at hA hval
  obtain ⟨v0, vs0, d0, ds0, p0, q0, hargs, rfl, hp0, h0, r0⟩ := trodAll_cons hA
  obtain ⟨v1, vs1, d1, ds1, p1, q1, rfl, rfl, hp1, h1, r1⟩ := trodAll_cons r0
  obtain ⟨v2, vs2, d2, ds2, p2, q2, rfl, rfl, hp2, h2, r2⟩ := trodAll_cons r1
  obtain ⟨rfl, rfl, hq⟩ := trodAll_nil r2
  obtain rfl : args = #[v0, v1, v2] := by cases args; simp_all
  obtain ⟨x0, rfl, m0⟩ := op_strs Try.underlying28 Try.underlying9 (by kernel_rfl) (hval 0 28 v0 rfl rfl) h0
  obtain ⟨x1, rfl, m1⟩ := op_strs Try.underlying28 Try.underlying9 (by kernel_rfl) (hval 1 28 v1 rfl rfl) h1
  obtain ⟨x2, rfl, m2⟩ := op_strs Try.underlying28 Try.underlying9 (by kernel_rfl) (hval 2 28 v2 rfl rfl) h2
  refine (((rectolaw13_MergeTurned_ct x0 x1 x2 (turned x0.l x1.l x2.l)).law ⟨m0, m1, m2⟩)).mono fun e W' ⟨he, hg⟩ => ⟨_, he, ?_⟩
  exact law_post Try.laidOut (by kernel_rfl) (by kernel_rfl) Try.underlying4 rfl hW hg rfl
theorem mergeTurned_holds : Rows.MergeTurnedSaid :=
  OpenClaim.holds_of_wide 6 Try.f6 rfl rfl rfl rfl rfl rfl rfl ⟨rfl, rfl, rfl, rfl, rfl⟩ rfl rfl rfl rfl rfl (by kernel_rfl) Try.func6 (by kernel_rfl)
    (of_decide_eq_true (by kernel_rfl)) (by unfold Func.isWrapper; first | (rw [if_pos (by decide +kernel)]; kernel_rfl) | (rw [if_neg (by decide +kernel)]; exact ⟨rfl, rfl⟩))
    (fun os started H enc _ => mergeTurned_lifted os started H enc)
end Go.Proofs.Ytmkncbldffncpaa
end
