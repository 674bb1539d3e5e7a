/- The steps that bring what one commit has, and another not, are those of the document and can be done, for any graph and any two commits. -/
import Derived.Test.YtnkoilkmnpmlmaaDoorCards
import Derived.Test.YtnkoilkmnpmlmaaDoorTie
import Derived.Test.YtnkoilkmnpmlmaaDoorTD
set_option linter.unusedVariables false
set_option linter.unusedSimpArgs false
set_option linter.unusedSectionVars false
section
set_option linter.unusedVariables false
namespace Go.Proofs.YtnkoilkmnpmlmaaDoor
open Go.ChangeShapes Go.WideShapes Go.ChangeAt Go.RowKit Go.V
open Go.S hiding Str
theorem Tryd.own : ownKnob Tryd.prog.godebug = none := by kernel_rfl
theorem Tryd.laidOut : laidOutB Tryd.prog = true := by kernel_rfl
set_option maxRecDepth 100000 in
theorem todoPlain_lifted (os : Os) (started : os.Started) (H : Type) (enc : TypeId × Value → H) :
    ReturnsInHanded {} Tryd.checked os 4 .any (fun w args => (Rows.todoPlainSpec.pre enc Tryd.prog Tryd.f4 Rows.todoPlainRow.domain false w args ∧ laidMetH Tryd.prog Rows.todoPlainRow.laid w) ∧ sizedMet enc Tryd.prog Tryd.f4 (OpenSpec.ofChange Rows.todoPlainSpec) false w args)
      (Rows.todoPlainSpec.post enc Tryd.prog Tryd.f4 false true false false) := by
  refine returnsInHanded_of_change_and (C := Tryd.checked) (X := fun w _ => laidMetH Tryd.prog Rows.todoPlainRow.laid w) (fun _ _ _ hh h => h.of_heap hh) Tryd.own started (by kernel_rfl) Tryd.func4
    (ChangeSpec.witness_shaped (enc := enc) (C := Tryd.checked) (os := os) (X := fun w _ => laidMetH Tryd.prog Rows.todoPlainRow.laid w) false (World.laidAll Tryd.prog os Rows.todoPlainRow.laid) #[.slice none 0 0, i64 0, i64 0] 8 (World.laidAll_os _ _ _)
      (World.shaped_of_ZipB (by kernel_rfl) (by kernel_rfl)) (by kernel_rfl) (by kernel_rfl) (by kernel_rfl)
      (by rw [MakeChecks.laidMetH_plain _ _ _ (by kernel_rfl)]; exact laidMet_laidAll _ (by kernel_rfl) (by kernel_rfl))) ?_
  intro W base args ds gs before hval0 hW hcnd _ hL _
  have hval : ∀ (j : Nat) t v, Tryd.f4.params[j]? = some t → args[j]? = some v → Value.okWide Tryd.prog W .any base t v := hval0
  have hW' := hW
  obtain ⟨p, q, hA0, hV, hpq, hfz, hnd⟩ := hW'
  have hA : DataW.TrodAll enc Tryd.prog W 0 (fun _ => true) true Tryd.f4.params.toList args.toList ds p := hA0
  rw [Tryd.params4] at hA hval
  obtain ⟨v0, vs0, d0, ds0, p0, q0, hargs, rfl, hp0, h0, r0⟩ := trodAll_cons hA
  obtain ⟨v1, vs1, d1, ds1, p1, q1, rfl, rfl, hp1, h1, r1⟩ := trodAll_cons r0
  obtain ⟨v2, vs2, d2, ds2, p2, q2, rfl, rfl, hp2, h2, r2⟩ := trodAll_cons r1
  obtain ⟨rfl, rfl, hq⟩ := trodAll_nil r2
  obtain rfl : args = #[v0, v1, v2] := by cases args; simp_all
  obtain ⟨x0, e0, m0⟩ := Opn.arg (Opn.sv (α := (Sv Int)) Tryd.underlying36 (by kernel_rfl) (by decide) (Opn.sv (α := Int) Tryd.underlying24 (by kernel_rfl) (by decide) (Opn.i64 Tryd.underlying3))) h0
  obtain rfl := okw_slice Tryd.underlying36 (hval 0 36 v0 rfl rfl) e0
  obtain ⟨x1, rfl, _, _, w1⟩ := open_int Tryd.underlying3 (hval 1 3 v1 rfl rfl) h1
  have b1 : -9223372036854775808 ≤ x1 ∧ x1 ≤ 9223372036854775807 := by simpa [Lit.wf, IntKind.min, IntKind.max, IntKind.signed, IntKind.bits] using w1
  obtain ⟨x2, rfl, _, _, w2⟩ := open_int Tryd.underlying3 (hval 2 3 v2 rfl rfl) h2
  have b2 : -9223372036854775808 ≤ x2 ∧ x2 ≤ 9223372036854775807 := by simpa [Lit.wf, IntKind.min, IntKind.max, IntKind.signed, IntKind.bits] using w2
  have gl0 := tab_laid (name := "internal/strconv.uint64pow10") (g := 0) (t := 230) (e := 181) (n := 20) (k := .u64) (zs := Lib.pow10Tab) (by kernel_rfl) (by kernel_rfl) Tryd.underlying230 Tryd.underlying181 (by kernel_rfl) (by kernel_rfl) (by kernel_rfl) hL
  refine (((rectolaw21_TodoPlain_ct x0 x1 x2 (todoPlain_ok (x0.l.map Sv.l) x1 x2 b1 b2)).law ⟨m0, gl0⟩)).mono fun e W' ⟨he, hg⟩ => ⟨_, he, ?_⟩
  exact law_post Tryd.laidOut (by kernel_rfl) (by kernel_rfl) Tryd.underlying4 rfl hW hg rfl
theorem todoPlain_holds : Rows.TodoPlainSaid :=
  OpenClaim.holds_of_wide 4 Tryd.f4 rfl rfl rfl rfl rfl rfl rfl ⟨rfl, rfl, rfl, rfl, rfl⟩ rfl rfl rfl rfl rfl (by kernel_rfl) Tryd.func4 (by kernel_rfl)
    (of_decide_eq_true (by kernel_rfl)) (by unfold Func.isWrapper; first | (rw [if_pos (by decide +kernel)]; kernel_rfl) | (rw [if_neg (by decide +kernel)]; exact ⟨rfl, rfl⟩))
    (fun os started H enc _ => todoPlain_lifted os started H enc)
theorem todoPlain_card : Rows.TodoPlainCardSaid :=
  Claim7.holds_tied_plain_at .later [] [.data, .data, .data, .data, .pinned] true (true, "4bfa0d423b711dbebc40fef164819ee4fca646f544401af0fd51c2ddbbc83f1a") false todoPlain_holds (fun _ h => by cases h) (by kernel_rfl) (fun _ h => by cases h) todoPlain_row_tie rfl ⟨rfl, rfl⟩ (by kernel_rfl) rfl
    (fun f fn hf hfn => by
      obtain rfl : f = 4 := Option.some.inj ((show Tryd.prog.funcNamed "recto/rectolaw21.TodoPlain" = some 4 by kernel_rfl).symm.trans hf) |>.symm
      obtain rfl : fn = Tryd.f4 := (Option.some.inj (Tryd.func4.symm.trans hfn)).symm
      exact ⟨by kernel_rfl, fun j t ht => by
        rw [Tryd.params4] at ht
        have hm : t ∈ [36, 3, 3] := by simpa using Array.mem_of_getElem? ht
        have hall : ([36, 3, 3].all fun u => !Tryd.prog.wantsStandIn u) = true := by kernel_rfl
        exact (show Tryd.prog.wantsStandIn t = false by simpa using List.all_eq_true.1 hall t hm)⟩)
    (by kernel_rfl)
end Go.Proofs.YtnkoilkmnpmlmaaDoor
end
