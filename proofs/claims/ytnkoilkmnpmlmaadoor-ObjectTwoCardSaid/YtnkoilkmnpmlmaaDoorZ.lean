/- Two objects are the same just if all that their kind names is, for any two objects. -/
import Derived.Test.YtnkoilkmnpmlmaaDoorCards
import Derived.Test.YtnkoilkmnpmlmaaDoorTie
import Derived.Test.YtnkoilkmnpmlmaaDoorD
set_option linter.unusedVariables false
set_option linter.unusedSimpArgs false
set_option linter.unusedSectionVars false
section
set_option linter.unusedVariables false
namespace Go.Proofs.YtnkoilkmnpmlmaaDoor
open Go.ChangeShapes Go.WideShapes Go.ChangeAt Go.RowKit Go.V
open Go.S hiding Str
theorem Tryd.own : ownKnob Tryd.prog.godebug = none := by kernel_rfl
theorem Tryd.laidOut : laidOutB Tryd.prog = true := by kernel_rfl
set_option maxRecDepth 100000 in
theorem opn82 : Opn Tryd.prog 82 ObjectItem := fun {H enc W b0 sp hd fuel cs x} h => by
  obtain ⟨hl, hf⟩ := trod_fields Tryd.underlying82 h
  rw [show Tryd.prog.cellsOf 82 = 3 by kernel_rfl] at hl
  match cs, hl with
  | [c0, c1, c2], _ =>
    obtain ⟨x0, e0, m0⟩ := Opn.fld (off := 0) (k := 1) (cs' := [c0]) (Opn.str Tryd.underlying9) (by kernel_rfl) (hf 0 _ rfl) rfl
    obtain rfl : c0 = str x0 := List.head_eq_of_cons_eq e0
    obtain ⟨x1, e1, m1⟩ := Opn.fld (off := 1) (k := 1) (cs' := [c1]) (Opn.i64 Tryd.underlying3) (by kernel_rfl) (hf 1 _ rfl) rfl
    obtain rfl : c1 = i64 x1 := List.head_eq_of_cons_eq e1
    obtain ⟨x2, e2, m2⟩ := Opn.fld (off := 2) (k := 1) (cs' := [c2]) (Opn.i64 Tryd.underlying3) (by kernel_rfl) (hf 2 _ rfl) rfl
    obtain rfl : c2 = i64 x2 := List.head_eq_of_cons_eq e2
    exact ⟨⟨x0, x1, x2⟩, rfl, trivial⟩
set_option maxRecDepth 100000 in
theorem opn26 : Opn Tryd.prog 26 ObjectObject := fun {H enc W b0 sp hd fuel cs x} h => by
  obtain ⟨hl, hf⟩ := trod_fields Tryd.underlying26 h
  rw [show Tryd.prog.cellsOf 26 = 7 by kernel_rfl] at hl
  match cs, hl with
  | [c0, c1, c2, c3, c4, c5, c6], _ =>
    obtain ⟨x0, e0, m0⟩ := Opn.fld (off := 0) (k := 1) (cs' := [c0]) (Opn.i64 Tryd.underlying3) (by kernel_rfl) (hf 0 _ rfl) rfl
    obtain rfl : c0 = i64 x0 := List.head_eq_of_cons_eq e0
    obtain ⟨x1, e1, m1⟩ := Opn.fld (off := 1) (k := 1) (cs' := [c1]) (Opn.sv (α := UInt8) Tryd.underlying22 (by kernel_rfl) (by decide) (Opn.u8 Tryd.underlying5)) (by kernel_rfl) (hf 1 _ rfl) rfl
    obtain rfl : c1 = x1.val := List.head_eq_of_cons_eq e1
    obtain ⟨x2, e2, m2⟩ := Opn.fld (off := 2) (k := 1) (cs' := [c2]) (Opn.sv (α := ObjectItem) Tryd.underlying23 (by kernel_rfl) (by decide) opn82) (by kernel_rfl) (hf 2 _ rfl) rfl
    obtain rfl : c2 = x2.val := List.head_eq_of_cons_eq e2
    obtain ⟨x3, e3, m3⟩ := Opn.fld (off := 3) (k := 1) (cs' := [c3]) (Opn.i64 Tryd.underlying3) (by kernel_rfl) (hf 3 _ rfl) rfl
    obtain rfl : c3 = i64 x3 := List.head_eq_of_cons_eq e3
    obtain ⟨x4, e4, m4⟩ := Opn.fld (off := 4) (k := 1) (cs' := [c4]) (Opn.sv (α := Int) Tryd.underlying24 (by kernel_rfl) (by decide) (Opn.i64 Tryd.underlying3)) (by kernel_rfl) (hf 4 _ rfl) rfl
    obtain rfl : c4 = x4.val := List.head_eq_of_cons_eq e4
    obtain ⟨x5, e5, m5⟩ := Opn.fld (off := 5) (k := 1) (cs' := [c5]) (Opn.i64 Tryd.underlying3) (by kernel_rfl) (hf 5 _ rfl) rfl
    obtain rfl : c5 = i64 x5 := List.head_eq_of_cons_eq e5
    obtain ⟨x6, e6, m6⟩ := Opn.fld (off := 6) (k := 1) (cs' := [c6]) (Opn.str Tryd.underlying9) (by kernel_rfl) (hf 6 _ rfl) rfl
    obtain rfl : c6 = str x6 := List.head_eq_of_cons_eq e6
    exact ⟨⟨x0, x1, x2, x3, x4, x5, x6⟩, rfl, ⟨m1, m2, m4⟩⟩
set_option maxRecDepth 100000 in
theorem objectTwo_lifted (os : Os) (started : os.Started) (H : Type) (enc : TypeId × Value → H) :
    ReturnsInHanded {} Tryd.checked os 3 .any (fun w args => (Rows.objectTwoSpec.pre enc Tryd.prog Tryd.f3 Rows.objectTwoRow.domain false w args ∧ laidMetH Tryd.prog Rows.objectTwoRow.laid w) ∧ sizedMet enc Tryd.prog Tryd.f3 (OpenSpec.ofChange Rows.objectTwoSpec) false w args)
      (Rows.objectTwoSpec.post enc Tryd.prog Tryd.f3 false true false false) := by
  refine returnsInHanded_of_change_and (C := Tryd.checked) (X := fun w _ => laidMetH Tryd.prog Rows.objectTwoRow.laid w) (fun _ _ _ hh h => h.of_heap hh) Tryd.own started (by kernel_rfl) Tryd.func3
    (ChangeSpec.witness_shaped (enc := enc) (C := Tryd.checked) (os := os) (X := fun w _ => laidMetH Tryd.prog Rows.objectTwoRow.laid w) false (World.laidAll Tryd.prog os Rows.objectTwoRow.laid) #[.agg #[i64 0, .slice none 0 0, .slice none 0 0, i64 0, .slice none 0 0, i64 0, str []], .agg #[i64 0, .slice none 0 0, .slice none 0 0, i64 0, .slice none 0 0, i64 0, str []]] 8 (World.laidAll_os _ _ _)
      (World.shaped_of_ZipB (by kernel_rfl) (by kernel_rfl)) (by kernel_rfl) (by kernel_rfl) (by kernel_rfl)
      (by rw [MakeChecks.laidMetH_plain _ _ _ (by kernel_rfl)]; exact laidMet_laidAll _ (by kernel_rfl) (by kernel_rfl))) ?_
  intro W base args ds gs before hval0 hW hcnd _ hL _
  have hval : ∀ (j : Nat) t v, Tryd.f3.params[j]? = some t → args[j]? = some v → Value.okWide Tryd.prog W .any base t v := hval0
  have hW' := hW
  obtain ⟨p, q, hA0, hV, hpq, hfz, hnd⟩ := hW'
  have hA : DataW.TrodAll enc Tryd.prog W 0 (fun _ => true) true Tryd.f3.params.toList args.toList ds p := hA0
  rw [Tryd.params3] at hA hval
  obtain ⟨v0, vs0, d0, ds0, p0, q0, hargs, rfl, hp0, h0, r0⟩ := trodAll_cons hA
  obtain ⟨v1, vs1, d1, ds1, p1, q1, rfl, rfl, hp1, h1, r1⟩ := trodAll_cons r0
  obtain ⟨rfl, rfl, hq⟩ := trodAll_nil r1
  obtain rfl : args = #[v0, v1] := by cases args; simp_all
  obtain ⟨x0, e0, m0⟩ := opn26.arg h0
  obtain ⟨c0, hc0⟩ := okw_struct Tryd.underlying26 (hval 0 26 v0 rfl rfl)
  obtain rfl := cells_agg hc0 e0
  obtain ⟨x1, e1, m1⟩ := opn26.arg h1
  obtain ⟨c1, hc1⟩ := okw_struct Tryd.underlying26 (hval 1 26 v1 rfl rfl)
  obtain rfl := cells_agg hc1 e1
  refine (((rectolaw7_ObjectTwo_ct x0 x1 (objectTwo_ok x0.pl x1.pl)).law ⟨m0.1, m0.2.1, m0.2.2, m1.1, m1.2.1, m1.2.2⟩)).mono fun e W' ⟨he, hg⟩ => ⟨_, he, ?_⟩
  exact law_post Tryd.laidOut (by kernel_rfl) (by kernel_rfl) Tryd.underlying4 rfl hW hg rfl
theorem objectTwo_holds : Rows.ObjectTwoSaid :=
  OpenClaim.holds_of_wide 3 Tryd.f3 rfl rfl rfl rfl rfl rfl rfl ⟨rfl, rfl, rfl, rfl, rfl⟩ rfl rfl rfl rfl rfl (by kernel_rfl) Tryd.func3 (by kernel_rfl)
    (of_decide_eq_true (by kernel_rfl)) (by unfold Func.isWrapper; first | (rw [if_pos (by decide +kernel)]; kernel_rfl) | (rw [if_neg (by decide +kernel)]; exact ⟨rfl, rfl⟩))
    (fun os started H enc _ => objectTwo_lifted os started H enc)
theorem objectTwo_card : Rows.ObjectTwoCardSaid :=
  Claim7.holds_tied_plain_at .later [] [.data, .pinned] true (true, "4bfa0d423b711dbebc40fef164819ee4fca646f544401af0fd51c2ddbbc83f1a") false objectTwo_holds (fun _ h => by cases h) (by kernel_rfl) (fun _ h => by cases h) objectTwo_row_tie rfl ⟨rfl, rfl⟩ (by kernel_rfl) rfl
    (fun f fn hf hfn => by
      obtain rfl : f = 3 := Option.some.inj ((show Tryd.prog.funcNamed "recto/rectolaw7.ObjectTwo" = some 3 by kernel_rfl).symm.trans hf) |>.symm
      obtain rfl : fn = Tryd.f3 := (Option.some.inj (Tryd.func3.symm.trans hfn)).symm
      exact ⟨by kernel_rfl, fun j t ht => by
        rw [Tryd.params3] at ht
        have hm : t ∈ [26, 26] := by simpa using Array.mem_of_getElem? ht
        have hall : ([26, 26].all fun u => !Tryd.prog.wantsStandIn u) = true := by kernel_rfl
        exact (show Tryd.prog.wantsStandIn t = false by simpa using List.all_eq_true.1 hall t hm)⟩)
    (by kernel_rfl)
end Go.Proofs.YtnkoilkmnpmlmaaDoor
end
