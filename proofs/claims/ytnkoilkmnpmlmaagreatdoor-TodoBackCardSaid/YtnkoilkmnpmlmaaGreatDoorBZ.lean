/- Any steps in words and back, and whether they can be done on any commits, and the first that can not: as the document has it, for any steps and any graph. -/
import Derived.Test.YtnkoilkmnpmlmaaGreatDoorCards
import Derived.Test.YtnkoilkmnpmlmaaGreatDoorTie
import Derived.Test.YtnkoilkmnpmlmaaGreatDoorBE
set_option linter.unusedVariables false
set_option linter.unusedSimpArgs false
set_option linter.unusedSectionVars false
section
set_option linter.unusedVariables false
namespace Go.Proofs.YtnkoilkmnpmlmaaGreatDoor
open Go.ChangeShapes Go.WideShapes Go.ChangeAt Go.RowKit Go.V
open Go.S hiding Str
theorem Tryz.own : ownKnob Tryz.prog.godebug = none := by kernel_rfl
theorem Tryz.laidOut : laidOutB Tryz.prog = true := by kernel_rfl
instance : Rg TodoStep := ⟨fun x => Rg.rg x.commit⟩
set_option maxRecDepth 100000 in
theorem opn41 : Opn Tryz.prog 41 TodoStep := fun {H enc W b0 sp hd fuel cs x} h => by
  obtain ⟨hl, hf⟩ := trod_fields Tryz.underlying41 h
  rw [show Tryz.prog.cellsOf 41 = 3 by kernel_rfl] at hl
  match cs, hl with
  | [c0, c1, c2], _ =>
    obtain ⟨x0, e0, m0, g0⟩ := Opn.fld (off := 0) (k := 1) (cs' := [c0]) (Opn.str Tryz.underlying9) (by kernel_rfl) (hf 0 _ rfl) rfl
    obtain rfl : c0 = str x0 := List.head_eq_of_cons_eq e0
    obtain ⟨x1, e1, m1, g1⟩ := Opn.fld (off := 1) (k := 1) (cs' := [c1]) (Opn.i64 Tryz.underlying3) (by kernel_rfl) (hf 1 _ rfl) rfl
    obtain rfl : c1 = i64 x1 := List.head_eq_of_cons_eq e1
    obtain ⟨x2, e2, m2, g2⟩ := Opn.fld (off := 2) (k := 1) (cs' := [c2]) (Opn.str Tryz.underlying9) (by kernel_rfl) (hf 2 _ rfl) rfl
    obtain rfl : c2 = str x2 := List.head_eq_of_cons_eq e2
    exact ⟨⟨x0, x1, x2⟩, rfl, trivial, g1⟩
set_option maxRecDepth 100000 in
theorem todoBack_lifted (os : Os) (started : os.Started) (H : Type) (enc : TypeId × Value → H) :
    ReturnsInHanded {} Tryz.checked os 4 .any (fun w args => (Rows.todoBackSpec.pre enc Tryz.prog Tryz.f4 Rows.todoBackRow.domain false w args ∧ laidMetH Tryz.prog Rows.todoBackRow.laid w) ∧ sizedMet enc Tryz.prog Tryz.f4 (OpenSpec.ofChange Rows.todoBackSpec) false w args)
      (Rows.todoBackSpec.post enc Tryz.prog Tryz.f4 false true false false) := by
  refine returnsInHanded_of_change_and (C := Tryz.checked) (X := fun w _ => laidMetH Tryz.prog Rows.todoBackRow.laid w) (fun _ _ _ hh h => h.of_heap hh) Tryz.own started (by kernel_rfl) Tryz.func4
    (ChangeSpec.witness_shaped (enc := enc) (C := Tryz.checked) (os := os) (X := fun w _ => laidMetH Tryz.prog Rows.todoBackRow.laid w) false ((heldW Tryz.prog os 0 (.iface 237 (.agg #[.pointer (some ⟨7, 25, none⟩)]))).layVars Tryz.prog (Rows.todoBackRow.laid.filter fun x => x.2.handleName?.isNone)) #[.slice none 0 0, .slice none 0 0] 8 (World.layVars_os _ _ _)
      (World.shaped_of_ZipB (by kernel_rfl) (by kernel_rfl)) (by kernel_rfl) (by kernel_rfl) (by kernel_rfl)
      (laidMetH_of_parts (laidMet_on _ (by kernel_rfl) (by kernel_rfl)) (by kernel_rfl))) ?_
  intro W base args ds gs before hval0 hW hcnd _ hL _
  have hval : ∀ (j : Nat) t v, Tryz.f4.params[j]? = some t → args[j]? = some v → Value.okWide Tryz.prog W .any base t v := hval0
  have hW' := hW
  obtain ⟨p, q, hA0, hV, hpq, hfz, hnd⟩ := hW'
  have hA : DataW.TrodAll enc Tryz.prog W 0 (fun _ => true) true Tryz.f4.params.toList args.toList ds p := hA0
  rw [Tryz.params4] at hA hval
  obtain ⟨v0, vs0, d0, ds0, p0, q0, hargs, rfl, hp0, h0, r0⟩ := trodAll_cons hA
  obtain ⟨v1, vs1, d1, ds1, p1, q1, rfl, rfl, hp1, h1, r1⟩ := trodAll_cons r0
  obtain ⟨rfl, rfl, hq⟩ := trodAll_nil r1
  obtain rfl : args = #[v0, v1] := by cases args; simp_all
  obtain ⟨x0, e0, m0, g0⟩ := Opn.arg (Opn.sv (α := TodoStep) Tryz.underlying23 (by kernel_rfl) (by decide) opn41) h0
  obtain rfl := okw_slice Tryz.underlying23 (hval 0 23 v0 rfl rfl) e0
  obtain ⟨x1, e1, m1, g1⟩ := Opn.arg (Opn.sv (α := (Sv Int)) Tryz.underlying38 (by kernel_rfl) (by decide) (Opn.sv (α := Int) Tryz.underlying53 (by kernel_rfl) (by decide) (Opn.i64 Tryz.underlying3))) h1
  obtain rfl := okw_slice Tryz.underlying38 (hval 1 38 v1 rfl rfl) e1
  have gl4 := tab_laid (name := "internal/strconv.uint64pow10") (g := 4) (t := 283) (e := 198) (n := 20) (k := .u64) (zs := Lib.pow10Tab) (by kernel_rfl) (by kernel_rfl) Tryz.underlying283 Tryz.underlying198 (by kernel_rfl) (by kernel_rfl) (by kernel_rfl) hL
  have gl0 := handle_laid (name := "errors.errorType") (g := 0) (nm := [101, 114, 114, 111, 114]) (u0 := 237) (ty0 := 25) (d := Rows.laid_errors_errorType) (v := .pointer (some ⟨7, 25, none⟩)) (by kernel_rfl) (by kernel_rfl) (by kernel_rfl) (by kernel_rfl) (by kernel_rfl) (by kernel_rfl) (by kernel_rfl) hL
  refine (((rectolaw21_TodoBack_ct x0 x1 (todoBack_ok x0.l (x1.l.map Sv.l) (fun z hz => (g0 z hz)))).law ⟨m0, m1, ⟨gl4, gl0⟩⟩)).mono fun e W' ⟨he, hg⟩ => ⟨_, he, ?_⟩
  exact law_post Tryz.laidOut (by kernel_rfl) (by kernel_rfl) Tryz.underlying4 rfl hW hg rfl
theorem todoBack_holds : Rows.TodoBackSaid :=
  OpenClaim.holds_of_wide 4 Tryz.f4 rfl rfl rfl rfl rfl rfl rfl ⟨rfl, rfl, rfl, rfl, rfl⟩ rfl rfl rfl rfl rfl (by kernel_rfl) Tryz.func4 (by kernel_rfl)
    (of_decide_eq_true (by kernel_rfl)) (by unfold Func.isWrapper; first | (rw [if_pos (by decide +kernel)]; kernel_rfl) | (rw [if_neg (by decide +kernel)]; exact ⟨rfl, rfl⟩))
    (fun os started H enc _ => todoBack_lifted os started H enc)
theorem todoBack_card : Rows.TodoBackCardSaid :=
  Claim7.holds_tied_plain_at .later [] [.data, .data, .data, .data, .handle, .pinned] true (true, "7b97e2da38e480712badfee02c886b742542a6459c96d9c85c3f03eec6647362") true todoBack_holds (fun _ h => by cases h) (by kernel_rfl) (fun _ h => by cases h) todoBack_row_tie rfl ⟨rfl, rfl⟩ (by kernel_rfl) rfl
    (fun f fn hf hfn => by
      obtain rfl : f = 4 := Option.some.inj ((show Tryz.prog.funcNamed "recto/rectolaw21.TodoBack" = some 4 by kernel_rfl).symm.trans hf) |>.symm
      obtain rfl : fn = Tryz.f4 := (Option.some.inj (Tryz.func4.symm.trans hfn)).symm
      exact ⟨by kernel_rfl, fun j t ht => by
        rw [Tryz.params4] at ht
        have hm : t ∈ [23, 38] := by simpa using Array.mem_of_getElem? ht
        have hall : ([23, 38].all fun u => !Tryz.prog.wantsStandIn u) = true := by kernel_rfl
        exact (show Tryz.prog.wantsStandIn t = false by simpa using List.all_eq_true.1 hall t hm)⟩)
    (by kernel_rfl)
end Go.Proofs.YtnkoilkmnpmlmaaGreatDoor
end
