/- Part of the proofs of: On any entries of an index the program tells what the document tells: whether they may be, their stages, conflicts; as bytes, and back. -/
import Derived.Test.YtleokmhhloamaaaGreatDoorCards
import Derived.Test.YtleokmhhloamaaaGreatDoorTie
import Derived.Test.YtleokmhhloamaaaGreatDoorIE
set_option linter.unusedVariables false
set_option linter.unusedSimpArgs false
set_option linter.unusedSectionVars false
section
set_option linter.unusedVariables false
namespace Go.Proofs.YtleokmhhloamaaaGreatDoor
open Go.ChangeShapes Go.WideShapes Go.ChangeAt Go.RowKit Go.V
open Go.S hiding Str
theorem Tryz.own : ownKnob Tryz.prog.godebug = none := by kernel_rfl
theorem Tryz.laidOut : laidOutB Tryz.prog = true := by kernel_rfl
instance : Rg IndexEntry := ⟨fun x => Rg.rg x.stage ∧ Rg.rg x.mode ∧ Rg.rg x.time ∧ Rg.rg x.size⟩
set_option maxRecDepth 100000 in
theorem opn149 : Opn Tryz.prog 149 IndexEntry := fun {H enc W b0 sp hd fuel cs x} h => by
  obtain ⟨hl, hf⟩ := trod_fields Tryz.underlying149 h
  rw [show Tryz.prog.cellsOf 149 = 6 by kernel_rfl] at hl
  match cs, hl with
  | [c0, c1, c2, c3, c4, c5], _ =>
    obtain ⟨x0, e0, m0, g0⟩ := Opn.fld (off := 0) (k := 1) (cs' := [c0]) (Opn.str Tryz.underlying9) (by kernel_rfl) (hf 0 _ rfl) rfl
    obtain rfl : c0 = str x0 := List.head_eq_of_cons_eq e0
    obtain ⟨x1, e1, m1, g1⟩ := Opn.fld (off := 1) (k := 1) (cs' := [c1]) (Opn.i64 Tryz.underlying3) (by kernel_rfl) (hf 1 _ rfl) rfl
    obtain rfl : c1 = i64 x1 := List.head_eq_of_cons_eq e1
    obtain ⟨x2, e2, m2, g2⟩ := Opn.fld (off := 2) (k := 1) (cs' := [c2]) (Opn.i64 Tryz.underlying3) (by kernel_rfl) (hf 2 _ rfl) rfl
    obtain rfl : c2 = i64 x2 := List.head_eq_of_cons_eq e2
    obtain ⟨x3, e3, m3, g3⟩ := Opn.fld (off := 3) (k := 1) (cs' := [c3]) (Opn.str Tryz.underlying9) (by kernel_rfl) (hf 3 _ rfl) rfl
    obtain rfl : c3 = str x3 := List.head_eq_of_cons_eq e3
    obtain ⟨x4, e4, m4, g4⟩ := Opn.fld (off := 4) (k := 1) (cs' := [c4]) (Opn.i64 Tryz.underlying3) (by kernel_rfl) (hf 4 _ rfl) rfl
    obtain rfl : c4 = i64 x4 := List.head_eq_of_cons_eq e4
    obtain ⟨x5, e5, m5, g5⟩ := Opn.fld (off := 5) (k := 1) (cs' := [c5]) (Opn.i64 Tryz.underlying3) (by kernel_rfl) (hf 5 _ rfl) rfl
    obtain rfl : c5 = i64 x5 := List.head_eq_of_cons_eq e5
    exact ⟨⟨x0, x1, x2, x3, x4, x5⟩, rfl, trivial, ⟨g1, g2, g4, g5⟩⟩
set_option maxRecDepth 100000 in
theorem indexAny_lifted (os : Os) (started : os.Started) (H : Type) (enc : TypeId × Value → H) :
    ReturnsInHanded {} Tryz.checked os 6 .any (fun w args => (Rows.indexAnySpec.pre enc Tryz.prog Tryz.f6 Rows.indexAnyRow.domain false w args ∧ laidMetH Tryz.prog Rows.indexAnyRow.laid w) ∧ sizedMet enc Tryz.prog Tryz.f6 (OpenSpec.ofChange Rows.indexAnySpec) false w args)
      (Rows.indexAnySpec.post enc Tryz.prog Tryz.f6 false true false false) := by
  refine returnsInHanded_of_change_and (C := Tryz.checked) (X := fun w _ => laidMetH Tryz.prog Rows.indexAnyRow.laid w) (fun _ _ _ hh h => h.of_heap hh) Tryz.own started (by kernel_rfl) Tryz.func6
    (ChangeSpec.witness_shaped (enc := enc) (C := Tryz.checked) (os := os) (X := fun w _ => laidMetH Tryz.prog Rows.indexAnyRow.laid w) false ((heldW Tryz.prog os 0 (.iface 270 (.agg #[.pointer (some ⟨7, 29, none⟩)]))).layVars Tryz.prog (Rows.indexAnyRow.laid.filter fun x => x.2.handleName?.isNone)) #[.slice none 0 0] 8 (World.layVars_os _ _ _)
      (World.shaped_of_ZipB (by kernel_rfl) (by kernel_rfl)) (by kernel_rfl) (by kernel_rfl) (by kernel_rfl)
      (laidMetH_of_parts (laidMet_on _ (by kernel_rfl) (by kernel_rfl)) (by kernel_rfl))) ?_
  intro W base args ds gs before hval0 hW hcnd _ hL _
  have hval : ∀ (j : Nat) t v, Tryz.f6.params[j]? = some t → args[j]? = some v → Value.okWide Tryz.prog W .any base t v := hval0
  have hW' := hW
  obtain ⟨p, q, hA0, hV, hpq, hfz, hnd⟩ := hW'
  have hA : DataW.TrodAll enc Tryz.prog W 0 (fun _ => true) true Tryz.f6.params.toList args.toList ds p := hA0
  rw [Tryz.params6] at hA hval
  obtain ⟨v0, vs0, d0, ds0, p0, q0, hargs, rfl, hp0, h0, r0⟩ := trodAll_cons hA
  obtain ⟨rfl, rfl, hq⟩ := trodAll_nil r0
  obtain rfl : args = #[v0] := by cases args; simp_all
  obtain ⟨x0, e0, m0, g0⟩ := Opn.arg (Opn.sv (α := IndexEntry) Tryz.underlying66 (by kernel_rfl) (by decide) opn149) h0
  obtain rfl := okw_slice Tryz.underlying66 (hval 0 66 v0 rfl rfl) e0
  have gl0 := handle_laid (name := "errors.errorType") (g := 0) (nm := [101, 114, 114, 111, 114]) (u0 := 270) (ty0 := 29) (d := Rows.laid_errors_errorType) (v := .pointer (some ⟨7, 29, none⟩)) (by kernel_rfl) (by kernel_rfl) (by kernel_rfl) (by kernel_rfl) (by kernel_rfl) (by kernel_rfl) (by kernel_rfl) hL
  refine (((rectolaw15_IndexAny_ct x0 (indexAny_ok x0.l g0)).law ⟨m0, gl0⟩)).mono fun e W' ⟨he, hg⟩ => ⟨_, he, ?_⟩
  exact law_post Tryz.laidOut (by kernel_rfl) (by kernel_rfl) Tryz.underlying4 rfl hW hg rfl
end Go.Proofs.YtleokmhhloamaaaGreatDoor
end
