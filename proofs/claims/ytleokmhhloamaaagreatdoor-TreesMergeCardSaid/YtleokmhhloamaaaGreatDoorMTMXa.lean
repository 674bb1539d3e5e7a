/- Part of the proofs of: Any three trees merged: each path, what clashes, with its stages; or why not, as the document says. -/
import Derived.Test.YtleokmhhloamaaaGreatDoorCards
import Derived.Test.YtleokmhhloamaaaGreatDoorTie
import Derived.Test.YtleokmhhloamaaaGreatDoorMF
set_option linter.unusedVariables false
set_option linter.unusedSimpArgs false
set_option linter.unusedSectionVars false
section
set_option linter.unusedVariables false
namespace Go.Proofs.YtleokmhhloamaaaGreatDoor
open Go.ChangeShapes Go.WideShapes Go.ChangeAt Go.RowKit Go.V
open Go.S hiding Str
theorem Tryz.own : ownKnob Tryz.prog.godebug = none := by kernel_rfl
theorem Tryz.laidOut : laidOutB Tryz.prog = true := by kernel_rfl
instance : Rg FilesFile := ⟨fun x => Rg.rg x.mode⟩
set_option maxRecDepth 100000 in
theorem opn42 : Opn Tryz.prog 42 FilesFile := fun {H enc W b0 sp hd fuel cs x} h => by
  obtain ⟨hl, hf⟩ := trod_fields Tryz.underlying42 h
  rw [show Tryz.prog.cellsOf 42 = 3 by kernel_rfl] at hl
  match cs, hl with
  | [c0, c1, c2], _ =>
    obtain ⟨x0, e0, m0, g0⟩ := Opn.fld (off := 0) (k := 1) (cs' := [c0]) (Opn.str Tryz.underlying9) (by kernel_rfl) (hf 0 _ rfl) rfl
    obtain rfl : c0 = str x0 := List.head_eq_of_cons_eq e0
    obtain ⟨x1, e1, m1, g1⟩ := Opn.fld (off := 1) (k := 1) (cs' := [c1]) (Opn.i64 Tryz.underlying3) (by kernel_rfl) (hf 1 _ rfl) rfl
    obtain rfl : c1 = i64 x1 := List.head_eq_of_cons_eq e1
    obtain ⟨x2, e2, m2, g2⟩ := Opn.fld (off := 2) (k := 1) (cs' := [c2]) (Opn.str Tryz.underlying9) (by kernel_rfl) (hf 2 _ rfl) rfl
    obtain rfl : c2 = str x2 := List.head_eq_of_cons_eq e2
    exact ⟨⟨x0, x1, x2⟩, rfl, trivial, g1⟩
set_option maxRecDepth 100000 in
theorem treesMerge_lifted (os : Os) (started : os.Started) (H : Type) (enc : TypeId × Value → H) :
    ReturnsInHanded {} Tryz.checked os 7 .any (fun w args => (Rows.treesMergeSpec.pre enc Tryz.prog Tryz.f7 Rows.treesMergeRow.domain false w args ∧ laidMetH Tryz.prog Rows.treesMergeRow.laid w) ∧ sizedMet enc Tryz.prog Tryz.f7 (OpenSpec.ofChange Rows.treesMergeSpec) false w args)
      (Rows.treesMergeSpec.post enc Tryz.prog Tryz.f7 false true false false) := by
  refine returnsInHanded_of_change_and (C := Tryz.checked) (X := fun w _ => laidMetH Tryz.prog Rows.treesMergeRow.laid w) (fun _ _ _ hh h => h.of_heap hh) Tryz.own started (by kernel_rfl) Tryz.func7
    (ChangeSpec.witness_shaped (enc := enc) (C := Tryz.checked) (os := os) (X := fun w _ => laidMetH Tryz.prog Rows.treesMergeRow.laid w) false ((heldW Tryz.prog os 0 (.iface 270 (.agg #[.pointer (some ⟨7, 29, none⟩)]))).layVars Tryz.prog (Rows.treesMergeRow.laid.filter fun x => x.2.handleName?.isNone)) #[.slice none 0 0, .slice none 0 0, .slice none 0 0, str [], str []] 8 (World.layVars_os _ _ _)
      (World.shaped_of_ZipB (by kernel_rfl) (by kernel_rfl)) (by kernel_rfl) (by kernel_rfl) (by kernel_rfl)
      (laidMetH_of_parts (laidMet_on _ (by kernel_rfl) (by kernel_rfl)) (by kernel_rfl))) ?_
  intro W base args ds gs before hval0 hW hcnd _ hL _
  have hval : ∀ (j : Nat) t v, Tryz.f7.params[j]? = some t → args[j]? = some v → Value.okWide Tryz.prog W .any base t v := hval0
  have hW' := hW
  obtain ⟨p, q, hA0, hV, hpq, hfz, hnd⟩ := hW'
  have hA : DataW.TrodAll enc Tryz.prog W 0 (fun _ => true) true Tryz.f7.params.toList args.toList ds p := hA0
  rw [Tryz.params7] at hA hval
  obtain ⟨v0, vs0, d0, ds0, p0, q0, hargs, rfl, hp0, h0, r0⟩ := trodAll_cons hA
  obtain ⟨v1, vs1, d1, ds1, p1, q1, rfl, rfl, hp1, h1, r1⟩ := trodAll_cons r0
  obtain ⟨v2, vs2, d2, ds2, p2, q2, rfl, rfl, hp2, h2, r2⟩ := trodAll_cons r1
  obtain ⟨v3, vs3, d3, ds3, p3, q3, rfl, rfl, hp3, h3, r3⟩ := trodAll_cons r2
  obtain ⟨v4, vs4, d4, ds4, p4, q4, rfl, rfl, hp4, h4, r4⟩ := trodAll_cons r3
  obtain ⟨rfl, rfl, hq⟩ := trodAll_nil r4
  obtain rfl : args = #[v0, v1, v2, v3, v4] := by cases args; simp_all
  obtain ⟨x0, e0, m0, g0⟩ := Opn.arg (Opn.sv (α := FilesFile) Tryz.underlying38 (by kernel_rfl) (by decide) opn42) h0
  obtain rfl := okw_slice Tryz.underlying38 (hval 0 38 v0 rfl rfl) e0
  obtain ⟨x1, e1, m1, g1⟩ := Opn.arg (Opn.sv (α := FilesFile) Tryz.underlying38 (by kernel_rfl) (by decide) opn42) h1
  obtain rfl := okw_slice Tryz.underlying38 (hval 1 38 v1 rfl rfl) e1
  obtain ⟨x2, e2, m2, g2⟩ := Opn.arg (Opn.sv (α := FilesFile) Tryz.underlying38 (by kernel_rfl) (by decide) opn42) h2
  obtain rfl := okw_slice Tryz.underlying38 (hval 2 38 v2 rfl rfl) e2
  obtain ⟨x3, rfl⟩ := op_str Tryz.underlying9 (hval 3 9 v3 rfl rfl)
  obtain ⟨x4, rfl⟩ := op_str Tryz.underlying9 (hval 4 9 v4 rfl rfl)
  have gl0 := handle_laid (name := "errors.errorType") (g := 0) (nm := [101, 114, 114, 111, 114]) (u0 := 270) (ty0 := 29) (d := Rows.laid_errors_errorType) (v := .pointer (some ⟨7, 29, none⟩)) (by kernel_rfl) (by kernel_rfl) (by kernel_rfl) (by kernel_rfl) (by kernel_rfl) (by kernel_rfl) (by kernel_rfl) hL
  refine (((l16_TreesMerge_ct x0 x1 x2 x3 x4 (treesMerge_ok x0.l x1.l x2.l x3 x4)).law ⟨m0, m1, m2, gl0⟩)).mono fun e W' ⟨he, hg⟩ => ⟨_, he, ?_⟩
  exact law_post Tryz.laidOut (by kernel_rfl) (by kernel_rfl) Tryz.underlying4 rfl hW hg rfl
end Go.Proofs.YtleokmhhloamaaaGreatDoor
end
