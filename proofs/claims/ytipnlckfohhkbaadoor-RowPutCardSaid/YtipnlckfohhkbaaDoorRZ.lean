/- A row of files that is cleared of what clashes takes any file that may be, and may be still where there is room; no condition. -/
import Derived.Test.YtipnlckfohhkbaaDoorCards
import Derived.Test.YtipnlckfohhkbaaDoorTie
import Derived.Test.YtipnlckfohhkbaaDoorRD
set_option linter.unusedVariables false
set_option linter.unusedSimpArgs false
set_option linter.unusedSectionVars false
section
set_option linter.unusedVariables false
namespace Go.Proofs.YtipnlckfohhkbaaDoor
open Go.ChangeShapes Go.WideShapes Go.ChangeAt Go.RowKit Go.V
open Go.S hiding Str
theorem Tryd.own : ownKnob Tryd.prog.godebug = none := by kernel_rfl
theorem Tryd.laidOut : laidOutB Tryd.prog = true := by kernel_rfl
instance : Rg FilesFile := ⟨fun x => Rg.rg x.mode⟩
set_option maxRecDepth 100000 in
theorem opn51 : Opn Tryd.prog 51 FilesFile := fun {H enc W b0 sp hd fuel cs x} h => by
  obtain ⟨hl, hf⟩ := trod_fields Tryd.underlying51 h
  rw [show Tryd.prog.cellsOf 51 = 3 by kernel_rfl] at hl
  match cs, hl with
  | [c0, c1, c2], _ =>
    obtain ⟨x0, e0, m0, g0⟩ := Opn.fld (off := 0) (k := 1) (cs' := [c0]) (Opn.str Tryd.underlying9) (by kernel_rfl) (hf 0 _ rfl) rfl
    obtain rfl : c0 = str x0 := List.head_eq_of_cons_eq e0
    obtain ⟨x1, e1, m1, g1⟩ := Opn.fld (off := 1) (k := 1) (cs' := [c1]) (Opn.i64 Tryd.underlying3) (by kernel_rfl) (hf 1 _ rfl) rfl
    obtain rfl : c1 = i64 x1 := List.head_eq_of_cons_eq e1
    obtain ⟨x2, e2, m2, g2⟩ := Opn.fld (off := 2) (k := 1) (cs' := [c2]) (Opn.str Tryd.underlying9) (by kernel_rfl) (hf 2 _ rfl) rfl
    obtain rfl : c2 = str x2 := List.head_eq_of_cons_eq e2
    exact ⟨⟨x0, x1, x2⟩, rfl, trivial, g1⟩
set_option maxRecDepth 100000 in
theorem rowPut_lifted (os : Os) (started : os.Started) (H : Type) (enc : TypeId × Value → H) :
    ReturnsInHanded {} Tryd.checked os 5 .any (fun w args => (Rows.rowPutSpec.pre enc Tryd.prog Tryd.f5 Rows.rowPutRow.domain false w args ∧ laidMetH Tryd.prog Rows.rowPutRow.laid w) ∧ sizedMet enc Tryd.prog Tryd.f5 (OpenSpec.ofChange Rows.rowPutSpec) false w args)
      (Rows.rowPutSpec.post enc Tryd.prog Tryd.f5 false true false false) := by
  refine returnsInHanded_of_change_and (C := Tryd.checked) (X := fun w _ => laidMetH Tryd.prog Rows.rowPutRow.laid w) (fun _ _ _ hh h => h.of_heap hh) Tryd.own started (by kernel_rfl) Tryd.func5
    (ChangeSpec.witness_shaped (enc := enc) (C := Tryd.checked) (os := os) (X := fun w _ => laidMetH Tryd.prog Rows.rowPutRow.laid w) false (World.laidAll Tryd.prog os Rows.rowPutRow.laid) #[.slice none 0 0, .agg #[str [], i64 0, str []]] 8 (World.laidAll_os _ _ _)
      (World.shaped_of_ZipB (by kernel_rfl) (by kernel_rfl)) (by kernel_rfl) (by kernel_rfl) (by kernel_rfl)
      (by rw [MakeChecks.laidMetH_plain _ _ _ (by kernel_rfl)]; exact laidMet_laidAll _ (by kernel_rfl) (by kernel_rfl))) ?_
  intro W base args ds gs before hval0 hW hcnd _ hL _
  have hval : ∀ (j : Nat) t v, Tryd.f5.params[j]? = some t → args[j]? = some v → Value.okWide Tryd.prog W .any base t v := hval0
  have hW' := hW
  obtain ⟨p, q, hA0, hV, hpq, hfz, hnd⟩ := hW'
  have hA : DataW.TrodAll enc Tryd.prog W 0 (fun _ => true) true Tryd.f5.params.toList args.toList ds p := hA0
  rw [Tryd.params5] at hA hval
  obtain ⟨v0, vs0, d0, ds0, p0, q0, hargs, rfl, hp0, h0, r0⟩ := trodAll_cons hA
  obtain ⟨v1, vs1, d1, ds1, p1, q1, rfl, rfl, hp1, h1, r1⟩ := trodAll_cons r0
  obtain ⟨rfl, rfl, hq⟩ := trodAll_nil r1
  obtain rfl : args = #[v0, v1] := by cases args; simp_all
  obtain ⟨x0, e0, m0, g0⟩ := Opn.arg (Opn.sv (α := FilesFile) Tryd.underlying34 (by kernel_rfl) (by decide) opn51) h0
  obtain rfl := okw_slice Tryd.underlying34 (hval 0 34 v0 rfl rfl) e0
  obtain ⟨x1, e1, m1, g1⟩ := Opn.arg opn51 h1
  obtain ⟨c1, hc1⟩ := okw_struct Tryd.underlying51 (hval 1 51 v1 rfl rfl)
  obtain rfl := cells_agg hc1 e1
  refine (((rectolaw14_RowPut_ct x0 x1 (rowPut_ok x0.l x1)).law m0)).mono fun e W' ⟨he, hg⟩ => ⟨_, he, ?_⟩
  exact law_post Tryd.laidOut (by kernel_rfl) (by kernel_rfl) Tryd.underlying4 rfl hW hg rfl
theorem rowPut_holds : Rows.RowPutSaid :=
  OpenClaim.holds_of_wide 5 Tryd.f5 rfl rfl rfl rfl rfl rfl rfl ⟨rfl, rfl, rfl, rfl, rfl⟩ rfl rfl rfl rfl rfl (by kernel_rfl) Tryd.func5 (by kernel_rfl)
    (of_decide_eq_true (by kernel_rfl)) (by unfold Func.isWrapper; first | (rw [if_pos (by decide +kernel)]; kernel_rfl) | (rw [if_neg (by decide +kernel)]; exact ⟨rfl, rfl⟩))
    (fun os started H enc _ => rowPut_lifted os started H enc)
theorem rowPut_card : Rows.RowPutCardSaid :=
  Claim7.holds_tied_plain_at .later [] [.data, .pinned] true (true, "63111ccc22840064956b00befcee19eb5b0b49b664c63450bea08efe35f63a0c") false rowPut_holds (fun _ h => by cases h) (by kernel_rfl) (fun _ h => by cases h) rowPut_row_tie rfl ⟨rfl, rfl⟩ (by kernel_rfl) rfl
    (fun f fn hf hfn => by
      obtain rfl : f = 5 := Option.some.inj ((show Tryd.prog.funcNamed "recto/rectolaw14.RowPut" = some 5 by kernel_rfl).symm.trans hf) |>.symm
      obtain rfl : fn = Tryd.f5 := (Option.some.inj (Tryd.func5.symm.trans hfn)).symm
      exact ⟨by kernel_rfl, fun j t ht => by
        rw [Tryd.params5] at ht
        have hm : t ∈ [34, 51] := by simpa using Array.mem_of_getElem? ht
        have hall : ([34, 51].all fun u => !Tryd.prog.wantsStandIn u) = true := by kernel_rfl
        exact (show Tryd.prog.wantsStandIn t = false by simpa using List.all_eq_true.1 hall t hm)⟩)
    (by kernel_rfl)
end Go.Proofs.YtipnlckfohhkbaaDoor
end
