/- Each verb of the commands is one, and with nothing behind it is a command just where it needs nothing; no condition. -/
import Derived.Test.YtipnlckfohhkbaaDoorCards
import Derived.Test.YtipnlckfohhkbaaDoorTie
import Derived.Test.YtipnlckfohhkbaaDoorCD
set_option linter.unusedVariables false
set_option linter.unusedSimpArgs false
set_option linter.unusedSectionVars false
section
set_option linter.unusedVariables false
namespace Go.Proofs.YtipnlckfohhkbaaDoor
open Go.ChangeShapes Go.WideShapes Go.ChangeAt Go.RowKit Go.V
open Go.S hiding Str
theorem Tryd.own : ownKnob Tryd.prog.godebug = none := by kernel_rfl
theorem Tryd.laidOut : laidOutB Tryd.prog = true := by kernel_rfl
set_option maxRecDepth 100000 in
theorem cmdVerbs_lifted (os : Os) (started : os.Started) (H : Type) (enc : TypeId × Value → H) :
    ReturnsInHanded {} Tryd.checked os 8 .any (fun w args => (Rows.cmdVerbsSpec.pre enc Tryd.prog Tryd.f8 Rows.cmdVerbsRow.domain false w args ∧ laidMetH Tryd.prog Rows.cmdVerbsRow.laid w) ∧ sizedMet enc Tryd.prog Tryd.f8 (OpenSpec.ofChange Rows.cmdVerbsSpec) false w args)
      (Rows.cmdVerbsSpec.post enc Tryd.prog Tryd.f8 false true false false) := by
  refine returnsInHanded_of_change_and (C := Tryd.checked) (X := fun w _ => laidMetH Tryd.prog Rows.cmdVerbsRow.laid w) (fun _ _ _ hh h => h.of_heap hh) Tryd.own started (by kernel_rfl) Tryd.func8
    (ChangeSpec.witness_shaped (enc := enc) (C := Tryd.checked) (os := os) (X := fun w _ => laidMetH Tryd.prog Rows.cmdVerbsRow.laid w) false (World.laidAll Tryd.prog os Rows.cmdVerbsRow.laid) #[.int .u8 0] 8 (World.laidAll_os _ _ _)
      (World.shaped_of_ZipB (by kernel_rfl) (by kernel_rfl)) (by kernel_rfl) (by kernel_rfl) (by kernel_rfl)
      (by rw [MakeChecks.laidMetH_plain _ _ _ (by kernel_rfl)]; exact laidMet_laidAll _ (by kernel_rfl) (by kernel_rfl))) ?_
  intro W base args ds gs before hval0 hW hcnd _ hL _
  have hval : ∀ (j : Nat) t v, Tryd.f8.params[j]? = some t → args[j]? = some v → Value.okWide Tryd.prog W .any base t v := hval0
  have hW' := hW
  obtain ⟨p, q, hA0, hV, hpq, hfz, hnd⟩ := hW'
  have hA : DataW.TrodAll enc Tryd.prog W 0 (fun _ => true) true Tryd.f8.params.toList args.toList ds p := hA0
  rw [Tryd.params8] at hA hval
  obtain ⟨v0, vs0, d0, ds0, p0, q0, hargs, rfl, hp0, h0, r0⟩ := trodAll_cons hA
  obtain ⟨rfl, rfl, hq⟩ := trodAll_nil r0
  obtain rfl : args = #[v0] := by cases args; simp_all
  obtain ⟨x0, rfl, _, _, w0⟩ := open_int Tryd.underlying5 (hval 0 5 v0 rfl rfl) h0
  have b0 : 0 ≤ x0 ∧ x0 ≤ 255 := by simpa [Lit.wf, IntKind.min, IntKind.max, IntKind.signed, IntKind.bits] using w0
  have gl1 := tab_laid (name := "internal/strconv.uint64pow10") (g := 1) (t := 201) (e := 181) (n := 20) (k := .u64) (zs := Lib.pow10Tab) (by kernel_rfl) (by kernel_rfl) Tryd.underlying201 Tryd.underlying181 (by kernel_rfl) (by kernel_rfl) (by kernel_rfl) hL
  refine (((rectolaw22_CmdVerbs_ct x0 (cmdVerbs_ok x0 b0)).law gl1)).mono fun e W' ⟨he, hg⟩ => ⟨_, he, ?_⟩
  exact law_post Tryd.laidOut (by kernel_rfl) (by kernel_rfl) Tryd.underlying4 rfl hW hg rfl
theorem cmdVerbs_holds : Rows.CmdVerbsSaid :=
  OpenClaim.holds_of_wide 8 Tryd.f8 rfl rfl rfl rfl rfl rfl rfl ⟨rfl, rfl, rfl, rfl, rfl⟩ rfl rfl rfl rfl rfl (by kernel_rfl) Tryd.func8 (by kernel_rfl)
    (of_decide_eq_true (by kernel_rfl)) (by unfold Func.isWrapper; first | (rw [if_pos (by decide +kernel)]; kernel_rfl) | (rw [if_neg (by decide +kernel)]; exact ⟨rfl, rfl⟩))
    (fun os started H enc _ => cmdVerbs_lifted os started H enc)
theorem cmdVerbs_card : Rows.CmdVerbsCardSaid :=
  Claim7.holds_tied_plain_at .later [] [.data, .data, .data, .data, .pinned] true (true, "63111ccc22840064956b00befcee19eb5b0b49b664c63450bea08efe35f63a0c") false cmdVerbs_holds (fun _ h => by cases h) (by kernel_rfl) (fun _ h => by cases h) cmdVerbs_row_tie rfl ⟨rfl, rfl⟩ (by kernel_rfl) rfl
    (fun f fn hf hfn => by
      obtain rfl : f = 8 := Option.some.inj ((show Tryd.prog.funcNamed "recto/rectolaw22.CmdVerbs" = some 8 by kernel_rfl).symm.trans hf) |>.symm
      obtain rfl : fn = Tryd.f8 := (Option.some.inj (Tryd.func8.symm.trans hfn)).symm
      exact ⟨by kernel_rfl, fun j t ht => by
        rw [Tryd.params8] at ht
        have hm : t ∈ [5] := by simpa using Array.mem_of_getElem? ht
        have hall : ([5].all fun u => !Tryd.prog.wantsStandIn u) = true := by kernel_rfl
        exact (show Tryd.prog.wantsStandIn t = false by simpa using List.all_eq_true.1 hall t hm)⟩)
    (by kernel_rfl)
instance : Rg TodoStep := ⟨fun x => Rg.rg x.commit⟩
set_option maxRecDepth 100000 in
theorem opn26 : Opn Tryd.prog 26 TodoStep := fun {H enc W b0 sp hd fuel cs x} h => by
  obtain ⟨hl, hf⟩ := trod_fields Tryd.underlying26 h
  rw [show Tryd.prog.cellsOf 26 = 3 by kernel_rfl] at hl
  match cs, hl with
  | [c0, c1, c2], _ =>
    obtain ⟨x0, e0, m0, g0⟩ := Opn.fld (off := 0) (k := 1) (cs' := [c0]) (Opn.str Tryd.underlying9) (by kernel_rfl) (hf 0 _ rfl) rfl
    obtain rfl : c0 = str x0 := List.head_eq_of_cons_eq e0
    obtain ⟨x1, e1, m1, g1⟩ := Opn.fld (off := 1) (k := 1) (cs' := [c1]) (Opn.i64 Tryd.underlying3) (by kernel_rfl) (hf 1 _ rfl) rfl
    obtain rfl : c1 = i64 x1 := List.head_eq_of_cons_eq e1
    obtain ⟨x2, e2, m2, g2⟩ := Opn.fld (off := 2) (k := 1) (cs' := [c2]) (Opn.str Tryd.underlying9) (by kernel_rfl) (hf 2 _ rfl) rfl
    obtain rfl : c2 = str x2 := List.head_eq_of_cons_eq e2
    exact ⟨⟨x0, x1, x2⟩, rfl, trivial, g1⟩
instance : Rg CmdCmd := ⟨fun x => Rg.rg x.n ∧ Rg.rg x.todo⟩
set_option maxRecDepth 100000 in
theorem opn62 : Opn Tryd.prog 62 CmdCmd := fun {H enc W b0 sp hd fuel cs x} h => by
  obtain ⟨hl, hf⟩ := trod_fields Tryd.underlying62 h
  rw [show Tryd.prog.cellsOf 62 = 6 by kernel_rfl] at hl
  match cs, hl with
  | [c0, c1, c2, c3, c4, c5], _ =>
    obtain ⟨x0, e0, m0, g0⟩ := Opn.fld (off := 0) (k := 1) (cs' := [c0]) (Opn.str Tryd.underlying9) (by kernel_rfl) (hf 0 _ rfl) rfl
    obtain rfl : c0 = str x0 := List.head_eq_of_cons_eq e0
    obtain ⟨x1, e1, m1, g1⟩ := Opn.fld (off := 1) (k := 1) (cs' := [c1]) (Opn.str Tryd.underlying9) (by kernel_rfl) (hf 1 _ rfl) rfl
    obtain rfl : c1 = str x1 := List.head_eq_of_cons_eq e1
    obtain ⟨x2, e2, m2, g2⟩ := Opn.fld (off := 2) (k := 1) (cs' := [c2]) (Opn.i64 Tryd.underlying3) (by kernel_rfl) (hf 2 _ rfl) rfl
    obtain rfl : c2 = i64 x2 := List.head_eq_of_cons_eq e2
    obtain ⟨x3, e3, m3, g3⟩ := Opn.fld (off := 3) (k := 1) (cs' := [c3]) (Opn.str Tryd.underlying9) (by kernel_rfl) (hf 3 _ rfl) rfl
    obtain rfl : c3 = str x3 := List.head_eq_of_cons_eq e3
    obtain ⟨x4, e4, m4, g4⟩ := Opn.fld (off := 4) (k := 1) (cs' := [c4]) (Opn.bool Tryd.underlying4) (by kernel_rfl) (hf 4 _ rfl) rfl
    obtain rfl : c4 = .bool x4 := List.head_eq_of_cons_eq e4
    obtain ⟨x5, e5, m5, g5⟩ := Opn.fld (off := 5) (k := 1) (cs' := [c5]) (Opn.sv (α := TodoStep) Tryd.underlying22 (by kernel_rfl) (by decide) opn26) (by kernel_rfl) (hf 5 _ rfl) rfl
    obtain rfl : c5 = x5.val := List.head_eq_of_cons_eq e5
    exact ⟨⟨x0, x1, x2, x3, x4, x5⟩, rfl, m5, ⟨g2, g5⟩⟩
set_option maxRecDepth 100000 in
theorem cmdTwo_lifted (os : Os) (started : os.Started) (H : Type) (enc : TypeId × Value → H) :
    ReturnsInHanded {} Tryd.checked os 7 .any (fun w args => (Rows.cmdTwoSpec.pre enc Tryd.prog Tryd.f7 Rows.cmdTwoRow.domain false w args ∧ laidMetH Tryd.prog Rows.cmdTwoRow.laid w) ∧ sizedMet enc Tryd.prog Tryd.f7 (OpenSpec.ofChange Rows.cmdTwoSpec) false w args)
      (Rows.cmdTwoSpec.post enc Tryd.prog Tryd.f7 false true false false) := by
  refine returnsInHanded_of_change_and (C := Tryd.checked) (X := fun w _ => laidMetH Tryd.prog Rows.cmdTwoRow.laid w) (fun _ _ _ hh h => h.of_heap hh) Tryd.own started (by kernel_rfl) Tryd.func7
    (ChangeSpec.witness_shaped (enc := enc) (C := Tryd.checked) (os := os) (X := fun w _ => laidMetH Tryd.prog Rows.cmdTwoRow.laid w) false (World.laidAll Tryd.prog os Rows.cmdTwoRow.laid) #[.agg #[str [], str [], i64 0, str [], .bool false, .slice none 0 0], .agg #[str [], str [], i64 0, str [], .bool false, .slice none 0 0]] 8 (World.laidAll_os _ _ _)
      (World.shaped_of_ZipB (by kernel_rfl) (by kernel_rfl)) (by kernel_rfl) (by kernel_rfl) (by kernel_rfl)
      (by rw [MakeChecks.laidMetH_plain _ _ _ (by kernel_rfl)]; exact laidMet_laidAll _ (by kernel_rfl) (by kernel_rfl))) ?_
  intro W base args ds gs before hval0 hW hcnd _ hL _
  have hval : ∀ (j : Nat) t v, Tryd.f7.params[j]? = some t → args[j]? = some v → Value.okWide Tryd.prog W .any base t v := hval0
  have hW' := hW
  obtain ⟨p, q, hA0, hV, hpq, hfz, hnd⟩ := hW'
  have hA : DataW.TrodAll enc Tryd.prog W 0 (fun _ => true) true Tryd.f7.params.toList args.toList ds p := hA0
  rw [Tryd.params7] at hA hval
  obtain ⟨v0, vs0, d0, ds0, p0, q0, hargs, rfl, hp0, h0, r0⟩ := trodAll_cons hA
  obtain ⟨v1, vs1, d1, ds1, p1, q1, rfl, rfl, hp1, h1, r1⟩ := trodAll_cons r0
  obtain ⟨rfl, rfl, hq⟩ := trodAll_nil r1
  obtain rfl : args = #[v0, v1] := by cases args; simp_all
  obtain ⟨x0, e0, m0, g0⟩ := Opn.arg opn62 h0
  obtain ⟨c0, hc0⟩ := okw_struct Tryd.underlying62 (hval 0 62 v0 rfl rfl)
  obtain rfl := cells_agg hc0 e0
  obtain ⟨x1, e1, m1, g1⟩ := Opn.arg opn62 h1
  obtain ⟨c1, hc1⟩ := okw_struct Tryd.underlying62 (hval 1 62 v1 rfl rfl)
  obtain rfl := cells_agg hc1 e1
  have gl1 := tab_laid (name := "internal/strconv.uint64pow10") (g := 1) (t := 201) (e := 181) (n := 20) (k := .u64) (zs := Lib.pow10Tab) (by kernel_rfl) (by kernel_rfl) Tryd.underlying201 Tryd.underlying181 (by kernel_rfl) (by kernel_rfl) (by kernel_rfl) hL
  refine (((rectolaw22_CmdTwo_ct x0 x1 (cmdTwo_ok x0.pl x1.pl)).law ⟨m0, m1, gl1⟩)).mono fun e W' ⟨he, hg⟩ => ⟨_, he, ?_⟩
  exact law_post Tryd.laidOut (by kernel_rfl) (by kernel_rfl) Tryd.underlying4 rfl hW hg rfl
theorem cmdTwo_holds : Rows.CmdTwoSaid :=
  OpenClaim.holds_of_wide 7 Tryd.f7 rfl rfl rfl rfl rfl rfl rfl ⟨rfl, rfl, rfl, rfl, rfl⟩ rfl rfl rfl rfl rfl (by kernel_rfl) Tryd.func7 (by kernel_rfl)
    (of_decide_eq_true (by kernel_rfl)) (by unfold Func.isWrapper; first | (rw [if_pos (by decide +kernel)]; kernel_rfl) | (rw [if_neg (by decide +kernel)]; exact ⟨rfl, rfl⟩))
    (fun os started H enc _ => cmdTwo_lifted os started H enc)
theorem cmdTwo_card : Rows.CmdTwoCardSaid :=
  Claim7.holds_tied_plain_at .later [] [.data, .data, .data, .data, .pinned] true (true, "63111ccc22840064956b00befcee19eb5b0b49b664c63450bea08efe35f63a0c") false cmdTwo_holds (fun _ h => by cases h) (by kernel_rfl) (fun _ h => by cases h) cmdTwo_row_tie rfl ⟨rfl, rfl⟩ (by kernel_rfl) rfl
    (fun f fn hf hfn => by
      obtain rfl : f = 7 := Option.some.inj ((show Tryd.prog.funcNamed "recto/rectolaw22.CmdTwo" = some 7 by kernel_rfl).symm.trans hf) |>.symm
      obtain rfl : fn = Tryd.f7 := (Option.some.inj (Tryd.func7.symm.trans hfn)).symm
      exact ⟨by kernel_rfl, fun j t ht => by
        rw [Tryd.params7] at ht
        have hm : t ∈ [62, 62] := by simpa using Array.mem_of_getElem? ht
        have hall : ([62, 62].all fun u => !Tryd.prog.wantsStandIn u) = true := by kernel_rfl
        exact (show Tryd.prog.wantsStandIn t = false by simpa using List.all_eq_true.1 hall t hm)⟩)
    (by kernel_rfl)
end Go.Proofs.YtipnlckfohhkbaaDoor
end
