/- Any entries put into an index and dropped from it, one after the other: the index is what the document says, and may be; no condition. -/
import Derived.Test.YtipnlckfohhkbaaGreatDoorCards
import Derived.Test.YtipnlckfohhkbaaGreatDoorTie
import Derived.Test.YtipnlckfohhkbaaGreatDoorIE
set_option linter.unusedVariables false
set_option linter.unusedSimpArgs false
set_option linter.unusedSectionVars false
section
set_option linter.unusedVariables false
namespace Go.Proofs.YtipnlckfohhkbaaGreatDoor
open Go.ChangeShapes Go.WideShapes Go.ChangeAt Go.RowKit Go.V
open Go.S hiding Str
theorem Tryz.own : ownKnob Tryz.prog.godebug = none := by kernel_rfl
theorem Tryz.laidOut : laidOutB Tryz.prog = true := by kernel_rfl
instance : Rg IndexEntry := ⟨fun x => Rg.rg x.stage ∧ Rg.rg x.mode ∧ Rg.rg x.time ∧ Rg.rg x.size⟩
set_option maxRecDepth 100000 in
theorem opn49 : Opn Tryz.prog 49 IndexEntry := fun {H enc W b0 sp hd fuel cs x} h => by
  obtain ⟨hl, hf⟩ := trod_fields Tryz.underlying49 h
  rw [show Tryz.prog.cellsOf 49 = 6 by kernel_rfl] at hl
  match cs, hl with
  | [c0, c1, c2, c3, c4, c5], _ =>
    obtain ⟨x0, e0, m0, g0⟩ := Opn.fld (off := 0) (k := 1) (cs' := [c0]) (Opn.str Tryz.underlying9) (by kernel_rfl) (hf 0 _ rfl) rfl
    obtain rfl : c0 = str x0 := List.head_eq_of_cons_eq e0
    obtain ⟨x1, e1, m1, g1⟩ := Opn.fld (off := 1) (k := 1) (cs' := [c1]) (Opn.i64 Tryz.underlying3) (by kernel_rfl) (hf 1 _ rfl) rfl
    obtain rfl : c1 = i64 x1 := List.head_eq_of_cons_eq e1
    obtain ⟨x2, e2, m2, g2⟩ := Opn.fld (off := 2) (k := 1) (cs' := [c2]) (Opn.i64 Tryz.underlying3) (by kernel_rfl) (hf 2 _ rfl) rfl
    obtain rfl : c2 = i64 x2 := List.head_eq_of_cons_eq e2
    obtain ⟨x3, e3, m3, g3⟩ := Opn.fld (off := 3) (k := 1) (cs' := [c3]) (Opn.str Tryz.underlying9) (by kernel_rfl) (hf 3 _ rfl) rfl
    obtain rfl : c3 = str x3 := List.head_eq_of_cons_eq e3
    obtain ⟨x4, e4, m4, g4⟩ := Opn.fld (off := 4) (k := 1) (cs' := [c4]) (Opn.i64 Tryz.underlying3) (by kernel_rfl) (hf 4 _ rfl) rfl
    obtain rfl : c4 = i64 x4 := List.head_eq_of_cons_eq e4
    obtain ⟨x5, e5, m5, g5⟩ := Opn.fld (off := 5) (k := 1) (cs' := [c5]) (Opn.i64 Tryz.underlying3) (by kernel_rfl) (hf 5 _ rfl) rfl
    obtain rfl : c5 = i64 x5 := List.head_eq_of_cons_eq e5
    exact ⟨⟨x0, x1, x2, x3, x4, x5⟩, rfl, trivial, ⟨g1, g2, g4, g5⟩⟩
set_option maxRecDepth 100000 in
theorem indexPlays_lifted (os : Os) (started : os.Started) (H : Type) (enc : TypeId × Value → H) :
    ReturnsInHanded {} Tryz.checked os 4 .any (fun w args => (Rows.indexPlaysSpec.pre enc Tryz.prog Tryz.f4 Rows.indexPlaysRow.domain false w args ∧ laidMetH Tryz.prog Rows.indexPlaysRow.laid w) ∧ sizedMet enc Tryz.prog Tryz.f4 (OpenSpec.ofChange Rows.indexPlaysSpec) false w args)
      (Rows.indexPlaysSpec.post enc Tryz.prog Tryz.f4 false true false false) := by
  refine returnsInHanded_of_change_and (C := Tryz.checked) (X := fun w _ => laidMetH Tryz.prog Rows.indexPlaysRow.laid w) (fun _ _ _ hh h => h.of_heap hh) Tryz.own started (by kernel_rfl) Tryz.func4
    (ChangeSpec.witness_shaped (enc := enc) (C := Tryz.checked) (os := os) (X := fun w _ => laidMetH Tryz.prog Rows.indexPlaysRow.laid w) false (World.laidAll Tryz.prog os Rows.indexPlaysRow.laid) #[.slice none 0 0, .slice none 0 0] 8 (World.laidAll_os _ _ _)
      (World.shaped_of_ZipB (by kernel_rfl) (by kernel_rfl)) (by kernel_rfl) (by kernel_rfl) (by kernel_rfl)
      (by rw [MakeChecks.laidMetH_plain _ _ _ (by kernel_rfl)]; exact laidMet_laidAll _ (by kernel_rfl) (by kernel_rfl))) ?_
  intro W base args ds gs before hval0 hW hcnd _ hL _
  have hval : ∀ (j : Nat) t v, Tryz.f4.params[j]? = some t → args[j]? = some v → Value.okWide Tryz.prog W .any base t v := hval0
  have hW' := hW
  obtain ⟨p, q, hA0, hV, hpq, hfz, hnd⟩ := hW'
  have hA : DataW.TrodAll enc Tryz.prog W 0 (fun _ => true) true Tryz.f4.params.toList args.toList ds p := hA0
  rw [Tryz.params4] at hA hval
  obtain ⟨v0, vs0, d0, ds0, p0, q0, hargs, rfl, hp0, h0, r0⟩ := trodAll_cons hA
  obtain ⟨v1, vs1, d1, ds1, p1, q1, rfl, rfl, hp1, h1, r1⟩ := trodAll_cons r0
  obtain ⟨rfl, rfl, hq⟩ := trodAll_nil r1
  obtain rfl : args = #[v0, v1] := by cases args; simp_all
  obtain ⟨x0, e0, m0, g0⟩ := Opn.arg (Opn.sv (α := IndexEntry) Tryz.underlying41 (by kernel_rfl) (by decide) opn49) h0
  obtain rfl := okw_slice Tryz.underlying41 (hval 0 41 v0 rfl rfl) e0
  obtain ⟨x1, e1, m1, g1⟩ := Opn.arg (Opn.sv (α := Str) Tryz.underlying42 (by kernel_rfl) (by decide) (Opn.str Tryz.underlying9)) h1
  obtain rfl := okw_slice Tryz.underlying42 (hval 1 42 v1 rfl rfl) e1
  refine (((rectolaw15_IndexPlays_ct x0 x1 (indexPlays_ok x0.l x1.l)).law ⟨m0, m1⟩)).mono fun e W' ⟨he, hg⟩ => ⟨_, he, ?_⟩
  exact law_post Tryz.laidOut (by kernel_rfl) (by kernel_rfl) Tryz.underlying4 rfl hW hg rfl
theorem indexPlays_holds : Rows.IndexPlaysSaid :=
  OpenClaim.holds_of_wide 4 Tryz.f4 rfl rfl rfl rfl rfl rfl rfl ⟨rfl, rfl, rfl, rfl, rfl⟩ rfl rfl rfl rfl rfl (by kernel_rfl) Tryz.func4 (by kernel_rfl)
    (of_decide_eq_true (by kernel_rfl)) (by unfold Func.isWrapper; first | (rw [if_pos (by decide +kernel)]; kernel_rfl) | (rw [if_neg (by decide +kernel)]; exact ⟨rfl, rfl⟩))
    (fun os started H enc _ => indexPlays_lifted os started H enc)
theorem indexPlays_card : Rows.IndexPlaysCardSaid :=
  Claim7.holds_tied_plain_at .later [] [.data, .pinned] true (true, "efbe73222836482793489d58382bf3c709394427f644ec032325f298215716d1") true indexPlays_holds (fun _ h => by cases h) (by kernel_rfl) (fun _ h => by cases h) indexPlays_row_tie rfl ⟨rfl, rfl⟩ (by kernel_rfl) rfl
    (fun f fn hf hfn => by
      obtain rfl : f = 4 := Option.some.inj ((show Tryz.prog.funcNamed "recto/rectolaw15.IndexPlays" = some 4 by kernel_rfl).symm.trans hf) |>.symm
      obtain rfl : fn = Tryz.f4 := (Option.some.inj (Tryz.func4.symm.trans hfn)).symm
      exact ⟨by kernel_rfl, fun j t ht => by
        rw [Tryz.params4] at ht
        have hm : t ∈ [41, 42] := by simpa using Array.mem_of_getElem? ht
        have hall : ([41, 42].all fun u => !Tryz.prog.wantsStandIn u) = true := by kernel_rfl
        exact (show Tryz.prog.wantsStandIn t = false by simpa using List.all_eq_true.1 hall t hm)⟩)
    (by kernel_rfl)
set_option maxRecDepth 100000 in
theorem indexStages_lifted (os : Os) (started : os.Started) (H : Type) (enc : TypeId × Value → H) :
    ReturnsInHanded {} Tryz.checked os 5 .any (fun w args => (Rows.indexStagesSpec.pre enc Tryz.prog Tryz.f5 Rows.indexStagesRow.domain false w args ∧ laidMetH Tryz.prog Rows.indexStagesRow.laid w) ∧ sizedMet enc Tryz.prog Tryz.f5 (OpenSpec.ofChange Rows.indexStagesSpec) false w args)
      (Rows.indexStagesSpec.post enc Tryz.prog Tryz.f5 false true false false) := by
  refine returnsInHanded_of_change_and (C := Tryz.checked) (X := fun w _ => laidMetH Tryz.prog Rows.indexStagesRow.laid w) (fun _ _ _ hh h => h.of_heap hh) Tryz.own started (by kernel_rfl) Tryz.func5
    (ChangeSpec.witness_shaped (enc := enc) (C := Tryz.checked) (os := os) (X := fun w _ => laidMetH Tryz.prog Rows.indexStagesRow.laid w) false (World.laidAll Tryz.prog os Rows.indexStagesRow.laid) #[.slice none 0 0, .int .u8 0] 8 (World.laidAll_os _ _ _)
      (World.shaped_of_ZipB (by kernel_rfl) (by kernel_rfl)) (by kernel_rfl) (by kernel_rfl) (by kernel_rfl)
      (by rw [MakeChecks.laidMetH_plain _ _ _ (by kernel_rfl)]; exact laidMet_laidAll _ (by kernel_rfl) (by kernel_rfl))) ?_
  intro W base args ds gs before hval0 hW hcnd _ hL _
  have hval : ∀ (j : Nat) t v, Tryz.f5.params[j]? = some t → args[j]? = some v → Value.okWide Tryz.prog W .any base t v := hval0
  have hW' := hW
  obtain ⟨p, q, hA0, hV, hpq, hfz, hnd⟩ := hW'
  have hA : DataW.TrodAll enc Tryz.prog W 0 (fun _ => true) true Tryz.f5.params.toList args.toList ds p := hA0
  rw [Tryz.params5] at hA hval
  obtain ⟨v0, vs0, d0, ds0, p0, q0, hargs, rfl, hp0, h0, r0⟩ := trodAll_cons hA
  obtain ⟨v1, vs1, d1, ds1, p1, q1, rfl, rfl, hp1, h1, r1⟩ := trodAll_cons r0
  obtain ⟨rfl, rfl, hq⟩ := trodAll_nil r1
  obtain rfl : args = #[v0, v1] := by cases args; simp_all
  obtain ⟨x0, e0, m0, g0⟩ := Opn.arg (Opn.sv (α := UInt8) Tryz.underlying23 (by kernel_rfl) (by decide) (Opn.u8 Tryz.underlying5)) h0
  obtain rfl := okw_slice Tryz.underlying23 (hval 0 23 v0 rfl rfl) e0
  obtain ⟨x1, rfl, _, _, w1⟩ := open_int Tryz.underlying5 (hval 1 5 v1 rfl rfl) h1
  have b1 : 0 ≤ x1 ∧ x1 ≤ 255 := by simpa [Lit.wf, IntKind.min, IntKind.max, IntKind.signed, IntKind.bits] using w1
  refine (((rectolaw15_IndexStages_ct x0 x1 (indexStages_ok x0.l x1 b1)).law m0)).mono fun e W' ⟨he, hg⟩ => ⟨_, he, ?_⟩
  exact law_post Tryz.laidOut (by kernel_rfl) (by kernel_rfl) Tryz.underlying4 rfl hW hg rfl
theorem indexStages_holds : Rows.IndexStagesSaid :=
  OpenClaim.holds_of_wide 5 Tryz.f5 rfl rfl rfl rfl rfl rfl rfl ⟨rfl, rfl, rfl, rfl, rfl⟩ rfl rfl rfl rfl rfl (by kernel_rfl) Tryz.func5 (by kernel_rfl)
    (of_decide_eq_true (by kernel_rfl)) (by unfold Func.isWrapper; first | (rw [if_pos (by decide +kernel)]; kernel_rfl) | (rw [if_neg (by decide +kernel)]; exact ⟨rfl, rfl⟩))
    (fun os started H enc _ => indexStages_lifted os started H enc)
theorem indexStages_card : Rows.IndexStagesCardSaid :=
  Claim7.holds_tied_plain_at .later [] [.data, .pinned] true (true, "efbe73222836482793489d58382bf3c709394427f644ec032325f298215716d1") true indexStages_holds (fun _ h => by cases h) (by kernel_rfl) (fun _ h => by cases h) indexStages_row_tie rfl ⟨rfl, rfl⟩ (by kernel_rfl) rfl
    (fun f fn hf hfn => by
      obtain rfl : f = 5 := Option.some.inj ((show Tryz.prog.funcNamed "recto/rectolaw15.IndexStages" = some 5 by kernel_rfl).symm.trans hf) |>.symm
      obtain rfl : fn = Tryz.f5 := (Option.some.inj (Tryz.func5.symm.trans hfn)).symm
      exact ⟨by kernel_rfl, fun j t ht => by
        rw [Tryz.params5] at ht
        have hm : t ∈ [23, 5] := by simpa using Array.mem_of_getElem? ht
        have hall : ([23, 5].all fun u => !Tryz.prog.wantsStandIn u) = true := by kernel_rfl
        exact (show Tryz.prog.wantsStandIn t = false by simpa using List.all_eq_true.1 hall t hm)⟩)
    (by kernel_rfl)
end Go.Proofs.YtipnlckfohhkbaaGreatDoor
end
