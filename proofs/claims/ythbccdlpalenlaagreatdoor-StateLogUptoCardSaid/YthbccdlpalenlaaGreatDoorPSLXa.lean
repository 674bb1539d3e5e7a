/- Part of the proofs of: the law StateLog: what the texts of a Log are is what they were made of, one by one; a text that is none is let stand, and told by weighing (any Nows, any text) (second form: where what is read is of bulk at most 1048576) -/
import Derived.Test.YthbccdlpalenlaaGreatDoorCards
import Derived.Test.YthbccdlpalenlaaGreatDoorTie
import Derived.Test.YthbccdlpalenlaaGreatDoorPG
set_option linter.unusedVariables false
set_option linter.unusedSimpArgs false
set_option linter.unusedSectionVars false
section
set_option linter.unusedVariables false
namespace Go.Proofs.YthbccdlpalenlaaGreatDoor
open Go.ChangeShapes Go.WideShapes Go.ChangeAt Go.RowKit Go.V
open Go.S hiding Str
set_option maxRecDepth 100000 in
theorem stateLog_ctr (H : Type) (enc : TypeId × Value → H) (W : World) (base : Nat) (args : Array Value) (ds gs : List (DataW H)) (before : List MemPlace)
    (hval0 : ∀ (j : Nat) t v, Tryz.f8.params[j]? = some t → args[j]? = some v → Value.okWide Tryz.prog W .any base t v)
    (hW : DataW.Whole enc Tryz.prog Tryz.f8.params.toList Rows.stateLogSpec.vars false W args.toList ds gs before) (hk : Rows.uptoSmall H (ds ++ gs) = true) (hL : laidMetH Tryz.prog Rows.stateLogUptoRow.laid W) :
    Calls Tryz.prog 8 args W fun e W' => ∃ v, e = .returned v ∧ Rows.stateLogSpec.post enc Tryz.prog Tryz.f8 false true false false W args v W' := by
  have hval : ∀ (j : Nat) t v, Tryz.f8.params[j]? = some t → args[j]? = some v → Value.okWide Tryz.prog W .any base t v := hval0
  have hW' := hW
  obtain ⟨p, q, hA0, hV, hpq, hfz, hnd⟩ := hW'
  have hA : DataW.TrodAll enc Tryz.prog W 0 (fun _ => true) true Tryz.f8.params.toList args.toList ds p := hA0
  rw [Tryz.params8] at hA hval
  obtain ⟨v0, vs0, d0, ds0, p0, q0, hargs, rfl, hp0, h0, r0⟩ := trodAll_cons hA
  obtain ⟨v1, vs1, d1, ds1, p1, q1, rfl, rfl, hp1, h1, r1⟩ := trodAll_cons r0
  obtain ⟨rfl, rfl, hq⟩ := trodAll_nil r1
  obtain rfl : args = #[v0, v1] := by cases args; simp_all
  have hbulk : Rows.uptoBulkAll ([d0, d1] ++ gs) ≤ 1048576 := of_decide_eq_true hk
  simp only [List.cons_append, List.nil_append, Rows.uptoBulkAll] at hbulk
  obtain ⟨x0, e0, m0, g0, w0⟩ := OpB.arg (OpB.sv (α := StateNow) Tryz.underlying69 (by kernel_rfl) (by decide) opn61) h0
  obtain rfl := okw_slice Tryz.underlying69 (hval 0 69 v0 rfl rfl) e0
  obtain ⟨z1, hz1, _, _, w1⟩ := OpB.arg (OpB.str Tryz.underlying9) h1
  obtain ⟨x1, rfl⟩ := op_str Tryz.underlying9 (hval 1 9 v1 rfl rfl)
  have gl2 := tab_laid (name := "internal/strconv.uint64pow10") (g := 2) (t := 384) (e := 234) (n := 20) (k := .u64) (zs := Lib.pow10Tab) (by kernel_rfl) (by kernel_rfl) Tryz.underlying384 Tryz.underlying234 (by kernel_rfl) (by kernel_rfl) (by kernel_rfl) hL
  have B0 : Bk.bk (x0.l.map StateNow.pl) ≤ 1048576 := by have h := (bk_map bkpl_StateNow x0.l ▸ w0); exact Nat.le_trans h (Nat.le_trans (Nat.le_trans (Nat.le_add_right _ _) hbulk) (by decide))
  refine (((l25_StateLog_ct x0 x1 (stateLog_ok (x0.l.map StateNow.pl) x1 (by have g := g0; intro z hz; obtain ⟨y, hy, rfl⟩ := List.mem_map.1 hz; exact rp_StateNow y (g y hy)) B0)).law ⟨m0, gl2⟩)).mono fun e W' ⟨he, hg⟩ => ⟨_, he, ?_⟩
  exact law_post Tryz.laidOut (by kernel_rfl) (by kernel_rfl) Tryz.underlying4 rfl hW hg rfl
theorem stateLog_reads (os : Os) {H : Type} (enc : TypeId × Value → H) : DataW.whole enc Tryz.prog ((World.laidAll Tryz.prog os Rows.stateLogUptoRow.laid).forCall (fun _ _ => 0) ⟨#[], #[.slice none 0 0, str []], []⟩).memory Tryz.f8.params.toList Rows.stateLogSpec.vars false (#[.slice none 0 0, str []] : Array Value).toList 8 = some ([.nil, .lit (.string [])], [], []) := by kernel_rfl
theorem stateLog_okw (os : Os) : Input.okWideB Tryz.prog ((World.laidAll Tryz.prog os Rows.stateLogUptoRow.laid).forCall (fun _ _ => 0) ⟨#[], #[.slice none 0 0, str []], []⟩) 8 ⟨#[], #[.slice none 0 0, str []], []⟩ = true := by kernel_rfl
set_option maxRecDepth 100000 in
theorem stateLogUpto_lifted (os : Os) (started : os.Started) (H : Type) (enc : TypeId × Value → H) (F : Stop.Interp) :
    ReturnsInHanded {} Tryz.checked os 8 .any ((Rows.OpenSpec.upto Rows.stateLogSpec).preRow enc Tryz.prog Tryz.f8 Rows.stateLogUptoRow.domain false Rows.stateLogUptoRow.laid) (((Rows.OpenSpec.upto Rows.stateLogSpec).at F).post enc Tryz.prog Tryz.f8 false true false false) := by
  refine returnsInHanded_of_row (C := Tryz.checked) (s := Rows.OpenSpec.upto Rows.stateLogSpec) Tryz.own started (by kernel_rfl) Tryz.func8
    ⟨(World.laidAll Tryz.prog os Rows.stateLogUptoRow.laid), fun _ _ => 0, ⟨#[], #[.slice none 0 0, str []], []⟩, World.laidAll_os _ _ _, World.shaped_of_ZipB (by kernel_rfl) (by kernel_rfl), (Input.okWide_of_okWideB (base := 0) (stateLog_okw os)).1, (Input.okWide_of_okWideB (stateLog_okw os)).2,
      OpenSpec.preRow_of_cond 8 (stateLog_reads os enc) (by kernel_rfl) (fun k hk => by cases hk; kernel_rfl) (by kernel_rfl) (by rw [MakeChecks.laidMetH_plain _ _ _ (by kernel_rfl)]; exact laidMet_laidAll _ (by kernel_rfl) (by kernel_rfl)), by
      simp only [Assume.holds]
      exact ⟨by simp, by simp, fun _ => Modest.zero, by simp, by simp⟩⟩ ?_
  intro W base args ds gs before hval hW _ hcond _ hL _ _
  exact stateLog_ctr H enc W base args ds gs before hval hW (hcond _ rfl) hL
end Go.Proofs.YthbccdlpalenlaaGreatDoor
end
