/- Part of the proofs of: the law StateTwo: whether any two states are the same, but for the times and sizes of the index (any parts of two) (second form: where what is read is of bulk at most 1048576) -/
import Derived.Test.YthbccdlpalenlaaGreatDoorCards
import Derived.Test.YthbccdlpalenlaaGreatDoorTie
import Derived.Test.YthbccdlpalenlaaGreatDoorPG
set_option linter.unusedVariables false
set_option linter.unusedSimpArgs false
set_option linter.unusedSectionVars false
section
set_option linter.unusedVariables false
namespace Go.Proofs.YthbccdlpalenlaaGreatDoor
open Go.ChangeShapes Go.WideShapes Go.ChangeAt Go.RowKit Go.V
open Go.S hiding Str
set_option maxRecDepth 100000 in
theorem stateTwo_ctr (H : Type) (enc : TypeId × Value → H) (W : World) (base : Nat) (args : Array Value) (ds gs : List (DataW H)) (before : List MemPlace)
    (hval0 : ∀ (j : Nat) t v, Tryz.f6.params[j]? = some t → args[j]? = some v → Value.okWide Tryz.prog W .any base t v)
    (hW : DataW.Whole enc Tryz.prog Tryz.f6.params.toList Rows.stateTwoSpec.vars false W args.toList ds gs before) (hk : Rows.uptoSmall H (ds ++ gs) = true) (hL : laidMetH Tryz.prog Rows.stateTwoUptoRow.laid W) :
    Calls Tryz.prog 6 args W fun e W' => ∃ v, e = .returned v ∧ Rows.stateTwoSpec.post enc Tryz.prog Tryz.f6 false true false false W args v W' := by
  have hval : ∀ (j : Nat) t v, Tryz.f6.params[j]? = some t → args[j]? = some v → Value.okWide Tryz.prog W .any base t v := hval0
  have hW' := hW
  obtain ⟨p, q, hA0, hV, hpq, hfz, hnd⟩ := hW'
  have hA : DataW.TrodAll enc Tryz.prog W 0 (fun _ => true) true Tryz.f6.params.toList args.toList ds p := hA0
  rw [Tryz.params6] at hA hval
  obtain ⟨v0, vs0, d0, ds0, p0, q0, hargs, rfl, hp0, h0, r0⟩ := trodAll_cons hA
  obtain ⟨v1, vs1, d1, ds1, p1, q1, rfl, rfl, hp1, h1, r1⟩ := trodAll_cons r0
  obtain ⟨rfl, rfl, hq⟩ := trodAll_nil r1
  obtain rfl : args = #[v0, v1] := by cases args; simp_all
  have hbulk : Rows.uptoBulkAll ([d0, d1] ++ gs) ≤ 1048576 := of_decide_eq_true hk
  simp only [List.cons_append, List.nil_append, Rows.uptoBulkAll] at hbulk
  obtain ⟨x0, e0, m0, g0, w0⟩ := OpB.arg opn71 h0
  obtain ⟨c0, hc0⟩ := okw_struct Tryz.underlying71 (hval 0 71 v0 rfl rfl)
  obtain rfl := cells_agg hc0 e0
  obtain ⟨x1, e1, m1, g1, w1⟩ := OpB.arg opn71 h1
  obtain ⟨c1, hc1⟩ := okw_struct Tryz.underlying71 (hval 1 71 v1 rfl rfl)
  obtain rfl := cells_agg hc1 e1
  have gl2 := tab_laid (name := "internal/strconv.uint64pow10") (g := 2) (t := 384) (e := 234) (n := 20) (k := .u64) (zs := Lib.pow10Tab) (by kernel_rfl) (by kernel_rfl) Tryz.underlying384 Tryz.underlying234 (by kernel_rfl) (by kernel_rfl) (by kernel_rfl) hL
  have B0 : Bk.bk x0.pl ≤ 2000000 := by have h := (bkpl_Rectolaw25Plain x0 ▸ w0); exact Nat.le_trans h (Nat.le_trans (Nat.le_trans (Nat.le_add_right _ _) hbulk) (by decide))
  have B1 : Bk.bk x1.pl ≤ 2000000 := by have h := (bkpl_Rectolaw25Plain x1 ▸ w1); exact Nat.le_trans h (Nat.le_trans (Nat.le_trans (Nat.le_trans (Nat.le_add_right _ _) (Nat.le_add_left _ _)) hbulk) (by decide))
  refine (((l25_StateTwo_ct x0 x1 (stateTwo_ok x0.pl x1.pl (rp_Rectolaw25Plain x0 g0) (rp_Rectolaw25Plain x1 g1) B0 B1)).law ⟨m0.1, m0.2.1, m0.2.2.1, m0.2.2.2.1, m0.2.2.2.2.1, m0.2.2.2.2.2.1, m0.2.2.2.2.2.2.1, m0.2.2.2.2.2.2.2.1, m0.2.2.2.2.2.2.2.2.1, m0.2.2.2.2.2.2.2.2.2.1, m0.2.2.2.2.2.2.2.2.2.2, m1.1, m1.2.1, m1.2.2.1, m1.2.2.2.1, m1.2.2.2.2.1, m1.2.2.2.2.2.1, m1.2.2.2.2.2.2.1, m1.2.2.2.2.2.2.2.1, m1.2.2.2.2.2.2.2.2.1, m1.2.2.2.2.2.2.2.2.2.1, m1.2.2.2.2.2.2.2.2.2.2, gl2⟩)).mono fun e W' ⟨he, hg⟩ => ⟨_, he, ?_⟩
  exact law_post Tryz.laidOut (by kernel_rfl) (by kernel_rfl) Tryz.underlying4 rfl hW hg rfl
theorem stateTwo_reads (os : Os) {H : Type} (enc : TypeId × Value → H) : DataW.whole enc Tryz.prog ((World.laidAll Tryz.prog os Rows.stateTwoUptoRow.laid).forCall (fun _ _ => 0) ⟨#[], #[.agg #[.slice none 0 0, .slice none 0 0, .slice none 0 0, str [], i64 0, str [], i64 0, str [], .slice none 0 0, .slice none 0 0, i64 0, str [], str [], i64 0, .slice none 0 0, .slice none 0 0, .slice none 0 0, .slice none 0 0, .slice none 0 0, .slice none 0 0, i64 0], .agg #[.slice none 0 0, .slice none 0 0, .slice none 0 0, str [], i64 0, str [], i64 0, str [], .slice none 0 0, .slice none 0 0, i64 0, str [], str [], i64 0, .slice none 0 0, .slice none 0 0, .slice none 0 0, .slice none 0 0, .slice none 0 0, .slice none 0 0, i64 0]], []⟩).memory Tryz.f6.params.toList Rows.stateTwoSpec.vars false (#[.agg #[.slice none 0 0, .slice none 0 0, .slice none 0 0, str [], i64 0, str [], i64 0, str [], .slice none 0 0, .slice none 0 0, i64 0, str [], str [], i64 0, .slice none 0 0, .slice none 0 0, .slice none 0 0, .slice none 0 0, .slice none 0 0, .slice none 0 0, i64 0], .agg #[.slice none 0 0, .slice none 0 0, .slice none 0 0, str [], i64 0, str [], i64 0, str [], .slice none 0 0, .slice none 0 0, i64 0, str [], str [], i64 0, .slice none 0 0, .slice none 0 0, .slice none 0 0, .slice none 0 0, .slice none 0 0, .slice none 0 0, i64 0]] : Array Value).toList 8 = some ([.agg [.agg [.nil, .nil, .nil, .agg [.lit (.string []), .lit (.int .i64 0)], .agg [.lit (.string []), .lit (.int .i64 0), .lit (.string []), .nil, .nil, .lit (.int .i64 0), .lit (.string []), .agg [.lit (.string []), .lit (.int .i64 0)], .nil, .nil], .nil], .nil, .nil, .nil, .lit (.int .i64 0)], .agg [.agg [.nil, .nil, .nil, .agg [.lit (.string []), .lit (.int .i64 0)], .agg [.lit (.string []), .lit (.int .i64 0), .lit (.string []), .nil, .nil, .lit (.int .i64 0), .lit (.string []), .agg [.lit (.string []), .lit (.int .i64 0)], .nil, .nil], .nil], .nil, .nil, .nil, .lit (.int .i64 0)]], [], []) := by kernel_rfl
theorem stateTwo_okw (os : Os) : Input.okWideB Tryz.prog ((World.laidAll Tryz.prog os Rows.stateTwoUptoRow.laid).forCall (fun _ _ => 0) ⟨#[], #[.agg #[.slice none 0 0, .slice none 0 0, .slice none 0 0, str [], i64 0, str [], i64 0, str [], .slice none 0 0, .slice none 0 0, i64 0, str [], str [], i64 0, .slice none 0 0, .slice none 0 0, .slice none 0 0, .slice none 0 0, .slice none 0 0, .slice none 0 0, i64 0], .agg #[.slice none 0 0, .slice none 0 0, .slice none 0 0, str [], i64 0, str [], i64 0, str [], .slice none 0 0, .slice none 0 0, i64 0, str [], str [], i64 0, .slice none 0 0, .slice none 0 0, .slice none 0 0, .slice none 0 0, .slice none 0 0, .slice none 0 0, i64 0]], []⟩) 6 ⟨#[], #[.agg #[.slice none 0 0, .slice none 0 0, .slice none 0 0, str [], i64 0, str [], i64 0, str [], .slice none 0 0, .slice none 0 0, i64 0, str [], str [], i64 0, .slice none 0 0, .slice none 0 0, .slice none 0 0, .slice none 0 0, .slice none 0 0, .slice none 0 0, i64 0], .agg #[.slice none 0 0, .slice none 0 0, .slice none 0 0, str [], i64 0, str [], i64 0, str [], .slice none 0 0, .slice none 0 0, i64 0, str [], str [], i64 0, .slice none 0 0, .slice none 0 0, .slice none 0 0, .slice none 0 0, .slice none 0 0, .slice none 0 0, i64 0]], []⟩ = true := by kernel_rfl
set_option maxRecDepth 100000 in
theorem stateTwoUpto_lifted (os : Os) (started : os.Started) (H : Type) (enc : TypeId × Value → H) (F : Stop.Interp) :
    ReturnsInHanded {} Tryz.checked os 6 .any ((Rows.OpenSpec.upto Rows.stateTwoSpec).preRow enc Tryz.prog Tryz.f6 Rows.stateTwoUptoRow.domain false Rows.stateTwoUptoRow.laid) (((Rows.OpenSpec.upto Rows.stateTwoSpec).at F).post enc Tryz.prog Tryz.f6 false true false false) := by
  refine returnsInHanded_of_row (C := Tryz.checked) (s := Rows.OpenSpec.upto Rows.stateTwoSpec) Tryz.own started (by kernel_rfl) Tryz.func6
    ⟨(World.laidAll Tryz.prog os Rows.stateTwoUptoRow.laid), fun _ _ => 0, ⟨#[], #[.agg #[.slice none 0 0, .slice none 0 0, .slice none 0 0, str [], i64 0, str [], i64 0, str [], .slice none 0 0, .slice none 0 0, i64 0, str [], str [], i64 0, .slice none 0 0, .slice none 0 0, .slice none 0 0, .slice none 0 0, .slice none 0 0, .slice none 0 0, i64 0], .agg #[.slice none 0 0, .slice none 0 0, .slice none 0 0, str [], i64 0, str [], i64 0, str [], .slice none 0 0, .slice none 0 0, i64 0, str [], str [], i64 0, .slice none 0 0, .slice none 0 0, .slice none 0 0, .slice none 0 0, .slice none 0 0, .slice none 0 0, i64 0]], []⟩, World.laidAll_os _ _ _, World.shaped_of_ZipB (by kernel_rfl) (by kernel_rfl), (Input.okWide_of_okWideB (base := 0) (stateTwo_okw os)).1, (Input.okWide_of_okWideB (stateTwo_okw os)).2,
      OpenSpec.preRow_of_cond 8 (stateTwo_reads os enc) (by kernel_rfl) (fun k hk => by cases hk; kernel_rfl) (by kernel_rfl) (by rw [MakeChecks.laidMetH_plain _ _ _ (by kernel_rfl)]; exact laidMet_laidAll _ (by kernel_rfl) (by kernel_rfl)), by
      simp only [Assume.holds]
      exact ⟨by simp, by simp, fun _ => Modest.zero, by simp, by simp⟩⟩ ?_
  intro W base args ds gs before hval hW _ hcond _ hL _ _
  exact stateTwo_ctr H enc W base args ds gs before hval hW (hcond _ rfl) hL
end Go.Proofs.YthbccdlpalenlaaGreatDoor
end
