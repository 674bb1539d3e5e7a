/- Part of the proofs of: the law StateBack: any state as bytes, and back; its graph, its trees, its weight (any parts) (second form: where what is read is of bulk at most 1048576) -/
import Derived.Test.YthbccdlpalenlaaGreatDoorCards
import Derived.Test.YthbccdlpalenlaaGreatDoorTie
import Derived.Test.YthbccdlpalenlaaGreatDoorQG
set_option linter.unusedVariables false
set_option linter.unusedSimpArgs false
set_option linter.unusedSectionVars false
section
set_option linter.unusedVariables false
namespace Go.Proofs.YthbccdlpalenlaaGreatDoor
open Go.ChangeShapes Go.WideShapes Go.ChangeAt Go.RowKit Go.V
open Go.S hiding Str
set_option maxRecDepth 100000 in
theorem stateBack_ctr (H : Type) (enc : TypeId × Value → H) (W : World) (base : Nat) (args : Array Value) (ds gs : List (DataW H)) (before : List MemPlace)
    (hval0 : ∀ (j : Nat) t v, Tryz.f9.params[j]? = some t → args[j]? = some v → Value.okWide Tryz.prog W .any base t v)
    (hW : DataW.Whole enc Tryz.prog Tryz.f9.params.toList Rows.stateBackSpec.vars false W args.toList ds gs before) (hk : Rows.uptoSmall H (ds ++ gs) = true) (hL : laidMetH Tryz.prog Rows.stateBackUptoRow.laid W) :
    Calls Tryz.prog 9 args W fun e W' => ∃ v, e = .returned v ∧ Rows.stateBackSpec.post enc Tryz.prog Tryz.f9 false true false false W args v W' := by
  have hval : ∀ (j : Nat) t v, Tryz.f9.params[j]? = some t → args[j]? = some v → Value.okWide Tryz.prog W .any base t v := hval0
  have hW' := hW
  obtain ⟨p, q, hA0, hV, hpq, hfz, hnd⟩ := hW'
  have hA : DataW.TrodAll enc Tryz.prog W 0 (fun _ => true) true Tryz.f9.params.toList args.toList ds p := hA0
  rw [Tryz.params9] at hA hval
  obtain ⟨v0, vs0, d0, ds0, p0, q0, hargs, rfl, hp0, h0, r0⟩ := trodAll_cons hA
  obtain ⟨rfl, rfl, hq⟩ := trodAll_nil r0
  obtain rfl : args = #[v0] := by cases args; simp_all
  have hbulk : Rows.uptoBulkAll ([d0] ++ gs) ≤ 1048576 := of_decide_eq_true hk
  simp only [List.cons_append, List.nil_append, Rows.uptoBulkAll] at hbulk
  obtain ⟨x0, e0, m0, g0, w0⟩ := OpB.arg opn71 h0
  obtain ⟨c0, hc0⟩ := okw_struct Tryz.underlying71 (hval 0 71 v0 rfl rfl)
  obtain rfl := cells_agg hc0 e0
  have gl2 := tab_laid (name := "internal/strconv.uint64pow10") (g := 2) (t := 384) (e := 234) (n := 20) (k := .u64) (zs := Lib.pow10Tab) (by kernel_rfl) (by kernel_rfl) Tryz.underlying384 Tryz.underlying234 (by kernel_rfl) (by kernel_rfl) (by kernel_rfl) hL
  have B0 : Bk.bk x0.pl ≤ 2000000 := by have h := (bkpl_Rectolaw25Plain x0 ▸ w0); exact Nat.le_trans h (Nat.le_trans (Nat.le_trans (Nat.le_add_right _ _) hbulk) (by decide))
  refine (((l25_StateBack_ct x0 (stateBack_ok x0.pl (rp_Rectolaw25Plain x0 g0) B0)).law ⟨m0.1, m0.2.1, m0.2.2.1, m0.2.2.2.1, m0.2.2.2.2.1, m0.2.2.2.2.2.1, m0.2.2.2.2.2.2.1, m0.2.2.2.2.2.2.2.1, m0.2.2.2.2.2.2.2.2.1, m0.2.2.2.2.2.2.2.2.2.1, m0.2.2.2.2.2.2.2.2.2.2, gl2⟩)).mono fun e W' ⟨he, hg⟩ => ⟨_, he, ?_⟩
  exact law_post Tryz.laidOut (by kernel_rfl) (by kernel_rfl) Tryz.underlying4 rfl hW hg rfl
theorem stateBack_reads (os : Os) {H : Type} (enc : TypeId × Value → H) : DataW.whole enc Tryz.prog ((World.laidAll Tryz.prog os Rows.stateBackUptoRow.laid).forCall (fun _ _ => 0) ⟨#[], #[.agg #[.slice none 0 0, .slice none 0 0, .slice none 0 0, str [], i64 0, str [], i64 0, str [], .slice none 0 0, .slice none 0 0, i64 0, str [], str [], i64 0, .slice none 0 0, .slice none 0 0, .slice none 0 0, .slice none 0 0, .slice none 0 0, .slice none 0 0, i64 0]], []⟩).memory Tryz.f9.params.toList Rows.stateBackSpec.vars false (#[.agg #[.slice none 0 0, .slice none 0 0, .slice none 0 0, str [], i64 0, str [], i64 0, str [], .slice none 0 0, .slice none 0 0, i64 0, str [], str [], i64 0, .slice none 0 0, .slice none 0 0, .slice none 0 0, .slice none 0 0, .slice none 0 0, .slice none 0 0, i64 0]] : Array Value).toList 8 = some ([.agg [.agg [.nil, .nil, .nil, .agg [.lit (.string []), .lit (.int .i64 0)], .agg [.lit (.string []), .lit (.int .i64 0), .lit (.string []), .nil, .nil, .lit (.int .i64 0), .lit (.string []), .agg [.lit (.string []), .lit (.int .i64 0)], .nil, .nil], .nil], .nil, .nil, .nil, .lit (.int .i64 0)]], [], []) := by kernel_rfl
theorem stateBack_okw (os : Os) : Input.okWideB Tryz.prog ((World.laidAll Tryz.prog os Rows.stateBackUptoRow.laid).forCall (fun _ _ => 0) ⟨#[], #[.agg #[.slice none 0 0, .slice none 0 0, .slice none 0 0, str [], i64 0, str [], i64 0, str [], .slice none 0 0, .slice none 0 0, i64 0, str [], str [], i64 0, .slice none 0 0, .slice none 0 0, .slice none 0 0, .slice none 0 0, .slice none 0 0, .slice none 0 0, i64 0]], []⟩) 9 ⟨#[], #[.agg #[.slice none 0 0, .slice none 0 0, .slice none 0 0, str [], i64 0, str [], i64 0, str [], .slice none 0 0, .slice none 0 0, i64 0, str [], str [], i64 0, .slice none 0 0, .slice none 0 0, .slice none 0 0, .slice none 0 0, .slice none 0 0, .slice none 0 0, i64 0]], []⟩ = true := by kernel_rfl
set_option maxRecDepth 100000 in
theorem stateBackUpto_lifted (os : Os) (started : os.Started) (H : Type) (enc : TypeId × Value → H) (F : Stop.Interp) :
    ReturnsInHanded {} Tryz.checked os 9 .any ((Rows.OpenSpec.upto Rows.stateBackSpec).preRow enc Tryz.prog Tryz.f9 Rows.stateBackUptoRow.domain false Rows.stateBackUptoRow.laid) (((Rows.OpenSpec.upto Rows.stateBackSpec).at F).post enc Tryz.prog Tryz.f9 false true false false) := by
  refine returnsInHanded_of_row (C := Tryz.checked) (s := Rows.OpenSpec.upto Rows.stateBackSpec) Tryz.own started (by kernel_rfl) Tryz.func9
    ⟨(World.laidAll Tryz.prog os Rows.stateBackUptoRow.laid), fun _ _ => 0, ⟨#[], #[.agg #[.slice none 0 0, .slice none 0 0, .slice none 0 0, str [], i64 0, str [], i64 0, str [], .slice none 0 0, .slice none 0 0, i64 0, str [], str [], i64 0, .slice none 0 0, .slice none 0 0, .slice none 0 0, .slice none 0 0, .slice none 0 0, .slice none 0 0, i64 0]], []⟩, World.laidAll_os _ _ _, World.shaped_of_ZipB (by kernel_rfl) (by kernel_rfl), (Input.okWide_of_okWideB (base := 0) (stateBack_okw os)).1, (Input.okWide_of_okWideB (stateBack_okw os)).2,
      OpenSpec.preRow_of_cond 8 (stateBack_reads os enc) (by kernel_rfl) (fun k hk => by cases hk; kernel_rfl) (by kernel_rfl) (by rw [MakeChecks.laidMetH_plain _ _ _ (by kernel_rfl)]; exact laidMet_laidAll _ (by kernel_rfl) (by kernel_rfl)), by
      simp only [Assume.holds]
      exact ⟨by simp, by simp, fun _ => Modest.zero, by simp, by simp⟩⟩ ?_
  intro W base args ds gs before hval hW _ hcond _ hL _ _
  exact stateBack_ctr H enc W base args ds gs before hval hW (hcond _ rfl) hL
end Go.Proofs.YthbccdlpalenlaaGreatDoor
end
