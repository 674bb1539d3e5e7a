/- Part of the proofs of: The laws on plans hold for every input: what is laid into a folder keeps what was changed, a clean folder takes any tree, and by force the index is the tree. -/
import Derived.Test.YtpmhinamcndmeaaGreatDoorRows
import Derived.Test.YtpmhinamcndmeaaGreatDoorPB
set_option linter.unusedVariables false
set_option linter.unusedSimpArgs false
set_option linter.unusedSectionVars false
section
set_option linter.unusedVariables false
namespace Go.Proofs.YtpmhinamcndmeaaGreatDoor
set_option maxHeartbeats 4000000
set_option maxRecDepth 100000
open Go.RowKit Go.V
open Go.S hiding Str
theorem mixed : Tryz.prog.follows .mixedOrders = true := by kernel_rfl
theorem glit50 : ((Tryz.prog.info? 50).map fun i => (i.size, i.zero.isSome)) = some (3, true) := by kernel_rfl
theorem gsz34 : (Tryz.prog.info? 34).map (·.size) = some 3 := by kernel_rfl
theorem gagg34 : AggOf Tryz.prog 34 3 := aggOf_of Tryz.underlying34 rfl (by kernel_rfl)
theorem gsz50 : (Tryz.prog.info? 50).map (·.size) = some 3 := by kernel_rfl
theorem gagg50 : AggOf Tryz.prog 50 3 := aggOf_of Tryz.underlying50 rfl (by kernel_rfl)
theorem gfa50_0 : FieldAt Tryz.prog 50 0 0 := fieldAt_sz (n := 0) (f := ⟨_, _, 0, _, _, _, _⟩) Tryz.underlying50 rfl (by kernel_rfl)
theorem gone9 : OneCell Tryz.prog 9 := oneCell_of Tryz.underlying9 rfl
theorem gfa50_1 : FieldAt Tryz.prog 50 1 1 := fieldAt_sz (n := 0) (f := ⟨_, _, 1, _, _, _, _⟩) Tryz.underlying50 rfl (by kernel_rfl)
theorem gone3 : OneCell Tryz.prog 3 := oneCell_of Tryz.underlying3 rfl
theorem gfa50_2 : FieldAt Tryz.prog 50 2 2 := fieldAt_sz (n := 0) (f := ⟨_, _, 2, _, _, _, _⟩) Tryz.underlying50 rfl (by kernel_rfl)
theorem glit83 : ((Tryz.prog.info? 83).map fun i => (i.size, i.zero.isSome)) = some (6, true) := by kernel_rfl
theorem gapp83 : ((Tryz.prog.info? 83).map fun i => (i.size, i.bytes, (i.zero.map fun z => z.cells.size))) = some (6, 64, some 6) := by kernel_rfl
theorem gsz83 : (Tryz.prog.info? 83).map (·.size) = some 6 := by kernel_rfl
theorem gfa34_0 : FieldAt Tryz.prog 34 0 0 := fieldAt_sz (n := 0) (f := ⟨_, _, 0, _, _, _, _⟩) Tryz.underlying34 rfl (by kernel_rfl)
theorem gone23 : OneCell Tryz.prog 23 := oneCell_of Tryz.underlying23 rfl
theorem glit23 : ((Tryz.prog.info? 23).map fun i => (i.size, i.zero.isSome)) = some (1, true) := by kernel_rfl
theorem gsz23 : (Tryz.prog.info? 23).map (·.size) = some 1 := by kernel_rfl
theorem gsz9 : (Tryz.prog.info? 9).map (·.size) = some 1 := by kernel_rfl
theorem gsz116 : (Tryz.prog.info? 116).map (·.size) = some 4 := by kernel_rfl
theorem gagg116 : AggOf Tryz.prog 116 4 := aggOf_of Tryz.underlying116 rfl (by kernel_rfl)
theorem geqs116 : ∀ (x0 : List UInt8) (x1 : Int) (x2 : List UInt8) (x3 : Bool) (y0 : List UInt8) (y1 : Int) (y2 : List UInt8) (y3 : Bool) (w : World), (Op.equalIn 10000 116 (.agg #[str x0, i64 x1, str x2, .bool x3]) (.agg #[str y0, i64 y1, str y2, .bool y3])).run Tryz.prog w = .ok (decide (x0 = y0 ∧ x1 = y1 ∧ x2 = y2 ∧ x3 = y3)) w := by
 intro x0 x1 x2 x3 y0 y1 y2 y3 w
 have hS : Tryz.prog.underlying 116 = some (.struct (Tryz.prog.fieldsOf 116)) := by kernel_rfl
 rw [show (10000 : Nat) = 9999 + 1 from rfl, run_equalIn_agg w 9999 116 _ _ hS (by kernel_rfl)]
 simp only [Program.fieldsOf, Tryz.underlying116]
 go_simp
 by_cases h0 : x0 = y0 <;> by_cases h1 : x1 = y1 <;> by_cases h2 : x2 = y2 <;> by_cases h3 : x3 = y3 <;> simp [h0, h1, h2, h3]
theorem geqg116 : Tryz.prog.eqGuardType Tryz.prog.depth 116 = false := by kernel_rfl
theorem glit9 : ((Tryz.prog.info? 9).map fun i => (i.size, i.zero.isSome)) = some (1, true) := by kernel_rfl
theorem gapp9 : ((Tryz.prog.info? 9).map fun i => (i.size, i.bytes, (i.zero.map fun z => z.cells.size))) = some (1, 16, some 1) := by kernel_rfl
theorem gfa34_2 : FieldAt Tryz.prog 34 2 2 := fieldAt_sz (n := 0) (f := ⟨_, _, 2, _, _, _, _⟩) Tryz.underlying34 rfl (by kernel_rfl)
theorem gone32 : OneCell Tryz.prog 32 := oneCell_of Tryz.underlying32 rfl
theorem gagg83 : AggOf Tryz.prog 83 6 := aggOf_of Tryz.underlying83 rfl (by kernel_rfl)
theorem gfa83_1 : FieldAt Tryz.prog 83 1 1 := fieldAt_sz (n := 0) (f := ⟨_, _, 1, _, _, _, _⟩) Tryz.underlying83 rfl (by kernel_rfl)
theorem gfa83_0 : FieldAt Tryz.prog 83 0 0 := fieldAt_sz (n := 0) (f := ⟨_, _, 0, _, _, _, _⟩) Tryz.underlying83 rfl (by kernel_rfl)
theorem gfa83_2 : FieldAt Tryz.prog 83 2 2 := fieldAt_sz (n := 0) (f := ⟨_, _, 2, _, _, _, _⟩) Tryz.underlying83 rfl (by kernel_rfl)
theorem gfa83_3 : FieldAt Tryz.prog 83 3 3 := fieldAt_sz (n := 0) (f := ⟨_, _, 3, _, _, _, _⟩) Tryz.underlying83 rfl (by kernel_rfl)
theorem gapp50 : ((Tryz.prog.info? 50).map fun i => (i.size, i.bytes, (i.zero.map fun z => z.cells.size))) = some (3, 40, some 3) := by kernel_rfl
theorem gone4 : OneCell Tryz.prog 4 := oneCell_of Tryz.underlying4 rfl
theorem ghas83 : ((Tryz.prog.info? 83).map (·.size)).isSome = true := by kernel_rfl
theorem ghas50 : ((Tryz.prog.info? 50).map (·.size)).isSome = true := by kernel_rfl
theorem gzv83 : ∀ w : World, (zeroValue 83).run Tryz.prog w = .ok (.agg #[str [], i64 0, i64 0, str [], i64 0, i64 0]) w := by intro w; kernel_rfl
theorem gzv50 : ∀ w : World, (zeroValue 50).run Tryz.prog w = .ok (.agg #[str [], i64 0, str []]) w := by intro w; kernel_rfl
theorem gfa34_1 : FieldAt Tryz.prog 34 1 1 := fieldAt_sz (n := 0) (f := ⟨_, _, 1, _, _, _, _⟩) Tryz.underlying34 rfl (by kernel_rfl)
theorem gone29 : OneCell Tryz.prog 29 := oneCell_of Tryz.underlying29 rfl
theorem glit3 : ((Tryz.prog.info? 3).map fun i => (i.size, i.zero.isSome)) = some (1, true) := by kernel_rfl
theorem gsz3 : (Tryz.prog.info? 3).map (·.size) = some 1 := by kernel_rfl
theorem gfa116_1 : FieldAt Tryz.prog 116 1 3 := fieldAt_sz (n := 0) (f := ⟨_, _, 3, _, _, _, _⟩) Tryz.underlying116 rfl (by kernel_rfl)
theorem gfa116_0 : FieldAt Tryz.prog 116 0 0 := fieldAt_sz (n := 2) (f := ⟨_, _, 0, _, _, _, _⟩) Tryz.underlying116 rfl (by kernel_rfl)
theorem gmk9 : ((Tryz.prog.info? 9).map fun i => (i.size, i.bytes, i.zero.map fun z => z.cells.toList)) = some (1, 16, some [str []]) := by kernel_rfl
theorem gsz5 : (Tryz.prog.info? 5).map (·.size) = some 1 := by kernel_rfl
theorem gone5 : OneCell Tryz.prog 5 := oneCell_of Tryz.underlying5 rfl
theorem gfa83_4 : FieldAt Tryz.prog 83 4 4 := fieldAt_sz (n := 0) (f := ⟨_, _, 4, _, _, _, _⟩) Tryz.underlying83 rfl (by kernel_rfl)
theorem gfa83_5 : FieldAt Tryz.prog 83 5 5 := fieldAt_sz (n := 0) (f := ⟨_, _, 5, _, _, _, _⟩) Tryz.underlying83 rfl (by kernel_rfl)
theorem glit133 : ((Tryz.prog.info? 133).map fun i => (i.size, i.zero.isSome)) = some (3, true) := by kernel_rfl
theorem gapp133 : ((Tryz.prog.info? 133).map fun i => (i.size, i.bytes, (i.zero.map fun z => z.cells.size))) = some (3, 40, some 3) := by kernel_rfl
theorem glit122 : ((Tryz.prog.info? 122).map fun i => (i.size, i.zero.isSome)) = some (6, true) := by kernel_rfl
theorem gapp122 : ((Tryz.prog.info? 122).map fun i => (i.size, i.bytes, (i.zero.map fun z => z.cells.size))) = some (6, 64, some 6) := by kernel_rfl
theorem gsz122 : (Tryz.prog.info? 122).map (·.size) = some 6 := by kernel_rfl
theorem gfa122_1 : FieldAt Tryz.prog 122 1 1 := fieldAt_sz (n := 0) (f := ⟨_, _, 1, _, _, _, _⟩) Tryz.underlying122 rfl (by kernel_rfl)
theorem gfa122_0 : FieldAt Tryz.prog 122 0 0 := fieldAt_sz (n := 0) (f := ⟨_, _, 0, _, _, _, _⟩) Tryz.underlying122 rfl (by kernel_rfl)
theorem gfa122_2 : FieldAt Tryz.prog 122 2 2 := fieldAt_sz (n := 0) (f := ⟨_, _, 2, _, _, _, _⟩) Tryz.underlying122 rfl (by kernel_rfl)
theorem gfa122_3 : FieldAt Tryz.prog 122 3 3 := fieldAt_sz (n := 0) (f := ⟨_, _, 3, _, _, _, _⟩) Tryz.underlying122 rfl (by kernel_rfl)
theorem glit45 : ((Tryz.prog.info? 45).map fun i => (i.size, i.zero.isSome)) = some (1, true) := by kernel_rfl
theorem gsz45 : (Tryz.prog.info? 45).map (·.size) = some 1 := by kernel_rfl
theorem gone45 : OneCell Tryz.prog 45 := oneCell_of Tryz.underlying45 rfl
theorem gsz133 : (Tryz.prog.info? 133).map (·.size) = some 3 := by kernel_rfl
theorem gfa133_0 : FieldAt Tryz.prog 133 0 0 := fieldAt_sz (n := 0) (f := ⟨_, _, 0, _, _, _, _⟩) Tryz.underlying133 rfl (by kernel_rfl)
theorem gagg133 : AggOf Tryz.prog 133 3 := aggOf_of Tryz.underlying133 rfl (by kernel_rfl)
theorem gfa133_1 : FieldAt Tryz.prog 133 1 1 := fieldAt_sz (n := 0) (f := ⟨_, _, 1, _, _, _, _⟩) Tryz.underlying133 rfl (by kernel_rfl)
theorem gfa133_2 : FieldAt Tryz.prog 133 2 2 := fieldAt_sz (n := 0) (f := ⟨_, _, 2, _, _, _, _⟩) Tryz.underlying133 rfl (by kernel_rfl)
theorem gagg122 : AggOf Tryz.prog 122 6 := aggOf_of Tryz.underlying122 rfl (by kernel_rfl)
theorem geqs122 : ∀ (x0 : List UInt8) (x1 : Int) (x2 : Int) (x3 : List UInt8) (x4 : Int) (x5 : Int) (y0 : List UInt8) (y1 : Int) (y2 : Int) (y3 : List UInt8) (y4 : Int) (y5 : Int) (w : World), (Op.equalIn 10000 122 (.agg #[str x0, i64 x1, i64 x2, str x3, i64 x4, i64 x5]) (.agg #[str y0, i64 y1, i64 y2, str y3, i64 y4, i64 y5])).run Tryz.prog w = .ok (decide (x0 = y0 ∧ x1 = y1 ∧ x2 = y2 ∧ x3 = y3 ∧ x4 = y4 ∧ x5 = y5)) w := by
 intro x0 x1 x2 x3 x4 x5 y0 y1 y2 y3 y4 y5 w
 have hS : Tryz.prog.underlying 122 = some (.struct (Tryz.prog.fieldsOf 122)) := by kernel_rfl
 rw [show (10000 : Nat) = 9999 + 1 from rfl, run_equalIn_agg w 9999 122 _ _ hS (by kernel_rfl)]
 simp only [Program.fieldsOf, Tryz.underlying122]
 go_simp
 by_cases h0 : x0 = y0 <;> by_cases h1 : x1 = y1 <;> by_cases h2 : x2 = y2 <;> by_cases h3 : x3 = y3 <;> by_cases h4 : x4 = y4 <;> by_cases h5 : x5 = y5 <;> simp [h0, h1, h2, h3, h4, h5]
theorem geqg122 : Tryz.prog.eqGuardType Tryz.prog.depth 122 = false := by kernel_rfl
theorem geqs133 : ∀ (x0 : List UInt8) (x1 : Int) (x2 : List UInt8) (y0 : List UInt8) (y1 : Int) (y2 : List UInt8) (w : World), (Op.equalIn 10000 133 (.agg #[str x0, i64 x1, str x2]) (.agg #[str y0, i64 y1, str y2])).run Tryz.prog w = .ok (decide (x0 = y0 ∧ x1 = y1 ∧ x2 = y2)) w := by
 intro x0 x1 x2 y0 y1 y2 w
 have hS : Tryz.prog.underlying 133 = some (.struct (Tryz.prog.fieldsOf 133)) := by kernel_rfl
 rw [show (10000 : Nat) = 9999 + 1 from rfl, run_equalIn_agg w 9999 133 _ _ hS (by kernel_rfl)]
 simp only [Program.fieldsOf, Tryz.underlying133]
 go_simp
 by_cases h0 : x0 = y0 <;> by_cases h1 : x1 = y1 <;> by_cases h2 : x2 = y2 <;> simp [h0, h1, h2]
theorem geqg133 : Tryz.prog.eqGuardType Tryz.prog.depth 133 = false := by kernel_rfl
theorem geqs50 : ∀ (x0 : List UInt8) (x1 : Int) (x2 : List UInt8) (y0 : List UInt8) (y1 : Int) (y2 : List UInt8) (w : World), (Op.equalIn 10000 50 (.agg #[str x0, i64 x1, str x2]) (.agg #[str y0, i64 y1, str y2])).run Tryz.prog w = .ok (decide (x0 = y0 ∧ x1 = y1 ∧ x2 = y2)) w := by
 intro x0 x1 x2 y0 y1 y2 w
 have hS : Tryz.prog.underlying 50 = some (.struct (Tryz.prog.fieldsOf 50)) := by kernel_rfl
 rw [show (10000 : Nat) = 9999 + 1 from rfl, run_equalIn_agg w 9999 50 _ _ hS (by kernel_rfl)]
 simp only [Program.fieldsOf, Tryz.underlying50]
 go_simp
 by_cases h0 : x0 = y0 <;> by_cases h1 : x1 = y1 <;> by_cases h2 : x2 = y2 <;> simp [h0, h1, h2]
theorem geqg50 : Tryz.prog.eqGuardType Tryz.prog.depth 50 = false := by kernel_rfl
open Go.Extern.Stop Go.Stop Go.Extern Go.RowKit in
section
end
namespace As
open Go.Extern Go.Extern.Stop
end As
theorem slices_Clip_index_Entry_index_Entry_ct (s_0 : Sv IndexEntry) {r : List IndexEntry} (hS : Sh.slices_Clip_index_Entry_index_Entry s_0.l = some r) :
 Ct Tryz.prog 53 [s_0.val] s_0.ok (Ow.emp) (X := Sv IndexEntry) (fun x => x.val) (fun x => r = x.l) (fun x => x.ok) (fun x => Ow.emp) := by
 refine Ct.of Tryz.func53 rfl (by kernel_rfl) Tryz.ntmps53 (by simp) fun c => ?_
 unfold Sh.slices_Clip_index_Entry_index_Entry at hS
 refine VC.seq ?_
 refine VC.region ?_
 refine VL.q (q_assign rfl) (by decide) ?_
 refine VL.to (fun _ _ h => h) ?_
 refine VC.seq ?_
 refine VC.region ?_
 refine VL.q (q_move rfl) (by decide) ?_
 refine VL.q (q_move rfl) (by decide) ?_
 refine VL.q (q_ln (s := s_0) Tryz.underlying29 rfl) (by decide) ?_
 refine VL.q (q_move rfl) (by decide) ?_
 refine VL.q (q_ln (s := s_0) Tryz.underlying29 rfl) (by decide) ?_
 obtain ⟨b8, hS⟩ := gd_s hS
 refine VL.stom Tryz.underlying29 gsz83 rfl rfl rfl b8.1 (b8.2) (by decide) fun s8_1 hs8_1 => ?_
 replace hS := lt_to hs8_1 hS
 refine VL.q (q_assign rfl) (by decide) ?_
 refine VL.to (fun _ _ h => h) ?_
 cases hS
 exact VC.ret (fin1 (.inr rfl) rfl rfl s8_1 rfl rfl (by (try dsimp only); exact InM.out) (fun _ _ => trivial))
theorem index_Of_ct (r_0 : Sv FilesFile) {r : List IndexEntry} (hS : Sh.index_Of r_0.l = some r) :
 Ct Tryz.prog 15 [r_0.val] r_0.ok (Ow.emp) (X := Sv IndexEntry) (fun x => x.val) (fun x => r = x.l) (fun x => x.ok) (fun x => Ow.emp) := by
 refine Ct.of Tryz.func15 rfl (by kernel_rfl) Tryz.ntmps15 (by simp) fun c => ?_
 unfold Sh.index_Of at hS
 refine VC.seq ?_
 refine VC.region ?_
 refine VL.q (q_assign rfl) (by decide) ?_
 refine VL.to (fun _ _ h => h) ?_
 refine VC.seq ?_
 refine VC.region ?_
 refine VL.q (q_assign rfl) (by decide) ?_
 refine VL.to (fun _ _ h => h) ?_
 refine VC.seq ?_
 refine VC.seq ?_
 refine VC.region ?_
 refine VL.q (q_move rfl) (by decide) ?_
 refine VL.q (q_ln (s := r_0) Tryz.underlying23 rfl) (by decide) ?_
 refine VL.q (q_move rfl) (by decide) ?_
 refine VL.to (fun _ _ h => h) ?_
 refine VC.block ?_
 refine VC.nilO (⟨none, 0, []⟩ : Sv IndexEntry) 83 ⟨rfl, rfl⟩ ?_
 refine VC.iter (S := Sv IndexEntry × Int) (fun sg => (sg.1.l, sg.2)) (fun sg => [(3, sg.1.val), (6, r_0.val), (7, i64 (r_0.l.length : Int)), (8, i64 sg.2)]) (fun sg => Mo.tt) (fun sg => Ow.star (Sv.own sg.1 83) (Ow.emp)) (⟨none, 0, []⟩, 0) [3, 6, 7, 8] hS rfl ?_
 clear hS
 rintro ⟨out3_1, x8_2⟩ m1 y1 hS hK1
 show VC _ _ _ _ _ [(3, out3_1.val), (6, r_0.val), (7, i64 (r_0.l.length : Int)), (8, i64 x8_2)] (Mo.and Mo.tt _) (Ow.star (Sv.own out3_1 83) (Ow.emp))
 refine VC.seq ?_
 refine VC.region ?_
 refine VL.q (q_lss rfl rfl) (by decide) ?_
 refine VL.to (fun _ _ h => h) ?_
 refine VC.seq ?_
 refine VC.cond_dec rfl (fun h9 => ?_) (fun h9 => ?_)
 ·
  replace hS := it_t h9 hS
  refine VC.skip_to (fun _ _ h => h) ?_
  refine VC.seq ?_
  refine VC.block ?_
  refine VC.seq ?_
  refine VC.region ?_
  obtain ⟨z10_3, nz10_3, hz10_3, hS⟩ := at_s hS
  refine VL.q (q_ixm (s := r_0) Tryz.underlying23 gsz50 rfl rfl nz10_3 (lt_of_get nz10_3 hz10_3)) (by decide) ?_
  refine VL.q (q_els (s := r_0) gagg50 rfl rfl hz10_3) (by decide) ?_
  refine VL.alloc (cs := [str [], i64 0, str []]) (by kernel_rfl) (by decide) fun b5_4 => ?_
  refine VL.store (vc := [str z10_3.path, i64 z10_3.mode, str z10_3.data]) (cs' := [str z10_3.path, i64 z10_3.mode, str z10_3.data]) rfl rfl rfl gsz50 rfl rfl (Nat.le_of_ble_eq_true rfl) rfl ?_
  refine VL.to (fun _ _ h => h) ?_
  refine VC.region ?_
  refine VL.q (q_move rfl) (by decide) ?_
  refine VL.q (q_field gfa50_0 rfl) (by decide) ?_
  refine VL.q (q_fe gone9 rfl rfl) (by decide) ?_
  refine VL.q (q_field gfa50_1 rfl) (by decide) ?_
  refine VL.q (q_fe gone3 rfl rfl) (by decide) ?_
  refine VL.q (q_field gfa50_2 rfl) (by decide) ?_
  refine VL.q (q_fe gone9 rfl rfl) (by decide) ?_
  refine VL.q (q_build (vs := [(0, str z10_3.path), (2, i64 z10_3.mode), (3, str z10_3.data)]) (cs := #[str z10_3.path, i64 0, i64 z10_3.mode, str z10_3.data, i64 0, i64 0]) rfl (by kernel_rfl)) (by decide) ?_
  refine VL.lit (α := IndexEntry) (xs := [.tmp 19]) (vs := [.agg #[str z10_3.path, i64 0, i64 z10_3.mode, str z10_3.data, i64 0, i64 0]]) [⟨z10_3.path, 0, z10_3.mode, z10_3.data, 0, 0⟩] Tryz.underlying29 glit83 (by decide) rfl rfl rfl rfl (by decide) (fun _ _ _ _ => trivial) (by decide) (fun s20_5 hs20_5 => ?_) (by decide)
  replace hS := lt_to hs20_5 hS
  obtain ⟨b21, hS⟩ := gd_s hS
  refine VL.app (s := out3_1) (r := s20_5) Tryz.underlying29 gapp83 (by decide) rfl Fo.out (ap1 b21) (ap2 b21 (by decide)) (by decide) (fun s21_7 hs21_7 => ?_)
  replace hS := lt_to hs21_7 hS
  refine VL.q (q_assign rfl) (by decide) ?_
  refine VL.to (fun _ _ h => h) ?_
  refine VC.keep [3, 6, 7, 8] rfl ?_
  refine VC.region ?_
  obtain ⟨b22, hS⟩ := gd_s hS
  refine VL.q (q_add rfl rfl b22) (by decide) ?_
  refine VL.q (q_move rfl) (by decide) ?_
  refine VL.rnd (s21_7, (x8_2 + 1)) [3, 6, 7, 8] (fun _ _ h => h) (go2 hS hK1) rfl
 replace hS := it_f h9 hS
 replace hS := up2 hS hK1
 refine VC.exit_to (fun _ _ h => h) ?_
 refine VC.seq ?_
 refine VC.region ?_
 refine VL.q (q_move rfl) (by decide) ?_
 refine VL.shut out3_1 83 (fun _ _ _ _ => trivial) ?_
 obtain ⟨y24_9, ey24_9, hS⟩ := bd_s hS
 refine VL.callF (slices_Clip_index_Entry_index_Entry_ct out3_1 ey24_9) rfl (by decide) ?_
 rintro q24_9_0 rfl
 try dsimp only
 refine VL.q (q_assign rfl) (by decide) ?_
 refine VL.to (fun _ _ h => h) ?_
 cases hS
 exact VC.ret (fin1 (.inr rfl) rfl rfl q24_9_0 rfl rfl (by (try dsimp only); exact InM.out) (fun _ _ => trivial))
theorem slices_Clip_string_string_ct (s_0 : Sv Str) {r : List Str} (hS : Sh.slices_Clip_string_string s_0.l = some r) :
 Ct Tryz.prog 74 [s_0.val] s_0.ok (Ow.emp) (X := Sv Str) (fun x => x.val) (fun x => r = x.l) (fun x => x.ok) (fun x => Ow.emp) := by
 refine Ct.of Tryz.func74 rfl (by kernel_rfl) Tryz.ntmps74 (by simp) fun c => ?_
 unfold Sh.slices_Clip_string_string at hS
 refine VC.seq ?_
 refine VC.region ?_
 refine VL.q (q_assign rfl) (by decide) ?_
 refine VL.to (fun _ _ h => h) ?_
 refine VC.seq ?_
 refine VC.region ?_
 refine VL.q (q_move rfl) (by decide) ?_
 refine VL.q (q_move rfl) (by decide) ?_
 refine VL.q (q_ln (s := s_0) Tryz.underlying32 rfl) (by decide) ?_
 refine VL.q (q_move rfl) (by decide) ?_
 refine VL.q (q_ln (s := s_0) Tryz.underlying32 rfl) (by decide) ?_
 obtain ⟨b8, hS⟩ := gd_s hS
 refine VL.stom Tryz.underlying32 gsz9 rfl rfl rfl b8.1 (b8.2) (by decide) fun s8_1 hs8_1 => ?_
 replace hS := lt_to hs8_1 hS
 refine VL.q (q_assign rfl) (by decide) ?_
 refine VL.to (fun _ _ h => h) ?_
 cases hS
 exact VC.ret (fin1 (.inr rfl) rfl rfl s8_1 rfl rfl (by (try dsimp only); exact InM.out) (fun _ _ => trivial))
theorem files_Paths_ct (l_0 : Sv (Sv FilesFile)) {r : List Str} (hS : Sh.files_Paths (l_0.l.map Sv.l) = some r) :
 Ct Tryz.prog 97 [l_0.val] l_0.ok (Ow.emp) (X := Sv Str) (fun x => x.val) (fun x => r = x.l) (fun x => x.ok) (fun x => Ow.emp) := by
 refine Ct.of Tryz.func97 rfl (by kernel_rfl) Tryz.ntmps97 (by simp) fun c => ?_
 unfold Sh.files_Paths at hS
 refine VC.seq ?_
 refine VC.region ?_
 refine VL.q (q_assign rfl) (by decide) ?_
 refine VL.to (fun _ _ h => h) ?_
 refine VC.seq ?_
 refine VC.region ?_
 refine VL.mkmap (k := 9) (e := 4) (by decide) fun b8_1 => ?_
 refine VL.q (q_assign rfl) (by decide) ?_
 refine VL.to (fun _ _ h => h) ?_
 refine VC.seq ?_
 refine VC.seq ?_
 refine VC.region ?_
 refine VL.q (q_move rfl) (by decide) ?_
 refine VL.q (q_lnm Sv.l (s := l_0) Tryz.underlying81 rfl) (by decide) ?_
 refine VL.q (q_move rfl) (by decide) ?_
 refine VL.to (fun _ _ h => h) ?_
 refine VC.block ?_
 refine VC.iter (S := Int × List Str) (fun sg => (sg.1, sg.2)) (fun sg => [(3, .map (some b8_1)), (9, l_0.val), (10, i64 ((l_0.l.map Sv.l).length : Int)), (11, i64 sg.1)]) (fun sg => Mo.tt) (fun sg => Ow.star (MpK Tryz.prog 9 4 b8_1 sg.2) (Ow.emp)) (0, ([] : List Str)) [3, 9, 10, 11] hS rfl ?_
 clear hS
 rintro ⟨x11_2, acc_3⟩ m1 y1 hS hK1
 show VC _ _ _ _ _ [(3, .map (some b8_1)), (9, l_0.val), (10, i64 ((l_0.l.map Sv.l).length : Int)), (11, i64 x11_2)] (Mo.and Mo.tt _) (Ow.star (MpK Tryz.prog 9 4 b8_1 acc_3) (Ow.emp))
 refine VC.seq ?_
 refine VC.region ?_
 refine VL.q (q_lss rfl rfl) (by decide) ?_
 refine VL.to (fun _ _ h => h) ?_
 refine VC.seq ?_
 refine VC.cond_dec rfl (fun h12 => ?_) (fun h12 => ?_)
 ·
  replace hS := it_t h12 hS
  refine VC.skip_to (fun _ _ h => h) ?_
  refine VC.seq ?_
  refine VC.block ?_
  refine VC.seq ?_
  refine VC.region ?_
  obtain ⟨z13_4, nz13_4, hz13_4, hS⟩ := atm_s hS
  refine VL.deep z13_4.ok hz13_4 (fun _ q => q) ?_
  refine VL.q (q_ixm (s := l_0) Tryz.underlying81 gsz23 rfl rfl nz13_4 (lt_of_get nz13_4 hz13_4)) (by decide) ?_
  refine VL.q (q_el (s := l_0) gone23 rfl hz13_4 rfl) (by decide) ?_
  refine VL.q (q_assign rfl) (by decide) ?_
  refine VL.to (fun _ _ h => h) ?_
  refine VC.seq ?_
  refine VC.region ?_
  refine VL.q (q_move rfl) (by decide) ?_
  refine VL.q (q_ln (s := z13_4) Tryz.underlying23 rfl) (by decide) ?_
  refine VL.q (q_move rfl) (by decide) ?_
  refine VL.to (fun _ _ h => h) ?_
  refine VC.block ?_
  refine VC.iter (S := Int × List Str) (fun sg => (sg.1, sg.2)) (fun sg => [(3, .map (some b8_1)), (9, l_0.val), (10, i64 ((l_0.l.map Sv.l).length : Int)), (11, i64 x11_2), (15, z13_4.val), (16, i64 (z13_4.l.length : Int)), (17, i64 sg.1)]) (fun sg => Mo.tt) (fun sg => Ow.star (MpK Tryz.prog 9 4 b8_1 sg.2) (Ow.emp)) (0, acc_3) [3, 9, 10, 11, 15, 16, 17] hS rfl ?_
  clear hS
  rintro ⟨x17_5, acc_6⟩ m2 y2 hS hK2
  show VC _ _ _ _ _ [(3, .map (some b8_1)), (9, l_0.val), (10, i64 ((l_0.l.map Sv.l).length : Int)), (11, i64 x11_2), (15, z13_4.val), (16, i64 (z13_4.l.length : Int)), (17, i64 x17_5)] (Mo.and Mo.tt _) (Ow.star (MpK Tryz.prog 9 4 b8_1 acc_6) (Ow.emp))
  refine VC.seq ?_
  refine VC.region ?_
  refine VL.q (q_lss rfl rfl) (by decide) ?_
  refine VL.to (fun _ _ h => h) ?_
  refine VC.seq ?_
  refine VC.cond_dec rfl (fun h18 => ?_) (fun h18 => ?_)
  ·
   replace hS := it_t h18 hS
   refine VC.skip_to (fun _ _ h => h) ?_
   refine VC.seq ?_
   refine VC.block ?_
   refine VC.seq ?_
   refine VC.region ?_
   obtain ⟨z19_7, nz19_7, hz19_7, hS⟩ := at_s hS
   refine VL.q (q_ixm (s := z13_4) Tryz.underlying23 gsz50 rfl rfl nz19_7 (lt_of_get nz19_7 hz19_7)) (by decide) ?_
   refine VL.q (q_els (s := z13_4) gagg50 rfl rfl hz19_7) (by decide) ?_
   refine VL.alloc (cs := [str [], i64 0, str []]) (by kernel_rfl) (by decide) fun b7_8 => ?_
   refine VL.store (vc := [str z19_7.path, i64 z19_7.mode, str z19_7.data]) (cs' := [str z19_7.path, i64 z19_7.mode, str z19_7.data]) rfl rfl rfl gsz50 rfl rfl (Nat.le_of_ble_eq_true rfl) rfl ?_
   refine VL.to (fun _ _ h => h) ?_
   refine VC.region ?_
   refine VL.q (q_move rfl) (by decide) ?_
   refine VL.q (q_field gfa50_0 rfl) (by decide) ?_
   refine VL.q (q_fe gone9 rfl rfl) (by decide) ?_
   obtain ⟨bs3, hS⟩ := gd_s hS
   refine VL.mapset (b := b8_1) (l := acc_6) (s := z19_7.path) Tryz.underlying9 Tryz.underlying4 Tryz.underlying248 Fo.out rfl rfl rfl bs3 ?_
   obtain ⟨accs3_9, eaccs3_9, hS⟩ := lt_s hS
   rw [eaccs3_9]
   refine VL.to (fun _ _ h => h) ?_
   refine VC.keep [3, 9, 10, 11, 15, 16, 17] rfl ?_
   refine VC.region ?_
   obtain ⟨b24, hS⟩ := gd_s hS
   refine VL.q (q_add rfl rfl b24) (by decide) ?_
   refine VL.q (q_move rfl) (by decide) ?_
   refine VL.rnd ((x17_5 + 1), accs3_9) [3, 9, 10, 11, 15, 16, 17] (fun _ _ h => h) (go2 hS hK2) rfl
  replace hS := it_f h18 hS
  replace hS := up2 hS hK2
  refine VC.exit_to (fun _ _ h => h) ?_
  refine VC.region ?_
  obtain ⟨b25, hS⟩ := gd_s hS
  refine VL.q (q_add rfl rfl b25) (by decide) ?_
  refine VL.q (q_move rfl) (by decide) ?_
  refine VL.rnd ((x11_2 + 1), acc_6) [3, 9, 10, 11] (fun _ _ h => h) (go2 hS hK1) rfl
 replace hS := it_f h12 hS
 replace hS := up2 hS hK1
 refine VC.exit_to (fun _ _ h => h) ?_
 refine VC.seq ?_
 refine VC.region ?_
 refine VL.q (q_move rfl) (by decide) ?_
 refine VL.callO (Ct.mapKeys (b := b8_1) (entry_of Tryz.func181 rfl (by kernel_rfl)) Tryz.mapsKeys_181) rfl (by decide) ?_
 intro B27_10 _
 try dsimp only
 obtain ⟨b28, hS⟩ := gd_s hS
 refine VL.callO (Ct.sortedKeys (it := 253) (T := 248) (b := b8_1) (B := B27_10) (e := 4) (l := acc_3) (entry_of Tryz.func180 rfl (by kernel_rfl)) Tryz.underlying9 (fun D0 nn W h1 h2 h3 h4 h5 => Tryz.sortedKeys_180_181 B27_10 b8_1 nn D0 _ W h1 h2 h3 h4 h5) b28) rfl (by decide) ?_
 intro s28_11 hs28_11
 try dsimp only
 replace hS := lt_to hs28_11 hS
 refine VL.shut s28_11 9 (fun _ _ _ _ => trivial) ?_
 obtain ⟨y29_13, ey29_13, hS⟩ := bd_s hS
 refine VL.callF (slices_Clip_string_string_ct s28_11 ey29_13) rfl (by decide) ?_
 rintro q29_13_0 rfl
 try dsimp only
 refine VL.q (q_assign rfl) (by decide) ?_
 refine VL.to (fun _ _ h => h) ?_
 cases hS
 exact VC.ret (fin1 (.inr rfl) rfl rfl q29_13_0 rfl rfl (by (try dsimp only); exact InM.out) (fun _ _ => trivial))
theorem cmp_isNaN_string_ct (x_0 : Str) {r : Bool} (hS : Sh.cmp_isNaN_string x_0 = some r) :
 Ct Tryz.prog 279 [str x_0] Mo.tt (Ow.emp) (X := Unit) (fun _ => .bool r) (fun _ => True) (fun _ => Mo.tt) (fun _ => Ow.emp) := by
 refine Ct.of Tryz.func279 rfl (by kernel_rfl) Tryz.ntmps279 (by simp) fun c => ?_
 unfold Sh.cmp_isNaN_string at hS
 refine VC.seq ?_
 refine VC.region ?_
 refine VL.q (q_assign rfl) (by decide) ?_
 refine VL.to (fun _ _ h => h) ?_
 refine VC.seq ?_
 refine VC.region ?_
 refine VL.q (q_move rfl) (by decide) ?_
 refine VL.q (q_move rfl) (by decide) ?_
 refine VL.q (q_sne rfl rfl) (by decide) ?_
 refine VL.q (q_assign rfl) (by decide) ?_
 refine VL.to (fun _ _ h => h) ?_
 cases hS
 exact VC.ret (fin1 (.inr rfl) rfl rfl () rfl trivial (fun _ _ => trivial) (fun _ _ => trivial))
theorem cmp_Compare_string_ct (x_0 : Str) (y_1 : Str) {r : Int} (hS : Sh.cmp_Compare_string x_0 y_1 = some r) :
 Ct Tryz.prog 215 [str x_0, str y_1] Mo.tt (Ow.emp) (X := Unit) (fun _ => i64 r) (fun _ => True) (fun _ => Mo.tt) (fun _ => Ow.emp) := by
 refine Ct.of Tryz.func215 rfl (by kernel_rfl) Tryz.ntmps215 (by simp) fun c => ?_
 unfold Sh.cmp_Compare_string at hS
 refine VC.seq ?_
 refine VC.region ?_
 refine VL.q (q_assign rfl) (by decide) ?_
 refine VL.to (fun _ _ h => h) ?_
 refine VC.seq ?_
 refine VC.region ?_
 refine VL.q (q_move rfl) (by decide) ?_
 obtain ⟨y8_1, ey8_1, hS⟩ := bd_s hS
 refine VL.q (q_call (cmp_isNaN_string_ct x_0 ey8_1) rfl (fun _ _ => rfl)) (by decide) ?_
 refine VL.q (q_assign rfl) (by decide) ?_
 refine VL.to (fun _ _ h => h) ?_
 refine VC.seq ?_
 refine VC.region ?_
 refine VL.q (q_move rfl) (by decide) ?_
 obtain ⟨y10_2, ey10_2, hS⟩ := bd_s hS
 refine VL.q (q_call (cmp_isNaN_string_ct y_1 ey10_2) rfl (fun _ _ => rfl)) (by decide) ?_
 refine VL.q (q_assign rfl) (by decide) ?_
 refine VL.to (fun _ _ h => h) ?_
 refine VC.seq ?_
 refine VC.seq ?_
 refine VC.region ?_
 refine VL.q (q_move rfl) (by decide) ?_
 refine VL.to (fun _ _ h => h) ?_
 refine VC.cond rfl (fun h11 => ?_) (fun h11 => ?_)
 ·
  replace hS := it_t h11 hS
  refine VC.seq ?_
  refine VC.seq ?_
  refine VC.region ?_
  refine VL.q (q_move rfl) (by decide) ?_
  refine VL.to (fun _ _ h => h) ?_
  refine VC.keep [12] rfl ?_
  refine VC.cond rfl (fun h12 => ?_) (fun h12 => ?_)
  ·
   replace hS := it_t h12 hS
   refine VC.seq ?_
   refine VC.region ?_
   refine VL.q (q_assign rfl) (by decide) ?_
   refine VL.to (fun _ _ h => h) ?_
   cases hS
   exact VC.ret (fin1 (.inr rfl) rfl rfl () rfl trivial (fun _ _ => trivial) (fun _ _ => trivial))
  replace hS := it_b h12 hS
  refine VC.skip_to (fun _ _ h => h) ?_
  refine VC.seq ?_
  refine VC.region ?_
  refine VL.q (q_assign rfl) (by decide) ?_
  refine VL.to (fun _ _ h => h) ?_
  cases hS
  exact VC.ret (fin1 (.inr rfl) rfl rfl () rfl trivial (fun _ _ => trivial) (fun _ _ => trivial))
 replace hS := it_b h11 hS
 refine VC.skip_to (fun _ _ h => h) ?_
 refine VC.seq ?_
 refine VC.seq ?_
 refine VC.region ?_
 refine VL.q (q_move rfl) (by decide) ?_
 refine VL.to (fun _ _ h => h) ?_
 refine VC.keep [0, 1, 13] rfl ?_
 refine VC.cond rfl (fun h13 => ?_) (fun h13 => ?_)
 ·
  replace hS := it_t h13 hS
  refine VC.seq ?_
  refine VC.region ?_
  refine VL.q (q_assign rfl) (by decide) ?_
  refine VL.to (fun _ _ h => h) ?_
  cases hS
  exact VC.ret (fin1 (.inr rfl) rfl rfl () rfl trivial (fun _ _ => trivial) (fun _ _ => trivial))
 replace hS := it_b h13 hS
 refine VC.skip_to (fun _ _ h => h) ?_
 refine VC.seq ?_
 refine VC.seq ?_
 refine VC.region ?_
 refine VL.q (q_move rfl) (by decide) ?_
 refine VL.q (q_move rfl) (by decide) ?_
 refine VL.q (q_slss rfl rfl) (by decide) ?_
 refine VL.to (fun _ _ h => h) ?_
 refine VC.cond rfl (fun h16 => ?_) (fun h16 => ?_)
 ·
  replace hS := it_t h16 hS
  refine VC.seq ?_
  refine VC.region ?_
  refine VL.q (q_assign rfl) (by decide) ?_
  refine VL.to (fun _ _ h => h) ?_
  cases hS
  exact VC.ret (fin1 (.inr rfl) rfl rfl () rfl trivial (fun _ _ => trivial) (fun _ _ => trivial))
 replace hS := it_b h16 hS
 refine VC.skip_to (fun _ _ h => h) ?_
 refine VC.seq ?_
 refine VC.seq ?_
 refine VC.region ?_
 refine VL.q (q_move rfl) (by decide) ?_
 refine VL.q (q_move rfl) (by decide) ?_
 refine VL.q (q_sgtr rfl rfl) (by decide) ?_
 refine VL.to (fun _ _ h => h) ?_
 refine VC.cond rfl (fun h19 => ?_) (fun h19 => ?_)
 ·
  replace hS := it_t h19 hS
  refine VC.seq ?_
  refine VC.region ?_
  refine VL.q (q_assign rfl) (by decide) ?_
  refine VL.to (fun _ _ h => h) ?_
  cases hS
  exact VC.ret (fin1 (.inr rfl) rfl rfl () rfl trivial (fun _ _ => trivial) (fun _ _ => trivial))
 replace hS := it_b h19 hS
 refine VC.skip_to (fun _ _ h => h) ?_
 refine VC.seq ?_
 refine VC.region ?_
 refine VL.q (q_assign rfl) (by decide) ?_
 refine VL.to (fun _ _ h => h) ?_
 cases hS
 exact VC.ret (fin1 (.inr rfl) rfl rfl () rfl trivial (fun _ _ => trivial) (fun _ _ => trivial))
theorem path_Compare_ct (a_0 : Str) (b_1 : Str) {r : Int} (hS : Sh.path_Compare a_0 b_1 = some r) :
 Ct Tryz.prog 135 [str a_0, str b_1] Mo.tt (Ow.emp) (X := Unit) (fun _ => i64 r) (fun _ => True) (fun _ => Mo.tt) (fun _ => Ow.emp) := by
 refine Ct.of Tryz.func135 rfl (by kernel_rfl) Tryz.ntmps135 (by simp) fun c => ?_
 unfold Sh.path_Compare at hS
 refine VC.seq ?_
 refine VC.region ?_
 refine VL.q (q_assign rfl) (by decide) ?_
 refine VL.to (fun _ _ h => h) ?_
 refine VC.seq ?_
 refine VC.region ?_
 refine VL.q (q_move rfl) (by decide) ?_
 refine VL.q (q_move rfl) (by decide) ?_
 obtain ⟨y7_1, ey7_1, hS⟩ := bd_s hS
 refine VL.q (q_call (cmp_Compare_string_ct a_0 b_1 ey7_1) rfl (fun _ _ => rfl)) (by decide) ?_
 refine VL.q (q_assign rfl) (by decide) ?_
 refine VL.to (fun _ _ h => h) ?_
 cases hS
 exact VC.ret (fin1 (.inr rfl) rfl rfl () rfl trivial (fun _ _ => trivial) (fun _ _ => trivial))
theorem files_Row_find_1_ct (f_0 : FilesFile) (p_1 : Str) {r : Int} (hS : Sh.files_Row_find_1 f_0 p_1 = some r) :
 Ct Tryz.prog 155 [.agg #[str f_0.path, i64 f_0.mode, str f_0.data], str p_1] Mo.tt (Ow.emp) (X := Unit) (fun _ => i64 r) (fun _ => True) (fun _ => Mo.tt) (fun _ => Ow.emp) := by
 refine Ct.of Tryz.func155 rfl (by kernel_rfl) Tryz.ntmps155 (by simp) fun c => ?_
 unfold Sh.files_Row_find_1 at hS
 refine VC.seq ?_
 refine VC.region ?_
 refine VL.box (cs := [str f_0.path, i64 f_0.mode, str f_0.data]) rfl rfl (by decide) fun b2_1 => ?_
 refine VL.q (q_assign rfl) (by decide) ?_
 refine VL.to (fun _ _ h => h) ?_
 refine VC.seq ?_
 refine VC.region ?_
 refine VL.q (q_field gfa50_0 rfl) (by decide) ?_
 refine VL.q (q_fe gone9 rfl rfl) (by decide) ?_
 refine VL.q (q_move rfl) (by decide) ?_
 obtain ⟨y8_2, ey8_2, hS⟩ := bd_s hS
 refine VL.q (q_call (path_Compare_ct f_0.path p_1 ey8_2) rfl (fun _ _ => rfl)) (by decide) ?_
 refine VL.q (q_assign rfl) (by decide) ?_
 refine VL.to (fun _ _ h => h) ?_
 cases hS
 exact VC.ret (fin1 (.inr rfl) rfl rfl () rfl trivial (fun _ _ => trivial) (fun _ _ => trivial))
theorem slices_BinarySearchFunc_files_Row_files_File_string_ct (x_0 : Sv FilesFile) (target_1 : Str) {r : Int × Bool} (hS : Sh.slices_BinarySearchFunc_files_Row_files_File_string x_0.l target_1 = some r) :
 Ct Tryz.prog 154 [x_0.val, str target_1, .func (.func 155) #[] #[]] x_0.ok (Ow.emp) (X := Unit) (fun _ => .tuple #[i64 r.1, .bool r.2]) (fun _ => True) (fun _ => Mo.tt) (fun _ => Ow.emp) := by
 refine Ct.of Tryz.func154 rfl (by kernel_rfl) Tryz.ntmps154 (by simp) fun c => ?_
 unfold Sh.slices_BinarySearchFunc_files_Row_files_File_string at hS
 refine VC.seq ?_
 refine VC.region ?_
 refine VL.q (q_assign rfl) (by decide) ?_
 refine VL.q (q_assign rfl) (by decide) ?_
 refine VL.to (fun _ _ h => h) ?_
 refine VC.seq ?_
 refine VC.region ?_
 refine VL.q (q_move rfl) (by decide) ?_
 refine VL.q (q_ln (s := x_0) Tryz.underlying23 rfl) (by decide) ?_
 refine VL.q (q_assign rfl) (by decide) ?_
 refine VL.to (fun _ _ h => h) ?_
 refine VC.seq ?_
 refine VC.region ?_
 refine VL.q (q_move rfl) (by decide) ?_
 refine VL.q (q_assign rfl) (by decide) ?_
 refine VL.q (q_assign rfl) (by decide) ?_
 refine VL.to (fun _ _ h => h) ?_
 refine VC.seq ?_
 refine VC.block ?_
 refine VC.iter (S := Int × Int) (fun sg => (sg.1, sg.2)) (fun sg => [(0, x_0.val), (1, str target_1), (2, .func (.func 155) #[] #[]), (8, i64 (x_0.l.length : Int)), (9, i64 sg.1), (10, i64 sg.2)]) (fun sg => Mo.tt) (fun sg => Ow.emp) (0, (x_0.l.length : Int)) [0, 1, 2, 8, 9, 10] hS rfl ?_
 clear hS
 rintro ⟨i9_1, j10_2⟩ m1 y1 hS hK1
 show VC _ _ _ _ _ [(0, x_0.val), (1, str target_1), (2, .func (.func 155) #[] #[]), (8, i64 (x_0.l.length : Int)), (9, i64 i9_1), (10, i64 j10_2)] (Mo.and Mo.tt _) (Ow.emp)
 refine VC.seq ?_
 refine VC.seq ?_
 refine VC.region ?_
 refine VL.q (q_move rfl) (by decide) ?_
 refine VL.q (q_move rfl) (by decide) ?_
 refine VL.q (q_lss rfl rfl) (by decide) ?_
 refine VL.to (fun _ _ h => h) ?_
 refine VC.cond_dec rfl (fun h17 => ?_) (fun h17 => ?_)
 ·
  replace hS := it_t h17 hS
  refine VC.skip_to (fun _ _ h => h) ?_
  refine VC.block ?_
  refine VC.seq ?_
  refine VC.region ?_
  refine VL.q (q_move rfl) (by decide) ?_
  refine VL.q (q_move rfl) (by decide) ?_
  obtain ⟨b20, hS⟩ := gd_s hS
  refine VL.q (q_add rfl rfl b20) (by decide) ?_
  refine VL.q (q_convW Tryz.underlying3 Tryz.underlying220 rfl) (by decide) ?_
  refine VL.q (q_shr rfl rfl (by decide)) (by decide) ?_
  refine VL.q (q_convW Tryz.underlying220 Tryz.underlying3 rfl) (by decide) ?_
  refine VL.q (q_assign rfl) (by decide) ?_
  refine VL.to (fun _ _ h => h) ?_
  refine VC.keep [0, 1, 2, 8, 9, 10, 11] rfl ?_
  refine VC.seq ?_
  refine VC.region ?_
  refine VL.q (q_move rfl) (by decide) ?_
  refine VL.q (q_move rfl) (by decide) ?_
  refine VL.q (q_move rfl) (by decide) ?_
  obtain ⟨z27_3, nz27_3, hz27_3, hS⟩ := at_s hS
  refine VL.q (q_ixm (s := x_0) Tryz.underlying23 gsz50 rfl rfl nz27_3 (lt_of_get nz27_3 hz27_3)) (by decide) ?_
  refine VL.q (q_els (s := x_0) gagg50 rfl rfl hz27_3) (by decide) ?_
  refine VL.q (q_move rfl) (by decide) ?_
  obtain ⟨y30_4, ey30_4, hS⟩ := bd_s hS
  refine VL.q (q_callV (files_Row_find_1_ct z27_3 target_1 ey30_4) rfl rfl (fun _ _ => rfl)) (by decide) ?_
  refine VL.q (q_lss rfl rfl) (by decide) ?_
  refine VL.to (fun _ _ h => h) ?_
  refine VC.keep [0, 1, 2, 8, 9, 10, 11, 31] rfl ?_
  refine VC.cond_dec rfl (fun h31 => ?_) (fun h31 => ?_)
  ·
   replace hS := it_t h31 hS
   refine VC.region ?_
   refine VL.q (q_move rfl) (by decide) ?_
   obtain ⟨b33, hS⟩ := gd_s hS
   refine VL.q (q_add rfl rfl b33) (by decide) ?_
   refine VL.q (q_assign rfl) (by decide) ?_
   refine VL.rnd (((IntKind.wrap .i64 (sHr .u64 (IntKind.wrap .u64 (i9_1 + j10_2)) 1)) + 1), j10_2) [0, 1, 2, 8, 9, 10] (fun _ _ h => h) (go2 hS hK1) rfl
  replace hS := it_f h31 hS
  refine VC.region ?_
  refine VL.q (q_move rfl) (by decide) ?_
  refine VL.q (q_assign rfl) (by decide) ?_
  refine VL.rnd (i9_1, (IntKind.wrap .i64 (sHr .u64 (IntKind.wrap .u64 (i9_1 + j10_2)) 1))) [0, 1, 2, 8, 9, 10] (fun _ _ h => h) (go2 hS hK1) rfl
 replace hS := it_f h17 hS
 replace hS := up2 hS hK1
 refine VC.exit_to (fun _ _ h => h) ?_
 refine VC.seq ?_
 refine VC.region ?_
 refine VL.q (q_move rfl) (by decide) ?_
 refine VL.q (q_move rfl) (by decide) ?_
 refine VL.q (q_move rfl) (by decide) ?_
 refine VL.q (q_lss rfl rfl) (by decide) ?_
 refine VL.q (q_move rfl) (by decide) ?_
 refine VL.split_dec 39 rfl (fun h39 => ?_) (fun h39 => ?_)
 ·
  replace hS := it_t h39 hS
  refine VL.gy rfl rfl (q_move rfl) (by decide) ?_
  refine VL.gy rfl rfl (q_move rfl) (by decide) ?_
  refine VL.gy rfl rfl (q_move rfl) (by decide) ?_
  obtain ⟨z43_5, nz43_5, hz43_5, hS⟩ := at_s hS
  refine VL.gy rfl rfl (q_ixm (s := x_0) Tryz.underlying23 gsz50 rfl rfl nz43_5 (lt_of_get nz43_5 hz43_5)) (by decide) ?_
  refine VL.gy rfl rfl (q_els (s := x_0) gagg50 rfl rfl hz43_5) (by decide) ?_
  refine VL.gy rfl rfl (q_move rfl) (by decide) ?_
  obtain ⟨y46_6, ey46_6, hS⟩ := bd_s hS
  refine VL.gy rfl rfl (q_callV (files_Row_find_1_ct z43_5 target_1 ey46_6) rfl rfl (fun _ _ => rfl)) (by decide) ?_
  refine VL.gy rfl rfl (q_eql rfl rfl) (by decide) ?_
  refine VL.q (q_pick_t rfl rfl) (by decide) ?_
  refine VL.q (q_assign rfl) (by decide) ?_
  refine VL.q (q_assign rfl) (by decide) ?_
  refine VL.to (fun _ _ h => h) ?_
  refine VC.keep [6, 7] rfl ?_
  cases hS
  exact VC.ret (fin2 (.inr rfl) rfl rfl rfl () rfl trivial (fun _ _ => trivial) (fun _ _ => trivial))
 replace hS := it_f h39 hS
 refine VL.gn rfl rfl rfl (by decide) ?_
 refine VL.gn rfl rfl rfl (by decide) ?_
 refine VL.gn rfl rfl rfl (by decide) ?_
 refine VL.gn rfl rfl rfl (by decide) ?_
 refine VL.gn rfl rfl rfl (by decide) ?_
 refine VL.gn rfl rfl rfl (by decide) ?_
 refine VL.gn rfl rfl rfl (by decide) ?_
 refine VL.gn rfl rfl rfl (by decide) ?_
 refine VL.q (q_pick_f rfl rfl) (by decide) ?_
 refine VL.q (q_assign rfl) (by decide) ?_
 refine VL.q (q_assign rfl) (by decide) ?_
 refine VL.to (fun _ _ h => h) ?_
 refine VC.keep [6, 7] rfl ?_
 cases hS
 exact VC.ret (fin2 (.inr rfl) rfl rfl rfl () rfl trivial (fun _ _ => trivial) (fun _ _ => trivial))
theorem files_Row_find_ct (r_0 : Sv FilesFile) (p_1 : Str) {r : Int × Bool} (hS : Sh.files_Row_find r_0.l p_1 = some r) :
 Ct Tryz.prog 80 [r_0.val, str p_1] r_0.ok (Ow.emp) (X := Unit) (fun _ => .tuple #[i64 r.1, .bool r.2]) (fun _ => True) (fun _ => Mo.tt) (fun _ => Ow.emp) := by
 refine Ct.of Tryz.func80 rfl (by kernel_rfl) Tryz.ntmps80 (by simp) fun c => ?_
 unfold Sh.files_Row_find at hS
 refine VC.seq ?_
 refine VC.region ?_
 refine VL.q (q_assign rfl) (by decide) ?_
 refine VL.q (q_assign rfl) (by decide) ?_
 refine VL.to (fun _ _ h => h) ?_
 refine VC.seq ?_
 refine VC.region ?_
 refine VL.q (q_move rfl) (by decide) ?_
 refine VL.q (q_move rfl) (by decide) ?_
 obtain ⟨y8_1, ey8_1, hS⟩ := bd_s hS
 refine VL.q (q_call (slices_BinarySearchFunc_files_Row_files_File_string_ct r_0 p_1 ey8_1) rfl (fun _ _ => rfl)) (by decide) ?_
 refine VL.q (q_extract rfl rfl) (by decide) ?_
 refine VL.q (q_extract rfl rfl) (by decide) ?_
 refine VL.q (q_assign rfl) (by decide) ?_
 refine VL.q (q_assign rfl) (by decide) ?_
 refine VL.to (fun _ _ h => h) ?_
 cases hS
 exact VC.ret (fin2 (.inr rfl) rfl rfl rfl () rfl trivial (fun _ _ => trivial) (fun _ _ => trivial))
theorem files_Row_Get_ct (r_0 : Sv FilesFile) (p_1 : Str) {r : FilesFile × Bool} (hS : Sh.files_Row_Get r_0.l p_1 = some r) :
 Ct Tryz.prog 26 [r_0.val, str p_1] r_0.ok (Ow.emp) (X := Unit) (fun _ => .tuple #[.agg #[str r.1.path, i64 r.1.mode, str r.1.data], .bool r.2]) (fun _ => True) (fun _ => Mo.tt) (fun _ => Ow.emp) := by
 refine Ct.of Tryz.func26 rfl (by kernel_rfl) Tryz.ntmps26 (by simp) fun c => ?_
 unfold Sh.files_Row_Get at hS
 refine VC.seq ?_
 refine VC.region ?_
 refine VL.alloc (cs := [str [], i64 0, str []]) (by kernel_rfl) (by decide) fun b4_1 => ?_
 refine VL.q (q_assign rfl) (by decide) ?_
 refine VL.to (fun _ _ h => h) ?_
 refine VC.seq ?_
 refine VC.region ?_
 refine VL.q (q_move rfl) (by decide) ?_
 refine VL.q (q_move rfl) (by decide) ?_
 obtain ⟨y11_2, ey11_2, hS⟩ := bd_s hS
 refine VL.q (q_call (files_Row_find_ct r_0 p_1 ey11_2) rfl (fun _ _ => rfl)) (by decide) ?_
 refine VL.q (q_move rfl) (by decide) ?_
 refine VL.q (q_extract rfl rfl) (by decide) ?_
 refine VL.q (q_extract rfl rfl) (by decide) ?_
 refine VL.q (q_assign rfl) (by decide) ?_
 refine VL.q (q_assign rfl) (by decide) ?_
 refine VL.to (fun _ _ h => h) ?_
 refine VC.keep [0, 4, 6, 7] rfl ?_
 refine VC.seq ?_
 refine VC.seq ?_
 refine VC.region ?_
 refine VL.q (q_move rfl) (by decide) ?_
 refine VL.q (q_not rfl) (by decide) ?_
 refine VL.to (fun _ _ h => h) ?_
 refine VC.cond rfl (fun h15 => ?_) (fun h15 => ?_)
 ·
  replace hS := it_t h15 hS
  refine VC.seq ?_
  refine VC.region ?_
  refine VL.q (q_build (vs := []) (cs := #[str [], i64 0, str []]) rfl (by kernel_rfl)) (by decide) ?_
  refine VL.store (vc := [str [], i64 0, str []]) (cs' := [str [], i64 0, str []]) rfl rfl rfl gsz50 rfl rfl (Nat.le_of_ble_eq_true rfl) rfl ?_
  refine VL.q (q_assign rfl) (by decide) ?_
  refine VL.to (fun _ _ h => h) ?_
  cases hS
  exact VC.ret (finG (vs := [.agg #[str [], i64 0, str []], .bool false]) (.inr rfl) rfl (RVs.cell gagg50 rfl rfl Rd.blk (RVs.tmp rfl (RVs.nil))) () rfl trivial (by (try dsimp only); exact InM.out) (fun _ _ => trivial))
 replace hS := it_b h15 hS
 refine VC.skip_to (fun _ _ h => h) ?_
 refine VC.seq ?_
 refine VC.region ?_
 refine VL.q (q_move rfl) (by decide) ?_
 refine VL.q (q_move rfl) (by decide) ?_
 obtain ⟨z19_3, nz19_3, hz19_3, hS⟩ := at_s hS
 refine VL.q (q_ixm (s := r_0) Tryz.underlying23 gsz50 rfl rfl nz19_3 (lt_of_get nz19_3 hz19_3)) (by decide) ?_
 refine VL.q (q_els (s := r_0) gagg50 rfl rfl hz19_3) (by decide) ?_
 refine VL.store (vc := [str z19_3.path, i64 z19_3.mode, str z19_3.data]) (cs' := [str z19_3.path, i64 z19_3.mode, str z19_3.data]) rfl rfl rfl gsz50 rfl rfl (Nat.le_of_ble_eq_true rfl) rfl ?_
 refine VL.q (q_assign rfl) (by decide) ?_
 refine VL.to (fun _ _ h => h) ?_
 refine VC.keep [4, 5] rfl ?_
 cases hS
 exact VC.ret (finG (vs := [.agg #[str z19_3.path, i64 z19_3.mode, str z19_3.data], .bool true]) (.inr rfl) rfl (RVs.cell gagg50 rfl rfl Rd.blk (RVs.tmp rfl (RVs.nil))) () rfl trivial (by (try dsimp only); exact InM.out) (fun _ _ => trivial))
theorem plan_of_ct (r_0 : Sv FilesFile) (p_1 : Str) {r : PlanOne} (hS : Sh.plan_of r_0.l p_1 = some r) :
 Ct Tryz.prog 61 [r_0.val, str p_1] r_0.ok (Ow.emp) (X := Unit) (fun _ => .agg #[str r.file_path, i64 r.file_mode, str r.file_data, .bool r.is]) (fun _ => True) (fun _ => Mo.tt) (fun _ => Ow.emp) := by
 refine Ct.of Tryz.func61 rfl (by kernel_rfl) Tryz.ntmps61 (by simp) fun c => ?_
 unfold Sh.plan_of at hS
 refine VC.seq ?_
 refine VC.region ?_
 refine VL.alloc (cs := [str [], i64 0, str [], .bool false]) (by kernel_rfl) (by decide) fun b4_1 => ?_
 refine VL.to (fun _ _ h => h) ?_
 refine VC.seq ?_
 refine VC.region ?_
 refine VL.q (q_move rfl) (by decide) ?_
 refine VL.q (q_move rfl) (by decide) ?_
 obtain ⟨y10_2, ey10_2, hS⟩ := bd_s hS
 refine VL.q (q_call (files_Row_Get_ct r_0 p_1 ey10_2) rfl (fun _ _ => rfl)) (by decide) ?_
 refine VL.q (q_move rfl) (by decide) ?_
 refine VL.q (q_extract rfl rfl) (by decide) ?_
 refine VL.q (q_extract rfl rfl) (by decide) ?_
 refine VL.alloc (cs := [str [], i64 0, str []]) (by kernel_rfl) (by decide) fun b5_3 => ?_
 refine VL.store (vc := [str y10_2.1.path, i64 y10_2.1.mode, str y10_2.1.data]) (cs' := [str y10_2.1.path, i64 y10_2.1.mode, str y10_2.1.data]) rfl rfl rfl gsz50 rfl rfl (Nat.le_of_ble_eq_true rfl) rfl ?_
 refine VL.q (q_assign rfl) (by decide) ?_
 refine VL.to (fun _ _ h => h) ?_
 refine VC.keep [4, 5, 6] rfl ?_
 refine VC.seq ?_
 refine VC.region ?_
 refine VL.q (q_fes gagg50 rfl rfl) (by decide) ?_
 refine VL.q (q_move rfl) (by decide) ?_
 refine VL.q (q_build (vs := [(0, .agg #[str y10_2.1.path, i64 y10_2.1.mode, str y10_2.1.data]), (1, .bool y10_2.2)]) (cs := #[str y10_2.1.path, i64 y10_2.1.mode, str y10_2.1.data, .bool y10_2.2]) rfl (by kernel_rfl)) (by decide) ?_
 refine VL.store (vc := [str y10_2.1.path, i64 y10_2.1.mode, str y10_2.1.data, .bool y10_2.2]) (cs' := [str y10_2.1.path, i64 y10_2.1.mode, str y10_2.1.data, .bool y10_2.2]) rfl rfl rfl gsz116 rfl rfl (Nat.le_of_ble_eq_true rfl) rfl ?_
 refine VL.to (fun _ _ h => h) ?_
 cases hS
 exact VC.ret (finG (vs := [.agg #[str y10_2.1.path, i64 y10_2.1.mode, str y10_2.1.data, .bool y10_2.2]]) (.inr rfl) rfl (RVs.cell gagg116 rfl rfl Rd.blk (RVs.nil)) () rfl trivial (by (try dsimp only); exact InM.out) (fun _ _ => trivial))
theorem sort73_ct (s : Sv Str) (hb : s.l.length ≤ 4294967296) : Ct Tryz.prog 73 [s.val] Mo.tt (s.own 9) (X := Sv Str) (fun _ => .tuple #[]) (fun q => q.l = Go.S.sortS s.l ∧ q.val = s.val) (fun _ => Mo.tt) (fun q => q.own 9) :=
  Ct.sort (entry_of Tryz.func73 rfl (by kernel_rfl)) (fun blk off cap ss w hH hb hs => Tryz.slices_Sort_string blk off cap ss w hH hb hs) (fun p cap w => Tryz.slices_Sort_string_none p cap w) s 9 hb
theorem compact75_ct (s : Sv Str) (hb : s.l.length ≤ 4294967296) : Ct Tryz.prog 75 [s.val] Mo.tt (s.own 9) (X := Sv Str) (fun q => q.val) (fun q => q.l = Go.S.compactS s.l) (fun _ => Mo.tt) (fun q => q.own 9) :=
  Ct.compact (entry_of Tryz.func75 rfl (by kernel_rfl)) (fun blk off cap ss w hH hb hs => Tryz.slices_Compact_string blk off cap ss w hH hb hs) (fun p cap w => Tryz.slices_Compact_string_empty p cap w) s 9 hb
theorem plan_touched_ct (head_0 : Sv FilesFile) (r_1 : TmergeResult) {r : List Str} (hS : Sh.plan_touched head_0.l r_1.pl = some r) :
 Ct Tryz.prog 57 [head_0.val, .agg #[r_1.files.val, r_1.entries.val, r_1.conflicts.val]] (head_0.ok.and (r_1.files.ok.and (r_1.entries.ok.and r_1.conflicts.ok))) (Ow.emp) (X := Sv Str) (fun x => x.val) (fun x => r = x.l) (fun x => Mo.tt) (fun x => Sv.own x 9) := by
 refine Ct.of Tryz.func57 rfl (by kernel_rfl) Tryz.ntmps57 (by simp) fun c => ?_
 unfold Sh.plan_touched at hS
 refine VC.seq ?_
 refine VC.region ?_
 refine VL.box (cs := [r_1.files.val, r_1.entries.val, r_1.conflicts.val]) rfl rfl (by decide) fun b3_1 => ?_
 refine VL.q (q_assign rfl) (by decide) ?_
 refine VL.to (fun _ _ h => h) ?_
 refine VC.seq ?_
 refine VC.region ?_
 refine VL.q (q_assign rfl) (by decide) ?_
 refine VL.to (fun _ _ h => h) ?_
 refine VC.seq ?_
 refine VC.seq ?_
 refine VC.region ?_
 refine VL.q (q_move rfl) (by decide) ?_
 refine VL.q (q_field gfa34_0 rfl) (by decide) ?_
 refine VL.q (q_fe gone23 rfl rfl) (by decide) ?_
 refine VL.lit (α := Sv FilesFile) (xs := [.tmp 8, .tmp 10]) (vs := [head_0.val, r_1.files.val]) [head_0, r_1.files] Tryz.underlying81 glit23 (by decide) rfl rfl rfl rfl (by decide) (fun h m => List.forall_mem_cons.2 ⟨InM.out (X := head_0.ok) h m, List.forall_mem_cons.2 ⟨InM.out (X := r_1.files.ok) h m, fun _ h => by cases h⟩⟩) (by decide) (fun s11_2 hs11_2 => ?_) (by decide)
 replace hS := lt_to (congrArg (List.map Sv.l) hs11_2) hS
 obtain ⟨y12_4, ey12_4, hS⟩ := bd_s hS
 refine VL.callF (files_Paths_ct s11_2 ey12_4) rfl (by decide) ?_
 rintro q12_4_0 rfl
 try dsimp only
 refine VL.q (q_ln (s := q12_4_0) Tryz.underlying32 rfl) (by decide) ?_
 refine VL.q (q_move rfl) (by decide) ?_
 refine VL.to (fun _ _ h => h) ?_
 refine VC.block ?_
 refine VC.nilO (⟨none, 0, []⟩ : Sv Str) 9 ⟨rfl, rfl⟩ ?_
 refine VC.iter (S := Sv Str × Int) (fun sg => (sg.1.l, sg.2)) (fun sg => [(0, head_0.val), (3, ptr b3_1 0), (5, sg.1.val), (12, q12_4_0.val), (13, i64 (q12_4_0.l.length : Int)), (14, i64 sg.2)]) (fun sg => Mo.tt) (fun sg => Ow.star (Blk b3_1 [r_1.files.val, r_1.entries.val, r_1.conflicts.val] 34) (Ow.star (Sv.own sg.1 9) (Ow.emp))) (⟨none, 0, []⟩, 0) [0, 3, 5, 12, 13, 14] hS rfl ?_
 clear hS
 rintro ⟨out5_5, x14_6⟩ m1 y1 hS hK1
 show VC _ _ _ _ _ [(0, head_0.val), (3, ptr b3_1 0), (5, out5_5.val), (12, q12_4_0.val), (13, i64 (q12_4_0.l.length : Int)), (14, i64 x14_6)] (Mo.and Mo.tt _) (Ow.star (Blk b3_1 [r_1.files.val, r_1.entries.val, r_1.conflicts.val] 34) (Ow.star (Sv.own out5_5 9) (Ow.emp)))
 refine VC.seq ?_
 refine VC.region ?_
 refine VL.q (q_lss rfl rfl) (by decide) ?_
 refine VL.to (fun _ _ h => h) ?_
 refine VC.seq ?_
 refine VC.cond_dec rfl (fun h15 => ?_) (fun h15 => ?_)
 ·
  replace hS := it_t h15 hS
  refine VC.skip_to (fun _ _ h => h) ?_
  refine VC.seq ?_
  refine VC.block ?_
  refine VC.seq ?_
  refine VC.region ?_
  obtain ⟨z16_7, nz16_7, hz16_7, hS⟩ := at_s hS
  refine VL.q (q_ixm (s := q12_4_0) Tryz.underlying32 gsz9 rfl rfl nz16_7 (lt_of_get nz16_7 hz16_7)) (by decide) ?_
  refine VL.q (q_el (s := q12_4_0) gone9 rfl hz16_7 rfl) (by decide) ?_
  refine VL.q (q_assign rfl) (by decide) ?_
  refine VL.to (fun _ _ h => h) ?_
  refine VC.seq ?_
  refine VC.draw ((List.range 8).map fun k => (k, true)) mixed (by kernel_rfl) (by kernel_rfl) (by kernel_rfl) ?_
  refine VD.q rfl (q_move rfl) (by decide) ?_
  refine VD.q rfl (q_move rfl) (by decide) ?_
  obtain ⟨y20_8, ey20_8, hS⟩ := bd_s hS
  refine VD.q rfl (q_call (plan_of_ct head_0 z16_7 ey20_8) rfl (fun _ _ => rfl)) (by decide) ?_
  refine VD.q rfl (q_field gfa34_0 rfl) (by decide) ?_
  refine VD.q rfl (q_fe gone23 rfl rfl) (by decide) ?_
  refine VD.q rfl (q_move rfl) (by decide) ?_
  obtain ⟨y24_9, ey24_9, hS⟩ := bd_s hS
  refine VD.q rfl (q_call (plan_of_ct r_1.files z16_7 ey24_9) rfl (fun _ _ => rfl)) (by decide) ?_
  refine VD.q rfl (q_stneq geqg116 (geqs116 y20_8.file_path y20_8.file_mode y20_8.file_data y20_8.is y24_9.file_path y24_9.file_mode y24_9.file_data y24_9.is) rfl rfl) (by decide) ?_
  refine VD.to (fun _ _ h => h) ?_
  refine VC.keep [0, 3, 5, 12, 13, 14, 7, 25] rfl ?_
  refine VC.cond_ndec rfl (fun h25 => ?_) (fun h25 => ?_)
  ·
   replace hS := it_f h25 hS
   refine VC.region ?_
   refine VL.q (q_move rfl) (by decide) ?_
   refine VL.q (q_move rfl) (by decide) ?_
   refine VL.lit (α := Str) (xs := [.tmp 27]) (vs := [str z16_7]) [z16_7] Tryz.underlying32 glit9 (by decide) rfl rfl rfl rfl (by decide) (fun _ _ _ _ => trivial) (by decide) (fun s28_10 hs28_10 => ?_) (by decide)
   replace hS := lt_to hs28_10 hS
   obtain ⟨b29, hS⟩ := gd_s hS
   refine VL.app (s := out5_5) (r := s28_10) Tryz.underlying32 gapp9 (by decide) rfl Fo.out (ap1 b29) (ap2 b29 (by decide)) (by decide) (fun s29_12 hs29_12 => ?_)
   replace hS := lt_to hs29_12 hS
   refine VL.q (q_assign rfl) (by decide) ?_
   refine VL.to (fun _ _ h => h) ?_
   refine VC.region ?_
   obtain ⟨b30, hS⟩ := gd_s hS
   refine VL.q (q_add rfl rfl b30) (by decide) ?_
   refine VL.q (q_move rfl) (by decide) ?_
   refine VL.rnd (s29_12, (x14_6 + 1)) [0, 3, 5, 12, 13, 14] (fun _ _ h => h) (go2 hS hK1) rfl
  replace hS := it_t h25 hS
  refine VC.skip_to (fun _ _ h => h) ?_
  refine VC.region ?_
  obtain ⟨b30, hS⟩ := gd_s hS
  refine VL.q (q_add rfl rfl b30) (by decide) ?_
  refine VL.q (q_move rfl) (by decide) ?_
  refine VL.rnd (out5_5, (x14_6 + 1)) [0, 3, 5, 12, 13, 14] (fun _ _ h => h) (go2 hS hK1) rfl
 replace hS := it_f h15 hS
 replace hS := up2 hS hK1
 refine VC.exit_to (fun _ _ h => h) ?_
 refine VC.seq ?_
 refine VC.region ?_
 refine VL.q (q_move rfl) (by decide) ?_
 refine VL.q (q_field gfa34_2 rfl) (by decide) ?_
 refine VL.q (q_fe gone32 rfl rfl) (by decide) ?_
 obtain ⟨b34, hS⟩ := gd_s hS
 refine VL.app (s := out5_5) (r := r_1.conflicts) Tryz.underlying32 gapp9 (by decide) rfl Fo.out (ap1 b34) (ap2 b34 (by decide)) (by decide) (fun s34_14 hs34_14 => ?_)
 replace hS := lt_to hs34_14 hS
 refine VL.q (q_assign rfl) (by decide) ?_
 refine VL.to (fun _ _ h => h) ?_
 refine VC.keep [5] rfl ?_
 refine VC.seq ?_
 refine VC.region ?_
 refine VL.q (q_move rfl) (by decide) ?_
 obtain ⟨b36, hS⟩ := gd_s hS
 refine VL.callO (sort73_ct s34_14 b36) rfl (by decide) ?_
 rintro w36_16 ⟨hw36_16, vw36_16⟩
 try dsimp only
 rw [← vw36_16]
 replace hS := lt_to hw36_16 hS
 refine VL.to (fun _ _ h => h) ?_
 refine VC.seq ?_
 refine VC.region ?_
 refine VL.q (q_move rfl) (by decide) ?_
 obtain ⟨b38, hS⟩ := gd_s hS
 refine VL.callO (compact75_ct w36_16 b38) rfl (by decide) ?_
 rintro w38_18 hw38_18
 try dsimp only
 replace hS := lt_to hw38_18 hS
 refine VL.q (q_assign rfl) (by decide) ?_
 refine VL.to (fun _ _ h => h) ?_
 cases hS
 exact VC.ret (fin1 (.inr rfl) rfl rfl w38_18 rfl rfl (by (try dsimp only); exact InM.out) (by (try dsimp only); exact EntO.out))
theorem slices_Clip_files_Row_files_File_ct (s_0 : Sv FilesFile) {r : List FilesFile} (hS : Sh.slices_Clip_files_Row_files_File s_0.l = some r) :
 Ct Tryz.prog 55 [s_0.val] s_0.ok (Ow.emp) (X := Sv FilesFile) (fun x => x.val) (fun x => r = x.l) (fun x => x.ok) (fun x => Ow.emp) := by
 refine Ct.of Tryz.func55 rfl (by kernel_rfl) Tryz.ntmps55 (by simp) fun c => ?_
 unfold Sh.slices_Clip_files_Row_files_File at hS
 refine VC.seq ?_
 refine VC.region ?_
 refine VL.q (q_assign rfl) (by decide) ?_
 refine VL.to (fun _ _ h => h) ?_
 refine VC.seq ?_
 refine VC.region ?_
 refine VL.q (q_move rfl) (by decide) ?_
 refine VL.q (q_move rfl) (by decide) ?_
 refine VL.q (q_ln (s := s_0) Tryz.underlying23 rfl) (by decide) ?_
 refine VL.q (q_move rfl) (by decide) ?_
 refine VL.q (q_ln (s := s_0) Tryz.underlying23 rfl) (by decide) ?_
 obtain ⟨b8, hS⟩ := gd_s hS
 refine VL.stom Tryz.underlying23 gsz50 rfl rfl rfl b8.1 (b8.2) (by decide) fun s8_1 hs8_1 => ?_
 replace hS := lt_to hs8_1 hS
 refine VL.q (q_assign rfl) (by decide) ?_
 refine VL.to (fun _ _ h => h) ?_
 cases hS
 exact VC.ret (fin1 (.inr rfl) rfl rfl s8_1 rfl rfl (by (try dsimp only); exact InM.out) (fun _ _ => trivial))
theorem index_Stage_ct (l_0 : Sv IndexEntry) (n_1 : Int) {r : List FilesFile} (hS : Sh.index_Stage l_0.l n_1 = some r) :
 Ct Tryz.prog 147 [l_0.val, i64 n_1] l_0.ok (Ow.emp) (X := Sv FilesFile) (fun x => x.val) (fun x => r = x.l) (fun x => x.ok) (fun x => Ow.emp) := by
 refine Ct.of Tryz.func147 rfl (by kernel_rfl) Tryz.ntmps147 (by simp) fun c => ?_
 unfold Sh.index_Stage at hS
 refine VC.seq ?_
 refine VC.region ?_
 refine VL.q (q_assign rfl) (by decide) ?_
 refine VL.to (fun _ _ h => h) ?_
 refine VC.seq ?_
 refine VC.region ?_
 refine VL.q (q_assign rfl) (by decide) ?_
 refine VL.to (fun _ _ h => h) ?_
 refine VC.seq ?_
 refine VC.seq ?_
 refine VC.region ?_
 refine VL.q (q_move rfl) (by decide) ?_
 refine VL.q (q_ln (s := l_0) Tryz.underlying29 rfl) (by decide) ?_
 refine VL.q (q_move rfl) (by decide) ?_
 refine VL.to (fun _ _ h => h) ?_
 refine VC.block ?_
 refine VC.nilO (⟨none, 0, []⟩ : Sv FilesFile) 50 ⟨rfl, rfl⟩ ?_
 refine VC.iter (S := Sv FilesFile × Int) (fun sg => (sg.1.l, sg.2)) (fun sg => [(1, i64 n_1), (5, sg.1.val), (8, l_0.val), (9, i64 (l_0.l.length : Int)), (10, i64 sg.2)]) (fun sg => Mo.tt) (fun sg => Ow.star (Sv.own sg.1 50) (Ow.emp)) (⟨none, 0, []⟩, 0) [1, 5, 8, 9, 10] hS rfl ?_
 clear hS
 rintro ⟨out5_1, x10_2⟩ m1 y1 hS hK1
 show VC _ _ _ _ _ [(1, i64 n_1), (5, out5_1.val), (8, l_0.val), (9, i64 (l_0.l.length : Int)), (10, i64 x10_2)] (Mo.and Mo.tt _) (Ow.star (Sv.own out5_1 50) (Ow.emp))
 refine VC.seq ?_
 refine VC.region ?_
 refine VL.q (q_lss rfl rfl) (by decide) ?_
 refine VL.to (fun _ _ h => h) ?_
 refine VC.seq ?_
 refine VC.cond_dec rfl (fun h11 => ?_) (fun h11 => ?_)
 ·
  replace hS := it_t h11 hS
  refine VC.skip_to (fun _ _ h => h) ?_
  refine VC.seq ?_
  refine VC.block ?_
  refine VC.seq ?_
  refine VC.region ?_
  obtain ⟨z12_3, nz12_3, hz12_3, hS⟩ := at_s hS
  refine VL.q (q_ixm (s := l_0) Tryz.underlying29 gsz83 rfl rfl nz12_3 (lt_of_get nz12_3 hz12_3)) (by decide) ?_
  refine VL.q (q_els (s := l_0) gagg83 rfl rfl hz12_3) (by decide) ?_
  refine VL.alloc (cs := [str [], i64 0, i64 0, str [], i64 0, i64 0]) (by kernel_rfl) (by decide) fun b7_4 => ?_
  refine VL.store (vc := [str z12_3.path, i64 z12_3.stage, i64 z12_3.mode, str z12_3.data, i64 z12_3.time, i64 z12_3.size]) (cs' := [str z12_3.path, i64 z12_3.stage, i64 z12_3.mode, str z12_3.data, i64 z12_3.time, i64 z12_3.size]) rfl rfl rfl gsz83 rfl rfl (Nat.le_of_ble_eq_true rfl) rfl ?_
  refine VL.to (fun _ _ h => h) ?_
  refine VC.seq ?_
  refine VC.region ?_
  refine VL.q (q_field gfa83_1 rfl) (by decide) ?_
  refine VL.q (q_fe gone3 rfl rfl) (by decide) ?_
  refine VL.q (q_move rfl) (by decide) ?_
  refine VL.q (q_eql rfl rfl) (by decide) ?_
  refine VL.to (fun _ _ h => h) ?_
  refine VC.cond_dec rfl (fun h17 => ?_) (fun h17 => ?_)
  ·
   replace hS := it_t h17 hS
   refine VC.region ?_
   refine VL.q (q_move rfl) (by decide) ?_
   refine VL.q (q_field gfa83_0 rfl) (by decide) ?_
   refine VL.q (q_fe gone9 rfl rfl) (by decide) ?_
   refine VL.q (q_field gfa83_2 rfl) (by decide) ?_
   refine VL.q (q_fe gone3 rfl rfl) (by decide) ?_
   refine VL.q (q_field gfa83_3 rfl) (by decide) ?_
   refine VL.q (q_fe gone9 rfl rfl) (by decide) ?_
   refine VL.q (q_build (vs := [(0, str z12_3.path), (1, i64 z12_3.mode), (2, str z12_3.data)]) (cs := #[str z12_3.path, i64 z12_3.mode, str z12_3.data]) rfl (by kernel_rfl)) (by decide) ?_
   refine VL.lit (α := FilesFile) (xs := [.tmp 25]) (vs := [.agg #[str z12_3.path, i64 z12_3.mode, str z12_3.data]]) [⟨z12_3.path, z12_3.mode, z12_3.data⟩] Tryz.underlying23 glit50 (by decide) rfl rfl rfl rfl (by decide) (fun _ _ _ _ => trivial) (by decide) (fun s26_5 hs26_5 => ?_) (by decide)
   replace hS := lt_to hs26_5 hS
   obtain ⟨b27, hS⟩ := gd_s hS
   refine VL.app (s := out5_1) (r := s26_5) Tryz.underlying23 gapp50 (by decide) rfl Fo.out (ap1 b27) (ap2 b27 (by decide)) (by decide) (fun s27_7 hs27_7 => ?_)
   replace hS := lt_to hs27_7 hS
   refine VL.q (q_assign rfl) (by decide) ?_
   refine VL.to (fun _ _ h => h) ?_
   refine VC.keep [1, 5, 8, 9, 10] rfl ?_
   refine VC.region ?_
   obtain ⟨b28, hS⟩ := gd_s hS
   refine VL.q (q_add rfl rfl b28) (by decide) ?_
   refine VL.q (q_move rfl) (by decide) ?_
   refine VL.rnd (s27_7, (x10_2 + 1)) [1, 5, 8, 9, 10] (fun _ _ h => h) (go2 hS hK1) rfl
  replace hS := it_f h17 hS
  refine VC.skip_to (fun _ _ h => h) ?_
  refine VC.keep [1, 5, 8, 9, 10] rfl ?_
  refine VC.region ?_
  obtain ⟨b28, hS⟩ := gd_s hS
  refine VL.q (q_add rfl rfl b28) (by decide) ?_
  refine VL.q (q_move rfl) (by decide) ?_
  refine VL.rnd (out5_1, (x10_2 + 1)) [1, 5, 8, 9, 10] (fun _ _ h => h) (go2 hS hK1) rfl
 replace hS := it_f h11 hS
 replace hS := up2 hS hK1
 refine VC.exit_to (fun _ _ h => h) ?_
 refine VC.seq ?_
 refine VC.region ?_
 refine VL.q (q_move rfl) (by decide) ?_
 refine VL.shut out5_1 50 (fun _ _ _ _ => trivial) ?_
 obtain ⟨y30_9, ey30_9, hS⟩ := bd_s hS
 refine VL.callF (slices_Clip_files_Row_files_File_ct out5_1 ey30_9) rfl (by decide) ?_
 rintro q30_9_0 rfl
 try dsimp only
 refine VL.q (q_assign rfl) (by decide) ?_
 refine VL.to (fun _ _ h => h) ?_
 cases hS
 exact VC.ret (fin1 (.inr rfl) rfl rfl q30_9_0 rfl rfl (by (try dsimp only); exact InM.out) (fun _ _ => trivial))
theorem index_Conflicts_ct (l_0 : Sv IndexEntry) {r : List Str} (hS : Sh.index_Conflicts l_0.l = some r) :
 Ct Tryz.prog 78 [l_0.val] l_0.ok (Ow.emp) (X := Sv Str) (fun x => x.val) (fun x => r = x.l) (fun x => x.ok) (fun x => Ow.emp) := by
 refine Ct.of Tryz.func78 rfl (by kernel_rfl) Tryz.ntmps78 (by simp) fun c => ?_
 unfold Sh.index_Conflicts at hS
 refine VC.seq ?_
 refine VC.region ?_
 refine VL.q (q_assign rfl) (by decide) ?_
 refine VL.to (fun _ _ h => h) ?_
 refine VC.seq ?_
 refine VC.region ?_
 refine VL.q (q_assign rfl) (by decide) ?_
 refine VL.to (fun _ _ h => h) ?_
 refine VC.seq ?_
 refine VC.seq ?_
 refine VC.region ?_
 refine VL.q (q_move rfl) (by decide) ?_
 refine VL.q (q_ln (s := l_0) Tryz.underlying29 rfl) (by decide) ?_
 refine VL.q (q_move rfl) (by decide) ?_
 refine VL.to (fun _ _ h => h) ?_
 refine VC.block ?_
 refine VC.nilO (⟨none, 0, []⟩ : Sv Str) 9 ⟨rfl, rfl⟩ ?_
 refine VC.iter (S := Sv Str × Int) (fun sg => (sg.1.l, sg.2)) (fun sg => [(3, sg.1.val), (6, l_0.val), (7, i64 (l_0.l.length : Int)), (8, i64 sg.2)]) (fun sg => Mo.tt) (fun sg => Ow.star (Sv.own sg.1 9) (Ow.emp)) (⟨none, 0, []⟩, 0) [3, 6, 7, 8] hS rfl ?_
 clear hS
 rintro ⟨out3_1, x8_2⟩ m1 y1 hS hK1
 show VC _ _ _ _ _ [(3, out3_1.val), (6, l_0.val), (7, i64 (l_0.l.length : Int)), (8, i64 x8_2)] (Mo.and Mo.tt _) (Ow.star (Sv.own out3_1 9) (Ow.emp))
 refine VC.seq ?_
 refine VC.region ?_
 refine VL.q (q_lss rfl rfl) (by decide) ?_
 refine VL.to (fun _ _ h => h) ?_
 refine VC.seq ?_
 refine VC.cond_dec rfl (fun h9 => ?_) (fun h9 => ?_)
 ·
  replace hS := it_t h9 hS
  refine VC.skip_to (fun _ _ h => h) ?_
  refine VC.seq ?_
  refine VC.block ?_
  refine VC.seq ?_
  refine VC.region ?_
  obtain ⟨z10_3, nz10_3, hz10_3, hS⟩ := at_s hS
  refine VL.q (q_ixm (s := l_0) Tryz.underlying29 gsz83 rfl rfl nz10_3 (lt_of_get nz10_3 hz10_3)) (by decide) ?_
  refine VL.q (q_els (s := l_0) gagg83 rfl rfl hz10_3) (by decide) ?_
  refine VL.alloc (cs := [str [], i64 0, i64 0, str [], i64 0, i64 0]) (by kernel_rfl) (by decide) fun b5_4 => ?_
  refine VL.store (vc := [str z10_3.path, i64 z10_3.stage, i64 z10_3.mode, str z10_3.data, i64 z10_3.time, i64 z10_3.size]) (cs' := [str z10_3.path, i64 z10_3.stage, i64 z10_3.mode, str z10_3.data, i64 z10_3.time, i64 z10_3.size]) rfl rfl rfl gsz83 rfl rfl (Nat.le_of_ble_eq_true rfl) rfl ?_
  refine VL.to (fun _ _ h => h) ?_
  refine VC.seq ?_
  refine VC.region ?_
  refine VL.q (q_field gfa83_1 rfl) (by decide) ?_
  refine VL.q (q_fe gone3 rfl rfl) (by decide) ?_
  refine VL.q (q_neq rfl rfl) (by decide) ?_
  refine VL.to (fun _ _ h => h) ?_
  refine VC.cond_ndec rfl (fun h14 => ?_) (fun h14 => ?_)
  ·
   replace hS := it_f h14 hS
   refine VC.region ?_
   refine VL.q (q_move rfl) (by decide) ?_
   refine VL.q (q_field gfa83_0 rfl) (by decide) ?_
   refine VL.q (q_fe gone9 rfl rfl) (by decide) ?_
   refine VL.lit (α := Str) (xs := [.tmp 17]) (vs := [str z10_3.path]) [z10_3.path] Tryz.underlying32 glit9 (by decide) rfl rfl rfl rfl (by decide) (fun _ _ _ _ => trivial) (by decide) (fun s18_5 hs18_5 => ?_) (by decide)
   replace hS := lt_to hs18_5 hS
   obtain ⟨b19, hS⟩ := gd_s hS
   refine VL.app (s := out3_1) (r := s18_5) Tryz.underlying32 gapp9 (by decide) rfl Fo.out (ap1 b19) (ap2 b19 (by decide)) (by decide) (fun s19_7 hs19_7 => ?_)
   replace hS := lt_to hs19_7 hS
   refine VL.q (q_assign rfl) (by decide) ?_
   refine VL.to (fun _ _ h => h) ?_
   refine VC.keep [3, 6, 7, 8] rfl ?_
   refine VC.region ?_
   obtain ⟨b20, hS⟩ := gd_s hS
   refine VL.q (q_add rfl rfl b20) (by decide) ?_
   refine VL.q (q_move rfl) (by decide) ?_
   refine VL.rnd (s19_7, (x8_2 + 1)) [3, 6, 7, 8] (fun _ _ h => h) (go2 hS hK1) rfl
  replace hS := it_t h14 hS
  refine VC.skip_to (fun _ _ h => h) ?_
  refine VC.keep [3, 6, 7, 8] rfl ?_
  refine VC.region ?_
  obtain ⟨b20, hS⟩ := gd_s hS
  refine VL.q (q_add rfl rfl b20) (by decide) ?_
  refine VL.q (q_move rfl) (by decide) ?_
  refine VL.rnd (out3_1, (x8_2 + 1)) [3, 6, 7, 8] (fun _ _ h => h) (go2 hS hK1) rfl
 replace hS := it_f h9 hS
 replace hS := up2 hS hK1
 refine VC.exit_to (fun _ _ h => h) ?_
 refine VC.seq ?_
 refine VC.region ?_
 refine VL.q (q_move rfl) (by decide) ?_
 obtain ⟨b22, hS⟩ := gd_s hS
 refine VL.callO (sort73_ct out3_1 b22) rfl (by decide) ?_
 rintro w22_9 ⟨hw22_9, vw22_9⟩
 try dsimp only
 rw [← vw22_9]
 replace hS := lt_to hw22_9 hS
 refine VL.to (fun _ _ h => h) ?_
 refine VC.seq ?_
 refine VC.region ?_
 refine VL.q (q_move rfl) (by decide) ?_
 obtain ⟨b24, hS⟩ := gd_s hS
 refine VL.callO (compact75_ct w22_9 b24) rfl (by decide) ?_
 rintro w24_11 hw24_11
 try dsimp only
 replace hS := lt_to hw24_11 hS
 refine VL.shut w24_11 9 (fun _ _ _ _ => trivial) ?_
 obtain ⟨y25_13, ey25_13, hS⟩ := bd_s hS
 refine VL.callF (slices_Clip_string_string_ct w24_11 ey25_13) rfl (by decide) ?_
 rintro q25_13_0 rfl
 try dsimp only
 refine VL.q (q_assign rfl) (by decide) ?_
 refine VL.to (fun _ _ h => h) ?_
 refine VC.keep [2] rfl ?_
 cases hS
 exact VC.ret (fin1 (.inr rfl) rfl rfl q25_13_0 rfl rfl (by (try dsimp only); exact InM.out) (fun _ _ => trivial))
theorem slices_Index_string_string_ct (s_0 : Sv Str) (v_1 : Str) {r : Int} (hS : Sh.slices_Index_string_string s_0.l v_1 = some r) :
 Ct Tryz.prog 148 [s_0.val, str v_1] s_0.ok (Ow.emp) (X := Unit) (fun _ => i64 r) (fun _ => True) (fun _ => Mo.tt) (fun _ => Ow.emp) := by
 refine Ct.of Tryz.func148 rfl (by kernel_rfl) Tryz.ntmps148 (by simp) fun c => ?_
 unfold Sh.slices_Index_string_string at hS
 refine VC.seq ?_
 refine VC.region ?_
 refine VL.q (q_assign rfl) (by decide) ?_
 refine VL.to (fun _ _ h => h) ?_
 refine VC.seq ?_
 refine VC.seq ?_
 refine VC.region ?_
 refine VL.q (q_move rfl) (by decide) ?_
 refine VL.q (q_ln (s := s_0) Tryz.underlying32 rfl) (by decide) ?_
 refine VL.q (q_move rfl) (by decide) ?_
 refine VL.to (fun _ _ h => h) ?_
 refine VC.block ?_
 refine VC.iter (S := Int) (fun (x8_1 : Int) => x8_1) (fun (x8_1 : Int) => [(0, s_0.val), (1, str v_1), (7, i64 (s_0.l.length : Int)), (8, i64 x8_1)]) (fun (x8_1 : Int) => Mo.tt) (fun (x8_1 : Int) => Ow.emp) 0 [0, 1, 7, 8] hS rfl ?_
 clear hS
 rintro x8_1 m1 y1 hS hK1
 show VC _ _ _ _ _ [(0, s_0.val), (1, str v_1), (7, i64 (s_0.l.length : Int)), (8, i64 x8_1)] (Mo.and Mo.tt _) (Ow.emp)
 refine VC.seq ?_
 refine VC.region ?_
 refine VL.q (q_lss rfl rfl) (by decide) ?_
 refine VL.to (fun _ _ h => h) ?_
 refine VC.seq ?_
 refine VC.cond_dec rfl (fun h9 => ?_) (fun h9 => ?_)
 ·
  replace hS := it_t h9 hS
  refine VC.skip_to (fun _ _ h => h) ?_
  refine VC.seq ?_
  refine VC.block ?_
  refine VC.seq ?_
  refine VC.region ?_
  refine VL.q (q_move rfl) (by decide) ?_
  refine VL.q (q_assign rfl) (by decide) ?_
  refine VL.to (fun _ _ h => h) ?_
  refine VC.seq ?_
  refine VC.region ?_
  refine VL.q (q_move rfl) (by decide) ?_
  refine VL.q (q_move rfl) (by decide) ?_
  refine VL.q (q_move rfl) (by decide) ?_
  obtain ⟨z14_2, nz14_2, hz14_2, hS⟩ := at_s hS
  refine VL.q (q_ixm (s := s_0) Tryz.underlying32 gsz9 rfl rfl nz14_2 (lt_of_get nz14_2 hz14_2)) (by decide) ?_
  refine VL.q (q_el (s := s_0) gone9 rfl hz14_2 rfl) (by decide) ?_
  refine VL.q (q_seq rfl rfl) (by decide) ?_
  refine VL.to (fun _ _ h => h) ?_
  refine VC.keep [0, 1, 7, 8, 5, 16] rfl ?_
  refine VC.cond_dec rfl (fun h16 => ?_) (fun h16 => ?_)
  ·
   replace hS := it_t h16 hS
   refine VC.seq ?_
   refine VC.region ?_
   refine VL.q (q_move rfl) (by decide) ?_
   refine VL.q (q_assign rfl) (by decide) ?_
   refine VL.to (fun _ _ h => h) ?_
   replace hS := up2 hS hK1
   cases hS
   exact VC.ret (fin1 (.inr rfl) rfl rfl () rfl trivial (fun _ _ => trivial) (fun _ _ => trivial))
  replace hS := it_f h16 hS
  refine VC.skip_to (fun _ _ h => h) ?_
  refine VC.region ?_
  obtain ⟨b18, hS⟩ := gd_s hS
  refine VL.q (q_add rfl rfl b18) (by decide) ?_
  refine VL.q (q_move rfl) (by decide) ?_
  refine VL.rnd (x8_1 + 1) [0, 1, 7, 8] (fun _ _ h => h) (go2 hS hK1) rfl
 replace hS := it_f h9 hS
 replace hS := up2 hS hK1
 refine VC.exit_to (fun _ _ h => h) ?_
 refine VC.seq ?_
 refine VC.region ?_
 refine VL.q (q_assign rfl) (by decide) ?_
 refine VL.to (fun _ _ h => h) ?_
 cases hS
 exact VC.ret (fin1 (.inr rfl) rfl rfl () rfl trivial (fun _ _ => trivial) (fun _ _ => trivial))
theorem slices_Contains_string_string_ct (s_0 : Sv Str) (v_1 : Str) {r : Bool} (hS : Sh.slices_Contains_string_string s_0.l v_1 = some r) :
 Ct Tryz.prog 69 [s_0.val, str v_1] s_0.ok (Ow.emp) (X := Unit) (fun _ => .bool r) (fun _ => True) (fun _ => Mo.tt) (fun _ => Ow.emp) := by
 refine Ct.of Tryz.func69 rfl (by kernel_rfl) Tryz.ntmps69 (by simp) fun c => ?_
 unfold Sh.slices_Contains_string_string at hS
 refine VC.seq ?_
 refine VC.region ?_
 refine VL.q (q_assign rfl) (by decide) ?_
 refine VL.to (fun _ _ h => h) ?_
 refine VC.seq ?_
 refine VC.region ?_
 refine VL.q (q_move rfl) (by decide) ?_
 refine VL.q (q_move rfl) (by decide) ?_
 obtain ⟨y7_1, ey7_1, hS⟩ := bd_s hS
 refine VL.q (q_call (slices_Index_string_string_ct s_0 v_1 ey7_1) rfl (fun _ _ => rfl)) (by decide) ?_
 refine VL.q (q_geq rfl rfl) (by decide) ?_
 refine VL.q (q_assign rfl) (by decide) ?_
 refine VL.to (fun _ _ h => h) ?_
 cases hS
 exact VC.ret (fin1 (.inr rfl) rfl rfl () rfl trivial (fun _ _ => trivial) (fun _ _ => trivial))
theorem plan_safe_ct (head_0 : Sv FilesFile) (ix_1 : Sv IndexEntry) (work_2 : Sv FilesFile) (p_3 : Str) {r : Bool} (hS : Sh.plan_safe head_0.l ix_1.l work_2.l p_3 = some r) :
 Ct Tryz.prog 68 [head_0.val, ix_1.val, work_2.val, str p_3] (head_0.ok.and (ix_1.ok.and work_2.ok)) (Ow.emp) (X := Unit) (fun _ => .bool r) (fun _ => True) (fun _ => Mo.tt) (fun _ => Ow.emp) := by
 refine Ct.of Tryz.func68 rfl (by kernel_rfl) Tryz.ntmps68 (by simp) fun c => ?_
 unfold Sh.plan_safe at hS
 refine VC.seq ?_
 refine VC.region ?_
 refine VL.q (q_assign rfl) (by decide) ?_
 refine VL.to (fun _ _ h => h) ?_
 refine VC.seq ?_
 refine VC.region ?_
 refine VL.q (q_move rfl) (by decide) ?_
 obtain ⟨y11_1, ey11_1, hS⟩ := bd_s hS
 refine VL.callF (index_Stage_ct ix_1 0 ey11_1) rfl (by decide) ?_
 rintro q11_1_0 rfl
 try dsimp only
 refine VL.q (q_move rfl) (by decide) ?_
 obtain ⟨y13_2, ey13_2, hS⟩ := bd_s hS
 refine VL.q (q_call (plan_of_ct q11_1_0 p_3 ey13_2) rfl (fun _ _ => rfl)) (by decide) ?_
 refine VL.alloc (cs := [str [], i64 0, str [], .bool false]) (by kernel_rfl) (by decide) fun b9_3 => ?_
 refine VL.store (vc := [str y13_2.file_path, i64 y13_2.file_mode, str y13_2.file_data, .bool y13_2.is]) (cs' := [str y13_2.file_path, i64 y13_2.file_mode, str y13_2.file_data, .bool y13_2.is]) rfl rfl rfl gsz116 rfl rfl (Nat.le_of_ble_eq_true rfl) rfl ?_
 refine VL.to (fun _ _ h => h) ?_
 refine VC.seq ?_
 refine VC.draw [(0, true), (1, true), (2, true), (3, true), (4, true), (5, true), (6, true), (7, true), (8, true), (9, true), (10, true), (11, true), (12, true), (13, true), (15, true), (14, false), (16, true), (17, true), (18, true), (19, true)] mixed (by kernel_rfl) (by kernel_rfl) (by kernel_rfl) ?_
 refine VD.q rfl (q_move rfl) (by decide) ?_
 refine VD.q rfl (q_move rfl) (by decide) ?_
 obtain ⟨y16_4, ey16_4, hS⟩ := bd_s hS
 refine VD.q rfl (q_call (plan_of_ct work_2 p_3 ey16_4) rfl (fun _ _ => rfl)) (by decide) ?_
 refine VD.q rfl (q_fes gagg116 rfl rfl) (by decide) ?_
 refine VD.q rfl (q_steql geqg116 (geqs116 y16_4.file_path y16_4.file_mode y16_4.file_data y16_4.is y13_2.file_path y13_2.file_mode y13_2.file_data y13_2.is) rfl rfl) (by decide) ?_
 refine VD.q rfl (q_move rfl) (by decide) ?_
 refine VD.split_dec 19 rfl (fun h19 => ?_) (fun h19 => ?_)
 ·
  replace hS := it_t h19 hS
  refine VD.gy rfl rfl rfl (q_fes gagg116 rfl rfl) (by decide) ?_
  refine VD.gy rfl rfl rfl (q_move rfl) (by decide) ?_
  refine VD.gy rfl rfl rfl (q_move rfl) (by decide) ?_
  obtain ⟨y23_5, ey23_5, hS⟩ := bd_s hS
  refine VD.gy rfl rfl rfl (q_call (plan_of_ct head_0 p_3 ey23_5) rfl (fun _ _ => rfl)) (by decide) ?_
  refine VD.gy rfl rfl rfl (q_steql geqg116 (geqs116 y13_2.file_path y13_2.file_mode y13_2.file_data y13_2.is y23_5.file_path y23_5.file_mode y23_5.file_data y23_5.is) rfl rfl) (by decide) ?_
  refine VD.q rfl (q_pick_t rfl rfl) (by decide) ?_
  refine VD.q rfl (q_move rfl) (by decide) ?_
  refine VD.split_dec 26 rfl (fun h26 => ?_) (fun h26 => ?_)
  ·
   replace hS := it_t h26 hS
   refine VD.gy rfl rfl rfl (q_move rfl) (by decide) ?_
   refine VD.gy rfl rfl rfl (q_move rfl) (by decide) ?_
   refine VD.oneG rfl rfl rfl ?_
   refine VL.guard rfl rfl ?_
   obtain ⟨y28_6, ey28_6, hS⟩ := bd_s hS
   refine VL.callF (index_Conflicts_ct ix_1 ey28_6) rfl (by decide) ?_
   rintro q28_6_0 rfl
   try dsimp only
   refine VL.back (D' := [(15, str p_3)]) (by kernel_rfl) (Pend.consG rfl rfl rfl (q_move rfl) (Pend.nil)) ?_
   obtain ⟨y30_7, ey30_7, hS⟩ := bd_s hS
   refine VD.gy rfl rfl rfl (q_call (slices_Contains_string_string_ct q28_6_0 p_3 ey30_7) rfl (fun _ _ => rfl)) (by decide) ?_
   refine VD.gy rfl rfl rfl (q_not rfl) (by decide) ?_
   refine VD.q rfl (q_pick_t rfl rfl) (by decide) ?_
   refine VD.q rfl (q_assign rfl) (by decide) ?_
   refine VD.to (fun _ _ h => h) ?_
   refine VC.keep [8] rfl ?_
   cases hS
   exact VC.ret (fin1 (.inr rfl) rfl rfl () rfl trivial (fun _ _ => trivial) (fun _ _ => trivial))
  replace hS := it_f h26 hS
  refine VD.gn rfl rfl rfl rfl (by decide) ?_
  refine VD.gn rfl rfl rfl rfl (by decide) ?_
  refine VD.oneN (D' := [(15, undef)]) rfl rfl rfl (by decide) (by decide) (by kernel_rfl) (Pend.consN rfl rfl rfl rfl (Pend.nil)) ?_
  refine VD.gn rfl rfl rfl rfl (by decide) ?_
  refine VD.gn rfl rfl rfl rfl (by decide) ?_
  refine VD.q rfl (q_pick_f rfl rfl) (by decide) ?_
  refine VD.q rfl (q_assign rfl) (by decide) ?_
  refine VD.to (fun _ _ h => h) ?_
  refine VC.keep [8] rfl ?_
  cases hS
  exact VC.ret (fin1 (.inr rfl) rfl rfl () rfl trivial (fun _ _ => trivial) (fun _ _ => trivial))
 replace hS := it_f h19 hS
 refine VD.gn rfl rfl rfl rfl (by decide) ?_
 refine VD.gn rfl rfl rfl rfl (by decide) ?_
 refine VD.gn rfl rfl rfl rfl (by decide) ?_
 refine VD.gn rfl rfl rfl rfl (by decide) ?_
 refine VD.gn rfl rfl rfl rfl (by decide) ?_
 refine VD.q rfl (q_pick_f rfl rfl) (by decide) ?_
 refine VD.q rfl (q_move rfl) (by decide) ?_
 refine VD.gn rfl rfl rfl rfl (by decide) ?_
 refine VD.gn rfl rfl rfl rfl (by decide) ?_
 refine VD.oneN (D' := [(15, undef)]) rfl rfl rfl (by decide) (by decide) (by kernel_rfl) (Pend.consN rfl rfl rfl rfl (Pend.nil)) ?_
 refine VD.gn rfl rfl rfl rfl (by decide) ?_
 refine VD.gn rfl rfl rfl rfl (by decide) ?_
 refine VD.q rfl (q_pick_f rfl rfl) (by decide) ?_
 refine VD.q rfl (q_assign rfl) (by decide) ?_
 refine VD.to (fun _ _ h => h) ?_
 refine VC.keep [8] rfl ?_
 cases hS
 exact VC.ret (fin1 (.inr rfl) rfl rfl () rfl trivial (fun _ _ => trivial) (fun _ _ => trivial))
theorem internal_stringslite_HasPrefix_ct (s_0 : Str) (prefix_1 : Str) {r : Bool} (hS : Sh.internal_stringslite_HasPrefix s_0 prefix_1 = some r) :
 Ct Tryz.prog 285 [str s_0, str prefix_1] Mo.tt (Ow.emp) (X := Unit) (fun _ => .bool r) (fun _ => True) (fun _ => Mo.tt) (fun _ => Ow.emp) := by
 refine Ct.of Tryz.func285 rfl (by kernel_rfl) Tryz.ntmps285 (by simp) fun c => ?_
 unfold Sh.internal_stringslite_HasPrefix at hS
 refine VC.seq ?_
 refine VC.region ?_
 refine VL.q (q_assign rfl) (by decide) ?_
 refine VL.to (fun _ _ h => h) ?_
 refine VC.seq ?_
 refine VC.region ?_
 refine VL.q (q_move rfl) (by decide) ?_
 refine VL.q (q_slen Tryz.underlying9 rfl) (by decide) ?_
 refine VL.q (q_move rfl) (by decide) ?_
 refine VL.q (q_slen Tryz.underlying9 rfl) (by decide) ?_
 refine VL.q (q_geq rfl rfl) (by decide) ?_
 refine VL.q (q_move rfl) (by decide) ?_
 refine VL.split_dec 10 rfl (fun h10 => ?_) (fun h10 => ?_)
 ·
  replace hS := it_t h10 hS
  refine VL.gy rfl rfl (q_move rfl) (by decide) ?_
  refine VL.gy rfl rfl (q_move rfl) (by decide) ?_
  refine VL.gy rfl rfl (q_slen Tryz.underlying9 rfl) (by decide) ?_
  obtain ⟨b14, hS⟩ := gd_s hS
  obtain ⟨y14_1, ey14_1, hS⟩ := lt_s hS
  refine VL.gy rfl rfl (q_stoE Tryz.underlying9 rfl rfl b14.1 b14.2 ey14_1) (by decide) ?_
  refine VL.gy rfl rfl (q_move rfl) (by decide) ?_
  refine VL.gy rfl rfl (q_seq rfl rfl) (by decide) ?_
  refine VL.q (q_pick_t rfl rfl) (by decide) ?_
  refine VL.q (q_assign rfl) (by decide) ?_
  refine VL.to (fun _ _ h => h) ?_
  refine VC.keep [4] rfl ?_
  cases hS
  exact VC.ret (fin1 (.inr rfl) rfl rfl () rfl trivial (fun _ _ => trivial) (fun _ _ => trivial))
 replace hS := it_f h10 hS
 refine VL.gn rfl rfl rfl (by decide) ?_
 refine VL.gn rfl rfl rfl (by decide) ?_
 refine VL.gn rfl rfl rfl (by decide) ?_
 refine VL.gn rfl rfl rfl (by decide) ?_
 refine VL.gn rfl rfl rfl (by decide) ?_
 refine VL.gn rfl rfl rfl (by decide) ?_
 refine VL.q (q_pick_f rfl rfl) (by decide) ?_
 refine VL.q (q_assign rfl) (by decide) ?_
 refine VL.to (fun _ _ h => h) ?_
 refine VC.keep [4] rfl ?_
 cases hS
 exact VC.ret (fin1 (.inr rfl) rfl rfl () rfl trivial (fun _ _ => trivial) (fun _ _ => trivial))
theorem strings_HasPrefix_ct (s_0 : Str) (prefix_1 : Str) {r : Bool} (hS : Sh.strings_HasPrefix s_0 prefix_1 = some r) :
 Ct Tryz.prog 224 [str s_0, str prefix_1] Mo.tt (Ow.emp) (X := Unit) (fun _ => .bool r) (fun _ => True) (fun _ => Mo.tt) (fun _ => Ow.emp) := by
 refine Ct.of Tryz.func224 rfl (by kernel_rfl) Tryz.ntmps224 (by simp) fun c => ?_
 unfold Sh.strings_HasPrefix at hS
 refine VC.seq ?_
 refine VC.region ?_
 refine VL.q (q_assign rfl) (by decide) ?_
 refine VL.to (fun _ _ h => h) ?_
 refine VC.seq ?_
 refine VC.region ?_
 refine VL.q (q_move rfl) (by decide) ?_
 refine VL.q (q_move rfl) (by decide) ?_
 obtain ⟨y7_1, ey7_1, hS⟩ := bd_s hS
 refine VL.q (q_call (internal_stringslite_HasPrefix_ct s_0 prefix_1 ey7_1) rfl (fun _ _ => rfl)) (by decide) ?_
 refine VL.q (q_assign rfl) (by decide) ?_
 refine VL.to (fun _ _ h => h) ?_
 cases hS
 exact VC.ret (fin1 (.inr rfl) rfl rfl () rfl trivial (fun _ _ => trivial) (fun _ _ => trivial))
theorem path_Under_ct (p_0 : Str) (dir_1 : Str) {r : Bool} (hS : Sh.path_Under p_0 dir_1 = some r) :
 Ct Tryz.prog 150 [str p_0, str dir_1] Mo.tt (Ow.emp) (X := Unit) (fun _ => .bool r) (fun _ => True) (fun _ => Mo.tt) (fun _ => Ow.emp) := by
 refine Ct.of Tryz.func150 rfl (by kernel_rfl) Tryz.ntmps150 (by simp) fun c => ?_
 unfold Sh.path_Under at hS
 refine VC.seq ?_
 refine VC.region ?_
 refine VL.q (q_assign rfl) (by decide) ?_
 refine VL.to (fun _ _ h => h) ?_
 refine VC.seq ?_
 refine VC.seq ?_
 refine VC.region ?_
 refine VL.q (q_move rfl) (by decide) ?_
 refine VL.q (q_seq rfl rfl) (by decide) ?_
 refine VL.to (fun _ _ h => h) ?_
 refine VC.cond_dec rfl (fun h6 => ?_) (fun h6 => ?_)
 ·
  replace hS := it_t h6 hS
  refine VC.seq ?_
  refine VC.region ?_
  refine VL.q (q_move rfl) (by decide) ?_
  refine VL.q (q_sne rfl rfl) (by decide) ?_
  refine VL.q (q_assign rfl) (by decide) ?_
  refine VL.to (fun _ _ h => h) ?_
  cases hS
  exact VC.ret (fin1 (.inr rfl) rfl rfl () rfl trivial (fun _ _ => trivial) (fun _ _ => trivial))
 replace hS := it_f h6 hS
 refine VC.skip_to (fun _ _ h => h) ?_
 refine VC.seq ?_
 refine VC.region ?_
 refine VL.q (q_move rfl) (by decide) ?_
 refine VL.q (q_slen Tryz.underlying9 rfl) (by decide) ?_
 refine VL.q (q_move rfl) (by decide) ?_
 refine VL.q (q_slen Tryz.underlying9 rfl) (by decide) ?_
 obtain ⟨b13, hS⟩ := gd_s hS
 refine VL.q (q_add rfl rfl b13) (by decide) ?_
 refine VL.q (q_gtr rfl rfl) (by decide) ?_
 refine VL.q (q_move rfl) (by decide) ?_
 refine VL.split_dec 15 rfl (fun h15 => ?_) (fun h15 => ?_)
 ·
  replace hS := it_t h15 hS
  refine VL.gy rfl rfl (q_move rfl) (by decide) ?_
  refine VL.gy rfl rfl (q_move rfl) (by decide) ?_
  obtain ⟨b18, hS⟩ := gd_s hS
  obtain ⟨y18_1, ey18_1, hS⟩ := lt_s hS
  refine VL.gy rfl rfl (q_catE rfl rfl b18 ey18_1) (by decide) ?_
  obtain ⟨y19_2, ey19_2, hS⟩ := bd_s hS
  refine VL.gy rfl rfl (q_call (strings_HasPrefix_ct p_0 y18_1 ey19_2) rfl (fun _ _ => rfl)) (by decide) ?_
  refine VL.q (q_pick_t rfl rfl) (by decide) ?_
  refine VL.q (q_assign rfl) (by decide) ?_
  refine VL.to (fun _ _ h => h) ?_
  refine VC.keep [4] rfl ?_
  cases hS
  exact VC.ret (fin1 (.inr rfl) rfl rfl () rfl trivial (fun _ _ => trivial) (fun _ _ => trivial))
 replace hS := it_f h15 hS
 refine VL.gn rfl rfl rfl (by decide) ?_
 refine VL.gn rfl rfl rfl (by decide) ?_
 refine VL.gn rfl rfl rfl (by decide) ?_
 refine VL.gn rfl rfl rfl (by decide) ?_
 refine VL.q (q_pick_f rfl rfl) (by decide) ?_
 refine VL.q (q_assign rfl) (by decide) ?_
 refine VL.to (fun _ _ h => h) ?_
 refine VC.keep [4] rfl ?_
 cases hS
 exact VC.ret (fin1 (.inr rfl) rfl rfl () rfl trivial (fun _ _ => trivial) (fun _ _ => trivial))
theorem path_Clash_ct (a_0 : Str) (b_1 : Str) {r : Bool} (hS : Sh.path_Clash a_0 b_1 = some r) :
 Ct Tryz.prog 72 [str a_0, str b_1] Mo.tt (Ow.emp) (X := Unit) (fun _ => .bool r) (fun _ => True) (fun _ => Mo.tt) (fun _ => Ow.emp) := by
 refine Ct.of Tryz.func72 rfl (by kernel_rfl) Tryz.ntmps72 (by simp) fun c => ?_
 unfold Sh.path_Clash at hS
 refine VC.seq ?_
 refine VC.region ?_
 refine VL.q (q_assign rfl) (by decide) ?_
 refine VL.to (fun _ _ h => h) ?_
 refine VC.seq ?_
 refine VC.region ?_
 refine VL.q (q_move rfl) (by decide) ?_
 refine VL.q (q_sne rfl rfl) (by decide) ?_
 refine VL.q (q_move rfl) (by decide) ?_
 refine VL.split_ndec 7 rfl (fun h7 => ?_) (fun h7 => ?_)
 ·
  replace hS := it_f h7 hS
  refine VL.gy rfl rfl (q_move rfl) (by decide) ?_
  refine VL.gy rfl rfl (q_sne rfl rfl) (by decide) ?_
  refine VL.q (q_pick_t rfl rfl) (by decide) ?_
  refine VL.q (q_move rfl) (by decide) ?_
  refine VL.split_ndec 11 rfl (fun h11 => ?_) (fun h11 => ?_)
  ·
   replace hS := it_f h11 hS
   refine VL.gy rfl rfl (q_move rfl) (by decide) ?_
   refine VL.gy rfl rfl (q_move rfl) (by decide) ?_
   obtain ⟨y14_1, ey14_1, hS⟩ := bd_s hS
   refine VL.gy rfl rfl (q_call (path_Under_ct a_0 b_1 ey14_1) rfl (fun _ _ => rfl)) (by decide) ?_
   refine VL.gy rfl rfl (q_move rfl) (by decide) ?_
   refine VL.split 15 rfl (fun h15 => ?_) (fun h15 => ?_)
   ·
    replace hS := it_t h15 hS
    refine VL.gn rfl rfl rfl (by decide) ?_
    refine VL.gn rfl rfl rfl (by decide) ?_
    refine VL.gn rfl rfl rfl (by decide) ?_
    refine VL.gy rfl rfl (q_pick_t rfl rfl) (by decide) ?_
    refine VL.q (q_pick_t rfl rfl) (by decide) ?_
    refine VL.q (q_assign rfl) (by decide) ?_
    refine VL.to (fun _ _ h => h) ?_
    refine VC.keep [4] rfl ?_
    cases hS
    exact VC.ret (fin1 (.inr rfl) rfl rfl () rfl trivial (fun _ _ => trivial) (fun _ _ => trivial))
   replace hS := it_b h15 hS
   refine VL.gy rfl rfl (q_move rfl) (by decide) ?_
   refine VL.gy rfl rfl (q_move rfl) (by decide) ?_
   obtain ⟨y18_2, ey18_2, hS⟩ := bd_s hS
   refine VL.gy rfl rfl (q_call (path_Under_ct b_1 a_0 ey18_2) rfl (fun _ _ => rfl)) (by decide) ?_
   refine VL.gy rfl rfl (q_pick_f rfl rfl) (by decide) ?_
   refine VL.q (q_pick_t rfl rfl) (by decide) ?_
   refine VL.q (q_assign rfl) (by decide) ?_
   refine VL.to (fun _ _ h => h) ?_
   refine VC.keep [4] rfl ?_
   cases hS
   exact VC.ret (fin1 (.inr rfl) rfl rfl () rfl trivial (fun _ _ => trivial) (fun _ _ => trivial))
  replace hS := it_t h11 hS
  refine VL.gn rfl rfl rfl (by decide) ?_
  refine VL.gn rfl rfl rfl (by decide) ?_
  refine VL.gn rfl rfl rfl (by decide) ?_
  refine VL.gn rfl rfl rfl (by decide) ?_
  refine VL.gu rfl rfl (by decide) ?_
  refine VL.gu rfl rfl (by decide) ?_
  refine VL.gu rfl rfl (by decide) ?_
  refine VL.gn rfl rfl rfl (by decide) ?_
  refine VL.q (q_pick_f rfl rfl) (by decide) ?_
  refine VL.q (q_assign rfl) (by decide) ?_
  refine VL.to (fun _ _ h => h) ?_
  refine VC.keep [4] rfl ?_
  cases hS
  exact VC.ret (fin1 (.inr rfl) rfl rfl () rfl trivial (fun _ _ => trivial) (fun _ _ => trivial))
 replace hS := it_t h7 hS
 refine VL.gn rfl rfl rfl (by decide) ?_
 refine VL.gn rfl rfl rfl (by decide) ?_
 refine VL.q (q_pick_f rfl rfl) (by decide) ?_
 refine VL.q (q_move rfl) (by decide) ?_
 refine VL.gn rfl rfl rfl (by decide) ?_
 refine VL.gn rfl rfl rfl (by decide) ?_
 refine VL.gn rfl rfl rfl (by decide) ?_
 refine VL.gn rfl rfl rfl (by decide) ?_
 refine VL.gu rfl rfl (by decide) ?_
 refine VL.gu rfl rfl (by decide) ?_
 refine VL.gu rfl rfl (by decide) ?_
 refine VL.gn rfl rfl rfl (by decide) ?_
 refine VL.q (q_pick_f rfl rfl) (by decide) ?_
 refine VL.q (q_assign rfl) (by decide) ?_
 refine VL.to (fun _ _ h => h) ?_
 refine VC.keep [4] rfl ?_
 cases hS
 exact VC.ret (fin1 (.inr rfl) rfl rfl () rfl trivial (fun _ _ => trivial) (fun _ _ => trivial))
theorem plan_Lost_1_ct (p_0 : Str) (a_1_b : Nat) (a_1 : TmergeResult) (a_2_b : Nat) (a_2 : FilesFile) {r : Bool} (hS : Sh.plan_Lost_1 p_0 a_1.pl a_2 = some r) :
 Ct Tryz.prog 71 [str p_0, ptr a_1_b 0, ptr a_2_b 0] (a_1.files.ok.and (a_1.entries.ok.and (a_1.conflicts.ok.and ((Cells a_1_b 0 [a_1.files.val, a_1.entries.val, a_1.conflicts.val]).and (Cells a_2_b 0 [str a_2.path, i64 a_2.mode, str a_2.data]))))) (Ow.emp) (X := Unit) (fun _ => .bool r) (fun _ => True) (fun _ => Mo.tt) (fun _ => Ow.emp) := by
 refine Ct.of Tryz.func71 rfl (by kernel_rfl) Tryz.ntmps71 (by simp) fun c => ?_
 unfold Sh.plan_Lost_1 at hS
 refine VC.seq ?_
 refine VC.region ?_
 refine VL.q (q_assign rfl) (by decide) ?_
 refine VL.to (fun _ _ h => h) ?_
 refine VC.seq ?_
 refine VC.region ?_
 refine VL.q (q_field gfa34_0 rfl) (by decide) ?_
 refine VL.q (q_fm gone23 rfl rfl) (by decide) ?_
 refine VL.q (q_move rfl) (by decide) ?_
 obtain ⟨y8_1, ey8_1, hS⟩ := bd_s hS
 refine VL.q (q_call (plan_of_ct a_1.files p_0 ey8_1) rfl (fun _ _ => rfl)) (by decide) ?_
 refine VL.q (q_fld Tryz.underlying116 rfl gone4 rfl rfl) (by decide) ?_
 refine VL.q (q_move rfl) (by decide) ?_
 refine VL.split 10 rfl (fun h10 => ?_) (fun h10 => ?_)
 ·
  replace hS := it_t h10 hS
  refine VL.gy rfl rfl (q_move rfl) (by decide) ?_
  refine VL.gy rfl rfl (q_field gfa50_0 rfl) (by decide) ?_
  refine VL.gy rfl rfl (q_fm gone9 rfl rfl) (by decide) ?_
  obtain ⟨y14_2, ey14_2, hS⟩ := bd_s hS
  refine VL.gy rfl rfl (q_call (path_Clash_ct p_0 a_2.path ey14_2) rfl (fun _ _ => rfl)) (by decide) ?_
  refine VL.q (q_pick_t rfl rfl) (by decide) ?_
  refine VL.q (q_assign rfl) (by decide) ?_
  refine VL.to (fun _ _ h => h) ?_
  refine VC.keep [4] rfl ?_
  cases hS
  exact VC.ret (fin1 (.inr rfl) rfl rfl () rfl trivial (fun _ _ => trivial) (fun _ _ => trivial))
 replace hS := it_b h10 hS
 refine VL.gn rfl rfl rfl (by decide) ?_
 refine VL.gn rfl rfl rfl (by decide) ?_
 refine VL.gn rfl rfl rfl (by decide) ?_
 refine VL.gn rfl rfl rfl (by decide) ?_
 refine VL.q (q_pick_f rfl rfl) (by decide) ?_
 refine VL.q (q_assign rfl) (by decide) ?_
 refine VL.to (fun _ _ h => h) ?_
 refine VC.keep [4] rfl ?_
 cases hS
 exact VC.ret (fin1 (.inr rfl) rfl rfl () rfl trivial (fun _ _ => trivial) (fun _ _ => trivial))
theorem slices_IndexFunc_string_string_ct (s_0 : Sv Str) (f_1_0_b : Nat) (f_1_0 : TmergeResult) (f_1_1_b : Nat) (f_1_1 : FilesFile) {r : Int} (hS : Sh.slices_IndexFunc_string_string s_0.l f_1_0.pl f_1_1 = some r) :
 Ct Tryz.prog 149 [s_0.val, .func (.func 71) #[] #[ptr f_1_0_b 0, ptr f_1_1_b 0]] (s_0.ok.and (f_1_0.files.ok.and (f_1_0.entries.ok.and (f_1_0.conflicts.ok.and ((Cells f_1_0_b 0 [f_1_0.files.val, f_1_0.entries.val, f_1_0.conflicts.val]).and (Cells f_1_1_b 0 [str f_1_1.path, i64 f_1_1.mode, str f_1_1.data])))))) (Ow.emp) (X := Unit) (fun _ => i64 r) (fun _ => True) (fun _ => Mo.tt) (fun _ => Ow.emp) := by
 refine Ct.of Tryz.func149 rfl (by kernel_rfl) Tryz.ntmps149 (by simp) fun c => ?_
 unfold Sh.slices_IndexFunc_string_string at hS
 refine VC.seq ?_
 refine VC.region ?_
 refine VL.q (q_assign rfl) (by decide) ?_
 refine VL.to (fun _ _ h => h) ?_
 refine VC.seq ?_
 refine VC.seq ?_
 refine VC.region ?_
 refine VL.q (q_move rfl) (by decide) ?_
 refine VL.q (q_ln (s := s_0) Tryz.underlying32 rfl) (by decide) ?_
 refine VL.q (q_move rfl) (by decide) ?_
 refine VL.to (fun _ _ h => h) ?_
 refine VC.block ?_
 refine VC.iter (S := Int) (fun (x8_1 : Int) => x8_1) (fun (x8_1 : Int) => [(0, s_0.val), (1, .func (.func 71) #[] #[ptr f_1_0_b 0, ptr f_1_1_b 0]), (7, i64 (s_0.l.length : Int)), (8, i64 x8_1)]) (fun (x8_1 : Int) => Mo.tt) (fun (x8_1 : Int) => Ow.emp) 0 [0, 1, 7, 8] hS rfl ?_
 clear hS
 rintro x8_1 m1 y1 hS hK1
 show VC _ _ _ _ _ [(0, s_0.val), (1, .func (.func 71) #[] #[ptr f_1_0_b 0, ptr f_1_1_b 0]), (7, i64 (s_0.l.length : Int)), (8, i64 x8_1)] (Mo.and Mo.tt _) (Ow.emp)
 refine VC.seq ?_
 refine VC.region ?_
 refine VL.q (q_lss rfl rfl) (by decide) ?_
 refine VL.to (fun _ _ h => h) ?_
 refine VC.seq ?_
 refine VC.cond_dec rfl (fun h9 => ?_) (fun h9 => ?_)
 ·
  replace hS := it_t h9 hS
  refine VC.skip_to (fun _ _ h => h) ?_
  refine VC.seq ?_
  refine VC.block ?_
  refine VC.seq ?_
  refine VC.region ?_
  refine VL.q (q_move rfl) (by decide) ?_
  refine VL.q (q_assign rfl) (by decide) ?_
  refine VL.to (fun _ _ h => h) ?_
  refine VC.seq ?_
  refine VC.region ?_
  refine VL.q (q_move rfl) (by decide) ?_
  refine VL.q (q_move rfl) (by decide) ?_
  refine VL.q (q_move rfl) (by decide) ?_
  obtain ⟨z14_2, nz14_2, hz14_2, hS⟩ := at_s hS
  refine VL.q (q_ixm (s := s_0) Tryz.underlying32 gsz9 rfl rfl nz14_2 (lt_of_get nz14_2 hz14_2)) (by decide) ?_
  refine VL.q (q_el (s := s_0) gone9 rfl hz14_2 rfl) (by decide) ?_
  obtain ⟨y16_3, ey16_3, hS⟩ := bd_s hS
  refine VL.q (q_callVC (vs := [str z14_2]) (caps := [ptr f_1_0_b 0, ptr f_1_1_b 0]) (plan_Lost_1_ct z14_2 f_1_0_b f_1_0 f_1_1_b f_1_1 ey16_3) rfl rfl (fun _ _ => rfl)) (by decide) ?_
  refine VL.to (fun _ _ h => h) ?_
  refine VC.keep [0, 1, 7, 8, 5, 16] rfl ?_
  refine VC.cond rfl (fun h16 => ?_) (fun h16 => ?_)
  ·
   replace hS := it_t h16 hS
   refine VC.seq ?_
   refine VC.region ?_
   refine VL.q (q_move rfl) (by decide) ?_
   refine VL.q (q_assign rfl) (by decide) ?_
   refine VL.to (fun _ _ h => h) ?_
   replace hS := up2 hS hK1
   cases hS
   exact VC.ret (fin1 (.inr rfl) rfl rfl () rfl trivial (fun _ _ => trivial) (fun _ _ => trivial))
  replace hS := it_b h16 hS
  refine VC.skip_to (fun _ _ h => h) ?_
  refine VC.region ?_
  obtain ⟨b18, hS⟩ := gd_s hS
  refine VL.q (q_add rfl rfl b18) (by decide) ?_
  refine VL.q (q_move rfl) (by decide) ?_
  refine VL.rnd (x8_1 + 1) [0, 1, 7, 8] (fun _ _ h => h) (go2 hS hK1) rfl
 replace hS := it_f h9 hS
 replace hS := up2 hS hK1
 refine VC.exit_to (fun _ _ h => h) ?_
 refine VC.seq ?_
 refine VC.region ?_
 refine VL.q (q_assign rfl) (by decide) ?_
 refine VL.to (fun _ _ h => h) ?_
 cases hS
 exact VC.ret (fin1 (.inr rfl) rfl rfl () rfl trivial (fun _ _ => trivial) (fun _ _ => trivial))
theorem slices_ContainsFunc_string_string_ct (s_0 : Sv Str) (f_1_0_b : Nat) (f_1_0 : TmergeResult) (f_1_1_b : Nat) (f_1_1 : FilesFile) {r : Bool} (hS : Sh.slices_ContainsFunc_string_string s_0.l f_1_0.pl f_1_1 = some r) :
 Ct Tryz.prog 70 [s_0.val, .func (.func 71) #[] #[ptr f_1_0_b 0, ptr f_1_1_b 0]] (s_0.ok.and (f_1_0.files.ok.and (f_1_0.entries.ok.and (f_1_0.conflicts.ok.and ((Cells f_1_0_b 0 [f_1_0.files.val, f_1_0.entries.val, f_1_0.conflicts.val]).and (Cells f_1_1_b 0 [str f_1_1.path, i64 f_1_1.mode, str f_1_1.data])))))) (Ow.emp) (X := Unit) (fun _ => .bool r) (fun _ => True) (fun _ => Mo.tt) (fun _ => Ow.emp) := by
 refine Ct.of Tryz.func70 rfl (by kernel_rfl) Tryz.ntmps70 (by simp) fun c => ?_
 unfold Sh.slices_ContainsFunc_string_string at hS
 refine VC.seq ?_
 refine VC.region ?_
 refine VL.q (q_assign rfl) (by decide) ?_
 refine VL.to (fun _ _ h => h) ?_
 refine VC.seq ?_
 refine VC.region ?_
 refine VL.q (q_move rfl) (by decide) ?_
 refine VL.q (q_move rfl) (by decide) ?_
 obtain ⟨y7_1, ey7_1, hS⟩ := bd_s hS
 refine VL.q (q_callR (slices_IndexFunc_string_string_ct s_0 f_1_0_b f_1_0 f_1_1_b f_1_1 ey7_1) rfl (fun _ _ => rfl)) (by decide) ?_
 refine VL.q (q_geq rfl rfl) (by decide) ?_
 refine VL.q (q_assign rfl) (by decide) ?_
 refine VL.to (fun _ _ h => h) ?_
 cases hS
 exact VC.ret (fin1 (.inr rfl) rfl rfl () rfl trivial (fun _ _ => trivial) (fun _ _ => trivial))
theorem plan_Lost_ct (head_0 : Sv FilesFile) (r_1 : TmergeResult) (ix_2 : Sv IndexEntry) (work_3 : Sv FilesFile) {r : List Str} (hS : Sh.plan_Lost head_0.l r_1.pl ix_2.l work_3.l = some r) :
 Ct Tryz.prog 21 [head_0.val, .agg #[r_1.files.val, r_1.entries.val, r_1.conflicts.val], ix_2.val, work_3.val] (head_0.ok.and (r_1.files.ok.and (r_1.entries.ok.and (r_1.conflicts.ok.and (ix_2.ok.and work_3.ok))))) (Ow.emp) (X := Sv Str) (fun x => x.val) (fun x => r = x.l) (fun x => x.ok) (fun x => Ow.emp) := by
 refine Ct.of Tryz.func21 rfl (by kernel_rfl) Tryz.ntmps21 (by simp) fun c => ?_
 unfold Sh.plan_Lost at hS
 refine VC.seq ?_
 refine VC.region ?_
 refine VL.box (cs := [r_1.files.val, r_1.entries.val, r_1.conflicts.val]) rfl rfl (by decide) fun b5_1 => ?_
 refine VL.q (q_assign rfl) (by decide) ?_
 refine VL.to (fun _ _ h => h) ?_
 refine VC.seq ?_
 refine VC.region ?_
 refine VL.q (q_move rfl) (by decide) ?_
 refine VL.q (q_fes gagg34 rfl rfl) (by decide) ?_
 obtain ⟨y17_2, ey17_2, hS⟩ := bd_s hS
 refine VL.callO (plan_touched_ct head_0 r_1 ey17_2) rfl (by decide) ?_
 rintro q17_2_0 rfl
 try dsimp only
 refine VL.q (q_assign rfl) (by decide) ?_
 refine VL.to (fun _ _ h => h) ?_
 refine VC.seq ?_
 refine VC.region ?_
 refine VL.q (q_assign rfl) (by decide) ?_
 refine VL.to (fun _ _ h => h) ?_
 refine VC.seq ?_
 refine VC.seq ?_
 refine VC.region ?_
 refine VL.q (q_move rfl) (by decide) ?_
 refine VL.q (q_ln (s := q17_2_0) Tryz.underlying32 rfl) (by decide) ?_
 refine VL.q (q_move rfl) (by decide) ?_
 refine VL.to (fun _ _ h => h) ?_
 refine VC.block ?_
 refine VC.nilO (⟨none, 0, []⟩ : Sv Str) 9 ⟨rfl, rfl⟩ ?_
 refine VC.iter (S := Sv Str × Int) (fun sg => (sg.1.l, sg.2)) (fun sg => [(0, head_0.val), (2, ix_2.val), (3, work_3.val), (5, ptr b5_1 0), (9, q17_2_0.val), (10, sg.1.val), (18, q17_2_0.val), (19, i64 (q17_2_0.l.length : Int)), (20, i64 sg.2)]) (fun sg => Mo.tt) (fun sg => Ow.star (Blk b5_1 [r_1.files.val, r_1.entries.val, r_1.conflicts.val] 34) (Ow.star (Sv.own q17_2_0 9) (Ow.star (Sv.own sg.1 9) (Ow.emp)))) (⟨none, 0, []⟩, 0) [0, 2, 3, 5, 9, 10, 18, 19, 20] hS rfl ?_
 clear hS
 rintro ⟨out10_3, x20_4⟩ m1 y1 hS hK1
 show VC _ _ _ _ _ [(0, head_0.val), (2, ix_2.val), (3, work_3.val), (5, ptr b5_1 0), (9, q17_2_0.val), (10, out10_3.val), (18, q17_2_0.val), (19, i64 (q17_2_0.l.length : Int)), (20, i64 x20_4)] (Mo.and Mo.tt _) (Ow.star (Blk b5_1 [r_1.files.val, r_1.entries.val, r_1.conflicts.val] 34) (Ow.star (Sv.own q17_2_0 9) (Ow.star (Sv.own out10_3 9) (Ow.emp))))
 refine VC.seq ?_
 refine VC.region ?_
 refine VL.q (q_lss rfl rfl) (by decide) ?_
 refine VL.to (fun _ _ h => h) ?_
 refine VC.seq ?_
 refine VC.cond_dec rfl (fun h21 => ?_) (fun h21 => ?_)
 ·
  replace hS := it_t h21 hS
  refine VC.skip_to (fun _ _ h => h) ?_
  refine VC.seq ?_
  refine VC.block ?_
  refine VC.seq ?_
  refine VC.region ?_
  obtain ⟨z22_5, nz22_5, hz22_5, hS⟩ := at_s hS
  refine VL.q (q_ixo (s := q17_2_0) Tryz.underlying32 gsz9 rfl rfl nz22_5 (lt_of_get nz22_5 hz22_5)) (by decide) ?_
  refine VL.q (q_elo (s := q17_2_0) 9 gone9 rfl hz22_5 rfl) (by decide) ?_
  refine VL.q (q_assign rfl) (by decide) ?_
  refine VL.to (fun _ _ h => h) ?_
  refine VC.seq ?_
  refine VC.region ?_
  refine VL.q (q_move rfl) (by decide) ?_
  refine VL.q (q_move rfl) (by decide) ?_
  refine VL.q (q_move rfl) (by decide) ?_
  refine VL.q (q_move rfl) (by decide) ?_
  obtain ⟨y28_6, ey28_6, hS⟩ := bd_s hS
  refine VL.q (q_call (plan_safe_ct head_0 ix_2 work_3 z22_5 ey28_6) rfl (fun _ _ => rfl)) (by decide) ?_
  refine VL.q (q_not rfl) (by decide) ?_
  refine VL.to (fun _ _ h => h) ?_
  refine VC.keep [0, 2, 3, 5, 9, 10, 18, 19, 20, 12, 29] rfl ?_
  refine VC.cond rfl (fun h29 => ?_) (fun h29 => ?_)
  ·
   replace hS := it_t h29 hS
   refine VC.region ?_
   refine VL.q (q_move rfl) (by decide) ?_
   refine VL.q (q_move rfl) (by decide) ?_
   refine VL.lit (α := Str) (xs := [.tmp 31]) (vs := [str z22_5]) [z22_5] Tryz.underlying32 glit9 (by decide) rfl rfl rfl rfl (by decide) (fun _ _ _ _ => trivial) (by decide) (fun s32_7 hs32_7 => ?_) (by decide)
   replace hS := lt_to hs32_7 hS
   obtain ⟨b33, hS⟩ := gd_s hS
   refine VL.app (s := out10_3) (r := s32_7) Tryz.underlying32 gapp9 (by decide) rfl Fo.out (ap1 b33) (ap2 b33 (by decide)) (by decide) (fun s33_9 hs33_9 => ?_)
   replace hS := lt_to hs33_9 hS
   refine VL.q (q_assign rfl) (by decide) ?_
   refine VL.to (fun _ _ h => h) ?_
   refine VC.region ?_
   obtain ⟨b34, hS⟩ := gd_s hS
   refine VL.q (q_add rfl rfl b34) (by decide) ?_
   refine VL.q (q_move rfl) (by decide) ?_
   refine VL.rnd (s33_9, (x20_4 + 1)) [0, 2, 3, 5, 9, 10, 18, 19, 20] (fun _ _ h => h) (go2 hS hK1) rfl
  replace hS := it_b h29 hS
  refine VC.skip_to (fun _ _ h => h) ?_
  refine VC.region ?_
  obtain ⟨b34, hS⟩ := gd_s hS
  refine VL.q (q_add rfl rfl b34) (by decide) ?_
  refine VL.q (q_move rfl) (by decide) ?_
  refine VL.rnd (out10_3, (x20_4 + 1)) [0, 2, 3, 5, 9, 10, 18, 19, 20] (fun _ _ h => h) (go2 hS hK1) rfl
 replace hS := it_f h21 hS
 replace hS := up2 hS hK1
 refine VC.exit_to (fun _ _ h => h) ?_
 refine VC.seq ?_
 refine VC.seq ?_
 refine VC.region ?_
 refine VL.q (q_move rfl) (by decide) ?_
 refine VL.q (q_ln (s := work_3) Tryz.underlying23 rfl) (by decide) ?_
 refine VL.q (q_move rfl) (by decide) ?_
 refine VL.to (fun _ _ h => h) ?_
 refine VC.keep [5, 9, 10, 35, 36, 37] rfl ?_
 refine VC.block ?_
 refine VC.iter (S := Sv Str × Int) (fun sg => (sg.1.l, sg.2)) (fun sg => [(5, ptr b5_1 0), (9, q17_2_0.val), (10, sg.1.val), (35, work_3.val), (36, i64 (work_3.l.length : Int)), (37, i64 sg.2)]) (fun sg => Mo.tt) (fun sg => Ow.star (Blk b5_1 [r_1.files.val, r_1.entries.val, r_1.conflicts.val] 34) (Ow.star (Sv.own q17_2_0 9) (Ow.star (Sv.own sg.1 9) (Ow.emp)))) (out10_3, 0) [5, 9, 10, 35, 36, 37] hS rfl ?_
 clear hS
 rintro ⟨out10_11, x37_12⟩ m1 y1 hS hK1
 show VC _ _ _ _ _ [(5, ptr b5_1 0), (9, q17_2_0.val), (10, out10_11.val), (35, work_3.val), (36, i64 (work_3.l.length : Int)), (37, i64 x37_12)] (Mo.and Mo.tt _) (Ow.star (Blk b5_1 [r_1.files.val, r_1.entries.val, r_1.conflicts.val] 34) (Ow.star (Sv.own q17_2_0 9) (Ow.star (Sv.own out10_11 9) (Ow.emp))))
 refine VC.seq ?_
 refine VC.region ?_
 refine VL.q (q_lss rfl rfl) (by decide) ?_
 refine VL.to (fun _ _ h => h) ?_
 refine VC.seq ?_
 refine VC.cond_dec rfl (fun h38 => ?_) (fun h38 => ?_)
 ·
  replace hS := it_t h38 hS
  refine VC.skip_to (fun _ _ h => h) ?_
  refine VC.seq ?_
  refine VC.block ?_
  refine VC.seq ?_
  refine VC.region ?_
  obtain ⟨z39_13, nz39_13, hz39_13, hS⟩ := at_s hS
  refine VL.q (q_ixm (s := work_3) Tryz.underlying23 gsz50 rfl rfl nz39_13 (lt_of_get nz39_13 hz39_13)) (by decide) ?_
  refine VL.q (q_els (s := work_3) gagg50 rfl rfl hz39_13) (by decide) ?_
  refine VL.alloc (cs := [str [], i64 0, str []]) (by kernel_rfl) (by decide) fun b14_14 => ?_
  refine VL.store (vc := [str z39_13.path, i64 z39_13.mode, str z39_13.data]) (cs' := [str z39_13.path, i64 z39_13.mode, str z39_13.data]) rfl rfl rfl gsz50 rfl rfl (Nat.le_of_ble_eq_true rfl) rfl ?_
  refine VL.to (fun _ _ h => h) ?_
  refine VC.cutJ (S := Unit) (fun (_ : Unit) => ()) (fun (_ : Unit) => [(5, ptr b5_1 0), (9, q17_2_0.val), (10, out10_11.val), (14, ptr b14_14 0), (35, work_3.val), (36, i64 (work_3.l.length : Int)), (37, i64 x37_12)]) (fun (_ : Unit) => Mo.tt) (fun (_ : Unit) => Ow.star (Blk b14_14 [str z39_13.path, i64 z39_13.mode, str z39_13.data] 50) (Ow.star (Blk b5_1 [r_1.files.val, r_1.entries.val, r_1.conflicts.val] 34) (Ow.star (Sv.own q17_2_0 9) (Ow.star (Sv.own out10_11 9) (Ow.emp))))) hS ?_ ?_
  ·
   clear hS
   intro k15 hS
   refine VC.seq ?_
   refine VC.region ?_
   refine VL.q (q_move rfl) (by decide) ?_
   refine VL.q (q_field gfa50_0 rfl) (by decide) ?_
   refine VL.q (q_fe gone9 rfl rfl) (by decide) ?_
   obtain ⟨y44_16, ey44_16, hS⟩ := bd_s hS
   refine VL.q (q_callR (slices_Contains_string_string_ct q17_2_0 z39_13.path ey44_16) rfl (fun _ _ => rfl)) (by decide) ?_
   refine VL.q (q_move rfl) (by decide) ?_
   refine VL.split 45 rfl (fun h45 => ?_) (fun h45 => ?_)
   ·
    replace hS := it_t h45 hS
    refine VL.gy rfl rfl (q_field gfa34_0 rfl) (by decide) ?_
    refine VL.gy rfl rfl (q_fe gone23 rfl rfl) (by decide) ?_
    refine VL.gy rfl rfl (q_field gfa50_0 rfl) (by decide) ?_
    refine VL.gy rfl rfl (q_fe gone9 rfl rfl) (by decide) ?_
    obtain ⟨y50_17, ey50_17, hS⟩ := bd_s hS
    refine VL.gy rfl rfl (q_call (plan_of_ct r_1.files z39_13.path ey50_17) rfl (fun _ _ => rfl)) (by decide) ?_
    refine VL.gy rfl rfl (q_fld Tryz.underlying116 rfl gone4 rfl rfl) (by decide) ?_
    refine VL.gy rfl rfl (q_not rfl) (by decide) ?_
    refine VL.q (q_pick_t rfl rfl) (by decide) ?_
    refine VL.to (fun _ _ h => h) ?_
    refine VC.keep [5, 9, 10, 35, 36, 37, 14, 53] rfl ?_
    refine VC.cond rfl (fun h53 => ?_) (fun h53 => ?_)
    ·
     replace hS := it_t h53 hS
     refine VC.exit_to (fun _ _ h => h) ?_
     refine VC.region ?_
     obtain ⟨b62, hS⟩ := gd_s hS
     refine VL.q (q_add rfl rfl b62) (by decide) ?_
     refine VL.q (q_move rfl) (by decide) ?_
     refine VL.rnd (out10_11, (x37_12 + 1)) [5, 9, 10, 35, 36, 37] (fun _ _ h => h) (go2 hS hK1) rfl
    replace hS := it_b h53 hS
    refine VC.skip_mt () [5, 9, 10, 14, 35, 36, 37] (fun _ _ h => h) hS rfl
   replace hS := it_b h45 hS
   refine VL.gn rfl rfl rfl (by decide) ?_
   refine VL.gn rfl rfl rfl (by decide) ?_
   refine VL.gn rfl rfl rfl (by decide) ?_
   refine VL.gn rfl rfl rfl (by decide) ?_
   refine VL.gn rfl rfl rfl (by decide) ?_
   refine VL.gn rfl rfl rfl (by decide) ?_
   refine VL.gn rfl rfl rfl (by decide) ?_
   refine VL.q (q_pick_f rfl rfl) (by decide) ?_
   refine VL.to (fun _ _ h => h) ?_
   refine VC.keep [5, 9, 10, 35, 36, 37, 14, 53] rfl ?_
   refine VC.cond_f rfl ?_
   refine VC.skip_mt () [5, 9, 10, 14, 35, 36, 37] (fun _ _ h => h) hS rfl
  clear hS
  rintro _ hS
  show VC _ _ _ _ _ [(5, ptr b5_1 0), (9, q17_2_0.val), (10, out10_11.val), (14, ptr b14_14 0), (35, work_3.val), (36, i64 (work_3.l.length : Int)), (37, i64 x37_12)] (Mo.and Mo.tt _) (Ow.star (Blk b14_14 [str z39_13.path, i64 z39_13.mode, str z39_13.data] 50) (Ow.star (Blk b5_1 [r_1.files.val, r_1.entries.val, r_1.conflicts.val] 34) (Ow.star (Sv.own q17_2_0 9) (Ow.star (Sv.own out10_11 9) (Ow.emp)))))
  refine VC.seq ?_
  refine VC.region ?_
  refine VL.q (q_move rfl) (by decide) ?_
  refine VL.q (q_mkfn rfl) (by decide) ?_
  obtain ⟨y56_18, ey56_18, hS⟩ := bd_s hS
  refine VL.q (q_callR (slices_ContainsFunc_string_string_ct q17_2_0 b5_1 r_1 b14_14 z39_13 ey56_18) rfl (fun _ _ => rfl)) (by decide) ?_
  refine VL.to (fun _ _ h => h) ?_
  refine VC.cond rfl (fun h56 => ?_) (fun h56 => ?_)
  ·
   replace hS := it_t h56 hS
   refine VC.region ?_
   refine VL.q (q_move rfl) (by decide) ?_
   refine VL.q (q_field gfa50_0 rfl) (by decide) ?_
   refine VL.q (q_fe gone9 rfl rfl) (by decide) ?_
   refine VL.lit (α := Str) (xs := [.tmp 59]) (vs := [str z39_13.path]) [z39_13.path] Tryz.underlying32 glit9 (by decide) rfl rfl rfl rfl (by decide) (fun _ _ _ _ => trivial) (by decide) (fun s60_19 hs60_19 => ?_) (by decide)
   replace hS := lt_to hs60_19 hS
   obtain ⟨b61, hS⟩ := gd_s hS
   refine VL.app (s := out10_11) (r := s60_19) Tryz.underlying32 gapp9 (by decide) rfl Fo.out (ap1 b61) (ap2 b61 (by decide)) (by decide) (fun s61_21 hs61_21 => ?_)
   replace hS := lt_to hs61_21 hS
   refine VL.q (q_assign rfl) (by decide) ?_
   refine VL.to (fun _ _ h => h) ?_
   refine VC.keep [5, 9, 10, 35, 36, 37] rfl ?_
   refine VC.region ?_
   obtain ⟨b62, hS⟩ := gd_s hS
   refine VL.q (q_add rfl rfl b62) (by decide) ?_
   refine VL.q (q_move rfl) (by decide) ?_
   refine VL.rnd (s61_21, (x37_12 + 1)) [5, 9, 10, 35, 36, 37] (fun _ _ h => h) (go2 hS hK1) rfl
  replace hS := it_b h56 hS
  refine VC.skip_to (fun _ _ h => h) ?_
  refine VC.region ?_
  obtain ⟨b62, hS⟩ := gd_s hS
  refine VL.q (q_add rfl rfl b62) (by decide) ?_
  refine VL.q (q_move rfl) (by decide) ?_
  refine VL.rnd (out10_11, (x37_12 + 1)) [5, 9, 10, 35, 36, 37] (fun _ _ h => h) (go2 hS hK1) rfl
 replace hS := it_f h38 hS
 replace hS := up2 hS hK1
 refine VC.exit_to (fun _ _ h => h) ?_
 refine VC.seq ?_
 refine VC.region ?_
 refine VL.q (q_move rfl) (by decide) ?_
 obtain ⟨b64, hS⟩ := gd_s hS
 refine VL.callO (sort73_ct out10_11 b64) rfl (by decide) ?_
 rintro w64_23 ⟨hw64_23, vw64_23⟩
 try dsimp only
 rw [← vw64_23]
 replace hS := lt_to hw64_23 hS
 refine VL.to (fun _ _ h => h) ?_
 refine VC.seq ?_
 refine VC.region ?_
 refine VL.q (q_move rfl) (by decide) ?_
 obtain ⟨b66, hS⟩ := gd_s hS
 refine VL.callO (compact75_ct w64_23 b66) rfl (by decide) ?_
 rintro w66_25 hw66_25
 try dsimp only
 replace hS := lt_to hw66_25 hS
 refine VL.shut w66_25 9 (fun _ _ _ _ => trivial) ?_
 obtain ⟨y67_27, ey67_27, hS⟩ := bd_s hS
 refine VL.callF (slices_Clip_string_string_ct w66_25 ey67_27) rfl (by decide) ?_
 rintro q67_27_0 rfl
 try dsimp only
 refine VL.q (q_assign rfl) (by decide) ?_
 refine VL.to (fun _ _ h => h) ?_
 refine VC.keep [8] rfl ?_
 cases hS
 exact VC.ret (fin1 (.inr rfl) rfl rfl q67_27_0 rfl rfl (by (try dsimp only); exact InM.out) (fun _ _ => trivial))
theorem slices_Clone_index_Entry_index_Entry_ct (s_0 : Sv IndexEntry) {r : List IndexEntry} (hS : Sh.slices_Clone_index_Entry_index_Entry s_0.l = some r) :
 Ct Tryz.prog 54 [s_0.val] s_0.ok (Ow.emp) (X := Sv IndexEntry) (fun x => x.val) (fun x => r = x.l) (fun x => Mo.tt) (fun x => Sv.own x 83) := by
 refine Ct.of Tryz.func54 rfl (by kernel_rfl) Tryz.ntmps54 (by simp) fun c => ?_
 unfold Sh.slices_Clone_index_Entry_index_Entry at hS
 refine VC.seq ?_
 refine VC.region ?_
 refine VL.q (q_assign rfl) (by decide) ?_
 refine VL.to (fun _ _ h => h) ?_
 refine VC.seq ?_
 refine VC.seq ?_
 refine VC.region ?_
 refine VL.q (q_move rfl) (by decide) ?_
 refine VL.q (q_slnil (s := s_0) Tryz.underlying29 rfl) (by decide) ?_
 refine VL.to (fun _ _ h => h) ?_
 refine VC.slnil (s := s_0) rfl (fun h4 => ?_) ?_
 ·
  have hS : (some []) = some r := by
    simp [lt, gd, h4] at hS ⊢
    try exact hS
  refine VC.seq ?_
  refine VC.region ?_
  refine VL.q (q_assign rfl) (by decide) ?_
  refine VL.to (fun _ _ h => h) ?_
  refine VC.nilO (⟨none, 0, []⟩ : Sv IndexEntry) 83 ⟨rfl, rfl⟩ ?_
  cases hS
  exact VC.ret (fin1 (.inr rfl) rfl rfl ⟨none, 0, []⟩ rfl rfl (by (try dsimp only); exact InM.out) (by (try dsimp only); exact EntO.out))
 refine VC.skip_to (fun _ _ h => h) ?_
 refine VC.seq ?_
 refine VC.region ?_
 refine VL.lit0 (α := IndexEntry) Tryz.underlying29 ghas83 (by decide) (fun s5_1 hs5_1 hcs5_1 => ?_)
 refine VL.nilO s5_1 83 ⟨hcs5_1, hs5_1⟩ ?_
 replace hS := lt_to hs5_1 hS
 refine VL.q (q_move rfl) (by decide) ?_
 obtain ⟨b7, hS⟩ := gd_s hS
 refine VL.app (s := s5_1) (r := s_0) Tryz.underlying29 gapp83 (by decide) rfl Fo.out (ap1 b7) (ap2 b7 (by decide)) (by decide) (fun s7_3 hs7_3 => ?_)
 replace hS := lt_to hs7_3 hS
 refine VL.q (q_assign rfl) (by decide) ?_
 refine VL.to (fun _ _ h => h) ?_
 cases hS
 exact VC.ret (fin1 (.inr rfl) rfl rfl s7_3 rfl rfl (by (try dsimp only); exact InM.out) (by (try dsimp only); exact EntO.out))
theorem slices_Clone_files_Row_files_File_ct (s_0 : Sv FilesFile) {r : List FilesFile} (hS : Sh.slices_Clone_files_Row_files_File s_0.l = some r) :
 Ct Tryz.prog 56 [s_0.val] s_0.ok (Ow.emp) (X := Sv FilesFile) (fun x => x.val) (fun x => r = x.l) (fun x => Mo.tt) (fun x => Sv.own x 50) := by
 refine Ct.of Tryz.func56 rfl (by kernel_rfl) Tryz.ntmps56 (by simp) fun c => ?_
 unfold Sh.slices_Clone_files_Row_files_File at hS
 refine VC.seq ?_
 refine VC.region ?_
 refine VL.q (q_assign rfl) (by decide) ?_
 refine VL.to (fun _ _ h => h) ?_
 refine VC.seq ?_
 refine VC.seq ?_
 refine VC.region ?_
 refine VL.q (q_move rfl) (by decide) ?_
 refine VL.q (q_slnil (s := s_0) Tryz.underlying23 rfl) (by decide) ?_
 refine VL.to (fun _ _ h => h) ?_
 refine VC.slnil (s := s_0) rfl (fun h4 => ?_) ?_
 ·
  have hS : (some []) = some r := by
    simp [lt, gd, h4] at hS ⊢
    try exact hS
  refine VC.seq ?_
  refine VC.region ?_
  refine VL.q (q_assign rfl) (by decide) ?_
  refine VL.to (fun _ _ h => h) ?_
  refine VC.nilO (⟨none, 0, []⟩ : Sv FilesFile) 50 ⟨rfl, rfl⟩ ?_
  cases hS
  exact VC.ret (fin1 (.inr rfl) rfl rfl ⟨none, 0, []⟩ rfl rfl (by (try dsimp only); exact InM.out) (by (try dsimp only); exact EntO.out))
 refine VC.skip_to (fun _ _ h => h) ?_
 refine VC.seq ?_
 refine VC.region ?_
 refine VL.lit0 (α := FilesFile) Tryz.underlying23 ghas50 (by decide) (fun s5_1 hs5_1 hcs5_1 => ?_)
 refine VL.nilO s5_1 50 ⟨hcs5_1, hs5_1⟩ ?_
 replace hS := lt_to hs5_1 hS
 refine VL.q (q_move rfl) (by decide) ?_
 obtain ⟨b7, hS⟩ := gd_s hS
 refine VL.app (s := s5_1) (r := s_0) Tryz.underlying23 gapp50 (by decide) rfl Fo.out (ap1 b7) (ap2 b7 (by decide)) (by decide) (fun s7_3 hs7_3 => ?_)
 replace hS := lt_to hs7_3 hS
 refine VL.q (q_assign rfl) (by decide) ?_
 refine VL.to (fun _ _ h => h) ?_
 cases hS
 exact VC.ret (fin1 (.inr rfl) rfl rfl s7_3 rfl rfl (by (try dsimp only); exact InM.out) (by (try dsimp only); exact EntO.out))
theorem index_Drop_1_ct (x_0 : IndexEntry) (a_1_b : Nat) (a_1 : Str) {r : Bool} (hS : Sh.index_Drop_1 x_0 a_1 = some r) :
 Ct Tryz.prog 139 [.agg #[str x_0.path, i64 x_0.stage, i64 x_0.mode, str x_0.data, i64 x_0.time, i64 x_0.size], ptr a_1_b 0] (Cells a_1_b 0 [str a_1]) (Ow.emp) (X := Unit) (fun _ => .bool r) (fun _ => True) (fun _ => Mo.tt) (fun _ => Ow.emp) := by
 refine Ct.of Tryz.func139 rfl (by kernel_rfl) Tryz.ntmps139 (by simp) fun c => ?_
 unfold Sh.index_Drop_1 at hS
 refine VC.seq ?_
 refine VC.region ?_
 refine VL.box (cs := [str x_0.path, i64 x_0.stage, i64 x_0.mode, str x_0.data, i64 x_0.time, i64 x_0.size]) rfl rfl (by decide) fun b2_1 => ?_
 refine VL.q (q_assign rfl) (by decide) ?_
 refine VL.to (fun _ _ h => h) ?_
 refine VC.seq ?_
 refine VC.region ?_
 refine VL.q (q_field gfa83_0 rfl) (by decide) ?_
 refine VL.q (q_fe gone9 rfl rfl) (by decide) ?_
 refine VL.q (q_fm gone9 rfl rfl) (by decide) ?_
 refine VL.q (q_seq rfl rfl) (by decide) ?_
 refine VL.q (q_assign rfl) (by decide) ?_
 refine VL.to (fun _ _ h => h) ?_
 cases hS
 exact VC.ret (fin1 (.inr rfl) rfl rfl () rfl trivial (fun _ _ => trivial) (fun _ _ => trivial))
theorem slices_IndexFunc_index_Entry_index_Entry_ct (s_0 : Sv IndexEntry) (f_1_0_b : Nat) (f_1_0 : Str) {r : Int} (hS : Sh.slices_IndexFunc_index_Entry_index_Entry s_0.l f_1_0 = some r) :
 Ct Tryz.prog 217 [s_0.val, .func (.func 139) #[] #[ptr f_1_0_b 0]] (s_0.ok.and (Cells f_1_0_b 0 [str f_1_0])) (Ow.emp) (X := Unit) (fun _ => i64 r) (fun _ => True) (fun _ => Mo.tt) (fun _ => Ow.emp) := by
 refine Ct.of Tryz.func217 rfl (by kernel_rfl) Tryz.ntmps217 (by simp) fun c => ?_
 unfold Sh.slices_IndexFunc_index_Entry_index_Entry at hS
 refine VC.seq ?_
 refine VC.region ?_
 refine VL.q (q_assign rfl) (by decide) ?_
 refine VL.to (fun _ _ h => h) ?_
 refine VC.seq ?_
 refine VC.seq ?_
 refine VC.region ?_
 refine VL.q (q_move rfl) (by decide) ?_
 refine VL.q (q_ln (s := s_0) Tryz.underlying29 rfl) (by decide) ?_
 refine VL.q (q_move rfl) (by decide) ?_
 refine VL.to (fun _ _ h => h) ?_
 refine VC.block ?_
 refine VC.iter (S := Int) (fun (x8_1 : Int) => x8_1) (fun (x8_1 : Int) => [(0, s_0.val), (1, .func (.func 139) #[] #[ptr f_1_0_b 0]), (7, i64 (s_0.l.length : Int)), (8, i64 x8_1)]) (fun (x8_1 : Int) => Mo.tt) (fun (x8_1 : Int) => Ow.emp) 0 [0, 1, 7, 8] hS rfl ?_
 clear hS
 rintro x8_1 m1 y1 hS hK1
 show VC _ _ _ _ _ [(0, s_0.val), (1, .func (.func 139) #[] #[ptr f_1_0_b 0]), (7, i64 (s_0.l.length : Int)), (8, i64 x8_1)] (Mo.and Mo.tt _) (Ow.emp)
 refine VC.seq ?_
 refine VC.region ?_
 refine VL.q (q_lss rfl rfl) (by decide) ?_
 refine VL.to (fun _ _ h => h) ?_
 refine VC.seq ?_
 refine VC.cond_dec rfl (fun h9 => ?_) (fun h9 => ?_)
 ·
  replace hS := it_t h9 hS
  refine VC.skip_to (fun _ _ h => h) ?_
  refine VC.seq ?_
  refine VC.block ?_
  refine VC.seq ?_
  refine VC.region ?_
  refine VL.q (q_move rfl) (by decide) ?_
  refine VL.q (q_assign rfl) (by decide) ?_
  refine VL.to (fun _ _ h => h) ?_
  refine VC.seq ?_
  refine VC.region ?_
  refine VL.q (q_move rfl) (by decide) ?_
  refine VL.q (q_move rfl) (by decide) ?_
  refine VL.q (q_move rfl) (by decide) ?_
  obtain ⟨z14_2, nz14_2, hz14_2, hS⟩ := at_s hS
  refine VL.q (q_ixm (s := s_0) Tryz.underlying29 gsz83 rfl rfl nz14_2 (lt_of_get nz14_2 hz14_2)) (by decide) ?_
  refine VL.q (q_els (s := s_0) gagg83 rfl rfl hz14_2) (by decide) ?_
  obtain ⟨y16_3, ey16_3, hS⟩ := bd_s hS
  refine VL.q (q_callVC (vs := [.agg #[str z14_2.path, i64 z14_2.stage, i64 z14_2.mode, str z14_2.data, i64 z14_2.time, i64 z14_2.size]]) (caps := [ptr f_1_0_b 0]) (index_Drop_1_ct z14_2 f_1_0_b f_1_0 ey16_3) rfl rfl (fun _ _ => rfl)) (by decide) ?_
  refine VL.to (fun _ _ h => h) ?_
  refine VC.keep [0, 1, 7, 8, 5, 16] rfl ?_
  refine VC.cond rfl (fun h16 => ?_) (fun h16 => ?_)
  ·
   replace hS := it_t h16 hS
   refine VC.seq ?_
   refine VC.region ?_
   refine VL.q (q_move rfl) (by decide) ?_
   refine VL.q (q_assign rfl) (by decide) ?_
   refine VL.to (fun _ _ h => h) ?_
   replace hS := up2 hS hK1
   cases hS
   exact VC.ret (fin1 (.inr rfl) rfl rfl () rfl trivial (fun _ _ => trivial) (fun _ _ => trivial))
  replace hS := it_b h16 hS
  refine VC.skip_to (fun _ _ h => h) ?_
  refine VC.region ?_
  obtain ⟨b18, hS⟩ := gd_s hS
  refine VL.q (q_add rfl rfl b18) (by decide) ?_
  refine VL.q (q_move rfl) (by decide) ?_
  refine VL.rnd (x8_1 + 1) [0, 1, 7, 8] (fun _ _ h => h) (go2 hS hK1) rfl
 replace hS := it_f h9 hS
 replace hS := up2 hS hK1
 refine VC.exit_to (fun _ _ h => h) ?_
 refine VC.seq ?_
 refine VC.region ?_
 refine VL.q (q_assign rfl) (by decide) ?_
 refine VL.to (fun _ _ h => h) ?_
 cases hS
 exact VC.ret (fin1 (.inr rfl) rfl rfl () rfl trivial (fun _ _ => trivial) (fun _ _ => trivial))
theorem slices_DeleteFunc_index_Entry_index_Entry_ct (s_0 : Sv IndexEntry) (del_1_0_b : Nat) (del_1_0 : Str) {r : List IndexEntry} (hS : Sh.slices_DeleteFunc_index_Entry_index_Entry s_0.l del_1_0 = some r) :
 Ct Tryz.prog 138 [s_0.val, .func (.func 139) #[] #[ptr del_1_0_b 0]] Mo.tt (Ow.star (Sv.own s_0 83) (Blk del_1_0_b [str del_1_0] 9)) (X := Sv IndexEntry) (fun x => x.val) (fun x => r = x.l) (fun x => Mo.tt) (fun x => Ow.star (Sv.own x 83) (Blk del_1_0_b [str del_1_0] 9)) := by
 refine Ct.of Tryz.func138 rfl (by kernel_rfl) Tryz.ntmps138 (by simp) fun c => ?_
 unfold Sh.slices_DeleteFunc_index_Entry_index_Entry at hS
 refine VC.seq ?_
 refine VC.region ?_
 refine VL.q (q_assign rfl) (by decide) ?_
 refine VL.to (fun _ _ h => h) ?_
 refine VC.seq ?_
 refine VC.region ?_
 refine VL.q (q_move rfl) (by decide) ?_
 refine VL.q (q_move rfl) (by decide) ?_
 obtain ⟨y10_1, ey10_1, hS⟩ := bd_s hS
 refine VL.q (q_callR (slices_IndexFunc_index_Entry_index_Entry_ct s_0 del_1_0_b del_1_0 ey10_1) rfl (fun _ _ => rfl)) (by decide) ?_
 refine VL.q (q_assign rfl) (by decide) ?_
 refine VL.to (fun _ _ h => h) ?_
 refine VC.seq ?_
 refine VC.seq ?_
 refine VC.region ?_
 refine VL.q (q_move rfl) (by decide) ?_
 refine VL.q (q_eql rfl rfl) (by decide) ?_
 refine VL.to (fun _ _ h => h) ?_
 refine VC.cond_dec rfl (fun h12 => ?_) (fun h12 => ?_)
 ·
  replace hS := it_t h12 hS
  refine VC.seq ?_
  refine VC.region ?_
  refine VL.q (q_move rfl) (by decide) ?_
  refine VL.q (q_assign rfl) (by decide) ?_
  refine VL.to (fun _ _ h => h) ?_
  cases hS
  exact VC.ret (fin1 (.inr rfl) rfl rfl s_0 rfl rfl (by (try dsimp only); exact InM.out) (by (try dsimp only); exact EntO.out))
 replace hS := it_f h12 hS
 refine VC.skip_to (fun _ _ h => h) ?_
 refine VC.seq ?_
 refine VC.seq ?_
 refine VC.region ?_
 refine VL.q (q_move rfl) (by decide) ?_
 obtain ⟨b15, hS⟩ := gd_s hS
 refine VL.q (q_add rfl rfl b15) (by decide) ?_
 refine VL.q (q_assign rfl) (by decide) ?_
 refine VL.to (fun _ _ h => h) ?_
 refine VC.keep [0, 1, 5, 6] rfl ?_
 refine VC.block ?_
 refine VC.iter (S := Sv IndexEntry × Int × Int) (fun sg => (sg.1.l, sg.2.1, sg.2.2)) (fun sg => [(0, sg.1.val), (1, .func (.func 139) #[] #[ptr del_1_0_b 0]), (5, i64 sg.2.1), (6, i64 sg.2.2)]) (fun sg => Mo.tt) (fun sg => Ow.star (Blk del_1_0_b [str del_1_0] 9) (Ow.star (Sv.own sg.1 83) (Ow.emp))) (s_0, y10_1, (y10_1 + 1)) [0, 1, 5, 6] hS rfl ?_
 clear hS
 rintro ⟨s0_2, i5_3, j6_4⟩ m1 y1 hS hK1
 show VC _ _ _ _ _ [(0, s0_2.val), (1, .func (.func 139) #[] #[ptr del_1_0_b 0]), (5, i64 i5_3), (6, i64 j6_4)] (Mo.and Mo.tt _) (Ow.star (Blk del_1_0_b [str del_1_0] 9) (Ow.star (Sv.own s0_2 83) (Ow.emp)))
 refine VC.seq ?_
 refine VC.seq ?_
 refine VC.region ?_
 refine VL.q (q_move rfl) (by decide) ?_
 refine VL.q (q_move rfl) (by decide) ?_
 refine VL.q (q_ln (s := s0_2) Tryz.underlying29 rfl) (by decide) ?_
 refine VL.q (q_lss rfl rfl) (by decide) ?_
 refine VL.to (fun _ _ h => h) ?_
 refine VC.cond_dec rfl (fun h19 => ?_) (fun h19 => ?_)
 ·
  replace hS := it_t h19 hS
  refine VC.skip_to (fun _ _ h => h) ?_
  refine VC.cutJ (S := Sv IndexEntry × Int) (fun sg => (sg.1.l, sg.2)) (fun sg => [(0, sg.1.val), (1, .func (.func 139) #[] #[ptr del_1_0_b 0]), (5, i64 sg.2), (6, i64 j6_4)]) (fun sg => Mo.tt) (fun sg => Ow.star (Blk del_1_0_b [str del_1_0] 9) (Ow.star (Sv.own sg.1 83) (Ow.emp))) hS ?_ ?_
  ·
   clear hS
   intro k7 hS
   refine VC.block ?_
   refine VC.seq ?_
   refine VC.region ?_
   refine VL.q (q_move rfl) (by decide) ?_
   refine VL.q (q_move rfl) (by decide) ?_
   obtain ⟨z24_8, nz24_8, hz24_8, hS⟩ := at_s hS
   refine VL.q (q_ixo (s := s0_2) Tryz.underlying29 gsz83 rfl rfl nz24_8 (lt_of_get nz24_8 hz24_8)) (by decide) ?_
   refine VL.q (q_elso (s := s0_2) gagg83 rfl rfl hz24_8) (by decide) ?_
   refine VL.alloc (cs := [str [], i64 0, i64 0, str [], i64 0, i64 0]) (by kernel_rfl) (by decide) fun b7_9 => ?_
   refine VL.store (vc := [str z24_8.path, i64 z24_8.stage, i64 z24_8.mode, str z24_8.data, i64 z24_8.time, i64 z24_8.size]) (cs' := [str z24_8.path, i64 z24_8.stage, i64 z24_8.mode, str z24_8.data, i64 z24_8.time, i64 z24_8.size]) rfl rfl rfl gsz83 rfl rfl (Nat.le_of_ble_eq_true rfl) rfl ?_
   refine VL.to (fun _ _ h => h) ?_
   refine VC.keep [0, 1, 5, 6, 7] rfl ?_
   refine VC.seq ?_
   refine VC.region ?_
   refine VL.q (q_move rfl) (by decide) ?_
   refine VL.q (q_fes gagg83 rfl rfl) (by decide) ?_
   obtain ⟨y28_10, ey28_10, hS⟩ := bd_s hS
   refine VL.q (q_callVC (vs := [.agg #[str z24_8.path, i64 z24_8.stage, i64 z24_8.mode, str z24_8.data, i64 z24_8.time, i64 z24_8.size]]) (caps := [ptr del_1_0_b 0]) (index_Drop_1_ct z24_8 del_1_0_b del_1_0 ey28_10) rfl rfl (fun _ _ => rfl)) (by decide) ?_
   refine VL.q (q_not rfl) (by decide) ?_
   refine VL.to (fun _ _ h => h) ?_
   refine VC.cond rfl (fun h29 => ?_) (fun h29 => ?_)
   ·
    replace hS := it_t h29 hS
    refine VC.seq ?_
    refine VC.region ?_
    refine VL.q (q_move rfl) (by decide) ?_
    refine VL.q (q_move rfl) (by decide) ?_
    refine VL.q (q_fes gagg83 rfl rfl) (by decide) ?_
    obtain ⟨z33_11, nz33_11, hz33_11, hS⟩ := at_s hS
    refine VL.q (q_ixo (s := s0_2) Tryz.underlying29 gsz83 rfl rfl nz33_11 (lt_of_get nz33_11 hz33_11)) (by decide) ?_
    refine VL.storeE (s := s0_2) (T := 83) (j := 0) (vc := [str z24_8.path, i64 z24_8.stage, i64 z24_8.mode, str z24_8.data, i64 z24_8.time, i64 z24_8.size]) (⟨z24_8.path, z24_8.stage, z24_8.mode, z24_8.data, z24_8.time, z24_8.size⟩ : IndexEntry) (by decide) rfl rfl hz33_11 rfl gsz83 rfl rfl (Nat.le_of_ble_eq_true rfl) rfl (fun w12 hw12 haw12 hcw12 hvw12 hbw12 how12 => ?_)
    rw [← hvw12]
    replace hS := lt_to hw12 hS
    refine VL.to (fun _ _ h => h) ?_
    refine VC.keep [0, 1, 5, 6] rfl ?_
    refine VC.region ?_
    refine VL.q (q_move rfl) (by decide) ?_
    obtain ⟨b35, hS⟩ := gd_s hS
    refine VL.q (q_add rfl rfl b35) (by decide) ?_
    refine VL.q (q_assign rfl) (by decide) ?_
    refine VL.mt (w12, (i5_3 + 1)) [0, 1, 5, 6] (fun _ _ h => h) hS rfl
   replace hS := it_b h29 hS
   refine VC.skip_mt (s0_2, i5_3) [0, 1, 5, 6] (fun _ _ h => h) hS rfl
  clear hS
  rintro ⟨s0_5, i5_6⟩ hS
  show VC _ _ _ _ _ [(0, s0_5.val), (1, .func (.func 139) #[] #[ptr del_1_0_b 0]), (5, i64 i5_6), (6, i64 j6_4)] (Mo.and Mo.tt _) (Ow.star (Blk del_1_0_b [str del_1_0] 9) (Ow.star (Sv.own s0_5 83) (Ow.emp)))
  refine VC.region ?_
  refine VL.q (q_move rfl) (by decide) ?_
  obtain ⟨b21, hS⟩ := gd_s hS
  refine VL.q (q_add rfl rfl b21) (by decide) ?_
  refine VL.q (q_assign rfl) (by decide) ?_
  refine VL.rnd (s0_5, i5_6, (j6_4 + 1)) [0, 1, 5, 6] (fun _ _ h => h) (go2 hS hK1) rfl
 replace hS := it_f h19 hS
 replace hS := up2 hS hK1
 refine VC.exit_to (fun _ _ h => h) ?_
 refine VC.seq ?_
 refine VC.region ?_
 refine VL.q (q_move rfl) (by decide) ?_
 refine VL.q (q_move rfl) (by decide) ?_
 obtain ⟨b38, hS⟩ := gd_s hS
 refine VL.fits (s := s0_2) (e := 83) Fo.out fun f38_14 => ?_
 refine VL.q (q_subv (s := s0_2) Tryz.underlying29 gsz83 rfl rfl b38.1 b38.2 f38_14) (by decide) ?_
 refine VL.clrN (s := s0_2) (i := i5_3.toNat) (.agg #[str [], i64 0, i64 0, str [], i64 0, i64 0]) Tryz.underlying29 gzv83 rfl rfl rfl (by have := b38; dsimp only at this ⊢; omega) Fo.out fun ss3_15 hss3_15 vss3_15 => ?_
 replace hS := lt_to hss3_15 hS
 refine VL.to (fun _ _ h => h) ?_
 refine VC.keep [0, 5] rfl ?_
 refine VC.seq ?_
 refine VC.region ?_
 refine VL.q (q_move rfl) (by decide) ?_
 refine VL.q (q_move rfl) (by decide) ?_
 refine VL.q (q_cutO (s := s0_2) (q := ss3_15) Tryz.underlying29 gsz83 rfl rfl b38.1 b38.2 f38_14 vss3_15) (by decide) ?_
 refine VL.q (q_assign rfl) (by decide) ?_
 refine VL.to (fun _ _ h => h) ?_
 cases hS
 exact VC.ret (fin1 (.inr rfl) rfl rfl ss3_15 rfl rfl (by (try dsimp only); exact InM.out) (by (try dsimp only); exact EntO.out))
theorem index_Drop_ct (l_0 : Sv IndexEntry) (p_1 : Str) {r : List IndexEntry} (hS : Sh.index_Drop l_0.l p_1 = some r) :
 Ct Tryz.prog 58 [l_0.val, str p_1] l_0.ok (Ow.emp) (X := Sv IndexEntry) (fun x => x.val) (fun x => r = x.l) (fun x => x.ok) (fun x => Ow.emp) := by
 refine Ct.of Tryz.func58 rfl (by kernel_rfl) Tryz.ntmps58 (by simp) fun c => ?_
 unfold Sh.index_Drop at hS
 refine VC.seq ?_
 refine VC.region ?_
 refine VL.box (cs := [str p_1]) rfl rfl (by decide) fun b3_1 => ?_
 refine VL.q (q_assign rfl) (by decide) ?_
 refine VL.to (fun _ _ h => h) ?_
 refine VC.seq ?_
 refine VC.region ?_
 refine VL.q (q_move rfl) (by decide) ?_
 obtain ⟨y6_2, ey6_2, hS⟩ := bd_s hS
 refine VL.callO (slices_Clone_index_Entry_index_Entry_ct l_0 ey6_2) rfl (by decide) ?_
 rintro q6_2_0 rfl
 try dsimp only
 refine VL.q (q_mkfn rfl) (by decide) ?_
 obtain ⟨y8_3, ey8_3, hS⟩ := bd_s hS
 refine VL.callO (slices_DeleteFunc_index_Entry_index_Entry_ct q6_2_0 b3_1 p_1 ey8_3) rfl (by decide) ?_
 rintro q8_3_0 rfl
 try dsimp only
 refine VL.shut q8_3_0 83 (fun _ _ _ _ => trivial) ?_
 obtain ⟨y9_4, ey9_4, hS⟩ := bd_s hS
 refine VL.callF (slices_Clip_index_Entry_index_Entry_ct q8_3_0 ey9_4) rfl (by decide) ?_
 rintro q9_4_0 rfl
 try dsimp only
 refine VL.q (q_assign rfl) (by decide) ?_
 refine VL.to (fun _ _ h => h) ?_
 cases hS
 exact VC.ret (fin1 (.inr rfl) rfl rfl q9_4_0 rfl rfl (by (try dsimp only); exact InM.out) (fun _ _ => trivial))
theorem files_Row_Cut_1_ct (f_0 : FilesFile) (a_1_b : Nat) (a_1 : Str) {r : Bool} (hS : Sh.files_Row_Cut_1 f_0 a_1 = some r) :
 Ct Tryz.prog 141 [.agg #[str f_0.path, i64 f_0.mode, str f_0.data], ptr a_1_b 0] (Cells a_1_b 0 [str a_1]) (Ow.emp) (X := Unit) (fun _ => .bool r) (fun _ => True) (fun _ => Mo.tt) (fun _ => Ow.emp) := by
 refine Ct.of Tryz.func141 rfl (by kernel_rfl) Tryz.ntmps141 (by simp) fun c => ?_
 unfold Sh.files_Row_Cut_1 at hS
 refine VC.seq ?_
 refine VC.region ?_
 refine VL.box (cs := [str f_0.path, i64 f_0.mode, str f_0.data]) rfl rfl (by decide) fun b2_1 => ?_
 refine VL.q (q_assign rfl) (by decide) ?_
 refine VL.to (fun _ _ h => h) ?_
 refine VC.seq ?_
 refine VC.region ?_
 refine VL.q (q_field gfa50_0 rfl) (by decide) ?_
 refine VL.q (q_fe gone9 rfl rfl) (by decide) ?_
 refine VL.q (q_fm gone9 rfl rfl) (by decide) ?_
 refine VL.q (q_seq rfl rfl) (by decide) ?_
 refine VL.q (q_assign rfl) (by decide) ?_
 refine VL.to (fun _ _ h => h) ?_
 cases hS
 exact VC.ret (fin1 (.inr rfl) rfl rfl () rfl trivial (fun _ _ => trivial) (fun _ _ => trivial))
theorem slices_IndexFunc_files_Row_files_File_ct (s_0 : Sv FilesFile) (f_1_0_b : Nat) (f_1_0 : Str) {r : Int} (hS : Sh.slices_IndexFunc_files_Row_files_File s_0.l f_1_0 = some r) :
 Ct Tryz.prog 216 [s_0.val, .func (.func 141) #[] #[ptr f_1_0_b 0]] (s_0.ok.and (Cells f_1_0_b 0 [str f_1_0])) (Ow.emp) (X := Unit) (fun _ => i64 r) (fun _ => True) (fun _ => Mo.tt) (fun _ => Ow.emp) := by
 refine Ct.of Tryz.func216 rfl (by kernel_rfl) Tryz.ntmps216 (by simp) fun c => ?_
 unfold Sh.slices_IndexFunc_files_Row_files_File at hS
 refine VC.seq ?_
 refine VC.region ?_
 refine VL.q (q_assign rfl) (by decide) ?_
 refine VL.to (fun _ _ h => h) ?_
 refine VC.seq ?_
 refine VC.seq ?_
 refine VC.region ?_
 refine VL.q (q_move rfl) (by decide) ?_
 refine VL.q (q_ln (s := s_0) Tryz.underlying23 rfl) (by decide) ?_
 refine VL.q (q_move rfl) (by decide) ?_
 refine VL.to (fun _ _ h => h) ?_
 refine VC.block ?_
 refine VC.iter (S := Int) (fun (x8_1 : Int) => x8_1) (fun (x8_1 : Int) => [(0, s_0.val), (1, .func (.func 141) #[] #[ptr f_1_0_b 0]), (7, i64 (s_0.l.length : Int)), (8, i64 x8_1)]) (fun (x8_1 : Int) => Mo.tt) (fun (x8_1 : Int) => Ow.emp) 0 [0, 1, 7, 8] hS rfl ?_
 clear hS
 rintro x8_1 m1 y1 hS hK1
 show VC _ _ _ _ _ [(0, s_0.val), (1, .func (.func 141) #[] #[ptr f_1_0_b 0]), (7, i64 (s_0.l.length : Int)), (8, i64 x8_1)] (Mo.and Mo.tt _) (Ow.emp)
 refine VC.seq ?_
 refine VC.region ?_
 refine VL.q (q_lss rfl rfl) (by decide) ?_
 refine VL.to (fun _ _ h => h) ?_
 refine VC.seq ?_
 refine VC.cond_dec rfl (fun h9 => ?_) (fun h9 => ?_)
 ·
  replace hS := it_t h9 hS
  refine VC.skip_to (fun _ _ h => h) ?_
  refine VC.seq ?_
  refine VC.block ?_
  refine VC.seq ?_
  refine VC.region ?_
  refine VL.q (q_move rfl) (by decide) ?_
  refine VL.q (q_assign rfl) (by decide) ?_
  refine VL.to (fun _ _ h => h) ?_
  refine VC.seq ?_
  refine VC.region ?_
  refine VL.q (q_move rfl) (by decide) ?_
  refine VL.q (q_move rfl) (by decide) ?_
  refine VL.q (q_move rfl) (by decide) ?_
  obtain ⟨z14_2, nz14_2, hz14_2, hS⟩ := at_s hS
  refine VL.q (q_ixm (s := s_0) Tryz.underlying23 gsz50 rfl rfl nz14_2 (lt_of_get nz14_2 hz14_2)) (by decide) ?_
  refine VL.q (q_els (s := s_0) gagg50 rfl rfl hz14_2) (by decide) ?_
  obtain ⟨y16_3, ey16_3, hS⟩ := bd_s hS
  refine VL.q (q_callVC (vs := [.agg #[str z14_2.path, i64 z14_2.mode, str z14_2.data]]) (caps := [ptr f_1_0_b 0]) (files_Row_Cut_1_ct z14_2 f_1_0_b f_1_0 ey16_3) rfl rfl (fun _ _ => rfl)) (by decide) ?_
  refine VL.to (fun _ _ h => h) ?_
  refine VC.keep [0, 1, 7, 8, 5, 16] rfl ?_
  refine VC.cond rfl (fun h16 => ?_) (fun h16 => ?_)
  ·
   replace hS := it_t h16 hS
   refine VC.seq ?_
   refine VC.region ?_
   refine VL.q (q_move rfl) (by decide) ?_
   refine VL.q (q_assign rfl) (by decide) ?_
   refine VL.to (fun _ _ h => h) ?_
   replace hS := up2 hS hK1
   cases hS
   exact VC.ret (fin1 (.inr rfl) rfl rfl () rfl trivial (fun _ _ => trivial) (fun _ _ => trivial))
  replace hS := it_b h16 hS
  refine VC.skip_to (fun _ _ h => h) ?_
  refine VC.region ?_
  obtain ⟨b18, hS⟩ := gd_s hS
  refine VL.q (q_add rfl rfl b18) (by decide) ?_
  refine VL.q (q_move rfl) (by decide) ?_
  refine VL.rnd (x8_1 + 1) [0, 1, 7, 8] (fun _ _ h => h) (go2 hS hK1) rfl
 replace hS := it_f h9 hS
 replace hS := up2 hS hK1
 refine VC.exit_to (fun _ _ h => h) ?_
 refine VC.seq ?_
 refine VC.region ?_
 refine VL.q (q_assign rfl) (by decide) ?_
 refine VL.to (fun _ _ h => h) ?_
 cases hS
 exact VC.ret (fin1 (.inr rfl) rfl rfl () rfl trivial (fun _ _ => trivial) (fun _ _ => trivial))
theorem slices_DeleteFunc_files_Row_files_File_ct (s_0 : Sv FilesFile) (del_1_0_b : Nat) (del_1_0 : Str) {r : List FilesFile} (hS : Sh.slices_DeleteFunc_files_Row_files_File s_0.l del_1_0 = some r) :
 Ct Tryz.prog 140 [s_0.val, .func (.func 141) #[] #[ptr del_1_0_b 0]] Mo.tt (Ow.star (Sv.own s_0 50) (Blk del_1_0_b [str del_1_0] 9)) (X := Sv FilesFile) (fun x => x.val) (fun x => r = x.l) (fun x => Mo.tt) (fun x => Ow.star (Sv.own x 50) (Blk del_1_0_b [str del_1_0] 9)) := by
 refine Ct.of Tryz.func140 rfl (by kernel_rfl) Tryz.ntmps140 (by simp) fun c => ?_
 unfold Sh.slices_DeleteFunc_files_Row_files_File at hS
 refine VC.seq ?_
 refine VC.region ?_
 refine VL.q (q_assign rfl) (by decide) ?_
 refine VL.to (fun _ _ h => h) ?_
 refine VC.seq ?_
 refine VC.region ?_
 refine VL.q (q_move rfl) (by decide) ?_
 refine VL.q (q_move rfl) (by decide) ?_
 obtain ⟨y10_1, ey10_1, hS⟩ := bd_s hS
 refine VL.q (q_callR (slices_IndexFunc_files_Row_files_File_ct s_0 del_1_0_b del_1_0 ey10_1) rfl (fun _ _ => rfl)) (by decide) ?_
 refine VL.q (q_assign rfl) (by decide) ?_
 refine VL.to (fun _ _ h => h) ?_
 refine VC.seq ?_
 refine VC.seq ?_
 refine VC.region ?_
 refine VL.q (q_move rfl) (by decide) ?_
 refine VL.q (q_eql rfl rfl) (by decide) ?_
 refine VL.to (fun _ _ h => h) ?_
 refine VC.cond_dec rfl (fun h12 => ?_) (fun h12 => ?_)
 ·
  replace hS := it_t h12 hS
  refine VC.seq ?_
  refine VC.region ?_
  refine VL.q (q_move rfl) (by decide) ?_
  refine VL.q (q_assign rfl) (by decide) ?_
  refine VL.to (fun _ _ h => h) ?_
  cases hS
  exact VC.ret (fin1 (.inr rfl) rfl rfl s_0 rfl rfl (by (try dsimp only); exact InM.out) (by (try dsimp only); exact EntO.out))
 replace hS := it_f h12 hS
 refine VC.skip_to (fun _ _ h => h) ?_
 refine VC.seq ?_
 refine VC.seq ?_
 refine VC.region ?_
 refine VL.q (q_move rfl) (by decide) ?_
 obtain ⟨b15, hS⟩ := gd_s hS
 refine VL.q (q_add rfl rfl b15) (by decide) ?_
 refine VL.q (q_assign rfl) (by decide) ?_
 refine VL.to (fun _ _ h => h) ?_
 refine VC.keep [0, 1, 5, 6] rfl ?_
 refine VC.block ?_
 refine VC.iter (S := Sv FilesFile × Int × Int) (fun sg => (sg.1.l, sg.2.1, sg.2.2)) (fun sg => [(0, sg.1.val), (1, .func (.func 141) #[] #[ptr del_1_0_b 0]), (5, i64 sg.2.1), (6, i64 sg.2.2)]) (fun sg => Mo.tt) (fun sg => Ow.star (Blk del_1_0_b [str del_1_0] 9) (Ow.star (Sv.own sg.1 50) (Ow.emp))) (s_0, y10_1, (y10_1 + 1)) [0, 1, 5, 6] hS rfl ?_
 clear hS
 rintro ⟨s0_2, i5_3, j6_4⟩ m1 y1 hS hK1
 show VC _ _ _ _ _ [(0, s0_2.val), (1, .func (.func 141) #[] #[ptr del_1_0_b 0]), (5, i64 i5_3), (6, i64 j6_4)] (Mo.and Mo.tt _) (Ow.star (Blk del_1_0_b [str del_1_0] 9) (Ow.star (Sv.own s0_2 50) (Ow.emp)))
 refine VC.seq ?_
 refine VC.seq ?_
 refine VC.region ?_
 refine VL.q (q_move rfl) (by decide) ?_
 refine VL.q (q_move rfl) (by decide) ?_
 refine VL.q (q_ln (s := s0_2) Tryz.underlying23 rfl) (by decide) ?_
 refine VL.q (q_lss rfl rfl) (by decide) ?_
 refine VL.to (fun _ _ h => h) ?_
 refine VC.cond_dec rfl (fun h19 => ?_) (fun h19 => ?_)
 ·
  replace hS := it_t h19 hS
  refine VC.skip_to (fun _ _ h => h) ?_
  refine VC.cutJ (S := Sv FilesFile × Int) (fun sg => (sg.1.l, sg.2)) (fun sg => [(0, sg.1.val), (1, .func (.func 141) #[] #[ptr del_1_0_b 0]), (5, i64 sg.2), (6, i64 j6_4)]) (fun sg => Mo.tt) (fun sg => Ow.star (Blk del_1_0_b [str del_1_0] 9) (Ow.star (Sv.own sg.1 50) (Ow.emp))) hS ?_ ?_
  ·
   clear hS
   intro k7 hS
   refine VC.block ?_
   refine VC.seq ?_
   refine VC.region ?_
   refine VL.q (q_move rfl) (by decide) ?_
   refine VL.q (q_move rfl) (by decide) ?_
   obtain ⟨z24_8, nz24_8, hz24_8, hS⟩ := at_s hS
   refine VL.q (q_ixo (s := s0_2) Tryz.underlying23 gsz50 rfl rfl nz24_8 (lt_of_get nz24_8 hz24_8)) (by decide) ?_
   refine VL.q (q_elso (s := s0_2) gagg50 rfl rfl hz24_8) (by decide) ?_
   refine VL.alloc (cs := [str [], i64 0, str []]) (by kernel_rfl) (by decide) fun b7_9 => ?_
   refine VL.store (vc := [str z24_8.path, i64 z24_8.mode, str z24_8.data]) (cs' := [str z24_8.path, i64 z24_8.mode, str z24_8.data]) rfl rfl rfl gsz50 rfl rfl (Nat.le_of_ble_eq_true rfl) rfl ?_
   refine VL.to (fun _ _ h => h) ?_
   refine VC.keep [0, 1, 5, 6, 7] rfl ?_
   refine VC.seq ?_
   refine VC.region ?_
   refine VL.q (q_move rfl) (by decide) ?_
   refine VL.q (q_fes gagg50 rfl rfl) (by decide) ?_
   obtain ⟨y28_10, ey28_10, hS⟩ := bd_s hS
   refine VL.q (q_callVC (vs := [.agg #[str z24_8.path, i64 z24_8.mode, str z24_8.data]]) (caps := [ptr del_1_0_b 0]) (files_Row_Cut_1_ct z24_8 del_1_0_b del_1_0 ey28_10) rfl rfl (fun _ _ => rfl)) (by decide) ?_
   refine VL.q (q_not rfl) (by decide) ?_
   refine VL.to (fun _ _ h => h) ?_
   refine VC.cond rfl (fun h29 => ?_) (fun h29 => ?_)
   ·
    replace hS := it_t h29 hS
    refine VC.seq ?_
    refine VC.region ?_
    refine VL.q (q_move rfl) (by decide) ?_
    refine VL.q (q_move rfl) (by decide) ?_
    refine VL.q (q_fes gagg50 rfl rfl) (by decide) ?_
    obtain ⟨z33_11, nz33_11, hz33_11, hS⟩ := at_s hS
    refine VL.q (q_ixo (s := s0_2) Tryz.underlying23 gsz50 rfl rfl nz33_11 (lt_of_get nz33_11 hz33_11)) (by decide) ?_
    refine VL.storeE (s := s0_2) (T := 50) (j := 0) (vc := [str z24_8.path, i64 z24_8.mode, str z24_8.data]) (⟨z24_8.path, z24_8.mode, z24_8.data⟩ : FilesFile) (by decide) rfl rfl hz33_11 rfl gsz50 rfl rfl (Nat.le_of_ble_eq_true rfl) rfl (fun w12 hw12 haw12 hcw12 hvw12 hbw12 how12 => ?_)
    rw [← hvw12]
    replace hS := lt_to hw12 hS
    refine VL.to (fun _ _ h => h) ?_
    refine VC.keep [0, 1, 5, 6] rfl ?_
    refine VC.region ?_
    refine VL.q (q_move rfl) (by decide) ?_
    obtain ⟨b35, hS⟩ := gd_s hS
    refine VL.q (q_add rfl rfl b35) (by decide) ?_
    refine VL.q (q_assign rfl) (by decide) ?_
    refine VL.mt (w12, (i5_3 + 1)) [0, 1, 5, 6] (fun _ _ h => h) hS rfl
   replace hS := it_b h29 hS
   refine VC.skip_mt (s0_2, i5_3) [0, 1, 5, 6] (fun _ _ h => h) hS rfl
  clear hS
  rintro ⟨s0_5, i5_6⟩ hS
  show VC _ _ _ _ _ [(0, s0_5.val), (1, .func (.func 141) #[] #[ptr del_1_0_b 0]), (5, i64 i5_6), (6, i64 j6_4)] (Mo.and Mo.tt _) (Ow.star (Blk del_1_0_b [str del_1_0] 9) (Ow.star (Sv.own s0_5 50) (Ow.emp)))
  refine VC.region ?_
  refine VL.q (q_move rfl) (by decide) ?_
  obtain ⟨b21, hS⟩ := gd_s hS
  refine VL.q (q_add rfl rfl b21) (by decide) ?_
  refine VL.q (q_assign rfl) (by decide) ?_
  refine VL.rnd (s0_5, i5_6, (j6_4 + 1)) [0, 1, 5, 6] (fun _ _ h => h) (go2 hS hK1) rfl
 replace hS := it_f h19 hS
 replace hS := up2 hS hK1
 refine VC.exit_to (fun _ _ h => h) ?_
 refine VC.seq ?_
 refine VC.region ?_
 refine VL.q (q_move rfl) (by decide) ?_
 refine VL.q (q_move rfl) (by decide) ?_
 obtain ⟨b38, hS⟩ := gd_s hS
 refine VL.fits (s := s0_2) (e := 50) Fo.out fun f38_14 => ?_
 refine VL.q (q_subv (s := s0_2) Tryz.underlying23 gsz50 rfl rfl b38.1 b38.2 f38_14) (by decide) ?_
 refine VL.clrN (s := s0_2) (i := i5_3.toNat) (.agg #[str [], i64 0, str []]) Tryz.underlying23 gzv50 rfl rfl rfl (by have := b38; dsimp only at this ⊢; omega) Fo.out fun ss3_15 hss3_15 vss3_15 => ?_
 replace hS := lt_to hss3_15 hS
 refine VL.to (fun _ _ h => h) ?_
 refine VC.keep [0, 5] rfl ?_
 refine VC.seq ?_
 refine VC.region ?_
 refine VL.q (q_move rfl) (by decide) ?_
 refine VL.q (q_move rfl) (by decide) ?_
 refine VL.q (q_cutO (s := s0_2) (q := ss3_15) Tryz.underlying23 gsz50 rfl rfl b38.1 b38.2 f38_14 vss3_15) (by decide) ?_
 refine VL.q (q_assign rfl) (by decide) ?_
 refine VL.to (fun _ _ h => h) ?_
 cases hS
 exact VC.ret (fin1 (.inr rfl) rfl rfl ss3_15 rfl rfl (by (try dsimp only); exact InM.out) (by (try dsimp only); exact EntO.out))
theorem files_Row_Cut_ct (r_0 : Sv FilesFile) (p_1 : Str) {r : List FilesFile} (hS : Sh.files_Row_Cut r_0.l p_1 = some r) :
 Ct Tryz.prog 59 [r_0.val, str p_1] r_0.ok (Ow.emp) (X := Sv FilesFile) (fun x => x.val) (fun x => r = x.l) (fun x => x.ok) (fun x => Ow.emp) := by
 refine Ct.of Tryz.func59 rfl (by kernel_rfl) Tryz.ntmps59 (by simp) fun c => ?_
 unfold Sh.files_Row_Cut at hS
 refine VC.seq ?_
 refine VC.region ?_
 refine VL.box (cs := [str p_1]) rfl rfl (by decide) fun b3_1 => ?_
 refine VL.q (q_assign rfl) (by decide) ?_
 refine VL.to (fun _ _ h => h) ?_
 refine VC.seq ?_
 refine VC.region ?_
 refine VL.q (q_move rfl) (by decide) ?_
 obtain ⟨y6_2, ey6_2, hS⟩ := bd_s hS
 refine VL.callO (slices_Clone_files_Row_files_File_ct r_0 ey6_2) rfl (by decide) ?_
 rintro q6_2_0 rfl
 try dsimp only
 refine VL.q (q_mkfn rfl) (by decide) ?_
 obtain ⟨y8_3, ey8_3, hS⟩ := bd_s hS
 refine VL.callO (slices_DeleteFunc_files_Row_files_File_ct q6_2_0 b3_1 p_1 ey8_3) rfl (by decide) ?_
 rintro q8_3_0 rfl
 try dsimp only
 refine VL.shut q8_3_0 50 (fun _ _ _ _ => trivial) ?_
 obtain ⟨y9_4, ey9_4, hS⟩ := bd_s hS
 refine VL.callF (slices_Clip_files_Row_files_File_ct q8_3_0 ey9_4) rfl (by decide) ?_
 rintro q9_4_0 rfl
 try dsimp only
 refine VL.q (q_assign rfl) (by decide) ?_
 refine VL.to (fun _ _ h => h) ?_
 cases hS
 exact VC.ret (fin1 (.inr rfl) rfl rfl q9_4_0 rfl rfl (by (try dsimp only); exact InM.out) (fun _ _ => trivial))
theorem index_gives_ct (x_0 : IndexEntry) (e_1 : IndexEntry) {r : Bool} (hS : Sh.index_gives x_0 e_1 = some r) :
 Ct Tryz.prog 219 [.agg #[str x_0.path, i64 x_0.stage, i64 x_0.mode, str x_0.data, i64 x_0.time, i64 x_0.size], .agg #[str e_1.path, i64 e_1.stage, i64 e_1.mode, str e_1.data, i64 e_1.time, i64 e_1.size]] Mo.tt (Ow.emp) (X := Unit) (fun _ => .bool r) (fun _ => True) (fun _ => Mo.tt) (fun _ => Ow.emp) := by
 refine Ct.of Tryz.func219 rfl (by kernel_rfl) Tryz.ntmps219 (by simp) fun c => ?_
 unfold Sh.index_gives at hS
 refine VC.seq ?_
 refine VC.region ?_
 refine VL.box (cs := [str x_0.path, i64 x_0.stage, i64 x_0.mode, str x_0.data, i64 x_0.time, i64 x_0.size]) rfl rfl (by decide) fun b2_1 => ?_
 refine VL.box (cs := [str e_1.path, i64 e_1.stage, i64 e_1.mode, str e_1.data, i64 e_1.time, i64 e_1.size]) rfl rfl (by decide) fun b3_2 => ?_
 refine VL.q (q_assign rfl) (by decide) ?_
 refine VL.to (fun _ _ h => h) ?_
 refine VC.seq ?_
 refine VC.block ?_
 refine VC.seq ?_
 refine VC.region ?_
 refine VL.q (q_field gfa83_0 rfl) (by decide) ?_
 refine VL.q (q_fe gone9 rfl rfl) (by decide) ?_
 refine VL.q (q_field gfa83_0 rfl) (by decide) ?_
 refine VL.q (q_fe gone9 rfl rfl) (by decide) ?_
 obtain ⟨y10_3, ey10_3, hS⟩ := bd_s hS
 refine VL.q (q_call (path_Clash_ct x_0.path e_1.path ey10_3) rfl (fun _ _ => rfl)) (by decide) ?_
 refine VL.q (q_assign rfl) (by decide) ?_
 refine VL.to (fun _ _ h => h) ?_
 refine VC.keep [2, 3, 5] rfl ?_
 refine VC.cond rfl (fun h5 => ?_) (fun h5 => ?_)
 ·
  replace hS := it_t h5 hS
  refine VC.seq ?_
  refine VC.region ?_
  refine VL.q (q_assign rfl) (by decide) ?_
  refine VL.to (fun _ _ h => h) ?_
  cases hS
  exact VC.ret (fin1 (.inr rfl) rfl rfl () rfl trivial (fun _ _ => trivial) (fun _ _ => trivial))
 replace hS := it_b h5 hS
 refine VC.seq ?_
 refine VC.region ?_
 refine VL.q (q_field gfa83_0 rfl) (by decide) ?_
 refine VL.q (q_fe gone9 rfl rfl) (by decide) ?_
 refine VL.q (q_field gfa83_0 rfl) (by decide) ?_
 refine VL.q (q_fe gone9 rfl rfl) (by decide) ?_
 refine VL.q (q_sne rfl rfl) (by decide) ?_
 refine VL.q (q_assign rfl) (by decide) ?_
 refine VL.to (fun _ _ h => h) ?_
 refine VC.cond_ndec rfl (fun h11 => ?_) (fun h11 => ?_)
 ·
  replace hS := it_f h11 hS
  refine VC.seq ?_
  refine VC.region ?_
  refine VL.q (q_assign rfl) (by decide) ?_
  refine VL.to (fun _ _ h => h) ?_
  cases hS
  exact VC.ret (fin1 (.inr rfl) rfl rfl () rfl trivial (fun _ _ => trivial) (fun _ _ => trivial))
 replace hS := it_t h11 hS
 refine VC.skip_to (fun _ _ h => h) ?_
 refine VC.seq ?_
 refine VC.seq ?_
 refine VC.region ?_
 refine VL.q (q_field gfa83_1 rfl) (by decide) ?_
 refine VL.q (q_fe gone3 rfl rfl) (by decide) ?_
 refine VL.to (fun _ _ h => h) ?_
 refine VC.keep [2, 3, 18] rfl ?_
 refine VC.block ?_
 refine VC.cutJ (S := Unit) (fun (_ : Unit) => ()) (fun (_ : Unit) => [(2, ptr b2_1 0), (3, ptr b3_2 0)]) (fun (_ : Unit) => Mo.tt) (fun (_ : Unit) => Ow.star (Blk b3_2 [str e_1.path, i64 e_1.stage, i64 e_1.mode, str e_1.data, i64 e_1.time, i64 e_1.size] 83) (Ow.star (Blk b2_1 [str x_0.path, i64 x_0.stage, i64 x_0.mode, str x_0.data, i64 x_0.time, i64 x_0.size] 83) (Ow.emp))) hS ?_ ?_
 ·
  clear hS
  intro k4 hS
  refine VC.block ?_
  refine VC.block ?_
  refine VC.block ?_
  refine VC.seq ?_
  refine VC.seq ?_
  refine VC.seq ?_
  refine VC.region ?_
  refine VL.q (q_eql rfl rfl) (by decide) ?_
  refine VL.q (q_assign rfl) (by decide) ?_
  refine VL.to (fun _ _ h => h) ?_
  refine VC.cond_dec rfl (fun h19 => ?_) (fun h19 => ?_)
  ·
   replace hS := it_t h19 hS
   refine VC.exit_mt () [2, 3] (fun _ _ h => h) hS rfl
  replace hS := it_f h19 hS
  refine VC.skip_to (fun _ _ h => h) ?_
  refine VC.seq ?_
  refine VC.seq ?_
  refine VC.region ?_
  refine VL.q (q_eql rfl rfl) (by decide) ?_
  refine VL.q (q_assign rfl) (by decide) ?_
  refine VL.to (fun _ _ h => h) ?_
  refine VC.cond_dec rfl (fun h21 => ?_) (fun h21 => ?_)
  ·
   replace hS := it_t h21 hS
   refine VC.exit_mt () [2, 3] (fun _ _ h => h) hS rfl
  replace hS := it_f h21 hS
  refine VC.skip_to (fun _ _ h => h) ?_
  refine VC.seq ?_
  refine VC.region ?_
  refine VL.q (q_eql rfl rfl) (by decide) ?_
  refine VL.q (q_assign rfl) (by decide) ?_
  refine VL.to (fun _ _ h => h) ?_
  refine VC.cond_dec rfl (fun h23 => ?_) (fun h23 => ?_)
  ·
   replace hS := it_t h23 hS
   refine VC.exit_mt () [2, 3] (fun _ _ h => h) hS rfl
  replace hS := it_f h23 hS
  refine VC.skip_to (fun _ _ h => h) ?_
  refine VC.exit_to (fun _ _ h => h) ?_
  refine VC.seq ?_
  refine VC.region ?_
  refine VL.q (q_assign rfl) (by decide) ?_
  refine VL.to (fun _ _ h => h) ?_
  cases hS
  exact VC.ret (fin1 (.inr rfl) rfl rfl () rfl trivial (fun _ _ => trivial) (fun _ _ => trivial))
 clear hS
 rintro _ hS
 show VC _ _ _ _ _ [(2, ptr b2_1 0), (3, ptr b3_2 0)] (Mo.and Mo.tt _) (Ow.star (Blk b3_2 [str e_1.path, i64 e_1.stage, i64 e_1.mode, str e_1.data, i64 e_1.time, i64 e_1.size] 83) (Ow.star (Blk b2_1 [str x_0.path, i64 x_0.stage, i64 x_0.mode, str x_0.data, i64 x_0.time, i64 x_0.size] 83) (Ow.emp)))
 refine VC.seq ?_
 refine VC.seq ?_
 refine VC.region ?_
 refine VL.q (q_field gfa83_1 rfl) (by decide) ?_
 refine VL.q (q_fe gone3 rfl rfl) (by decide) ?_
 refine VL.q (q_eql rfl rfl) (by decide) ?_
 refine VL.q (q_move rfl) (by decide) ?_
 refine VL.split_dec 28 rfl (fun h28 => ?_) (fun h28 => ?_)
 ·
  replace hS := it_t h28 hS
  refine VL.gn rfl rfl rfl (by decide) ?_
  refine VL.gn rfl rfl rfl (by decide) ?_
  refine VL.gn rfl rfl rfl (by decide) ?_
  refine VL.gn rfl rfl rfl (by decide) ?_
  refine VL.gn rfl rfl rfl (by decide) ?_
  refine VL.q (q_pick_t rfl rfl) (by decide) ?_
  refine VL.q (q_assign rfl) (by decide) ?_
  refine VL.to (fun _ _ h => h) ?_
  refine VC.keep [4] rfl ?_
  cases hS
  exact VC.ret (fin1 (.inr rfl) rfl rfl () rfl trivial (fun _ _ => trivial) (fun _ _ => trivial))
 replace hS := it_f h28 hS
 refine VL.gy rfl rfl (q_field gfa83_1 rfl) (by decide) ?_
 refine VL.gy rfl rfl (q_fe gone3 rfl rfl) (by decide) ?_
 refine VL.gy rfl rfl (q_field gfa83_1 rfl) (by decide) ?_
 refine VL.gy rfl rfl (q_fe gone3 rfl rfl) (by decide) ?_
 refine VL.gy rfl rfl (q_eql rfl rfl) (by decide) ?_
 refine VL.q (q_pick_f rfl rfl) (by decide) ?_
 refine VL.q (q_assign rfl) (by decide) ?_
 refine VL.to (fun _ _ h => h) ?_
 refine VC.keep [4] rfl ?_
 cases hS
 exact VC.ret (fin1 (.inr rfl) rfl rfl () rfl trivial (fun _ _ => trivial) (fun _ _ => trivial))
theorem index_Put_1_ct (x_0 : IndexEntry) (a_1_b : Nat) (a_1 : IndexEntry) {r : Bool} (hS : Sh.index_Put_1 x_0 a_1 = some r) :
 Ct Tryz.prog 218 [.agg #[str x_0.path, i64 x_0.stage, i64 x_0.mode, str x_0.data, i64 x_0.time, i64 x_0.size], ptr a_1_b 0] (Cells a_1_b 0 [str a_1.path, i64 a_1.stage, i64 a_1.mode, str a_1.data, i64 a_1.time, i64 a_1.size]) (Ow.emp) (X := Unit) (fun _ => .bool r) (fun _ => True) (fun _ => Mo.tt) (fun _ => Ow.emp) := by
 refine Ct.of Tryz.func218 rfl (by kernel_rfl) Tryz.ntmps218 (by simp) fun c => ?_
 unfold Sh.index_Put_1 at hS
 refine VC.seq ?_
 refine VC.region ?_
 refine VL.box (cs := [str x_0.path, i64 x_0.stage, i64 x_0.mode, str x_0.data, i64 x_0.time, i64 x_0.size]) rfl rfl (by decide) fun b2_1 => ?_
 refine VL.q (q_assign rfl) (by decide) ?_
 refine VL.to (fun _ _ h => h) ?_
 refine VC.seq ?_
 refine VC.region ?_
 refine VL.q (q_fes gagg83 rfl rfl) (by decide) ?_
 refine VL.q (q_fms gagg83 rfl rfl) (by decide) ?_
 obtain ⟨y6_2, ey6_2, hS⟩ := bd_s hS
 refine VL.q (q_call (index_gives_ct x_0 a_1 ey6_2) rfl (fun _ _ => rfl)) (by decide) ?_
 refine VL.q (q_assign rfl) (by decide) ?_
 refine VL.to (fun _ _ h => h) ?_
 cases hS
 exact VC.ret (fin1 (.inr rfl) rfl rfl () rfl trivial (fun _ _ => trivial) (fun _ _ => trivial))
theorem slices_IndexFunc_index_Entry_index_Entry_v2_ct (s_0 : Sv IndexEntry) (f_1_0_b : Nat) (f_1_0 : IndexEntry) {r : Int} (hS : Sh.slices_IndexFunc_index_Entry_index_Entry_v2 s_0.l f_1_0 = some r) :
 Ct Tryz.prog 217 [s_0.val, .func (.func 218) #[] #[ptr f_1_0_b 0]] (s_0.ok.and (Cells f_1_0_b 0 [str f_1_0.path, i64 f_1_0.stage, i64 f_1_0.mode, str f_1_0.data, i64 f_1_0.time, i64 f_1_0.size])) (Ow.emp) (X := Unit) (fun _ => i64 r) (fun _ => True) (fun _ => Mo.tt) (fun _ => Ow.emp) := by
 refine Ct.of Tryz.func217 rfl (by kernel_rfl) Tryz.ntmps217 (by simp) fun c => ?_
 unfold Sh.slices_IndexFunc_index_Entry_index_Entry_v2 at hS
 refine VC.seq ?_
 refine VC.region ?_
 refine VL.q (q_assign rfl) (by decide) ?_
 refine VL.to (fun _ _ h => h) ?_
 refine VC.seq ?_
 refine VC.seq ?_
 refine VC.region ?_
 refine VL.q (q_move rfl) (by decide) ?_
 refine VL.q (q_ln (s := s_0) Tryz.underlying29 rfl) (by decide) ?_
 refine VL.q (q_move rfl) (by decide) ?_
 refine VL.to (fun _ _ h => h) ?_
 refine VC.block ?_
 refine VC.iter (S := Int) (fun (x8_1 : Int) => x8_1) (fun (x8_1 : Int) => [(0, s_0.val), (1, .func (.func 218) #[] #[ptr f_1_0_b 0]), (7, i64 (s_0.l.length : Int)), (8, i64 x8_1)]) (fun (x8_1 : Int) => Mo.tt) (fun (x8_1 : Int) => Ow.emp) 0 [0, 1, 7, 8] hS rfl ?_
 clear hS
 rintro x8_1 m1 y1 hS hK1
 show VC _ _ _ _ _ [(0, s_0.val), (1, .func (.func 218) #[] #[ptr f_1_0_b 0]), (7, i64 (s_0.l.length : Int)), (8, i64 x8_1)] (Mo.and Mo.tt _) (Ow.emp)
 refine VC.seq ?_
 refine VC.region ?_
 refine VL.q (q_lss rfl rfl) (by decide) ?_
 refine VL.to (fun _ _ h => h) ?_
 refine VC.seq ?_
 refine VC.cond_dec rfl (fun h9 => ?_) (fun h9 => ?_)
 ·
  replace hS := it_t h9 hS
  refine VC.skip_to (fun _ _ h => h) ?_
  refine VC.seq ?_
  refine VC.block ?_
  refine VC.seq ?_
  refine VC.region ?_
  refine VL.q (q_move rfl) (by decide) ?_
  refine VL.q (q_assign rfl) (by decide) ?_
  refine VL.to (fun _ _ h => h) ?_
  refine VC.seq ?_
  refine VC.region ?_
  refine VL.q (q_move rfl) (by decide) ?_
  refine VL.q (q_move rfl) (by decide) ?_
  refine VL.q (q_move rfl) (by decide) ?_
  obtain ⟨z14_2, nz14_2, hz14_2, hS⟩ := at_s hS
  refine VL.q (q_ixm (s := s_0) Tryz.underlying29 gsz83 rfl rfl nz14_2 (lt_of_get nz14_2 hz14_2)) (by decide) ?_
  refine VL.q (q_els (s := s_0) gagg83 rfl rfl hz14_2) (by decide) ?_
  obtain ⟨y16_3, ey16_3, hS⟩ := bd_s hS
  refine VL.q (q_callVC (vs := [.agg #[str z14_2.path, i64 z14_2.stage, i64 z14_2.mode, str z14_2.data, i64 z14_2.time, i64 z14_2.size]]) (caps := [ptr f_1_0_b 0]) (index_Put_1_ct z14_2 f_1_0_b f_1_0 ey16_3) rfl rfl (fun _ _ => rfl)) (by decide) ?_
  refine VL.to (fun _ _ h => h) ?_
  refine VC.keep [0, 1, 7, 8, 5, 16] rfl ?_
  refine VC.cond rfl (fun h16 => ?_) (fun h16 => ?_)
  ·
   replace hS := it_t h16 hS
   refine VC.seq ?_
   refine VC.region ?_
   refine VL.q (q_move rfl) (by decide) ?_
   refine VL.q (q_assign rfl) (by decide) ?_
   refine VL.to (fun _ _ h => h) ?_
   replace hS := up2 hS hK1
   cases hS
   exact VC.ret (fin1 (.inr rfl) rfl rfl () rfl trivial (fun _ _ => trivial) (fun _ _ => trivial))
  replace hS := it_b h16 hS
  refine VC.skip_to (fun _ _ h => h) ?_
  refine VC.region ?_
  obtain ⟨b18, hS⟩ := gd_s hS
  refine VL.q (q_add rfl rfl b18) (by decide) ?_
  refine VL.q (q_move rfl) (by decide) ?_
  refine VL.rnd (x8_1 + 1) [0, 1, 7, 8] (fun _ _ h => h) (go2 hS hK1) rfl
 replace hS := it_f h9 hS
 replace hS := up2 hS hK1
 refine VC.exit_to (fun _ _ h => h) ?_
 refine VC.seq ?_
 refine VC.region ?_
 refine VL.q (q_assign rfl) (by decide) ?_
 refine VL.to (fun _ _ h => h) ?_
 cases hS
 exact VC.ret (fin1 (.inr rfl) rfl rfl () rfl trivial (fun _ _ => trivial) (fun _ _ => trivial))
theorem slices_DeleteFunc_index_Entry_index_Entry_v2_ct (s_0 : Sv IndexEntry) (del_1_0_b : Nat) (del_1_0 : IndexEntry) {r : List IndexEntry} (hS : Sh.slices_DeleteFunc_index_Entry_index_Entry_v2 s_0.l del_1_0 = some r) :
 Ct Tryz.prog 138 [s_0.val, .func (.func 218) #[] #[ptr del_1_0_b 0]] Mo.tt (Ow.star (Sv.own s_0 83) (Blk del_1_0_b [str del_1_0.path, i64 del_1_0.stage, i64 del_1_0.mode, str del_1_0.data, i64 del_1_0.time, i64 del_1_0.size] 83)) (X := Sv IndexEntry) (fun x => x.val) (fun x => r = x.l) (fun x => Mo.tt) (fun x => Ow.star (Sv.own x 83) (Blk del_1_0_b [str del_1_0.path, i64 del_1_0.stage, i64 del_1_0.mode, str del_1_0.data, i64 del_1_0.time, i64 del_1_0.size] 83)) := by
 refine Ct.of Tryz.func138 rfl (by kernel_rfl) Tryz.ntmps138 (by simp) fun c => ?_
 unfold Sh.slices_DeleteFunc_index_Entry_index_Entry_v2 at hS
 refine VC.seq ?_
 refine VC.region ?_
 refine VL.q (q_assign rfl) (by decide) ?_
 refine VL.to (fun _ _ h => h) ?_
 refine VC.seq ?_
 refine VC.region ?_
 refine VL.q (q_move rfl) (by decide) ?_
 refine VL.q (q_move rfl) (by decide) ?_
 obtain ⟨y10_1, ey10_1, hS⟩ := bd_s hS
 refine VL.q (q_callR (slices_IndexFunc_index_Entry_index_Entry_v2_ct s_0 del_1_0_b del_1_0 ey10_1) rfl (fun _ _ => rfl)) (by decide) ?_
 refine VL.q (q_assign rfl) (by decide) ?_
 refine VL.to (fun _ _ h => h) ?_
 refine VC.seq ?_
 refine VC.seq ?_
 refine VC.region ?_
 refine VL.q (q_move rfl) (by decide) ?_
 refine VL.q (q_eql rfl rfl) (by decide) ?_
 refine VL.to (fun _ _ h => h) ?_
 refine VC.cond_dec rfl (fun h12 => ?_) (fun h12 => ?_)
 ·
  replace hS := it_t h12 hS
  refine VC.seq ?_
  refine VC.region ?_
  refine VL.q (q_move rfl) (by decide) ?_
  refine VL.q (q_assign rfl) (by decide) ?_
  refine VL.to (fun _ _ h => h) ?_
  cases hS
  exact VC.ret (fin1 (.inr rfl) rfl rfl s_0 rfl rfl (by (try dsimp only); exact InM.out) (by (try dsimp only); exact EntO.out))
 replace hS := it_f h12 hS
 refine VC.skip_to (fun _ _ h => h) ?_
 refine VC.seq ?_
 refine VC.seq ?_
 refine VC.region ?_
 refine VL.q (q_move rfl) (by decide) ?_
 obtain ⟨b15, hS⟩ := gd_s hS
 refine VL.q (q_add rfl rfl b15) (by decide) ?_
 refine VL.q (q_assign rfl) (by decide) ?_
 refine VL.to (fun _ _ h => h) ?_
 refine VC.keep [0, 1, 5, 6] rfl ?_
 refine VC.block ?_
 refine VC.iter (S := Sv IndexEntry × Int × Int) (fun sg => (sg.1.l, sg.2.1, sg.2.2)) (fun sg => [(0, sg.1.val), (1, .func (.func 218) #[] #[ptr del_1_0_b 0]), (5, i64 sg.2.1), (6, i64 sg.2.2)]) (fun sg => Mo.tt) (fun sg => Ow.star (Blk del_1_0_b [str del_1_0.path, i64 del_1_0.stage, i64 del_1_0.mode, str del_1_0.data, i64 del_1_0.time, i64 del_1_0.size] 83) (Ow.star (Sv.own sg.1 83) (Ow.emp))) (s_0, y10_1, (y10_1 + 1)) [0, 1, 5, 6] hS rfl ?_
 clear hS
 rintro ⟨s0_2, i5_3, j6_4⟩ m1 y1 hS hK1
 show VC _ _ _ _ _ [(0, s0_2.val), (1, .func (.func 218) #[] #[ptr del_1_0_b 0]), (5, i64 i5_3), (6, i64 j6_4)] (Mo.and Mo.tt _) (Ow.star (Blk del_1_0_b [str del_1_0.path, i64 del_1_0.stage, i64 del_1_0.mode, str del_1_0.data, i64 del_1_0.time, i64 del_1_0.size] 83) (Ow.star (Sv.own s0_2 83) (Ow.emp)))
 refine VC.seq ?_
 refine VC.seq ?_
 refine VC.region ?_
 refine VL.q (q_move rfl) (by decide) ?_
 refine VL.q (q_move rfl) (by decide) ?_
 refine VL.q (q_ln (s := s0_2) Tryz.underlying29 rfl) (by decide) ?_
 refine VL.q (q_lss rfl rfl) (by decide) ?_
 refine VL.to (fun _ _ h => h) ?_
 refine VC.cond_dec rfl (fun h19 => ?_) (fun h19 => ?_)
 ·
  replace hS := it_t h19 hS
  refine VC.skip_to (fun _ _ h => h) ?_
  refine VC.cutJ (S := Sv IndexEntry × Int) (fun sg => (sg.1.l, sg.2)) (fun sg => [(0, sg.1.val), (1, .func (.func 218) #[] #[ptr del_1_0_b 0]), (5, i64 sg.2), (6, i64 j6_4)]) (fun sg => Mo.tt) (fun sg => Ow.star (Blk del_1_0_b [str del_1_0.path, i64 del_1_0.stage, i64 del_1_0.mode, str del_1_0.data, i64 del_1_0.time, i64 del_1_0.size] 83) (Ow.star (Sv.own sg.1 83) (Ow.emp))) hS ?_ ?_
  ·
   clear hS
   intro k7 hS
   refine VC.block ?_
   refine VC.seq ?_
   refine VC.region ?_
   refine VL.q (q_move rfl) (by decide) ?_
   refine VL.q (q_move rfl) (by decide) ?_
   obtain ⟨z24_8, nz24_8, hz24_8, hS⟩ := at_s hS
   refine VL.q (q_ixo (s := s0_2) Tryz.underlying29 gsz83 rfl rfl nz24_8 (lt_of_get nz24_8 hz24_8)) (by decide) ?_
   refine VL.q (q_elso (s := s0_2) gagg83 rfl rfl hz24_8) (by decide) ?_
   refine VL.alloc (cs := [str [], i64 0, i64 0, str [], i64 0, i64 0]) (by kernel_rfl) (by decide) fun b7_9 => ?_
   refine VL.store (vc := [str z24_8.path, i64 z24_8.stage, i64 z24_8.mode, str z24_8.data, i64 z24_8.time, i64 z24_8.size]) (cs' := [str z24_8.path, i64 z24_8.stage, i64 z24_8.mode, str z24_8.data, i64 z24_8.time, i64 z24_8.size]) rfl rfl rfl gsz83 rfl rfl (Nat.le_of_ble_eq_true rfl) rfl ?_
   refine VL.to (fun _ _ h => h) ?_
   refine VC.keep [0, 1, 5, 6, 7] rfl ?_
   refine VC.seq ?_
   refine VC.region ?_
   refine VL.q (q_move rfl) (by decide) ?_
   refine VL.q (q_fes gagg83 rfl rfl) (by decide) ?_
   obtain ⟨y28_10, ey28_10, hS⟩ := bd_s hS
   refine VL.q (q_callVC (vs := [.agg #[str z24_8.path, i64 z24_8.stage, i64 z24_8.mode, str z24_8.data, i64 z24_8.time, i64 z24_8.size]]) (caps := [ptr del_1_0_b 0]) (index_Put_1_ct z24_8 del_1_0_b del_1_0 ey28_10) rfl rfl (fun _ _ => rfl)) (by decide) ?_
   refine VL.q (q_not rfl) (by decide) ?_
   refine VL.to (fun _ _ h => h) ?_
   refine VC.cond rfl (fun h29 => ?_) (fun h29 => ?_)
   ·
    replace hS := it_t h29 hS
    refine VC.seq ?_
    refine VC.region ?_
    refine VL.q (q_move rfl) (by decide) ?_
    refine VL.q (q_move rfl) (by decide) ?_
    refine VL.q (q_fes gagg83 rfl rfl) (by decide) ?_
    obtain ⟨z33_11, nz33_11, hz33_11, hS⟩ := at_s hS
    refine VL.q (q_ixo (s := s0_2) Tryz.underlying29 gsz83 rfl rfl nz33_11 (lt_of_get nz33_11 hz33_11)) (by decide) ?_
    refine VL.storeE (s := s0_2) (T := 83) (j := 0) (vc := [str z24_8.path, i64 z24_8.stage, i64 z24_8.mode, str z24_8.data, i64 z24_8.time, i64 z24_8.size]) (⟨z24_8.path, z24_8.stage, z24_8.mode, z24_8.data, z24_8.time, z24_8.size⟩ : IndexEntry) (by decide) rfl rfl hz33_11 rfl gsz83 rfl rfl (Nat.le_of_ble_eq_true rfl) rfl (fun w12 hw12 haw12 hcw12 hvw12 hbw12 how12 => ?_)
    rw [← hvw12]
    replace hS := lt_to hw12 hS
    refine VL.to (fun _ _ h => h) ?_
    refine VC.keep [0, 1, 5, 6] rfl ?_
    refine VC.region ?_
    refine VL.q (q_move rfl) (by decide) ?_
    obtain ⟨b35, hS⟩ := gd_s hS
    refine VL.q (q_add rfl rfl b35) (by decide) ?_
    refine VL.q (q_assign rfl) (by decide) ?_
    refine VL.mt (w12, (i5_3 + 1)) [0, 1, 5, 6] (fun _ _ h => h) hS rfl
   replace hS := it_b h29 hS
   refine VC.skip_mt (s0_2, i5_3) [0, 1, 5, 6] (fun _ _ h => h) hS rfl
  clear hS
  rintro ⟨s0_5, i5_6⟩ hS
  show VC _ _ _ _ _ [(0, s0_5.val), (1, .func (.func 218) #[] #[ptr del_1_0_b 0]), (5, i64 i5_6), (6, i64 j6_4)] (Mo.and Mo.tt _) (Ow.star (Blk del_1_0_b [str del_1_0.path, i64 del_1_0.stage, i64 del_1_0.mode, str del_1_0.data, i64 del_1_0.time, i64 del_1_0.size] 83) (Ow.star (Sv.own s0_5 83) (Ow.emp)))
  refine VC.region ?_
  refine VL.q (q_move rfl) (by decide) ?_
  obtain ⟨b21, hS⟩ := gd_s hS
  refine VL.q (q_add rfl rfl b21) (by decide) ?_
  refine VL.q (q_assign rfl) (by decide) ?_
  refine VL.rnd (s0_5, i5_6, (j6_4 + 1)) [0, 1, 5, 6] (fun _ _ h => h) (go2 hS hK1) rfl
 replace hS := it_f h19 hS
 replace hS := up2 hS hK1
 refine VC.exit_to (fun _ _ h => h) ?_
 refine VC.seq ?_
 refine VC.region ?_
 refine VL.q (q_move rfl) (by decide) ?_
 refine VL.q (q_move rfl) (by decide) ?_
 obtain ⟨b38, hS⟩ := gd_s hS
 refine VL.fits (s := s0_2) (e := 83) Fo.out fun f38_14 => ?_
 refine VL.q (q_subv (s := s0_2) Tryz.underlying29 gsz83 rfl rfl b38.1 b38.2 f38_14) (by decide) ?_
 refine VL.clrN (s := s0_2) (i := i5_3.toNat) (.agg #[str [], i64 0, i64 0, str [], i64 0, i64 0]) Tryz.underlying29 gzv83 rfl rfl rfl (by have := b38; dsimp only at this ⊢; omega) Fo.out fun ss3_15 hss3_15 vss3_15 => ?_
 replace hS := lt_to hss3_15 hS
 refine VL.to (fun _ _ h => h) ?_
 refine VC.keep [0, 5] rfl ?_
 refine VC.seq ?_
 refine VC.region ?_
 refine VL.q (q_move rfl) (by decide) ?_
 refine VL.q (q_move rfl) (by decide) ?_
 refine VL.q (q_cutO (s := s0_2) (q := ss3_15) Tryz.underlying29 gsz83 rfl rfl b38.1 b38.2 f38_14 vss3_15) (by decide) ?_
 refine VL.q (q_assign rfl) (by decide) ?_
 refine VL.to (fun _ _ h => h) ?_
 cases hS
 exact VC.ret (fin1 (.inr rfl) rfl rfl ss3_15 rfl rfl (by (try dsimp only); exact InM.out) (by (try dsimp only); exact EntO.out))
theorem cmp_isNaN_int_ct (x_0 : Int) {r : Bool} (hS : Sh.cmp_isNaN_int x_0 = some r) :
 Ct Tryz.prog 326 [i64 x_0] Mo.tt (Ow.emp) (X := Unit) (fun _ => .bool r) (fun _ => True) (fun _ => Mo.tt) (fun _ => Ow.emp) := by
 refine Ct.of Tryz.func326 rfl (by kernel_rfl) Tryz.ntmps326 (by simp) fun c => ?_
 unfold Sh.cmp_isNaN_int at hS
 refine VC.seq ?_
 refine VC.region ?_
 refine VL.q (q_assign rfl) (by decide) ?_
 refine VL.to (fun _ _ h => h) ?_
 refine VC.seq ?_
 refine VC.region ?_
 refine VL.q (q_move rfl) (by decide) ?_
 refine VL.q (q_move rfl) (by decide) ?_
 refine VL.q (q_neq rfl rfl) (by decide) ?_
 refine VL.q (q_assign rfl) (by decide) ?_
 refine VL.to (fun _ _ h => h) ?_
 cases hS
 exact VC.ret (fin1 (.inr rfl) rfl rfl () rfl trivial (fun _ _ => trivial) (fun _ _ => trivial))
theorem cmp_Compare_int_ct (x_0 : Int) (y_1 : Int) {r : Int} (hS : Sh.cmp_Compare_int x_0 y_1 = some r) :
 Ct Tryz.prog 281 [i64 x_0, i64 y_1] Mo.tt (Ow.emp) (X := Unit) (fun _ => i64 r) (fun _ => True) (fun _ => Mo.tt) (fun _ => Ow.emp) := by
 refine Ct.of Tryz.func281 rfl (by kernel_rfl) Tryz.ntmps281 (by simp) fun c => ?_
 unfold Sh.cmp_Compare_int at hS
 refine VC.seq ?_
 refine VC.region ?_
 refine VL.q (q_assign rfl) (by decide) ?_
 refine VL.to (fun _ _ h => h) ?_
 refine VC.seq ?_
 refine VC.region ?_
 refine VL.q (q_move rfl) (by decide) ?_
 obtain ⟨y8_1, ey8_1, hS⟩ := bd_s hS
 refine VL.q (q_call (cmp_isNaN_int_ct x_0 ey8_1) rfl (fun _ _ => rfl)) (by decide) ?_
 refine VL.q (q_assign rfl) (by decide) ?_
 refine VL.to (fun _ _ h => h) ?_
 refine VC.seq ?_
 refine VC.region ?_
 refine VL.q (q_move rfl) (by decide) ?_
 obtain ⟨y10_2, ey10_2, hS⟩ := bd_s hS
 refine VL.q (q_call (cmp_isNaN_int_ct y_1 ey10_2) rfl (fun _ _ => rfl)) (by decide) ?_
 refine VL.q (q_assign rfl) (by decide) ?_
 refine VL.to (fun _ _ h => h) ?_
 refine VC.seq ?_
 refine VC.seq ?_
 refine VC.region ?_
 refine VL.q (q_move rfl) (by decide) ?_
 refine VL.to (fun _ _ h => h) ?_
 refine VC.cond rfl (fun h11 => ?_) (fun h11 => ?_)
 ·
  replace hS := it_t h11 hS
  refine VC.seq ?_
  refine VC.seq ?_
  refine VC.region ?_
  refine VL.q (q_move rfl) (by decide) ?_
  refine VL.to (fun _ _ h => h) ?_
  refine VC.keep [12] rfl ?_
  refine VC.cond rfl (fun h12 => ?_) (fun h12 => ?_)
  ·
   replace hS := it_t h12 hS
   refine VC.seq ?_
   refine VC.region ?_
   refine VL.q (q_assign rfl) (by decide) ?_
   refine VL.to (fun _ _ h => h) ?_
   cases hS
   exact VC.ret (fin1 (.inr rfl) rfl rfl () rfl trivial (fun _ _ => trivial) (fun _ _ => trivial))
  replace hS := it_b h12 hS
  refine VC.skip_to (fun _ _ h => h) ?_
  refine VC.seq ?_
  refine VC.region ?_
  refine VL.q (q_assign rfl) (by decide) ?_
  refine VL.to (fun _ _ h => h) ?_
  cases hS
  exact VC.ret (fin1 (.inr rfl) rfl rfl () rfl trivial (fun _ _ => trivial) (fun _ _ => trivial))
 replace hS := it_b h11 hS
 refine VC.skip_to (fun _ _ h => h) ?_
 refine VC.seq ?_
 refine VC.seq ?_
 refine VC.region ?_
 refine VL.q (q_move rfl) (by decide) ?_
 refine VL.to (fun _ _ h => h) ?_
 refine VC.keep [0, 1, 13] rfl ?_
 refine VC.cond rfl (fun h13 => ?_) (fun h13 => ?_)
 ·
  replace hS := it_t h13 hS
  refine VC.seq ?_
  refine VC.region ?_
  refine VL.q (q_assign rfl) (by decide) ?_
  refine VL.to (fun _ _ h => h) ?_
  cases hS
  exact VC.ret (fin1 (.inr rfl) rfl rfl () rfl trivial (fun _ _ => trivial) (fun _ _ => trivial))
 replace hS := it_b h13 hS
 refine VC.skip_to (fun _ _ h => h) ?_
 refine VC.seq ?_
 refine VC.seq ?_
 refine VC.region ?_
 refine VL.q (q_move rfl) (by decide) ?_
 refine VL.q (q_move rfl) (by decide) ?_
 refine VL.q (q_lss rfl rfl) (by decide) ?_
 refine VL.to (fun _ _ h => h) ?_
 refine VC.cond_dec rfl (fun h16 => ?_) (fun h16 => ?_)
 ·
  replace hS := it_t h16 hS
  refine VC.seq ?_
  refine VC.region ?_
  refine VL.q (q_assign rfl) (by decide) ?_
  refine VL.to (fun _ _ h => h) ?_
  cases hS
  exact VC.ret (fin1 (.inr rfl) rfl rfl () rfl trivial (fun _ _ => trivial) (fun _ _ => trivial))
 replace hS := it_f h16 hS
 refine VC.skip_to (fun _ _ h => h) ?_
 refine VC.seq ?_
 refine VC.seq ?_
 refine VC.region ?_
 refine VL.q (q_move rfl) (by decide) ?_
 refine VL.q (q_move rfl) (by decide) ?_
 refine VL.q (q_gtr rfl rfl) (by decide) ?_
 refine VL.to (fun _ _ h => h) ?_
 refine VC.cond_dec rfl (fun h19 => ?_) (fun h19 => ?_)
 ·
  replace hS := it_t h19 hS
  refine VC.seq ?_
  refine VC.region ?_
  refine VL.q (q_assign rfl) (by decide) ?_
  refine VL.to (fun _ _ h => h) ?_
  cases hS
  exact VC.ret (fin1 (.inr rfl) rfl rfl () rfl trivial (fun _ _ => trivial) (fun _ _ => trivial))
 replace hS := it_f h19 hS
 refine VC.skip_to (fun _ _ h => h) ?_
 refine VC.seq ?_
 refine VC.region ?_
 refine VL.q (q_assign rfl) (by decide) ?_
 refine VL.to (fun _ _ h => h) ?_
 cases hS
 exact VC.ret (fin1 (.inr rfl) rfl rfl () rfl trivial (fun _ _ => trivial) (fun _ _ => trivial))
theorem cmp_Or_int_ct (vals_0 : Sv Int) {r : Int} (hS : Sh.cmp_Or_int vals_0.l = some r) :
 Ct Tryz.prog 280 [vals_0.val] vals_0.ok (Ow.emp) (X := Unit) (fun _ => i64 r) (fun _ => True) (fun _ => Mo.tt) (fun _ => Ow.emp) := by
 refine Ct.of Tryz.func280 rfl (by kernel_rfl) Tryz.ntmps280 (by simp) fun c => ?_
 unfold Sh.cmp_Or_int at hS
 refine VC.seq ?_
 refine VC.region ?_
 refine VL.q (q_assign rfl) (by decide) ?_
 refine VL.to (fun _ _ h => h) ?_
 refine VC.seq ?_
 refine VC.region ?_
 refine VL.q (q_assign rfl) (by decide) ?_
 refine VL.to (fun _ _ h => h) ?_
 refine VC.seq ?_
 refine VC.seq ?_
 refine VC.region ?_
 refine VL.q (q_move rfl) (by decide) ?_
 refine VL.q (q_ln (s := vals_0) Tryz.underlying60 rfl) (by decide) ?_
 refine VL.q (q_move rfl) (by decide) ?_
 refine VL.to (fun _ _ h => h) ?_
 refine VC.block ?_
 refine VC.iter (S := Int) (fun (x8_1 : Int) => x8_1) (fun (x8_1 : Int) => [(3, i64 0), (6, vals_0.val), (7, i64 (vals_0.l.length : Int)), (8, i64 x8_1)]) (fun (x8_1 : Int) => Mo.tt) (fun (x8_1 : Int) => Ow.emp) 0 [3, 6, 7, 8] hS rfl ?_
 clear hS
 rintro x8_1 m1 y1 hS hK1
 show VC _ _ _ _ _ [(3, i64 0), (6, vals_0.val), (7, i64 (vals_0.l.length : Int)), (8, i64 x8_1)] (Mo.and Mo.tt _) (Ow.emp)
 refine VC.seq ?_
 refine VC.region ?_
 refine VL.q (q_lss rfl rfl) (by decide) ?_
 refine VL.to (fun _ _ h => h) ?_
 refine VC.seq ?_
 refine VC.cond_dec rfl (fun h9 => ?_) (fun h9 => ?_)
 ·
  replace hS := it_t h9 hS
  refine VC.skip_to (fun _ _ h => h) ?_
  refine VC.seq ?_
  refine VC.block ?_
  refine VC.seq ?_
  refine VC.region ?_
  obtain ⟨z10_2, nz10_2, hz10_2, hS⟩ := at_s hS
  refine VL.q (q_ixm (s := vals_0) Tryz.underlying60 gsz3 rfl rfl nz10_2 (lt_of_get nz10_2 hz10_2)) (by decide) ?_
  refine VL.q (q_el (s := vals_0) gone3 rfl hz10_2 rfl) (by decide) ?_
  refine VL.q (q_assign rfl) (by decide) ?_
  refine VL.to (fun _ _ h => h) ?_
  refine VC.seq ?_
  refine VC.region ?_
  refine VL.q (q_move rfl) (by decide) ?_
  refine VL.q (q_move rfl) (by decide) ?_
  refine VL.q (q_neq rfl rfl) (by decide) ?_
  refine VL.to (fun _ _ h => h) ?_
  refine VC.cond_ndec rfl (fun h14 => ?_) (fun h14 => ?_)
  ·
   replace hS := it_f h14 hS
   refine VC.seq ?_
   refine VC.region ?_
   refine VL.q (q_move rfl) (by decide) ?_
   refine VL.q (q_assign rfl) (by decide) ?_
   refine VL.to (fun _ _ h => h) ?_
   refine VC.keep [2] rfl ?_
   replace hS := up2 hS hK1
   cases hS
   exact VC.ret (fin1 (.inr rfl) rfl rfl () rfl trivial (fun _ _ => trivial) (fun _ _ => trivial))
  replace hS := it_t h14 hS
  refine VC.skip_to (fun _ _ h => h) ?_
  refine VC.keep [3, 6, 7, 8] rfl ?_
  refine VC.region ?_
  obtain ⟨b16, hS⟩ := gd_s hS
  refine VL.q (q_add rfl rfl b16) (by decide) ?_
  refine VL.q (q_move rfl) (by decide) ?_
  refine VL.rnd (x8_1 + 1) [3, 6, 7, 8] (fun _ _ h => h) (go2 hS hK1) rfl
 replace hS := it_f h9 hS
 replace hS := up2 hS hK1
 refine VC.exit_to (fun _ _ h => h) ?_
 refine VC.seq ?_
 refine VC.region ?_
 refine VL.q (q_move rfl) (by decide) ?_
 refine VL.q (q_assign rfl) (by decide) ?_
 refine VL.to (fun _ _ h => h) ?_
 cases hS
 exact VC.ret (fin1 (.inr rfl) rfl rfl () rfl trivial (fun _ _ => trivial) (fun _ _ => trivial))
theorem index_compare_ct (a_0 : IndexEntry) (b_1 : IndexEntry) {r : Int} (hS : Sh.index_compare a_0 b_1 = some r) :
 Ct Tryz.prog 220 [.agg #[str a_0.path, i64 a_0.stage, i64 a_0.mode, str a_0.data, i64 a_0.time, i64 a_0.size], .agg #[str b_1.path, i64 b_1.stage, i64 b_1.mode, str b_1.data, i64 b_1.time, i64 b_1.size]] Mo.tt (Ow.emp) (X := Unit) (fun _ => i64 r) (fun _ => True) (fun _ => Mo.tt) (fun _ => Ow.emp) := by
 refine Ct.of Tryz.func220 rfl (by kernel_rfl) Tryz.ntmps220 (by simp) fun c => ?_
 unfold Sh.index_compare at hS
 refine VC.seq ?_
 refine VC.region ?_
 refine VL.box (cs := [str a_0.path, i64 a_0.stage, i64 a_0.mode, str a_0.data, i64 a_0.time, i64 a_0.size]) rfl rfl (by decide) fun b2_1 => ?_
 refine VL.box (cs := [str b_1.path, i64 b_1.stage, i64 b_1.mode, str b_1.data, i64 b_1.time, i64 b_1.size]) rfl rfl (by decide) fun b3_2 => ?_
 refine VL.q (q_assign rfl) (by decide) ?_
 refine VL.to (fun _ _ h => h) ?_
 refine VC.seq ?_
 refine VC.draw [(0, true), (1, true), (2, true), (3, true), (4, true), (5, true), (6, true), (7, true), (8, true), (9, true), (10, false), (11, true), (12, true)] mixed (by kernel_rfl) (by kernel_rfl) (by kernel_rfl) ?_
 refine VD.q rfl (q_field gfa83_0 rfl) (by decide) ?_
 refine VD.q rfl (q_fe gone9 rfl rfl) (by decide) ?_
 refine VD.q rfl (q_field gfa83_0 rfl) (by decide) ?_
 refine VD.q rfl (q_fe gone9 rfl rfl) (by decide) ?_
 obtain ⟨y9_3, ey9_3, hS⟩ := bd_s hS
 refine VD.q rfl (q_call (path_Compare_ct a_0.path b_1.path ey9_3) rfl (fun _ _ => rfl)) (by decide) ?_
 refine VD.q rfl (q_field gfa83_1 rfl) (by decide) ?_
 refine VD.q rfl (q_fe gone3 rfl rfl) (by decide) ?_
 refine VD.q rfl (q_field gfa83_1 rfl) (by decide) ?_
 refine VD.q rfl (q_fe gone3 rfl rfl) (by decide) ?_
 obtain ⟨y14_4, ey14_4, hS⟩ := bd_s hS
 refine VD.q rfl (q_call (cmp_Compare_int_ct a_0.stage b_1.stage ey14_4) rfl (fun _ _ => rfl)) (by decide) ?_
 refine VD.one rfl ?_
 refine VL.lit (α := Int) (xs := [.tmp 9, .tmp 14]) (vs := [i64 y9_3, i64 y14_4]) [y9_3, y14_4] Tryz.underlying60 glit3 (by decide) rfl rfl rfl rfl (by decide) (fun _ _ _ _ => trivial) (by decide) (fun s15_5 hs15_5 => ?_) (by decide)
 replace hS := lt_to hs15_5 hS
 refine VL.back (D' := []) (by kernel_rfl) (Pend.nil) ?_
 obtain ⟨y16_7, ey16_7, hS⟩ := bd_s hS
 refine VD.q rfl (q_call (cmp_Or_int_ct s15_5 ey16_7) rfl (fun _ _ => rfl)) (by decide) ?_
 refine VD.q rfl (q_assign rfl) (by decide) ?_
 refine VD.to (fun _ _ h => h) ?_
 refine VC.keep [4] rfl ?_
 cases hS
 exact VC.ret (fin1 (.inr rfl) rfl rfl () rfl trivial (fun _ _ => trivial) (fun _ _ => trivial))
theorem insert83_ct (s v : Sv IndexEntry) (i : Int) (hi : 0 ≤ i ∧ i ≤ (s.l.length : Int)) (hv : v.l ≠ []) (hb : s.l.length + v.l.length ≤ 4294967296) : Ct Tryz.prog 221 [s.val, i64 i, v.val] Mo.tt (Ow.star (s.own 83) (v.own 83)) (X := Sv IndexEntry) (fun q => q.val) (fun q => q.l = s.l.take i.toNat ++ v.l ++ s.l.drop i.toNat) (fun _ => Mo.tt) (fun q => q.own 83) := by
 refine Ct.of Tryz.func221 rfl (by kernel_rfl) Tryz.ntmps221 (by simp) fun c => ?_
 have hvp : 0 < v.l.length := List.length_pos_iff.2 hv
 have hK : Dat.sz IndexEntry = 6 := rfl
 refine VC.seq ?_
 refine VC.region ?_
 refine VL.q (q_assign rfl) (by decide) ?_
 refine VL.to (fun _ _ h => h) ?_
 refine VC.seq ?_
 refine VC.region ?_
 refine VL.q (q_move rfl) (by decide) ?_
 refine VL.q (q_move rfl) (by decide) ?_
 refine VL.fits (s := s) (e := 83) Fo.out fun hf => ?_
 refine VL.q (q_subv (s := s) Tryz.underlying29 gsz83 rfl rfl hi.1 hi.2 hf) (by decide) ?_
 refine VL.to (fun _ _ h => h) ?_
 refine VC.seq ?_
 refine VC.region ?_
 refine VL.q (q_move rfl) (by decide) ?_
 refine VL.q (q_ln (s := v) Tryz.underlying29 rfl) (by decide) ?_
 refine VL.q (q_assign rfl) (by decide) ?_
 refine VL.to (fun _ _ h => h) ?_
 refine VC.seq ?_
 refine VC.seq ?_
 refine VC.region ?_
 refine VL.q (q_move rfl) (by decide) ?_
 refine VL.q (q_eql rfl rfl) (by decide) ?_
 refine VL.to (fun _ _ h => h) ?_
 refine VC.cond_dec rfl (fun h16 => absurd h16 (by omega)) (fun h16 => ?_)
 refine VC.skip_to (fun _ _ h => h) ?_
 refine VC.seq ?_
 refine VC.region ?_
 refine VL.q (q_move rfl) (by decide) ?_
 refine VL.q (q_ln (s := s) Tryz.underlying29 rfl) (by decide) ?_
 refine VL.q (q_assign rfl) (by decide) ?_
 refine VL.to (fun _ _ h => h) ?_
 refine VC.seq ?_
 refine VC.seq ?_
 refine VC.region ?_
 refine VL.q (q_move rfl) (by decide) ?_
 refine VL.q (q_move rfl) (by decide) ?_
 refine VL.q (q_eql rfl rfl) (by decide) ?_
 refine VL.to (fun _ _ h => h) ?_
 refine VC.cond_dec rfl (fun h22 => ?_) (fun h22 => ?_)
 ·
  refine VC.seq ?_
  refine VC.region ?_
  refine VL.q (q_move rfl) (by decide) ?_
  refine VL.q (q_move rfl) (by decide) ?_
  refine VL.shut v 83 (fun _ _ _ _ => trivial) ?_
  refine VL.app2 (s := s) (r := v) Tryz.underlying29 Tryz.underlying29 gapp83 (by decide) rfl Fo.out (ap1 hb) (ap2 hb (by decide)) (by decide) (fun q hq => ?_)
  refine VL.q (q_assign rfl) (by decide) ?_
  refine VL.to (fun _ _ h => h) ?_
  have e1 : i.toNat = s.l.length := by omega
  exact VC.ret (fin1 (.inr rfl) rfl rfl q rfl (by rw [hq, e1, List.take_length, List.drop_length, List.append_nil]) (fun _ _ => trivial) EntO.out)
 have hin : i < (s.l.length : Int) := by omega
 have hne : s.l ≠ [] := fun h => by rw [h] at hin; simp at hin; omega
 have hkq : (s.l.length : Int) + (v.l.length : Int) - i = ((s.l.length + v.l.length - i.toNat : Nat) : Int) := by omega
 have hLn : (s.l.take i.toNat ++ v.l ++ s.l.drop i.toNat).length = s.l.length + v.l.length := by simp only [List.length_append, List.length_take, List.length_drop]; omega
 have hfl : (s.l.take i.toNat ++ v.l ++ s.l.drop i.toNat).flatMap Dat.enc = (s.l.take i.toNat).flatMap Dat.enc ++ v.l.flatMap Dat.enc ++ (s.l.drop i.toNat).flatMap Dat.enc := by rw [List.flatMap_append, List.flatMap_append]
 have lA : ((s.l.take i.toNat).flatMap Dat.enc).length = i.toNat * 6 := by rw [enc_len, List.length_take, hK, Nat.min_eq_left (by omega)]
 have lV : (v.l.flatMap Dat.enc).length = v.l.length * 6 := by rw [enc_len, hK]
 have lS : ((s.l.drop i.toNat).flatMap Dat.enc).length = (s.l.length - i.toNat) * 6 := by rw [enc_len, List.length_drop, hK]
 refine VC.skip_to (fun _ _ h => h) ?_
 refine VC.seq ?_
 refine VC.seq ?_
 refine VC.region ?_
 refine VL.q (q_move rfl) (by decide) ?_
 refine VL.q (q_move rfl) (by decide) ?_
 refine VL.q (q_add rfl rfl ⟨by omega, by omega⟩) (by decide) ?_
 refine VL.q (q_move rfl) (by decide) ?_
 refine VL.q (q_capV (a0 := s.a) (L := s.l.length) (C := s.c) Tryz.underlying29 rfl) (by decide) ?_
 refine VL.q (q_gtr rfl rfl) (by decide) ?_
 refine VL.to (fun _ _ h => h) ?_
 refine VC.cond_dec rfl (fun h31 => ?_) (fun h31 => ?_)
 ·
  refine VC.shut s 83 (fun _ _ _ _ => trivial) ?_
  refine VC.shut v 83 (fun _ _ _ _ => trivial) ?_
  refine VC.seq ?_
  refine VC.region ?_
  refine VL.factM (φ := s.a = some ⟨s.b, s.o, none⟩) (fun h m => (InM.out (X := s.ok) h m).2.2.1 hne) fun hsa => ?_
  refine VL.factM (φ := v.a = some ⟨v.b, v.o, none⟩) (fun h m => (InM.out (X := v.ok) h m).2.2.1 hv) fun hva => ?_
  refine VL.q (q_move rfl) (by decide) ?_
  refine VL.q (q_move rfl) (by decide) ?_
  refine VL.q (q_toV (a0 := s.a) (L := s.l.length) (C := s.c) (K := 6) Tryz.underlying29 gsz83 rfl rfl hi.1 (by omega)) (by decide) ?_
  refine VL.q (q_move rfl) (by decide) ?_
  refine VL.q (q_move rfl) (by decide) ?_
  refine VL.q (q_add rfl rfl ⟨by omega, by omega⟩) (by decide) ?_
  refine VL.q (q_move rfl) (by decide) ?_
  refine VL.q (q_sub rfl rfl ⟨by omega, by omega⟩) (by decide) ?_
  refine VL.setv 39 rfl (congrArg (Value.int .i64) hkq) ?_
  refine VL.appZg (s := s) (L := i.toNat) (kq := s.l.length + v.l.length - i.toNat) Tryz.underlying29 Tryz.underlying3 gapp83 (by decide) rfl hne (by omega) (by omega) (by omega) (by omega) (by decide) (by decide) fun g cs cp hcl hcp hcm hct => ?_
  rw [hK] at hcl hct
  rw [show i.toNat + (s.l.length + v.l.length - i.toNat) = s.l.length + v.l.length by omega] at hcp ⊢
  have hfit : ((s.l.take i.toNat).flatMap Dat.enc).length + (v.l.flatMap Dat.enc).length + ((s.l.drop i.toNat).flatMap Dat.enc).length ≤ cs.length := by
    rw [lA, lV, lS, hcl, ← Nat.add_mul, ← Nat.add_mul]; exact Nat.mul_le_mul_right _ (by omega)
  have hic := ins_cells1 (V := v.l.flatMap Dat.enc) (S := (s.l.drop i.toNat).flatMap Dat.enc) (by rw [lA]; exact hct) hfit
  rw [← hfl, lA, lV, lS] at hic
  refine VL.q (q_assign rfl) (by decide) ?_
  refine VL.to (fun _ _ h => h) ?_
  refine VC.seq ?_
  refine VC.region ?_
  refine VL.q (q_move rfl) (by decide) ?_
  refine VL.q (q_move rfl) (by decide) ?_
  refine VL.q (q_fromV (b := g) (o := 0) (L := s.l.length + v.l.length) (C := cp) (K := 6) Tryz.underlying29 gsz83 rfl rfl hi.1 (by omega) hcp (by omega) rfl) (by decide) ?_
  refine VL.q (q_move rfl) (by decide) ?_
  refine VL.setv 44 rfl (show v.val = .slice (some ⟨v.b, v.o + 0 * Dat.sz IndexEntry, none⟩) v.l.length v.c by unfold Sv.val; rw [hva, Nat.zero_mul]; rfl) ?_
  refine VL.copyB (src := v.l.flatMap Dat.enc) Tryz.underlying29 gsz83 UpdB.out rfl (by rw [lV]; congr 1; exact (Nat.min_eq_left (by omega)).symm) (ok_src0 (r := v) (by decide) hv) (enc_one1 v.l) (by rw [lV, Nat.zero_add, hcl, ← Nat.add_mul]; exact Nat.mul_le_mul_right _ (by omega)) (by decide) ?_
  rw [Nat.zero_add, lV]
  refine VL.to (fun _ _ h => h) ?_
  refine VC.seq ?_
  refine VC.draw [(0, true), (1, true), (2, true), (3, true), (4, true), (5, true), (6, true), (7, true), (8, false)] mixed (by kernel_rfl) (by kernel_rfl) (by kernel_rfl) ?_
  refine VD.q rfl (q_move rfl) (by decide) ?_
  refine VD.q rfl (q_move rfl) (by decide) ?_
  refine VD.q rfl (q_move rfl) (by decide) ?_
  refine VD.q rfl (q_add rfl rfl ⟨by omega, by omega⟩) (by decide) ?_
  refine VD.q rfl (q_fromV (b := g) (o := 0) (L := s.l.length + v.l.length) (C := cp) (K := 6) Tryz.underlying29 gsz83 rfl rfl (by omega) (by omega) hcp (by omega) rfl) (by decide) ?_
  refine VD.q rfl (q_move rfl) (by decide) ?_
  refine VD.q rfl (q_move rfl) (by decide) ?_
  refine VD.q rfl (q_fromV (b := s.b) (o := s.o) (L := s.l.length) (C := s.c) (K := 6) Tryz.underlying29 gsz83 (show some s.val = _ by unfold Sv.val; rw [hsa]) rfl hi.1 (by omega) hf (by omega) rfl) (by decide) ?_
  refine VD.one rfl ?_
  rw [show (i + (v.l.length : Int)).toNat = i.toNat + v.l.length by omega]
  refine VL.copyB (src := (s.l.drop i.toNat).flatMap Dat.enc) Tryz.underlying29 gsz83 UpdB.out rfl (by rw [lS]; congr 1; exact (Nat.min_eq_left (by omega)).symm) (ok_srcK (r := s) (by decide) hne i.toNat) (enc_one1 _) (by rw [lS, Nat.zero_add, hic.1, hcl, ← Nat.add_mul]; exact Nat.mul_le_mul_right _ (by omega)) (by decide) ?_
  rw [Nat.zero_add, lS, Nat.add_mul]
  refine VL.back (D' := []) (by kernel_rfl) Pend.nil ?_
  refine VD.to (fun _ _ h => h) ?_
  refine VC.seq ?_
  refine VC.region ?_
  refine VL.q (q_move rfl) (by decide) ?_
  refine VL.q (q_assign rfl) (by decide) ?_
  refine VL.to (fun _ _ h => h) ?_
  have ho := fun F => own_blk (F := F) (e := 83) (b := g) (l' := s.l.take i.toNat ++ v.l ++ s.l.drop i.toNat) (hic.2.1.trans hcl) (by rw [enc_len] at hic; exact hic.2.2) hLn hcp hcm
  exact VC.ret (fin1 (.inr rfl) rfl rfl ⟨some ⟨g, 0, none⟩, cp, _⟩ (ho Ow.emp).1 rfl (fun _ _ => trivial) (ho _).2)
 refine VC.skip_to (fun _ _ h => h) ?_
 refine VC.seq ?_
 refine VC.region ?_
 refine VL.open (s := s) (e := 83) Fo.out (by omega) fun b cs hsa hcl hct _ hcm => ?_
 rw [hK] at hcl hct
 have hctA : cs.take ((s.l.take i.toNat).flatMap Dat.enc).length = (s.l.take i.toNat).flatMap Dat.enc := by
   rw [lA]
   have : cs.take (i.toNat * 6) = (cs.take (s.l.length * 6)).take (i.toNat * 6) := by rw [List.take_take, Nat.min_eq_left (Nat.mul_le_mul_right _ (by omega))]
   rw [this, hct]
   exact flatMap_take s.l i.toNat
 have hfit : ((s.l.take i.toNat).flatMap Dat.enc).length + (v.l.flatMap Dat.enc).length + ((s.l.drop i.toNat).flatMap Dat.enc).length ≤ cs.length := by
   rw [lA, lV, lS, hcl, ← Nat.add_mul, ← Nat.add_mul]; exact Nat.mul_le_mul_right _ (by omega)
 have hic := ins_cells2 (V := v.l.flatMap Dat.enc) (S := (s.l.drop i.toNat).flatMap Dat.enc) hctA hfit
 rw [← hfl, lA, lV, lS] at hic
 refine VL.q (q_move rfl) (by decide) ?_
 refine VL.q (q_move rfl) (by decide) ?_
 refine VL.q (q_move rfl) (by decide) ?_
 refine VL.q (q_add rfl rfl ⟨by omega, by omega⟩) (by decide) ?_
 refine VL.q (q_toV (a0 := s.a) (L := s.l.length) (C := s.c) (K := 6) Tryz.underlying29 gsz83 rfl rfl (by omega) (by omega)) (by decide) ?_
 rw [show ((s.l.length : Int) + (v.l.length : Int)).toNat = s.l.length + v.l.length by omega, hsa]
 refine VL.q (q_assign rfl) (by decide) ?_
 refine VL.to (fun _ _ h => h) ?_
 refine VC.seq ?_
 refine VC.seq ?_
 refine VC.region ?_
 refine VL.q (q_move rfl) (by decide) ?_
 refine VL.q (q_move rfl) (by decide) ?_
 refine VL.q (q_move rfl) (by decide) ?_
 refine VL.q (q_move rfl) (by decide) ?_
 refine VL.q (q_add rfl rfl ⟨by omega, by omega⟩) (by decide) ?_
 refine VL.q (q_fromV (b := b) (o := 0) (L := s.l.length + v.l.length) (C := s.c) (K := 6) Tryz.underlying29 gsz83 rfl rfl (by omega) (by omega) (by omega) (by omega) rfl) (by decide) ?_
 refine VL.q (q_overlaps (tS := 29) (tR := 4) (s := v) (b := b) Tryz.func282 rfl rfl (by kernel_rfl) (by kernel_rfl) Tryz.underlying29 gsz83 rfl UpdB.out (fun h => by rw [h] at hcl; simp at hcl; omega) hv) (by decide) ?_
 refine VL.q (q_not rfl) (by decide) ?_
 refine VL.to (fun _ _ h => h) ?_
 refine VC.cond_t rfl ?_
 refine VC.shut v 83 (fun _ _ _ _ => trivial) ?_
 refine VC.seq ?_
 refine VC.draw [(0, true), (1, true), (2, true), (3, true), (4, true), (5, true), (6, true), (7, true), (8, false)] mixed (by kernel_rfl) (by kernel_rfl) (by kernel_rfl) ?_
 refine VD.q rfl (q_move rfl) (by decide) ?_
 refine VD.q rfl (q_move rfl) (by decide) ?_
 refine VD.q rfl (q_move rfl) (by decide) ?_
 refine VD.q rfl (q_add rfl rfl ⟨by omega, by omega⟩) (by decide) ?_
 refine VD.q rfl (q_fromV (b := b) (o := 0) (L := s.l.length + v.l.length) (C := s.c) (K := 6) Tryz.underlying29 gsz83 rfl rfl (by omega) (by omega) (by omega) (by omega) rfl) (by decide) ?_
 refine VD.q rfl (q_move rfl) (by decide) ?_
 refine VD.q rfl (q_move rfl) (by decide) ?_
 refine VD.q rfl (q_fromV (b := b) (o := 0) (L := s.l.length + v.l.length) (C := s.c) (K := 6) Tryz.underlying29 gsz83 rfl rfl hi.1 (by omega) (by omega) (by omega) rfl) (by decide) ?_
 refine VD.one rfl ?_
 rw [show (i + (v.l.length : Int)).toNat = i.toNat + v.l.length by omega, Nat.zero_add, Nat.zero_add]
 refine VL.copyB (src := (s.l.drop i.toNat).flatMap Dat.enc) Tryz.underlying29 gsz83 UpdB.out rfl (by rw [lS]; congr 1; simp only [Nat.min_def]; split <;> omega) (blk_src (n := s.l.length) hct rfl) (enc_one1 _) (by rw [lS, hcl, ← Nat.add_mul]; exact Nat.mul_le_mul_right _ (by omega)) (by decide) ?_
 rw [lS, Nat.add_mul]
 refine VL.back (D' := []) (by kernel_rfl) Pend.nil ?_
 refine VD.to (fun _ _ h => h) ?_
 refine VC.seq ?_
 refine VC.region ?_
 refine VL.q (q_move rfl) (by decide) ?_
 refine VL.q (q_move rfl) (by decide) ?_
 refine VL.q (q_fromV (b := b) (o := 0) (L := s.l.length + v.l.length) (C := s.c) (K := 6) Tryz.underlying29 gsz83 rfl rfl hi.1 (by omega) (by omega) (by omega) rfl) (by decide) ?_
 refine VL.q (q_move rfl) (by decide) ?_
 refine VL.factM (φ := v.a = some ⟨v.b, v.o, none⟩) (fun h m => (InM.out (X := v.ok) h m).2.2.1 hv) fun hva => ?_
 refine VL.setv 81 rfl (show v.val = .slice (some ⟨v.b, v.o + 0 * Dat.sz IndexEntry, none⟩) v.l.length v.c by unfold Sv.val; rw [hva, Nat.zero_mul]; rfl) ?_
 rw [Nat.zero_add]
 refine VL.copyB (src := v.l.flatMap Dat.enc) Tryz.underlying29 gsz83 UpdB.out rfl (by rw [lV]; congr 1; exact (Nat.min_eq_left (by omega)).symm) (ok_src0 (r := v) (by decide) hv) (enc_one1 v.l) (by rw [lV, hic.1, hcl, ← Nat.add_mul]; exact Nat.mul_le_mul_right _ (by omega)) (by decide) ?_
 rw [lV]
 refine VL.to (fun _ _ h => h) ?_
 refine VC.seq ?_
 refine VC.region ?_
 refine VL.q (q_move rfl) (by decide) ?_
 refine VL.q (q_assign rfl) (by decide) ?_
 refine VL.to (fun _ _ h => h) ?_
 have ho := fun F => own_blk (F := F) (e := 83) (b := b) (l' := s.l.take i.toNat ++ v.l ++ s.l.drop i.toNat) (hic.2.1.trans hcl) (by rw [enc_len] at hic; exact hic.2.2) hLn (by omega) hcm
 exact VC.ret (fin1 (.inr rfl) rfl rfl ⟨some ⟨b, 0, none⟩, s.c, _⟩ (ho Ow.emp).1 rfl (fun _ _ => trivial) (ho _).2)
theorem index_Put_ct (l_0 : Sv IndexEntry) (e_1 : IndexEntry) {r : List IndexEntry} (hS : Sh.index_Put l_0.l e_1 = some r) :
 Ct Tryz.prog 142 [l_0.val, .agg #[str e_1.path, i64 e_1.stage, i64 e_1.mode, str e_1.data, i64 e_1.time, i64 e_1.size]] l_0.ok (Ow.emp) (X := Sv IndexEntry) (fun x => x.val) (fun x => r = x.l) (fun x => x.ok) (fun x => Ow.emp) := by
 refine Ct.of Tryz.func142 rfl (by kernel_rfl) Tryz.ntmps142 (by simp) fun c => ?_
 unfold Sh.index_Put at hS
 refine VC.seq ?_
 refine VC.region ?_
 refine VL.box (cs := [str e_1.path, i64 e_1.stage, i64 e_1.mode, str e_1.data, i64 e_1.time, i64 e_1.size]) rfl rfl (by decide) fun b3_1 => ?_
 refine VL.q (q_assign rfl) (by decide) ?_
 refine VL.to (fun _ _ h => h) ?_
 refine VC.seq ?_
 refine VC.region ?_
 refine VL.q (q_move rfl) (by decide) ?_
 obtain ⟨y8_2, ey8_2, hS⟩ := bd_s hS
 refine VL.callO (slices_Clone_index_Entry_index_Entry_ct l_0 ey8_2) rfl (by decide) ?_
 rintro q8_2_0 rfl
 try dsimp only
 refine VL.q (q_mkfn rfl) (by decide) ?_
 obtain ⟨y10_3, ey10_3, hS⟩ := bd_s hS
 refine VL.callO (slices_DeleteFunc_index_Entry_index_Entry_v2_ct q8_2_0 b3_1 e_1 ey10_3) rfl (by decide) ?_
 rintro q10_3_0 rfl
 try dsimp only
 refine VL.q (q_assign rfl) (by decide) ?_
 refine VL.to (fun _ _ h => h) ?_
 refine VC.seq ?_
 refine VC.region ?_
 refine VL.q (q_assign rfl) (by decide) ?_
 refine VL.to (fun _ _ h => h) ?_
 refine VC.cutJ (S := Int) (fun (i6_4 : Int) => i6_4) (fun (i6_4 : Int) => [(3, ptr b3_1 0), (5, q10_3_0.val), (6, i64 i6_4)]) (fun (i6_4 : Int) => Mo.tt) (fun (i6_4 : Int) => Ow.star (Blk b3_1 [str e_1.path, i64 e_1.stage, i64 e_1.mode, str e_1.data, i64 e_1.time, i64 e_1.size] 83) (Ow.star (Sv.own q10_3_0 83) (Ow.emp))) hS ?_ ?_
 ·
  clear hS
  intro k5 hS
  refine VC.block ?_
  refine VC.iter (S := Int) (fun (i6_6 : Int) => i6_6) (fun (i6_6 : Int) => [(3, ptr b3_1 0), (5, q10_3_0.val), (6, i64 i6_6)]) (fun (i6_6 : Int) => Mo.tt) (fun (i6_6 : Int) => Ow.star (Blk b3_1 [str e_1.path, i64 e_1.stage, i64 e_1.mode, str e_1.data, i64 e_1.time, i64 e_1.size] 83) (Ow.star (Sv.own q10_3_0 83) (Ow.emp))) 0 [3, 5, 6] hS rfl ?_
  clear hS
  rintro i6_6 m1 y1 hS hK1
  show VC _ _ _ _ _ [(3, ptr b3_1 0), (5, q10_3_0.val), (6, i64 i6_6)] (Mo.and Mo.tt _) (Ow.star (Blk b3_1 [str e_1.path, i64 e_1.stage, i64 e_1.mode, str e_1.data, i64 e_1.time, i64 e_1.size] 83) (Ow.star (Sv.own q10_3_0 83) (Ow.emp)))
  refine VC.seq ?_
  refine VC.seq ?_
  refine VC.draw ((List.range 13).map fun k => (k, true)) mixed (by kernel_rfl) (by kernel_rfl) (by kernel_rfl) ?_
  refine VD.q rfl (q_move rfl) (by decide) ?_
  refine VD.q rfl (q_move rfl) (by decide) ?_
  refine VD.q rfl (q_ln (s := q10_3_0) Tryz.underlying29 rfl) (by decide) ?_
  refine VD.q rfl (q_lss rfl rfl) (by decide) ?_
  refine VD.q rfl (q_move rfl) (by decide) ?_
  refine VD.split_dec 15 rfl (fun h15 => ?_) (fun h15 => ?_)
  ·
   replace hS := it_t h15 hS
   refine VD.gy rfl rfl rfl (q_move rfl) (by decide) ?_
   refine VD.gy rfl rfl rfl (q_move rfl) (by decide) ?_
   obtain ⟨z18_7, nz18_7, hz18_7, hS⟩ := at_s hS
   refine VD.gy rfl rfl rfl (q_ixo (s := q10_3_0) Tryz.underlying29 gsz83 rfl rfl nz18_7 (lt_of_get nz18_7 hz18_7)) (by decide) ?_
   refine VD.gy rfl rfl rfl (q_elso (s := q10_3_0) gagg83 rfl rfl hz18_7) (by decide) ?_
   refine VD.gy rfl rfl rfl (q_fes gagg83 rfl rfl) (by decide) ?_
   obtain ⟨y21_8, ey21_8, hS⟩ := bd_s hS
   refine VD.gy rfl rfl rfl (q_call (index_compare_ct z18_7 e_1 ey21_8) rfl (fun _ _ => rfl)) (by decide) ?_
   refine VD.gy rfl rfl rfl (q_lss rfl rfl) (by decide) ?_
   refine VD.q rfl (q_pick_t rfl rfl) (by decide) ?_
   refine VD.to (fun _ _ h => h) ?_
   refine VC.keep [3, 5, 6, 23] rfl ?_
   refine VC.cond_dec rfl (fun h23 => ?_) (fun h23 => ?_)
   ·
    replace hS := it_t h23 hS
    refine VC.skip_to (fun _ _ h => h) ?_
    refine VC.block ?_
    refine VC.region ?_
    refine VL.q (q_move rfl) (by decide) ?_
    obtain ⟨b25, hS⟩ := gd_s hS
    refine VL.q (q_add rfl rfl b25) (by decide) ?_
    refine VL.q (q_assign rfl) (by decide) ?_
    refine VL.rnd (i6_6 + 1) [3, 5, 6] (fun _ _ h => h) (go2 hS hK1) rfl
   replace hS := it_f h23 hS
   replace hS := up2 hS hK1
   refine VC.exit_mt i6_6 [3, 5, 6] (fun _ _ h => h) hS rfl
  replace hS := it_f h15 hS
  refine VD.gn rfl rfl rfl rfl (by decide) ?_
  refine VD.gn rfl rfl rfl rfl (by decide) ?_
  refine VD.gn rfl rfl rfl rfl (by decide) ?_
  refine VD.gn rfl rfl rfl rfl (by decide) ?_
  refine VD.gn rfl rfl rfl rfl (by decide) ?_
  refine VD.gn rfl rfl rfl rfl (by decide) ?_
  refine VD.gn rfl rfl rfl rfl (by decide) ?_
  refine VD.q rfl (q_pick_f rfl rfl) (by decide) ?_
  refine VD.to (fun _ _ h => h) ?_
  refine VC.keep [3, 5, 6, 23] rfl ?_
  refine VC.cond_f rfl ?_
  replace hS := up2 hS hK1
  refine VC.exit_mt i6_6 [3, 5, 6] (fun _ _ h => h) hS rfl
 clear hS
 rintro i6_4 hS
 show VC _ _ _ _ _ [(3, ptr b3_1 0), (5, q10_3_0.val), (6, i64 i6_4)] (Mo.and Mo.tt _) (Ow.star (Blk b3_1 [str e_1.path, i64 e_1.stage, i64 e_1.mode, str e_1.data, i64 e_1.time, i64 e_1.size] 83) (Ow.star (Sv.own q10_3_0 83) (Ow.emp)))
 refine VC.seq ?_
 refine VC.region ?_
 refine VL.q (q_move rfl) (by decide) ?_
 refine VL.q (q_move rfl) (by decide) ?_
 refine VL.q (q_fes gagg83 rfl rfl) (by decide) ?_
 refine VL.litO (α := IndexEntry) (xs := [.tmp 28]) (vs := [.agg #[str e_1.path, i64 e_1.stage, i64 e_1.mode, str e_1.data, i64 e_1.time, i64 e_1.size]]) [⟨e_1.path, e_1.stage, e_1.mode, e_1.data, e_1.time, e_1.size⟩] Tryz.underlying29 glit83 (by decide) rfl rfl rfl rfl (by decide) (by decide) (fun s29_9 hs29_9 => ?_) (by decide)
 replace hS := lt_to hs29_9 hS
 obtain ⟨b30, hS⟩ := gd_s hS
 refine VL.callO (insert83_ct q10_3_0 s29_9 i6_4 b30.1 b30.2.1 b30.2.2) rfl (by decide) ?_
 intro s30_11 hs30_11
 replace hS := lt_to hs30_11 hS
 refine VL.shut s30_11 83 (fun _ _ _ _ => trivial) ?_
 obtain ⟨y31_13, ey31_13, hS⟩ := bd_s hS
 refine VL.callF (slices_Clip_index_Entry_index_Entry_ct s30_11 ey31_13) rfl (by decide) ?_
 rintro q31_13_0 rfl
 try dsimp only
 refine VL.q (q_assign rfl) (by decide) ?_
 refine VL.to (fun _ _ h => h) ?_
 cases hS
 exact VC.ret (fin1 (.inr rfl) rfl rfl q31_13_0 rfl rfl (by (try dsimp only); exact InM.out) (fun _ _ => trivial))
theorem plan_lay_ct (r_0 : TmergeResult) (ix_1 : Sv IndexEntry) (p_2 : Str) {r : List IndexEntry} (hS : Sh.plan_lay r_0.pl ix_1.l p_2 = some r) :
 Ct Tryz.prog 60 [.agg #[r_0.files.val, r_0.entries.val, r_0.conflicts.val], ix_1.val, str p_2] (r_0.files.ok.and (r_0.entries.ok.and (r_0.conflicts.ok.and ix_1.ok))) (Ow.emp) (X := Sv IndexEntry) (fun x => x.val) (fun x => r = x.l) (fun x => x.ok) (fun x => Ow.emp) := by
 refine Ct.of Tryz.func60 rfl (by kernel_rfl) Tryz.ntmps60 (by simp) fun c => ?_
 unfold Sh.plan_lay at hS
 refine VC.seq ?_
 refine VC.region ?_
 refine VL.box (cs := [r_0.files.val, r_0.entries.val, r_0.conflicts.val]) rfl rfl (by decide) fun b3_1 => ?_
 refine VL.q (q_assign rfl) (by decide) ?_
 refine VL.to (fun _ _ h => h) ?_
 refine VC.seq ?_
 refine VC.seq ?_
 refine VC.region ?_
 refine VL.q (q_field gfa34_2 rfl) (by decide) ?_
 refine VL.q (q_fe gone32 rfl rfl) (by decide) ?_
 refine VL.q (q_move rfl) (by decide) ?_
 obtain ⟨y13_2, ey13_2, hS⟩ := bd_s hS
 refine VL.q (q_call (slices_Contains_string_string_ct r_0.conflicts p_2 ey13_2) rfl (fun _ _ => rfl)) (by decide) ?_
 refine VL.to (fun _ _ h => h) ?_
 refine VC.cond rfl (fun h13 => ?_) (fun h13 => ?_)
 ·
  replace hS := it_t h13 hS
  refine VC.seq ?_
  refine VC.seq ?_
  refine VC.region ?_
  refine VL.q (q_field gfa34_1 rfl) (by decide) ?_
  refine VL.q (q_fe gone29 rfl rfl) (by decide) ?_
  refine VL.q (q_ln (s := r_0.entries) Tryz.underlying29 rfl) (by decide) ?_
  refine VL.q (q_move rfl) (by decide) ?_
  refine VL.to (fun _ _ h => h) ?_
  refine VC.keep [1, 2, 15, 16, 17] rfl ?_
  refine VC.block ?_
  refine VC.iter (S := Sv IndexEntry × Int) (fun sg => (sg.1.l, sg.2)) (fun sg => [(1, sg.1.val), (2, str p_2), (15, r_0.entries.val), (16, i64 (r_0.entries.l.length : Int)), (17, i64 sg.2)]) (fun sg => sg.1.ok) (fun sg => Ow.star (Blk b3_1 [r_0.files.val, r_0.entries.val, r_0.conflicts.val] 34) (Ow.emp)) (ix_1, 0) [1, 2, 15, 16, 17] hS rfl ?_
  clear hS
  rintro ⟨ix1_3, x17_4⟩ m1 y1 hS hK1
  show VC _ _ _ _ _ [(1, ix1_3.val), (2, str p_2), (15, r_0.entries.val), (16, i64 (r_0.entries.l.length : Int)), (17, i64 x17_4)] (Mo.and ix1_3.ok _) (Ow.star (Blk b3_1 [r_0.files.val, r_0.entries.val, r_0.conflicts.val] 34) (Ow.emp))
  refine VC.seq ?_
  refine VC.region ?_
  refine VL.q (q_lss rfl rfl) (by decide) ?_
  refine VL.to (fun _ _ h => h) ?_
  refine VC.seq ?_
  refine VC.cond_dec rfl (fun h18 => ?_) (fun h18 => ?_)
  ·
   replace hS := it_t h18 hS
   refine VC.skip_to (fun _ _ h => h) ?_
   refine VC.seq ?_
   refine VC.block ?_
   refine VC.seq ?_
   refine VC.region ?_
   obtain ⟨z19_5, nz19_5, hz19_5, hS⟩ := at_s hS
   refine VL.q (q_ixm (s := r_0.entries) Tryz.underlying29 gsz83 rfl rfl nz19_5 (lt_of_get nz19_5 hz19_5)) (by decide) ?_
   refine VL.q (q_els (s := r_0.entries) gagg83 rfl rfl hz19_5) (by decide) ?_
   refine VL.alloc (cs := [str [], i64 0, i64 0, str [], i64 0, i64 0]) (by kernel_rfl) (by decide) fun b8_6 => ?_
   refine VL.store (vc := [str z19_5.path, i64 z19_5.stage, i64 z19_5.mode, str z19_5.data, i64 z19_5.time, i64 z19_5.size]) (cs' := [str z19_5.path, i64 z19_5.stage, i64 z19_5.mode, str z19_5.data, i64 z19_5.time, i64 z19_5.size]) rfl rfl rfl gsz83 rfl rfl (Nat.le_of_ble_eq_true rfl) rfl ?_
   refine VL.to (fun _ _ h => h) ?_
   refine VC.seq ?_
   refine VC.region ?_
   refine VL.q (q_field gfa83_0 rfl) (by decide) ?_
   refine VL.q (q_fe gone9 rfl rfl) (by decide) ?_
   refine VL.q (q_move rfl) (by decide) ?_
   refine VL.q (q_seq rfl rfl) (by decide) ?_
   refine VL.to (fun _ _ h => h) ?_
   refine VC.cond_dec rfl (fun h24 => ?_) (fun h24 => ?_)
   ·
    replace hS := it_t h24 hS
    refine VC.region ?_
    refine VL.q (q_move rfl) (by decide) ?_
    refine VL.q (q_fes gagg83 rfl rfl) (by decide) ?_
    obtain ⟨y27_7, ey27_7, hS⟩ := bd_s hS
    refine VL.callF (index_Put_ct ix1_3 z19_5 ey27_7) rfl (by decide) ?_
    rintro q27_7_0 rfl
    try dsimp only
    refine VL.q (q_assign rfl) (by decide) ?_
    refine VL.to (fun _ _ h => h) ?_
    refine VC.keep [1, 2, 15, 16, 17] rfl ?_
    refine VC.region ?_
    obtain ⟨b28, hS⟩ := gd_s hS
    refine VL.q (q_add rfl rfl b28) (by decide) ?_
    refine VL.q (q_move rfl) (by decide) ?_
    refine VL.rnd (q27_7_0, (x17_4 + 1)) [1, 2, 15, 16, 17] (fun _ _ h => h) (go2 hS hK1) rfl
   replace hS := it_f h24 hS
   refine VC.skip_to (fun _ _ h => h) ?_
   refine VC.keep [1, 2, 15, 16, 17] rfl ?_
   refine VC.region ?_
   obtain ⟨b28, hS⟩ := gd_s hS
   refine VL.q (q_add rfl rfl b28) (by decide) ?_
   refine VL.q (q_move rfl) (by decide) ?_
   refine VL.rnd (ix1_3, (x17_4 + 1)) [1, 2, 15, 16, 17] (fun _ _ h => h) (go2 hS hK1) rfl
  replace hS := it_f h18 hS
  replace hS := up2 hS hK1
  refine VC.exit_to (fun _ _ h => h) ?_
  refine VC.seq ?_
  refine VC.region ?_
  refine VL.q (q_move rfl) (by decide) ?_
  refine VL.q (q_assign rfl) (by decide) ?_
  refine VL.to (fun _ _ h => h) ?_
  cases hS
  exact VC.ret (fin1 (.inr rfl) rfl rfl ix1_3 rfl rfl (by (try dsimp only); exact InM.out) (fun _ _ => trivial))
 replace hS := it_b h13 hS
 refine VC.skip_to (fun _ _ h => h) ?_
 refine VC.seq ?_
 refine VC.region ?_
 refine VL.q (q_field gfa34_0 rfl) (by decide) ?_
 refine VL.q (q_fe gone23 rfl rfl) (by decide) ?_
 refine VL.q (q_move rfl) (by decide) ?_
 obtain ⟨y33_8, ey33_8, hS⟩ := bd_s hS
 refine VL.q (q_call (plan_of_ct r_0.files p_2 ey33_8) rfl (fun _ _ => rfl)) (by decide) ?_
 refine VL.alloc (cs := [str [], i64 0, str [], .bool false]) (by kernel_rfl) (by decide) fun b9_9 => ?_
 refine VL.store (vc := [str y33_8.file_path, i64 y33_8.file_mode, str y33_8.file_data, .bool y33_8.is]) (cs' := [str y33_8.file_path, i64 y33_8.file_mode, str y33_8.file_data, .bool y33_8.is]) rfl rfl rfl gsz116 rfl rfl (Nat.le_of_ble_eq_true rfl) rfl ?_
 refine VL.to (fun _ _ h => h) ?_
 refine VC.keep [1, 2, 9] rfl ?_
 refine VC.seq ?_
 refine VC.seq ?_
 refine VC.region ?_
 refine VL.q (q_field gfa116_1 rfl) (by decide) ?_
 refine VL.q (q_fe gone4 rfl rfl) (by decide) ?_
 refine VL.q (q_not rfl) (by decide) ?_
 refine VL.to (fun _ _ h => h) ?_
 refine VC.cond rfl (fun h36 => ?_) (fun h36 => ?_)
 ·
  replace hS := it_t h36 hS
  refine VC.seq ?_
  refine VC.region ?_
  refine VL.q (q_move rfl) (by decide) ?_
  refine VL.q (q_assign rfl) (by decide) ?_
  refine VL.to (fun _ _ h => h) ?_
  cases hS
  exact VC.ret (fin1 (.inr rfl) rfl rfl ix_1 rfl rfl (by (try dsimp only); exact InM.out) (fun _ _ => trivial))
 replace hS := it_b h36 hS
 refine VC.skip_to (fun _ _ h => h) ?_
 refine VC.seq ?_
 refine VC.region ?_
 refine VL.q (q_move rfl) (by decide) ?_
 refine VL.q (q_move rfl) (by decide) ?_
 refine VL.q (q_field gfa116_0 rfl) (by decide) ?_
 refine VL.q (q_field gfa50_1 rfl) (by decide) ?_
 refine VL.q (q_fe gone3 rfl rfl) (by decide) ?_
 refine VL.q (q_field gfa116_0 rfl) (by decide) ?_
 refine VL.q (q_field gfa50_2 rfl) (by decide) ?_
 refine VL.q (q_fe gone9 rfl rfl) (by decide) ?_
 refine VL.q (q_build (vs := [(0, str p_2), (2, i64 y33_8.file_mode), (3, str y33_8.file_data)]) (cs := #[str p_2, i64 0, i64 y33_8.file_mode, str y33_8.file_data, i64 0, i64 0]) rfl (by kernel_rfl)) (by decide) ?_
 obtain ⟨y47_10, ey47_10, hS⟩ := bd_s hS
 refine VL.callF (index_Put_ct ix_1 (⟨p_2, 0, y33_8.file_mode, y33_8.file_data, 0, 0⟩ : IndexEntry) ey47_10) rfl (by decide) ?_
 rintro q47_10_0 rfl
 try dsimp only
 refine VL.q (q_assign rfl) (by decide) ?_
 refine VL.to (fun _ _ h => h) ?_
 refine VC.keep [6] rfl ?_
 cases hS
 exact VC.ret (fin1 (.inr rfl) rfl rfl q47_10_0 rfl rfl (by (try dsimp only); exact InM.out) (fun _ _ => trivial))
end Go.Proofs.YtpmhinamcndmeaaGreatDoor
end
