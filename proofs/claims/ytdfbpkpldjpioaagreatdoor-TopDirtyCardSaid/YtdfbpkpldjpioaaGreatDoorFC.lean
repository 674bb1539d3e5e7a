/- Part of the proofs of: What another branch has beyond one's own is taken as it is, and the second time there is nothing to do, for every number of commits. -/
import Derived.Test.YtdfbpkpldjpioaaGreatDoorProg
import Derived.Test.YtdfbpkpldjpioaaGreatDoorFB
set_option linter.unusedVariables false
set_option linter.unusedSimpArgs false
set_option linter.unusedSectionVars false
section
set_option linter.unusedVariables false
namespace Go.Proofs.YtdfbpkpldjpioaaGreatDoor
set_option maxHeartbeats 4000000
set_option maxRecDepth 100000
set_option synthInstance.maxSize 2000
set_option synthInstance.maxHeartbeats 1000000
open Go.RowKit Go.V
open Go.S hiding Str
theorem mixed : Tryz.prog.follows .mixedOrders = true := by kernel_rfl
theorem gone64 : OneCell Tryz.prog 64 := oneCell_of Tryz.underlying64 rfl
theorem gsz64 : (Tryz.prog.info? 64).map (·.size) = some 1 := by kernel_rfl
theorem gfa95_2 : FieldAt Tryz.prog 95 2 2 := fieldAt_sz (n := 0) (f := ⟨_, _, 2, _, _, _, _⟩) Tryz.underlying95 rfl (by kernel_rfl)
theorem gone45 : OneCell Tryz.prog 45 := oneCell_of Tryz.underlying45 rfl
theorem gsz41 : (Tryz.prog.info? 41).map (·.size) = some 21 := by kernel_rfl
theorem gagg41 : AggOf Tryz.prog 41 21 := aggOf_of Tryz.underlying41 rfl (by kernel_rfl)
theorem gsz75 : (Tryz.prog.info? 75).map (·.size) = some 3 := by kernel_rfl
theorem gfa41_0 : FieldAt Tryz.prog 41 0 0 := fieldAt_sz (n := 16) (f := ⟨_, _, 0, _, _, _, _⟩) Tryz.underlying41 rfl (by kernel_rfl)
theorem gfa35_0 : FieldAt Tryz.prog 35 0 0 := fieldAt_sz (n := 0) (f := ⟨_, _, 0, _, _, _, _⟩) Tryz.underlying35 rfl (by kernel_rfl)
theorem gone24 : OneCell Tryz.prog 24 := oneCell_of Tryz.underlying24 rfl
theorem gagg75 : AggOf Tryz.prog 75 3 := aggOf_of Tryz.underlying75 rfl (by kernel_rfl)
theorem gfa75_0 : FieldAt Tryz.prog 75 0 0 := fieldAt_sz (n := 0) (f := ⟨_, _, 0, _, _, _, _⟩) Tryz.underlying75 rfl (by kernel_rfl)
theorem gone9 : OneCell Tryz.prog 9 := oneCell_of Tryz.underlying9 rfl
theorem glit75 : ((Tryz.prog.info? 75).map fun i => (i.size, i.zero.isSome)) = some (3, true) := by kernel_rfl
theorem gmk9 : ((Tryz.prog.info? 9).map fun i => (i.size, i.bytes, i.zero.map fun z => z.cells.toList)) = some (1, 16, some [str []]) := by kernel_rfl
theorem gsz9 : (Tryz.prog.info? 9).map (·.size) = some 1 := by kernel_rfl
theorem gsz5 : (Tryz.prog.info? 5).map (·.size) = some 1 := by kernel_rfl
theorem gone5 : OneCell Tryz.prog 5 := oneCell_of Tryz.underlying5 rfl
theorem gfa75_1 : FieldAt Tryz.prog 75 1 1 := fieldAt_sz (n := 0) (f := ⟨_, _, 1, _, _, _, _⟩) Tryz.underlying75 rfl (by kernel_rfl)
theorem gone3 : OneCell Tryz.prog 3 := oneCell_of Tryz.underlying3 rfl
theorem gfa75_2 : FieldAt Tryz.prog 75 2 2 := fieldAt_sz (n := 0) (f := ⟨_, _, 2, _, _, _, _⟩) Tryz.underlying75 rfl (by kernel_rfl)
theorem ghas75 : ((Tryz.prog.info? 75).map (·.size)).isSome = true := by kernel_rfl
theorem gapp75 : ((Tryz.prog.info? 75).map fun i => (i.size, i.bytes, (i.zero.map fun z => z.cells.size))) = some (3, 40, some 3) := by kernel_rfl
theorem gzv75 : ∀ w : World, (zeroValue 75).run Tryz.prog w = .ok (.agg #[str [], i64 0, str []]) w := by intro w; kernel_rfl
theorem gagg35 : AggOf Tryz.prog 35 17 := aggOf_of Tryz.underlying35 rfl (by kernel_rfl)
theorem gfa143_0 : FieldAt Tryz.prog 143 0 0 := fieldAt_sz (n := 0) (f := ⟨_, _, 0, _, _, _, _⟩) Tryz.underlying143 rfl (by kernel_rfl)
theorem glit3 : ((Tryz.prog.info? 3).map fun i => (i.size, i.zero.isSome)) = some (1, true) := by kernel_rfl
theorem gsz3 : (Tryz.prog.info? 3).map (·.size) = some 1 := by kernel_rfl
theorem gfa141_0 : FieldAt Tryz.prog 141 0 0 := fieldAt_sz (n := 0) (f := ⟨_, _, 0, _, _, _, _⟩) Tryz.underlying141 rfl (by kernel_rfl)
theorem glit5 : ((Tryz.prog.info? 5).map fun i => (i.size, i.zero.isSome)) = some (1, true) := by kernel_rfl
theorem gapp5 : ((Tryz.prog.info? 5).map fun i => (i.size, i.bytes, (i.zero.map fun z => z.cells.size))) = some (1, 1, some 1) := by kernel_rfl
theorem glit9 : ((Tryz.prog.info? 9).map fun i => (i.size, i.zero.isSome)) = some (1, true) := by kernel_rfl
theorem gapb5 : ((Tryz.prog.info? 5).map fun i => (i.size, i.bytes, i.zero)) = some (1, 1, some (.int .u8 0)) := by kernel_rfl
theorem gfa35_1 : FieldAt Tryz.prog 35 1 1 := fieldAt_sz (n := 0) (f := ⟨_, _, 1, _, _, _, _⟩) Tryz.underlying35 rfl (by kernel_rfl)
theorem gone25 : OneCell Tryz.prog 25 := oneCell_of Tryz.underlying25 rfl
theorem gsz149 : (Tryz.prog.info? 149).map (·.size) = some 6 := by kernel_rfl
theorem gagg149 : AggOf Tryz.prog 149 6 := aggOf_of Tryz.underlying149 rfl (by kernel_rfl)
theorem gfa149_0 : FieldAt Tryz.prog 149 0 0 := fieldAt_sz (n := 0) (f := ⟨_, _, 0, _, _, _, _⟩) Tryz.underlying149 rfl (by kernel_rfl)
theorem gfa149_1 : FieldAt Tryz.prog 149 1 1 := fieldAt_sz (n := 0) (f := ⟨_, _, 1, _, _, _, _⟩) Tryz.underlying149 rfl (by kernel_rfl)
theorem gfa149_2 : FieldAt Tryz.prog 149 2 2 := fieldAt_sz (n := 0) (f := ⟨_, _, 2, _, _, _, _⟩) Tryz.underlying149 rfl (by kernel_rfl)
theorem gfa149_3 : FieldAt Tryz.prog 149 3 3 := fieldAt_sz (n := 0) (f := ⟨_, _, 3, _, _, _, _⟩) Tryz.underlying149 rfl (by kernel_rfl)
theorem gfa149_4 : FieldAt Tryz.prog 149 4 4 := fieldAt_sz (n := 0) (f := ⟨_, _, 4, _, _, _, _⟩) Tryz.underlying149 rfl (by kernel_rfl)
theorem gfa149_5 : FieldAt Tryz.prog 149 5 5 := fieldAt_sz (n := 0) (f := ⟨_, _, 5, _, _, _, _⟩) Tryz.underlying149 rfl (by kernel_rfl)
theorem gfa35_2 : FieldAt Tryz.prog 35 2 2 := fieldAt_sz (n := 0) (f := ⟨_, _, 2, _, _, _, _⟩) Tryz.underlying35 rfl (by kernel_rfl)
theorem gone26 : OneCell Tryz.prog 26 := oneCell_of Tryz.underlying26 rfl
theorem gsz113 : (Tryz.prog.info? 113).map (·.size) = some 2 := by kernel_rfl
theorem gagg113 : AggOf Tryz.prog 113 2 := aggOf_of Tryz.underlying113 rfl (by kernel_rfl)
theorem gfa113_0 : FieldAt Tryz.prog 113 0 0 := fieldAt_sz (n := 0) (f := ⟨_, _, 0, _, _, _, _⟩) Tryz.underlying113 rfl (by kernel_rfl)
theorem gfa113_1 : FieldAt Tryz.prog 113 1 1 := fieldAt_sz (n := 0) (f := ⟨_, _, 1, _, _, _, _⟩) Tryz.underlying113 rfl (by kernel_rfl)
theorem gfa35_3 : FieldAt Tryz.prog 35 3 3 := fieldAt_sz (n := 1) (f := ⟨_, _, 3, _, _, _, _⟩) Tryz.underlying35 rfl (by kernel_rfl)
theorem gagg28 : AggOf Tryz.prog 28 2 := aggOf_of Tryz.underlying28 rfl (by kernel_rfl)
theorem gfa28_0 : FieldAt Tryz.prog 28 0 0 := fieldAt_sz (n := 0) (f := ⟨_, _, 0, _, _, _, _⟩) Tryz.underlying28 rfl (by kernel_rfl)
theorem gfa28_1 : FieldAt Tryz.prog 28 1 1 := fieldAt_sz (n := 0) (f := ⟨_, _, 1, _, _, _, _⟩) Tryz.underlying28 rfl (by kernel_rfl)
theorem gfa35_4 : FieldAt Tryz.prog 35 4 5 := fieldAt_sz (n := 10) (f := ⟨_, _, 5, _, _, _, _⟩) Tryz.underlying35 rfl (by kernel_rfl)
theorem gagg31 : AggOf Tryz.prog 31 11 := aggOf_of Tryz.underlying31 rfl (by kernel_rfl)
theorem gfa31_0 : FieldAt Tryz.prog 31 0 0 := fieldAt_sz (n := 0) (f := ⟨_, _, 0, _, _, _, _⟩) Tryz.underlying31 rfl (by kernel_rfl)
theorem gfa31_1 : FieldAt Tryz.prog 31 1 1 := fieldAt_sz (n := 0) (f := ⟨_, _, 1, _, _, _, _⟩) Tryz.underlying31 rfl (by kernel_rfl)
theorem gfa31_2 : FieldAt Tryz.prog 31 2 2 := fieldAt_sz (n := 0) (f := ⟨_, _, 2, _, _, _, _⟩) Tryz.underlying31 rfl (by kernel_rfl)
theorem gfa31_3 : FieldAt Tryz.prog 31 3 3 := fieldAt_sz (n := 0) (f := ⟨_, _, 3, _, _, _, _⟩) Tryz.underlying31 rfl (by kernel_rfl)
theorem gone29 : OneCell Tryz.prog 29 := oneCell_of Tryz.underlying29 rfl
theorem gsz129 : (Tryz.prog.info? 129).map (·.size) = some 3 := by kernel_rfl
theorem gagg129 : AggOf Tryz.prog 129 3 := aggOf_of Tryz.underlying129 rfl (by kernel_rfl)
theorem gfa31_4 : FieldAt Tryz.prog 31 4 4 := fieldAt_sz (n := 0) (f := ⟨_, _, 4, _, _, _, _⟩) Tryz.underlying31 rfl (by kernel_rfl)
theorem gfa31_5 : FieldAt Tryz.prog 31 5 5 := fieldAt_sz (n := 0) (f := ⟨_, _, 5, _, _, _, _⟩) Tryz.underlying31 rfl (by kernel_rfl)
theorem gfa31_6 : FieldAt Tryz.prog 31 6 6 := fieldAt_sz (n := 0) (f := ⟨_, _, 6, _, _, _, _⟩) Tryz.underlying31 rfl (by kernel_rfl)
theorem gfa31_7 : FieldAt Tryz.prog 31 7 7 := fieldAt_sz (n := 1) (f := ⟨_, _, 7, _, _, _, _⟩) Tryz.underlying31 rfl (by kernel_rfl)
theorem gfa31_8 : FieldAt Tryz.prog 31 8 9 := fieldAt_sz (n := 0) (f := ⟨_, _, 9, _, _, _, _⟩) Tryz.underlying31 rfl (by kernel_rfl)
theorem gfa31_9 : FieldAt Tryz.prog 31 9 10 := fieldAt_sz (n := 0) (f := ⟨_, _, 10, _, _, _, _⟩) Tryz.underlying31 rfl (by kernel_rfl)
theorem gfa35_5 : FieldAt Tryz.prog 35 5 16 := fieldAt_sz (n := 0) (f := ⟨_, _, 16, _, _, _, _⟩) Tryz.underlying35 rfl (by kernel_rfl)
theorem gone33 : OneCell Tryz.prog 33 := oneCell_of Tryz.underlying33 rfl
theorem gsz154 : (Tryz.prog.info? 154).map (·.size) = some 4 := by kernel_rfl
theorem gagg154 : AggOf Tryz.prog 154 4 := aggOf_of Tryz.underlying154 rfl (by kernel_rfl)
theorem gfa41_1 : FieldAt Tryz.prog 41 1 17 := fieldAt_sz (n := 0) (f := ⟨_, _, 17, _, _, _, _⟩) Tryz.underlying41 rfl (by kernel_rfl)
theorem gone36 : OneCell Tryz.prog 36 := oneCell_of Tryz.underlying36 rfl
theorem gsz58 : (Tryz.prog.info? 58).map (·.size) = some 4 := by kernel_rfl
theorem gagg58 : AggOf Tryz.prog 58 4 := aggOf_of Tryz.underlying58 rfl (by kernel_rfl)
theorem gfa58_0 : FieldAt Tryz.prog 58 0 0 := fieldAt_sz (n := 0) (f := ⟨_, _, 0, _, _, _, _⟩) Tryz.underlying58 rfl (by kernel_rfl)
theorem gfa58_1 : FieldAt Tryz.prog 58 1 1 := fieldAt_sz (n := 0) (f := ⟨_, _, 1, _, _, _, _⟩) Tryz.underlying58 rfl (by kernel_rfl)
theorem gone56 : OneCell Tryz.prog 56 := oneCell_of Tryz.underlying56 rfl
theorem gfa58_2 : FieldAt Tryz.prog 58 2 2 := fieldAt_sz (n := 0) (f := ⟨_, _, 2, _, _, _, _⟩) Tryz.underlying58 rfl (by kernel_rfl)
theorem gfa58_3 : FieldAt Tryz.prog 58 3 3 := fieldAt_sz (n := 0) (f := ⟨_, _, 3, _, _, _, _⟩) Tryz.underlying58 rfl (by kernel_rfl)
theorem gfa41_2 : FieldAt Tryz.prog 41 2 18 := fieldAt_sz (n := 1) (f := ⟨_, _, 18, _, _, _, _⟩) Tryz.underlying41 rfl (by kernel_rfl)
theorem gfa39_0 : FieldAt Tryz.prog 39 0 0 := fieldAt_sz (n := 0) (f := ⟨_, _, 0, _, _, _, _⟩) Tryz.underlying39 rfl (by kernel_rfl)
theorem gone37 : OneCell Tryz.prog 37 := oneCell_of Tryz.underlying37 rfl
theorem gfa39_1 : FieldAt Tryz.prog 39 1 1 := fieldAt_sz (n := 0) (f := ⟨_, _, 1, _, _, _, _⟩) Tryz.underlying39 rfl (by kernel_rfl)
theorem gfa41_3 : FieldAt Tryz.prog 41 3 20 := fieldAt_sz (n := 0) (f := ⟨_, _, 20, _, _, _, _⟩) Tryz.underlying41 rfl (by kernel_rfl)
theorem ghas5 : ((Tryz.prog.info? 5).map (·.size)).isSome = true := by kernel_rfl
theorem gone156 : OneCell Tryz.prog 156 := oneCell_of Tryz.underlying156 rfl
theorem gfa160_0 : FieldAt Tryz.prog 160 0 0 := fieldAt_sz (n := 0) (f := ⟨_, _, 0, _, _, _, _⟩) Tryz.underlying160 rfl (by kernel_rfl)
theorem gone157 : OneCell Tryz.prog 157 := oneCell_of Tryz.underlying157 rfl
theorem gfa218_2 : FieldAt Tryz.prog 218 2 2 := fieldAt_sz (n := 0) (f := ⟨_, _, 2, _, _, _, _⟩) Tryz.underlying218 rfl (by kernel_rfl)
theorem gfa218_1 : FieldAt Tryz.prog 218 1 1 := fieldAt_sz (n := 0) (f := ⟨_, _, 1, _, _, _, _⟩) Tryz.underlying218 rfl (by kernel_rfl)
theorem gfa218_0 : FieldAt Tryz.prog 218 0 0 := fieldAt_sz (n := 0) (f := ⟨_, _, 0, _, _, _, _⟩) Tryz.underlying218 rfl (by kernel_rfl)
theorem gfa160_1 : FieldAt Tryz.prog 160 1 1 := fieldAt_sz (n := 0) (f := ⟨_, _, 1, _, _, _, _⟩) Tryz.underlying160 rfl (by kernel_rfl)
theorem gone4 : OneCell Tryz.prog 4 := oneCell_of Tryz.underlying4 rfl
theorem gsz4 : (Tryz.prog.info? 4).map (·.size) = some 1 := by kernel_rfl
theorem gsz24 : (Tryz.prog.info? 24).map (·.size) = some 1 := by kernel_rfl
theorem glit149 : ((Tryz.prog.info? 149).map fun i => (i.size, i.zero.isSome)) = some (6, true) := by kernel_rfl
theorem gapp149 : ((Tryz.prog.info? 149).map fun i => (i.size, i.bytes, (i.zero.map fun z => z.cells.size))) = some (6, 64, some 6) := by kernel_rfl
theorem gsz25 : (Tryz.prog.info? 25).map (·.size) = some 1 := by kernel_rfl
theorem gsz35 : (Tryz.prog.info? 35).map (·.size) = some 17 := by kernel_rfl
theorem glit113 : ((Tryz.prog.info? 113).map fun i => (i.size, i.zero.isSome)) = some (2, true) := by kernel_rfl
theorem gapp113 : ((Tryz.prog.info? 113).map fun i => (i.size, i.bytes, (i.zero.map fun z => z.cells.size))) = some (2, 24, some 2) := by kernel_rfl
theorem gsz26 : (Tryz.prog.info? 26).map (·.size) = some 1 := by kernel_rfl
theorem gsz28 : (Tryz.prog.info? 28).map (·.size) = some 2 := by kernel_rfl
theorem glit129 : ((Tryz.prog.info? 129).map fun i => (i.size, i.zero.isSome)) = some (3, true) := by kernel_rfl
theorem gapp129 : ((Tryz.prog.info? 129).map fun i => (i.size, i.bytes, (i.zero.map fun z => z.cells.size))) = some (3, 40, some 3) := by kernel_rfl
theorem gsz29 : (Tryz.prog.info? 29).map (·.size) = some 1 := by kernel_rfl
theorem gsz31 : (Tryz.prog.info? 31).map (·.size) = some 11 := by kernel_rfl
theorem gsz33 : (Tryz.prog.info? 33).map (·.size) = some 1 := by kernel_rfl
theorem gapp3 : ((Tryz.prog.info? 3).map fun i => (i.size, i.bytes, (i.zero.map fun z => z.cells.size))) = some (1, 8, some 1) := by kernel_rfl
theorem gsz56 : (Tryz.prog.info? 56).map (·.size) = some 1 := by kernel_rfl
theorem glit58 : ((Tryz.prog.info? 58).map fun i => (i.size, i.zero.isSome)) = some (4, true) := by kernel_rfl
theorem gapp58 : ((Tryz.prog.info? 58).map fun i => (i.size, i.bytes, (i.zero.map fun z => z.cells.size))) = some (4, 72, some 4) := by kernel_rfl
theorem gsz36 : (Tryz.prog.info? 36).map (·.size) = some 1 := by kernel_rfl
theorem gapp9 : ((Tryz.prog.info? 9).map fun i => (i.size, i.bytes, (i.zero.map fun z => z.cells.size))) = some (1, 16, some 1) := by kernel_rfl
theorem gsz37 : (Tryz.prog.info? 37).map (·.size) = some 1 := by kernel_rfl
theorem gsz39 : (Tryz.prog.info? 39).map (·.size) = some 2 := by kernel_rfl
theorem gsz60 : (Tryz.prog.info? 60).map (·.size) = some 6 := by kernel_rfl
theorem gfa60_3 : FieldAt Tryz.prog 60 3 3 := fieldAt_sz (n := 0) (f := ⟨_, _, 3, _, _, _, _⟩) Tryz.underlying60 rfl (by kernel_rfl)
theorem gagg60 : AggOf Tryz.prog 60 6 := aggOf_of Tryz.underlying60 rfl (by kernel_rfl)
theorem gfa60_0 : FieldAt Tryz.prog 60 0 0 := fieldAt_sz (n := 0) (f := ⟨_, _, 0, _, _, _, _⟩) Tryz.underlying60 rfl (by kernel_rfl)
theorem gfa60_4 : FieldAt Tryz.prog 60 4 4 := fieldAt_sz (n := 0) (f := ⟨_, _, 4, _, _, _, _⟩) Tryz.underlying60 rfl (by kernel_rfl)
theorem gfa60_1 : FieldAt Tryz.prog 60 1 1 := fieldAt_sz (n := 0) (f := ⟨_, _, 1, _, _, _, _⟩) Tryz.underlying60 rfl (by kernel_rfl)
theorem gfa60_2 : FieldAt Tryz.prog 60 2 2 := fieldAt_sz (n := 0) (f := ⟨_, _, 2, _, _, _, _⟩) Tryz.underlying60 rfl (by kernel_rfl)
theorem glit50 : ((Tryz.prog.info? 50).map fun i => (i.size, i.zero.isSome)) = some (1, true) := by kernel_rfl
theorem gsz50 : (Tryz.prog.info? 50).map (·.size) = some 1 := by kernel_rfl
theorem gone50 : OneCell Tryz.prog 50 := oneCell_of Tryz.underlying50 rfl
theorem ghas149 : ((Tryz.prog.info? 149).map (·.size)).isSome = true := by kernel_rfl
theorem gzv149 : ∀ w : World, (zeroValue 149).run Tryz.prog w = .ok (.agg #[str [], i64 0, i64 0, str [], i64 0, i64 0]) w := by intro w; kernel_rfl
theorem geqs75 : ∀ (x0 : List UInt8) (x1 : Int) (x2 : List UInt8) (y0 : List UInt8) (y1 : Int) (y2 : List UInt8) (w : World), (Op.equalIn 10000 75 (.agg #[str x0, i64 x1, str x2]) (.agg #[str y0, i64 y1, str y2])).run Tryz.prog w = .ok (decide (x0 = y0 ∧ x1 = y1 ∧ x2 = y2)) w := by
 intro x0 x1 x2 y0 y1 y2 w
 have hS : Tryz.prog.underlying 75 = some (.struct (Tryz.prog.fieldsOf 75)) := by kernel_rfl
 rw [show (10000 : Nat) = 9999 + 1 from rfl, run_equalIn_agg w 9999 75 _ _ hS (by kernel_rfl)]
 simp only [Program.fieldsOf, Tryz.underlying75]
 go_simp
 by_cases h0 : x0 = y0 <;> by_cases h1 : x1 = y1 <;> by_cases h2 : x2 = y2 <;> simp [h0, h1, h2]
theorem geqg75 : Tryz.prog.eqGuardType Tryz.prog.depth 75 = false := by kernel_rfl
theorem gzv3 : ∀ w : World, (zeroValue 3).run Tryz.prog w = .ok (i64 0) w := by intro w; kernel_rfl
theorem ghas58 : ((Tryz.prog.info? 58).map (·.size)).isSome = true := by kernel_rfl
theorem ghas113 : ((Tryz.prog.info? 113).map (·.size)).isSome = true := by kernel_rfl
theorem gsz329 : (Tryz.prog.info? 329).map (·.size) = some 4 := by kernel_rfl
theorem gagg329 : AggOf Tryz.prog 329 4 := aggOf_of Tryz.underlying329 rfl (by kernel_rfl)
theorem gagg268 : AggOf Tryz.prog 268 3 := aggOf_of Tryz.underlying268 rfl (by kernel_rfl)
theorem gfa268_0 : FieldAt Tryz.prog 268 0 0 := fieldAt_sz (n := 0) (f := ⟨_, _, 0, _, _, _, _⟩) Tryz.underlying268 rfl (by kernel_rfl)
theorem glit24 : ((Tryz.prog.info? 24).map fun i => (i.size, i.zero.isSome)) = some (1, true) := by kernel_rfl
theorem geqs329 : ∀ (x0 : List UInt8) (x1 : Int) (x2 : List UInt8) (x3 : Bool) (y0 : List UInt8) (y1 : Int) (y2 : List UInt8) (y3 : Bool) (w : World), (Op.equalIn 10000 329 (.agg #[str x0, i64 x1, str x2, .bool x3]) (.agg #[str y0, i64 y1, str y2, .bool y3])).run Tryz.prog w = .ok (decide (x0 = y0 ∧ x1 = y1 ∧ x2 = y2 ∧ x3 = y3)) w := by
 intro x0 x1 x2 x3 y0 y1 y2 y3 w
 have hS : Tryz.prog.underlying 329 = some (.struct (Tryz.prog.fieldsOf 329)) := by kernel_rfl
 rw [show (10000 : Nat) = 9999 + 1 from rfl, run_equalIn_agg w 9999 329 _ _ hS (by kernel_rfl)]
 simp only [Program.fieldsOf, Tryz.underlying329]
 go_simp
 by_cases h0 : x0 = y0 <;> by_cases h1 : x1 = y1 <;> by_cases h2 : x2 = y2 <;> by_cases h3 : x3 = y3 <;> simp [h0, h1, h2, h3]
theorem geqg329 : Tryz.prog.eqGuardType Tryz.prog.depth 329 = false := by kernel_rfl
theorem gfa268_2 : FieldAt Tryz.prog 268 2 2 := fieldAt_sz (n := 0) (f := ⟨_, _, 2, _, _, _, _⟩) Tryz.underlying268 rfl (by kernel_rfl)
theorem gfa329_1 : FieldAt Tryz.prog 329 1 3 := fieldAt_sz (n := 0) (f := ⟨_, _, 3, _, _, _, _⟩) Tryz.underlying329 rfl (by kernel_rfl)
theorem gfa329_0 : FieldAt Tryz.prog 329 0 0 := fieldAt_sz (n := 2) (f := ⟨_, _, 0, _, _, _, _⟩) Tryz.underlying329 rfl (by kernel_rfl)
theorem ghas3 : ((Tryz.prog.info? 3).map (·.size)).isSome = true := by kernel_rfl
theorem glit56 : ((Tryz.prog.info? 56).map fun i => (i.size, i.zero.isSome)) = some (1, true) := by kernel_rfl
theorem gapp56 : ((Tryz.prog.info? 56).map fun i => (i.size, i.bytes, (i.zero.map fun z => z.cells.size))) = some (1, 24, some 1) := by kernel_rfl
theorem gmk4 : ((Tryz.prog.info? 4).map fun i => (i.size, i.bytes, i.zero.map fun z => z.cells.toList)) = some (1, 1, some [.bool false]) := by kernel_rfl
theorem gsz385 : (Tryz.prog.info? 385).map (·.size) = some 4 := by kernel_rfl
theorem gagg385 : AggOf Tryz.prog 385 4 := aggOf_of Tryz.underlying385 rfl (by kernel_rfl)
theorem geqs385 : ∀ (x0 : List UInt8) (x1 : Int) (x2 : List UInt8) (x3 : Bool) (y0 : List UInt8) (y1 : Int) (y2 : List UInt8) (y3 : Bool) (w : World), (Op.equalIn 10000 385 (.agg #[str x0, i64 x1, str x2, .bool x3]) (.agg #[str y0, i64 y1, str y2, .bool y3])).run Tryz.prog w = .ok (decide (x0 = y0 ∧ x1 = y1 ∧ x2 = y2 ∧ x3 = y3)) w := by
 intro x0 x1 x2 x3 y0 y1 y2 y3 w
 have hS : Tryz.prog.underlying 385 = some (.struct (Tryz.prog.fieldsOf 385)) := by kernel_rfl
 rw [show (10000 : Nat) = 9999 + 1 from rfl, run_equalIn_agg w 9999 385 _ _ hS (by kernel_rfl)]
 simp only [Program.fieldsOf, Tryz.underlying385]
 go_simp
 by_cases h0 : x0 = y0 <;> by_cases h1 : x1 = y1 <;> by_cases h2 : x2 = y2 <;> by_cases h3 : x3 = y3 <;> simp [h0, h1, h2, h3]
theorem geqg385 : Tryz.prog.eqGuardType Tryz.prog.depth 385 = false := by kernel_rfl
theorem gfa385_0 : FieldAt Tryz.prog 385 0 0 := fieldAt_sz (n := 2) (f := ⟨_, _, 0, _, _, _, _⟩) Tryz.underlying385 rfl (by kernel_rfl)
theorem gfa385_1 : FieldAt Tryz.prog 385 1 3 := fieldAt_sz (n := 0) (f := ⟨_, _, 3, _, _, _, _⟩) Tryz.underlying385 rfl (by kernel_rfl)
theorem gfa268_1 : FieldAt Tryz.prog 268 1 1 := fieldAt_sz (n := 0) (f := ⟨_, _, 1, _, _, _, _⟩) Tryz.underlying268 rfl (by kernel_rfl)
theorem gsz268 : (Tryz.prog.info? 268).map (·.size) = some 3 := by kernel_rfl
theorem gagg39 : AggOf Tryz.prog 39 2 := aggOf_of Tryz.underlying39 rfl (by kernel_rfl)
theorem ghas9 : ((Tryz.prog.info? 9).map (·.size)).isSome = true := by kernel_rfl
theorem geqs113 : ∀ (x0 : List UInt8) (x1 : Int) (y0 : List UInt8) (y1 : Int) (w : World), (Op.equalIn 10000 113 (.agg #[str x0, i64 x1]) (.agg #[str y0, i64 y1])).run Tryz.prog w = .ok (decide (x0 = y0 ∧ x1 = y1)) w := by
 intro x0 x1 y0 y1 w
 have hS : Tryz.prog.underlying 113 = some (.struct (Tryz.prog.fieldsOf 113)) := by kernel_rfl
 rw [show (10000 : Nat) = 9999 + 1 from rfl, run_equalIn_agg w 9999 113 _ _ hS (by kernel_rfl)]
 simp only [Program.fieldsOf, Tryz.underlying113]
 go_simp
 by_cases h0 : x0 = y0 <;> by_cases h1 : x1 = y1 <;> simp [h0, h1]
theorem geqg113 : Tryz.prog.eqGuardType Tryz.prog.depth 113 = false := by kernel_rfl
theorem geqs28 : ∀ (x0 : List UInt8) (x1 : Int) (y0 : List UInt8) (y1 : Int) (w : World), (Op.equalIn 10000 28 (.agg #[str x0, i64 x1]) (.agg #[str y0, i64 y1])).run Tryz.prog w = .ok (decide (x0 = y0 ∧ x1 = y1)) w := by
 intro x0 x1 y0 y1 w
 have hS : Tryz.prog.underlying 28 = some (.struct (Tryz.prog.fieldsOf 28)) := by kernel_rfl
 rw [show (10000 : Nat) = 9999 + 1 from rfl, run_equalIn_agg w 9999 28 _ _ hS (by kernel_rfl)]
 simp only [Program.fieldsOf, Tryz.underlying28]
 go_simp
 by_cases h0 : x0 = y0 <;> by_cases h1 : x1 = y1 <;> simp [h0, h1]
theorem geqg28 : Tryz.prog.eqGuardType Tryz.prog.depth 28 = false := by kernel_rfl
theorem geqs129 : ∀ (x0 : List UInt8) (x1 : Int) (x2 : List UInt8) (y0 : List UInt8) (y1 : Int) (y2 : List UInt8) (w : World), (Op.equalIn 10000 129 (.agg #[str x0, i64 x1, str x2]) (.agg #[str y0, i64 y1, str y2])).run Tryz.prog w = .ok (decide (x0 = y0 ∧ x1 = y1 ∧ x2 = y2)) w := by
 intro x0 x1 x2 y0 y1 y2 w
 have hS : Tryz.prog.underlying 129 = some (.struct (Tryz.prog.fieldsOf 129)) := by kernel_rfl
 rw [show (10000 : Nat) = 9999 + 1 from rfl, run_equalIn_agg w 9999 129 _ _ hS (by kernel_rfl)]
 simp only [Program.fieldsOf, Tryz.underlying129]
 go_simp
 by_cases h0 : x0 = y0 <;> by_cases h1 : x1 = y1 <;> by_cases h2 : x2 = y2 <;> simp [h0, h1, h2]
theorem geqg129 : Tryz.prog.eqGuardType Tryz.prog.depth 129 = false := by kernel_rfl
theorem unwrap_ct (b : Nat) (p : Str) (a : Int) (e : Er) : Ct Tryz.prog 417 [ptr b 0] (Cells b 0 [str p, i64 a, e.val]) Ow.emp (X := Unit) (fun _ => e.val) (fun _ => True) (fun _ => Mo.tt) (fun _ => Ow.emp) := by
 refine Zo Tryz.func417 Tryz.ntmps417 fun c => ?_
 refine Zq (Zr ?_)
 refine Zy ?_
 refine Zq (Zr ?_)
 refine Zm ?_
 refine Zu (q_nilCheck rfl) ?_
 refine Zu (q_field gfa95_2 rfl) ?_
 refine Zu (q_fm gone45 rfl rfl) ?_
 refine Zy ?_
 exact Ze
theorem unwrap_me (v : Value) : Meth Tryz.prog (.iface 91 v) "Unwrap" 417 v := Meth.of fun w => by kernel_rfl
theorem errorsis_ct (z0 : Er) (n : Int) (h0 : z0.pl.isNil = false) : Ct Tryz.prog 17 [z0.val, .iface 50 (i64 n), .bool true] z0.ok Ow.emp (X := Unit) (fun _ => .bool (decide (endNo z0.pl = some n))) (fun _ => True) (fun _ => Mo.tt) (fun _ => Ow.emp) := by
 refine Zo Tryz.func17 Tryz.ntmps17 fun c => ?_
 refine Zq (Zr ?_)
 refine Zy ?_
 refine Zb ?_
 refine VC.loopM (S := Er) (fun z => endNo z.pl = endNo z0.pl ∧ z.pl.isNil = false) (fun z => [(0, z.val), (1, .iface 50 (i64 n)), (2, .bool true)]) (fun z => z.ok) (fun _ => Ow.emp) Er.dep z0 [0, 1, 2] ⟨rfl, h0⟩ rfl (fun _ m => m) (fun _ e => e) ?_
 rintro z ⟨hz, hn⟩
 cases z with
 | nil => cases hn
 | no m =>
   refine Zb (Zq (Zq (Zr ?_)))
   refine Zy ?_
   refine Zh (q_eqno (a := m) (b := n) Tryz.underlying45 Tryz.underlying50 (by kernel_rfl) rfl rfl) ?_
   refine Zy ?_
   have hz' : some m = endNo z0.pl := hz
   refine VC.cond_dec rfl (fun h => ?_) (fun h => ?_)
   · refine VC.seq ?_
     refine Zr ?_
     refine Zy ?_
     exact VC.ret (fin1 (.inr rfl) rfl rfl () (congrArg Value.bool (by rw [← hz', h]; simp)) trivial (fun _ _ => trivial) (fun _ _ => trivial))
   refine Zk ?_
   refine Zq (Zq (Zr ?_))
   refine Zm ?_
   refine Zu (q_ta rfl fun w => run_typeAssert_lacksB (z := .nilIface) Tryz.underlying101 (by kernel_rfl) (by kernel_rfl) _ _ w) ?_
   refine Zm ?_
   refine Zu (q_extract rfl rfl) ?_
   refine Zu (q_extract rfl rfl) ?_
   refine Zy ?_
   refine Zq (Zr ?_)
   refine Zy ?_
   refine VC.cond_f rfl ?_
   refine Zk ?_
   refine Zq (Zr ?_)
   refine Zy ?_
   refine Zb (Zq (Zr ?_))
   refine Zu (q_ta rfl fun w => run_typeAssert_lacksB (z := .nilIface) Tryz.underlying104 (by kernel_rfl) (by kernel_rfl) _ _ w) ?_
   refine Zu (q_extract rfl rfl) ?_
   refine Zu (q_extract rfl rfl) ?_
   refine Zl ?_
   refine VC.cond_f rfl ?_
   refine Zq (Zr ?_)
   refine Zu (q_ta rfl fun w => run_typeAssert_lacksB (z := .nilIface) Tryz.underlying106 (by kernel_rfl) (by kernel_rfl) _ _ w) ?_
   refine Zu (q_extract rfl rfl) ?_
   refine Zu (q_extract rfl rfl) ?_
   refine Zl ?_
   refine VC.cond_f rfl ?_
   refine Zq (Zr ?_)
   refine Zy ?_
   refine Zq (Zr ?_)
   refine Zy ?_
   exact VC.ret (fin1 (.inr rfl) rfl rfl () (congrArg Value.bool (by rw [← hz']; exact (decide_eq_false fun q => h (Option.some.inj q)).symm)) trivial (fun _ _ => trivial) (fun _ _ => trivial))
 | fault b p a e =>
   refine VC.addM (Cells b 0 [str p, i64 a, e.val]) (fun _ m => m.1) ?_
   refine VC.addM e.ok (fun _ m => m.2.2) ?_
   refine Zb (Zq (Zq (Zr ?_)))
   refine Zy ?_
   refine Zh (q_eqdt (t1 := 91) (t2 := 50) (a := ptr b 0) (b := i64 n) Tryz.underlying45 (by decide) rfl rfl) ?_
   refine Zy ?_
   have hz' : endNo e.pl = endNo z0.pl := hz
   refine VC.cond_f rfl ?_
   refine Zk ?_
   refine Zq (Zq (Zr ?_))
   refine Zm ?_
   refine Zu (q_ta rfl fun w => run_typeAssert_lacksB (z := .nilIface) Tryz.underlying101 (by kernel_rfl) (by kernel_rfl) _ _ w) ?_
   refine Zm ?_
   refine Zu (q_extract rfl rfl) ?_
   refine Zu (q_extract rfl rfl) ?_
   refine Zy ?_
   refine Zq (Zr ?_)
   refine Zy ?_
   refine VC.cond_f rfl ?_
   refine Zk ?_
   refine Zq (Zr ?_)
   refine Zy ?_
   refine Zb (Zq (Zr ?_))
   refine Zu (q_ta rfl fun w => run_typeAssert_hasB Tryz.underlying104 (by kernel_rfl) _ _ w) ?_
   refine Zu (q_extract rfl rfl) ?_
   refine Zu (q_extract rfl rfl) ?_
   refine Zl ?_
   refine VC.cond_t rfl ?_
   refine Zq (Zr ?_)
   refine Zy ?_
   refine Zq (Zr ?_)
   refine Zm ?_
   refine Zu (q_inv rfl (unwrap_me (ptr b 0)) (unwrap_ct b p a e) (fun _ _ => rfl)) ?_
   refine Zy ?_
   refine Zq (Zr ?_)
   refine Zm ?_
   refine Zu (q_ereq Tryz.underlying45 (z := e) rfl) ?_
   refine Zl ?_
   refine VC.cond_dec rfl (fun h => ?_) (fun h => ?_)
   · refine VC.seq ?_
     refine Zr ?_
     refine Zy ?_
     exact VC.ret (fin1 (.inr rfl) rfl rfl () (congrArg Value.bool (by
       rw [← hz']
       cases e with
       | nil => rfl
       | no m => cases h
       | fault _ _ _ _ => cases h)) trivial (fun _ _ => trivial) (fun _ _ => trivial))
   · exact VC.skip_any e [0, 1, 2] (fun _ _ h => h) ⟨⟨hz', by simpa using h⟩, Nat.lt_succ_self _⟩ rfl (fun _ m => m.1) (fun _ e => e)
theorem typeof_no (v : Value) (w : World) : (Extern.ReflectliteType.typeOf #[.iface 50 v]).run Tryz.prog w = .ok (.iface 99 (.agg #[.pointer (some ⟨7, 50, none⟩)])) w := by kernel_rfl
theorem comp_no (w : World) : (Extern.ReflectliteType.method (fun t => do Extern.Rtype.noPackHeld "Comparable" t; pure (.bool (← typeInfo t).comparable)) #[.agg #[.pointer (some ⟨7, 50, none⟩)]]).run Tryz.prog w = .ok (.bool true) w := by kernel_rfl
theorem comp_me (v : Value) : Meth Tryz.prog (.iface 99 v) "Comparable" 420 v := Meth.of fun w => by kernel_rfl
theorem is_ct (z0 : Er) (n : Int) : Ct Tryz.prog 10 [z0.val, .iface 50 (i64 n)] z0.ok Ow.emp (X := Unit) (fun _ => .bool (decide (endNo z0.pl = some n))) (fun _ => True) (fun _ => Mo.tt) (fun _ => Ow.emp) := by
 refine Zo Tryz.func10 Tryz.ntmps10 fun c => ?_
 have fin : z0.pl.isNil = false → ∀ Q : Exit → Act → World → Prop, Q = bodyPost Tryz.prog Tryz.f10 (fun en w' => ∃ r, en = .returned r ∧ Post (X := Unit) (fun _ => .bool (decide (endNo z0.pl = some n))) (fun _ => True) (fun _ => Mo.tt) (fun _ => Ow.emp) c r w') → True := fun _ _ _ => trivial
 refine Zq (Zr ?_)
 refine Zy ?_
 refine Zq (Zq (Zr ?_))
 refine Zm ?_
 by_cases hn : z0 = .nil
 ·
  subst hn
  refine Zu (q_nileq Tryz.underlying45 rfl) ?_
  refine Zy ?_
  refine VC.cond_t rfl ?_
  refine Zq (Zr ?_)
  refine Zy ?_
  refine Zu (q_eqnl (T := 50) (u := i64 n) Tryz.underlying45 rfl rfl) ?_
  refine Zy ?_
  exact Ze
 have hn' : z0.pl.isNil = false := by
   cases z0 with
   | nil => exact absurd rfl hn
   | no m => rfl
   | fault _ _ _ _ => rfl
 refine VL.q (v := .bool false) (by
   cases z0 with
   | nil => exact absurd rfl hn
   | no m => exact q_ifeq Tryz.underlying45 rfl
   | fault _ _ _ _ => exact q_ifeq Tryz.underlying45 rfl) (by decide) ?_
 refine Zy ?_
 refine Zh (q_ifeq Tryz.underlying45 rfl) ?_
 refine Zy ?_
 refine VC.cond_f rfl ?_
 refine Zk ?_
 refine Zq (Zr ?_)
 refine Zm ?_
 refine Zu (q_extern Tryz.func16 rfl rfl (by kernel_rfl) (by kernel_rfl) rfl (typeof_no _)) ?_
 refine Zu (q_invX rfl (comp_me _) Tryz.func420 rfl rfl (by kernel_rfl) (by kernel_rfl) comp_no) ?_
 refine Zy ?_
 refine Zq (Zr ?_)
 refine Zy ?_
 refine Zu (q_call (errorsis_ct z0 n hn') rfl (fun _ _ => rfl)) ?_
 refine Zy ?_
 exact Ze
theorem as_nil_ct (v : Value) : Ct Tryz.prog 84 [.nilIface, v] Mo.tt Ow.emp (X := Unit) (fun _ => .bool false) (fun _ => True) (fun _ => Mo.tt) (fun _ => Ow.emp) := by
 refine Zo Tryz.func84 Tryz.ntmps84 fun c => ?_
 refine Zq (Zr ?_)
 refine Zy ?_
 refine Zq (Zq (Zr ?_))
 refine Zm ?_
 refine Zu (q_nileq Tryz.underlying45 rfl) ?_
 refine Zl ?_
 refine VC.cond_t rfl ?_
 refine Zq (Zr ?_)
 refine Zy ?_
 exact Ze
theorem state_New_ct  {r : StateStateP} (hS : Sh.state_New = some r) :
 Ct Tryz.prog 7 [] Mo.tt (Ow.emp) (X := StateState) (fun x => .agg (Dat.enc x).toArray) (fun x => r = x.pl) (fun x => x.m) (fun x => Ow.emp) := by
 refine Zo Tryz.func7 Tryz.ntmps7 fun c => ?_
 unfold Sh.state_New at hS
 refine Zq (Zr ?_)
 refine VL.alloc (cs := [.slice none 0 0, .slice none 0 0, .slice none 0 0, str [], i64 0, str [], i64 0, str [], .slice none 0 0, .slice none 0 0, i64 0, str [], str [], i64 0, .slice none 0 0, .slice none 0 0, .slice none 0 0, .slice none 0 0, .slice none 0 0, .slice none 0 0, i64 0]) (by kernel_rfl) (by decide) fun b0_1 => ?_
 refine Zl ?_
 refine Zq (Zr ?_)
 refine Zu (q_build (vs := [(0, str [109, 97, 105, 110])]) (cs := #[str [109, 97, 105, 110], i64 0]) rfl (by kernel_rfl)) ?_
 refine Zu (q_build (vs := [(3, .agg #[str [109, 97, 105, 110], i64 0])]) (cs := #[.slice none 0 0, .slice none 0 0, .slice none 0 0, str [109, 97, 105, 110], i64 0, str [], i64 0, str [], .slice none 0 0, .slice none 0 0, i64 0, str [], str [], i64 0, .slice none 0 0, .slice none 0 0, .slice none 0 0]) rfl (by kernel_rfl)) ?_
 refine Zu (q_build (vs := [(0, .agg #[.slice none 0 0, .slice none 0 0, .slice none 0 0, str [109, 97, 105, 110], i64 0, str [], i64 0, str [], .slice none 0 0, .slice none 0 0, i64 0, str [], str [], i64 0, .slice none 0 0, .slice none 0 0, .slice none 0 0])]) (cs := #[.slice none 0 0, .slice none 0 0, .slice none 0 0, str [109, 97, 105, 110], i64 0, str [], i64 0, str [], .slice none 0 0, .slice none 0 0, i64 0, str [], str [], i64 0, .slice none 0 0, .slice none 0 0, .slice none 0 0, .slice none 0 0, .slice none 0 0, .slice none 0 0, i64 0]) rfl (by kernel_rfl)) ?_
 refine Zv (vc := [.slice none 0 0, .slice none 0 0, .slice none 0 0, str [109, 97, 105, 110], i64 0, str [], i64 0, str [], .slice none 0 0, .slice none 0 0, i64 0, str [], str [], i64 0, .slice none 0 0, .slice none 0 0, .slice none 0 0, .slice none 0 0, .slice none 0 0, .slice none 0 0, i64 0]) (cs' := [.slice none 0 0, .slice none 0 0, .slice none 0 0, str [109, 97, 105, 110], i64 0, str [], i64 0, str [], .slice none 0 0, .slice none 0 0, i64 0, str [], str [], i64 0, .slice none 0 0, .slice none 0 0, .slice none 0 0, .slice none 0 0, .slice none 0 0, .slice none 0 0, i64 0]) rfl gsz41 ?_
 refine Zl ?_
 cases hS
 exact VC.ret (finG (vs := [.agg #[.slice none 0 0, .slice none 0 0, .slice none 0 0, str [109, 97, 105, 110], i64 0, str [], i64 0, str [], .slice none 0 0, .slice none 0 0, i64 0, str [], str [], i64 0, .slice none 0 0, .slice none 0 0, .slice none 0 0, .slice none 0 0, .slice none 0 0, .slice none 0 0, i64 0]]) (.inr rfl) rfl (RVs.cell gagg41 rfl rfl Rd.blk (RVs.nil)) ⟨⟨none, 0, []⟩, ⟨none, 0, []⟩, ⟨none, 0, []⟩, [109, 97, 105, 110], 0, [], 0, [], ⟨none, 0, []⟩, ⟨none, 0, []⟩, 0, [], [], 0, ⟨none, 0, []⟩, ⟨none, 0, []⟩, ⟨none, 0, []⟩, ⟨none, 0, []⟩, ⟨none, 0, []⟩, ⟨none, 0, []⟩, 0⟩ rfl rfl (by (try dsimp only); exact InM.out) (fun _ _ => trivial))
theorem cmp_isNaN_string_ct (x_0 : Str) {r : Bool} (hS : Sh.cmp_isNaN_string x_0 = some r) :
 Ct Tryz.prog 244 [str x_0] Mo.tt (Ow.emp) (X := Unit) (fun _ => .bool r) (fun _ => True) (fun _ => Mo.tt) (fun _ => Ow.emp) := by
 refine Zo Tryz.func244 Tryz.ntmps244 fun c => ?_
 unfold Sh.cmp_isNaN_string at hS
 refine Zq (Zr ?_)
 refine Zy ?_
 refine Zq (Zr ?_)
 refine Zy ?_
 refine Zu (q_sne rfl rfl) ?_
 refine Zy ?_
 cases hS
 exact Ze
theorem cmp_Compare_string_ct (x_0 : Str) (y_1 : Str) {r : Int} (hS : Sh.cmp_Compare_string x_0 y_1 = some r) :
 Ct Tryz.prog 161 [str x_0, str y_1] Mo.tt (Ow.emp) (X := Unit) (fun _ => i64 r) (fun _ => True) (fun _ => Mo.tt) (fun _ => Ow.emp) := by
 refine Zo Tryz.func161 Tryz.ntmps161 fun c => ?_
 unfold Sh.cmp_Compare_string at hS
 refine Zq (Zr ?_)
 refine Zy ?_
 refine Zq (Zr ?_)
 refine Zm ?_
 obtain ⟨y8_1, ey8_1, hS⟩ := bd_s hS
 refine Zu (q_call (cmp_isNaN_string_ct x_0 ey8_1) rfl (fun _ _ => rfl)) ?_
 refine Zy ?_
 refine Zq (Zr ?_)
 refine Zm ?_
 obtain ⟨y10_2, ey10_2, hS⟩ := bd_s hS
 refine Zu (q_call (cmp_isNaN_string_ct y_1 ey10_2) rfl (fun _ _ => rfl)) ?_
 refine Zy ?_
 refine Zq (Zq (Zr ?_))
 refine Zy ?_
 refine Zcb hS (fun h11 hS => ?_) (fun h11 hS => ?_)
 ·
  refine Zq (Zq (Zr ?_))
  refine Zy ?_
  refine VC.keep [12] rfl ?_
  refine Zcb hS (fun h12 hS => ?_) (fun h12 hS => ?_)
  ·
   refine Zq (Zr ?_)
   refine Zy ?_
   cases hS
   exact Ze
  refine Zk ?_
  refine Zq (Zr ?_)
  refine Zy ?_
  cases hS
  exact Ze
 refine Zk ?_
 refine Zq (Zq (Zr ?_))
 refine Zy ?_
 refine VC.keep [0, 1, 13] rfl ?_
 refine Zcb hS (fun h13 hS => ?_) (fun h13 hS => ?_)
 ·
  refine Zq (Zr ?_)
  refine Zy ?_
  cases hS
  exact Ze
 refine Zk ?_
 refine Zq (Zq (Zr ?_))
 refine Zy ?_
 refine Zu (q_slss rfl rfl) ?_
 refine Zl ?_
 refine Zcb hS (fun h16 hS => ?_) (fun h16 hS => ?_)
 ·
  refine Zq (Zr ?_)
  refine Zy ?_
  cases hS
  exact Ze
 refine Zk ?_
 refine Zq (Zq (Zr ?_))
 refine Zy ?_
 refine Zu (q_sgtr rfl rfl) ?_
 refine Zl ?_
 refine Zcb hS (fun h19 hS => ?_) (fun h19 hS => ?_)
 ·
  refine Zq (Zr ?_)
  refine Zy ?_
  cases hS
  exact Ze
 refine Zk ?_
 refine Zq (Zr ?_)
 refine Zy ?_
 cases hS
 exact Ze
theorem path_Compare_ct (a_0 : Str) (b_1 : Str) {r : Int} (hS : Sh.path_Compare a_0 b_1 = some r) :
 Ct Tryz.prog 83 [str a_0, str b_1] Mo.tt (Ow.emp) (X := Unit) (fun _ => i64 r) (fun _ => True) (fun _ => Mo.tt) (fun _ => Ow.emp) := by
 refine Zo Tryz.func83 Tryz.ntmps83 fun c => ?_
 unfold Sh.path_Compare at hS
 refine Zq (Zr ?_)
 refine Zy ?_
 refine Zq (Zr ?_)
 refine Zy ?_
 obtain ⟨y7_1, ey7_1, hS⟩ := bd_s hS
 refine Zu (q_call (cmp_Compare_string_ct a_0 b_1 ey7_1) rfl (fun _ _ => rfl)) ?_
 refine Zy ?_
 cases hS
 exact Ze
theorem files_Row_find_1_ct (f_0 : FilesFile) (p_1 : Str) {r : Int} (hS : Sh.files_Row_find_1 f_0 p_1 = some r) :
 Ct Tryz.prog 82 [.agg #[str f_0.path, i64 f_0.mode, str f_0.data], str p_1] Mo.tt (Ow.emp) (X := Unit) (fun _ => i64 r) (fun _ => True) (fun _ => Mo.tt) (fun _ => Ow.emp) := by
 refine Zo Tryz.func82 Tryz.ntmps82 fun c => ?_
 unfold Sh.files_Row_find_1 at hS
 refine Zq (Zr ?_)
 refine VL.box (cs := [str f_0.path, i64 f_0.mode, str f_0.data]) rfl rfl (by decide) fun b2_1 => ?_
 refine Zy ?_
 refine Zq (Zr ?_)
 refine Zu (q_field gfa75_0 rfl) ?_
 refine Zu (q_fe gone9 rfl rfl) ?_
 refine Zm ?_
 obtain ⟨y8_2, ey8_2, hS⟩ := bd_s hS
 refine Zu (q_call (path_Compare_ct f_0.path p_1 ey8_2) rfl (fun _ _ => rfl)) ?_
 refine Zy ?_
 cases hS
 exact Ze
theorem slices_BinarySearchFunc_files_Row_files_File_string_ct (x_0 : Sv FilesFile) (target_1 : Str) {r : Int × Bool} (hS : Sh.slices_BinarySearchFunc_files_Row_files_File_string x_0.l target_1 = some r) :
 Ct Tryz.prog 81 [x_0.val, str target_1, .func (.func 82) #[] #[]] x_0.ok (Ow.emp) (X := Unit) (fun _ => .tuple #[i64 r.1, .bool r.2]) (fun _ => True) (fun _ => Mo.tt) (fun _ => Ow.emp) := by
 refine Zo Tryz.func81 Tryz.ntmps81 fun c => ?_
 unfold Sh.slices_BinarySearchFunc_files_Row_files_File_string at hS
 refine Zq (Zr ?_)
 refine Zy ?_
 refine Zq (Zr ?_)
 refine Zm ?_
 refine Zu (q_ln (s := x_0) Tryz.underlying24 rfl) ?_
 refine Zy ?_
 refine Zq (Zr ?_)
 refine Zy ?_
 refine Zq (Zb ?_)
 refine VC.iter (S := Int × Int) (fun sg => (sg.1, sg.2)) (fun sg => [(0, x_0.val), (1, str target_1), (2, .func (.func 82) #[] #[]), (8, i64 (x_0.l.length : Int)), (9, i64 sg.1), (10, i64 sg.2)]) (fun sg => Mo.tt) (fun sg => Ow.emp) (0, (x_0.l.length : Int)) [0, 1, 2, 8, 9, 10] hS rfl ?_
 clear hS
 rintro ⟨i9_1, j10_2⟩ m1 y1 hS hK1
 refine Zq (Zq (Zr ?_))
 refine Zy ?_
 refine Zu (q_lss rfl rfl) ?_
 refine Zl ?_
 refine Zc hS (fun h17 hS => ?_) (fun h17 hS => ?_)
 ·
  refine Zk ?_
  refine Zb (Zq (Zr ?_))
  refine Zy ?_
  obtain ⟨b20, hS⟩ := gd_s hS
  refine Zu (q_add rfl rfl b20) ?_
  refine Zu (q_convW Tryz.underlying3 Tryz.underlying228 rfl) ?_
  refine Zu (q_shr rfl rfl (by decide)) ?_
  refine Zu (q_convW Tryz.underlying228 Tryz.underlying3 rfl) ?_
  refine Zy ?_
  refine VC.keep [0, 1, 2, 8, 9, 10, 11] rfl ?_
  refine Zq (Zr ?_)
  refine Zy ?_
  obtain ⟨z27_3, nz27_3, hz27_3, hS⟩ := at_s hS
  refine Zu (q_ixm (s := x_0) Tryz.underlying24 gsz75 rfl rfl nz27_3 (lt_of_get nz27_3 hz27_3)) ?_
  refine Zu (q_els (s := x_0) gagg75 rfl rfl hz27_3) ?_
  refine Zm ?_
  obtain ⟨y30_4, ey30_4, hS⟩ := bd_s hS
  refine Zu (q_callV (files_Row_find_1_ct z27_3 target_1 ey30_4) rfl rfl (fun _ _ => rfl)) ?_
  refine Zu (q_lss rfl rfl) ?_
  refine Zl ?_
  refine VC.keep [0, 1, 2, 8, 9, 10, 11, 31] rfl ?_
  refine Zc hS (fun h31 hS => ?_) (fun h31 hS => ?_)
  ·
   refine Zr ?_
   refine Zm ?_
   obtain ⟨b33, hS⟩ := gd_s hS
   refine Zu (q_add rfl rfl b33) ?_
   refine Za ?_
   refine VL.rnd (((IntKind.wrap .i64 (sHr .u64 (IntKind.wrap .u64 (i9_1 + j10_2)) 1)) + 1), j10_2) [0, 1, 2, 8, 9, 10] (fun _ _ h => h) (go2 hS hK1) rfl
  refine Zr ?_
  refine Zy ?_
  refine VL.rnd (i9_1, (IntKind.wrap .i64 (sHr .u64 (IntKind.wrap .u64 (i9_1 + j10_2)) 1))) [0, 1, 2, 8, 9, 10] (fun _ _ h => h) (go2 hS hK1) rfl
 replace hS := up2 hS hK1
 refine Zx ?_
 refine Zq (Zr ?_)
 refine Zy ?_
 refine Zu (q_lss rfl rfl) ?_
 refine Zm ?_
 refine Zsp 39 hS (fun h39 hS => ?_) (fun h39 hS => ?_)
 ·
  refine Zy ?_
  obtain ⟨z43_5, nz43_5, hz43_5, hS⟩ := at_s hS
  refine Zh (q_ixm (s := x_0) Tryz.underlying24 gsz75 rfl rfl nz43_5 (lt_of_get nz43_5 hz43_5)) ?_
  refine Zh (q_els (s := x_0) gagg75 rfl rfl hz43_5) ?_
  refine Zg ?_
  obtain ⟨y46_6, ey46_6, hS⟩ := bd_s hS
  refine Zh (q_callV (files_Row_find_1_ct z43_5 target_1 ey46_6) rfl rfl (fun _ _ => rfl)) ?_
  refine Zh (q_eql rfl rfl) ?_
  refine Zy ?_
  refine VC.keep [6, 7] rfl ?_
  cases hS
  exact VC.ret (fin2 (.inr rfl) rfl rfl rfl () rfl trivial (fun _ _ => trivial) (fun _ _ => trivial))
 refine VL.skips 8 [47] (by kernel_rfl) ?_
 refine Zy ?_
 refine VC.keep [6, 7] rfl ?_
 cases hS
 exact VC.ret (fin2 (.inr rfl) rfl rfl rfl () rfl trivial (fun _ _ => trivial) (fun _ _ => trivial))
theorem files_Row_find_ct (r_0 : Sv FilesFile) (p_1 : Str) {r : Int × Bool} (hS : Sh.files_Row_find r_0.l p_1 = some r) :
 Ct Tryz.prog 44 [r_0.val, str p_1] r_0.ok (Ow.emp) (X := Unit) (fun _ => .tuple #[i64 r.1, .bool r.2]) (fun _ => True) (fun _ => Mo.tt) (fun _ => Ow.emp) := by
 refine Zo Tryz.func44 Tryz.ntmps44 fun c => ?_
 unfold Sh.files_Row_find at hS
 refine Zq (Zr ?_)
 refine Zy ?_
 refine Zq (Zr ?_)
 refine Zy ?_
 obtain ⟨y8_1, ey8_1, hS⟩ := bd_s hS
 refine Zu (q_call (slices_BinarySearchFunc_files_Row_files_File_string_ct r_0 p_1 ey8_1) rfl (fun _ _ => rfl)) ?_
 refine Zu (q_extract rfl rfl) ?_
 refine Zu (q_extract rfl rfl) ?_
 refine Zy ?_
 cases hS
 exact VC.ret (fin2 (.inr rfl) rfl rfl rfl () rfl trivial (fun _ _ => trivial) (fun _ _ => trivial))
theorem files_Row_Get_ct (r_0 : Sv FilesFile) (p_1 : Str) {r : FilesFile × Bool} (hS : Sh.files_Row_Get r_0.l p_1 = some r) :
 Ct Tryz.prog 23 [r_0.val, str p_1] r_0.ok (Ow.emp) (X := Unit) (fun _ => .tuple #[.agg #[str r.1.path, i64 r.1.mode, str r.1.data], .bool r.2]) (fun _ => True) (fun _ => Mo.tt) (fun _ => Ow.emp) := by
 refine Zo Tryz.func23 Tryz.ntmps23 fun c => ?_
 unfold Sh.files_Row_Get at hS
 refine Zq (Zr ?_)
 refine VL.alloc (cs := [str [], i64 0, str []]) (by kernel_rfl) (by decide) fun b4_1 => ?_
 refine Zy ?_
 refine Zq (Zr ?_)
 refine Zy ?_
 obtain ⟨y11_2, ey11_2, hS⟩ := bd_s hS
 refine Zu (q_call (files_Row_find_ct r_0 p_1 ey11_2) rfl (fun _ _ => rfl)) ?_
 refine Zm ?_
 refine Zu (q_extract rfl rfl) ?_
 refine Zu (q_extract rfl rfl) ?_
 refine Zy ?_
 refine VC.keep [0, 4, 6, 7] rfl ?_
 refine Zq (Zq (Zr ?_))
 refine Zm ?_
 refine Zu (q_not rfl) ?_
 refine Zl ?_
 refine Zcb hS (fun h15 hS => ?_) (fun h15 hS => ?_)
 ·
  refine Zq (Zr ?_)
  refine Zu (q_build (vs := []) (cs := #[str [], i64 0, str []]) rfl (by kernel_rfl)) ?_
  refine Zv (vc := [str [], i64 0, str []]) (cs' := [str [], i64 0, str []]) rfl gsz75 ?_
  refine Zy ?_
  cases hS
  exact VC.ret (finG (vs := [.agg #[str [], i64 0, str []], .bool false]) (.inr rfl) rfl (RVs.cell gagg75 rfl rfl Rd.blk (RVs.tmp rfl (RVs.nil))) () rfl trivial (by (try dsimp only); exact InM.out) (fun _ _ => trivial))
 refine Zk ?_
 refine Zq (Zr ?_)
 refine Zy ?_
 obtain ⟨z19_3, nz19_3, hz19_3, hS⟩ := at_s hS
 refine Zu (q_ixm (s := r_0) Tryz.underlying24 gsz75 rfl rfl nz19_3 (lt_of_get nz19_3 hz19_3)) ?_
 refine Zu (q_els (s := r_0) gagg75 rfl rfl hz19_3) ?_
 refine Zv (vc := [str z19_3.path, i64 z19_3.mode, str z19_3.data]) (cs' := [str z19_3.path, i64 z19_3.mode, str z19_3.data]) rfl gsz75 ?_
 refine Zy ?_
 refine VC.keep [4, 5] rfl ?_
 cases hS
 exact VC.ret (finG (vs := [.agg #[str z19_3.path, i64 z19_3.mode, str z19_3.data], .bool true]) (.inr rfl) rfl (RVs.cell gagg75 rfl rfl Rd.blk (RVs.tmp rfl (RVs.nil))) () rfl trivial (by (try dsimp only); exact InM.out) (fun _ _ => trivial))
theorem unicode_utf8_RuneCountInString_ct (s_0 : Str) {r : Int} (hS : Sh.unicode_utf8_RuneCountInString s_0 = some r) :
 Ct Tryz.prog 251 [str s_0] Mo.tt (Ow.emp) (X := Unit) (fun _ => i64 r) (fun _ => True) (fun _ => Mo.tt) (fun _ => Ow.emp) := by
 refine Zo Tryz.func251 Tryz.ntmps251 fun c => ?_
 unfold Sh.unicode_utf8_RuneCountInString at hS
 refine Zq (Zr ?_)
 refine Zy ?_
 refine Zq (Zq (Zr ?_))
 refine Zm ?_
 cases hS
theorem unicode_utf8_decodeRuneInStringSlow_ct (s_0 : Str) {r : Int × Int} (hS : Sh.unicode_utf8_decodeRuneInStringSlow s_0 = some r) :
 Ct Tryz.prog 253 [str s_0] Mo.tt (Ow.emp) (X := Unit) (fun _ => .tuple #[.int .i32 r.1, i64 r.2]) (fun _ => True) (fun _ => Mo.tt) (fun _ => Ow.emp) := by
 refine Zo Tryz.func253 Tryz.ntmps253 fun c => ?_
 unfold Sh.unicode_utf8_decodeRuneInStringSlow at hS
 refine Zq (Zr ?_)
 refine Zy ?_
 refine Zq (Zr ?_)
 refine Zm ?_
 refine Zu (q_slen Tryz.underlying9 rfl) ?_
 refine Zy ?_
 refine Zq (Zq (Zr ?_))
 refine Zm ?_
 refine Zu (q_lss rfl rfl) ?_
 refine Zl ?_
 refine Zc hS (fun h16 hS => ?_) (fun h16 hS => ?_)
 ·
  refine Zq (Zr ?_)
  refine Zy ?_
  cases hS
  exact VC.ret (fin2 (.inr rfl) rfl rfl rfl () rfl trivial (fun _ _ => trivial) (fun _ _ => trivial))
 refine Zk ?_
 refine Zq (Zr ?_)
 refine Zm ?_
 obtain ⟨z18_1, nz18_1, hz18_1, hS⟩ := at_s hS
 refine Zu (q_sidx Tryz.underlying9 rfl rfl nz18_1 hz18_1) ?_
 refine Zy ?_
 refine VC.keep [0, 4, 5] rfl ?_
 refine Zq (Zr ?_)
 refine Zm ?_
 cases hS
theorem unicode_utf8_DecodeRuneInString_ct (s_0 : Str) {r : Int × Int} (hS : Sh.unicode_utf8_DecodeRuneInString s_0 = some r) :
 Ct Tryz.prog 180 [str s_0] Mo.tt (Ow.emp) (X := Unit) (fun _ => .tuple #[.int .i32 r.1, i64 r.2]) (fun _ => True) (fun _ => Mo.tt) (fun _ => Ow.emp) := by
 refine Zo Tryz.func180 Tryz.ntmps180 fun c => ?_
 unfold Sh.unicode_utf8_DecodeRuneInString at hS
 refine Zq (Zr ?_)
 refine Zy ?_
 refine Zq ?_
 refine VC.cutJ (S := Bool) (fun (x10_1 : Bool) => x10_1) (fun (x10_1 : Bool) => [(0, str s_0), (10, .bool x10_1)]) (fun (x10_1 : Bool) => Mo.tt) (fun (x10_1 : Bool) => Ow.emp) hS ?_ ?_
 ·
  clear hS
  intro k2 hS
  refine Zr ?_
  refine Zm ?_
  refine Zu (q_sne rfl rfl) ?_
  refine Zm ?_
  refine Zspn 6 hS (fun h6 hS => ?_) (fun h6 hS => ?_)
  ·
   refine Zg ?_
   obtain ⟨z8_3, nz8_3, hz8_3, hS⟩ := at_s hS
   refine Zh (q_sidx Tryz.underlying9 rfl rfl nz8_3 hz8_3) ?_
   refine Zh (q_lss rfl rfl) ?_
   refine Zt ?_
   refine VL.mt (decide ((z8_3.toNat : Int) < 128)) [0, 10] (fun _ _ h => h) hS rfl
  refine VL.skips 3 [9] (by kernel_rfl) ?_
  refine Zf ?_
  refine VL.mt false [0, 10] (fun _ _ h => h) hS rfl
 clear hS
 rintro x10_1 hS
 refine Zcb hS (fun h10 hS => ?_) (fun h10 hS => ?_)
 ·
  refine Zq (Zr ?_)
  refine Zm ?_
  obtain ⟨z12_4, nz12_4, hz12_4, hS⟩ := at_s hS
  refine Zu (q_sidx Tryz.underlying9 rfl rfl nz12_4 hz12_4) ?_
  refine Zu (q_conv Tryz.underlying5 Tryz.underlying21 rfl (wr_i32 z12_4)) ?_
  refine Zy ?_
  cases hS
  exact VC.ret (fin2 (.inr rfl) rfl rfl rfl () rfl trivial (fun _ _ => trivial) (fun _ _ => trivial))
 refine Zr ?_
 refine Zm ?_
 obtain ⟨y16_5, ey16_5, hS⟩ := bd_s hS
 refine Zu (q_call (unicode_utf8_decodeRuneInStringSlow_ct s_0 ey16_5) rfl (fun _ _ => rfl)) ?_
 refine Zm ?_
 refine Zu (q_extract rfl rfl) ?_
 refine Zu (q_extract rfl rfl) ?_
 refine Zy ?_
 cases hS
 exact VC.ret (fin2 (.inr rfl) rfl rfl rfl () rfl trivial (fun _ _ => trivial) (fun _ _ => trivial))
theorem strings_explode_ct (s_0 : Str) (n_1 : Int) {r : List Str} (hS : Sh.strings_explode s_0 n_1 = some r) :
 Ct Tryz.prog 176 [str s_0, i64 n_1] Mo.tt (Ow.emp) (X := Sv Str) (fun x => x.val) (fun x => r = x.l) (fun x => Mo.tt) (fun x => Sv.own x 9) := by
 refine Zo Tryz.func176 Tryz.ntmps176 fun c => ?_
 unfold Sh.strings_explode at hS
 refine Zq (Zr ?_)
 refine Zy ?_
 refine Zq (Zr ?_)
 refine Zm ?_
 obtain ⟨y11_1, ey11_1, hS⟩ := bd_s hS
 refine Zu (q_call (unicode_utf8_RuneCountInString_ct s_0 ey11_1) rfl (fun _ _ => rfl)) ?_
 refine Zy ?_
 refine VC.cutJ (S := Int) (fun (n1_2 : Int) => n1_2) (fun (n1_2 : Int) => [(0, str s_0), (1, i64 n1_2)]) (fun (n1_2 : Int) => Mo.tt) (fun (n1_2 : Int) => Ow.emp) hS ?_ ?_
 ·
  clear hS
  intro k3 hS
  refine VC.cutJ (S := Bool) (fun (x18_4 : Bool) => x18_4) (fun (x18_4 : Bool) => [(0, str s_0), (1, i64 n_1), (5, i64 y11_1), (18, .bool x18_4)]) (fun (x18_4 : Bool) => Mo.tt) (fun (x18_4 : Bool) => Ow.emp) hS ?_ ?_
  ·
   clear hS
   intro k5 hS
   refine Zr ?_
   refine Zm ?_
   refine Zu (q_lss rfl rfl) ?_
   refine Zm ?_
   refine Zsp 14 hS (fun h14 hS => ?_) (fun h14 hS => ?_)
   ·
    refine VL.skips 3 [17] (by kernel_rfl) ?_
    refine Zt ?_
    refine VL.mt true [0, 1, 5, 18] (fun _ _ h => h) hS rfl
   refine Zy ?_
   refine Zh (q_gtr rfl rfl) ?_
   refine Zf ?_
   refine VL.mt (decide (y11_1 < n_1)) [0, 1, 5, 18] (fun _ _ h => h) hS rfl
  clear hS
  rintro x18_4 hS
  refine Zcb hS (fun h18 hS => ?_) (fun h18 hS => ?_)
  ·
   refine Zr ?_
   refine Zy ?_
   refine VL.mt y11_1 [0, 1] (fun _ _ h => h) hS rfl
  refine VC.skip_mt n_1 [0, 1] (fun _ _ h => h) hS rfl
 clear hS
 rintro n1_2 hS
 refine Zq (Zr ?_)
 refine Zm ?_
 obtain ⟨b21, hS⟩ := gd_s hS
 refine VL.make (α := Str) (z := []) Tryz.underlying37 gmk9 (by decide) rfl rfl b21.1 (Int.le_refl _) (by omega) (by omega) (by decide) (fun s21_6 hs21_6 => ?_)
 replace hS := lt_to hs21_6 hS
 refine Zy ?_
 refine Zq (Zq (Zr ?_))
 refine Zy ?_
 refine Zb ?_
 refine VC.iter (S := Str × Sv Str × Int) (fun sg => (sg.1, sg.2.1.l, sg.2.2)) (fun sg => [(0, str sg.1), (1, i64 n1_2), (6, sg.2.1.val), (7, i64 sg.2.2)]) (fun sg => Mo.tt) (fun sg => Ow.star (Sv.own sg.2.1 9) (Ow.emp)) (s_0, s21_6, 0) [0, 1, 6, 7] hS rfl ?_
 clear hS
 rintro ⟨s0_8, a6_9, i7_10⟩ m1 y1 hS hK1
 refine Zq (Zq (Zr ?_))
 refine Zy ?_
 obtain ⟨b24, hS⟩ := gd_s hS
 refine Zu (q_sub rfl rfl b24) ?_
 refine Zu (q_lss rfl rfl) ?_
 refine Zl ?_
 refine Zc hS (fun h25 hS => ?_) (fun h25 hS => ?_)
 ·
  refine Zk ?_
  refine Zq (Zb (Zq (Zr ?_)))
  refine Zm ?_
  obtain ⟨y30_11, ey30_11, hS⟩ := bd_s hS
  refine Zu (q_call (unicode_utf8_DecodeRuneInString_ct s0_8 ey30_11) rfl (fun _ _ => rfl)) ?_
  refine Zm ?_
  refine Zu (q_extract rfl rfl) ?_
  refine Zu (q_extract rfl rfl) ?_
  refine Zy ?_
  refine VC.keep [0, 1, 6, 7, 9] rfl ?_
  refine Zq (Zr ?_)
  refine Zy ?_
  obtain ⟨b37, hS⟩ := gd_s hS
  obtain ⟨y37_12, ey37_12, hS⟩ := lt_s hS
  refine Zu (q_stoE Tryz.underlying9 rfl rfl b37.1 b37.2 ey37_12) ?_
  obtain ⟨z38_13, nz38_13, hz38_13, hS⟩ := at_s hS
  refine Zu (q_ixo (s := a6_9) Tryz.underlying37 gsz9 rfl rfl nz38_13 (lt_of_get nz38_13 hz38_13)) ?_
  refine VL.storeE (s := a6_9) (T := 9) (j := 0) (vc := [str y37_12]) (y37_12 : Str) (by decide) rfl rfl hz38_13 rfl gsz9 rfl rfl (Nat.le_of_ble_eq_true rfl) rfl (fun w14 hw14 haw14 hcw14 hvw14 hbw14 how14 => ?_)
  rw [← hvw14]
  replace hS := lt_to hw14 hS
  refine Zl ?_
  refine Zr ?_
  refine Zy ?_
  obtain ⟨b41, hS⟩ := gd_s hS
  obtain ⟨y41_16, ey41_16, hS⟩ := lt_s hS
  refine Zu (q_sfromE Tryz.underlying9 rfl rfl b41.1 b41.2 ey41_16) ?_
  refine Zy ?_
  refine VC.keep [0, 1, 6, 7] rfl ?_
  refine Zr ?_
  refine Zm ?_
  obtain ⟨b27, hS⟩ := gd_s hS
  refine Zu (q_add rfl rfl b27) ?_
  refine Za ?_
  refine VL.rnd (y41_16, w14, (i7_10 + 1)) [0, 1, 6, 7] (fun _ _ h => h) (go2 hS hK1) rfl
 replace hS := up2 hS hK1
 refine Zx ?_
 refine Zq (Zq (Zr ?_))
 refine Zm ?_
 refine Zu (q_gtr rfl rfl) ?_
 refine Zl ?_
 refine Zc hS (fun h43 hS => ?_) (fun h43 hS => ?_)
 ·
  refine Zr ?_
  refine Zy ?_
  obtain ⟨b46, hS⟩ := gd_s hS
  refine Zu (q_sub rfl rfl b46) ?_
  refine Zm ?_
  obtain ⟨z48_17, nz48_17, hz48_17, hS⟩ := at_s hS
  refine Zu (q_ixo (s := a6_9) Tryz.underlying37 gsz9 rfl rfl nz48_17 (lt_of_get nz48_17 hz48_17)) ?_
  refine VL.storeE (s := a6_9) (T := 9) (j := 0) (vc := [str s0_8]) (s0_8 : Str) (by decide) rfl rfl hz48_17 rfl gsz9 rfl rfl (Nat.le_of_ble_eq_true rfl) rfl (fun w18 hw18 haw18 hcw18 hvw18 hbw18 how18 => ?_)
  rw [← hvw18]
  replace hS := lt_to hw18 hS
  refine Zl ?_
  refine VC.keep [6] rfl ?_
  refine Zq (Zr ?_)
  refine Zy ?_
  cases hS
  exact VC.ret (fin1 (.inr rfl) rfl rfl w18 rfl rfl (by (try dsimp only); exact InM.out) (by (try dsimp only); exact EntO.out))
 refine Zk ?_
 refine Zq (Zr ?_)
 refine Zy ?_
 refine VC.keep [4] rfl ?_
 cases hS
 exact VC.ret (fin1 (.inr rfl) rfl rfl a6_9 rfl rfl (by (try dsimp only); exact InM.out) (by (try dsimp only); exact EntO.out))
theorem internal_stringslite_IndexByte_ct (s_0 : Str) (c_1 : Int) {r : Int} (hS : Sh.internal_stringslite_IndexByte s_0 c_1 = some r) :
 Ct Tryz.prog 172 [str s_0, .int .u8 c_1] Mo.tt (Ow.emp) (X := Unit) (fun _ => i64 r) (fun _ => True) (fun _ => Mo.tt) (fun _ => Ow.emp) := by
 refine Zo Tryz.func172 Tryz.ntmps172 fun c => ?_
 unfold Sh.internal_stringslite_IndexByte at hS
 refine Zq (Zr ?_)
 refine Zy ?_
 refine Zq (Zr ?_)
 refine Zy ?_
 refine Zu (q_extern Tryz.func249 rfl rfl (by kernel_rfl) (by kernel_rfl) rfl (fun w => x_ixS s_0 c_1 w)) ?_
 refine Zy ?_
 cases hS
 exact Ze
theorem internal_stringslite_Index_ct (s_0 : Str) (substr_1 : Str) {r : Int} (hS : Sh.internal_stringslite_Index s_0 substr_1 = some r) :
 Ct Tryz.prog 92 [str s_0, str substr_1] Mo.tt (Ow.emp) (X := Unit) (fun _ => i64 r) (fun _ => True) (fun _ => Mo.tt) (fun _ => Ow.emp) := by
 refine Zo Tryz.func92 Tryz.ntmps92 fun c => ?_
 unfold Sh.internal_stringslite_Index at hS
 refine Zq (Zr ?_)
 refine Zy ?_
 refine Zq (Zr ?_)
 refine Zm ?_
 refine Zu (q_slen Tryz.underlying9 rfl) ?_
 refine Zy ?_
 refine Zq (Zb ?_)
 refine VC.cutJ (S := Bool) (fun (x16_1 : Bool) => x16_1) (fun (x16_1 : Bool) => [(0, str s_0), (1, str substr_1), (5, i64 (substr_1.length : Int)), (16, .bool x16_1)]) (fun (x16_1 : Bool) => Mo.tt) (fun (x16_1 : Bool) => Ow.emp) hS ?_ ?_
 ·
  clear hS
  intro k2 hS
  refine Zr ?_
  refine Zm ?_
  refine Zu (q_eql rfl rfl) ?_
  refine Zm ?_
  refine Zsp 19 hS (fun h19 hS => ?_) (fun h19 hS => ?_)
  ·
   refine VL.skips 3 [22] (by kernel_rfl) ?_
   refine Zy ?_
   refine VL.mt true [0, 1, 5, 16] (fun _ _ h => h) hS rfl
  refine Zy ?_
  refine Zh (q_seq rfl rfl) ?_
  refine Zy ?_
  refine VL.mt (decide (substr_1 = s_0)) [0, 1, 5, 16] (fun _ _ h => h) hS rfl
 clear hS
 rintro x16_1 hS
 refine Zcb hS (fun h16 hS => ?_) (fun h16 hS => ?_)
 ·
  refine Zq (Zr ?_)
  refine Zy ?_
  cases hS
  exact Ze
 refine Zq (Zr ?_)
 refine Zm ?_
 refine Zu (q_eql rfl rfl) ?_
 refine Zy ?_
 refine Zc hS (fun h24 hS => ?_) (fun h24 hS => ?_)
 ·
  refine Zq (Zr ?_)
  refine Zy ?_
  obtain ⟨z29_3, nz29_3, hz29_3, hS⟩ := at_s hS
  refine Zu (q_sidx Tryz.underlying9 rfl rfl nz29_3 hz29_3) ?_
  obtain ⟨y30_4, ey30_4, hS⟩ := bd_s hS
  refine Zu (q_call (internal_stringslite_IndexByte_ct s_0 (z29_3.toNat : Int) ey30_4) rfl (fun _ _ => rfl)) ?_
  refine Zy ?_
  refine VC.keep [4] rfl ?_
  cases hS
  exact Ze
 refine Zq (Zr ?_)
 refine Zy ?_
 refine Zu (q_slen Tryz.underlying9 rfl) ?_
 refine Zu (q_geq rfl rfl) ?_
 refine Zy ?_
 refine VC.keep [0, 1, 5, 31] rfl ?_
 refine Zc hS (fun h31 hS => ?_) (fun h31 hS => ?_)
 ·
  refine Zq (Zr ?_)
  refine Zy ?_
  cases hS
  exact Ze
 refine Zq (Zr ?_)
 refine Zm ?_
 cases hS
theorem strings_Index_ct (s_0 : Str) (substr_1 : Str) {r : Int} (hS : Sh.strings_Index s_0 substr_1 = some r) :
 Ct Tryz.prog 178 [str s_0, str substr_1] Mo.tt (Ow.emp) (X := Unit) (fun _ => i64 r) (fun _ => True) (fun _ => Mo.tt) (fun _ => Ow.emp) := by
 refine Zo Tryz.func178 Tryz.ntmps178 fun c => ?_
 unfold Sh.strings_Index at hS
 refine Zq (Zr ?_)
 refine Zy ?_
 refine Zq (Zr ?_)
 refine Zy ?_
 obtain ⟨y7_1, ey7_1, hS⟩ := bd_s hS
 refine Zu (q_call (internal_stringslite_Index_ct s_0 substr_1 ey7_1) rfl (fun _ _ => rfl)) ?_
 refine Zy ?_
 cases hS
 exact Ze
theorem strings_Count_ct (s_0 : Str) (substr_1 : Str) {r : Int} (hS : Sh.strings_Count s_0 substr_1 = some r) :
 Ct Tryz.prog 177 [str s_0, str substr_1] Mo.tt (Ow.emp) (X := Unit) (fun _ => i64 r) (fun _ => True) (fun _ => Mo.tt) (fun _ => Ow.emp) := by
 refine Zo Tryz.func177 Tryz.ntmps177 fun c => ?_
 unfold Sh.strings_Count at hS
 refine Zq (Zr ?_)
 refine Zy ?_
 refine Zq (Zq (Zr ?_))
 refine Zm ?_
 refine Zu (q_slen Tryz.underlying9 rfl) ?_
 refine Zu (q_eql rfl rfl) ?_
 refine Zl ?_
 refine Zc hS (fun h9 hS => ?_) (fun h9 hS => ?_)
 ·
  refine Zq (Zr ?_)
  refine Zm ?_
  obtain ⟨y11_1, ey11_1, hS⟩ := bd_s hS
  refine Zu (q_call (unicode_utf8_RuneCountInString_ct s_0 ey11_1) rfl (fun _ _ => rfl)) ?_
  obtain ⟨b12, hS⟩ := gd_s hS
  refine Zu (q_add rfl rfl b12) ?_
  refine Zy ?_
  cases hS
  exact Ze
 refine Zk ?_
 refine Zq (Zq (Zr ?_))
 refine Zm ?_
 refine Zu (q_slen Tryz.underlying9 rfl) ?_
 refine Zu (q_eql rfl rfl) ?_
 refine Zl ?_
 refine Zc hS (fun h15 hS => ?_) (fun h15 hS => ?_)
 ·
  refine Zq (Zr ?_)
  refine Zy ?_
  obtain ⟨z18_2, nz18_2, hz18_2, hS⟩ := at_s hS
  refine Zu (q_sidx Tryz.underlying9 rfl rfl nz18_2 hz18_2) ?_
  refine Zu (q_extern Tryz.func252 rfl rfl (by kernel_rfl) (by kernel_rfl) rfl (fun w => x_cntS s_0 (z18_2.toNat : Int) w)) ?_
  refine Zy ?_
  refine VC.keep [4] rfl ?_
  cases hS
  exact Ze
 refine Zk ?_
 refine Zq (Zr ?_)
 refine Zy ?_
 refine Zb ?_
 refine VC.iter (S := Str × Int) (fun sg => (sg.1, sg.2)) (fun sg => [(0, str sg.1), (1, str substr_1), (5, i64 sg.2)]) (fun sg => Mo.tt) (fun sg => Ow.emp) (s_0, 0) [0, 1, 5] hS rfl ?_
 clear hS
 rintro ⟨s0_3, n5_4⟩ m1 y1 hS hK1
 refine Zb (Zq (Zr ?_))
 refine Zy ?_
 obtain ⟨y22_5, ey22_5, hS⟩ := bd_s hS
 refine Zu (q_call (strings_Index_ct s0_3 substr_1 ey22_5) rfl (fun _ _ => rfl)) ?_
 refine Zy ?_
 refine Zq (Zq (Zr ?_))
 refine Zm ?_
 refine Zu (q_eql rfl rfl) ?_
 refine Zl ?_
 refine Zc hS (fun h24 hS => ?_) (fun h24 hS => ?_)
 ·
  refine Zq (Zr ?_)
  refine Zy ?_
  refine VC.keep [4] rfl ?_
  replace hS := up2 hS hK1
  cases hS
  exact Ze
 refine Zk ?_
 refine Zq (Zr ?_)
 refine Zm ?_
 obtain ⟨b27, hS⟩ := gd_s hS
 refine Zu (q_add rfl rfl b27) ?_
 refine Zy ?_
 refine VC.keep [0, 1, 5, 6] rfl ?_
 refine Zr ?_
 refine Zy ?_
 refine Zu (q_slen Tryz.underlying9 rfl) ?_
 obtain ⟨b32, hS⟩ := gd_s hS
 refine Zu (q_add rfl rfl b32) ?_
 obtain ⟨b33, hS⟩ := gd_s hS
 obtain ⟨y33_6, ey33_6, hS⟩ := lt_s hS
 refine Zu (q_sfromE Tryz.underlying9 rfl rfl b33.1 b33.2 ey33_6) ?_
 refine Za ?_
 refine VL.rnd (y33_6, (n5_4 + 1)) [0, 1, 5] (fun _ _ h => h) (go2 hS hK1) rfl
theorem strings_genSplit_ct (s_0 : Str) (sep_1 : Str) (sepSave_2 : Int) (n_3 : Int) {r : List Str} (hS : Sh.strings_genSplit s_0 sep_1 sepSave_2 n_3 = some r) :
 Ct Tryz.prog 93 [str s_0, str sep_1, i64 sepSave_2, i64 n_3] Mo.tt (Ow.emp) (X := Sv Str) (fun x => x.val) (fun x => r = x.l) (fun x => x.ok) (fun x => Ow.emp) := by
 refine Zo Tryz.func93 Tryz.ntmps93 fun c => ?_
 unfold Sh.strings_genSplit at hS
 refine Zq (Zr ?_)
 refine Zy ?_
 refine Zq (Zq (Zr ?_))
 refine Zm ?_
 refine Zu (q_eql rfl rfl) ?_
 refine Zl ?_
 refine Zc hS (fun h13 hS => ?_) (fun h13 hS => ?_)
 ·
  refine Zq (Zr ?_)
  refine Zy ?_
  cases hS
  exact VC.ret (fin1 (.inr rfl) rfl rfl ⟨none, 0, []⟩ rfl rfl (by (try dsimp only); exact InM.out) (fun _ _ => trivial))
 refine Zk ?_
 refine Zq (Zq (Zr ?_))
 refine Zy ?_
 refine Zc hS (fun h15 hS => ?_) (fun h15 hS => ?_)
 ·
  refine Zq (Zr ?_)
  refine Zy ?_
  obtain ⟨y18_1, ey18_1, hS⟩ := bd_s hS
  refine VL.callO (strings_explode_ct s_0 n_3 ey18_1) rfl (by decide) ?_
  rintro q18_1_0 rfl
  try dsimp only
  refine Zy ?_
  refine VC.keep [8] rfl ?_
  refine VC.shut q18_1_0 9 (fun _ _ _ _ => trivial) ?_
  cases hS
  exact VC.ret (fin1 (.inr rfl) rfl rfl q18_1_0 rfl rfl (by (try dsimp only); exact InM.out) (fun _ _ => trivial))
 refine Zk ?_
 refine VC.cutJ (S := Int) (fun (n3_2 : Int) => n3_2) (fun (n3_2 : Int) => [(0, str s_0), (1, str sep_1), (2, i64 sepSave_2), (3, i64 n3_2)]) (fun (n3_2 : Int) => Mo.tt) (fun (n3_2 : Int) => Ow.emp) hS ?_ ?_
 ·
  clear hS
  intro k3 hS
  refine Zq (Zr ?_)
  refine Zm ?_
  refine Zu (q_lss rfl rfl) ?_
  refine Zl ?_
  refine Zc hS (fun h20 hS => ?_) (fun h20 hS => ?_)
  ·
   refine Zr ?_
   refine Zy ?_
   obtain ⟨y23_4, ey23_4, hS⟩ := bd_s hS
   refine Zu (q_call (strings_Count_ct s_0 sep_1 ey23_4) rfl (fun _ _ => rfl)) ?_
   obtain ⟨b24, hS⟩ := gd_s hS
   refine Zu (q_add rfl rfl b24) ?_
   refine Za ?_
   refine VL.mt (y23_4 + 1) [0, 1, 2, 3] (fun _ _ h => h) hS rfl
  refine VC.skip_mt n_3 [0, 1, 2, 3] (fun _ _ h => h) hS rfl
 clear hS
 rintro n3_2 hS
 refine Zq (Zr ?_)
 refine Zy ?_
 refine Zu (q_slen Tryz.underlying9 rfl) ?_
 obtain ⟨b28, hS⟩ := gd_s hS
 refine Zu (q_add rfl rfl b28) ?_
 refine Zu (q_min rfl) ?_
 refine Zy ?_
 refine Zq (Zr ?_)
 refine Zm ?_
 obtain ⟨b31, hS⟩ := gd_s hS
 refine VL.make (α := Str) (z := []) Tryz.underlying37 gmk9 (by decide) rfl rfl b31.1 (Int.le_refl _) (by omega) (by omega) (by decide) (fun s31_5 hs31_5 => ?_)
 replace hS := lt_to hs31_5 hS
 refine Zy ?_
 refine VC.keep [0, 1, 2, 3, 9] rfl ?_
 refine Zq (Zr ?_)
 refine Zm ?_
 obtain ⟨b33, hS⟩ := gd_s hS
 refine Zu (q_sub rfl rfl b33) ?_
 refine Zy ?_
 refine Zq (Zr ?_)
 refine Zy ?_
 refine VC.cutJ (S := Str × Sv Str × Int) (fun sg => (sg.1, sg.2.1.l, sg.2.2)) (fun sg => [(0, str sg.1), (9, sg.2.1.val), (10, i64 sg.2.2)]) (fun sg => Mo.tt) (fun sg => Ow.star (Sv.own sg.2.1 9) (Ow.emp)) hS ?_ ?_
 ·
  clear hS
  intro k10 hS
  refine Zb ?_
  refine VC.iter (S := Str × Sv Str × Int) (fun sg => (sg.1, sg.2.1.l, sg.2.2)) (fun sg => [(0, str sg.1), (1, str sep_1), (2, i64 sepSave_2), (3, i64 ((min n3_2 ((s_0.length : Int) + 1)) - 1)), (9, sg.2.1.val), (10, i64 sg.2.2)]) (fun sg => Mo.tt) (fun sg => Ow.star (Sv.own sg.2.1 9) (Ow.emp)) (s_0, s31_5, 0) [0, 1, 2, 3, 9, 10] hS rfl ?_
  clear hS
  rintro ⟨s0_11, a9_12, i10_13⟩ m1 y1 hS hK1
  refine Zq (Zq (Zr ?_))
  refine Zy ?_
  refine Zu (q_lss rfl rfl) ?_
  refine Zl ?_
  refine Zc hS (fun h36 hS => ?_) (fun h36 hS => ?_)
  ·
   refine Zk ?_
   refine Zb (Zq (Zr ?_))
   refine Zy ?_
   obtain ⟨y39_14, ey39_14, hS⟩ := bd_s hS
   refine Zu (q_call (strings_Index_ct s0_11 sep_1 ey39_14) rfl (fun _ _ => rfl)) ?_
   refine Zy ?_
   refine Zq (Zq (Zr ?_))
   refine Zm ?_
   refine Zu (q_lss rfl rfl) ?_
   refine Zl ?_
   refine VC.keep [0, 1, 2, 3, 9, 10, 11, 41] rfl ?_
   refine Zc hS (fun h41 hS => ?_) (fun h41 hS => ?_)
   ·
    replace hS := up2 hS hK1
    refine VC.exit_mt (s0_11, a9_12, i10_13) [0, 9, 10] (fun _ _ h => h) hS rfl
   refine Zk ?_
   refine Zq (Zr ?_)
   refine Zy ?_
   obtain ⟨b47, hS⟩ := gd_s hS
   refine Zu (q_add rfl rfl b47) ?_
   obtain ⟨b48, hS⟩ := gd_s hS
   obtain ⟨y48_15, ey48_15, hS⟩ := lt_s hS
   refine Zu (q_stoE Tryz.underlying9 rfl rfl b48.1 b48.2 ey48_15) ?_
   obtain ⟨z49_16, nz49_16, hz49_16, hS⟩ := at_s hS
   refine Zu (q_ixo (s := a9_12) Tryz.underlying37 gsz9 rfl rfl nz49_16 (lt_of_get nz49_16 hz49_16)) ?_
   refine VL.storeE (s := a9_12) (T := 9) (j := 0) (vc := [str y48_15]) (y48_15 : Str) (by decide) rfl rfl hz49_16 rfl gsz9 rfl rfl (Nat.le_of_ble_eq_true rfl) rfl (fun w17 hw17 haw17 hcw17 hvw17 hbw17 how17 => ?_)
   rw [← hvw17]
   replace hS := lt_to hw17 hS
   refine Zl ?_
   refine VC.keep [0, 1, 2, 3, 9, 10, 11] rfl ?_
   refine Zq (Zr ?_)
   refine Zy ?_
   refine Zu (q_slen Tryz.underlying9 rfl) ?_
   obtain ⟨b54, hS⟩ := gd_s hS
   refine Zu (q_add rfl rfl b54) ?_
   obtain ⟨b55, hS⟩ := gd_s hS
   obtain ⟨y55_19, ey55_19, hS⟩ := lt_s hS
   refine Zu (q_sfromE Tryz.underlying9 rfl rfl b55.1 b55.2 ey55_19) ?_
   refine Zy ?_
   refine VC.keep [0, 1, 2, 3, 9, 10] rfl ?_
   refine Zr ?_
   refine Zm ?_
   obtain ⟨b57, hS⟩ := gd_s hS
   refine Zu (q_add rfl rfl b57) ?_
   refine Za ?_
   refine VL.rnd (y55_19, w17, (i10_13 + 1)) [0, 1, 2, 3, 9, 10] (fun _ _ h => h) (go2 hS hK1) rfl
  replace hS := up2 hS hK1
  refine VC.exit_mt (s0_11, a9_12, i10_13) [0, 9, 10] (fun _ _ h => h) hS rfl
 clear hS
 rintro ⟨s0_7, a9_8, i10_9⟩ hS
 refine Zq (Zr ?_)
 refine Zy ?_
 obtain ⟨z61_20, nz61_20, hz61_20, hS⟩ := at_s hS
 refine Zu (q_ixo (s := a9_8) Tryz.underlying37 gsz9 rfl rfl nz61_20 (lt_of_get nz61_20 hz61_20)) ?_
 refine VL.storeE (s := a9_8) (T := 9) (j := 0) (vc := [str s0_7]) (s0_7 : Str) (by decide) rfl rfl hz61_20 rfl gsz9 rfl rfl (Nat.le_of_ble_eq_true rfl) rfl (fun w21 hw21 haw21 hcw21 hvw21 hbw21 how21 => ?_)
 rw [← hvw21]
 replace hS := lt_to hw21 hS
 refine Zl ?_
 refine Zq (Zr ?_)
 refine Zy ?_
 obtain ⟨b64, hS⟩ := gd_s hS
 refine Zu (q_add rfl rfl b64) ?_
 refine VL.shut w21 9 (fun _ _ _ _ => trivial) ?_
 obtain ⟨b65, hS⟩ := gd_s hS
 refine VL.sto Tryz.underlying37 gsz9 rfl rfl b65.1 (b65.2) (by decide) fun s65_23 hs65_23 => ?_
 replace hS := lt_to hs65_23 hS
 refine Zy ?_
 refine VC.keep [8] rfl ?_
 cases hS
 exact VC.ret (fin1 (.inr rfl) rfl rfl s65_23 rfl rfl (by (try dsimp only); exact InM.out) (fun _ _ => trivial))
theorem strings_Split_ct (s_0 : Str) (sep_1 : Str) {r : List Str} (hS : Sh.strings_Split s_0 sep_1 = some r) :
 Ct Tryz.prog 50 [str s_0, str sep_1] Mo.tt (Ow.emp) (X := Sv Str) (fun x => x.val) (fun x => r = x.l) (fun x => x.ok) (fun x => Ow.emp) := by
 refine Zo Tryz.func50 Tryz.ntmps50 fun c => ?_
 unfold Sh.strings_Split at hS
 refine Zq (Zr ?_)
 refine Zy ?_
 refine Zq (Zr ?_)
 refine Zy ?_
 obtain ⟨y7_1, ey7_1, hS⟩ := bd_s hS
 refine VL.callF (strings_genSplit_ct s_0 sep_1 0 (-1) ey7_1) rfl (by decide) ?_
 rintro q7_1_0 rfl
 try dsimp only
 refine Zy ?_
 cases hS
 exact VC.ret (fin1 (.inr rfl) rfl rfl q7_1_0 rfl rfl (by (try dsimp only); exact InM.out) (fun _ _ => trivial))
theorem path_good_ct (c_0 : Int) {r : Bool} (hS : Sh.path_good c_0 = some r) :
 Ct Tryz.prog 256 [.int .u8 c_0] Mo.tt (Ow.emp) (X := Unit) (fun _ => .bool r) (fun _ => True) (fun _ => Mo.tt) (fun _ => Ow.emp) := by
 refine Zo Tryz.func256 Tryz.ntmps256 fun c => ?_
 unfold Sh.path_good at hS
 refine Zq (Zr ?_)
 refine Zy ?_
 refine VC.cutJ (S := Unit) (fun (_ : Unit) => ()) (fun (_ : Unit) => [(0, .int .u8 c_0)]) (fun (_ : Unit) => Mo.tt) (fun (_ : Unit) => Ow.emp) hS ?_ ?_
 ·
  clear hS
  intro k1 hS
  refine Zq (Zr ?_)
  refine Zy ?_
  refine Zb ?_
  refine VC.cutJ (S := Unit) (fun (_ : Unit) => ()) (fun (_ : Unit) => []) (fun (_ : Unit) => Mo.tt) (fun (_ : Unit) => Ow.emp) hS ?_ ?_
  ·
   clear hS
   intro k2 hS
   refine Zb (Zb (Zb (Zq (Zq (Zq (Zr ?_))))))
   refine Zu (q_eql rfl rfl) ?_
   refine Zy ?_
   refine Zc hS (fun h4 hS => ?_) (fun h4 hS => ?_)
   ·
    refine VC.exit_mt () [] (fun _ _ h => h) hS rfl
   refine Zk ?_
   refine Zq (Zq (Zr ?_))
   refine Zu (q_eql rfl rfl) ?_
   refine Zy ?_
   refine Zc hS (fun h6 hS => ?_) (fun h6 hS => ?_)
   ·
    refine VC.exit_mt () [] (fun _ _ h => h) hS rfl
   refine Zk ?_
   refine Zq (Zr ?_)
   refine Zu (q_eql rfl rfl) ?_
   refine Zy ?_
   refine Zc hS (fun h8 hS => ?_) (fun h8 hS => ?_)
   ·
    refine VC.exit_mt () [] (fun _ _ h => h) hS rfl
   refine Zk ?_
   refine VC.exit_mt () [0] (fun _ _ h => h) hS rfl
  clear hS
  rintro _ hS
  refine Zq (Zq ?_)
  cases hS
 clear hS
 rintro _ hS
 refine Zq (Zr ?_)
 refine Zm ?_
 refine Zu (q_geq rfl rfl) ?_
 refine Zm ?_
 refine Zsp 12 hS (fun h12 hS => ?_) (fun h12 hS => ?_)
 ·
  refine Zg ?_
  refine Zh (q_leq rfl rfl) ?_
  refine Zy ?_
  refine Zsp 16 hS (fun h16 hS => ?_) (fun h16 hS => ?_)
  ·
   refine VL.skips 6 [22] (by kernel_rfl) ?_
   refine Zy ?_
   refine VC.keep [2] rfl ?_
   cases hS
   exact Ze
  refine Zg ?_
  refine Zh (q_geq rfl rfl) ?_
  refine Zg ?_
  refine Zsp 19 hS (fun h19 hS => ?_) (fun h19 hS => ?_)
  ·
   refine Zg ?_
   refine Zh (q_leq rfl rfl) ?_
   refine Zh (q_pick_t rfl rfl) ?_
   refine Zy ?_
   refine VC.keep [2] rfl ?_
   cases hS
   exact Ze
  refine Zy ?_
  refine Zh (q_pick_f rfl rfl) ?_
  refine Zy ?_
  refine VC.keep [2] rfl ?_
  cases hS
  exact Ze
 refine Zy ?_
 refine Zh (q_geq rfl rfl) ?_
 refine Zg ?_
 refine Zsp 19 hS (fun h19 hS => ?_) (fun h19 hS => ?_)
 ·
  refine Zg ?_
  refine Zh (q_leq rfl rfl) ?_
  refine Zh (q_pick_t rfl rfl) ?_
  refine Zy ?_
  refine VC.keep [2] rfl ?_
  cases hS
  exact Ze
 refine Zy ?_
 refine Zh (q_pick_f rfl rfl) ?_
 refine Zy ?_
 refine VC.keep [2] rfl ?_
 cases hS
 exact Ze
theorem path_part_ct (s_0 : Str) {r : Bool} (hS : Sh.path_part s_0 = some r) :
 Ct Tryz.prog 185 [str s_0] Mo.tt (Ow.emp) (X := Unit) (fun _ => .bool r) (fun _ => True) (fun _ => Mo.tt) (fun _ => Ow.emp) := by
 refine Zo Tryz.func185 Tryz.ntmps185 fun c => ?_
 unfold Sh.path_part at hS
 refine Zq (Zr ?_)
 refine Zy ?_
 refine Zq ?_
 refine VC.cutJ (S := Bool) (fun (x14_1 : Bool) => x14_1) (fun (x14_1 : Bool) => [(0, str s_0), (14, .bool x14_1)]) (fun (x14_1 : Bool) => Mo.tt) (fun (x14_1 : Bool) => Ow.emp) hS ?_ ?_
 ·
  clear hS
  intro k2 hS
  refine Zr ?_
  refine Zy ?_
  refine Zsp 7 hS (fun h7 hS => ?_) (fun h7 hS => ?_)
  ·
   refine Zy ?_
   refine VL.mt true [0, 14] (fun _ _ h => h) hS rfl
  refine Zg ?_
  refine Zh (q_seq rfl rfl) ?_
  refine Zy ?_
  refine Zsp 11 hS (fun h11 hS => ?_) (fun h11 hS => ?_)
  ·
   refine Zy ?_
   refine VL.mt true [0, 14] (fun _ _ h => h) hS rfl
  refine Zg ?_
  refine Zh (q_seq rfl rfl) ?_
  refine Zf ?_
  refine VL.mt (decide (s_0 = [46, 46])) [0, 14] (fun _ _ h => h) hS rfl
 clear hS
 rintro x14_1 hS
 refine Zcb hS (fun h14 hS => ?_) (fun h14 hS => ?_)
 ·
  refine Zq ?_
  cases hS
 refine Zk ?_
 refine Zq (Zq (Zr ?_))
 refine Zm ?_
 obtain ⟨b16, hS⟩ := gd_s hS
 refine VL.s2b Tryz.underlying9 Tryz.underlying64 Tryz.underlying5 rfl b16 (by decide) fun s16_3 hs16_3 => ?_
 replace hS := lt_to hs16_3 hS
 refine Zu (q_ln (s := s16_3) Tryz.underlying64 rfl) ?_
 refine Zy ?_
 refine Zb ?_
 refine VC.iter (S := Int) (fun (x18_5 : Int) => x18_5) (fun (x18_5 : Int) => [(16, s16_3.val), (17, i64 (s16_3.l.length : Int)), (18, i64 x18_5)]) (fun (x18_5 : Int) => Mo.tt) (fun (x18_5 : Int) => Ow.emp) 0 [16, 17, 18] hS rfl ?_
 clear hS
 rintro x18_5 m1 y1 hS hK1
 refine Zq (Zr ?_)
 refine Zu (q_lss rfl rfl) ?_
 refine Zl ?_
 refine Zq ?_
 refine Zc hS (fun h19 hS => ?_) (fun h19 hS => ?_)
 ·
  refine Zk ?_
  refine Zq (Zb (Zq (Zr ?_)))
  obtain ⟨z20_6, nz20_6, hz20_6, hS⟩ := at_s hS
  refine Zu (q_ixm (s := s16_3) Tryz.underlying64 gsz5 rfl rfl nz20_6 (lt_of_get nz20_6 hz20_6)) ?_
  refine Zu (q_el (s := s16_3) gone5 rfl hz20_6 rfl) ?_
  refine Zy ?_
  refine Zq (Zr ?_)
  refine Zm ?_
  obtain ⟨y23_7, ey23_7, hS⟩ := bd_s hS
  refine Zu (q_call (path_good_ct (z20_6.toNat : Int) ey23_7) rfl (fun _ _ => rfl)) ?_
  refine Zu (q_not rfl) ?_
  refine Zl ?_
  refine Zcb hS (fun h24 hS => ?_) (fun h24 hS => ?_)
  ·
   refine Zq ?_
   cases hS
  refine Zk ?_
  refine Zr ?_
  obtain ⟨b25, hS⟩ := gd_s hS
  refine Zu (q_add rfl rfl b25) ?_
  refine Zm ?_
  refine VL.rnd (x18_5 + 1) [16, 17, 18] (fun _ _ h => h) (go2 hS hK1) rfl
 replace hS := up2 hS hK1
 refine Zx ?_
 refine Zq (Zr ?_)
 refine Zy ?_
 cases hS
 exact Ze
theorem path_Check_ct (p_0 : Str) {r : Int} (hS : Sh.path_Check p_0 = some r) :
 Ct Tryz.prog 105 [str p_0] Mo.tt (Ow.emp) (X := Unit) (fun _ => i64 r) (fun _ => True) (fun _ => Mo.tt) (fun _ => Ow.emp) := by
 refine Zo Tryz.func105 Tryz.ntmps105 fun c => ?_
 unfold Sh.path_Check at hS
 refine Zq (Zr ?_)
 refine Zy ?_
 refine Zq (Zq (Zr ?_))
 refine Zm ?_
 refine Zu (q_slen Tryz.underlying9 rfl) ?_
 refine Zu (q_gtr rfl rfl) ?_
 refine Zl ?_
 refine Zc hS (fun h7 hS => ?_) (fun h7 hS => ?_)
 ·
  refine Zq ?_
  cases hS
 refine Zk ?_
 refine Zq (Zq (Zr ?_))
 refine Zm ?_
 obtain ⟨y9_1, ey9_1, hS⟩ := bd_s hS
 refine VL.callF (strings_Split_ct p_0 [47] ey9_1) rfl (by decide) ?_
 rintro q9_1_0 rfl
 try dsimp only
 refine Zu (q_ln (s := q9_1_0) Tryz.underlying37 rfl) ?_
 refine Zy ?_
 refine Zb ?_
 refine VC.iter (S := Int) (fun (x11_2 : Int) => x11_2) (fun (x11_2 : Int) => [(9, q9_1_0.val), (10, i64 (q9_1_0.l.length : Int)), (11, i64 x11_2)]) (fun (x11_2 : Int) => Mo.tt) (fun (x11_2 : Int) => Ow.emp) 0 [9, 10, 11] hS rfl ?_
 clear hS
 rintro x11_2 m1 y1 hS hK1
 refine Zq (Zr ?_)
 refine Zu (q_lss rfl rfl) ?_
 refine Zl ?_
 refine Zq ?_
 refine Zc hS (fun h12 hS => ?_) (fun h12 hS => ?_)
 ·
  refine Zk ?_
  refine Zq (Zb (Zq (Zr ?_)))
  obtain ⟨z13_3, nz13_3, hz13_3, hS⟩ := at_s hS
  refine Zu (q_ixm (s := q9_1_0) Tryz.underlying37 gsz9 rfl rfl nz13_3 (lt_of_get nz13_3 hz13_3)) ?_
  refine Zu (q_el (s := q9_1_0) gone9 rfl hz13_3 rfl) ?_
  refine Zy ?_
  refine Zq (Zr ?_)
  refine Zm ?_
  obtain ⟨y16_4, ey16_4, hS⟩ := bd_s hS
  refine Zu (q_call (path_part_ct z13_3 ey16_4) rfl (fun _ _ => rfl)) ?_
  refine Zu (q_not rfl) ?_
  refine Zl ?_
  refine Zcb hS (fun h17 hS => ?_) (fun h17 hS => ?_)
  ·
   refine Zq ?_
   cases hS
  refine Zk ?_
  refine Zr ?_
  obtain ⟨b18, hS⟩ := gd_s hS
  refine Zu (q_add rfl rfl b18) ?_
  refine Zm ?_
  refine VL.rnd (x11_2 + 1) [9, 10, 11] (fun _ _ h => h) (go2 hS hK1) rfl
 replace hS := up2 hS hK1
 refine Zx ?_
 refine Zq (Zr ?_)
 refine Zy ?_
 cases hS
 exact Ze
theorem internal_stringslite_HasPrefix_ct (s_0 : Str) (prefix_1 : Str) {r : Bool} (hS : Sh.internal_stringslite_HasPrefix s_0 prefix_1 = some r) :
 Ct Tryz.prog 296 [str s_0, str prefix_1] Mo.tt (Ow.emp) (X := Unit) (fun _ => .bool r) (fun _ => True) (fun _ => Mo.tt) (fun _ => Ow.emp) := by
 refine Zo Tryz.func296 Tryz.ntmps296 fun c => ?_
 unfold Sh.internal_stringslite_HasPrefix at hS
 refine Zq (Zr ?_)
 refine Zy ?_
 refine Zq (Zr ?_)
 refine Zm ?_
 refine Zu (q_slen Tryz.underlying9 rfl) ?_
 refine Zm ?_
 refine Zu (q_slen Tryz.underlying9 rfl) ?_
 refine Zu (q_geq rfl rfl) ?_
 refine Zm ?_
 refine Zsp 10 hS (fun h10 hS => ?_) (fun h10 hS => ?_)
 ·
  refine Zy ?_
  refine Zh (q_slen Tryz.underlying9 rfl) ?_
  obtain ⟨b14, hS⟩ := gd_s hS
  obtain ⟨y14_1, ey14_1, hS⟩ := lt_s hS
  refine Zh (q_stoE Tryz.underlying9 rfl rfl b14.1 b14.2 ey14_1) ?_
  refine Zg ?_
  refine Zh (q_seq rfl rfl) ?_
  refine Zy ?_
  refine VC.keep [4] rfl ?_
  cases hS
  exact Ze
 refine VL.skips 6 [16] (by kernel_rfl) ?_
 refine Zy ?_
 refine VC.keep [4] rfl ?_
 cases hS
 exact Ze
theorem strings_HasPrefix_ct (s_0 : Str) (prefix_1 : Str) {r : Bool} (hS : Sh.strings_HasPrefix s_0 prefix_1 = some r) :
 Ct Tryz.prog 247 [str s_0, str prefix_1] Mo.tt (Ow.emp) (X := Unit) (fun _ => .bool r) (fun _ => True) (fun _ => Mo.tt) (fun _ => Ow.emp) := by
 refine Zo Tryz.func247 Tryz.ntmps247 fun c => ?_
 unfold Sh.strings_HasPrefix at hS
 refine Zq (Zr ?_)
 refine Zy ?_
 refine Zq (Zr ?_)
 refine Zy ?_
 obtain ⟨y7_1, ey7_1, hS⟩ := bd_s hS
 refine Zu (q_call (internal_stringslite_HasPrefix_ct s_0 prefix_1 ey7_1) rfl (fun _ _ => rfl)) ?_
 refine Zy ?_
 cases hS
 exact Ze
theorem path_Under_ct (p_0 : Str) (dir_1 : Str) {r : Bool} (hS : Sh.path_Under p_0 dir_1 = some r) :
 Ct Tryz.prog 169 [str p_0, str dir_1] Mo.tt (Ow.emp) (X := Unit) (fun _ => .bool r) (fun _ => True) (fun _ => Mo.tt) (fun _ => Ow.emp) := by
 refine Zo Tryz.func169 Tryz.ntmps169 fun c => ?_
 unfold Sh.path_Under at hS
 refine Zq (Zr ?_)
 refine Zy ?_
 refine Zq (Zq (Zr ?_))
 refine Zy ?_
 refine Zc hS (fun h6 hS => ?_) (fun h6 hS => ?_)
 ·
  refine Zq ?_
  cases hS
 refine Zk ?_
 refine Zq (Zr ?_)
 refine Zm ?_
 refine Zu (q_slen Tryz.underlying9 rfl) ?_
 refine Zm ?_
 refine Zu (q_slen Tryz.underlying9 rfl) ?_
 obtain ⟨b13, hS⟩ := gd_s hS
 refine Zu (q_add rfl rfl b13) ?_
 refine Zu (q_gtr rfl rfl) ?_
 refine Zm ?_
 refine Zsp 15 hS (fun h15 hS => ?_) (fun h15 hS => ?_)
 ·
  refine Zy ?_
  obtain ⟨b18, hS⟩ := gd_s hS
  obtain ⟨y18_1, ey18_1, hS⟩ := lt_s hS
  refine Zh (q_catE rfl rfl b18 ey18_1) ?_
  obtain ⟨y19_2, ey19_2, hS⟩ := bd_s hS
  refine Zh (q_call (strings_HasPrefix_ct p_0 y18_1 ey19_2) rfl (fun _ _ => rfl)) ?_
  refine Zy ?_
  refine VC.keep [4] rfl ?_
  cases hS
  exact Ze
 refine VL.skips 4 [19] (by kernel_rfl) ?_
 refine Zy ?_
 refine VC.keep [4] rfl ?_
 cases hS
 exact Ze
theorem path_Clash_ct (a_0 : Str) (b_1 : Str) {r : Bool} (hS : Sh.path_Clash a_0 b_1 = some r) :
 Ct Tryz.prog 90 [str a_0, str b_1] Mo.tt (Ow.emp) (X := Unit) (fun _ => .bool r) (fun _ => True) (fun _ => Mo.tt) (fun _ => Ow.emp) := by
 refine Zo Tryz.func90 Tryz.ntmps90 fun c => ?_
 unfold Sh.path_Clash at hS
 refine Zq (Zr ?_)
 refine Zy ?_
 refine Zq (Zr ?_)
 refine Zm ?_
 refine Zu (q_sne rfl rfl) ?_
 refine Zm ?_
 refine Zspn 7 hS (fun h7 hS => ?_) (fun h7 hS => ?_)
 ·
  refine Zg ?_
  refine Zh (q_sne rfl rfl) ?_
  refine Zy ?_
  refine Zspn 11 hS (fun h11 hS => ?_) (fun h11 hS => ?_)
  ·
   refine Zy ?_
   obtain ⟨y14_1, ey14_1, hS⟩ := bd_s hS
   refine Zh (q_call (path_Under_ct a_0 b_1 ey14_1) rfl (fun _ _ => rfl)) ?_
   refine Zg ?_
   refine Zspb 15 hS (fun h15 hS => ?_) (fun h15 hS => ?_)
   ·
    refine VL.skips 3 [18] (by kernel_rfl) ?_
    refine Zh (q_pick_t rfl rfl) ?_
    refine Zy ?_
    refine VC.keep [4] rfl ?_
    cases hS
    exact Ze
   refine Zy ?_
   obtain ⟨y18_2, ey18_2, hS⟩ := bd_s hS
   refine Zh (q_call (path_Under_ct b_1 a_0 ey18_2) rfl (fun _ _ => rfl)) ?_
   refine Zh (q_pick_f rfl rfl) ?_
   refine Zy ?_
   refine VC.keep [4] rfl ?_
   cases hS
   exact Ze
  refine VL.skips 8 [19] (by kernel_rfl) ?_
  refine Zy ?_
  refine VC.keep [4] rfl ?_
  cases hS
  exact Ze
 refine Zn ?_
 refine Zn ?_
 refine Zf ?_
 refine Zm ?_
 refine VL.skips 8 [19] (by kernel_rfl) ?_
 refine Zy ?_
 refine VC.keep [4] rfl ?_
 cases hS
 exact Ze
theorem files_Row_wrong_1_ct (g_0 : FilesFile) (a_1_b : Nat) (a_1 : FilesFile) {r : Bool} (hS : Sh.files_Row_wrong_1 g_0 a_1 = some r) :
 Ct Tryz.prog 167 [.agg #[str g_0.path, i64 g_0.mode, str g_0.data], ptr a_1_b 0] (Cells a_1_b 0 [str a_1.path, i64 a_1.mode, str a_1.data]) (Ow.emp) (X := Unit) (fun _ => .bool r) (fun _ => True) (fun _ => Mo.tt) (fun _ => Ow.emp) := by
 refine Zo Tryz.func167 Tryz.ntmps167 fun c => ?_
 unfold Sh.files_Row_wrong_1 at hS
 refine Zq (Zr ?_)
 refine VL.box (cs := [str g_0.path, i64 g_0.mode, str g_0.data]) rfl rfl (by decide) fun b2_1 => ?_
 refine Zy ?_
 refine Zq (Zr ?_)
 refine Zu (q_field gfa75_0 rfl) ?_
 refine Zu (q_fe gone9 rfl rfl) ?_
 refine Zu (q_field gfa75_0 rfl) ?_
 refine Zu (q_fm gone9 rfl rfl) ?_
 obtain ⟨y8_2, ey8_2, hS⟩ := bd_s hS
 refine Zu (q_call (path_Clash_ct g_0.path a_1.path ey8_2) rfl (fun _ _ => rfl)) ?_
 refine Zy ?_
 cases hS
 exact Ze
theorem slices_IndexFunc_files_Row_files_File_ct (s_0 : Sv FilesFile) (f_1_0_b : Nat) (f_1_0 : FilesFile) {r : Int} (hS : Sh.slices_IndexFunc_files_Row_files_File s_0.l f_1_0 = some r) :
 Ct Tryz.prog 168 [s_0.val, .func (.func 167) #[] #[ptr f_1_0_b 0]] (s_0.ok.and (Cells f_1_0_b 0 [str f_1_0.path, i64 f_1_0.mode, str f_1_0.data])) (Ow.emp) (X := Unit) (fun _ => i64 r) (fun _ => True) (fun _ => Mo.tt) (fun _ => Ow.emp) := by
 refine Zo Tryz.func168 Tryz.ntmps168 fun c => ?_
 unfold Sh.slices_IndexFunc_files_Row_files_File at hS
 refine Zq (Zr ?_)
 refine Zy ?_
 refine Zq (Zq (Zr ?_))
 refine Zm ?_
 refine Zu (q_ln (s := s_0) Tryz.underlying24 rfl) ?_
 refine Zy ?_
 refine Zb ?_
 refine VC.iter (S := Int) (fun (x8_1 : Int) => x8_1) (fun (x8_1 : Int) => [(0, s_0.val), (1, .func (.func 167) #[] #[ptr f_1_0_b 0]), (7, i64 (s_0.l.length : Int)), (8, i64 x8_1)]) (fun (x8_1 : Int) => Mo.tt) (fun (x8_1 : Int) => Ow.emp) 0 [0, 1, 7, 8] hS rfl ?_
 clear hS
 rintro x8_1 m1 y1 hS hK1
 refine Zq (Zr ?_)
 refine Zu (q_lss rfl rfl) ?_
 refine Zl ?_
 refine Zq ?_
 refine Zc hS (fun h9 hS => ?_) (fun h9 hS => ?_)
 ·
  refine Zk ?_
  refine Zq (Zb (Zq (Zr ?_)))
  refine Zy ?_
  refine Zq (Zr ?_)
  refine Zy ?_
  obtain ⟨z14_2, nz14_2, hz14_2, hS⟩ := at_s hS
  refine Zu (q_ixm (s := s_0) Tryz.underlying24 gsz75 rfl rfl nz14_2 (lt_of_get nz14_2 hz14_2)) ?_
  refine Zu (q_els (s := s_0) gagg75 rfl rfl hz14_2) ?_
  obtain ⟨y16_3, ey16_3, hS⟩ := bd_s hS
  refine Zu (q_callVC (vs := [.agg #[str z14_2.path, i64 z14_2.mode, str z14_2.data]]) (caps := [ptr f_1_0_b 0]) (files_Row_wrong_1_ct z14_2 f_1_0_b f_1_0 ey16_3) rfl rfl (fun _ _ => rfl)) ?_
  refine Zl ?_
  refine VC.keep [0, 1, 7, 8, 5, 16] rfl ?_
  refine Zcb hS (fun h16 hS => ?_) (fun h16 hS => ?_)
  ·
   refine Zq (Zr ?_)
   refine Zy ?_
   replace hS := up2 hS hK1
   cases hS
   exact Ze
  refine Zk ?_
  refine Zr ?_
  obtain ⟨b18, hS⟩ := gd_s hS
  refine Zu (q_add rfl rfl b18) ?_
  refine Zm ?_
  refine VL.rnd (x8_1 + 1) [0, 1, 7, 8] (fun _ _ h => h) (go2 hS hK1) rfl
 replace hS := up2 hS hK1
 refine Zx ?_
 refine Zq (Zr ?_)
 refine Zy ?_
 cases hS
 exact Ze
theorem slices_ContainsFunc_files_Row_files_File_ct (s_0 : Sv FilesFile) (f_1_0_b : Nat) (f_1_0 : FilesFile) {r : Bool} (hS : Sh.slices_ContainsFunc_files_Row_files_File s_0.l f_1_0 = some r) :
 Ct Tryz.prog 166 [s_0.val, .func (.func 167) #[] #[ptr f_1_0_b 0]] (s_0.ok.and (Cells f_1_0_b 0 [str f_1_0.path, i64 f_1_0.mode, str f_1_0.data])) (Ow.emp) (X := Unit) (fun _ => .bool r) (fun _ => True) (fun _ => Mo.tt) (fun _ => Ow.emp) := by
 refine Zo Tryz.func166 Tryz.ntmps166 fun c => ?_
 unfold Sh.slices_ContainsFunc_files_Row_files_File at hS
 refine Zq (Zr ?_)
 refine Zy ?_
 refine Zq (Zr ?_)
 refine Zy ?_
 obtain ⟨y7_1, ey7_1, hS⟩ := bd_s hS
 refine Zu (q_callR (slices_IndexFunc_files_Row_files_File_ct s_0 f_1_0_b f_1_0 ey7_1) rfl (fun _ _ => rfl)) ?_
 refine Zu (q_geq rfl rfl) ?_
 refine Zy ?_
 cases hS
 exact Ze
theorem files_Row_wrong_ct (r_0 : Sv FilesFile) (i_1 : Int) {r : Int} (hS : Sh.files_Row_wrong r_0.l i_1 = some r) :
 Ct Tryz.prog 85 [r_0.val, i64 i_1] r_0.ok (Ow.emp) (X := Unit) (fun _ => i64 r) (fun _ => True) (fun _ => Mo.tt) (fun _ => Ow.emp) := by
 refine Zo Tryz.func85 Tryz.ntmps85 fun c => ?_
 unfold Sh.files_Row_wrong at hS
 refine Zq (Zr ?_)
 refine Zy ?_
 refine Zq (Zr ?_)
 refine Zy ?_
 obtain ⟨z9_1, nz9_1, hz9_1, hS⟩ := at_s hS
 refine Zu (q_ixm (s := r_0) Tryz.underlying24 gsz75 rfl rfl nz9_1 (lt_of_get nz9_1 hz9_1)) ?_
 refine Zu (q_els (s := r_0) gagg75 rfl rfl hz9_1) ?_
 refine VL.alloc (cs := [str [], i64 0, str []]) (by kernel_rfl) (by decide) fun b5_2 => ?_
 refine Zv (vc := [str z9_1.path, i64 z9_1.mode, str z9_1.data]) (cs' := [str z9_1.path, i64 z9_1.mode, str z9_1.data]) rfl gsz75 ?_
 refine Zl ?_
 refine Zq (Zq (Zr ?_))
 refine Zu (q_field gfa75_0 rfl) ?_
 refine Zu (q_fe gone9 rfl rfl) ?_
 obtain ⟨y13_3, ey13_3, hS⟩ := bd_s hS
 refine Zu (q_call (path_Check_ct z9_1.path ey13_3) rfl (fun _ _ => rfl)) ?_
 refine Zy ?_
 refine VC.keep [0, 1, 5, 6] rfl ?_
 refine Zq (Zr ?_)
 refine Zm ?_
 refine Zu (q_neq rfl rfl) ?_
 refine Zl ?_
 refine Zcn hS (fun h15 hS => ?_) (fun h15 hS => ?_)
 ·
  refine Zq ?_
  cases hS
 refine Zk ?_
 refine Zq (Zb ?_)
 refine VC.cutJ (S := Bool) (fun (x17_4 : Bool) => x17_4) (fun (x17_4 : Bool) => [(0, r_0.val), (1, i64 i_1), (5, ptr b5_2 0), (17, .bool x17_4)]) (fun (x17_4 : Bool) => Mo.tt) (fun (x17_4 : Bool) => Ow.star (Blk b5_2 [str z9_1.path, i64 z9_1.mode, str z9_1.data] 75) (Ow.emp)) hS ?_ ?_
 ·
  clear hS
  intro k5 hS
  refine Zr ?_
  refine Zu (q_field gfa75_1 rfl) ?_
  refine Zu (q_fe gone3 rfl rfl) ?_
  refine Zu (q_neq rfl rfl) ?_
  refine Zm ?_
  refine Zspn 21 hS (fun h21 hS => ?_) (fun h21 hS => ?_)
  ·
   refine Zh (q_field gfa75_1 rfl) ?_
   refine Zh (q_fe gone3 rfl rfl) ?_
   refine Zh (q_neq rfl rfl) ?_
   refine Zy ?_
   refine VL.mt (!decide (z9_1.mode = 2)) [0, 1, 5, 17] (fun _ _ h => h) hS rfl
  refine VL.skips 3 [24] (by kernel_rfl) ?_
  refine Zy ?_
  refine VL.mt false [0, 1, 5, 17] (fun _ _ h => h) hS rfl
 clear hS
 rintro x17_4 hS
 refine Zcb hS (fun h17 hS => ?_) (fun h17 hS => ?_)
 ·
  refine Zq ?_
  cases hS
 refine Zq (Zr ?_)
 refine Zu (q_field gfa75_2 rfl) ?_
 refine Zu (q_fe gone9 rfl rfl) ?_
 refine Zu (q_slen Tryz.underlying9 rfl) ?_
 refine Zu (q_gtr rfl rfl) ?_
 refine Zy ?_
 refine Zc hS (fun h26 hS => ?_) (fun h26 hS => ?_)
 ·
  refine Zq ?_
  cases hS
 refine VC.cutJ (S := Bool) (fun (x31_6 : Bool) => x31_6) (fun (x31_6 : Bool) => [(0, r_0.val), (1, i64 i_1), (5, ptr b5_2 0), (31, .bool x31_6)]) (fun (x31_6 : Bool) => Mo.tt) (fun (x31_6 : Bool) => Ow.star (Blk b5_2 [str z9_1.path, i64 z9_1.mode, str z9_1.data] 75) (Ow.emp)) hS ?_ ?_
 ·
  clear hS
  intro k7 hS
  refine VC.draw ((List.range 15).map fun k => (k, true)) mixed (by kernel_rfl) (by kernel_rfl) (by kernel_rfl) ?_
  refine Zw rfl (q_move rfl) ?_
  refine Zw rfl (q_gtr rfl rfl) ?_
  refine Zw rfl (q_move rfl) ?_
  refine VD.split_dec 34 rfl (fun h34 => ?_) (fun h34 => ?_)
  ·
   replace hS := it_t h34 hS
   refine Zi rfl (q_move rfl) ?_
   refine Zi rfl (q_move rfl) ?_
   obtain ⟨b37, hS⟩ := gd_s hS
   refine Zi rfl (q_sub rfl rfl b37) ?_
   obtain ⟨z38_8, nz38_8, hz38_8, hS⟩ := at_s hS
   refine Zi rfl (q_ixm (s := r_0) Tryz.underlying24 gsz75 rfl rfl nz38_8 (lt_of_get nz38_8 hz38_8)) ?_
   refine Zi rfl (q_field gfa75_0 rfl) ?_
   refine Zi rfl (q_elf (s := r_0) gone9 rfl hz38_8 rfl) ?_
   refine Zi rfl (q_field gfa75_0 rfl) ?_
   refine Zi rfl (q_fe gone9 rfl rfl) ?_
   obtain ⟨y43_9, ey43_9, hS⟩ := bd_s hS
   refine Zi rfl (q_call (path_Compare_ct z38_8.path z9_1.path ey43_9) rfl (fun _ _ => rfl)) ?_
   refine Zi rfl (q_geq rfl rfl) ?_
   refine Zw rfl (q_pick_t rfl rfl) ?_
   refine Zw rfl (q_assign rfl) ?_
   refine VD.mt (decide (0 ≤ y43_9)) [0, 1, 5, 31] (fun _ _ h => h) hS rfl
  replace hS := it_f h34 hS
  refine Zd ?_
  refine Zd ?_
  refine Zd ?_
  refine Zd ?_
  refine Zd ?_
  refine Zd ?_
  refine Zd ?_
  refine Zd ?_
  refine Zd ?_
  refine Zd ?_
  refine Zw rfl (q_pick_f rfl rfl) ?_
  refine Zw rfl (q_assign rfl) ?_
  refine VD.mt false [0, 1, 5, 31] (fun _ _ h => h) hS rfl
 clear hS
 rintro x31_6 hS
 refine Zcb hS (fun h31 hS => ?_) (fun h31 hS => ?_)
 ·
  refine Zq ?_
  cases hS
 refine Zq (Zr ?_)
 refine Zy ?_
 obtain ⟨b49, hS⟩ := gd_s hS
 refine VL.sto Tryz.underlying24 gsz75 rfl rfl b49.1 (b49.2) (by decide) fun s49_10 hs49_10 => ?_
 replace hS := lt_to hs49_10 hS
 refine Zu (q_mkfn rfl) ?_
 obtain ⟨y51_12, ey51_12, hS⟩ := bd_s hS
 refine Zu (q_callR (slices_ContainsFunc_files_Row_files_File_ct s49_10 b5_2 z9_1 ey51_12) rfl (fun _ _ => rfl)) ?_
 refine Zy ?_
 refine Zcb hS (fun h46 hS => ?_) (fun h46 hS => ?_)
 ·
  refine Zq ?_
  cases hS
 refine Zk ?_
 refine Zq (Zr ?_)
 refine Zy ?_
 refine VC.keep [4] rfl ?_
 cases hS
 exact Ze
theorem files_Row_Check_ct (r_0 : Sv FilesFile) {r : Err} (hS : Sh.files_Row_Check r_0.l = some r) :
 Ct Tryz.prog 46 [r_0.val] r_0.ok (Ow.emp) (X := Er) (fun x => x.val) (fun x => r = x.pl) (fun x => x.ok) (fun x => Ow.emp) := by
 refine Zo Tryz.func46 Tryz.ntmps46 fun c => ?_
 unfold Sh.files_Row_Check at hS
 refine Zq (Zr ?_)
 refine Zy ?_
 refine Zq (Zq (Zr ?_))
 refine Zm ?_
 refine Zu (q_ln (s := r_0) Tryz.underlying24 rfl) ?_
 refine Zu (q_gtr rfl rfl) ?_
 refine Zl ?_
 refine Zc hS (fun h7 hS => ?_) (fun h7 hS => ?_)
 ·
  refine Zq ?_
  cases hS
 refine Zk ?_
 refine Zq (Zq (Zr ?_))
 refine Zm ?_
 refine Zu (q_ln (s := r_0) Tryz.underlying24 rfl) ?_
 refine Zy ?_
 refine Zb ?_
 refine VC.iter (S := Int) (fun (x14_1 : Int) => x14_1) (fun (x14_1 : Int) => [(0, r_0.val), (13, i64 (r_0.l.length : Int)), (14, i64 x14_1)]) (fun (x14_1 : Int) => Mo.tt) (fun (x14_1 : Int) => Ow.emp) 0 [0, 13, 14] hS rfl ?_
 clear hS
 rintro x14_1 m1 y1 hS hK1
 refine Zq (Zr ?_)
 refine Zu (q_lss rfl rfl) ?_
 refine Zl ?_
 refine Zq ?_
 refine Zc hS (fun h15 hS => ?_) (fun h15 hS => ?_)
 ·
  refine Zk ?_
  refine Zq (Zb (Zq (Zr ?_)))
  refine Zy ?_
  refine Zq (Zr ?_)
  refine Zy ?_
  obtain ⟨y19_2, ey19_2, hS⟩ := bd_s hS
  refine Zu (q_call (files_Row_wrong_ct r_0 x14_1 ey19_2) rfl (fun _ _ => rfl)) ?_
  refine Zy ?_
  refine Zq (Zr ?_)
  refine Zm ?_
  refine Zu (q_neq rfl rfl) ?_
  refine Zl ?_
  refine Zcn hS (fun h21 hS => ?_) (fun h21 hS => ?_)
  ·
   refine Zq ?_
   cases hS
  refine Zk ?_
  refine VC.keep [0, 13, 14] rfl ?_
  refine Zr ?_
  obtain ⟨b28, hS⟩ := gd_s hS
  refine Zu (q_add rfl rfl b28) ?_
  refine Zm ?_
  refine VL.rnd (x14_1 + 1) [0, 13, 14] (fun _ _ h => h) (go2 hS hK1) rfl
 replace hS := up2 hS hK1
 refine Zx ?_
 refine Zq (Zr ?_)
 refine Zy ?_
 cases hS
 exact VC.ret (fin1 (.inr rfl) rfl rfl .nil rfl rfl (by (try dsimp only); exact InM.out) (fun _ _ => trivial))
theorem repo_last_ct (err_0 : Er) {r : Err} (hS : Sh.repo_last err_0.pl = some r) :
 Ct Tryz.prog 45 [err_0.val] err_0.ok (Ow.emp) (X := Er) (fun x => x.val) (fun x => r = x.pl) (fun x => x.ok) (fun x => Ow.emp) := by
 refine Zo Tryz.func45 Tryz.ntmps45 fun c => ?_
 unfold Sh.repo_last at hS
 refine Zq (Zr ?_)
 refine Zy ?_
 refine Zq (Zr ?_)
 refine VL.alloc (cs := [i64 0]) (by kernel_rfl) (by decide) fun b3_1 => ?_
 refine Zl ?_
 refine Zq (Zq (Zr ?_))
 refine Zm ?_
 refine Zu (q_mkif Tryz.underlying166 (fun _ h => by cases h) rfl) ?_
 rcases err_0 with _ | _ | ⟨_, _, _, _⟩
 rotate_left
 ·
  exact absurd hS (by simp [Er.pl])
 ·
  exact absurd hS (by simp [Er.pl])
 dsimp only [Er.pl] at hS
 refine VL.callF (as_nil_ct _) rfl (by decide) ?_
 rintro _ _
 refine Zl ?_
 refine VC.cond_f rfl ?_
 refine Zk ?_
 refine Zq (Zr ?_)
 refine Zy ?_
 cases hS
 exact VC.ret (fin1 (.inr rfl) rfl rfl (Er.nil) rfl rfl (by (try dsimp only); exact InM.out) (fun _ _ => trivial))
theorem slices_Clone_files_Row_files_File_ct (s_0 : Sv FilesFile) {r : List FilesFile} (hS : Sh.slices_Clone_files_Row_files_File s_0.l = some r) :
 Ct Tryz.prog 88 [s_0.val] s_0.ok (Ow.emp) (X := Sv FilesFile) (fun x => x.val) (fun x => r = x.l) (fun x => Mo.tt) (fun x => Sv.own x 75) := by
 refine Zo Tryz.func88 Tryz.ntmps88 fun c => ?_
 unfold Sh.slices_Clone_files_Row_files_File at hS
 refine Zq (Zr ?_)
 refine Zy ?_
 refine Zq (Zq (Zr ?_))
 refine Zm ?_
 refine Zu (q_slnil (s := s_0) Tryz.underlying24 rfl) ?_
 refine Zl ?_
 refine VC.slnil (s := s_0) rfl (fun h4 => ?_) ?_
 ·
  have hS : (some []) = some r := by
    simp [lt, gd, h4] at hS ⊢
    try exact hS
  refine Zq (Zr ?_)
  refine Zy ?_
  refine VC.nilO (⟨none, 0, []⟩ : Sv FilesFile) 75 ⟨rfl, rfl⟩ ?_
  cases hS
  exact VC.ret (fin1 (.inr rfl) rfl rfl ⟨none, 0, []⟩ rfl rfl (by (try dsimp only); exact InM.out) (by (try dsimp only); exact EntO.out))
 refine Zk ?_
 refine Zq (Zr ?_)
 refine VL.lit0 (α := FilesFile) Tryz.underlying24 ghas75 (by decide) (fun s5_1 hs5_1 hcs5_1 => ?_)
 refine VL.nilO s5_1 75 ⟨hcs5_1, hs5_1⟩ ?_
 replace hS := lt_to hs5_1 hS
 refine Zm ?_
 obtain ⟨b7, hS⟩ := gd_s hS
 refine VL.app (s := s5_1) (r := s_0) Tryz.underlying24 gapp75 (by decide) rfl Fo.out (ap1 b7) (ap2 b7 (by decide)) (by decide) (fun s7_3 hs7_3 => ?_)
 replace hS := lt_to hs7_3 hS
 refine Zy ?_
 cases hS
 exact VC.ret (fin1 (.inr rfl) rfl rfl s7_3 rfl rfl (by (try dsimp only); exact InM.out) (by (try dsimp only); exact EntO.out))
theorem files_Row_Clear_1_ct (f_0 : FilesFile) (a_1_b : Nat) (a_1 : Str) {r : Bool} (hS : Sh.files_Row_Clear_1 f_0 a_1 = some r) :
 Ct Tryz.prog 89 [.agg #[str f_0.path, i64 f_0.mode, str f_0.data], ptr a_1_b 0] (Cells a_1_b 0 [str a_1]) (Ow.emp) (X := Unit) (fun _ => .bool r) (fun _ => True) (fun _ => Mo.tt) (fun _ => Ow.emp) := by
 refine Zo Tryz.func89 Tryz.ntmps89 fun c => ?_
 unfold Sh.files_Row_Clear_1 at hS
 refine Zq (Zr ?_)
 refine VL.box (cs := [str f_0.path, i64 f_0.mode, str f_0.data]) rfl rfl (by decide) fun b2_1 => ?_
 refine Zy ?_
 refine Zq (Zr ?_)
 refine Zu (q_field gfa75_0 rfl) ?_
 refine Zu (q_fe gone9 rfl rfl) ?_
 refine Zu (q_fm gone9 rfl rfl) ?_
 obtain ⟨y7_2, ey7_2, hS⟩ := bd_s hS
 refine Zu (q_call (path_Clash_ct f_0.path a_1 ey7_2) rfl (fun _ _ => rfl)) ?_
 refine Zy ?_
 cases hS
 exact Ze
theorem slices_IndexFunc_files_Row_files_File_v2_ct (s_0 : Sv FilesFile) (f_1_0_b : Nat) (f_1_0 : Str) {r : Int} (hS : Sh.slices_IndexFunc_files_Row_files_File_v2 s_0.l f_1_0 = some r) :
 Ct Tryz.prog 168 [s_0.val, .func (.func 89) #[] #[ptr f_1_0_b 0]] (s_0.ok.and (Cells f_1_0_b 0 [str f_1_0])) (Ow.emp) (X := Unit) (fun _ => i64 r) (fun _ => True) (fun _ => Mo.tt) (fun _ => Ow.emp) := by
 refine Zo Tryz.func168 Tryz.ntmps168 fun c => ?_
 unfold Sh.slices_IndexFunc_files_Row_files_File_v2 at hS
 refine Zq (Zr ?_)
 refine Zy ?_
 refine Zq (Zq (Zr ?_))
 refine Zm ?_
 refine Zu (q_ln (s := s_0) Tryz.underlying24 rfl) ?_
 refine Zy ?_
 refine Zb ?_
 refine VC.iter (S := Int) (fun (x8_1 : Int) => x8_1) (fun (x8_1 : Int) => [(0, s_0.val), (1, .func (.func 89) #[] #[ptr f_1_0_b 0]), (7, i64 (s_0.l.length : Int)), (8, i64 x8_1)]) (fun (x8_1 : Int) => Mo.tt) (fun (x8_1 : Int) => Ow.emp) 0 [0, 1, 7, 8] hS rfl ?_
 clear hS
 rintro x8_1 m1 y1 hS hK1
 refine Zq (Zr ?_)
 refine Zu (q_lss rfl rfl) ?_
 refine Zl ?_
 refine Zq ?_
 refine Zc hS (fun h9 hS => ?_) (fun h9 hS => ?_)
 ·
  refine Zk ?_
  refine Zq (Zb (Zq (Zr ?_)))
  refine Zy ?_
  refine Zq (Zr ?_)
  refine Zy ?_
  obtain ⟨z14_2, nz14_2, hz14_2, hS⟩ := at_s hS
  refine Zu (q_ixm (s := s_0) Tryz.underlying24 gsz75 rfl rfl nz14_2 (lt_of_get nz14_2 hz14_2)) ?_
  refine Zu (q_els (s := s_0) gagg75 rfl rfl hz14_2) ?_
  obtain ⟨y16_3, ey16_3, hS⟩ := bd_s hS
  refine Zu (q_callVC (vs := [.agg #[str z14_2.path, i64 z14_2.mode, str z14_2.data]]) (caps := [ptr f_1_0_b 0]) (files_Row_Clear_1_ct z14_2 f_1_0_b f_1_0 ey16_3) rfl rfl (fun _ _ => rfl)) ?_
  refine Zl ?_
  refine VC.keep [0, 1, 7, 8, 5, 16] rfl ?_
  refine Zcb hS (fun h16 hS => ?_) (fun h16 hS => ?_)
  ·
   refine Zq (Zr ?_)
   refine Zy ?_
   replace hS := up2 hS hK1
   cases hS
   exact Ze
  refine Zk ?_
  refine Zr ?_
  obtain ⟨b18, hS⟩ := gd_s hS
  refine Zu (q_add rfl rfl b18) ?_
  refine Zm ?_
  refine VL.rnd (x8_1 + 1) [0, 1, 7, 8] (fun _ _ h => h) (go2 hS hK1) rfl
 replace hS := up2 hS hK1
 refine Zx ?_
 refine Zq (Zr ?_)
 refine Zy ?_
 cases hS
 exact Ze
theorem slices_DeleteFunc_files_Row_files_File_ct (s_0 : Sv FilesFile) (del_1_0_b : Nat) (del_1_0 : Str) {r : List FilesFile} (hS : Sh.slices_DeleteFunc_files_Row_files_File s_0.l del_1_0 = some r) :
 Ct Tryz.prog 87 [s_0.val, .func (.func 89) #[] #[ptr del_1_0_b 0]] Mo.tt (Ow.star (Sv.own s_0 75) (Blk del_1_0_b [str del_1_0] 9)) (X := Sv FilesFile) (fun x => x.val) (fun x => r = x.l) (fun x => Mo.tt) (fun x => Ow.star (Sv.own x 75) (Blk del_1_0_b [str del_1_0] 9)) := by
 refine Zo Tryz.func87 Tryz.ntmps87 fun c => ?_
 unfold Sh.slices_DeleteFunc_files_Row_files_File at hS
 refine Zq (Zr ?_)
 refine Zy ?_
 refine Zq (Zr ?_)
 refine Zy ?_
 obtain ⟨y10_1, ey10_1, hS⟩ := bd_s hS
 refine Zu (q_callR (slices_IndexFunc_files_Row_files_File_v2_ct s_0 del_1_0_b del_1_0 ey10_1) rfl (fun _ _ => rfl)) ?_
 refine Zy ?_
 refine Zq (Zq (Zr ?_))
 refine Zm ?_
 refine Zu (q_eql rfl rfl) ?_
 refine Zl ?_
 refine Zc hS (fun h12 hS => ?_) (fun h12 hS => ?_)
 ·
  refine Zq (Zr ?_)
  refine Zy ?_
  cases hS
  exact VC.ret (fin1 (.inr rfl) rfl rfl s_0 rfl rfl (by (try dsimp only); exact InM.out) (by (try dsimp only); exact EntO.out))
 refine Zk ?_
 refine Zq (Zq (Zr ?_))
 refine Zm ?_
 obtain ⟨b15, hS⟩ := gd_s hS
 refine Zu (q_add rfl rfl b15) ?_
 refine Zy ?_
 refine VC.keep [0, 1, 5, 6] rfl ?_
 refine Zb ?_
 refine VC.iter (S := Sv FilesFile × Int × Int) (fun sg => (sg.1.l, sg.2.1, sg.2.2)) (fun sg => [(0, sg.1.val), (1, .func (.func 89) #[] #[ptr del_1_0_b 0]), (5, i64 sg.2.1), (6, i64 sg.2.2)]) (fun sg => Mo.tt) (fun sg => Ow.star (Blk del_1_0_b [str del_1_0] 9) (Ow.star (Sv.own sg.1 75) (Ow.emp))) (s_0, y10_1, (y10_1 + 1)) [0, 1, 5, 6] hS rfl ?_
 clear hS
 rintro ⟨s0_2, i5_3, j6_4⟩ m1 y1 hS hK1
 refine Zq (Zq (Zr ?_))
 refine Zy ?_
 refine Zu (q_ln (s := s0_2) Tryz.underlying24 rfl) ?_
 refine Zu (q_lss rfl rfl) ?_
 refine Zl ?_
 refine Zc hS (fun h19 hS => ?_) (fun h19 hS => ?_)
 ·
  refine Zk ?_
  refine VC.cutJ (S := Sv FilesFile × Int) (fun sg => (sg.1.l, sg.2)) (fun sg => [(0, sg.1.val), (1, .func (.func 89) #[] #[ptr del_1_0_b 0]), (5, i64 sg.2), (6, i64 j6_4)]) (fun sg => Mo.tt) (fun sg => Ow.star (Blk del_1_0_b [str del_1_0] 9) (Ow.star (Sv.own sg.1 75) (Ow.emp))) hS ?_ ?_
  ·
   clear hS
   intro k7 hS
   refine Zb (Zq (Zr ?_))
   refine Zy ?_
   obtain ⟨z24_8, nz24_8, hz24_8, hS⟩ := at_s hS
   refine Zu (q_ixo (s := s0_2) Tryz.underlying24 gsz75 rfl rfl nz24_8 (lt_of_get nz24_8 hz24_8)) ?_
   refine Zu (q_elso (s := s0_2) gagg75 rfl rfl hz24_8) ?_
   refine VL.alloc (cs := [str [], i64 0, str []]) (by kernel_rfl) (by decide) fun b7_9 => ?_
   refine Zv (vc := [str z24_8.path, i64 z24_8.mode, str z24_8.data]) (cs' := [str z24_8.path, i64 z24_8.mode, str z24_8.data]) rfl gsz75 ?_
   refine Zl ?_
   refine VC.keep [0, 1, 5, 6, 7] rfl ?_
   refine Zq (Zr ?_)
   refine Zm ?_
   refine Zu (q_fes gagg75 rfl rfl) ?_
   obtain ⟨y28_10, ey28_10, hS⟩ := bd_s hS
   refine Zu (q_callVC (vs := [.agg #[str z24_8.path, i64 z24_8.mode, str z24_8.data]]) (caps := [ptr del_1_0_b 0]) (files_Row_Clear_1_ct z24_8 del_1_0_b del_1_0 ey28_10) rfl rfl (fun _ _ => rfl)) ?_
   refine Zu (q_not rfl) ?_
   refine Zl ?_
   refine Zcb hS (fun h29 hS => ?_) (fun h29 hS => ?_)
   ·
    refine Zq (Zr ?_)
    refine Zy ?_
    refine Zu (q_fes gagg75 rfl rfl) ?_
    obtain ⟨z33_11, nz33_11, hz33_11, hS⟩ := at_s hS
    refine Zu (q_ixo (s := s0_2) Tryz.underlying24 gsz75 rfl rfl nz33_11 (lt_of_get nz33_11 hz33_11)) ?_
    refine VL.storeE (s := s0_2) (T := 75) (j := 0) (vc := [str z24_8.path, i64 z24_8.mode, str z24_8.data]) (⟨z24_8.path, z24_8.mode, z24_8.data⟩ : FilesFile) (by decide) rfl rfl hz33_11 rfl gsz75 rfl rfl (Nat.le_of_ble_eq_true rfl) rfl (fun w12 hw12 haw12 hcw12 hvw12 hbw12 how12 => ?_)
    rw [← hvw12]
    replace hS := lt_to hw12 hS
    refine Zl ?_
    refine VC.keep [0, 1, 5, 6] rfl ?_
    refine Zr ?_
    refine Zm ?_
    obtain ⟨b35, hS⟩ := gd_s hS
    refine Zu (q_add rfl rfl b35) ?_
    refine Za ?_
    refine VL.mt (w12, (i5_3 + 1)) [0, 1, 5, 6] (fun _ _ h => h) hS rfl
   refine VC.skip_mt (s0_2, i5_3) [0, 1, 5, 6] (fun _ _ h => h) hS rfl
  clear hS
  rintro ⟨s0_5, i5_6⟩ hS
  refine Zr ?_
  refine Zm ?_
  obtain ⟨b21, hS⟩ := gd_s hS
  refine Zu (q_add rfl rfl b21) ?_
  refine Za ?_
  refine VL.rnd (s0_5, i5_6, (j6_4 + 1)) [0, 1, 5, 6] (fun _ _ h => h) (go2 hS hK1) rfl
 replace hS := up2 hS hK1
 refine Zx ?_
 refine Zq (Zr ?_)
 refine Zy ?_
 obtain ⟨b38, hS⟩ := gd_s hS
 refine VL.fits (s := s0_2) (e := 75) Fo.out fun f38_14 => ?_
 refine Zu (q_subv (s := s0_2) Tryz.underlying24 gsz75 rfl rfl b38.1 b38.2 f38_14) ?_
 refine VL.clrN (s := s0_2) (i := i5_3.toNat) (.agg #[str [], i64 0, str []]) Tryz.underlying24 gzv75 rfl rfl rfl (by have := b38; dsimp only at this ⊢; omega) Fo.out fun ss3_15 hss3_15 vss3_15 => ?_
 replace hS := lt_to hss3_15 hS
 refine Zl ?_
 refine VC.keep [0, 5] rfl ?_
 refine Zq (Zr ?_)
 refine Zy ?_
 refine Zu (q_cutO (s := s0_2) (q := ss3_15) Tryz.underlying24 gsz75 rfl rfl b38.1 b38.2 f38_14 vss3_15) ?_
 refine Zy ?_
 cases hS
 exact VC.ret (fin1 (.inr rfl) rfl rfl ss3_15 rfl rfl (by (try dsimp only); exact InM.out) (by (try dsimp only); exact EntO.out))
theorem slices_Clip_files_Row_files_File_ct (s_0 : Sv FilesFile) {r : List FilesFile} (hS : Sh.slices_Clip_files_Row_files_File s_0.l = some r) :
 Ct Tryz.prog 86 [s_0.val] s_0.ok (Ow.emp) (X := Sv FilesFile) (fun x => x.val) (fun x => r = x.l) (fun x => x.ok) (fun x => Ow.emp) := by
 refine Zo Tryz.func86 Tryz.ntmps86 fun c => ?_
 unfold Sh.slices_Clip_files_Row_files_File at hS
 refine Zq (Zr ?_)
 refine Zy ?_
 refine Zq (Zr ?_)
 refine Zy ?_
 refine Zu (q_ln (s := s_0) Tryz.underlying24 rfl) ?_
 refine Zm ?_
 refine Zu (q_ln (s := s_0) Tryz.underlying24 rfl) ?_
 obtain ⟨b8, hS⟩ := gd_s hS
 refine VL.stom Tryz.underlying24 gsz75 rfl rfl rfl b8.1 (b8.2) (by decide) fun s8_1 hs8_1 => ?_
 replace hS := lt_to hs8_1 hS
 refine Zy ?_
 cases hS
 exact VC.ret (fin1 (.inr rfl) rfl rfl s8_1 rfl rfl (by (try dsimp only); exact InM.out) (fun _ _ => trivial))
theorem files_Row_Clear_ct (r_0 : Sv FilesFile) (p_1 : Str) {r : List FilesFile} (hS : Sh.files_Row_Clear r_0.l p_1 = some r) :
 Ct Tryz.prog 47 [r_0.val, str p_1] r_0.ok (Ow.emp) (X := Sv FilesFile) (fun x => x.val) (fun x => r = x.l) (fun x => x.ok) (fun x => Ow.emp) := by
 refine Zo Tryz.func47 Tryz.ntmps47 fun c => ?_
 unfold Sh.files_Row_Clear at hS
 refine Zq (Zr ?_)
 refine VL.box (cs := [str p_1]) rfl rfl (by decide) fun b3_1 => ?_
 refine Zy ?_
 refine Zq (Zr ?_)
 refine Zm ?_
 obtain ⟨y6_2, ey6_2, hS⟩ := bd_s hS
 refine VL.callO (slices_Clone_files_Row_files_File_ct r_0 ey6_2) rfl (by decide) ?_
 rintro q6_2_0 rfl
 try dsimp only
 refine Zu (q_mkfn rfl) ?_
 obtain ⟨y8_3, ey8_3, hS⟩ := bd_s hS
 refine VL.callO (slices_DeleteFunc_files_Row_files_File_ct q6_2_0 b3_1 p_1 ey8_3) rfl (by decide) ?_
 rintro q8_3_0 rfl
 try dsimp only
 refine VL.shut q8_3_0 75 (fun _ _ _ _ => trivial) ?_
 obtain ⟨y9_4, ey9_4, hS⟩ := bd_s hS
 refine VL.callF (slices_Clip_files_Row_files_File_ct q8_3_0 ey9_4) rfl (by decide) ?_
 rintro q9_4_0 rfl
 try dsimp only
 refine Zy ?_
 cases hS
 exact VC.ret (fin1 (.inr rfl) rfl rfl q9_4_0 rfl rfl (by (try dsimp only); exact InM.out) (fun _ _ => trivial))
theorem codec_Enc_Int_ct (e_0_b : Nat) (e_0 : StateWriter) (l_1 : Sv Int) {r : StateWriterP} (hS : Sh.codec_Enc_Int e_0.pl l_1.l = some r) :
 Ct Tryz.prog 142 [ptr e_0_b 0, l_1.val] l_1.ok (Ow.star (Sv.own e_0.enc_b 5) (Blk e_0_b [e_0.enc_b.val] 143)) (X := StateWriter) (fun x => .tuple #[]) (fun x => r = x.pl) (fun x => Mo.tt) (fun x => Ow.star (Blk e_0_b [x.enc_b.val] 143) (Sv.own x.enc_b 5)) := by
 refine Zo Tryz.func142 Tryz.ntmps142 fun c => ?_
 unfold Sh.codec_Enc_Int at hS
 refine Zq (Zr ?_)
 refine Zm ?_
 refine Zu (q_ln (s := l_1) Tryz.underlying56 rfl) ?_
 refine Zy ?_
 refine Zb ?_
 refine VC.iter (S := Int × Sv UInt8) (fun sg => (sg.1, sg.2.l)) (fun sg => [(0, ptr e_0_b 0), (7, l_1.val), (8, i64 (l_1.l.length : Int)), (9, i64 sg.1)]) (fun sg => Mo.tt) (fun sg => Ow.star (Blk e_0_b [sg.2.val] 143) (Ow.star (Sv.own sg.2 5) (Ow.emp))) (0, e_0.enc_b) [0, 7, 8, 9] hS rfl ?_
 clear hS
 rintro ⟨x9_1, c0_2⟩ m1 y1 hS hK1
 refine Zq (Zr ?_)
 refine Zu (q_lss rfl rfl) ?_
 refine Zl ?_
 refine Zq ?_
 refine Zc hS (fun h10 hS => ?_) (fun h10 hS => ?_)
 ·
  refine Zk ?_
  refine Zq (Zb (Zq (Zr ?_)))
  obtain ⟨z11_3, nz11_3, hz11_3, hS⟩ := at_s hS
  refine Zu (q_ixm (s := l_1) Tryz.underlying56 gsz3 rfl rfl nz11_3 (lt_of_get nz11_3 hz11_3)) ?_
  refine Zu (q_el (s := l_1) gone3 rfl hz11_3 rfl) ?_
  refine Zy ?_
  refine Zq (Zr ?_)
  refine Zm ?_
  refine Zu (q_convW Tryz.underlying3 Tryz.underlying297 rfl) ?_
  refine Zu (q_shl rfl rfl (by decide)) ?_
  refine Zm ?_
  refine Zu (q_shr rfl rfl (by decide)) ?_
  refine Zu (q_convW Tryz.underlying2 Tryz.underlying297 rfl) ?_
  refine Zu (q_xor rfl rfl) ?_
  refine Zy ?_
  refine VC.keep [0, 7, 8, 9, 6] rfl ?_
  refine Zq (Zb ?_)
  refine VC.iter (S := Unit) (fun (_ : Unit) => ()) (fun (_ : Unit) => [(0, ptr e_0_b 0), (6, .int .u64 (bXor .u64 (sHl .u64 (IntKind.wrap .u64 z11_3) 1) (IntKind.wrap .u64 (sHr .i64 z11_3 63)))), (7, l_1.val), (8, i64 (l_1.l.length : Int)), (9, i64 x9_1)]) (fun (_ : Unit) => Mo.tt) (fun (_ : Unit) => Ow.star (Blk e_0_b [c0_2.val] 143) (Ow.star (Sv.own c0_2 5) (Ow.emp))) () [0, 6, 7, 8, 9] hS rfl ?_
  clear hS
  rintro _ m2 y2 hS hK2
  refine Zq (Zq (Zr ?_))
  refine Zm ?_
  refine Zu (q_geq rfl rfl) ?_
  refine Zl ?_
  refine Zc hS (fun h21 hS => ?_) (fun h21 hS => ?_)
  ·
   refine Zk ?_
   refine Zb (Zq ?_)
   cases hS
  replace hS := up2 hS hK2
  refine Zx ?_
  refine Zr ?_
  refine Zy ?_
  refine Zu (q_nilCheck rfl) ?_
  refine Zu (q_field gfa141_0 rfl) ?_
  refine Zu (q_fe gone64 rfl rfl) ?_
  refine Zm ?_
  refine Zu (q_convW Tryz.underlying297 Tryz.underlying5 rfl) ?_
  obtain ⟨b44_43, hS⟩ := gd_s hS
  obtain ⟨u44_5, eu44_5, hS⟩ := lt_s hS
  refine VL.setv 43 rfl (congrArg (Value.int .u8) (u8_z b44_43 eu44_5)) ?_
  refine VL.lit (α := UInt8) (xs := [.tmp 43]) (vs := [.int .u8 (u44_5.toNat : Int)]) [u44_5] Tryz.underlying64 glit5 (by decide) rfl rfl rfl rfl (by decide) (fun _ _ _ _ => trivial) (by decide) (fun s44_4 hs44_4 => ?_) (by decide)
  replace hS := lt_to hs44_4 hS
  obtain ⟨b45, hS⟩ := gd_s hS
  refine VL.app (s := c0_2) (r := s44_4) Tryz.underlying64 gapp5 (by decide) rfl Fo.out (ap1 b45) (ap2 b45 (by decide)) (by decide) (fun s45_7 hs45_7 => ?_)
  replace hS := lt_to hs45_7 hS
  refine Zu (q_nilCheck rfl) ?_
  refine Zu (q_field gfa141_0 rfl) ?_
  refine Zv (vc := [s45_7.val]) (cs' := [s45_7.val]) rfl gsz64 ?_
  refine Zl ?_
  refine VC.keep [0, 7, 8, 9] rfl ?_
  refine Zr ?_
  obtain ⟨b48, hS⟩ := gd_s hS
  refine Zu (q_add rfl rfl b48) ?_
  refine Zm ?_
  refine VL.rnd ((x9_1 + 1), s45_7) [0, 7, 8, 9] (fun _ _ h => h) (go2 hS hK1) rfl
 replace hS := up2 hS hK1
 cases hS
 exact VC.exit (fin0 (.inl rfl) rfl ⟨c0_2⟩ rfl rfl (by (try dsimp only); exact InM.out) (by (try dsimp only); exact EntO.out))
theorem codec_Enc_Text_ct (e_0_b : Nat) (e_0 : StateWriter) (l_1 : Sv Str) {r : StateWriterP} (hS : Sh.codec_Enc_Text e_0.pl l_1.l = some r) :
 Ct Tryz.prog 143 [ptr e_0_b 0, l_1.val] l_1.ok (Ow.star (Sv.own e_0.enc_b 5) (Blk e_0_b [e_0.enc_b.val] 143)) (X := StateWriter) (fun x => .tuple #[]) (fun x => r = x.pl) (fun x => Mo.tt) (fun x => Ow.star (Blk e_0_b [x.enc_b.val] 143) (Sv.own x.enc_b 5)) := by
 refine Zo Tryz.func143 Tryz.ntmps143 fun c => ?_
 unfold Sh.codec_Enc_Text at hS
 refine Zq (Zr ?_)
 refine Zm ?_
 refine Zu (q_ln (s := l_1) Tryz.underlying37 rfl) ?_
 refine Zy ?_
 refine Zb ?_
 refine VC.iter (S := Int × Sv UInt8) (fun sg => (sg.1, sg.2.l)) (fun sg => [(0, ptr e_0_b 0), (6, l_1.val), (7, i64 (l_1.l.length : Int)), (8, i64 sg.1)]) (fun sg => Mo.tt) (fun sg => Ow.star (Blk e_0_b [sg.2.val] 143) (Ow.star (Sv.own sg.2 5) (Ow.emp))) (0, e_0.enc_b) [0, 6, 7, 8] hS rfl ?_
 clear hS
 rintro ⟨x8_1, c0_2⟩ m1 y1 hS hK1
 refine Zq (Zr ?_)
 refine Zu (q_lss rfl rfl) ?_
 refine Zl ?_
 refine Zq ?_
 refine Zc hS (fun h9 hS => ?_) (fun h9 hS => ?_)
 ·
  refine Zk ?_
  refine Zq (Zb (Zq (Zr ?_)))
  obtain ⟨z10_3, nz10_3, hz10_3, hS⟩ := at_s hS
  refine Zu (q_ixm (s := l_1) Tryz.underlying37 gsz9 rfl rfl nz10_3 (lt_of_get nz10_3 hz10_3)) ?_
  refine Zu (q_el (s := l_1) gone9 rfl hz10_3 rfl) ?_
  refine Zy ?_
  refine Zq (Zr ?_)
  refine Zy ?_
  refine Zu (q_slen Tryz.underlying9 rfl) ?_
  refine VL.lit (α := Int) (xs := [.tmp 14]) (vs := [i64 (z10_3.length : Int)]) [(z10_3.length : Int)] Tryz.underlying56 glit3 (by decide) rfl rfl rfl rfl (by decide) (fun _ _ _ _ => trivial) (by decide) (fun s15_4 hs15_4 => ?_) (by decide)
  replace hS := lt_to hs15_4 hS
  obtain ⟨y16_6, ey16_6, hS⟩ := bd_s hS
  refine VL.callO (codec_Enc_Int_ct e_0_b (⟨c0_2⟩ : StateWriter) s15_4 ey16_6) rfl (by decide) ?_
  rintro q16_6_0 rfl
  try dsimp only
  refine Zl ?_
  refine VC.keep [0, 6, 7, 8, 5] rfl ?_
  refine Zr ?_
  refine Zy ?_
  refine Zu (q_nilCheck rfl) ?_
  refine Zu (q_field gfa141_0 rfl) ?_
  refine Zu (q_fe gone64 rfl rfl) ?_
  refine Zm ?_
  obtain ⟨b23, hS⟩ := gd_s hS
  refine VL.appS (s := q16_6_0.enc_b) (r := z10_3) Tryz.underlying64 Tryz.underlying9 gapb5 rfl Fo.out b23 (by decide) fun s23_7 hs23_7 _ => ?_
  replace hS := lt_to hs23_7 hS
  refine Zu (q_nilCheck rfl) ?_
  refine Zu (q_field gfa141_0 rfl) ?_
  refine Zv (vc := [s23_7.val]) (cs' := [s23_7.val]) rfl gsz64 ?_
  refine Zl ?_
  refine VC.keep [0, 6, 7, 8] rfl ?_
  refine Zr ?_
  obtain ⟨b26, hS⟩ := gd_s hS
  refine Zu (q_add rfl rfl b26) ?_
  refine Zm ?_
  refine VL.rnd ((x8_1 + 1), s23_7) [0, 6, 7, 8] (fun _ _ h => h) (go2 hS hK1) rfl
 replace hS := up2 hS hK1
 cases hS
 exact VC.exit (fin0 (.inl rfl) rfl ⟨c0_2⟩ rfl rfl (by (try dsimp only); exact InM.out) (by (try dsimp only); exact EntO.out))
theorem state_writer_row_ct (w_0_b : Nat) (w_0 : StateWriter) (r_1 : Sv FilesFile) {r : StateWriterP} (hS : Sh.state_writer_row w_0.pl r_1.l = some r) :
 Ct Tryz.prog 140 [ptr w_0_b 0, r_1.val] r_1.ok (Ow.star (Sv.own w_0.enc_b 5) (Blk w_0_b [w_0.enc_b.val] 143)) (X := StateWriter) (fun x => .tuple #[]) (fun x => r = x.pl) (fun x => Mo.tt) (fun x => Ow.star (Blk w_0_b [x.enc_b.val] 143) (Sv.own x.enc_b 5)) := by
 refine Zo Tryz.func140 Tryz.ntmps140 fun c => ?_
 unfold Sh.state_writer_row at hS
 refine Zq (Zr ?_)
 refine Zm ?_
 refine Zu (q_nilCheck rfl) ?_
 refine Zu (q_field gfa143_0 rfl) ?_
 refine Zm ?_
 refine Zu (q_ln (s := r_1) Tryz.underlying24 rfl) ?_
 refine VL.lit (α := Int) (xs := [.tmp 10]) (vs := [i64 (r_1.l.length : Int)]) [(r_1.l.length : Int)] Tryz.underlying56 glit3 (by decide) rfl rfl rfl rfl (by decide) (fun _ _ _ _ => trivial) (by decide) (fun s11_1 hs11_1 => ?_) (by decide)
 replace hS := lt_to hs11_1 hS
 obtain ⟨y12_3, ey12_3, hS⟩ := bd_s hS
 refine VL.callO (codec_Enc_Int_ct w_0_b w_0 s11_1 ey12_3) rfl (by decide) ?_
 rintro q12_3_0 rfl
 try dsimp only
 refine Zl ?_
 refine Zq (Zr ?_)
 refine Zm ?_
 refine Zu (q_ln (s := r_1) Tryz.underlying24 rfl) ?_
 refine Zy ?_
 refine VC.keep [0, 13, 14, 15] rfl ?_
 refine Zb ?_
 refine VC.iter (S := Int × Sv UInt8) (fun sg => (sg.1, sg.2.l)) (fun sg => [(0, ptr w_0_b 0), (13, r_1.val), (14, i64 (r_1.l.length : Int)), (15, i64 sg.1)]) (fun sg => Mo.tt) (fun sg => Ow.star (Blk w_0_b [sg.2.val] 143) (Ow.star (Sv.own sg.2 5) (Ow.emp))) (0, q12_3_0.enc_b) [0, 13, 14, 15] hS rfl ?_
 clear hS
 rintro ⟨x15_4, c0_5⟩ m1 y1 hS hK1
 refine Zq (Zr ?_)
 refine Zu (q_lss rfl rfl) ?_
 refine Zl ?_
 refine Zq ?_
 refine Zc hS (fun h16 hS => ?_) (fun h16 hS => ?_)
 ·
  refine Zk ?_
  refine Zq (Zb (Zq (Zr ?_)))
  obtain ⟨z17_6, nz17_6, hz17_6, hS⟩ := at_s hS
  refine Zu (q_ixm (s := r_1) Tryz.underlying24 gsz75 rfl rfl nz17_6 (lt_of_get nz17_6 hz17_6)) ?_
  refine Zu (q_els (s := r_1) gagg75 rfl rfl hz17_6) ?_
  refine VL.alloc (cs := [str [], i64 0, str []]) (by kernel_rfl) (by decide) fun b5_7 => ?_
  refine Zv (vc := [str z17_6.path, i64 z17_6.mode, str z17_6.data]) (cs' := [str z17_6.path, i64 z17_6.mode, str z17_6.data]) rfl gsz75 ?_
  refine Zl ?_
  refine Zq ?_
  refine VC.draw [(0, true), (1, true), (2, true), (3, true), (4, true), (5, false), (6, false)] mixed (by kernel_rfl) (by kernel_rfl) (by kernel_rfl) ?_
  refine Zw rfl (q_move rfl) ?_
  refine Zw rfl (q_nilCheck rfl) ?_
  refine Zw rfl (q_field gfa143_0 rfl) ?_
  refine Zw rfl (q_field gfa75_0 rfl) ?_
  refine Zw rfl (q_fe gone9 rfl rfl) ?_
  refine VD.one rfl ?_
  refine VL.lit (α := Str) (xs := [.tmp 23]) (vs := [str z17_6.path]) [z17_6.path] Tryz.underlying37 glit9 (by decide) rfl rfl rfl rfl (by decide) (fun _ _ _ _ => trivial) (by decide) (fun s24_8 hs24_8 => ?_) (by decide)
  replace hS := lt_to hs24_8 hS
  refine VL.back (D' := [(2, ptr w_0_b 0), (1, ptr w_0_b 0)]) (by kernel_rfl) (Pend.cons rfl (q_field gfa143_0 rfl) (Pend.cons rfl (q_nilCheck rfl) (Pend.nil))) ?_
  refine VD.one rfl ?_
  obtain ⟨y25_10, ey25_10, hS⟩ := bd_s hS
  refine VL.callO (codec_Enc_Text_ct w_0_b (⟨c0_5⟩ : StateWriter) s24_8 ey25_10) rfl (by decide) ?_
  rintro q25_10_0 rfl
  try dsimp only
  refine VL.back (D' := []) (by kernel_rfl) (Pend.nil) ?_
  refine VD.to (fun _ _ h => h) ?_
  refine VC.keep [0, 13, 14, 15, 5] rfl ?_
  refine Zq ?_
  refine VC.draw [(0, true), (1, true), (2, true), (3, true), (4, true), (5, false), (6, false)] mixed (by kernel_rfl) (by kernel_rfl) (by kernel_rfl) ?_
  refine Zw rfl (q_move rfl) ?_
  refine Zw rfl (q_nilCheck rfl) ?_
  refine Zw rfl (q_field gfa143_0 rfl) ?_
  refine Zw rfl (q_field gfa75_1 rfl) ?_
  refine Zw rfl (q_fe gone3 rfl rfl) ?_
  refine VD.one rfl ?_
  refine VL.lit (α := Int) (xs := [.tmp 30]) (vs := [i64 z17_6.mode]) [z17_6.mode] Tryz.underlying56 glit3 (by decide) rfl rfl rfl rfl (by decide) (fun _ _ _ _ => trivial) (by decide) (fun s31_11 hs31_11 => ?_) (by decide)
  replace hS := lt_to hs31_11 hS
  refine VL.back (D' := [(2, ptr w_0_b 0), (1, ptr w_0_b 0)]) (by kernel_rfl) (Pend.cons rfl (q_field gfa143_0 rfl) (Pend.cons rfl (q_nilCheck rfl) (Pend.nil))) ?_
  refine VD.one rfl ?_
  obtain ⟨y32_13, ey32_13, hS⟩ := bd_s hS
  refine VL.callO (codec_Enc_Int_ct w_0_b q25_10_0 s31_11 ey32_13) rfl (by decide) ?_
  rintro q32_13_0 rfl
  try dsimp only
  refine VL.back (D' := []) (by kernel_rfl) (Pend.nil) ?_
  refine VD.to (fun _ _ h => h) ?_
  refine VC.keep [0, 13, 14, 15, 5] rfl ?_
  refine VC.draw [(0, true), (1, true), (2, true), (3, true), (4, true), (5, false), (6, false)] mixed (by kernel_rfl) (by kernel_rfl) (by kernel_rfl) ?_
  refine Zw rfl (q_move rfl) ?_
  refine Zw rfl (q_nilCheck rfl) ?_
  refine Zw rfl (q_field gfa143_0 rfl) ?_
  refine Zw rfl (q_field gfa75_2 rfl) ?_
  refine Zw rfl (q_fe gone9 rfl rfl) ?_
  refine VD.one rfl ?_
  refine VL.lit (α := Str) (xs := [.tmp 37]) (vs := [str z17_6.data]) [z17_6.data] Tryz.underlying37 glit9 (by decide) rfl rfl rfl rfl (by decide) (fun _ _ _ _ => trivial) (by decide) (fun s38_14 hs38_14 => ?_) (by decide)
  replace hS := lt_to hs38_14 hS
  refine VL.back (D' := [(2, ptr w_0_b 0), (1, ptr w_0_b 0)]) (by kernel_rfl) (Pend.cons rfl (q_field gfa143_0 rfl) (Pend.cons rfl (q_nilCheck rfl) (Pend.nil))) ?_
  refine VD.one rfl ?_
  obtain ⟨y39_16, ey39_16, hS⟩ := bd_s hS
  refine VL.callO (codec_Enc_Text_ct w_0_b q32_13_0 s38_14 ey39_16) rfl (by decide) ?_
  rintro q39_16_0 rfl
  try dsimp only
  refine VL.back (D' := []) (by kernel_rfl) (Pend.nil) ?_
  refine VD.to (fun _ _ h => h) ?_
  refine VC.keep [0, 13, 14, 15] rfl ?_
  refine Zr ?_
  obtain ⟨b40, hS⟩ := gd_s hS
  refine Zu (q_add rfl rfl b40) ?_
  refine Zm ?_
  refine VL.rnd ((x15_4 + 1), q39_16_0.enc_b) [0, 13, 14, 15] (fun _ _ h => h) (go2 hS hK1) rfl
 replace hS := up2 hS hK1
 cases hS
 exact VC.exit (fin0 (.inl rfl) rfl ⟨c0_5⟩ rfl rfl (by (try dsimp only); exact InM.out) (by (try dsimp only); exact EntO.out))
theorem state_writer_entries_ct (w_0_b : Nat) (w_0 : StateWriter) (l_1 : Sv IndexEntry) {r : StateWriterP} (hS : Sh.state_writer_entries w_0.pl l_1.l = some r) :
 Ct Tryz.prog 141 [ptr w_0_b 0, l_1.val] l_1.ok (Ow.star (Sv.own w_0.enc_b 5) (Blk w_0_b [w_0.enc_b.val] 143)) (X := StateWriter) (fun x => .tuple #[]) (fun x => r = x.pl) (fun x => Mo.tt) (fun x => Ow.star (Blk w_0_b [x.enc_b.val] 143) (Sv.own x.enc_b 5)) := by
 refine Zo Tryz.func141 Tryz.ntmps141 fun c => ?_
 unfold Sh.state_writer_entries at hS
 refine Zq (Zr ?_)
 refine Zm ?_
 refine Zu (q_nilCheck rfl) ?_
 refine Zu (q_field gfa143_0 rfl) ?_
 refine Zm ?_
 refine Zu (q_ln (s := l_1) Tryz.underlying25 rfl) ?_
 refine VL.lit (α := Int) (xs := [.tmp 10]) (vs := [i64 (l_1.l.length : Int)]) [(l_1.l.length : Int)] Tryz.underlying56 glit3 (by decide) rfl rfl rfl rfl (by decide) (fun _ _ _ _ => trivial) (by decide) (fun s11_1 hs11_1 => ?_) (by decide)
 replace hS := lt_to hs11_1 hS
 obtain ⟨y12_3, ey12_3, hS⟩ := bd_s hS
 refine VL.callO (codec_Enc_Int_ct w_0_b w_0 s11_1 ey12_3) rfl (by decide) ?_
 rintro q12_3_0 rfl
 try dsimp only
 refine Zl ?_
 refine Zq (Zr ?_)
 refine Zm ?_
 refine Zu (q_ln (s := l_1) Tryz.underlying25 rfl) ?_
 refine Zy ?_
 refine VC.keep [0, 13, 14, 15] rfl ?_
 refine Zb ?_
 refine VC.iter (S := Int × Sv UInt8) (fun sg => (sg.1, sg.2.l)) (fun sg => [(0, ptr w_0_b 0), (13, l_1.val), (14, i64 (l_1.l.length : Int)), (15, i64 sg.1)]) (fun sg => Mo.tt) (fun sg => Ow.star (Blk w_0_b [sg.2.val] 143) (Ow.star (Sv.own sg.2 5) (Ow.emp))) (0, q12_3_0.enc_b) [0, 13, 14, 15] hS rfl ?_
 clear hS
 rintro ⟨x15_4, c0_5⟩ m1 y1 hS hK1
 refine Zq (Zr ?_)
 refine Zu (q_lss rfl rfl) ?_
 refine Zl ?_
 refine Zq ?_
 refine Zc hS (fun h16 hS => ?_) (fun h16 hS => ?_)
 ·
  refine Zk ?_
  refine Zq (Zb (Zq (Zr ?_)))
  obtain ⟨z17_6, nz17_6, hz17_6, hS⟩ := at_s hS
  refine Zu (q_ixm (s := l_1) Tryz.underlying25 gsz149 rfl rfl nz17_6 (lt_of_get nz17_6 hz17_6)) ?_
  refine Zu (q_els (s := l_1) gagg149 rfl rfl hz17_6) ?_
  refine VL.alloc (cs := [str [], i64 0, i64 0, str [], i64 0, i64 0]) (by kernel_rfl) (by decide) fun b5_7 => ?_
  refine Zv (vc := [str z17_6.path, i64 z17_6.stage, i64 z17_6.mode, str z17_6.data, i64 z17_6.time, i64 z17_6.size]) (cs' := [str z17_6.path, i64 z17_6.stage, i64 z17_6.mode, str z17_6.data, i64 z17_6.time, i64 z17_6.size]) rfl gsz149 ?_
  refine Zl ?_
  refine Zq ?_
  refine VC.draw [(0, true), (1, true), (2, true), (3, true), (4, true), (5, false), (6, false)] mixed (by kernel_rfl) (by kernel_rfl) (by kernel_rfl) ?_
  refine Zw rfl (q_move rfl) ?_
  refine Zw rfl (q_nilCheck rfl) ?_
  refine Zw rfl (q_field gfa143_0 rfl) ?_
  refine Zw rfl (q_field gfa149_0 rfl) ?_
  refine Zw rfl (q_fe gone9 rfl rfl) ?_
  refine VD.one rfl ?_
  refine VL.lit (α := Str) (xs := [.tmp 23]) (vs := [str z17_6.path]) [z17_6.path] Tryz.underlying37 glit9 (by decide) rfl rfl rfl rfl (by decide) (fun _ _ _ _ => trivial) (by decide) (fun s24_8 hs24_8 => ?_) (by decide)
  replace hS := lt_to hs24_8 hS
  refine VL.back (D' := [(2, ptr w_0_b 0), (1, ptr w_0_b 0)]) (by kernel_rfl) (Pend.cons rfl (q_field gfa143_0 rfl) (Pend.cons rfl (q_nilCheck rfl) (Pend.nil))) ?_
  refine VD.one rfl ?_
  obtain ⟨y25_10, ey25_10, hS⟩ := bd_s hS
  refine VL.callO (codec_Enc_Text_ct w_0_b (⟨c0_5⟩ : StateWriter) s24_8 ey25_10) rfl (by decide) ?_
  rintro q25_10_0 rfl
  try dsimp only
  refine VL.back (D' := []) (by kernel_rfl) (Pend.nil) ?_
  refine VD.to (fun _ _ h => h) ?_
  refine VC.keep [0, 13, 14, 15, 5] rfl ?_
  refine Zq ?_
  refine VC.draw [(0, true), (1, true), (2, true), (3, true), (4, true), (5, true), (6, true), (7, false), (8, false)] mixed (by kernel_rfl) (by kernel_rfl) (by kernel_rfl) ?_
  refine Zw rfl (q_move rfl) ?_
  refine Zw rfl (q_nilCheck rfl) ?_
  refine Zw rfl (q_field gfa143_0 rfl) ?_
  refine Zw rfl (q_field gfa149_1 rfl) ?_
  refine Zw rfl (q_fe gone3 rfl rfl) ?_
  refine Zw rfl (q_field gfa149_2 rfl) ?_
  refine Zw rfl (q_fe gone3 rfl rfl) ?_
  refine VD.one rfl ?_
  refine VL.lit (α := Int) (xs := [.tmp 30, .tmp 32]) (vs := [i64 z17_6.stage, i64 z17_6.mode]) [z17_6.stage, z17_6.mode] Tryz.underlying56 glit3 (by decide) rfl rfl rfl rfl (by decide) (fun _ _ _ _ => trivial) (by decide) (fun s33_11 hs33_11 => ?_) (by decide)
  replace hS := lt_to hs33_11 hS
  refine VL.back (D' := [(2, ptr w_0_b 0), (1, ptr w_0_b 0)]) (by kernel_rfl) (Pend.cons rfl (q_field gfa143_0 rfl) (Pend.cons rfl (q_nilCheck rfl) (Pend.nil))) ?_
  refine VD.one rfl ?_
  obtain ⟨y34_13, ey34_13, hS⟩ := bd_s hS
  refine VL.callO (codec_Enc_Int_ct w_0_b q25_10_0 s33_11 ey34_13) rfl (by decide) ?_
  rintro q34_13_0 rfl
  try dsimp only
  refine VL.back (D' := []) (by kernel_rfl) (Pend.nil) ?_
  refine VD.to (fun _ _ h => h) ?_
  refine VC.keep [0, 13, 14, 15, 5] rfl ?_
  refine Zq ?_
  refine VC.draw [(0, true), (1, true), (2, true), (3, true), (4, true), (5, false), (6, false)] mixed (by kernel_rfl) (by kernel_rfl) (by kernel_rfl) ?_
  refine Zw rfl (q_move rfl) ?_
  refine Zw rfl (q_nilCheck rfl) ?_
  refine Zw rfl (q_field gfa143_0 rfl) ?_
  refine Zw rfl (q_field gfa149_3 rfl) ?_
  refine Zw rfl (q_fe gone9 rfl rfl) ?_
  refine VD.one rfl ?_
  refine VL.lit (α := Str) (xs := [.tmp 39]) (vs := [str z17_6.data]) [z17_6.data] Tryz.underlying37 glit9 (by decide) rfl rfl rfl rfl (by decide) (fun _ _ _ _ => trivial) (by decide) (fun s40_14 hs40_14 => ?_) (by decide)
  replace hS := lt_to hs40_14 hS
  refine VL.back (D' := [(2, ptr w_0_b 0), (1, ptr w_0_b 0)]) (by kernel_rfl) (Pend.cons rfl (q_field gfa143_0 rfl) (Pend.cons rfl (q_nilCheck rfl) (Pend.nil))) ?_
  refine VD.one rfl ?_
  obtain ⟨y41_16, ey41_16, hS⟩ := bd_s hS
  refine VL.callO (codec_Enc_Text_ct w_0_b q34_13_0 s40_14 ey41_16) rfl (by decide) ?_
  rintro q41_16_0 rfl
  try dsimp only
  refine VL.back (D' := []) (by kernel_rfl) (Pend.nil) ?_
  refine VD.to (fun _ _ h => h) ?_
  refine VC.keep [0, 13, 14, 15, 5] rfl ?_
  refine VC.draw [(0, true), (1, true), (2, true), (3, true), (4, true), (5, true), (6, true), (7, false), (8, false)] mixed (by kernel_rfl) (by kernel_rfl) (by kernel_rfl) ?_
  refine Zw rfl (q_move rfl) ?_
  refine Zw rfl (q_nilCheck rfl) ?_
  refine Zw rfl (q_field gfa143_0 rfl) ?_
  refine Zw rfl (q_field gfa149_4 rfl) ?_
  refine Zw rfl (q_fe gone3 rfl rfl) ?_
  refine Zw rfl (q_field gfa149_5 rfl) ?_
  refine Zw rfl (q_fe gone3 rfl rfl) ?_
  refine VD.one rfl ?_
  refine VL.lit (α := Int) (xs := [.tmp 46, .tmp 48]) (vs := [i64 z17_6.time, i64 z17_6.size]) [z17_6.time, z17_6.size] Tryz.underlying56 glit3 (by decide) rfl rfl rfl rfl (by decide) (fun _ _ _ _ => trivial) (by decide) (fun s49_17 hs49_17 => ?_) (by decide)
  replace hS := lt_to hs49_17 hS
  refine VL.back (D' := [(2, ptr w_0_b 0), (1, ptr w_0_b 0)]) (by kernel_rfl) (Pend.cons rfl (q_field gfa143_0 rfl) (Pend.cons rfl (q_nilCheck rfl) (Pend.nil))) ?_
  refine VD.one rfl ?_
  obtain ⟨y50_19, ey50_19, hS⟩ := bd_s hS
  refine VL.callO (codec_Enc_Int_ct w_0_b q41_16_0 s49_17 ey50_19) rfl (by decide) ?_
  rintro q50_19_0 rfl
  try dsimp only
  refine VL.back (D' := []) (by kernel_rfl) (Pend.nil) ?_
  refine VD.to (fun _ _ h => h) ?_
  refine VC.keep [0, 13, 14, 15] rfl ?_
  refine Zr ?_
  obtain ⟨b51, hS⟩ := gd_s hS
  refine Zu (q_add rfl rfl b51) ?_
  refine Zm ?_
  refine VL.rnd ((x15_4 + 1), q50_19_0.enc_b) [0, 13, 14, 15] (fun _ _ h => h) (go2 hS hK1) rfl
 replace hS := up2 hS hK1
 cases hS
 exact VC.exit (fin0 (.inl rfl) rfl ⟨c0_5⟩ rfl rfl (by (try dsimp only); exact InM.out) (by (try dsimp only); exact EntO.out))
theorem state_writer_head_ct (w_0_b : Nat) (w_0 : StateWriter) (h_1 : NamesHead) {r : StateWriterP} (hS : Sh.state_writer_head w_0.pl h_1 = some r) :
 Ct Tryz.prog 144 [ptr w_0_b 0, .agg #[str h_1.branch, i64 h_1.commit]] Mo.tt (Ow.star (Sv.own w_0.enc_b 5) (Blk w_0_b [w_0.enc_b.val] 143)) (X := StateWriter) (fun x => .tuple #[]) (fun x => r = x.pl) (fun x => Mo.tt) (fun x => Ow.star (Blk w_0_b [x.enc_b.val] 143) (Sv.own x.enc_b 5)) := by
 refine Zo Tryz.func144 Tryz.ntmps144 fun c => ?_
 unfold Sh.state_writer_head at hS
 refine Zq (Zr ?_)
 refine VL.box (cs := [str h_1.branch, i64 h_1.commit]) rfl rfl (by decide) fun b3_1 => ?_
 refine Zl ?_
 refine Zq ?_
 refine VC.draw [(0, true), (1, true), (2, true), (3, true), (4, true), (5, false), (6, false)] mixed (by kernel_rfl) (by kernel_rfl) (by kernel_rfl) ?_
 refine Zw rfl (q_move rfl) ?_
 refine Zw rfl (q_nilCheck rfl) ?_
 refine Zw rfl (q_field gfa143_0 rfl) ?_
 refine Zw rfl (q_field gfa28_0 rfl) ?_
 refine Zw rfl (q_fe gone9 rfl rfl) ?_
 refine VD.one rfl ?_
 refine VL.lit (α := Str) (xs := [.tmp 8]) (vs := [str h_1.branch]) [h_1.branch] Tryz.underlying37 glit9 (by decide) rfl rfl rfl rfl (by decide) (fun _ _ _ _ => trivial) (by decide) (fun s9_2 hs9_2 => ?_) (by decide)
 replace hS := lt_to hs9_2 hS
 refine VL.back (D' := [(2, ptr w_0_b 0), (1, ptr w_0_b 0)]) (by kernel_rfl) (Pend.cons rfl (q_field gfa143_0 rfl) (Pend.cons rfl (q_nilCheck rfl) (Pend.nil))) ?_
 refine VD.one rfl ?_
 obtain ⟨y10_4, ey10_4, hS⟩ := bd_s hS
 refine VL.callO (codec_Enc_Text_ct w_0_b w_0 s9_2 ey10_4) rfl (by decide) ?_
 rintro q10_4_0 rfl
 try dsimp only
 refine VL.back (D' := []) (by kernel_rfl) (Pend.nil) ?_
 refine VD.to (fun _ _ h => h) ?_
 refine VC.draw [(0, true), (1, true), (2, true), (3, true), (4, true), (5, false), (6, false)] mixed (by kernel_rfl) (by kernel_rfl) (by kernel_rfl) ?_
 refine Zw rfl (q_move rfl) ?_
 refine Zw rfl (q_nilCheck rfl) ?_
 refine Zw rfl (q_field gfa143_0 rfl) ?_
 refine Zw rfl (q_field gfa28_1 rfl) ?_
 refine Zw rfl (q_fe gone3 rfl rfl) ?_
 refine VD.one rfl ?_
 refine VL.lit (α := Int) (xs := [.tmp 15]) (vs := [i64 h_1.commit]) [h_1.commit] Tryz.underlying56 glit3 (by decide) rfl rfl rfl rfl (by decide) (fun _ _ _ _ => trivial) (by decide) (fun s16_5 hs16_5 => ?_) (by decide)
 replace hS := lt_to hs16_5 hS
 refine VL.back (D' := [(2, ptr w_0_b 0), (1, ptr w_0_b 0)]) (by kernel_rfl) (Pend.cons rfl (q_field gfa143_0 rfl) (Pend.cons rfl (q_nilCheck rfl) (Pend.nil))) ?_
 refine VD.one rfl ?_
 obtain ⟨y17_7, ey17_7, hS⟩ := bd_s hS
 refine VL.callO (codec_Enc_Int_ct w_0_b q10_4_0 s16_5 ey17_7) rfl (by decide) ?_
 rintro q17_7_0 rfl
 try dsimp only
 refine VL.back (D' := []) (by kernel_rfl) (Pend.nil) ?_
 cases hS
 exact VD.nil (fin0 (.inl rfl) rfl ⟨q17_7_0.enc_b⟩ rfl rfl (by (try dsimp only); exact InM.out) (by (try dsimp only); exact EntO.out))
theorem state_writer_steps_ct (w_0_b : Nat) (w_0 : StateWriter) (l_1 : Sv TodoStep) {r : StateWriterP} (hS : Sh.state_writer_steps w_0.pl l_1.l = some r) :
 Ct Tryz.prog 238 [ptr w_0_b 0, l_1.val] l_1.ok (Ow.star (Sv.own w_0.enc_b 5) (Blk w_0_b [w_0.enc_b.val] 143)) (X := StateWriter) (fun x => .tuple #[]) (fun x => r = x.pl) (fun x => Mo.tt) (fun x => Ow.star (Blk w_0_b [x.enc_b.val] 143) (Sv.own x.enc_b 5)) := by
 refine Zo Tryz.func238 Tryz.ntmps238 fun c => ?_
 unfold Sh.state_writer_steps at hS
 refine Zq (Zr ?_)
 refine Zm ?_
 refine Zu (q_nilCheck rfl) ?_
 refine Zu (q_field gfa143_0 rfl) ?_
 refine Zm ?_
 refine Zu (q_ln (s := l_1) Tryz.underlying29 rfl) ?_
 refine VL.lit (α := Int) (xs := [.tmp 10]) (vs := [i64 (l_1.l.length : Int)]) [(l_1.l.length : Int)] Tryz.underlying56 glit3 (by decide) rfl rfl rfl rfl (by decide) (fun _ _ _ _ => trivial) (by decide) (fun s11_1 hs11_1 => ?_) (by decide)
 replace hS := lt_to hs11_1 hS
 obtain ⟨y12_3, ey12_3, hS⟩ := bd_s hS
 refine VL.callO (codec_Enc_Int_ct w_0_b w_0 s11_1 ey12_3) rfl (by decide) ?_
 rintro q12_3_0 rfl
 try dsimp only
 refine Zl ?_
 refine Zq (Zr ?_)
 refine Zm ?_
 refine Zu (q_ln (s := l_1) Tryz.underlying29 rfl) ?_
 refine Zy ?_
 refine VC.keep [0, 13, 14, 15] rfl ?_
 refine Zb ?_
 refine VC.iter (S := Unit) (fun (_ : Unit) => ()) (fun (_ : Unit) => [(0, ptr w_0_b 0), (13, l_1.val), (14, i64 (l_1.l.length : Int)), (15, i64 0)]) (fun (_ : Unit) => Mo.tt) (fun (_ : Unit) => Ow.star (Blk w_0_b [q12_3_0.enc_b.val] 143) (Ow.star (Sv.own q12_3_0.enc_b 5) (Ow.emp))) () [0, 13, 14, 15] hS rfl ?_
 clear hS
 rintro _ m1 y1 hS hK1
 refine Zq (Zr ?_)
 refine Zu (q_lss rfl rfl) ?_
 refine Zl ?_
 refine Zq ?_
 refine Zc hS (fun h16 hS => ?_) (fun h16 hS => ?_)
 ·
  refine Zk ?_
  refine Zq (Zb (Zq (Zr ?_)))
  obtain ⟨z17_4, nz17_4, hz17_4, hS⟩ := at_s hS
  refine Zu (q_ixm (s := l_1) Tryz.underlying29 gsz129 rfl rfl nz17_4 (lt_of_get nz17_4 hz17_4)) ?_
  refine Zu (q_els (s := l_1) gagg129 rfl rfl hz17_4) ?_
  refine VL.alloc (cs := [str [], i64 0, str []]) (by kernel_rfl) (by decide) fun b5_5 => ?_
  refine Zv (vc := [str z17_4.verb, i64 z17_4.commit, str z17_4.text]) (cs' := [str z17_4.verb, i64 z17_4.commit, str z17_4.text]) rfl gsz129 ?_
  refine Zl ?_
  refine Zq ?_
  cases hS
 replace hS := up2 hS hK1
 cases hS
 exact VC.exit (fin0 (.inl rfl) rfl ⟨q12_3_0.enc_b⟩ rfl rfl (by (try dsimp only); exact InM.out) (by (try dsimp only); exact EntO.out))
theorem state_writer_seq_ct (w_0_b : Nat) (w_0 : StateWriter) (s_1 : StateSeq) {r : StateWriterP} (hS : Sh.state_writer_seq w_0.pl s_1.pl = some r) :
 Ct Tryz.prog 145 [ptr w_0_b 0, .agg (zStateSeq s_1).toArray] (s_1.doing.ok.and (s_1.todo.ok.and (s_1.index.ok.and s_1.work.ok))) (Ow.star (Sv.own w_0.enc_b 5) (Blk w_0_b [w_0.enc_b.val] 143)) (X := StateWriter) (fun x => .tuple #[]) (fun x => r = x.pl) (fun x => Mo.tt) (fun x => Ow.star (Blk w_0_b [x.enc_b.val] 143) (Sv.own x.enc_b 5)) := by
 refine Zo Tryz.func145 Tryz.ntmps145 fun c => ?_
 unfold Sh.state_writer_seq at hS
 refine Zq (Zr ?_)
 refine VL.box (cs := (zStateSeq s_1)) rfl rfl (by decide) fun b3_1 => ?_
 refine Zl ?_
 refine Zq ?_
 refine VC.draw [(0, true), (1, true), (2, true), (3, true), (4, true), (5, false), (6, false)] mixed (by kernel_rfl) (by kernel_rfl) (by kernel_rfl) ?_
 refine Zw rfl (q_move rfl) ?_
 refine Zw rfl (q_nilCheck rfl) ?_
 refine Zw rfl (q_field gfa143_0 rfl) ?_
 refine Zw rfl (q_field gfa31_0 rfl) ?_
 refine Zw rfl (q_fe gone9 rfl rfl) ?_
 refine VD.one rfl ?_
 refine VL.lit (α := Str) (xs := [.tmp 8]) (vs := [str s_1.kind]) [s_1.kind] Tryz.underlying37 glit9 (by decide) rfl rfl rfl rfl (by decide) (fun _ _ _ _ => trivial) (by decide) (fun s9_2 hs9_2 => ?_) (by decide)
 replace hS := lt_to hs9_2 hS
 refine VL.back (D' := [(2, ptr w_0_b 0), (1, ptr w_0_b 0)]) (by kernel_rfl) (Pend.cons rfl (q_field gfa143_0 rfl) (Pend.cons rfl (q_nilCheck rfl) (Pend.nil))) ?_
 refine VD.one rfl ?_
 obtain ⟨y10_4, ey10_4, hS⟩ := bd_s hS
 refine VL.callO (codec_Enc_Text_ct w_0_b w_0 s9_2 ey10_4) rfl (by decide) ?_
 rintro q10_4_0 rfl
 try dsimp only
 refine VL.back (D' := []) (by kernel_rfl) (Pend.nil) ?_
 refine VD.to (fun _ _ h => h) ?_
 refine Zq ?_
 refine VC.draw [(0, true), (1, true), (2, true), (3, true), (4, true), (5, false), (6, false)] mixed (by kernel_rfl) (by kernel_rfl) (by kernel_rfl) ?_
 refine Zw rfl (q_move rfl) ?_
 refine Zw rfl (q_nilCheck rfl) ?_
 refine Zw rfl (q_field gfa143_0 rfl) ?_
 refine Zw rfl (q_field gfa31_1 rfl) ?_
 refine Zw rfl (q_fe gone3 rfl rfl) ?_
 refine VD.one rfl ?_
 refine VL.lit (α := Int) (xs := [.tmp 15]) (vs := [i64 s_1.other]) [s_1.other] Tryz.underlying56 glit3 (by decide) rfl rfl rfl rfl (by decide) (fun _ _ _ _ => trivial) (by decide) (fun s16_5 hs16_5 => ?_) (by decide)
 replace hS := lt_to hs16_5 hS
 refine VL.back (D' := [(2, ptr w_0_b 0), (1, ptr w_0_b 0)]) (by kernel_rfl) (Pend.cons rfl (q_field gfa143_0 rfl) (Pend.cons rfl (q_nilCheck rfl) (Pend.nil))) ?_
 refine VD.one rfl ?_
 obtain ⟨y17_7, ey17_7, hS⟩ := bd_s hS
 refine VL.callO (codec_Enc_Int_ct w_0_b q10_4_0 s16_5 ey17_7) rfl (by decide) ?_
 rintro q17_7_0 rfl
 try dsimp only
 refine VL.back (D' := []) (by kernel_rfl) (Pend.nil) ?_
 refine VD.to (fun _ _ h => h) ?_
 refine VC.keep [0, 3] rfl ?_
 refine Zq ?_
 refine VC.draw [(0, true), (1, true), (2, true), (3, true), (4, true), (5, false), (6, false)] mixed (by kernel_rfl) (by kernel_rfl) (by kernel_rfl) ?_
 refine Zw rfl (q_move rfl) ?_
 refine Zw rfl (q_nilCheck rfl) ?_
 refine Zw rfl (q_field gfa143_0 rfl) ?_
 refine Zw rfl (q_field gfa31_2 rfl) ?_
 refine Zw rfl (q_fe gone9 rfl rfl) ?_
 refine VD.one rfl ?_
 refine VL.lit (α := Str) (xs := [.tmp 22]) (vs := [str s_1.text]) [s_1.text] Tryz.underlying37 glit9 (by decide) rfl rfl rfl rfl (by decide) (fun _ _ _ _ => trivial) (by decide) (fun s23_8 hs23_8 => ?_) (by decide)
 replace hS := lt_to hs23_8 hS
 refine VL.back (D' := [(2, ptr w_0_b 0), (1, ptr w_0_b 0)]) (by kernel_rfl) (Pend.cons rfl (q_field gfa143_0 rfl) (Pend.cons rfl (q_nilCheck rfl) (Pend.nil))) ?_
 refine VD.one rfl ?_
 obtain ⟨y24_10, ey24_10, hS⟩ := bd_s hS
 refine VL.callO (codec_Enc_Text_ct w_0_b q17_7_0 s23_8 ey24_10) rfl (by decide) ?_
 rintro q24_10_0 rfl
 try dsimp only
 refine VL.back (D' := []) (by kernel_rfl) (Pend.nil) ?_
 refine VD.to (fun _ _ h => h) ?_
 refine Zq (Zr ?_)
 refine Zm ?_
 refine Zu (q_field gfa31_3 rfl) ?_
 refine Zu (q_fe gone29 rfl rfl) ?_
 obtain ⟨y28_11, ey28_11, hS⟩ := bd_s hS
 refine VL.callO (state_writer_steps_ct w_0_b q24_10_0 s_1.doing ey28_11) rfl (by decide) ?_
 rintro q28_11_0 rfl
 try dsimp only
 refine Zl ?_
 refine VC.keep [0, 3] rfl ?_
 refine Zq (Zr ?_)
 refine Zm ?_
 refine Zu (q_field gfa31_4 rfl) ?_
 refine Zu (q_fe gone29 rfl rfl) ?_
 obtain ⟨y32_12, ey32_12, hS⟩ := bd_s hS
 refine VL.callO (state_writer_steps_ct w_0_b q28_11_0 s_1.todo ey32_12) rfl (by decide) ?_
 rintro q32_12_0 rfl
 try dsimp only
 refine Zl ?_
 refine Zq ?_
 refine VC.draw [(0, true), (1, true), (2, true), (3, true), (4, true), (5, false), (6, false)] mixed (by kernel_rfl) (by kernel_rfl) (by kernel_rfl) ?_
 refine Zw rfl (q_move rfl) ?_
 refine Zw rfl (q_nilCheck rfl) ?_
 refine Zw rfl (q_field gfa143_0 rfl) ?_
 refine Zw rfl (q_field gfa31_5 rfl) ?_
 refine Zw rfl (q_fe gone3 rfl rfl) ?_
 refine VD.one rfl ?_
 refine VL.lit (α := Int) (xs := [.tmp 37]) (vs := [i64 s_1.made]) [s_1.made] Tryz.underlying56 glit3 (by decide) rfl rfl rfl rfl (by decide) (fun _ _ _ _ => trivial) (by decide) (fun s38_13 hs38_13 => ?_) (by decide)
 replace hS := lt_to hs38_13 hS
 refine VL.back (D' := [(2, ptr w_0_b 0), (1, ptr w_0_b 0)]) (by kernel_rfl) (Pend.cons rfl (q_field gfa143_0 rfl) (Pend.cons rfl (q_nilCheck rfl) (Pend.nil))) ?_
 refine VD.one rfl ?_
 obtain ⟨y39_15, ey39_15, hS⟩ := bd_s hS
 refine VL.callO (codec_Enc_Int_ct w_0_b q32_12_0 s38_13 ey39_15) rfl (by decide) ?_
 rintro q39_15_0 rfl
 try dsimp only
 refine VL.back (D' := []) (by kernel_rfl) (Pend.nil) ?_
 refine VD.to (fun _ _ h => h) ?_
 refine VC.keep [0, 3] rfl ?_
 refine Zq ?_
 refine VC.draw [(0, true), (1, true), (2, true), (3, true), (4, true), (5, false), (6, false)] mixed (by kernel_rfl) (by kernel_rfl) (by kernel_rfl) ?_
 refine Zw rfl (q_move rfl) ?_
 refine Zw rfl (q_nilCheck rfl) ?_
 refine Zw rfl (q_field gfa143_0 rfl) ?_
 refine Zw rfl (q_field gfa31_6 rfl) ?_
 refine Zw rfl (q_fe gone9 rfl rfl) ?_
 refine VD.one rfl ?_
 refine VL.lit (α := Str) (xs := [.tmp 44]) (vs := [str s_1.branch]) [s_1.branch] Tryz.underlying37 glit9 (by decide) rfl rfl rfl rfl (by decide) (fun _ _ _ _ => trivial) (by decide) (fun s45_16 hs45_16 => ?_) (by decide)
 replace hS := lt_to hs45_16 hS
 refine VL.back (D' := [(2, ptr w_0_b 0), (1, ptr w_0_b 0)]) (by kernel_rfl) (Pend.cons rfl (q_field gfa143_0 rfl) (Pend.cons rfl (q_nilCheck rfl) (Pend.nil))) ?_
 refine VD.one rfl ?_
 obtain ⟨y46_18, ey46_18, hS⟩ := bd_s hS
 refine VL.callO (codec_Enc_Text_ct w_0_b q39_15_0 s45_16 ey46_18) rfl (by decide) ?_
 rintro q46_18_0 rfl
 try dsimp only
 refine VL.back (D' := []) (by kernel_rfl) (Pend.nil) ?_
 refine VD.to (fun _ _ h => h) ?_
 refine Zq (Zr ?_)
 refine Zm ?_
 refine Zu (q_field gfa31_7 rfl) ?_
 refine Zu (q_fep (j := 7) (n := 2) gagg28 rfl rfl rfl) ?_
 obtain ⟨y50_19, ey50_19, hS⟩ := bd_s hS
 refine VL.callO (state_writer_head_ct w_0_b q46_18_0 (⟨s_1.head_branch, s_1.head_commit⟩ : NamesHead) ey50_19) rfl (by decide) ?_
 rintro q50_19_0 rfl
 try dsimp only
 refine Zl ?_
 refine VC.keep [0, 3] rfl ?_
 refine Zq (Zr ?_)
 refine Zm ?_
 refine Zu (q_field gfa31_8 rfl) ?_
 refine Zu (q_fe gone25 rfl rfl) ?_
 obtain ⟨y54_20, ey54_20, hS⟩ := bd_s hS
 refine VL.callO (state_writer_entries_ct w_0_b q50_19_0 s_1.index ey54_20) rfl (by decide) ?_
 rintro q54_20_0 rfl
 try dsimp only
 refine Zl ?_
 refine Zr ?_
 refine Zm ?_
 refine Zu (q_field gfa31_9 rfl) ?_
 refine Zu (q_fe gone24 rfl rfl) ?_
 obtain ⟨y58_21, ey58_21, hS⟩ := bd_s hS
 refine VL.callO (state_writer_row_ct w_0_b q54_20_0 s_1.work ey58_21) rfl (by decide) ?_
 rintro q58_21_0 rfl
 try dsimp only
 cases hS
 exact VL.nil (fin0 (.inl rfl) rfl ⟨q58_21_0.enc_b⟩ rfl rfl (by (try dsimp only); exact InM.out) (by (try dsimp only); exact EntO.out))
theorem state_writer_now_ct (w_0_b : Nat) (w_0 : StateWriter) (n_1 : StateNow) {r : StateWriterP} (hS : Sh.state_writer_now w_0.pl n_1.pl = some r) :
 Ct Tryz.prog 70 [ptr w_0_b 0, .agg (zStateNow n_1).toArray] (n_1.work.ok.and (n_1.index.ok.and (n_1.refs.ok.and (n_1.seq_doing.ok.and (n_1.seq_todo.ok.and (n_1.seq_index.ok.and (n_1.seq_work.ok.and n_1.stash.ok))))))) (Ow.star (Sv.own w_0.enc_b 5) (Blk w_0_b [w_0.enc_b.val] 143)) (X := StateWriter) (fun x => .tuple #[]) (fun x => r = x.pl) (fun x => Mo.tt) (fun x => Ow.star (Blk w_0_b [x.enc_b.val] 143) (Sv.own x.enc_b 5)) := by
 refine Zo Tryz.func70 Tryz.ntmps70 fun c => ?_
 unfold Sh.state_writer_now at hS
 refine Zq (Zr ?_)
 refine VL.box (cs := (zStateNow n_1)) rfl rfl (by decide) fun b3_1 => ?_
 refine Zl ?_
 refine Zq (Zr ?_)
 refine Zm ?_
 refine Zu (q_field gfa35_0 rfl) ?_
 refine Zu (q_fe gone24 rfl rfl) ?_
 obtain ⟨y11_2, ey11_2, hS⟩ := bd_s hS
 refine VL.callO (state_writer_row_ct w_0_b w_0 n_1.work ey11_2) rfl (by decide) ?_
 rintro q11_2_0 rfl
 try dsimp only
 refine Zl ?_
 refine Zq (Zr ?_)
 refine Zm ?_
 refine Zu (q_field gfa35_1 rfl) ?_
 refine Zu (q_fe gone25 rfl rfl) ?_
 obtain ⟨y15_3, ey15_3, hS⟩ := bd_s hS
 refine VL.callO (state_writer_entries_ct w_0_b q11_2_0 n_1.index ey15_3) rfl (by decide) ?_
 rintro q15_3_0 rfl
 try dsimp only
 refine Zl ?_
 refine VC.keep [0, 3] rfl ?_
 refine Zq ?_
 refine VC.draw [(0, true), (1, true), (2, true), (3, true), (4, true), (5, true), (6, false), (7, false)] mixed (by kernel_rfl) (by kernel_rfl) (by kernel_rfl) ?_
 refine Zw rfl (q_move rfl) ?_
 refine Zw rfl (q_nilCheck rfl) ?_
 refine Zw rfl (q_field gfa143_0 rfl) ?_
 refine Zw rfl (q_field gfa35_2 rfl) ?_
 refine Zw rfl (q_fe gone26 rfl rfl) ?_
 refine Zw rfl (q_ln (s := n_1.refs) Tryz.underlying26 rfl) ?_
 refine VD.one rfl ?_
 refine VL.lit (α := Int) (xs := [.tmp 21]) (vs := [i64 (n_1.refs.l.length : Int)]) [(n_1.refs.l.length : Int)] Tryz.underlying56 glit3 (by decide) rfl rfl rfl rfl (by decide) (fun _ _ _ _ => trivial) (by decide) (fun s22_4 hs22_4 => ?_) (by decide)
 replace hS := lt_to hs22_4 hS
 refine VL.back (D' := [(2, ptr w_0_b 0), (1, ptr w_0_b 0)]) (by kernel_rfl) (Pend.cons rfl (q_field gfa143_0 rfl) (Pend.cons rfl (q_nilCheck rfl) (Pend.nil))) ?_
 refine VD.one rfl ?_
 obtain ⟨y23_6, ey23_6, hS⟩ := bd_s hS
 refine VL.callO (codec_Enc_Int_ct w_0_b q15_3_0 s22_4 ey23_6) rfl (by decide) ?_
 rintro q23_6_0 rfl
 try dsimp only
 refine VL.back (D' := []) (by kernel_rfl) (Pend.nil) ?_
 refine VD.to (fun _ _ h => h) ?_
 refine Zq (Zq (Zr ?_))
 refine Zu (q_field gfa35_2 rfl) ?_
 refine Zu (q_fe gone26 rfl rfl) ?_
 refine Zu (q_ln (s := n_1.refs) Tryz.underlying26 rfl) ?_
 refine Zy ?_
 refine VC.keep [0, 3, 25, 26, 27] rfl ?_
 refine Zb ?_
 refine VC.iter (S := Int × Sv UInt8) (fun sg => (sg.1, sg.2.l)) (fun sg => [(0, ptr w_0_b 0), (3, ptr b3_1 0), (25, n_1.refs.val), (26, i64 (n_1.refs.l.length : Int)), (27, i64 sg.1)]) (fun sg => Mo.tt) (fun sg => Ow.star (Blk w_0_b [sg.2.val] 143) (Ow.star (Blk b3_1 (zStateNow n_1) 35) (Ow.star (Sv.own sg.2 5) (Ow.emp)))) (0, q23_6_0.enc_b) [0, 3, 25, 26, 27] hS rfl ?_
 clear hS
 rintro ⟨x27_7, c0_8⟩ m1 y1 hS hK1
 refine Zq (Zr ?_)
 refine Zu (q_lss rfl rfl) ?_
 refine Zl ?_
 refine Zq ?_
 refine Zc hS (fun h28 hS => ?_) (fun h28 hS => ?_)
 ·
  refine Zk ?_
  refine Zq (Zb (Zq (Zr ?_)))
  obtain ⟨z29_9, nz29_9, hz29_9, hS⟩ := at_s hS
  refine Zu (q_ixm (s := n_1.refs) Tryz.underlying26 gsz113 rfl rfl nz29_9 (lt_of_get nz29_9 hz29_9)) ?_
  refine Zu (q_els (s := n_1.refs) gagg113 rfl rfl hz29_9) ?_
  refine VL.alloc (cs := [str [], i64 0]) (by kernel_rfl) (by decide) fun b5_10 => ?_
  refine Zv (vc := [str z29_9.name, i64 z29_9.commit]) (cs' := [str z29_9.name, i64 z29_9.commit]) rfl gsz113 ?_
  refine Zl ?_
  refine Zq ?_
  refine VC.draw [(0, true), (1, true), (2, true), (3, true), (4, true), (5, false), (6, false)] mixed (by kernel_rfl) (by kernel_rfl) (by kernel_rfl) ?_
  refine Zw rfl (q_move rfl) ?_
  refine Zw rfl (q_nilCheck rfl) ?_
  refine Zw rfl (q_field gfa143_0 rfl) ?_
  refine Zw rfl (q_field gfa113_0 rfl) ?_
  refine Zw rfl (q_fe gone9 rfl rfl) ?_
  refine VD.one rfl ?_
  refine VL.lit (α := Str) (xs := [.tmp 35]) (vs := [str z29_9.name]) [z29_9.name] Tryz.underlying37 glit9 (by decide) rfl rfl rfl rfl (by decide) (fun _ _ _ _ => trivial) (by decide) (fun s36_11 hs36_11 => ?_) (by decide)
  replace hS := lt_to hs36_11 hS
  refine VL.back (D' := [(2, ptr w_0_b 0), (1, ptr w_0_b 0)]) (by kernel_rfl) (Pend.cons rfl (q_field gfa143_0 rfl) (Pend.cons rfl (q_nilCheck rfl) (Pend.nil))) ?_
  refine VD.one rfl ?_
  obtain ⟨y37_13, ey37_13, hS⟩ := bd_s hS
  refine VL.callO (codec_Enc_Text_ct w_0_b (⟨c0_8⟩ : StateWriter) s36_11 ey37_13) rfl (by decide) ?_
  rintro q37_13_0 rfl
  try dsimp only
  refine VL.back (D' := []) (by kernel_rfl) (Pend.nil) ?_
  refine VD.to (fun _ _ h => h) ?_
  refine VC.keep [0, 3, 25, 26, 27, 5] rfl ?_
  refine VC.draw [(0, true), (1, true), (2, true), (3, true), (4, true), (5, false), (6, false)] mixed (by kernel_rfl) (by kernel_rfl) (by kernel_rfl) ?_
  refine Zw rfl (q_move rfl) ?_
  refine Zw rfl (q_nilCheck rfl) ?_
  refine Zw rfl (q_field gfa143_0 rfl) ?_
  refine Zw rfl (q_field gfa113_1 rfl) ?_
  refine Zw rfl (q_fe gone3 rfl rfl) ?_
  refine VD.one rfl ?_
  refine VL.lit (α := Int) (xs := [.tmp 42]) (vs := [i64 z29_9.commit]) [z29_9.commit] Tryz.underlying56 glit3 (by decide) rfl rfl rfl rfl (by decide) (fun _ _ _ _ => trivial) (by decide) (fun s43_14 hs43_14 => ?_) (by decide)
  replace hS := lt_to hs43_14 hS
  refine VL.back (D' := [(2, ptr w_0_b 0), (1, ptr w_0_b 0)]) (by kernel_rfl) (Pend.cons rfl (q_field gfa143_0 rfl) (Pend.cons rfl (q_nilCheck rfl) (Pend.nil))) ?_
  refine VD.one rfl ?_
  obtain ⟨y44_16, ey44_16, hS⟩ := bd_s hS
  refine VL.callO (codec_Enc_Int_ct w_0_b q37_13_0 s43_14 ey44_16) rfl (by decide) ?_
  rintro q44_16_0 rfl
  try dsimp only
  refine VL.back (D' := []) (by kernel_rfl) (Pend.nil) ?_
  refine VD.to (fun _ _ h => h) ?_
  refine VC.keep [0, 3, 25, 26, 27] rfl ?_
  refine Zr ?_
  obtain ⟨b45, hS⟩ := gd_s hS
  refine Zu (q_add rfl rfl b45) ?_
  refine Zm ?_
  refine VL.rnd ((x27_7 + 1), q44_16_0.enc_b) [0, 3, 25, 26, 27] (fun _ _ h => h) (go2 hS hK1) rfl
 replace hS := up2 hS hK1
 refine Zx ?_
 refine Zq (Zr ?_)
 refine Zm ?_
 refine Zu (q_field gfa35_3 rfl) ?_
 refine Zu (q_fep (j := 3) (n := 2) gagg28 rfl rfl rfl) ?_
 obtain ⟨y49_17, ey49_17, hS⟩ := bd_s hS
 refine VL.callO (state_writer_head_ct w_0_b (⟨c0_8⟩ : StateWriter) (⟨n_1.head_branch, n_1.head_commit⟩ : NamesHead) ey49_17) rfl (by decide) ?_
 rintro q49_17_0 rfl
 try dsimp only
 refine Zl ?_
 refine Zq (Zr ?_)
 refine Zm ?_
 refine Zu (q_field gfa35_4 rfl) ?_
 refine Zu (q_fep (j := 5) (n := 11) gagg31 rfl rfl rfl) ?_
 obtain ⟨y53_18, ey53_18, hS⟩ := bd_s hS
 refine VL.callO (state_writer_seq_ct w_0_b q49_17_0 (⟨n_1.seq_kind, n_1.seq_other, n_1.seq_text, n_1.seq_doing, n_1.seq_todo, n_1.seq_made, n_1.seq_branch, n_1.seq_head_branch, n_1.seq_head_commit, n_1.seq_index, n_1.seq_work⟩ : StateSeq) ey53_18) rfl (by decide) ?_
 rintro q53_18_0 rfl
 try dsimp only
 refine Zl ?_
 refine VC.keep [0, 3] rfl ?_
 refine Zq ?_
 refine VC.draw [(0, true), (1, true), (2, true), (3, true), (4, true), (5, true), (6, false), (7, false)] mixed (by kernel_rfl) (by kernel_rfl) (by kernel_rfl) ?_
 refine Zw rfl (q_move rfl) ?_
 refine Zw rfl (q_nilCheck rfl) ?_
 refine Zw rfl (q_field gfa143_0 rfl) ?_
 refine Zw rfl (q_field gfa35_5 rfl) ?_
 refine Zw rfl (q_fe gone33 rfl rfl) ?_
 refine Zw rfl (q_lnm ShelfShelf.pl (s := n_1.stash) Tryz.underlying33 rfl) ?_
 refine VD.one rfl ?_
 refine VL.lit (α := Int) (xs := [.tmp 59]) (vs := [i64 ((n_1.stash.l.map ShelfShelf.pl).length : Int)]) [((n_1.stash.l.map ShelfShelf.pl).length : Int)] Tryz.underlying56 glit3 (by decide) rfl rfl rfl rfl (by decide) (fun _ _ _ _ => trivial) (by decide) (fun s60_19 hs60_19 => ?_) (by decide)
 replace hS := lt_to hs60_19 hS
 refine VL.back (D' := [(2, ptr w_0_b 0), (1, ptr w_0_b 0)]) (by kernel_rfl) (Pend.cons rfl (q_field gfa143_0 rfl) (Pend.cons rfl (q_nilCheck rfl) (Pend.nil))) ?_
 refine VD.one rfl ?_
 obtain ⟨y61_21, ey61_21, hS⟩ := bd_s hS
 refine VL.callO (codec_Enc_Int_ct w_0_b q53_18_0 s60_19 ey61_21) rfl (by decide) ?_
 rintro q61_21_0 rfl
 try dsimp only
 refine VL.back (D' := []) (by kernel_rfl) (Pend.nil) ?_
 refine VD.to (fun _ _ h => h) ?_
 refine Zq (Zr ?_)
 refine Zu (q_field gfa35_5 rfl) ?_
 refine Zu (q_fe gone33 rfl rfl) ?_
 refine Zu (q_lnm ShelfShelf.pl (s := n_1.stash) Tryz.underlying33 rfl) ?_
 refine Zy ?_
 refine VC.keep [0, 63, 64, 65] rfl ?_
 refine Zb ?_
 refine VC.iter (S := Unit) (fun (_ : Unit) => ()) (fun (_ : Unit) => [(0, ptr w_0_b 0), (63, n_1.stash.val), (64, i64 ((n_1.stash.l.map ShelfShelf.pl).length : Int)), (65, i64 0)]) (fun (_ : Unit) => Mo.tt) (fun (_ : Unit) => Ow.star (Blk w_0_b [q61_21_0.enc_b.val] 143) (Ow.star (Blk b3_1 (zStateNow n_1) 35) (Ow.star (Sv.own q61_21_0.enc_b 5) (Ow.emp)))) () [0, 63, 64, 65] hS rfl ?_
 clear hS
 rintro _ m1 y1 hS hK1
 refine Zq (Zr ?_)
 refine Zu (q_lss rfl rfl) ?_
 refine Zl ?_
 refine Zq ?_
 refine Zc hS (fun h66 hS => ?_) (fun h66 hS => ?_)
 ·
  refine Zk ?_
  refine Zq (Zb (Zq (Zr ?_)))
  obtain ⟨z67_22, nz67_22, hz67_22, hS⟩ := atm_s hS
  refine VL.deep z67_22.m hz67_22 (fun _ q => q) ?_
  refine Zu (q_ixm (s := n_1.stash) Tryz.underlying33 gsz154 rfl rfl nz67_22 (lt_of_get nz67_22 hz67_22)) ?_
  refine Zu (q_els (s := n_1.stash) gagg154 rfl rfl hz67_22) ?_
  refine VL.alloc (cs := [i64 0, .slice none 0 0, .slice none 0 0, str []]) (by kernel_rfl) (by decide) fun b7_23 => ?_
  refine Zv (vc := [i64 z67_22.base, z67_22.index.val, z67_22.work.val, str z67_22.text]) (cs' := [i64 z67_22.base, z67_22.index.val, z67_22.work.val, str z67_22.text]) rfl gsz154 ?_
  refine Zl ?_
  refine Zq ?_
  cases hS
 replace hS := up2 hS hK1
 cases hS
 exact VC.exit (fin0 (.inl rfl) rfl ⟨q61_21_0.enc_b⟩ rfl rfl (by (try dsimp only); exact InM.out) (by (try dsimp only); exact EntO.out))
theorem state_writer_texts_ct (w_0_b : Nat) (w_0 : StateWriter) (l_1 : Sv Str) {r : StateWriterP} (hS : Sh.state_writer_texts w_0.pl l_1.l = some r) :
 Ct Tryz.prog 191 [ptr w_0_b 0, l_1.val] l_1.ok (Ow.star (Sv.own w_0.enc_b 5) (Blk w_0_b [w_0.enc_b.val] 143)) (X := StateWriter) (fun x => .tuple #[]) (fun x => r = x.pl) (fun x => Mo.tt) (fun x => Ow.star (Blk w_0_b [x.enc_b.val] 143) (Sv.own x.enc_b 5)) := by
 refine Zo Tryz.func191 Tryz.ntmps191 fun c => ?_
 unfold Sh.state_writer_texts at hS
 refine Zq (Zr ?_)
 refine Zm ?_
 refine Zu (q_nilCheck rfl) ?_
 refine Zu (q_field gfa143_0 rfl) ?_
 refine Zm ?_
 refine Zu (q_ln (s := l_1) Tryz.underlying37 rfl) ?_
 refine VL.lit (α := Int) (xs := [.tmp 8]) (vs := [i64 (l_1.l.length : Int)]) [(l_1.l.length : Int)] Tryz.underlying56 glit3 (by decide) rfl rfl rfl rfl (by decide) (fun _ _ _ _ => trivial) (by decide) (fun s9_1 hs9_1 => ?_) (by decide)
 replace hS := lt_to hs9_1 hS
 obtain ⟨y10_3, ey10_3, hS⟩ := bd_s hS
 refine VL.callO (codec_Enc_Int_ct w_0_b w_0 s9_1 ey10_3) rfl (by decide) ?_
 rintro q10_3_0 rfl
 try dsimp only
 refine Zl ?_
 refine Zr ?_
 refine Zm ?_
 refine Zu (q_nilCheck rfl) ?_
 refine Zu (q_field gfa143_0 rfl) ?_
 refine Zm ?_
 obtain ⟨y15_4, ey15_4, hS⟩ := bd_s hS
 refine VL.callO (codec_Enc_Text_ct w_0_b q10_3_0 l_1 ey15_4) rfl (by decide) ?_
 rintro q15_4_0 rfl
 try dsimp only
 cases hS
 exact VL.nil (fin0 (.inl rfl) rfl ⟨q15_4_0.enc_b⟩ rfl rfl (by (try dsimp only); exact InM.out) (by (try dsimp only); exact EntO.out))
theorem state_writer_state_ct (w_0_b : Nat) (w_0 : StateWriter) (s_1 : StateState) {r : StateWriterP} (hS : Sh.state_writer_state w_0.pl s_1.pl = some r) :
 Ct Tryz.prog 110 [ptr w_0_b 0, .agg (zStateState s_1).toArray] (s_1.now_work.ok.and (s_1.now_index.ok.and (s_1.now_refs.ok.and (s_1.now_seq_doing.ok.and (s_1.now_seq_todo.ok.and (s_1.now_seq_index.ok.and (s_1.now_seq_work.ok.and (s_1.now_stash.ok.and (s_1.commits.ok.and (s_1.log_back.ok.and s_1.log_forth.ok)))))))))) (Ow.star (Sv.own w_0.enc_b 5) (Blk w_0_b [w_0.enc_b.val] 143)) (X := StateWriter) (fun x => .tuple #[]) (fun x => r = x.pl) (fun x => Mo.tt) (fun x => Ow.star (Blk w_0_b [x.enc_b.val] 143) (Sv.own x.enc_b 5)) := by
 refine Zo Tryz.func110 Tryz.ntmps110 fun c => ?_
 unfold Sh.state_writer_state at hS
 refine Zq (Zr ?_)
 refine VL.box (cs := (zStateState s_1)) rfl rfl (by decide) fun b3_1 => ?_
 refine Zl ?_
 refine Zq (Zr ?_)
 refine Zm ?_
 refine Zu (q_field gfa41_0 rfl) ?_
 refine Zu (q_fep (j := 0) (n := 17) gagg35 rfl rfl rfl) ?_
 obtain ⟨y9_2, ey9_2, hS⟩ := bd_s hS
 refine VL.callO (state_writer_now_ct w_0_b w_0 (⟨s_1.now_work, s_1.now_index, s_1.now_refs, s_1.now_head_branch, s_1.now_head_commit, s_1.now_seq_kind, s_1.now_seq_other, s_1.now_seq_text, s_1.now_seq_doing, s_1.now_seq_todo, s_1.now_seq_made, s_1.now_seq_branch, s_1.now_seq_head_branch, s_1.now_seq_head_commit, s_1.now_seq_index, s_1.now_seq_work, s_1.now_stash⟩ : StateNow) ey9_2) rfl (by decide) ?_
 rintro q9_2_0 rfl
 try dsimp only
 refine Zl ?_
 refine Zq ?_
 refine VC.draw [(0, true), (1, true), (2, true), (3, true), (4, true), (5, true), (6, false), (7, false)] mixed (by kernel_rfl) (by kernel_rfl) (by kernel_rfl) ?_
 refine Zw rfl (q_move rfl) ?_
 refine Zw rfl (q_nilCheck rfl) ?_
 refine Zw rfl (q_field gfa143_0 rfl) ?_
 refine Zw rfl (q_field gfa41_1 rfl) ?_
 refine Zw rfl (q_fe gone36 rfl rfl) ?_
 refine Zw rfl (q_lnm StateCommit.pl (s := s_1.commits) Tryz.underlying36 rfl) ?_
 refine VD.one rfl ?_
 refine VL.lit (α := Int) (xs := [.tmp 15]) (vs := [i64 ((s_1.commits.l.map StateCommit.pl).length : Int)]) [((s_1.commits.l.map StateCommit.pl).length : Int)] Tryz.underlying56 glit3 (by decide) rfl rfl rfl rfl (by decide) (fun _ _ _ _ => trivial) (by decide) (fun s16_3 hs16_3 => ?_) (by decide)
 replace hS := lt_to hs16_3 hS
 refine VL.back (D' := [(2, ptr w_0_b 0), (1, ptr w_0_b 0)]) (by kernel_rfl) (Pend.cons rfl (q_field gfa143_0 rfl) (Pend.cons rfl (q_nilCheck rfl) (Pend.nil))) ?_
 refine VD.one rfl ?_
 obtain ⟨y17_5, ey17_5, hS⟩ := bd_s hS
 refine VL.callO (codec_Enc_Int_ct w_0_b q9_2_0 s16_3 ey17_5) rfl (by decide) ?_
 rintro q17_5_0 rfl
 try dsimp only
 refine VL.back (D' := []) (by kernel_rfl) (Pend.nil) ?_
 refine VD.to (fun _ _ h => h) ?_
 refine VC.keep [0, 3] rfl ?_
 refine Zq (Zq (Zr ?_))
 refine Zu (q_field gfa41_1 rfl) ?_
 refine Zu (q_fe gone36 rfl rfl) ?_
 refine Zu (q_lnm StateCommit.pl (s := s_1.commits) Tryz.underlying36 rfl) ?_
 refine Zy ?_
 refine Zb ?_
 refine VC.iter (S := Int × Sv UInt8) (fun sg => (sg.1, sg.2.l)) (fun sg => [(0, ptr w_0_b 0), (3, ptr b3_1 0), (19, s_1.commits.val), (20, i64 ((s_1.commits.l.map StateCommit.pl).length : Int)), (21, i64 sg.1)]) (fun sg => Mo.tt) (fun sg => Ow.star (Blk w_0_b [sg.2.val] 143) (Ow.star (Blk b3_1 (zStateState s_1) 41) (Ow.star (Sv.own sg.2 5) (Ow.emp)))) (0, q17_5_0.enc_b) [0, 3, 19, 20, 21] hS rfl ?_
 clear hS
 rintro ⟨x21_6, c0_7⟩ m1 y1 hS hK1
 refine Zq (Zr ?_)
 refine Zu (q_lss rfl rfl) ?_
 refine Zl ?_
 refine Zq ?_
 refine Zc hS (fun h22 hS => ?_) (fun h22 hS => ?_)
 ·
  refine Zk ?_
  refine Zq (Zb (Zq (Zr ?_)))
  obtain ⟨z23_8, nz23_8, hz23_8, hS⟩ := atm_s hS
  refine VL.deep z23_8.m hz23_8 (fun _ q => q) ?_
  refine Zu (q_ixm (s := s_1.commits) Tryz.underlying36 gsz58 rfl rfl nz23_8 (lt_of_get nz23_8 hz23_8)) ?_
  refine Zu (q_els (s := s_1.commits) gagg58 rfl rfl hz23_8) ?_
  refine VL.alloc (cs := [.slice none 0 0, .slice none 0 0, i64 0, str []]) (by kernel_rfl) (by decide) fun b5_9 => ?_
  refine Zv (vc := [z23_8.tree.val, z23_8.parents.val, i64 z23_8.time, str z23_8.text]) (cs' := [z23_8.tree.val, z23_8.parents.val, i64 z23_8.time, str z23_8.text]) rfl gsz58 ?_
  refine Zl ?_
  refine Zq (Zr ?_)
  refine Zm ?_
  refine Zu (q_field gfa58_0 rfl) ?_
  refine Zu (q_fe gone24 rfl rfl) ?_
  obtain ⟨y28_10, ey28_10, hS⟩ := bd_s hS
  refine VL.callO (state_writer_row_ct w_0_b (⟨c0_7⟩ : StateWriter) z23_8.tree ey28_10) rfl (by decide) ?_
  rintro q28_10_0 rfl
  try dsimp only
  refine Zl ?_
  refine VC.keep [0, 3, 19, 20, 21, 5] rfl ?_
  refine Zq ?_
  refine VC.draw [(0, true), (1, true), (2, true), (3, true), (4, true), (5, true), (6, false), (7, false)] mixed (by kernel_rfl) (by kernel_rfl) (by kernel_rfl) ?_
  refine Zw rfl (q_move rfl) ?_
  refine Zw rfl (q_nilCheck rfl) ?_
  refine Zw rfl (q_field gfa143_0 rfl) ?_
  refine Zw rfl (q_field gfa58_1 rfl) ?_
  refine Zw rfl (q_fe gone56 rfl rfl) ?_
  refine Zw rfl (q_ln (s := z23_8.parents) Tryz.underlying56 rfl) ?_
  refine VD.one rfl ?_
  refine VL.lit (α := Int) (xs := [.tmp 34]) (vs := [i64 (z23_8.parents.l.length : Int)]) [(z23_8.parents.l.length : Int)] Tryz.underlying56 glit3 (by decide) rfl rfl rfl rfl (by decide) (fun _ _ _ _ => trivial) (by decide) (fun s35_11 hs35_11 => ?_) (by decide)
  replace hS := lt_to hs35_11 hS
  refine VL.back (D' := [(2, ptr w_0_b 0), (1, ptr w_0_b 0)]) (by kernel_rfl) (Pend.cons rfl (q_field gfa143_0 rfl) (Pend.cons rfl (q_nilCheck rfl) (Pend.nil))) ?_
  refine VD.one rfl ?_
  obtain ⟨y36_13, ey36_13, hS⟩ := bd_s hS
  refine VL.callO (codec_Enc_Int_ct w_0_b q28_10_0 s35_11 ey36_13) rfl (by decide) ?_
  rintro q36_13_0 rfl
  try dsimp only
  refine VL.back (D' := []) (by kernel_rfl) (Pend.nil) ?_
  refine VD.to (fun _ _ h => h) ?_
  refine VC.keep [0, 3, 19, 20, 21, 5] rfl ?_
  refine Zq ?_
  refine VC.draw [(0, true), (1, true), (2, true), (3, true), (4, true), (5, false)] mixed (by kernel_rfl) (by kernel_rfl) (by kernel_rfl) ?_
  refine Zw rfl (q_move rfl) ?_
  refine Zw rfl (q_nilCheck rfl) ?_
  refine Zw rfl (q_field gfa143_0 rfl) ?_
  refine Zw rfl (q_field gfa58_1 rfl) ?_
  refine Zw rfl (q_fe gone56 rfl rfl) ?_
  refine VD.one rfl ?_
  obtain ⟨y42_14, ey42_14, hS⟩ := bd_s hS
  refine VL.callO (codec_Enc_Int_ct w_0_b q36_13_0 z23_8.parents ey42_14) rfl (by decide) ?_
  rintro q42_14_0 rfl
  try dsimp only
  refine VL.back (D' := []) (by kernel_rfl) (Pend.nil) ?_
  refine VD.to (fun _ _ h => h) ?_
  refine Zq ?_
  refine VC.draw [(0, true), (1, true), (2, true), (3, true), (4, true), (5, false), (6, false)] mixed (by kernel_rfl) (by kernel_rfl) (by kernel_rfl) ?_
  refine Zw rfl (q_move rfl) ?_
  refine Zw rfl (q_nilCheck rfl) ?_
  refine Zw rfl (q_field gfa143_0 rfl) ?_
  refine Zw rfl (q_field gfa58_2 rfl) ?_
  refine Zw rfl (q_fe gone3 rfl rfl) ?_
  refine VD.one rfl ?_
  refine VL.lit (α := Int) (xs := [.tmp 47]) (vs := [i64 z23_8.time]) [z23_8.time] Tryz.underlying56 glit3 (by decide) rfl rfl rfl rfl (by decide) (fun _ _ _ _ => trivial) (by decide) (fun s48_15 hs48_15 => ?_) (by decide)
  replace hS := lt_to hs48_15 hS
  refine VL.back (D' := [(2, ptr w_0_b 0), (1, ptr w_0_b 0)]) (by kernel_rfl) (Pend.cons rfl (q_field gfa143_0 rfl) (Pend.cons rfl (q_nilCheck rfl) (Pend.nil))) ?_
  refine VD.one rfl ?_
  obtain ⟨y49_17, ey49_17, hS⟩ := bd_s hS
  refine VL.callO (codec_Enc_Int_ct w_0_b q42_14_0 s48_15 ey49_17) rfl (by decide) ?_
  rintro q49_17_0 rfl
  try dsimp only
  refine VL.back (D' := []) (by kernel_rfl) (Pend.nil) ?_
  refine VD.to (fun _ _ h => h) ?_
  refine VC.keep [0, 3, 19, 20, 21, 5] rfl ?_
  refine VC.draw [(0, true), (1, true), (2, true), (3, true), (4, true), (5, false), (6, false)] mixed (by kernel_rfl) (by kernel_rfl) (by kernel_rfl) ?_
  refine Zw rfl (q_move rfl) ?_
  refine Zw rfl (q_nilCheck rfl) ?_
  refine Zw rfl (q_field gfa143_0 rfl) ?_
  refine Zw rfl (q_field gfa58_3 rfl) ?_
  refine Zw rfl (q_fe gone9 rfl rfl) ?_
  refine VD.one rfl ?_
  refine VL.lit (α := Str) (xs := [.tmp 54]) (vs := [str z23_8.text]) [z23_8.text] Tryz.underlying37 glit9 (by decide) rfl rfl rfl rfl (by decide) (fun _ _ _ _ => trivial) (by decide) (fun s55_18 hs55_18 => ?_) (by decide)
  replace hS := lt_to hs55_18 hS
  refine VL.back (D' := [(2, ptr w_0_b 0), (1, ptr w_0_b 0)]) (by kernel_rfl) (Pend.cons rfl (q_field gfa143_0 rfl) (Pend.cons rfl (q_nilCheck rfl) (Pend.nil))) ?_
  refine VD.one rfl ?_
  obtain ⟨y56_20, ey56_20, hS⟩ := bd_s hS
  refine VL.callO (codec_Enc_Text_ct w_0_b q49_17_0 s55_18 ey56_20) rfl (by decide) ?_
  rintro q56_20_0 rfl
  try dsimp only
  refine VL.back (D' := []) (by kernel_rfl) (Pend.nil) ?_
  refine VD.to (fun _ _ h => h) ?_
  refine VC.keep [0, 3, 19, 20, 21] rfl ?_
  refine Zr ?_
  obtain ⟨b57, hS⟩ := gd_s hS
  refine Zu (q_add rfl rfl b57) ?_
  refine Zm ?_
  refine VL.rnd ((x21_6 + 1), q56_20_0.enc_b) [0, 3, 19, 20, 21] (fun _ _ h => h) (go2 hS hK1) rfl
 replace hS := up2 hS hK1
 refine Zx ?_
 refine Zq (Zr ?_)
 refine Zm ?_
 refine Zu (q_field gfa41_2 rfl) ?_
 refine Zu (q_field gfa39_0 rfl) ?_
 refine Zu (q_fe gone37 rfl rfl) ?_
 obtain ⟨y62_21, ey62_21, hS⟩ := bd_s hS
 refine VL.callO (state_writer_texts_ct w_0_b (⟨c0_7⟩ : StateWriter) s_1.log_back ey62_21) rfl (by decide) ?_
 rintro q62_21_0 rfl
 try dsimp only
 refine Zl ?_
 refine VC.keep [0, 3] rfl ?_
 refine Zq (Zr ?_)
 refine Zm ?_
 refine Zu (q_field gfa41_2 rfl) ?_
 refine Zu (q_field gfa39_1 rfl) ?_
 refine Zu (q_fe gone37 rfl rfl) ?_
 obtain ⟨y67_22, ey67_22, hS⟩ := bd_s hS
 refine VL.callO (state_writer_texts_ct w_0_b q62_21_0 s_1.log_forth ey67_22) rfl (by decide) ?_
 rintro q67_22_0 rfl
 try dsimp only
 refine Zl ?_
 refine VC.draw [(0, true), (1, true), (2, true), (3, true), (4, true), (5, false), (6, false)] mixed (by kernel_rfl) (by kernel_rfl) (by kernel_rfl) ?_
 refine Zw rfl (q_move rfl) ?_
 refine Zw rfl (q_nilCheck rfl) ?_
 refine Zw rfl (q_field gfa143_0 rfl) ?_
 refine Zw rfl (q_field gfa41_3 rfl) ?_
 refine Zw rfl (q_fe gone3 rfl rfl) ?_
 refine VD.one rfl ?_
 refine VL.lit (α := Int) (xs := [.tmp 72]) (vs := [i64 s_1.time]) [s_1.time] Tryz.underlying56 glit3 (by decide) rfl rfl rfl rfl (by decide) (fun _ _ _ _ => trivial) (by decide) (fun s73_23 hs73_23 => ?_) (by decide)
 replace hS := lt_to hs73_23 hS
 refine VL.back (D' := [(2, ptr w_0_b 0), (1, ptr w_0_b 0)]) (by kernel_rfl) (Pend.cons rfl (q_field gfa143_0 rfl) (Pend.cons rfl (q_nilCheck rfl) (Pend.nil))) ?_
 refine VD.one rfl ?_
 obtain ⟨y74_25, ey74_25, hS⟩ := bd_s hS
 refine VL.callO (codec_Enc_Int_ct w_0_b q67_22_0 s73_23 ey74_25) rfl (by decide) ?_
 rintro q74_25_0 rfl
 try dsimp only
 refine VL.back (D' := []) (by kernel_rfl) (Pend.nil) ?_
 cases hS
 exact VD.nil (fin0 (.inl rfl) rfl ⟨q74_25_0.enc_b⟩ rfl rfl (by (try dsimp only); exact InM.out) (by (try dsimp only); exact EntO.out))
theorem slices_Clone_byte_byte_ct (s_0 : Sv UInt8) {r : List UInt8} (hS : Sh.slices_Clone_byte_byte s_0.l = some r) :
 Ct Tryz.prog 147 [s_0.val] s_0.ok (Ow.emp) (X := Sv UInt8) (fun x => x.val) (fun x => r = x.l) (fun x => Mo.tt) (fun x => Sv.own x 5) := by
 refine Zo Tryz.func147 Tryz.ntmps147 fun c => ?_
 unfold Sh.slices_Clone_byte_byte at hS
 refine Zq (Zr ?_)
 refine Zy ?_
 refine Zq (Zq (Zr ?_))
 refine Zm ?_
 refine Zu (q_slnil (s := s_0) Tryz.underlying64 rfl) ?_
 refine Zl ?_
 refine VC.slnil (s := s_0) rfl (fun h4 => ?_) ?_
 ·
  have hS : (some []) = some r := by
    simp [lt, gd, h4] at hS ⊢
    try exact hS
  refine Zq (Zr ?_)
  refine Zy ?_
  refine VC.nilO (⟨none, 0, []⟩ : Sv UInt8) 5 ⟨rfl, rfl⟩ ?_
  cases hS
  exact VC.ret (fin1 (.inr rfl) rfl rfl ⟨none, 0, []⟩ rfl rfl (by (try dsimp only); exact InM.out) (by (try dsimp only); exact EntO.out))
 refine Zk ?_
 refine Zq (Zr ?_)
 refine VL.lit0 (α := UInt8) Tryz.underlying64 ghas5 (by decide) (fun s5_1 hs5_1 hcs5_1 => ?_)
 refine VL.nilO s5_1 5 ⟨hcs5_1, hs5_1⟩ ?_
 replace hS := lt_to hs5_1 hS
 refine Zm ?_
 obtain ⟨b7, hS⟩ := gd_s hS
 refine VL.app (s := s5_1) (r := s_0) Tryz.underlying64 gapp5 (by decide) rfl Fo.out (ap1 b7) (ap2 b7 (by decide)) (by decide) (fun s7_3 hs7_3 => ?_)
 replace hS := lt_to hs7_3 hS
 refine Zy ?_
 cases hS
 exact VC.ret (fin1 (.inr rfl) rfl rfl s7_3 rfl rfl (by (try dsimp only); exact InM.out) (by (try dsimp only); exact EntO.out))
theorem slices_Clip_byte_byte_ct (s_0 : Sv UInt8) {r : List UInt8} (hS : Sh.slices_Clip_byte_byte s_0.l = some r) :
 Ct Tryz.prog 146 [s_0.val] s_0.ok (Ow.emp) (X := Sv UInt8) (fun x => x.val) (fun x => r = x.l) (fun x => x.ok) (fun x => Ow.emp) := by
 refine Zo Tryz.func146 Tryz.ntmps146 fun c => ?_
 unfold Sh.slices_Clip_byte_byte at hS
 refine Zq (Zr ?_)
 refine Zy ?_
 refine Zq (Zr ?_)
 refine Zy ?_
 refine Zu (q_ln (s := s_0) Tryz.underlying64 rfl) ?_
 refine Zm ?_
 refine Zu (q_ln (s := s_0) Tryz.underlying64 rfl) ?_
 obtain ⟨b8, hS⟩ := gd_s hS
 refine VL.stom Tryz.underlying64 gsz5 rfl rfl rfl b8.1 (b8.2) (by decide) fun s8_1 hs8_1 => ?_
 replace hS := lt_to hs8_1 hS
 refine Zy ?_
 cases hS
 exact VC.ret (fin1 (.inr rfl) rfl rfl s8_1 rfl rfl (by (try dsimp only); exact InM.out) (fun _ _ => trivial))
theorem codec_Enc_Bytes_ct (e_0_b : Nat) (e_0 : StateWriter) {r : List UInt8} (hS : Sh.codec_Enc_Bytes e_0.pl = some r) :
 Ct Tryz.prog 71 [ptr e_0_b 0] Mo.tt (Ow.star (Sv.own e_0.enc_b 5) (Blk e_0_b [e_0.enc_b.val] 143)) (X := Sv UInt8) (fun x => x.val) (fun x => r = x.l) (fun x => x.ok) (fun x => Ow.star (Blk e_0_b [e_0.enc_b.val] 143) (Sv.own e_0.enc_b 5)) := by
 refine Zo Tryz.func71 Tryz.ntmps71 fun c => ?_
 unfold Sh.codec_Enc_Bytes at hS
 refine Zq (Zr ?_)
 refine Zy ?_
 refine Zq (Zr ?_)
 refine Zm ?_
 refine Zu (q_nilCheck rfl) ?_
 refine Zu (q_field gfa141_0 rfl) ?_
 refine Zu (q_fe gone64 rfl rfl) ?_
 obtain ⟨y7_1, ey7_1, hS⟩ := bd_s hS
 refine VL.callOR (slices_Clone_byte_byte_ct e_0.enc_b ey7_1) rfl (by decide) ?_
 rintro q7_1_0 rfl
 try dsimp only
 refine VL.shut q7_1_0 5 (fun _ _ _ _ => trivial) ?_
 obtain ⟨y8_2, ey8_2, hS⟩ := bd_s hS
 refine VL.callF (slices_Clip_byte_byte_ct q7_1_0 ey8_2) rfl (by decide) ?_
 rintro q8_2_0 rfl
 try dsimp only
 refine Zy ?_
 cases hS
 exact VC.ret (fin1 (.inr rfl) rfl rfl q8_2_0 rfl rfl (by (try dsimp only); exact InM.out) (by (try dsimp only); exact EntO.out))
theorem state_Encode_ct (s_0 : StateState) {r : List UInt8} (hS : Sh.state_Encode s_0.pl = some r) :
 Ct Tryz.prog 59 [.agg (zStateState s_0).toArray] (s_0.now_work.ok.and (s_0.now_index.ok.and (s_0.now_refs.ok.and (s_0.now_seq_doing.ok.and (s_0.now_seq_todo.ok.and (s_0.now_seq_index.ok.and (s_0.now_seq_work.ok.and (s_0.now_stash.ok.and (s_0.commits.ok.and (s_0.log_back.ok.and s_0.log_forth.ok)))))))))) (Ow.emp) (X := Sv UInt8) (fun x => x.val) (fun x => r = x.l) (fun x => x.ok) (fun x => Ow.emp) := by
 refine Zo Tryz.func59 Tryz.ntmps59 fun c => ?_
 unfold Sh.state_Encode at hS
 refine Zq (Zr ?_)
 refine VL.box (cs := (zStateState s_0)) rfl rfl (by decide) fun b1_1 => ?_
 refine Zy ?_
 refine Zq (Zr ?_)
 refine VL.alloc (cs := [.slice none 0 0]) (by kernel_rfl) (by decide) fun b3_2 => ?_
 refine Zl ?_
 refine Zq (Zr ?_)
 refine Zu (q_fes gagg41 rfl rfl) ?_
 refine VL.nilO (⟨none, 0, []⟩ : Sv UInt8) 5 ⟨rfl, rfl⟩ ?_
 refine VL.reB b3_2 (cs' := [(⟨none, 0, []⟩ : Sv UInt8).val]) rfl ?_
 obtain ⟨y5_3, ey5_3, hS⟩ := bd_s hS
 refine VL.callO (state_writer_state_ct b3_2 (⟨(⟨none, 0, []⟩ : Sv UInt8)⟩ : StateWriter) s_0 ey5_3) rfl (by decide) ?_
 rintro q5_3_0 rfl
 try dsimp only
 refine Zl ?_
 refine Zq (Zr ?_)
 refine Zu (q_field gfa143_0 rfl) ?_
 obtain ⟨y7_4, ey7_4, hS⟩ := bd_s hS
 refine VL.callO (codec_Enc_Bytes_ct b3_2 q5_3_0 ey7_4) rfl (by decide) ?_
 rintro q7_4_0 rfl
 try dsimp only
 refine Zy ?_
 cases hS
 exact VC.ret (fin1 (.inr rfl) rfl rfl q7_4_0 rfl rfl (by (try dsimp only); exact InM.out) (fun _ _ => trivial))
theorem codec_Of_ct (b_0 : Sv UInt8) {r : CodecDecP} (hS : Sh.codec_Of b_0.l = some r) :
 Ct Tryz.prog 78 [b_0.val] b_0.ok (Ow.emp) (X := Nat × CodecDec) (fun x => ptr x.1 0) (fun x => r = x.2.pl) (fun x => (x.2.b.ok.and x.2.err.ok)) (fun x => Blk x.1 [x.2.b.val, i64 x.2.at_, x.2.err.val] 218) := by
 refine Zo Tryz.func78 Tryz.ntmps78 fun c => ?_
 unfold Sh.codec_Of at hS
 refine Zq (Zr ?_)
 refine Zy ?_
 refine Zq (Zr ?_)
 refine Zm ?_
 obtain ⟨y4_1, ey4_1, hS⟩ := bd_s hS
 refine VL.callO (slices_Clone_byte_byte_ct b_0 ey4_1) rfl (by decide) ?_
 rintro q4_1_0 rfl
 try dsimp only
 refine Zu (q_build (vs := [(0, q4_1_0.val)]) (cs := #[q4_1_0.val, i64 0, .nilIface]) rfl (by kernel_rfl)) ?_
 refine VL.box (cs := [q4_1_0.val, i64 0, .nilIface]) rfl rfl (by decide) fun b6_2 => ?_
 refine Zy ?_
 refine VC.shut q4_1_0 5 (fun _ _ _ _ => trivial) ?_
 refine VC.reB b6_2 (cs' := [q4_1_0.val, i64 0, (Er.nil).val]) rfl ?_
 cases hS
 exact VC.ret (fin1 (.inr rfl) rfl rfl (b6_2, ⟨q4_1_0, 0, (Er.nil)⟩) rfl rfl (by (try dsimp only); exact InM.out) (by (try dsimp only); exact EntO.out))
end Go.Proofs.YtdfbpkpldjpioaaGreatDoor
end
