/- Part of the proofs of: the law StateBack: any state as bytes, and back; its graph, its trees, its weight (any parts) (second form: where what is read is of bulk at most 1048576) -/
import Derived.Test.YthbccdlpalenlaaGreatDoorRows
import Derived.Test.YthbccdlpalenlaaGreatDoorQB
set_option linter.unusedVariables false
set_option linter.unusedSimpArgs false
set_option linter.unusedSectionVars false
section
set_option linter.unusedVariables false
namespace Go.Proofs.YthbccdlpalenlaaGreatDoor
set_option maxHeartbeats 4000000
set_option maxRecDepth 100000
set_option synthInstance.maxSize 2000
set_option synthInstance.maxHeartbeats 1000000
open Go.RowKit Go.V
open Go.S hiding Str
theorem mixed : Tryz.prog.follows .mixedOrders = true := by kernel_rfl
theorem gszb : (Tryz.prog.info? 212).map (·.size) = some 2 := by kernel_rfl
theorem gappb : ((Tryz.prog.info? 5).map fun i => (i.size, i.bytes, i.zero)) = some (1, 1, some (.int .u8 0)) := by kernel_rfl
theorem gfa212_0 : FieldAt Tryz.prog 212 0 0 := fieldAt_sz (n := 0) (f := ⟨_, _, 0, _, _, _, _⟩) Tryz.underlying212 rfl (by kernel_rfl)
theorem gfa212_1 : FieldAt Tryz.prog 212 1 1 := fieldAt_sz (n := 0) (f := ⟨_, _, 1, _, _, _, _⟩) Tryz.underlying212 rfl (by kernel_rfl)
theorem gone210 : OneCell Tryz.prog 210 := oneCell_of Tryz.underlying210 rfl
theorem gone22 : OneCell Tryz.prog 22 := oneCell_of Tryz.underlying22 rfl
theorem gsz210 : (Tryz.prog.info? 210).map (·.size) = some 1 := by kernel_rfl
theorem gsz22 : (Tryz.prog.info? 22).map (·.size) = some 1 := by kernel_rfl
theorem gone26 : OneCell Tryz.prog 26 := oneCell_of Tryz.underlying26 rfl
theorem gsz93 : (Tryz.prog.info? 93).map (·.size) = some 21 := by kernel_rfl
theorem gagg93 : AggOf Tryz.prog 93 21 := aggOf_of Tryz.underlying93 rfl (by kernel_rfl)
theorem gfa93_0 : FieldAt Tryz.prog 93 0 0 := fieldAt_sz (n := 16) (f := ⟨_, _, 0, _, _, _, _⟩) Tryz.underlying93 rfl (by kernel_rfl)
theorem gagg61 : AggOf Tryz.prog 61 17 := aggOf_of Tryz.underlying61 rfl (by kernel_rfl)
theorem gfa61_0 : FieldAt Tryz.prog 61 0 0 := fieldAt_sz (n := 0) (f := ⟨_, _, 0, _, _, _, _⟩) Tryz.underlying61 rfl (by kernel_rfl)
theorem gone50 : OneCell Tryz.prog 50 := oneCell_of Tryz.underlying50 rfl
theorem gfa157_0 : FieldAt Tryz.prog 157 0 0 := fieldAt_sz (n := 0) (f := ⟨_, _, 0, _, _, _, _⟩) Tryz.underlying157 rfl (by kernel_rfl)
theorem glit3 : ((Tryz.prog.info? 3).map fun i => (i.size, i.zero.isSome)) = some (1, true) := by kernel_rfl
theorem gsz3 : (Tryz.prog.info? 3).map (·.size) = some 1 := by kernel_rfl
theorem gone3 : OneCell Tryz.prog 3 := oneCell_of Tryz.underlying3 rfl
theorem gfa147_0 : FieldAt Tryz.prog 147 0 0 := fieldAt_sz (n := 0) (f := ⟨_, _, 0, _, _, _, _⟩) Tryz.underlying147 rfl (by kernel_rfl)
theorem glit5 : ((Tryz.prog.info? 5).map fun i => (i.size, i.zero.isSome)) = some (1, true) := by kernel_rfl
theorem gapp5 : ((Tryz.prog.info? 5).map fun i => (i.size, i.bytes, (i.zero.map fun z => z.cells.size))) = some (1, 1, some 1) := by kernel_rfl
theorem gsz185 : (Tryz.prog.info? 185).map (·.size) = some 3 := by kernel_rfl
theorem gagg185 : AggOf Tryz.prog 185 3 := aggOf_of Tryz.underlying185 rfl (by kernel_rfl)
theorem gfa185_0 : FieldAt Tryz.prog 185 0 0 := fieldAt_sz (n := 0) (f := ⟨_, _, 0, _, _, _, _⟩) Tryz.underlying185 rfl (by kernel_rfl)
theorem gone9 : OneCell Tryz.prog 9 := oneCell_of Tryz.underlying9 rfl
theorem glit9 : ((Tryz.prog.info? 9).map fun i => (i.size, i.zero.isSome)) = some (1, true) := by kernel_rfl
theorem gsz9 : (Tryz.prog.info? 9).map (·.size) = some 1 := by kernel_rfl
theorem gapb5 : ((Tryz.prog.info? 5).map fun i => (i.size, i.bytes, i.zero)) = some (1, 1, some (.int .u8 0)) := by kernel_rfl
theorem gfa185_1 : FieldAt Tryz.prog 185 1 1 := fieldAt_sz (n := 0) (f := ⟨_, _, 1, _, _, _, _⟩) Tryz.underlying185 rfl (by kernel_rfl)
theorem gfa185_2 : FieldAt Tryz.prog 185 2 2 := fieldAt_sz (n := 0) (f := ⟨_, _, 2, _, _, _, _⟩) Tryz.underlying185 rfl (by kernel_rfl)
theorem gfa61_1 : FieldAt Tryz.prog 61 1 1 := fieldAt_sz (n := 0) (f := ⟨_, _, 1, _, _, _, _⟩) Tryz.underlying61 rfl (by kernel_rfl)
theorem gone51 : OneCell Tryz.prog 51 := oneCell_of Tryz.underlying51 rfl
theorem gsz218 : (Tryz.prog.info? 218).map (·.size) = some 6 := by kernel_rfl
theorem gagg218 : AggOf Tryz.prog 218 6 := aggOf_of Tryz.underlying218 rfl (by kernel_rfl)
theorem gfa218_0 : FieldAt Tryz.prog 218 0 0 := fieldAt_sz (n := 0) (f := ⟨_, _, 0, _, _, _, _⟩) Tryz.underlying218 rfl (by kernel_rfl)
theorem gfa218_1 : FieldAt Tryz.prog 218 1 1 := fieldAt_sz (n := 0) (f := ⟨_, _, 1, _, _, _, _⟩) Tryz.underlying218 rfl (by kernel_rfl)
theorem gfa218_2 : FieldAt Tryz.prog 218 2 2 := fieldAt_sz (n := 0) (f := ⟨_, _, 2, _, _, _, _⟩) Tryz.underlying218 rfl (by kernel_rfl)
theorem gfa218_3 : FieldAt Tryz.prog 218 3 3 := fieldAt_sz (n := 0) (f := ⟨_, _, 3, _, _, _, _⟩) Tryz.underlying218 rfl (by kernel_rfl)
theorem gfa218_4 : FieldAt Tryz.prog 218 4 4 := fieldAt_sz (n := 0) (f := ⟨_, _, 4, _, _, _, _⟩) Tryz.underlying218 rfl (by kernel_rfl)
theorem gfa218_5 : FieldAt Tryz.prog 218 5 5 := fieldAt_sz (n := 0) (f := ⟨_, _, 5, _, _, _, _⟩) Tryz.underlying218 rfl (by kernel_rfl)
theorem gfa61_2 : FieldAt Tryz.prog 61 2 2 := fieldAt_sz (n := 0) (f := ⟨_, _, 2, _, _, _, _⟩) Tryz.underlying61 rfl (by kernel_rfl)
theorem gone52 : OneCell Tryz.prog 52 := oneCell_of Tryz.underlying52 rfl
theorem gsz216 : (Tryz.prog.info? 216).map (·.size) = some 2 := by kernel_rfl
theorem gagg216 : AggOf Tryz.prog 216 2 := aggOf_of Tryz.underlying216 rfl (by kernel_rfl)
theorem gfa216_0 : FieldAt Tryz.prog 216 0 0 := fieldAt_sz (n := 0) (f := ⟨_, _, 0, _, _, _, _⟩) Tryz.underlying216 rfl (by kernel_rfl)
theorem gfa216_1 : FieldAt Tryz.prog 216 1 1 := fieldAt_sz (n := 0) (f := ⟨_, _, 1, _, _, _, _⟩) Tryz.underlying216 rfl (by kernel_rfl)
theorem gfa61_3 : FieldAt Tryz.prog 61 3 3 := fieldAt_sz (n := 1) (f := ⟨_, _, 3, _, _, _, _⟩) Tryz.underlying61 rfl (by kernel_rfl)
theorem gagg54 : AggOf Tryz.prog 54 2 := aggOf_of Tryz.underlying54 rfl (by kernel_rfl)
theorem gfa54_0 : FieldAt Tryz.prog 54 0 0 := fieldAt_sz (n := 0) (f := ⟨_, _, 0, _, _, _, _⟩) Tryz.underlying54 rfl (by kernel_rfl)
theorem gfa54_1 : FieldAt Tryz.prog 54 1 1 := fieldAt_sz (n := 0) (f := ⟨_, _, 1, _, _, _, _⟩) Tryz.underlying54 rfl (by kernel_rfl)
theorem gfa61_4 : FieldAt Tryz.prog 61 4 5 := fieldAt_sz (n := 10) (f := ⟨_, _, 5, _, _, _, _⟩) Tryz.underlying61 rfl (by kernel_rfl)
theorem gagg57 : AggOf Tryz.prog 57 11 := aggOf_of Tryz.underlying57 rfl (by kernel_rfl)
theorem gfa57_0 : FieldAt Tryz.prog 57 0 0 := fieldAt_sz (n := 0) (f := ⟨_, _, 0, _, _, _, _⟩) Tryz.underlying57 rfl (by kernel_rfl)
theorem gfa57_1 : FieldAt Tryz.prog 57 1 1 := fieldAt_sz (n := 0) (f := ⟨_, _, 1, _, _, _, _⟩) Tryz.underlying57 rfl (by kernel_rfl)
theorem gfa57_2 : FieldAt Tryz.prog 57 2 2 := fieldAt_sz (n := 0) (f := ⟨_, _, 2, _, _, _, _⟩) Tryz.underlying57 rfl (by kernel_rfl)
theorem gfa57_3 : FieldAt Tryz.prog 57 3 3 := fieldAt_sz (n := 0) (f := ⟨_, _, 3, _, _, _, _⟩) Tryz.underlying57 rfl (by kernel_rfl)
theorem gone55 : OneCell Tryz.prog 55 := oneCell_of Tryz.underlying55 rfl
theorem gsz278 : (Tryz.prog.info? 278).map (·.size) = some 3 := by kernel_rfl
theorem gagg278 : AggOf Tryz.prog 278 3 := aggOf_of Tryz.underlying278 rfl (by kernel_rfl)
theorem gfa278_0 : FieldAt Tryz.prog 278 0 0 := fieldAt_sz (n := 0) (f := ⟨_, _, 0, _, _, _, _⟩) Tryz.underlying278 rfl (by kernel_rfl)
theorem gfa278_1 : FieldAt Tryz.prog 278 1 1 := fieldAt_sz (n := 0) (f := ⟨_, _, 1, _, _, _, _⟩) Tryz.underlying278 rfl (by kernel_rfl)
theorem gfa278_2 : FieldAt Tryz.prog 278 2 2 := fieldAt_sz (n := 0) (f := ⟨_, _, 2, _, _, _, _⟩) Tryz.underlying278 rfl (by kernel_rfl)
theorem gfa57_4 : FieldAt Tryz.prog 57 4 4 := fieldAt_sz (n := 0) (f := ⟨_, _, 4, _, _, _, _⟩) Tryz.underlying57 rfl (by kernel_rfl)
theorem gfa57_5 : FieldAt Tryz.prog 57 5 5 := fieldAt_sz (n := 0) (f := ⟨_, _, 5, _, _, _, _⟩) Tryz.underlying57 rfl (by kernel_rfl)
theorem gfa57_6 : FieldAt Tryz.prog 57 6 6 := fieldAt_sz (n := 0) (f := ⟨_, _, 6, _, _, _, _⟩) Tryz.underlying57 rfl (by kernel_rfl)
theorem gfa57_7 : FieldAt Tryz.prog 57 7 7 := fieldAt_sz (n := 1) (f := ⟨_, _, 7, _, _, _, _⟩) Tryz.underlying57 rfl (by kernel_rfl)
theorem gfa57_8 : FieldAt Tryz.prog 57 8 9 := fieldAt_sz (n := 0) (f := ⟨_, _, 9, _, _, _, _⟩) Tryz.underlying57 rfl (by kernel_rfl)
theorem gfa57_9 : FieldAt Tryz.prog 57 9 10 := fieldAt_sz (n := 0) (f := ⟨_, _, 10, _, _, _, _⟩) Tryz.underlying57 rfl (by kernel_rfl)
theorem gfa61_5 : FieldAt Tryz.prog 61 5 16 := fieldAt_sz (n := 0) (f := ⟨_, _, 16, _, _, _, _⟩) Tryz.underlying61 rfl (by kernel_rfl)
theorem gone59 : OneCell Tryz.prog 59 := oneCell_of Tryz.underlying59 rfl
theorem gsz155 : (Tryz.prog.info? 155).map (·.size) = some 4 := by kernel_rfl
theorem gagg155 : AggOf Tryz.prog 155 4 := aggOf_of Tryz.underlying155 rfl (by kernel_rfl)
theorem gfa155_0 : FieldAt Tryz.prog 155 0 0 := fieldAt_sz (n := 0) (f := ⟨_, _, 0, _, _, _, _⟩) Tryz.underlying155 rfl (by kernel_rfl)
theorem gfa155_1 : FieldAt Tryz.prog 155 1 1 := fieldAt_sz (n := 0) (f := ⟨_, _, 1, _, _, _, _⟩) Tryz.underlying155 rfl (by kernel_rfl)
theorem gfa155_2 : FieldAt Tryz.prog 155 2 2 := fieldAt_sz (n := 0) (f := ⟨_, _, 2, _, _, _, _⟩) Tryz.underlying155 rfl (by kernel_rfl)
theorem gfa155_3 : FieldAt Tryz.prog 155 3 3 := fieldAt_sz (n := 0) (f := ⟨_, _, 3, _, _, _, _⟩) Tryz.underlying155 rfl (by kernel_rfl)
theorem ghas5 : ((Tryz.prog.info? 5).map (·.size)).isSome = true := by kernel_rfl
theorem gsz5 : (Tryz.prog.info? 5).map (·.size) = some 1 := by kernel_rfl
theorem gone159 : OneCell Tryz.prog 159 := oneCell_of Tryz.underlying159 rfl
theorem gfa161_0 : FieldAt Tryz.prog 161 0 0 := fieldAt_sz (n := 0) (f := ⟨_, _, 0, _, _, _, _⟩) Tryz.underlying161 rfl (by kernel_rfl)
theorem gone129 : OneCell Tryz.prog 129 := oneCell_of Tryz.underlying129 rfl
theorem gfa233_2 : FieldAt Tryz.prog 233 2 2 := fieldAt_sz (n := 0) (f := ⟨_, _, 2, _, _, _, _⟩) Tryz.underlying233 rfl (by kernel_rfl)
theorem gfa233_1 : FieldAt Tryz.prog 233 1 1 := fieldAt_sz (n := 0) (f := ⟨_, _, 1, _, _, _, _⟩) Tryz.underlying233 rfl (by kernel_rfl)
theorem gfa233_0 : FieldAt Tryz.prog 233 0 0 := fieldAt_sz (n := 0) (f := ⟨_, _, 0, _, _, _, _⟩) Tryz.underlying233 rfl (by kernel_rfl)
theorem gone5 : OneCell Tryz.prog 5 := oneCell_of Tryz.underlying5 rfl
theorem gsz26 : (Tryz.prog.info? 26).map (·.size) = some 1 := by kernel_rfl
theorem gfa161_1 : FieldAt Tryz.prog 161 1 1 := fieldAt_sz (n := 0) (f := ⟨_, _, 1, _, _, _, _⟩) Tryz.underlying161 rfl (by kernel_rfl)
theorem gone4 : OneCell Tryz.prog 4 := oneCell_of Tryz.underlying4 rfl
theorem gsz4 : (Tryz.prog.info? 4).map (·.size) = some 1 := by kernel_rfl
theorem glit185 : ((Tryz.prog.info? 185).map fun i => (i.size, i.zero.isSome)) = some (3, true) := by kernel_rfl
theorem gapp185 : ((Tryz.prog.info? 185).map fun i => (i.size, i.bytes, (i.zero.map fun z => z.cells.size))) = some (3, 40, some 3) := by kernel_rfl
theorem gsz50 : (Tryz.prog.info? 50).map (·.size) = some 1 := by kernel_rfl
theorem glit218 : ((Tryz.prog.info? 218).map fun i => (i.size, i.zero.isSome)) = some (6, true) := by kernel_rfl
theorem gapp218 : ((Tryz.prog.info? 218).map fun i => (i.size, i.bytes, (i.zero.map fun z => z.cells.size))) = some (6, 64, some 6) := by kernel_rfl
theorem gsz51 : (Tryz.prog.info? 51).map (·.size) = some 1 := by kernel_rfl
theorem gsz61 : (Tryz.prog.info? 61).map (·.size) = some 17 := by kernel_rfl
theorem glit216 : ((Tryz.prog.info? 216).map fun i => (i.size, i.zero.isSome)) = some (2, true) := by kernel_rfl
theorem gapp216 : ((Tryz.prog.info? 216).map fun i => (i.size, i.bytes, (i.zero.map fun z => z.cells.size))) = some (2, 24, some 2) := by kernel_rfl
theorem gsz52 : (Tryz.prog.info? 52).map (·.size) = some 1 := by kernel_rfl
theorem gsz54 : (Tryz.prog.info? 54).map (·.size) = some 2 := by kernel_rfl
theorem glit278 : ((Tryz.prog.info? 278).map fun i => (i.size, i.zero.isSome)) = some (3, true) := by kernel_rfl
theorem gapp278 : ((Tryz.prog.info? 278).map fun i => (i.size, i.bytes, (i.zero.map fun z => z.cells.size))) = some (3, 40, some 3) := by kernel_rfl
theorem gsz55 : (Tryz.prog.info? 55).map (·.size) = some 1 := by kernel_rfl
theorem gsz57 : (Tryz.prog.info? 57).map (·.size) = some 11 := by kernel_rfl
theorem glit155 : ((Tryz.prog.info? 155).map fun i => (i.size, i.zero.isSome)) = some (4, true) := by kernel_rfl
theorem gapp155 : ((Tryz.prog.info? 155).map fun i => (i.size, i.bytes, (i.zero.map fun z => z.cells.size))) = some (4, 72, some 4) := by kernel_rfl
theorem gsz59 : (Tryz.prog.info? 59).map (·.size) = some 1 := by kernel_rfl
theorem gfa93_1 : FieldAt Tryz.prog 93 1 17 := fieldAt_sz (n := 0) (f := ⟨_, _, 17, _, _, _, _⟩) Tryz.underlying93 rfl (by kernel_rfl)
theorem gone68 : OneCell Tryz.prog 68 := oneCell_of Tryz.underlying68 rfl
theorem gsz110 : (Tryz.prog.info? 110).map (·.size) = some 4 := by kernel_rfl
theorem gagg110 : AggOf Tryz.prog 110 4 := aggOf_of Tryz.underlying110 rfl (by kernel_rfl)
theorem gfa110_0 : FieldAt Tryz.prog 110 0 0 := fieldAt_sz (n := 0) (f := ⟨_, _, 0, _, _, _, _⟩) Tryz.underlying110 rfl (by kernel_rfl)
theorem gfa110_1 : FieldAt Tryz.prog 110 1 1 := fieldAt_sz (n := 0) (f := ⟨_, _, 1, _, _, _, _⟩) Tryz.underlying110 rfl (by kernel_rfl)
theorem gone32 : OneCell Tryz.prog 32 := oneCell_of Tryz.underlying32 rfl
theorem gfa110_2 : FieldAt Tryz.prog 110 2 2 := fieldAt_sz (n := 0) (f := ⟨_, _, 2, _, _, _, _⟩) Tryz.underlying110 rfl (by kernel_rfl)
theorem gfa110_3 : FieldAt Tryz.prog 110 3 3 := fieldAt_sz (n := 0) (f := ⟨_, _, 3, _, _, _, _⟩) Tryz.underlying110 rfl (by kernel_rfl)
theorem gfa93_2 : FieldAt Tryz.prog 93 2 18 := fieldAt_sz (n := 1) (f := ⟨_, _, 18, _, _, _, _⟩) Tryz.underlying93 rfl (by kernel_rfl)
theorem gfa91_0 : FieldAt Tryz.prog 91 0 0 := fieldAt_sz (n := 0) (f := ⟨_, _, 0, _, _, _, _⟩) Tryz.underlying91 rfl (by kernel_rfl)
theorem gone89 : OneCell Tryz.prog 89 := oneCell_of Tryz.underlying89 rfl
theorem gfa91_1 : FieldAt Tryz.prog 91 1 1 := fieldAt_sz (n := 0) (f := ⟨_, _, 1, _, _, _, _⟩) Tryz.underlying91 rfl (by kernel_rfl)
theorem gfa93_3 : FieldAt Tryz.prog 93 3 20 := fieldAt_sz (n := 0) (f := ⟨_, _, 20, _, _, _, _⟩) Tryz.underlying93 rfl (by kernel_rfl)
theorem gapp3 : ((Tryz.prog.info? 3).map fun i => (i.size, i.bytes, (i.zero.map fun z => z.cells.size))) = some (1, 8, some 1) := by kernel_rfl
theorem gsz32 : (Tryz.prog.info? 32).map (·.size) = some 1 := by kernel_rfl
theorem glit110 : ((Tryz.prog.info? 110).map fun i => (i.size, i.zero.isSome)) = some (4, true) := by kernel_rfl
theorem gapp110 : ((Tryz.prog.info? 110).map fun i => (i.size, i.bytes, (i.zero.map fun z => z.cells.size))) = some (4, 72, some 4) := by kernel_rfl
theorem gsz68 : (Tryz.prog.info? 68).map (·.size) = some 1 := by kernel_rfl
theorem gapp9 : ((Tryz.prog.info? 9).map fun i => (i.size, i.bytes, (i.zero.map fun z => z.cells.size))) = some (1, 16, some 1) := by kernel_rfl
theorem gsz89 : (Tryz.prog.info? 89).map (·.size) = some 1 := by kernel_rfl
theorem gsz91 : (Tryz.prog.info? 91).map (·.size) = some 2 := by kernel_rfl
theorem gfa176_0 : FieldAt Tryz.prog 176 0 0 := fieldAt_sz (n := 0) (f := ⟨_, _, 0, _, _, _, _⟩) Tryz.underlying176 rfl (by kernel_rfl)
theorem glit55 : ((Tryz.prog.info? 55).map fun i => (i.size, i.zero.isSome)) = some (1, true) := by kernel_rfl
theorem gmk278 : ((Tryz.prog.info? 278).map fun i => (i.size, i.bytes, i.zero.map fun z => z.cells.toList)) = some (3, 40, some [str [], i64 0, str []]) := by kernel_rfl
theorem glit89 : ((Tryz.prog.info? 89).map fun i => (i.size, i.zero.isSome)) = some (1, true) := by kernel_rfl
theorem gmk9 : ((Tryz.prog.info? 9).map fun i => (i.size, i.bytes, i.zero.map fun z => z.cells.toList)) = some (1, 16, some [str []]) := by kernel_rfl
theorem geqs185 : ∀ (x0 : List UInt8) (x1 : Int) (x2 : List UInt8) (y0 : List UInt8) (y1 : Int) (y2 : List UInt8) (w : World), (Op.equalIn 10000 185 (.agg #[str x0, i64 x1, str x2]) (.agg #[str y0, i64 y1, str y2])).run Tryz.prog w = .ok (decide (x0 = y0 ∧ x1 = y1 ∧ x2 = y2)) w := by
 intro x0 x1 x2 y0 y1 y2 w
 have hS : Tryz.prog.underlying 185 = some (.struct (Tryz.prog.fieldsOf 185)) := by kernel_rfl
 rw [show (10000 : Nat) = 9999 + 1 from rfl, run_equalIn_agg w 9999 185 _ _ hS (by kernel_rfl)]
 simp only [Program.fieldsOf, Tryz.underlying185]
 go_simp
 by_cases h0 : x0 = y0 <;> by_cases h1 : x1 = y1 <;> by_cases h2 : x2 = y2 <;> simp [h0, h1, h2]
theorem geqg185 : Tryz.prog.eqGuardType Tryz.prog.depth 185 = false := by kernel_rfl
theorem geqs216 : ∀ (x0 : List UInt8) (x1 : Int) (y0 : List UInt8) (y1 : Int) (w : World), (Op.equalIn 10000 216 (.agg #[str x0, i64 x1]) (.agg #[str y0, i64 y1])).run Tryz.prog w = .ok (decide (x0 = y0 ∧ x1 = y1)) w := by
 intro x0 x1 y0 y1 w
 have hS : Tryz.prog.underlying 216 = some (.struct (Tryz.prog.fieldsOf 216)) := by kernel_rfl
 rw [show (10000 : Nat) = 9999 + 1 from rfl, run_equalIn_agg w 9999 216 _ _ hS (by kernel_rfl)]
 simp only [Program.fieldsOf, Tryz.underlying216]
 go_simp
 by_cases h0 : x0 = y0 <;> by_cases h1 : x1 = y1 <;> simp [h0, h1]
theorem geqg216 : Tryz.prog.eqGuardType Tryz.prog.depth 216 = false := by kernel_rfl
theorem geqs54 : ∀ (x0 : List UInt8) (x1 : Int) (y0 : List UInt8) (y1 : Int) (w : World), (Op.equalIn 10000 54 (.agg #[str x0, i64 x1]) (.agg #[str y0, i64 y1])).run Tryz.prog w = .ok (decide (x0 = y0 ∧ x1 = y1)) w := by
 intro x0 x1 y0 y1 w
 have hS : Tryz.prog.underlying 54 = some (.struct (Tryz.prog.fieldsOf 54)) := by kernel_rfl
 rw [show (10000 : Nat) = 9999 + 1 from rfl, run_equalIn_agg w 9999 54 _ _ hS (by kernel_rfl)]
 simp only [Program.fieldsOf, Tryz.underlying54]
 go_simp
 by_cases h0 : x0 = y0 <;> by_cases h1 : x1 = y1 <;> simp [h0, h1]
theorem geqg54 : Tryz.prog.eqGuardType Tryz.prog.depth 54 = false := by kernel_rfl
theorem geqs278 : ∀ (x0 : List UInt8) (x1 : Int) (x2 : List UInt8) (y0 : List UInt8) (y1 : Int) (y2 : List UInt8) (w : World), (Op.equalIn 10000 278 (.agg #[str x0, i64 x1, str x2]) (.agg #[str y0, i64 y1, str y2])).run Tryz.prog w = .ok (decide (x0 = y0 ∧ x1 = y1 ∧ x2 = y2)) w := by
 intro x0 x1 x2 y0 y1 y2 w
 have hS : Tryz.prog.underlying 278 = some (.struct (Tryz.prog.fieldsOf 278)) := by kernel_rfl
 rw [show (10000 : Nat) = 9999 + 1 from rfl, run_equalIn_agg w 9999 278 _ _ hS (by kernel_rfl)]
 simp only [Program.fieldsOf, Tryz.underlying278]
 go_simp
 by_cases h0 : x0 = y0 <;> by_cases h1 : x1 = y1 <;> by_cases h2 : x2 = y2 <;> simp [h0, h1, h2]
theorem geqg278 : Tryz.prog.eqGuardType Tryz.prog.depth 278 = false := by kernel_rfl
theorem ghas3 : ((Tryz.prog.info? 3).map (·.size)).isSome = true := by kernel_rfl
theorem glit32 : ((Tryz.prog.info? 32).map fun i => (i.size, i.zero.isSome)) = some (1, true) := by kernel_rfl
theorem gapp32 : ((Tryz.prog.info? 32).map fun i => (i.size, i.bytes, (i.zero.map fun z => z.cells.size))) = some (1, 24, some 1) := by kernel_rfl
theorem glit26 : ((Tryz.prog.info? 26).map fun i => (i.size, i.zero.isSome)) = some (1, true) := by kernel_rfl
theorem glit184 : ((Tryz.prog.info? 184).map fun i => (i.size, i.zero.isSome)) = some (3, true) := by kernel_rfl
theorem gapp184 : ((Tryz.prog.info? 184).map fun i => (i.size, i.bytes, (i.zero.map fun z => z.cells.size))) = some (3, 40, some 3) := by kernel_rfl
theorem glit219 : ((Tryz.prog.info? 219).map fun i => (i.size, i.zero.isSome)) = some (6, true) := by kernel_rfl
theorem gapp219 : ((Tryz.prog.info? 219).map fun i => (i.size, i.bytes, (i.zero.map fun z => z.cells.size))) = some (6, 64, some 6) := by kernel_rfl
theorem glit205 : ((Tryz.prog.info? 205).map fun i => (i.size, i.zero.isSome)) = some (2, true) := by kernel_rfl
theorem gapp205 : ((Tryz.prog.info? 205).map fun i => (i.size, i.bytes, (i.zero.map fun z => z.cells.size))) = some (2, 24, some 2) := by kernel_rfl
theorem glit209 : ((Tryz.prog.info? 209).map fun i => (i.size, i.zero.isSome)) = some (4, true) := by kernel_rfl
theorem gapp209 : ((Tryz.prog.info? 209).map fun i => (i.size, i.bytes, (i.zero.map fun z => z.cells.size))) = some (4, 72, some 4) := by kernel_rfl
theorem glit316 : ((Tryz.prog.info? 316).map fun i => (i.size, i.zero.isSome)) = some (3, true) := by kernel_rfl
theorem gapp316 : ((Tryz.prog.info? 316).map fun i => (i.size, i.bytes, (i.zero.map fun z => z.cells.size))) = some (3, 40, some 3) := by kernel_rfl
theorem gsz82 : (Tryz.prog.info? 82).map (·.size) = some 17 := by kernel_rfl
theorem gagg82 : AggOf Tryz.prog 82 17 := aggOf_of Tryz.underlying82 rfl (by kernel_rfl)
theorem gfa82_0 : FieldAt Tryz.prog 82 0 0 := fieldAt_sz (n := 0) (f := ⟨_, _, 0, _, _, _, _⟩) Tryz.underlying82 rfl (by kernel_rfl)
theorem gone73 : OneCell Tryz.prog 73 := oneCell_of Tryz.underlying73 rfl
theorem gsz184 : (Tryz.prog.info? 184).map (·.size) = some 3 := by kernel_rfl
theorem gagg184 : AggOf Tryz.prog 184 3 := aggOf_of Tryz.underlying184 rfl (by kernel_rfl)
theorem geqs184 : ∀ (x0 : List UInt8) (x1 : Int) (x2 : List UInt8) (y0 : List UInt8) (y1 : Int) (y2 : List UInt8) (w : World), (Op.equalIn 10000 184 (.agg #[str x0, i64 x1, str x2]) (.agg #[str y0, i64 y1, str y2])).run Tryz.prog w = .ok (decide (x0 = y0 ∧ x1 = y1 ∧ x2 = y2)) w := by
 intro x0 x1 x2 y0 y1 y2 w
 have hS : Tryz.prog.underlying 184 = some (.struct (Tryz.prog.fieldsOf 184)) := by kernel_rfl
 rw [show (10000 : Nat) = 9999 + 1 from rfl, run_equalIn_agg w 9999 184 _ _ hS (by kernel_rfl)]
 simp only [Program.fieldsOf, Tryz.underlying184]
 go_simp
 by_cases h0 : x0 = y0 <;> by_cases h1 : x1 = y1 <;> by_cases h2 : x2 = y2 <;> simp [h0, h1, h2]
theorem geqg184 : Tryz.prog.eqGuardType Tryz.prog.depth 184 = false := by kernel_rfl
theorem gfa82_1 : FieldAt Tryz.prog 82 1 1 := fieldAt_sz (n := 0) (f := ⟨_, _, 1, _, _, _, _⟩) Tryz.underlying82 rfl (by kernel_rfl)
theorem gone74 : OneCell Tryz.prog 74 := oneCell_of Tryz.underlying74 rfl
theorem gsz219 : (Tryz.prog.info? 219).map (·.size) = some 6 := by kernel_rfl
theorem gfa219_0 : FieldAt Tryz.prog 219 0 0 := fieldAt_sz (n := 0) (f := ⟨_, _, 0, _, _, _, _⟩) Tryz.underlying219 rfl (by kernel_rfl)
theorem gfa219_1 : FieldAt Tryz.prog 219 1 1 := fieldAt_sz (n := 0) (f := ⟨_, _, 1, _, _, _, _⟩) Tryz.underlying219 rfl (by kernel_rfl)
theorem gfa219_2 : FieldAt Tryz.prog 219 2 2 := fieldAt_sz (n := 0) (f := ⟨_, _, 2, _, _, _, _⟩) Tryz.underlying219 rfl (by kernel_rfl)
theorem gfa219_3 : FieldAt Tryz.prog 219 3 3 := fieldAt_sz (n := 0) (f := ⟨_, _, 3, _, _, _, _⟩) Tryz.underlying219 rfl (by kernel_rfl)
theorem gfa82_3 : FieldAt Tryz.prog 82 3 3 := fieldAt_sz (n := 1) (f := ⟨_, _, 3, _, _, _, _⟩) Tryz.underlying82 rfl (by kernel_rfl)
theorem gagg76 : AggOf Tryz.prog 76 2 := aggOf_of Tryz.underlying76 rfl (by kernel_rfl)
theorem geqs76 : ∀ (x0 : List UInt8) (x1 : Int) (y0 : List UInt8) (y1 : Int) (w : World), (Op.equalIn 10000 76 (.agg #[str x0, i64 x1]) (.agg #[str y0, i64 y1])).run Tryz.prog w = .ok (decide (x0 = y0 ∧ x1 = y1)) w := by
 intro x0 x1 y0 y1 w
 have hS : Tryz.prog.underlying 76 = some (.struct (Tryz.prog.fieldsOf 76)) := by kernel_rfl
 rw [show (10000 : Nat) = 9999 + 1 from rfl, run_equalIn_agg w 9999 76 _ _ hS (by kernel_rfl)]
 simp only [Program.fieldsOf, Tryz.underlying76]
 go_simp
 by_cases h0 : x0 = y0 <;> by_cases h1 : x1 = y1 <;> simp [h0, h1]
theorem geqg76 : Tryz.prog.eqGuardType Tryz.prog.depth 76 = false := by kernel_rfl
theorem gfa82_2 : FieldAt Tryz.prog 82 2 2 := fieldAt_sz (n := 0) (f := ⟨_, _, 2, _, _, _, _⟩) Tryz.underlying82 rfl (by kernel_rfl)
theorem gone75 : OneCell Tryz.prog 75 := oneCell_of Tryz.underlying75 rfl
theorem gfa82_5 : FieldAt Tryz.prog 82 5 16 := fieldAt_sz (n := 0) (f := ⟨_, _, 16, _, _, _, _⟩) Tryz.underlying82 rfl (by kernel_rfl)
theorem gone80 : OneCell Tryz.prog 80 := oneCell_of Tryz.underlying80 rfl
theorem gsz209 : (Tryz.prog.info? 209).map (·.size) = some 4 := by kernel_rfl
theorem gfa209_0 : FieldAt Tryz.prog 209 0 0 := fieldAt_sz (n := 0) (f := ⟨_, _, 0, _, _, _, _⟩) Tryz.underlying209 rfl (by kernel_rfl)
theorem gfa209_3 : FieldAt Tryz.prog 209 3 3 := fieldAt_sz (n := 0) (f := ⟨_, _, 3, _, _, _, _⟩) Tryz.underlying209 rfl (by kernel_rfl)
theorem gfa209_1 : FieldAt Tryz.prog 209 1 1 := fieldAt_sz (n := 0) (f := ⟨_, _, 1, _, _, _, _⟩) Tryz.underlying209 rfl (by kernel_rfl)
theorem gfa209_2 : FieldAt Tryz.prog 209 2 2 := fieldAt_sz (n := 0) (f := ⟨_, _, 2, _, _, _, _⟩) Tryz.underlying209 rfl (by kernel_rfl)
theorem gsz205 : (Tryz.prog.info? 205).map (·.size) = some 2 := by kernel_rfl
theorem gagg205 : AggOf Tryz.prog 205 2 := aggOf_of Tryz.underlying205 rfl (by kernel_rfl)
theorem geqs205 : ∀ (x0 : List UInt8) (x1 : Int) (y0 : List UInt8) (y1 : Int) (w : World), (Op.equalIn 10000 205 (.agg #[str x0, i64 x1]) (.agg #[str y0, i64 y1])).run Tryz.prog w = .ok (decide (x0 = y0 ∧ x1 = y1)) w := by
 intro x0 x1 y0 y1 w
 have hS : Tryz.prog.underlying 205 = some (.struct (Tryz.prog.fieldsOf 205)) := by kernel_rfl
 rw [show (10000 : Nat) = 9999 + 1 from rfl, run_equalIn_agg w 9999 205 _ _ hS (by kernel_rfl)]
 simp only [Program.fieldsOf, Tryz.underlying205]
 go_simp
 by_cases h0 : x0 = y0 <;> by_cases h1 : x1 = y1 <;> simp [h0, h1]
theorem geqg205 : Tryz.prog.eqGuardType Tryz.prog.depth 205 = false := by kernel_rfl
theorem gfa82_4 : FieldAt Tryz.prog 82 4 5 := fieldAt_sz (n := 10) (f := ⟨_, _, 5, _, _, _, _⟩) Tryz.underlying82 rfl (by kernel_rfl)
theorem gagg79 : AggOf Tryz.prog 79 11 := aggOf_of Tryz.underlying79 rfl (by kernel_rfl)
theorem gsz79 : (Tryz.prog.info? 79).map (·.size) = some 11 := by kernel_rfl
theorem gfa79_0 : FieldAt Tryz.prog 79 0 0 := fieldAt_sz (n := 0) (f := ⟨_, _, 0, _, _, _, _⟩) Tryz.underlying79 rfl (by kernel_rfl)
theorem gfa79_1 : FieldAt Tryz.prog 79 1 1 := fieldAt_sz (n := 0) (f := ⟨_, _, 1, _, _, _, _⟩) Tryz.underlying79 rfl (by kernel_rfl)
theorem gfa79_2 : FieldAt Tryz.prog 79 2 2 := fieldAt_sz (n := 0) (f := ⟨_, _, 2, _, _, _, _⟩) Tryz.underlying79 rfl (by kernel_rfl)
theorem gfa79_3 : FieldAt Tryz.prog 79 3 3 := fieldAt_sz (n := 0) (f := ⟨_, _, 3, _, _, _, _⟩) Tryz.underlying79 rfl (by kernel_rfl)
theorem gone77 : OneCell Tryz.prog 77 := oneCell_of Tryz.underlying77 rfl
theorem gsz316 : (Tryz.prog.info? 316).map (·.size) = some 3 := by kernel_rfl
theorem gagg316 : AggOf Tryz.prog 316 3 := aggOf_of Tryz.underlying316 rfl (by kernel_rfl)
theorem geqs316 : ∀ (x0 : List UInt8) (x1 : Int) (x2 : List UInt8) (y0 : List UInt8) (y1 : Int) (y2 : List UInt8) (w : World), (Op.equalIn 10000 316 (.agg #[str x0, i64 x1, str x2]) (.agg #[str y0, i64 y1, str y2])).run Tryz.prog w = .ok (decide (x0 = y0 ∧ x1 = y1 ∧ x2 = y2)) w := by
 intro x0 x1 x2 y0 y1 y2 w
 have hS : Tryz.prog.underlying 316 = some (.struct (Tryz.prog.fieldsOf 316)) := by kernel_rfl
 rw [show (10000 : Nat) = 9999 + 1 from rfl, run_equalIn_agg w 9999 316 _ _ hS (by kernel_rfl)]
 simp only [Program.fieldsOf, Tryz.underlying316]
 go_simp
 by_cases h0 : x0 = y0 <;> by_cases h1 : x1 = y1 <;> by_cases h2 : x2 = y2 <;> simp [h0, h1, h2]
theorem geqg316 : Tryz.prog.eqGuardType Tryz.prog.depth 316 = false := by kernel_rfl
theorem gfa79_4 : FieldAt Tryz.prog 79 4 4 := fieldAt_sz (n := 0) (f := ⟨_, _, 4, _, _, _, _⟩) Tryz.underlying79 rfl (by kernel_rfl)
theorem gfa79_5 : FieldAt Tryz.prog 79 5 5 := fieldAt_sz (n := 0) (f := ⟨_, _, 5, _, _, _, _⟩) Tryz.underlying79 rfl (by kernel_rfl)
theorem gfa79_6 : FieldAt Tryz.prog 79 6 6 := fieldAt_sz (n := 0) (f := ⟨_, _, 6, _, _, _, _⟩) Tryz.underlying79 rfl (by kernel_rfl)
theorem gfa79_7 : FieldAt Tryz.prog 79 7 7 := fieldAt_sz (n := 1) (f := ⟨_, _, 7, _, _, _, _⟩) Tryz.underlying79 rfl (by kernel_rfl)
theorem gfa79_8 : FieldAt Tryz.prog 79 8 9 := fieldAt_sz (n := 0) (f := ⟨_, _, 9, _, _, _, _⟩) Tryz.underlying79 rfl (by kernel_rfl)
theorem gfa79_9 : FieldAt Tryz.prog 79 9 10 := fieldAt_sz (n := 0) (f := ⟨_, _, 10, _, _, _, _⟩) Tryz.underlying79 rfl (by kernel_rfl)
theorem gagg71 : AggOf Tryz.prog 71 21 := aggOf_of Tryz.underlying71 rfl (by kernel_rfl)
theorem gfa71_0 : FieldAt Tryz.prog 71 0 0 := fieldAt_sz (n := 16) (f := ⟨_, _, 0, _, _, _, _⟩) Tryz.underlying71 rfl (by kernel_rfl)
theorem gfa71_1 : FieldAt Tryz.prog 71 1 17 := fieldAt_sz (n := 0) (f := ⟨_, _, 17, _, _, _, _⟩) Tryz.underlying71 rfl (by kernel_rfl)
theorem gfa71_2 : FieldAt Tryz.prog 71 2 18 := fieldAt_sz (n := 0) (f := ⟨_, _, 18, _, _, _, _⟩) Tryz.underlying71 rfl (by kernel_rfl)
theorem gone69 : OneCell Tryz.prog 69 := oneCell_of Tryz.underlying69 rfl
theorem gfa71_3 : FieldAt Tryz.prog 71 3 19 := fieldAt_sz (n := 0) (f := ⟨_, _, 19, _, _, _, _⟩) Tryz.underlying71 rfl (by kernel_rfl)
theorem gfa71_4 : FieldAt Tryz.prog 71 4 20 := fieldAt_sz (n := 0) (f := ⟨_, _, 20, _, _, _, _⟩) Tryz.underlying71 rfl (by kernel_rfl)
theorem gsz86 : (Tryz.prog.info? 86).map (·.size) = some 21 := by kernel_rfl
theorem gfa86_1 : FieldAt Tryz.prog 86 1 17 := fieldAt_sz (n := 0) (f := ⟨_, _, 17, _, _, _, _⟩) Tryz.underlying86 rfl (by kernel_rfl)
theorem gone83 : OneCell Tryz.prog 83 := oneCell_of Tryz.underlying83 rfl
theorem glit115 : ((Tryz.prog.info? 115).map fun i => (i.size, i.zero.isSome)) = some (4, true) := by kernel_rfl
theorem gapp115 : ((Tryz.prog.info? 115).map fun i => (i.size, i.bytes, (i.zero.map fun z => z.cells.size))) = some (4, 72, some 4) := by kernel_rfl
theorem gsz83 : (Tryz.prog.info? 83).map (·.size) = some 1 := by kernel_rfl
theorem glit82 : ((Tryz.prog.info? 82).map fun i => (i.size, i.zero.isSome)) = some (17, true) := by kernel_rfl
theorem gapp82 : ((Tryz.prog.info? 82).map fun i => (i.size, i.bytes, (i.zero.map fun z => z.cells.size))) = some (17, 304, some 17) := by kernel_rfl
theorem gfa86_2 : FieldAt Tryz.prog 86 2 18 := fieldAt_sz (n := 0) (f := ⟨_, _, 18, _, _, _, _⟩) Tryz.underlying86 rfl (by kernel_rfl)
theorem gsz84 : (Tryz.prog.info? 84).map (·.size) = some 1 := by kernel_rfl
theorem gfa86_3 : FieldAt Tryz.prog 86 3 19 := fieldAt_sz (n := 0) (f := ⟨_, _, 19, _, _, _, _⟩) Tryz.underlying86 rfl (by kernel_rfl)
theorem gagg86 : AggOf Tryz.prog 86 21 := aggOf_of Tryz.underlying86 rfl (by kernel_rfl)
theorem gfa86_0 : FieldAt Tryz.prog 86 0 0 := fieldAt_sz (n := 16) (f := ⟨_, _, 0, _, _, _, _⟩) Tryz.underlying86 rfl (by kernel_rfl)
theorem gsz115 : (Tryz.prog.info? 115).map (·.size) = some 4 := by kernel_rfl
theorem gfa115_0 : FieldAt Tryz.prog 115 0 0 := fieldAt_sz (n := 0) (f := ⟨_, _, 0, _, _, _, _⟩) Tryz.underlying115 rfl (by kernel_rfl)
theorem gfa115_2 : FieldAt Tryz.prog 115 2 2 := fieldAt_sz (n := 0) (f := ⟨_, _, 2, _, _, _, _⟩) Tryz.underlying115 rfl (by kernel_rfl)
theorem gfa115_3 : FieldAt Tryz.prog 115 3 3 := fieldAt_sz (n := 0) (f := ⟨_, _, 3, _, _, _, _⟩) Tryz.underlying115 rfl (by kernel_rfl)
theorem gfa115_1 : FieldAt Tryz.prog 115 1 1 := fieldAt_sz (n := 0) (f := ⟨_, _, 1, _, _, _, _⟩) Tryz.underlying115 rfl (by kernel_rfl)
theorem gone84 : OneCell Tryz.prog 84 := oneCell_of Tryz.underlying84 rfl
theorem gfa86_4 : FieldAt Tryz.prog 86 4 20 := fieldAt_sz (n := 0) (f := ⟨_, _, 20, _, _, _, _⟩) Tryz.underlying86 rfl (by kernel_rfl)
theorem gfa184_0 : FieldAt Tryz.prog 184 0 0 := fieldAt_sz (n := 0) (f := ⟨_, _, 0, _, _, _, _⟩) Tryz.underlying184 rfl (by kernel_rfl)
theorem gfa184_2 : FieldAt Tryz.prog 184 2 2 := fieldAt_sz (n := 0) (f := ⟨_, _, 2, _, _, _, _⟩) Tryz.underlying184 rfl (by kernel_rfl)
theorem gfa76_0 : FieldAt Tryz.prog 76 0 0 := fieldAt_sz (n := 0) (f := ⟨_, _, 0, _, _, _, _⟩) Tryz.underlying76 rfl (by kernel_rfl)
theorem gfa316_0 : FieldAt Tryz.prog 316 0 0 := fieldAt_sz (n := 0) (f := ⟨_, _, 0, _, _, _, _⟩) Tryz.underlying316 rfl (by kernel_rfl)
theorem gfa316_2 : FieldAt Tryz.prog 316 2 2 := fieldAt_sz (n := 0) (f := ⟨_, _, 2, _, _, _, _⟩) Tryz.underlying316 rfl (by kernel_rfl)
theorem gfa205_0 : FieldAt Tryz.prog 205 0 0 := fieldAt_sz (n := 0) (f := ⟨_, _, 0, _, _, _, _⟩) Tryz.underlying205 rfl (by kernel_rfl)
theorem ghas185 : ((Tryz.prog.info? 185).map (·.size)).isSome = true := by kernel_rfl
theorem copyCheck_ct (b : Nat) (p u : Value) (hp : p = .pointer none ∨ p = ptr b 0) (hu : u.oneCell' = true) : Ct Tryz.prog 188 [ptr b 0] Mo.tt (Blk b [p, u] 212) (X := Unit) (fun _ => .tuple #[]) (fun _ => True) (fun _ => Mo.tt) (fun _ => Blk b [ptr b 0, u] 212) := by
 refine Zo Tryz.func188 Tryz.ntmps188 fun c => ?_
 rcases hp with rfl | rfl
 ·
  refine Zq (Zr ?_)
  refine Zm ?_
  refine Zu (q_nilCheck rfl) ?_
  refine Zu (q_field gfa212_0 rfl) ?_
  refine Zu (q_fe gone210 rfl rfl) ?_
  refine Zu (q_peqn Tryz.underlying210 rfl) ?_
  refine Zl ?_
  refine VC.cond_t rfl ?_
  refine Zr ?_
  refine Zy ?_
  refine Zu (q_tou (n := 1) Tryz.underlying210 Tryz.underlying287 gszb rfl (by simp)) ?_
  refine Zu (q_noEscape Tryz.func233 rfl rfl (by kernel_rfl) (by kernel_rfl) rfl) ?_
  refine Zu (q_fromu (n := 2) (cs := [.pointer none, u]) Tryz.underlying287 Tryz.underlying210 gszb rfl (by kernel_rfl)) ?_
  refine Zu (q_nilCheck rfl) ?_
  refine Zu (q_field gfa212_0 rfl) ?_
  refine Zv (vc := [ptr b 0]) (cs' := [ptr b 0, u]) rfl gsz210 ?_
  exact VL.nil (fin0 (.inl rfl) rfl () rfl trivial (fun _ _ => trivial) (by exact EntO.out))
 refine Zq (Zr ?_)
 refine Zm ?_
 refine Zu (q_nilCheck rfl) ?_
 refine Zu (q_field gfa212_0 rfl) ?_
 refine Zu (q_fe gone210 rfl rfl) ?_
 refine Zu (q_peqn Tryz.underlying210 rfl) ?_
 refine Zl ?_
 refine VC.cond_f rfl ?_
 refine Zq (Zr ?_)
 refine Zm ?_
 refine Zu (q_nilCheck rfl) ?_
 refine Zu (q_field gfa212_0 rfl) ?_
 refine Zu (q_fe gone210 rfl rfl) ?_
 refine Zm ?_
 refine Zu (q_pne Tryz.underlying210 gszb rfl rfl) ?_
 refine Zl ?_
 refine VC.cond_f rfl ?_
 exact VC.skip (fin0 (.inl rfl) rfl () rfl trivial (fun _ _ => trivial) (by exact EntO.out))
theorem writeString_ct (b : Nat) (l s : Str) (hb : l.length + s.length ≤ 4294967296) : Ct Tryz.prog 111 [ptr b 0, str s] Mo.tt (Bd 212 5 b l) (X := Unit) (fun _ => .tuple #[i64 s.length, .nilIface]) (fun _ => True) (fun _ => Mo.tt) (fun _ => Bd 212 5 b (l ++ s)) := by
 refine Ct.monoE (E1 := fun z => ∃ q : Value × Sv UInt8, ((q.1 = .pointer none ∨ q.1 = ptr b 0) ∧ q.2.l = l ∧ (q.2.c = 0 → q.2.a = none)) ∧ Ow.star (Blk b [q.1, q.2.val] 212) (q.2.own 5) z) (Ct.exE (entry_of Tryz.func111 rfl (by kernel_rfl)) ?_) (fun z ⟨p, q, h1, h2, h3, h4⟩ => ⟨(p, q), ⟨h1, h2, h3⟩, h4⟩)
 rintro ⟨p, q⟩ ⟨hp, hl, hc⟩
 dsimp only at hp hl hc ⊢
 refine Zo Tryz.func111 Tryz.ntmps111 fun c => ?_
 refine Zq (Zr ?_)
 refine Zy ?_
 refine Zq (Zr ?_)
 refine Zm ?_
 refine VL.callO (copyCheck_ct b p q.val hp rfl) rfl (by decide) ?_
 rintro _ _
 refine Zl ?_
 refine Zq (Zr ?_)
 refine Zy ?_
 refine Zu (q_nilCheck rfl) ?_
 refine Zu (q_field gfa212_1 rfl) ?_
 refine Zu (q_fe gone22 rfl rfl) ?_
 refine Zm ?_
 refine VL.appS (s := q) (r := s) Tryz.underlying22 Tryz.underlying9 gappb rfl Fo.out (by rw [hl]; exact hb) (by decide) fun q2 hq2 hc2 => ?_
 refine Zu (q_nilCheck rfl) ?_
 refine Zu (q_field gfa212_1 rfl) ?_
 refine Zv (vc := [q2.val]) (cs' := [ptr b 0, q2.val]) rfl gsz22 ?_
 refine Zl ?_
 refine Zq (Zr ?_)
 refine Zm ?_
 refine Zu (q_slen Tryz.underlying9 rfl) ?_
 refine Zy ?_
 exact VC.ret (fin2 (.inr rfl) rfl rfl rfl () rfl trivial (fun _ _ => trivial) (fun z hz => Bd.mk (p := ptr b 0) (s := q2) (.inr rfl) (by rw [hq2, hl]) (hc2 hc) ((EntO.out (E' := Ow.star (Blk b [ptr b 0, q2.val] 212) (q2.own 5))) z hz)))
theorem string_ct (b : Nat) (l : Str) : Ct Tryz.prog 114 [ptr b 0] Mo.tt (Bd 212 5 b l) (X := Unit) (fun _ => str l) (fun _ => True) (fun _ => Mo.tt) (fun _ => Ow.emp) := by
 refine Ct.monoE (E1 := fun z => ∃ q : Value × Sv UInt8, ((q.1 = .pointer none ∨ q.1 = ptr b 0) ∧ q.2.l = l ∧ (q.2.c = 0 → q.2.a = none)) ∧ Ow.star (Blk b [q.1, q.2.val] 212) (q.2.own 5) z) (Ct.exE (entry_of Tryz.func114 rfl (by kernel_rfl)) ?_) (fun z ⟨p, q, h1, h2, h3, h4⟩ => ⟨(p, q), ⟨h1, h2, h3⟩, h4⟩)
 rintro ⟨p, q⟩ ⟨hp, rfl, hc⟩
 dsimp only at hp hc ⊢
 refine Zo Tryz.func114 Tryz.ntmps114 fun c => ?_
 refine Zq (Zr ?_)
 refine Zy ?_
 refine Zq ?_
 refine VC.draw [(0, true), (1, true), (2, true), (3, true), (4, true), (5, true), (6, true), (7, true), (8, true), (9, true), (10, false), (11, true)] mixed (by kernel_rfl) (by kernel_rfl) (by kernel_rfl) ?_
 refine Zw rfl (q_move rfl) ?_
 refine Zw rfl (q_nilCheck rfl) ?_
 refine Zw rfl (q_field gfa212_1 rfl) ?_
 refine Zw rfl (q_fe gone22 rfl rfl) ?_
 refine Zw rfl (q_sdata (s := q) rfl hc) ?_
 refine Zw rfl (q_move rfl) ?_
 refine Zw rfl (q_nilCheck rfl) ?_
 refine Zw rfl (q_field gfa212_1 rfl) ?_
 refine Zw rfl (q_fe gone22 rfl rfl) ?_
 refine Zw rfl (q_ln (s := q) Tryz.underlying22 rfl) ?_
 refine VD.one rfl ?_
 refine VL.ustr (s := q) (e := 5) rfl Fo.out (by decide) (fun w h z o l k m => St.ustr (e := 5) Tryz.underlying305 (by kernel_rfl) o l k m) ?_
 refine VL.back (D' := []) (by kernel_rfl) Pend.nil ?_
 refine Zw rfl (q_assign rfl) ?_
 refine VD.to (fun _ _ h => h) ?_
 exact Ze
theorem state_New_ct  {r : StateStateP} (hS : Sh.state_New = some r) :
 Ct Tryz.prog 32 [] Mo.tt (Ow.emp) (X := Unit) (fun _ => .agg #[.slice none 0 0, .slice none 0 0, .slice none 0 0, str [109, 97, 105, 110], i64 0, str [], i64 0, str [], .slice none 0 0, .slice none 0 0, i64 0, str [], str [], i64 0, .slice none 0 0, .slice none 0 0, .slice none 0 0, .slice none 0 0, .slice none 0 0, .slice none 0 0, i64 0]) (fun _ => True) (fun _ => Mo.tt) (fun _ => Ow.emp) := by
 refine Zo Tryz.func32 Tryz.ntmps32 fun c => ?_
 unfold Sh.state_New at hS
 refine Zq (Zr ?_)
 refine VL.alloc (cs := [.slice none 0 0, .slice none 0 0, .slice none 0 0, str [], i64 0, str [], i64 0, str [], .slice none 0 0, .slice none 0 0, i64 0, str [], str [], i64 0, .slice none 0 0, .slice none 0 0, .slice none 0 0, .slice none 0 0, .slice none 0 0, .slice none 0 0, i64 0]) (by kernel_rfl) (by decide) fun b0_1 => ?_
 refine Zl ?_
 refine Zq (Zr ?_)
 refine Zu (q_build (vs := [(0, str [109, 97, 105, 110])]) (cs := #[str [109, 97, 105, 110], i64 0]) rfl (by kernel_rfl)) ?_
 refine Zu (q_build (vs := [(3, .agg #[str [109, 97, 105, 110], i64 0])]) (cs := #[.slice none 0 0, .slice none 0 0, .slice none 0 0, str [109, 97, 105, 110], i64 0, str [], i64 0, str [], .slice none 0 0, .slice none 0 0, i64 0, str [], str [], i64 0, .slice none 0 0, .slice none 0 0, .slice none 0 0]) rfl (by kernel_rfl)) ?_
 refine Zu (q_build (vs := [(0, .agg #[.slice none 0 0, .slice none 0 0, .slice none 0 0, str [109, 97, 105, 110], i64 0, str [], i64 0, str [], .slice none 0 0, .slice none 0 0, i64 0, str [], str [], i64 0, .slice none 0 0, .slice none 0 0, .slice none 0 0])]) (cs := #[.slice none 0 0, .slice none 0 0, .slice none 0 0, str [109, 97, 105, 110], i64 0, str [], i64 0, str [], .slice none 0 0, .slice none 0 0, i64 0, str [], str [], i64 0, .slice none 0 0, .slice none 0 0, .slice none 0 0, .slice none 0 0, .slice none 0 0, .slice none 0 0, i64 0]) rfl (by kernel_rfl)) ?_
 refine Zv (vc := [.slice none 0 0, .slice none 0 0, .slice none 0 0, str [109, 97, 105, 110], i64 0, str [], i64 0, str [], .slice none 0 0, .slice none 0 0, i64 0, str [], str [], i64 0, .slice none 0 0, .slice none 0 0, .slice none 0 0, .slice none 0 0, .slice none 0 0, .slice none 0 0, i64 0]) (cs' := [.slice none 0 0, .slice none 0 0, .slice none 0 0, str [109, 97, 105, 110], i64 0, str [], i64 0, str [], .slice none 0 0, .slice none 0 0, i64 0, str [], str [], i64 0, .slice none 0 0, .slice none 0 0, .slice none 0 0, .slice none 0 0, .slice none 0 0, .slice none 0 0, i64 0]) rfl gsz93 ?_
 refine Zl ?_
 cases hS
 exact VC.ret (finG (vs := [.agg #[.slice none 0 0, .slice none 0 0, .slice none 0 0, str [109, 97, 105, 110], i64 0, str [], i64 0, str [], .slice none 0 0, .slice none 0 0, i64 0, str [], str [], i64 0, .slice none 0 0, .slice none 0 0, .slice none 0 0, .slice none 0 0, .slice none 0 0, .slice none 0 0, i64 0]]) (.inr rfl) rfl (RVs.cell gagg93 rfl rfl Rd.blk (RVs.nil)) () rfl trivial (by (try dsimp only); exact InM.out) (fun _ _ => trivial))
theorem codec_Enc_Int_ct (e_0_b : Nat) (e_0 : StateWriter) (l_1 : Sv Int) {r : StateWriterP} (hS : Sh.codec_Enc_Int e_0.pl l_1.l = some r) :
 Ct Tryz.prog 60 [ptr e_0_b 0, l_1.val] l_1.ok (Ow.star (Sv.own e_0.enc_b 5) (Blk e_0_b [e_0.enc_b.val] 157)) (X := StateWriter) (fun x => .tuple #[]) (fun x => r = x.pl) (fun x => Mo.tt) (fun x => Ow.star (Blk e_0_b [x.enc_b.val] 157) (Sv.own x.enc_b 5)) := by
 refine Zo Tryz.func60 Tryz.ntmps60 fun c => ?_
 unfold Sh.codec_Enc_Int at hS
 refine Zq (Zr ?_)
 refine Zm ?_
 refine Zu (q_ln (s := l_1) Tryz.underlying32 rfl) ?_
 refine Zy ?_
 refine Zb ?_
 refine VC.iter (S := Int × Sv UInt8) (fun sg => (sg.1, sg.2.l)) (fun sg => [(0, ptr e_0_b 0), (7, l_1.val), (8, i64 (l_1.l.length : Int)), (9, i64 sg.1)]) (fun sg => Mo.tt) (fun sg => Ow.star (Blk e_0_b [sg.2.val] 157) (Ow.star (Sv.own sg.2 5) (Ow.emp))) (0, e_0.enc_b) [0, 7, 8, 9] hS rfl ?_
 clear hS
 rintro ⟨x9_1, c0_2⟩ m1 y1 hS hK1
 refine Zq (Zr ?_)
 refine Zu (q_lss rfl rfl) ?_
 refine Zl ?_
 refine Zq ?_
 refine Zc hS (fun h10 hS => ?_) (fun h10 hS => ?_)
 ·
  refine Zk ?_
  refine Zq (Zb (Zq (Zr ?_)))
  obtain ⟨z11_3, nz11_3, hz11_3, hS⟩ := at_s hS
  refine Zu (q_ixm (s := l_1) Tryz.underlying32 gsz3 rfl rfl nz11_3 (lt_of_get nz11_3 hz11_3)) ?_
  refine Zu (q_el (s := l_1) gone3 rfl hz11_3 rfl) ?_
  refine Zy ?_
  refine Zq (Zr ?_)
  refine Zm ?_
  refine Zu (q_convW Tryz.underlying3 Tryz.underlying234 rfl) ?_
  refine Zu (q_shl rfl rfl (by decide)) ?_
  refine Zm ?_
  refine Zu (q_shr rfl rfl (by decide)) ?_
  refine Zu (q_convW Tryz.underlying2 Tryz.underlying234 rfl) ?_
  refine Zu (q_xor rfl rfl) ?_
  refine Zy ?_
  refine VC.keep (ρ' := [(0, ptr e_0_b 0), (7, l_1.val), (8, i64 (l_1.l.length : Int)), (9, i64 x9_1), (6, .int .u64 (bXor .u64 (sHl .u64 (IntKind.wrap .u64 z11_3) 1) (IntKind.wrap .u64 (sHr .i64 z11_3 63))))]) [0, 7, 8, 9, 6] rfl ?_
  refine Zq (Zb ?_)
  refine VC.iter (S := Int × Sv UInt8) (fun sg => (sg.1, sg.2.l)) (fun sg => [(0, ptr e_0_b 0), (6, .int .u64 sg.1), (7, l_1.val), (8, i64 (l_1.l.length : Int)), (9, i64 x9_1)]) (fun sg => Mo.tt) (fun sg => Ow.star (Blk e_0_b [sg.2.val] 157) (Ow.star (Sv.own sg.2 5) (Ow.emp))) ((bXor .u64 (sHl .u64 (IntKind.wrap .u64 z11_3) 1) (IntKind.wrap .u64 (sHr .i64 z11_3 63))), c0_2) [0, 6, 7, 8, 9] hS rfl ?_
  clear hS
  rintro ⟨v6_4, c0_5⟩ m2 y2 hS hK2
  refine Zq (Zq (Zr ?_))
  refine Zm ?_
  refine Zu (q_geq rfl rfl) ?_
  refine Zl ?_
  refine Zc hS (fun h21 hS => ?_) (fun h21 hS => ?_)
  ·
   refine Zk ?_
   refine Zb (Zq (Zr ?_))
   refine Zy ?_
   refine Zu (q_nilCheck rfl) ?_
   refine Zu (q_field gfa147_0 rfl) ?_
   refine Zu (q_fe gone22 rfl rfl) ?_
   refine Zm ?_
   refine Zu (q_and rfl rfl) ?_
   refine Zu (q_convW Tryz.underlying234 Tryz.underlying5 rfl) ?_
   refine Zu (q_or rfl rfl) ?_
   obtain ⟨b31_30, hS⟩ := gd_s hS
   obtain ⟨u31_7, eu31_7, hS⟩ := lt_s hS
   refine VL.setv 30 rfl (congrArg (Value.int .u8) (u8_z b31_30 eu31_7)) ?_
   refine VL.lit (α := UInt8) (xs := [.tmp 30]) (vs := [.int .u8 (u31_7.toNat : Int)]) [u31_7] Tryz.underlying22 glit5 (by decide) rfl rfl rfl rfl (by decide) (fun _ _ _ _ => trivial) (by decide) (fun s31_6 hs31_6 => ?_) (by decide)
   replace hS := lt_to hs31_6 hS
   obtain ⟨b32, hS⟩ := gd_s hS
   refine VL.app (s := c0_5) (r := s31_6) Tryz.underlying22 gapp5 (by decide) rfl Fo.out (ap1 b32) (ap2 b32 (by decide)) (by decide) (fun s32_9 hs32_9 => ?_)
   replace hS := lt_to hs32_9 hS
   refine Zu (q_nilCheck rfl) ?_
   refine Zu (q_field gfa147_0 rfl) ?_
   refine Zv (vc := [s32_9.val]) (cs' := [s32_9.val]) rfl gsz22 ?_
   refine Zl ?_
   refine VC.keep (ρ' := [(0, ptr e_0_b 0), (6, .int .u64 v6_4), (7, l_1.val), (8, i64 (l_1.l.length : Int)), (9, i64 x9_1)]) [0, 6, 7, 8, 9] rfl ?_
   refine Zr ?_
   refine Zm ?_
   refine Zu (q_shr rfl rfl (by decide)) ?_
   refine Za ?_
   refine VL.rnd ((sHr .u64 v6_4 7), s32_9) [0, 6, 7, 8, 9] (fun _ _ h => h) (go2 hS hK2) rfl
  replace hS := up2 hS hK2
  refine Zx ?_
  refine Zr ?_
  refine Zy ?_
  refine Zu (q_nilCheck rfl) ?_
  refine Zu (q_field gfa147_0 rfl) ?_
  refine Zu (q_fe gone22 rfl rfl) ?_
  refine Zm ?_
  refine Zu (q_convW Tryz.underlying234 Tryz.underlying5 rfl) ?_
  obtain ⟨b44_43, hS⟩ := gd_s hS
  obtain ⟨u44_12, eu44_12, hS⟩ := lt_s hS
  refine VL.setv 43 rfl (congrArg (Value.int .u8) (u8_z b44_43 eu44_12)) ?_
  refine VL.lit (α := UInt8) (xs := [.tmp 43]) (vs := [.int .u8 (u44_12.toNat : Int)]) [u44_12] Tryz.underlying22 glit5 (by decide) rfl rfl rfl rfl (by decide) (fun _ _ _ _ => trivial) (by decide) (fun s44_11 hs44_11 => ?_) (by decide)
  replace hS := lt_to hs44_11 hS
  obtain ⟨b45, hS⟩ := gd_s hS
  refine VL.app (s := c0_5) (r := s44_11) Tryz.underlying22 gapp5 (by decide) rfl Fo.out (ap1 b45) (ap2 b45 (by decide)) (by decide) (fun s45_14 hs45_14 => ?_)
  replace hS := lt_to hs45_14 hS
  refine Zu (q_nilCheck rfl) ?_
  refine Zu (q_field gfa147_0 rfl) ?_
  refine Zv (vc := [s45_14.val]) (cs' := [s45_14.val]) rfl gsz22 ?_
  refine Zl ?_
  refine VC.keep (ρ' := [(0, ptr e_0_b 0), (7, l_1.val), (8, i64 (l_1.l.length : Int)), (9, i64 x9_1)]) [0, 7, 8, 9] rfl ?_
  refine Zr ?_
  obtain ⟨b48, hS⟩ := gd_s hS
  refine Zu (q_add rfl rfl b48) ?_
  refine Zm ?_
  refine VL.rnd ((x9_1 + 1), s45_14) [0, 7, 8, 9] (fun _ _ h => h) (go2 hS hK1) rfl
 replace hS := up2 hS hK1
 cases hS
 exact VC.exit (fin0 (.inl rfl) rfl ⟨c0_2⟩ rfl rfl (by (try dsimp only); exact InM.out) (by (try dsimp only); exact EntO.out))
theorem codec_Enc_Text_ct (e_0_b : Nat) (e_0 : StateWriter) (l_1 : Sv Str) {r : StateWriterP} (hS : Sh.codec_Enc_Text e_0.pl l_1.l = some r) :
 Ct Tryz.prog 62 [ptr e_0_b 0, l_1.val] l_1.ok (Ow.star (Sv.own e_0.enc_b 5) (Blk e_0_b [e_0.enc_b.val] 157)) (X := StateWriter) (fun x => .tuple #[]) (fun x => r = x.pl) (fun x => Mo.tt) (fun x => Ow.star (Blk e_0_b [x.enc_b.val] 157) (Sv.own x.enc_b 5)) := by
 refine Zo Tryz.func62 Tryz.ntmps62 fun c => ?_
 unfold Sh.codec_Enc_Text at hS
 refine Zq (Zr ?_)
 refine Zm ?_
 refine Zu (q_ln (s := l_1) Tryz.underlying89 rfl) ?_
 refine Zy ?_
 refine Zb ?_
 refine VC.iter (S := Int × Sv UInt8) (fun sg => (sg.1, sg.2.l)) (fun sg => [(0, ptr e_0_b 0), (6, l_1.val), (7, i64 (l_1.l.length : Int)), (8, i64 sg.1)]) (fun sg => Mo.tt) (fun sg => Ow.star (Blk e_0_b [sg.2.val] 157) (Ow.star (Sv.own sg.2 5) (Ow.emp))) (0, e_0.enc_b) [0, 6, 7, 8] hS rfl ?_
 clear hS
 rintro ⟨x8_1, c0_2⟩ m1 y1 hS hK1
 refine Zq (Zr ?_)
 refine Zu (q_lss rfl rfl) ?_
 refine Zl ?_
 refine Zq ?_
 refine Zc hS (fun h9 hS => ?_) (fun h9 hS => ?_)
 ·
  refine Zk ?_
  refine Zq (Zb (Zq (Zr ?_)))
  obtain ⟨z10_3, nz10_3, hz10_3, hS⟩ := at_s hS
  refine Zu (q_ixm (s := l_1) Tryz.underlying89 gsz9 rfl rfl nz10_3 (lt_of_get nz10_3 hz10_3)) ?_
  refine Zu (q_el (s := l_1) gone9 rfl hz10_3 rfl) ?_
  refine Zy ?_
  refine Zq (Zr ?_)
  refine Zy ?_
  refine Zu (q_slen Tryz.underlying9 rfl) ?_
  refine VL.lit (α := Int) (xs := [.tmp 14]) (vs := [i64 (z10_3.length : Int)]) [(z10_3.length : Int)] Tryz.underlying32 glit3 (by decide) rfl rfl rfl rfl (by decide) (fun _ _ _ _ => trivial) (by decide) (fun s15_4 hs15_4 => ?_) (by decide)
  replace hS := lt_to hs15_4 hS
  obtain ⟨y16_6, ey16_6, hS⟩ := bd_s hS
  refine VL.callO (codec_Enc_Int_ct e_0_b (⟨c0_2⟩ : StateWriter) s15_4 ey16_6) rfl (by decide) ?_
  rintro q16_6_0 rfl
  try dsimp only
  refine Zl ?_
  refine VC.keep (ρ' := [(0, ptr e_0_b 0), (6, l_1.val), (7, i64 (l_1.l.length : Int)), (8, i64 x8_1), (5, str z10_3)]) [0, 6, 7, 8, 5] rfl ?_
  refine Zr ?_
  refine Zy ?_
  refine Zu (q_nilCheck rfl) ?_
  refine Zu (q_field gfa147_0 rfl) ?_
  refine Zu (q_fe gone22 rfl rfl) ?_
  refine Zm ?_
  obtain ⟨b23, hS⟩ := gd_s hS
  refine VL.appS (s := q16_6_0.enc_b) (r := z10_3) Tryz.underlying22 Tryz.underlying9 gapb5 rfl Fo.out b23 (by decide) fun s23_7 hs23_7 _ => ?_
  replace hS := lt_to hs23_7 hS
  refine Zu (q_nilCheck rfl) ?_
  refine Zu (q_field gfa147_0 rfl) ?_
  refine Zv (vc := [s23_7.val]) (cs' := [s23_7.val]) rfl gsz22 ?_
  refine Zl ?_
  refine VC.keep (ρ' := [(0, ptr e_0_b 0), (6, l_1.val), (7, i64 (l_1.l.length : Int)), (8, i64 x8_1)]) [0, 6, 7, 8] rfl ?_
  refine Zr ?_
  obtain ⟨b26, hS⟩ := gd_s hS
  refine Zu (q_add rfl rfl b26) ?_
  refine Zm ?_
  refine VL.rnd ((x8_1 + 1), s23_7) [0, 6, 7, 8] (fun _ _ h => h) (go2 hS hK1) rfl
 replace hS := up2 hS hK1
 cases hS
 exact VC.exit (fin0 (.inl rfl) rfl ⟨c0_2⟩ rfl rfl (by (try dsimp only); exact InM.out) (by (try dsimp only); exact EntO.out))
theorem state_writer_row_ct (w_0_b : Nat) (w_0 : StateWriter) (r_1 : Sv FilesFile) {r : StateWriterP} (hS : Sh.state_writer_row w_0.pl r_1.l = some r) :
 Ct Tryz.prog 136 [ptr w_0_b 0, r_1.val] r_1.ok (Ow.star (Sv.own w_0.enc_b 5) (Blk w_0_b [w_0.enc_b.val] 157)) (X := StateWriter) (fun x => .tuple #[]) (fun x => r = x.pl) (fun x => Mo.tt) (fun x => Ow.star (Blk w_0_b [x.enc_b.val] 157) (Sv.own x.enc_b 5)) := by
 refine Zo Tryz.func136 Tryz.ntmps136 fun c => ?_
 unfold Sh.state_writer_row at hS
 refine Zq (Zr ?_)
 refine Zm ?_
 refine Zu (q_nilCheck rfl) ?_
 refine Zu (q_field gfa157_0 rfl) ?_
 refine Zm ?_
 refine Zu (q_ln (s := r_1) Tryz.underlying50 rfl) ?_
 refine VL.lit (α := Int) (xs := [.tmp 10]) (vs := [i64 (r_1.l.length : Int)]) [(r_1.l.length : Int)] Tryz.underlying32 glit3 (by decide) rfl rfl rfl rfl (by decide) (fun _ _ _ _ => trivial) (by decide) (fun s11_1 hs11_1 => ?_) (by decide)
 replace hS := lt_to hs11_1 hS
 obtain ⟨y12_3, ey12_3, hS⟩ := bd_s hS
 refine VL.callO (codec_Enc_Int_ct w_0_b w_0 s11_1 ey12_3) rfl (by decide) ?_
 rintro q12_3_0 rfl
 try dsimp only
 refine Zl ?_
 refine Zq (Zr ?_)
 refine Zm ?_
 refine Zu (q_ln (s := r_1) Tryz.underlying50 rfl) ?_
 refine Zy ?_
 refine VC.keep (ρ' := [(0, ptr w_0_b 0), (13, r_1.val), (14, i64 (r_1.l.length : Int)), (15, i64 0)]) [0, 13, 14, 15] rfl ?_
 refine Zb ?_
 refine VC.iter (S := Int × Sv UInt8) (fun sg => (sg.1, sg.2.l)) (fun sg => [(0, ptr w_0_b 0), (13, r_1.val), (14, i64 (r_1.l.length : Int)), (15, i64 sg.1)]) (fun sg => Mo.tt) (fun sg => Ow.star (Blk w_0_b [sg.2.val] 157) (Ow.star (Sv.own sg.2 5) (Ow.emp))) (0, q12_3_0.enc_b) [0, 13, 14, 15] hS rfl ?_
 clear hS
 rintro ⟨x15_4, c0_5⟩ m1 y1 hS hK1
 refine Zq (Zr ?_)
 refine Zu (q_lss rfl rfl) ?_
 refine Zl ?_
 refine Zq ?_
 refine Zc hS (fun h16 hS => ?_) (fun h16 hS => ?_)
 ·
  refine Zk ?_
  refine Zq (Zb (Zq (Zr ?_)))
  obtain ⟨z17_6, nz17_6, hz17_6, hS⟩ := at_s hS
  refine Zu (q_ixm (s := r_1) Tryz.underlying50 gsz185 rfl rfl nz17_6 (lt_of_get nz17_6 hz17_6)) ?_
  refine Zu (q_els (s := r_1) gagg185 rfl rfl hz17_6) ?_
  refine VL.alloc (cs := [str [], i64 0, str []]) (by kernel_rfl) (by decide) fun b5_7 => ?_
  refine Zv (vc := [str z17_6.path, i64 z17_6.mode, str z17_6.data]) (cs' := [str z17_6.path, i64 z17_6.mode, str z17_6.data]) rfl gsz185 ?_
  refine Zl ?_
  refine Zq ?_
  refine VC.draw [(0, true), (1, true), (2, true), (3, true), (4, true), (5, false), (6, false)] mixed (by kernel_rfl) (by kernel_rfl) (by kernel_rfl) ?_
  refine Zw rfl (q_move rfl) ?_
  refine Zw rfl (q_nilCheck rfl) ?_
  refine Zw rfl (q_field gfa157_0 rfl) ?_
  refine Zw rfl (q_field gfa185_0 rfl) ?_
  refine Zw rfl (q_fe gone9 rfl rfl) ?_
  refine VD.one rfl ?_
  refine VL.lit (α := Str) (xs := [.tmp 23]) (vs := [str z17_6.path]) [z17_6.path] Tryz.underlying89 glit9 (by decide) rfl rfl rfl rfl (by decide) (fun _ _ _ _ => trivial) (by decide) (fun s24_8 hs24_8 => ?_) (by decide)
  replace hS := lt_to hs24_8 hS
  refine VL.back (D' := [(2, ptr w_0_b 0), (1, ptr w_0_b 0)]) (by kernel_rfl) (Pend.cons rfl (q_field gfa157_0 rfl) (Pend.cons rfl (q_nilCheck rfl) (Pend.nil))) ?_
  refine VD.one rfl ?_
  obtain ⟨y25_10, ey25_10, hS⟩ := bd_s hS
  refine VL.callO (codec_Enc_Text_ct w_0_b (⟨c0_5⟩ : StateWriter) s24_8 ey25_10) rfl (by decide) ?_
  rintro q25_10_0 rfl
  try dsimp only
  refine VL.back (D' := []) (by kernel_rfl) (Pend.nil) ?_
  refine VD.to (fun _ _ h => h) ?_
  refine VC.keep (ρ' := [(0, ptr w_0_b 0), (13, r_1.val), (14, i64 (r_1.l.length : Int)), (15, i64 x15_4), (5, ptr b5_7 0)]) [0, 13, 14, 15, 5] rfl ?_
  refine Zq ?_
  refine VC.draw [(0, true), (1, true), (2, true), (3, true), (4, true), (5, false), (6, false)] mixed (by kernel_rfl) (by kernel_rfl) (by kernel_rfl) ?_
  refine Zw rfl (q_move rfl) ?_
  refine Zw rfl (q_nilCheck rfl) ?_
  refine Zw rfl (q_field gfa157_0 rfl) ?_
  refine Zw rfl (q_field gfa185_1 rfl) ?_
  refine Zw rfl (q_fe gone3 rfl rfl) ?_
  refine VD.one rfl ?_
  refine VL.lit (α := Int) (xs := [.tmp 30]) (vs := [i64 z17_6.mode]) [z17_6.mode] Tryz.underlying32 glit3 (by decide) rfl rfl rfl rfl (by decide) (fun _ _ _ _ => trivial) (by decide) (fun s31_11 hs31_11 => ?_) (by decide)
  replace hS := lt_to hs31_11 hS
  refine VL.back (D' := [(2, ptr w_0_b 0), (1, ptr w_0_b 0)]) (by kernel_rfl) (Pend.cons rfl (q_field gfa157_0 rfl) (Pend.cons rfl (q_nilCheck rfl) (Pend.nil))) ?_
  refine VD.one rfl ?_
  obtain ⟨y32_13, ey32_13, hS⟩ := bd_s hS
  refine VL.callO (codec_Enc_Int_ct w_0_b q25_10_0 s31_11 ey32_13) rfl (by decide) ?_
  rintro q32_13_0 rfl
  try dsimp only
  refine VL.back (D' := []) (by kernel_rfl) (Pend.nil) ?_
  refine VD.to (fun _ _ h => h) ?_
  refine VC.keep (ρ' := [(0, ptr w_0_b 0), (13, r_1.val), (14, i64 (r_1.l.length : Int)), (15, i64 x15_4), (5, ptr b5_7 0)]) [0, 13, 14, 15, 5] rfl ?_
  refine VC.draw [(0, true), (1, true), (2, true), (3, true), (4, true), (5, false), (6, false)] mixed (by kernel_rfl) (by kernel_rfl) (by kernel_rfl) ?_
  refine Zw rfl (q_move rfl) ?_
  refine Zw rfl (q_nilCheck rfl) ?_
  refine Zw rfl (q_field gfa157_0 rfl) ?_
  refine Zw rfl (q_field gfa185_2 rfl) ?_
  refine Zw rfl (q_fe gone9 rfl rfl) ?_
  refine VD.one rfl ?_
  refine VL.lit (α := Str) (xs := [.tmp 37]) (vs := [str z17_6.data]) [z17_6.data] Tryz.underlying89 glit9 (by decide) rfl rfl rfl rfl (by decide) (fun _ _ _ _ => trivial) (by decide) (fun s38_14 hs38_14 => ?_) (by decide)
  replace hS := lt_to hs38_14 hS
  refine VL.back (D' := [(2, ptr w_0_b 0), (1, ptr w_0_b 0)]) (by kernel_rfl) (Pend.cons rfl (q_field gfa157_0 rfl) (Pend.cons rfl (q_nilCheck rfl) (Pend.nil))) ?_
  refine VD.one rfl ?_
  obtain ⟨y39_16, ey39_16, hS⟩ := bd_s hS
  refine VL.callO (codec_Enc_Text_ct w_0_b q32_13_0 s38_14 ey39_16) rfl (by decide) ?_
  rintro q39_16_0 rfl
  try dsimp only
  refine VL.back (D' := []) (by kernel_rfl) (Pend.nil) ?_
  refine VD.to (fun _ _ h => h) ?_
  refine VC.keep (ρ' := [(0, ptr w_0_b 0), (13, r_1.val), (14, i64 (r_1.l.length : Int)), (15, i64 x15_4)]) [0, 13, 14, 15] rfl ?_
  refine Zr ?_
  obtain ⟨b40, hS⟩ := gd_s hS
  refine Zu (q_add rfl rfl b40) ?_
  refine Zm ?_
  refine VL.rnd ((x15_4 + 1), q39_16_0.enc_b) [0, 13, 14, 15] (fun _ _ h => h) (go2 hS hK1) rfl
 replace hS := up2 hS hK1
 cases hS
 exact VC.exit (fin0 (.inl rfl) rfl ⟨c0_5⟩ rfl rfl (by (try dsimp only); exact InM.out) (by (try dsimp only); exact EntO.out))
theorem state_writer_entries_ct (w_0_b : Nat) (w_0 : StateWriter) (l_1 : Sv IndexEntry) {r : StateWriterP} (hS : Sh.state_writer_entries w_0.pl l_1.l = some r) :
 Ct Tryz.prog 137 [ptr w_0_b 0, l_1.val] l_1.ok (Ow.star (Sv.own w_0.enc_b 5) (Blk w_0_b [w_0.enc_b.val] 157)) (X := StateWriter) (fun x => .tuple #[]) (fun x => r = x.pl) (fun x => Mo.tt) (fun x => Ow.star (Blk w_0_b [x.enc_b.val] 157) (Sv.own x.enc_b 5)) := by
 refine Zo Tryz.func137 Tryz.ntmps137 fun c => ?_
 unfold Sh.state_writer_entries at hS
 refine Zq (Zr ?_)
 refine Zm ?_
 refine Zu (q_nilCheck rfl) ?_
 refine Zu (q_field gfa157_0 rfl) ?_
 refine Zm ?_
 refine Zu (q_ln (s := l_1) Tryz.underlying51 rfl) ?_
 refine VL.lit (α := Int) (xs := [.tmp 10]) (vs := [i64 (l_1.l.length : Int)]) [(l_1.l.length : Int)] Tryz.underlying32 glit3 (by decide) rfl rfl rfl rfl (by decide) (fun _ _ _ _ => trivial) (by decide) (fun s11_1 hs11_1 => ?_) (by decide)
 replace hS := lt_to hs11_1 hS
 obtain ⟨y12_3, ey12_3, hS⟩ := bd_s hS
 refine VL.callO (codec_Enc_Int_ct w_0_b w_0 s11_1 ey12_3) rfl (by decide) ?_
 rintro q12_3_0 rfl
 try dsimp only
 refine Zl ?_
 refine Zq (Zr ?_)
 refine Zm ?_
 refine Zu (q_ln (s := l_1) Tryz.underlying51 rfl) ?_
 refine Zy ?_
 refine VC.keep (ρ' := [(0, ptr w_0_b 0), (13, l_1.val), (14, i64 (l_1.l.length : Int)), (15, i64 0)]) [0, 13, 14, 15] rfl ?_
 refine Zb ?_
 refine VC.iter (S := Int × Sv UInt8) (fun sg => (sg.1, sg.2.l)) (fun sg => [(0, ptr w_0_b 0), (13, l_1.val), (14, i64 (l_1.l.length : Int)), (15, i64 sg.1)]) (fun sg => Mo.tt) (fun sg => Ow.star (Blk w_0_b [sg.2.val] 157) (Ow.star (Sv.own sg.2 5) (Ow.emp))) (0, q12_3_0.enc_b) [0, 13, 14, 15] hS rfl ?_
 clear hS
 rintro ⟨x15_4, c0_5⟩ m1 y1 hS hK1
 refine Zq (Zr ?_)
 refine Zu (q_lss rfl rfl) ?_
 refine Zl ?_
 refine Zq ?_
 refine Zc hS (fun h16 hS => ?_) (fun h16 hS => ?_)
 ·
  refine Zk ?_
  refine Zq (Zb (Zq (Zr ?_)))
  obtain ⟨z17_6, nz17_6, hz17_6, hS⟩ := at_s hS
  refine Zu (q_ixm (s := l_1) Tryz.underlying51 gsz218 rfl rfl nz17_6 (lt_of_get nz17_6 hz17_6)) ?_
  refine Zu (q_els (s := l_1) gagg218 rfl rfl hz17_6) ?_
  refine VL.alloc (cs := [str [], i64 0, i64 0, str [], i64 0, i64 0]) (by kernel_rfl) (by decide) fun b5_7 => ?_
  refine Zv (vc := [str z17_6.path, i64 z17_6.stage, i64 z17_6.mode, str z17_6.data, i64 z17_6.time, i64 z17_6.size]) (cs' := [str z17_6.path, i64 z17_6.stage, i64 z17_6.mode, str z17_6.data, i64 z17_6.time, i64 z17_6.size]) rfl gsz218 ?_
  refine Zl ?_
  refine Zq ?_
  refine VC.draw [(0, true), (1, true), (2, true), (3, true), (4, true), (5, false), (6, false)] mixed (by kernel_rfl) (by kernel_rfl) (by kernel_rfl) ?_
  refine Zw rfl (q_move rfl) ?_
  refine Zw rfl (q_nilCheck rfl) ?_
  refine Zw rfl (q_field gfa157_0 rfl) ?_
  refine Zw rfl (q_field gfa218_0 rfl) ?_
  refine Zw rfl (q_fe gone9 rfl rfl) ?_
  refine VD.one rfl ?_
  refine VL.lit (α := Str) (xs := [.tmp 23]) (vs := [str z17_6.path]) [z17_6.path] Tryz.underlying89 glit9 (by decide) rfl rfl rfl rfl (by decide) (fun _ _ _ _ => trivial) (by decide) (fun s24_8 hs24_8 => ?_) (by decide)
  replace hS := lt_to hs24_8 hS
  refine VL.back (D' := [(2, ptr w_0_b 0), (1, ptr w_0_b 0)]) (by kernel_rfl) (Pend.cons rfl (q_field gfa157_0 rfl) (Pend.cons rfl (q_nilCheck rfl) (Pend.nil))) ?_
  refine VD.one rfl ?_
  obtain ⟨y25_10, ey25_10, hS⟩ := bd_s hS
  refine VL.callO (codec_Enc_Text_ct w_0_b (⟨c0_5⟩ : StateWriter) s24_8 ey25_10) rfl (by decide) ?_
  rintro q25_10_0 rfl
  try dsimp only
  refine VL.back (D' := []) (by kernel_rfl) (Pend.nil) ?_
  refine VD.to (fun _ _ h => h) ?_
  refine VC.keep (ρ' := [(0, ptr w_0_b 0), (13, l_1.val), (14, i64 (l_1.l.length : Int)), (15, i64 x15_4), (5, ptr b5_7 0)]) [0, 13, 14, 15, 5] rfl ?_
  refine Zq ?_
  refine VC.draw [(0, true), (1, true), (2, true), (3, true), (4, true), (5, true), (6, true), (7, false), (8, false)] mixed (by kernel_rfl) (by kernel_rfl) (by kernel_rfl) ?_
  refine Zw rfl (q_move rfl) ?_
  refine Zw rfl (q_nilCheck rfl) ?_
  refine Zw rfl (q_field gfa157_0 rfl) ?_
  refine Zw rfl (q_field gfa218_1 rfl) ?_
  refine Zw rfl (q_fe gone3 rfl rfl) ?_
  refine Zw rfl (q_field gfa218_2 rfl) ?_
  refine Zw rfl (q_fe gone3 rfl rfl) ?_
  refine VD.one rfl ?_
  refine VL.lit (α := Int) (xs := [.tmp 30, .tmp 32]) (vs := [i64 z17_6.stage, i64 z17_6.mode]) [z17_6.stage, z17_6.mode] Tryz.underlying32 glit3 (by decide) rfl rfl rfl rfl (by decide) (fun _ _ _ _ => trivial) (by decide) (fun s33_11 hs33_11 => ?_) (by decide)
  replace hS := lt_to hs33_11 hS
  refine VL.back (D' := [(2, ptr w_0_b 0), (1, ptr w_0_b 0)]) (by kernel_rfl) (Pend.cons rfl (q_field gfa157_0 rfl) (Pend.cons rfl (q_nilCheck rfl) (Pend.nil))) ?_
  refine VD.one rfl ?_
  obtain ⟨y34_13, ey34_13, hS⟩ := bd_s hS
  refine VL.callO (codec_Enc_Int_ct w_0_b q25_10_0 s33_11 ey34_13) rfl (by decide) ?_
  rintro q34_13_0 rfl
  try dsimp only
  refine VL.back (D' := []) (by kernel_rfl) (Pend.nil) ?_
  refine VD.to (fun _ _ h => h) ?_
  refine VC.keep (ρ' := [(0, ptr w_0_b 0), (13, l_1.val), (14, i64 (l_1.l.length : Int)), (15, i64 x15_4), (5, ptr b5_7 0)]) [0, 13, 14, 15, 5] rfl ?_
  refine Zq ?_
  refine VC.draw [(0, true), (1, true), (2, true), (3, true), (4, true), (5, false), (6, false)] mixed (by kernel_rfl) (by kernel_rfl) (by kernel_rfl) ?_
  refine Zw rfl (q_move rfl) ?_
  refine Zw rfl (q_nilCheck rfl) ?_
  refine Zw rfl (q_field gfa157_0 rfl) ?_
  refine Zw rfl (q_field gfa218_3 rfl) ?_
  refine Zw rfl (q_fe gone9 rfl rfl) ?_
  refine VD.one rfl ?_
  refine VL.lit (α := Str) (xs := [.tmp 39]) (vs := [str z17_6.data]) [z17_6.data] Tryz.underlying89 glit9 (by decide) rfl rfl rfl rfl (by decide) (fun _ _ _ _ => trivial) (by decide) (fun s40_14 hs40_14 => ?_) (by decide)
  replace hS := lt_to hs40_14 hS
  refine VL.back (D' := [(2, ptr w_0_b 0), (1, ptr w_0_b 0)]) (by kernel_rfl) (Pend.cons rfl (q_field gfa157_0 rfl) (Pend.cons rfl (q_nilCheck rfl) (Pend.nil))) ?_
  refine VD.one rfl ?_
  obtain ⟨y41_16, ey41_16, hS⟩ := bd_s hS
  refine VL.callO (codec_Enc_Text_ct w_0_b q34_13_0 s40_14 ey41_16) rfl (by decide) ?_
  rintro q41_16_0 rfl
  try dsimp only
  refine VL.back (D' := []) (by kernel_rfl) (Pend.nil) ?_
  refine VD.to (fun _ _ h => h) ?_
  refine VC.keep (ρ' := [(0, ptr w_0_b 0), (13, l_1.val), (14, i64 (l_1.l.length : Int)), (15, i64 x15_4), (5, ptr b5_7 0)]) [0, 13, 14, 15, 5] rfl ?_
  refine VC.draw [(0, true), (1, true), (2, true), (3, true), (4, true), (5, true), (6, true), (7, false), (8, false)] mixed (by kernel_rfl) (by kernel_rfl) (by kernel_rfl) ?_
  refine Zw rfl (q_move rfl) ?_
  refine Zw rfl (q_nilCheck rfl) ?_
  refine Zw rfl (q_field gfa157_0 rfl) ?_
  refine Zw rfl (q_field gfa218_4 rfl) ?_
  refine Zw rfl (q_fe gone3 rfl rfl) ?_
  refine Zw rfl (q_field gfa218_5 rfl) ?_
  refine Zw rfl (q_fe gone3 rfl rfl) ?_
  refine VD.one rfl ?_
  refine VL.lit (α := Int) (xs := [.tmp 46, .tmp 48]) (vs := [i64 z17_6.time, i64 z17_6.size]) [z17_6.time, z17_6.size] Tryz.underlying32 glit3 (by decide) rfl rfl rfl rfl (by decide) (fun _ _ _ _ => trivial) (by decide) (fun s49_17 hs49_17 => ?_) (by decide)
  replace hS := lt_to hs49_17 hS
  refine VL.back (D' := [(2, ptr w_0_b 0), (1, ptr w_0_b 0)]) (by kernel_rfl) (Pend.cons rfl (q_field gfa157_0 rfl) (Pend.cons rfl (q_nilCheck rfl) (Pend.nil))) ?_
  refine VD.one rfl ?_
  obtain ⟨y50_19, ey50_19, hS⟩ := bd_s hS
  refine VL.callO (codec_Enc_Int_ct w_0_b q41_16_0 s49_17 ey50_19) rfl (by decide) ?_
  rintro q50_19_0 rfl
  try dsimp only
  refine VL.back (D' := []) (by kernel_rfl) (Pend.nil) ?_
  refine VD.to (fun _ _ h => h) ?_
  refine VC.keep (ρ' := [(0, ptr w_0_b 0), (13, l_1.val), (14, i64 (l_1.l.length : Int)), (15, i64 x15_4)]) [0, 13, 14, 15] rfl ?_
  refine Zr ?_
  obtain ⟨b51, hS⟩ := gd_s hS
  refine Zu (q_add rfl rfl b51) ?_
  refine Zm ?_
  refine VL.rnd ((x15_4 + 1), q50_19_0.enc_b) [0, 13, 14, 15] (fun _ _ h => h) (go2 hS hK1) rfl
 replace hS := up2 hS hK1
 cases hS
 exact VC.exit (fin0 (.inl rfl) rfl ⟨c0_5⟩ rfl rfl (by (try dsimp only); exact InM.out) (by (try dsimp only); exact EntO.out))
theorem state_writer_head_ct (w_0_b : Nat) (w_0 : StateWriter) (h_1 : NamesHead) {r : StateWriterP} (hS : Sh.state_writer_head w_0.pl h_1 = some r) :
 Ct Tryz.prog 138 [ptr w_0_b 0, .agg #[str h_1.branch, i64 h_1.commit]] Mo.tt (Ow.star (Sv.own w_0.enc_b 5) (Blk w_0_b [w_0.enc_b.val] 157)) (X := StateWriter) (fun x => .tuple #[]) (fun x => r = x.pl) (fun x => Mo.tt) (fun x => Ow.star (Blk w_0_b [x.enc_b.val] 157) (Sv.own x.enc_b 5)) := by
 refine Zo Tryz.func138 Tryz.ntmps138 fun c => ?_
 unfold Sh.state_writer_head at hS
 refine Zq (Zr ?_)
 refine VL.box (cs := [str h_1.branch, i64 h_1.commit]) rfl rfl (by decide) fun b3_1 => ?_
 refine Zl ?_
 refine Zq ?_
 refine VC.draw [(0, true), (1, true), (2, true), (3, true), (4, true), (5, false), (6, false)] mixed (by kernel_rfl) (by kernel_rfl) (by kernel_rfl) ?_
 refine Zw rfl (q_move rfl) ?_
 refine Zw rfl (q_nilCheck rfl) ?_
 refine Zw rfl (q_field gfa157_0 rfl) ?_
 refine Zw rfl (q_field gfa54_0 rfl) ?_
 refine Zw rfl (q_fe gone9 rfl rfl) ?_
 refine VD.one rfl ?_
 refine VL.lit (α := Str) (xs := [.tmp 8]) (vs := [str h_1.branch]) [h_1.branch] Tryz.underlying89 glit9 (by decide) rfl rfl rfl rfl (by decide) (fun _ _ _ _ => trivial) (by decide) (fun s9_2 hs9_2 => ?_) (by decide)
 replace hS := lt_to hs9_2 hS
 refine VL.back (D' := [(2, ptr w_0_b 0), (1, ptr w_0_b 0)]) (by kernel_rfl) (Pend.cons rfl (q_field gfa157_0 rfl) (Pend.cons rfl (q_nilCheck rfl) (Pend.nil))) ?_
 refine VD.one rfl ?_
 obtain ⟨y10_4, ey10_4, hS⟩ := bd_s hS
 refine VL.callO (codec_Enc_Text_ct w_0_b w_0 s9_2 ey10_4) rfl (by decide) ?_
 rintro q10_4_0 rfl
 try dsimp only
 refine VL.back (D' := []) (by kernel_rfl) (Pend.nil) ?_
 refine VD.to (fun _ _ h => h) ?_
 refine VC.draw [(0, true), (1, true), (2, true), (3, true), (4, true), (5, false), (6, false)] mixed (by kernel_rfl) (by kernel_rfl) (by kernel_rfl) ?_
 refine Zw rfl (q_move rfl) ?_
 refine Zw rfl (q_nilCheck rfl) ?_
 refine Zw rfl (q_field gfa157_0 rfl) ?_
 refine Zw rfl (q_field gfa54_1 rfl) ?_
 refine Zw rfl (q_fe gone3 rfl rfl) ?_
 refine VD.one rfl ?_
 refine VL.lit (α := Int) (xs := [.tmp 15]) (vs := [i64 h_1.commit]) [h_1.commit] Tryz.underlying32 glit3 (by decide) rfl rfl rfl rfl (by decide) (fun _ _ _ _ => trivial) (by decide) (fun s16_5 hs16_5 => ?_) (by decide)
 replace hS := lt_to hs16_5 hS
 refine VL.back (D' := [(2, ptr w_0_b 0), (1, ptr w_0_b 0)]) (by kernel_rfl) (Pend.cons rfl (q_field gfa157_0 rfl) (Pend.cons rfl (q_nilCheck rfl) (Pend.nil))) ?_
 refine VD.one rfl ?_
 obtain ⟨y17_7, ey17_7, hS⟩ := bd_s hS
 refine VL.callO (codec_Enc_Int_ct w_0_b q10_4_0 s16_5 ey17_7) rfl (by decide) ?_
 rintro q17_7_0 rfl
 try dsimp only
 refine VL.back (D' := []) (by kernel_rfl) (Pend.nil) ?_
 cases hS
 exact VD.nil (fin0 (.inl rfl) rfl ⟨q17_7_0.enc_b⟩ rfl rfl (by (try dsimp only); exact InM.out) (by (try dsimp only); exact EntO.out))
theorem state_writer_steps_ct (w_0_b : Nat) (w_0 : StateWriter) (l_1 : Sv TodoStep) {r : StateWriterP} (hS : Sh.state_writer_steps w_0.pl l_1.l = some r) :
 Ct Tryz.prog 200 [ptr w_0_b 0, l_1.val] l_1.ok (Ow.star (Sv.own w_0.enc_b 5) (Blk w_0_b [w_0.enc_b.val] 157)) (X := StateWriter) (fun x => .tuple #[]) (fun x => r = x.pl) (fun x => Mo.tt) (fun x => Ow.star (Blk w_0_b [x.enc_b.val] 157) (Sv.own x.enc_b 5)) := by
 refine Zo Tryz.func200 Tryz.ntmps200 fun c => ?_
 unfold Sh.state_writer_steps at hS
 refine Zq (Zr ?_)
 refine Zm ?_
 refine Zu (q_nilCheck rfl) ?_
 refine Zu (q_field gfa157_0 rfl) ?_
 refine Zm ?_
 refine Zu (q_ln (s := l_1) Tryz.underlying55 rfl) ?_
 refine VL.lit (α := Int) (xs := [.tmp 10]) (vs := [i64 (l_1.l.length : Int)]) [(l_1.l.length : Int)] Tryz.underlying32 glit3 (by decide) rfl rfl rfl rfl (by decide) (fun _ _ _ _ => trivial) (by decide) (fun s11_1 hs11_1 => ?_) (by decide)
 replace hS := lt_to hs11_1 hS
 obtain ⟨y12_3, ey12_3, hS⟩ := bd_s hS
 refine VL.callO (codec_Enc_Int_ct w_0_b w_0 s11_1 ey12_3) rfl (by decide) ?_
 rintro q12_3_0 rfl
 try dsimp only
 refine Zl ?_
 refine Zq (Zr ?_)
 refine Zm ?_
 refine Zu (q_ln (s := l_1) Tryz.underlying55 rfl) ?_
 refine Zy ?_
 refine VC.keep (ρ' := [(0, ptr w_0_b 0), (13, l_1.val), (14, i64 (l_1.l.length : Int)), (15, i64 0)]) [0, 13, 14, 15] rfl ?_
 refine Zb ?_
 refine VC.iter (S := Int × Sv UInt8) (fun sg => (sg.1, sg.2.l)) (fun sg => [(0, ptr w_0_b 0), (13, l_1.val), (14, i64 (l_1.l.length : Int)), (15, i64 sg.1)]) (fun sg => Mo.tt) (fun sg => Ow.star (Blk w_0_b [sg.2.val] 157) (Ow.star (Sv.own sg.2 5) (Ow.emp))) (0, q12_3_0.enc_b) [0, 13, 14, 15] hS rfl ?_
 clear hS
 rintro ⟨x15_4, c0_5⟩ m1 y1 hS hK1
 refine Zq (Zr ?_)
 refine Zu (q_lss rfl rfl) ?_
 refine Zl ?_
 refine Zq ?_
 refine Zc hS (fun h16 hS => ?_) (fun h16 hS => ?_)
 ·
  refine Zk ?_
  refine Zq (Zb (Zq (Zr ?_)))
  obtain ⟨z17_6, nz17_6, hz17_6, hS⟩ := at_s hS
  refine Zu (q_ixm (s := l_1) Tryz.underlying55 gsz278 rfl rfl nz17_6 (lt_of_get nz17_6 hz17_6)) ?_
  refine Zu (q_els (s := l_1) gagg278 rfl rfl hz17_6) ?_
  refine VL.alloc (cs := [str [], i64 0, str []]) (by kernel_rfl) (by decide) fun b5_7 => ?_
  refine Zv (vc := [str z17_6.verb, i64 z17_6.commit, str z17_6.text]) (cs' := [str z17_6.verb, i64 z17_6.commit, str z17_6.text]) rfl gsz278 ?_
  refine Zl ?_
  refine Zq ?_
  refine VC.draw [(0, true), (1, true), (2, true), (3, true), (4, true), (5, false), (6, false)] mixed (by kernel_rfl) (by kernel_rfl) (by kernel_rfl) ?_
  refine Zw rfl (q_move rfl) ?_
  refine Zw rfl (q_nilCheck rfl) ?_
  refine Zw rfl (q_field gfa157_0 rfl) ?_
  refine Zw rfl (q_field gfa278_0 rfl) ?_
  refine Zw rfl (q_fe gone9 rfl rfl) ?_
  refine VD.one rfl ?_
  refine VL.lit (α := Str) (xs := [.tmp 23]) (vs := [str z17_6.verb]) [z17_6.verb] Tryz.underlying89 glit9 (by decide) rfl rfl rfl rfl (by decide) (fun _ _ _ _ => trivial) (by decide) (fun s24_8 hs24_8 => ?_) (by decide)
  replace hS := lt_to hs24_8 hS
  refine VL.back (D' := [(2, ptr w_0_b 0), (1, ptr w_0_b 0)]) (by kernel_rfl) (Pend.cons rfl (q_field gfa157_0 rfl) (Pend.cons rfl (q_nilCheck rfl) (Pend.nil))) ?_
  refine VD.one rfl ?_
  obtain ⟨y25_10, ey25_10, hS⟩ := bd_s hS
  refine VL.callO (codec_Enc_Text_ct w_0_b (⟨c0_5⟩ : StateWriter) s24_8 ey25_10) rfl (by decide) ?_
  rintro q25_10_0 rfl
  try dsimp only
  refine VL.back (D' := []) (by kernel_rfl) (Pend.nil) ?_
  refine VD.to (fun _ _ h => h) ?_
  refine VC.keep (ρ' := [(0, ptr w_0_b 0), (13, l_1.val), (14, i64 (l_1.l.length : Int)), (15, i64 x15_4), (5, ptr b5_7 0)]) [0, 13, 14, 15, 5] rfl ?_
  refine Zq ?_
  refine VC.draw [(0, true), (1, true), (2, true), (3, true), (4, true), (5, false), (6, false)] mixed (by kernel_rfl) (by kernel_rfl) (by kernel_rfl) ?_
  refine Zw rfl (q_move rfl) ?_
  refine Zw rfl (q_nilCheck rfl) ?_
  refine Zw rfl (q_field gfa157_0 rfl) ?_
  refine Zw rfl (q_field gfa278_1 rfl) ?_
  refine Zw rfl (q_fe gone3 rfl rfl) ?_
  refine VD.one rfl ?_
  refine VL.lit (α := Int) (xs := [.tmp 30]) (vs := [i64 z17_6.commit]) [z17_6.commit] Tryz.underlying32 glit3 (by decide) rfl rfl rfl rfl (by decide) (fun _ _ _ _ => trivial) (by decide) (fun s31_11 hs31_11 => ?_) (by decide)
  replace hS := lt_to hs31_11 hS
  refine VL.back (D' := [(2, ptr w_0_b 0), (1, ptr w_0_b 0)]) (by kernel_rfl) (Pend.cons rfl (q_field gfa157_0 rfl) (Pend.cons rfl (q_nilCheck rfl) (Pend.nil))) ?_
  refine VD.one rfl ?_
  obtain ⟨y32_13, ey32_13, hS⟩ := bd_s hS
  refine VL.callO (codec_Enc_Int_ct w_0_b q25_10_0 s31_11 ey32_13) rfl (by decide) ?_
  rintro q32_13_0 rfl
  try dsimp only
  refine VL.back (D' := []) (by kernel_rfl) (Pend.nil) ?_
  refine VD.to (fun _ _ h => h) ?_
  refine VC.keep (ρ' := [(0, ptr w_0_b 0), (13, l_1.val), (14, i64 (l_1.l.length : Int)), (15, i64 x15_4), (5, ptr b5_7 0)]) [0, 13, 14, 15, 5] rfl ?_
  refine VC.draw [(0, true), (1, true), (2, true), (3, true), (4, true), (5, false), (6, false)] mixed (by kernel_rfl) (by kernel_rfl) (by kernel_rfl) ?_
  refine Zw rfl (q_move rfl) ?_
  refine Zw rfl (q_nilCheck rfl) ?_
  refine Zw rfl (q_field gfa157_0 rfl) ?_
  refine Zw rfl (q_field gfa278_2 rfl) ?_
  refine Zw rfl (q_fe gone9 rfl rfl) ?_
  refine VD.one rfl ?_
  refine VL.lit (α := Str) (xs := [.tmp 37]) (vs := [str z17_6.text]) [z17_6.text] Tryz.underlying89 glit9 (by decide) rfl rfl rfl rfl (by decide) (fun _ _ _ _ => trivial) (by decide) (fun s38_14 hs38_14 => ?_) (by decide)
  replace hS := lt_to hs38_14 hS
  refine VL.back (D' := [(2, ptr w_0_b 0), (1, ptr w_0_b 0)]) (by kernel_rfl) (Pend.cons rfl (q_field gfa157_0 rfl) (Pend.cons rfl (q_nilCheck rfl) (Pend.nil))) ?_
  refine VD.one rfl ?_
  obtain ⟨y39_16, ey39_16, hS⟩ := bd_s hS
  refine VL.callO (codec_Enc_Text_ct w_0_b q32_13_0 s38_14 ey39_16) rfl (by decide) ?_
  rintro q39_16_0 rfl
  try dsimp only
  refine VL.back (D' := []) (by kernel_rfl) (Pend.nil) ?_
  refine VD.to (fun _ _ h => h) ?_
  refine VC.keep (ρ' := [(0, ptr w_0_b 0), (13, l_1.val), (14, i64 (l_1.l.length : Int)), (15, i64 x15_4)]) [0, 13, 14, 15] rfl ?_
  refine Zr ?_
  obtain ⟨b40, hS⟩ := gd_s hS
  refine Zu (q_add rfl rfl b40) ?_
  refine Zm ?_
  refine VL.rnd ((x15_4 + 1), q39_16_0.enc_b) [0, 13, 14, 15] (fun _ _ h => h) (go2 hS hK1) rfl
 replace hS := up2 hS hK1
 cases hS
 exact VC.exit (fin0 (.inl rfl) rfl ⟨c0_5⟩ rfl rfl (by (try dsimp only); exact InM.out) (by (try dsimp only); exact EntO.out))
theorem state_writer_seq_ct (w_0_b : Nat) (w_0 : StateWriter) (s_1 : StateSeq) {r : StateWriterP} (hS : Sh.state_writer_seq w_0.pl s_1.pl = some r) :
 Ct Tryz.prog 139 [ptr w_0_b 0, .agg (zStateSeq s_1).toArray] (s_1.doing.ok.and (s_1.todo.ok.and (s_1.index.ok.and s_1.work.ok))) (Ow.star (Sv.own w_0.enc_b 5) (Blk w_0_b [w_0.enc_b.val] 157)) (X := StateWriter) (fun x => .tuple #[]) (fun x => r = x.pl) (fun x => Mo.tt) (fun x => Ow.star (Blk w_0_b [x.enc_b.val] 157) (Sv.own x.enc_b 5)) := by
 refine Zo Tryz.func139 Tryz.ntmps139 fun c => ?_
 unfold Sh.state_writer_seq at hS
 refine Zq (Zr ?_)
 refine VL.box (cs := (zStateSeq s_1)) rfl rfl (by decide) fun b3_1 => ?_
 refine Zl ?_
 refine Zq ?_
 refine VC.draw [(0, true), (1, true), (2, true), (3, true), (4, true), (5, false), (6, false)] mixed (by kernel_rfl) (by kernel_rfl) (by kernel_rfl) ?_
 refine Zw rfl (q_move rfl) ?_
 refine Zw rfl (q_nilCheck rfl) ?_
 refine Zw rfl (q_field gfa157_0 rfl) ?_
 refine Zw rfl (q_field gfa57_0 rfl) ?_
 refine Zw rfl (q_fe gone9 rfl rfl) ?_
 refine VD.one rfl ?_
 refine VL.lit (α := Str) (xs := [.tmp 8]) (vs := [str s_1.kind]) [s_1.kind] Tryz.underlying89 glit9 (by decide) rfl rfl rfl rfl (by decide) (fun _ _ _ _ => trivial) (by decide) (fun s9_2 hs9_2 => ?_) (by decide)
 replace hS := lt_to hs9_2 hS
 refine VL.back (D' := [(2, ptr w_0_b 0), (1, ptr w_0_b 0)]) (by kernel_rfl) (Pend.cons rfl (q_field gfa157_0 rfl) (Pend.cons rfl (q_nilCheck rfl) (Pend.nil))) ?_
 refine VD.one rfl ?_
 obtain ⟨y10_4, ey10_4, hS⟩ := bd_s hS
 refine VL.callO (codec_Enc_Text_ct w_0_b w_0 s9_2 ey10_4) rfl (by decide) ?_
 rintro q10_4_0 rfl
 try dsimp only
 refine VL.back (D' := []) (by kernel_rfl) (Pend.nil) ?_
 refine VD.to (fun _ _ h => h) ?_
 refine Zq ?_
 refine VC.draw [(0, true), (1, true), (2, true), (3, true), (4, true), (5, false), (6, false)] mixed (by kernel_rfl) (by kernel_rfl) (by kernel_rfl) ?_
 refine Zw rfl (q_move rfl) ?_
 refine Zw rfl (q_nilCheck rfl) ?_
 refine Zw rfl (q_field gfa157_0 rfl) ?_
 refine Zw rfl (q_field gfa57_1 rfl) ?_
 refine Zw rfl (q_fe gone3 rfl rfl) ?_
 refine VD.one rfl ?_
 refine VL.lit (α := Int) (xs := [.tmp 15]) (vs := [i64 s_1.other]) [s_1.other] Tryz.underlying32 glit3 (by decide) rfl rfl rfl rfl (by decide) (fun _ _ _ _ => trivial) (by decide) (fun s16_5 hs16_5 => ?_) (by decide)
 replace hS := lt_to hs16_5 hS
 refine VL.back (D' := [(2, ptr w_0_b 0), (1, ptr w_0_b 0)]) (by kernel_rfl) (Pend.cons rfl (q_field gfa157_0 rfl) (Pend.cons rfl (q_nilCheck rfl) (Pend.nil))) ?_
 refine VD.one rfl ?_
 obtain ⟨y17_7, ey17_7, hS⟩ := bd_s hS
 refine VL.callO (codec_Enc_Int_ct w_0_b q10_4_0 s16_5 ey17_7) rfl (by decide) ?_
 rintro q17_7_0 rfl
 try dsimp only
 refine VL.back (D' := []) (by kernel_rfl) (Pend.nil) ?_
 refine VD.to (fun _ _ h => h) ?_
 refine VC.keep (ρ' := [(0, ptr w_0_b 0), (3, ptr b3_1 0)]) [0, 3] rfl ?_
 refine Zq ?_
 refine VC.draw [(0, true), (1, true), (2, true), (3, true), (4, true), (5, false), (6, false)] mixed (by kernel_rfl) (by kernel_rfl) (by kernel_rfl) ?_
 refine Zw rfl (q_move rfl) ?_
 refine Zw rfl (q_nilCheck rfl) ?_
 refine Zw rfl (q_field gfa157_0 rfl) ?_
 refine Zw rfl (q_field gfa57_2 rfl) ?_
 refine Zw rfl (q_fe gone9 rfl rfl) ?_
 refine VD.one rfl ?_
 refine VL.lit (α := Str) (xs := [.tmp 22]) (vs := [str s_1.text]) [s_1.text] Tryz.underlying89 glit9 (by decide) rfl rfl rfl rfl (by decide) (fun _ _ _ _ => trivial) (by decide) (fun s23_8 hs23_8 => ?_) (by decide)
 replace hS := lt_to hs23_8 hS
 refine VL.back (D' := [(2, ptr w_0_b 0), (1, ptr w_0_b 0)]) (by kernel_rfl) (Pend.cons rfl (q_field gfa157_0 rfl) (Pend.cons rfl (q_nilCheck rfl) (Pend.nil))) ?_
 refine VD.one rfl ?_
 obtain ⟨y24_10, ey24_10, hS⟩ := bd_s hS
 refine VL.callO (codec_Enc_Text_ct w_0_b q17_7_0 s23_8 ey24_10) rfl (by decide) ?_
 rintro q24_10_0 rfl
 try dsimp only
 refine VL.back (D' := []) (by kernel_rfl) (Pend.nil) ?_
 refine VD.to (fun _ _ h => h) ?_
 refine Zq (Zr ?_)
 refine Zm ?_
 refine Zu (q_field gfa57_3 rfl) ?_
 refine Zu (q_fe gone55 rfl rfl) ?_
 obtain ⟨y28_11, ey28_11, hS⟩ := bd_s hS
 refine VL.callO (state_writer_steps_ct w_0_b q24_10_0 s_1.doing ey28_11) rfl (by decide) ?_
 rintro q28_11_0 rfl
 try dsimp only
 refine Zl ?_
 refine VC.keep (ρ' := [(0, ptr w_0_b 0), (3, ptr b3_1 0)]) [0, 3] rfl ?_
 refine Zq (Zr ?_)
 refine Zm ?_
 refine Zu (q_field gfa57_4 rfl) ?_
 refine Zu (q_fe gone55 rfl rfl) ?_
 obtain ⟨y32_12, ey32_12, hS⟩ := bd_s hS
 refine VL.callO (state_writer_steps_ct w_0_b q28_11_0 s_1.todo ey32_12) rfl (by decide) ?_
 rintro q32_12_0 rfl
 try dsimp only
 refine Zl ?_
 refine Zq ?_
 refine VC.draw [(0, true), (1, true), (2, true), (3, true), (4, true), (5, false), (6, false)] mixed (by kernel_rfl) (by kernel_rfl) (by kernel_rfl) ?_
 refine Zw rfl (q_move rfl) ?_
 refine Zw rfl (q_nilCheck rfl) ?_
 refine Zw rfl (q_field gfa157_0 rfl) ?_
 refine Zw rfl (q_field gfa57_5 rfl) ?_
 refine Zw rfl (q_fe gone3 rfl rfl) ?_
 refine VD.one rfl ?_
 refine VL.lit (α := Int) (xs := [.tmp 37]) (vs := [i64 s_1.made]) [s_1.made] Tryz.underlying32 glit3 (by decide) rfl rfl rfl rfl (by decide) (fun _ _ _ _ => trivial) (by decide) (fun s38_13 hs38_13 => ?_) (by decide)
 replace hS := lt_to hs38_13 hS
 refine VL.back (D' := [(2, ptr w_0_b 0), (1, ptr w_0_b 0)]) (by kernel_rfl) (Pend.cons rfl (q_field gfa157_0 rfl) (Pend.cons rfl (q_nilCheck rfl) (Pend.nil))) ?_
 refine VD.one rfl ?_
 obtain ⟨y39_15, ey39_15, hS⟩ := bd_s hS
 refine VL.callO (codec_Enc_Int_ct w_0_b q32_12_0 s38_13 ey39_15) rfl (by decide) ?_
 rintro q39_15_0 rfl
 try dsimp only
 refine VL.back (D' := []) (by kernel_rfl) (Pend.nil) ?_
 refine VD.to (fun _ _ h => h) ?_
 refine VC.keep (ρ' := [(0, ptr w_0_b 0), (3, ptr b3_1 0)]) [0, 3] rfl ?_
 refine Zq ?_
 refine VC.draw [(0, true), (1, true), (2, true), (3, true), (4, true), (5, false), (6, false)] mixed (by kernel_rfl) (by kernel_rfl) (by kernel_rfl) ?_
 refine Zw rfl (q_move rfl) ?_
 refine Zw rfl (q_nilCheck rfl) ?_
 refine Zw rfl (q_field gfa157_0 rfl) ?_
 refine Zw rfl (q_field gfa57_6 rfl) ?_
 refine Zw rfl (q_fe gone9 rfl rfl) ?_
 refine VD.one rfl ?_
 refine VL.lit (α := Str) (xs := [.tmp 44]) (vs := [str s_1.branch]) [s_1.branch] Tryz.underlying89 glit9 (by decide) rfl rfl rfl rfl (by decide) (fun _ _ _ _ => trivial) (by decide) (fun s45_16 hs45_16 => ?_) (by decide)
 replace hS := lt_to hs45_16 hS
 refine VL.back (D' := [(2, ptr w_0_b 0), (1, ptr w_0_b 0)]) (by kernel_rfl) (Pend.cons rfl (q_field gfa157_0 rfl) (Pend.cons rfl (q_nilCheck rfl) (Pend.nil))) ?_
 refine VD.one rfl ?_
 obtain ⟨y46_18, ey46_18, hS⟩ := bd_s hS
 refine VL.callO (codec_Enc_Text_ct w_0_b q39_15_0 s45_16 ey46_18) rfl (by decide) ?_
 rintro q46_18_0 rfl
 try dsimp only
 refine VL.back (D' := []) (by kernel_rfl) (Pend.nil) ?_
 refine VD.to (fun _ _ h => h) ?_
 refine Zq (Zr ?_)
 refine Zm ?_
 refine Zu (q_field gfa57_7 rfl) ?_
 refine Zu (q_fep (j := 7) (n := 2) gagg54 rfl rfl rfl) ?_
 obtain ⟨y50_19, ey50_19, hS⟩ := bd_s hS
 refine VL.callO (state_writer_head_ct w_0_b q46_18_0 (⟨s_1.head_branch, s_1.head_commit⟩ : NamesHead) ey50_19) rfl (by decide) ?_
 rintro q50_19_0 rfl
 try dsimp only
 refine Zl ?_
 refine VC.keep (ρ' := [(0, ptr w_0_b 0), (3, ptr b3_1 0)]) [0, 3] rfl ?_
 refine Zq (Zr ?_)
 refine Zm ?_
 refine Zu (q_field gfa57_8 rfl) ?_
 refine Zu (q_fe gone51 rfl rfl) ?_
 obtain ⟨y54_20, ey54_20, hS⟩ := bd_s hS
 refine VL.callO (state_writer_entries_ct w_0_b q50_19_0 s_1.index ey54_20) rfl (by decide) ?_
 rintro q54_20_0 rfl
 try dsimp only
 refine Zl ?_
 refine Zr ?_
 refine Zm ?_
 refine Zu (q_field gfa57_9 rfl) ?_
 refine Zu (q_fe gone50 rfl rfl) ?_
 obtain ⟨y58_21, ey58_21, hS⟩ := bd_s hS
 refine VL.callO (state_writer_row_ct w_0_b q54_20_0 s_1.work ey58_21) rfl (by decide) ?_
 rintro q58_21_0 rfl
 try dsimp only
 cases hS
 exact VL.nil (fin0 (.inl rfl) rfl ⟨q58_21_0.enc_b⟩ rfl rfl (by (try dsimp only); exact InM.out) (by (try dsimp only); exact EntO.out))
theorem state_writer_now_ct (w_0_b : Nat) (w_0 : StateWriter) (n_1 : StateNow) {r : StateWriterP} (hS : Sh.state_writer_now w_0.pl n_1.pl = some r) :
 Ct Tryz.prog 66 [ptr w_0_b 0, .agg #[n_1.work.val, n_1.index.val, n_1.refs.val, str n_1.head_branch, i64 n_1.head_commit, str n_1.seq_kind, i64 n_1.seq_other, str n_1.seq_text, n_1.seq_doing.val, n_1.seq_todo.val, i64 n_1.seq_made, str n_1.seq_branch, str n_1.seq_head_branch, i64 n_1.seq_head_commit, n_1.seq_index.val, n_1.seq_work.val, n_1.stash.val]] (n_1.work.ok.and (n_1.index.ok.and (n_1.refs.ok.and (n_1.seq_doing.ok.and (n_1.seq_todo.ok.and (n_1.seq_index.ok.and (n_1.seq_work.ok.and n_1.stash.ok))))))) (Ow.star (Sv.own w_0.enc_b 5) (Blk w_0_b [w_0.enc_b.val] 157)) (X := StateWriter) (fun x => .tuple #[]) (fun x => r = x.pl) (fun x => Mo.tt) (fun x => Ow.star (Blk w_0_b [x.enc_b.val] 157) (Sv.own x.enc_b 5)) := by
 refine Zo Tryz.func66 Tryz.ntmps66 fun c => ?_
 unfold Sh.state_writer_now at hS
 refine Zq (Zr ?_)
 refine VL.box (cs := [n_1.work.val, n_1.index.val, n_1.refs.val, str n_1.head_branch, i64 n_1.head_commit, str n_1.seq_kind, i64 n_1.seq_other, str n_1.seq_text, n_1.seq_doing.val, n_1.seq_todo.val, i64 n_1.seq_made, str n_1.seq_branch, str n_1.seq_head_branch, i64 n_1.seq_head_commit, n_1.seq_index.val, n_1.seq_work.val, n_1.stash.val]) rfl rfl (by decide) fun b3_1 => ?_
 refine Zl ?_
 refine Zq (Zr ?_)
 refine Zm ?_
 refine Zu (q_field gfa61_0 rfl) ?_
 refine Zu (q_fe gone50 rfl rfl) ?_
 obtain ⟨y11_2, ey11_2, hS⟩ := bd_s hS
 refine VL.callO (state_writer_row_ct w_0_b w_0 n_1.work ey11_2) rfl (by decide) ?_
 rintro q11_2_0 rfl
 try dsimp only
 refine Zl ?_
 refine Zq (Zr ?_)
 refine Zm ?_
 refine Zu (q_field gfa61_1 rfl) ?_
 refine Zu (q_fe gone51 rfl rfl) ?_
 obtain ⟨y15_3, ey15_3, hS⟩ := bd_s hS
 refine VL.callO (state_writer_entries_ct w_0_b q11_2_0 n_1.index ey15_3) rfl (by decide) ?_
 rintro q15_3_0 rfl
 try dsimp only
 refine Zl ?_
 refine VC.keep (ρ' := [(0, ptr w_0_b 0), (3, ptr b3_1 0)]) [0, 3] rfl ?_
 refine Zq ?_
 refine VC.draw [(0, true), (1, true), (2, true), (3, true), (4, true), (5, true), (6, false), (7, false)] mixed (by kernel_rfl) (by kernel_rfl) (by kernel_rfl) ?_
 refine Zw rfl (q_move rfl) ?_
 refine Zw rfl (q_nilCheck rfl) ?_
 refine Zw rfl (q_field gfa157_0 rfl) ?_
 refine Zw rfl (q_field gfa61_2 rfl) ?_
 refine Zw rfl (q_fe gone52 rfl rfl) ?_
 refine Zw rfl (q_ln (s := n_1.refs) Tryz.underlying52 rfl) ?_
 refine VD.one rfl ?_
 refine VL.lit (α := Int) (xs := [.tmp 21]) (vs := [i64 (n_1.refs.l.length : Int)]) [(n_1.refs.l.length : Int)] Tryz.underlying32 glit3 (by decide) rfl rfl rfl rfl (by decide) (fun _ _ _ _ => trivial) (by decide) (fun s22_4 hs22_4 => ?_) (by decide)
 replace hS := lt_to hs22_4 hS
 refine VL.back (D' := [(2, ptr w_0_b 0), (1, ptr w_0_b 0)]) (by kernel_rfl) (Pend.cons rfl (q_field gfa157_0 rfl) (Pend.cons rfl (q_nilCheck rfl) (Pend.nil))) ?_
 refine VD.one rfl ?_
 obtain ⟨y23_6, ey23_6, hS⟩ := bd_s hS
 refine VL.callO (codec_Enc_Int_ct w_0_b q15_3_0 s22_4 ey23_6) rfl (by decide) ?_
 rintro q23_6_0 rfl
 try dsimp only
 refine VL.back (D' := []) (by kernel_rfl) (Pend.nil) ?_
 refine VD.to (fun _ _ h => h) ?_
 refine Zq (Zq (Zr ?_))
 refine Zu (q_field gfa61_2 rfl) ?_
 refine Zu (q_fe gone52 rfl rfl) ?_
 refine Zu (q_ln (s := n_1.refs) Tryz.underlying52 rfl) ?_
 refine Zy ?_
 refine VC.keep (ρ' := [(0, ptr w_0_b 0), (3, ptr b3_1 0), (25, n_1.refs.val), (26, i64 (n_1.refs.l.length : Int)), (27, i64 0)]) [0, 3, 25, 26, 27] rfl ?_
 refine Zb ?_
 refine VC.iter (S := Int × Sv UInt8) (fun sg => (sg.1, sg.2.l)) (fun sg => [(0, ptr w_0_b 0), (3, ptr b3_1 0), (25, n_1.refs.val), (26, i64 (n_1.refs.l.length : Int)), (27, i64 sg.1)]) (fun sg => Mo.tt) (fun sg => Ow.star (Blk w_0_b [sg.2.val] 157) (Ow.star (Blk b3_1 [n_1.work.val, n_1.index.val, n_1.refs.val, str n_1.head_branch, i64 n_1.head_commit, str n_1.seq_kind, i64 n_1.seq_other, str n_1.seq_text, n_1.seq_doing.val, n_1.seq_todo.val, i64 n_1.seq_made, str n_1.seq_branch, str n_1.seq_head_branch, i64 n_1.seq_head_commit, n_1.seq_index.val, n_1.seq_work.val, n_1.stash.val] 61) (Ow.star (Sv.own sg.2 5) (Ow.emp)))) (0, q23_6_0.enc_b) [0, 3, 25, 26, 27] hS rfl ?_
 clear hS
 rintro ⟨x27_7, c0_8⟩ m1 y1 hS hK1
 refine Zq (Zr ?_)
 refine Zu (q_lss rfl rfl) ?_
 refine Zl ?_
 refine Zq ?_
 refine Zc hS (fun h28 hS => ?_) (fun h28 hS => ?_)
 ·
  refine Zk ?_
  refine Zq (Zb (Zq (Zr ?_)))
  obtain ⟨z29_9, nz29_9, hz29_9, hS⟩ := at_s hS
  refine Zu (q_ixm (s := n_1.refs) Tryz.underlying52 gsz216 rfl rfl nz29_9 (lt_of_get nz29_9 hz29_9)) ?_
  refine Zu (q_els (s := n_1.refs) gagg216 rfl rfl hz29_9) ?_
  refine VL.alloc (cs := [str [], i64 0]) (by kernel_rfl) (by decide) fun b5_10 => ?_
  refine Zv (vc := [str z29_9.name, i64 z29_9.commit]) (cs' := [str z29_9.name, i64 z29_9.commit]) rfl gsz216 ?_
  refine Zl ?_
  refine Zq ?_
  refine VC.draw [(0, true), (1, true), (2, true), (3, true), (4, true), (5, false), (6, false)] mixed (by kernel_rfl) (by kernel_rfl) (by kernel_rfl) ?_
  refine Zw rfl (q_move rfl) ?_
  refine Zw rfl (q_nilCheck rfl) ?_
  refine Zw rfl (q_field gfa157_0 rfl) ?_
  refine Zw rfl (q_field gfa216_0 rfl) ?_
  refine Zw rfl (q_fe gone9 rfl rfl) ?_
  refine VD.one rfl ?_
  refine VL.lit (α := Str) (xs := [.tmp 35]) (vs := [str z29_9.name]) [z29_9.name] Tryz.underlying89 glit9 (by decide) rfl rfl rfl rfl (by decide) (fun _ _ _ _ => trivial) (by decide) (fun s36_11 hs36_11 => ?_) (by decide)
  replace hS := lt_to hs36_11 hS
  refine VL.back (D' := [(2, ptr w_0_b 0), (1, ptr w_0_b 0)]) (by kernel_rfl) (Pend.cons rfl (q_field gfa157_0 rfl) (Pend.cons rfl (q_nilCheck rfl) (Pend.nil))) ?_
  refine VD.one rfl ?_
  obtain ⟨y37_13, ey37_13, hS⟩ := bd_s hS
  refine VL.callO (codec_Enc_Text_ct w_0_b (⟨c0_8⟩ : StateWriter) s36_11 ey37_13) rfl (by decide) ?_
  rintro q37_13_0 rfl
  try dsimp only
  refine VL.back (D' := []) (by kernel_rfl) (Pend.nil) ?_
  refine VD.to (fun _ _ h => h) ?_
  refine VC.keep (ρ' := [(0, ptr w_0_b 0), (3, ptr b3_1 0), (25, n_1.refs.val), (26, i64 (n_1.refs.l.length : Int)), (27, i64 x27_7), (5, ptr b5_10 0)]) [0, 3, 25, 26, 27, 5] rfl ?_
  refine VC.draw [(0, true), (1, true), (2, true), (3, true), (4, true), (5, false), (6, false)] mixed (by kernel_rfl) (by kernel_rfl) (by kernel_rfl) ?_
  refine Zw rfl (q_move rfl) ?_
  refine Zw rfl (q_nilCheck rfl) ?_
  refine Zw rfl (q_field gfa157_0 rfl) ?_
  refine Zw rfl (q_field gfa216_1 rfl) ?_
  refine Zw rfl (q_fe gone3 rfl rfl) ?_
  refine VD.one rfl ?_
  refine VL.lit (α := Int) (xs := [.tmp 42]) (vs := [i64 z29_9.commit]) [z29_9.commit] Tryz.underlying32 glit3 (by decide) rfl rfl rfl rfl (by decide) (fun _ _ _ _ => trivial) (by decide) (fun s43_14 hs43_14 => ?_) (by decide)
  replace hS := lt_to hs43_14 hS
  refine VL.back (D' := [(2, ptr w_0_b 0), (1, ptr w_0_b 0)]) (by kernel_rfl) (Pend.cons rfl (q_field gfa157_0 rfl) (Pend.cons rfl (q_nilCheck rfl) (Pend.nil))) ?_
  refine VD.one rfl ?_
  obtain ⟨y44_16, ey44_16, hS⟩ := bd_s hS
  refine VL.callO (codec_Enc_Int_ct w_0_b q37_13_0 s43_14 ey44_16) rfl (by decide) ?_
  rintro q44_16_0 rfl
  try dsimp only
  refine VL.back (D' := []) (by kernel_rfl) (Pend.nil) ?_
  refine VD.to (fun _ _ h => h) ?_
  refine VC.keep (ρ' := [(0, ptr w_0_b 0), (3, ptr b3_1 0), (25, n_1.refs.val), (26, i64 (n_1.refs.l.length : Int)), (27, i64 x27_7)]) [0, 3, 25, 26, 27] rfl ?_
  refine Zr ?_
  obtain ⟨b45, hS⟩ := gd_s hS
  refine Zu (q_add rfl rfl b45) ?_
  refine Zm ?_
  refine VL.rnd ((x27_7 + 1), q44_16_0.enc_b) [0, 3, 25, 26, 27] (fun _ _ h => h) (go2 hS hK1) rfl
 replace hS := up2 hS hK1
 refine Zx ?_
 refine Zq (Zr ?_)
 refine Zm ?_
 refine Zu (q_field gfa61_3 rfl) ?_
 refine Zu (q_fep (j := 3) (n := 2) gagg54 rfl rfl rfl) ?_
 obtain ⟨y49_17, ey49_17, hS⟩ := bd_s hS
 refine VL.callO (state_writer_head_ct w_0_b (⟨c0_8⟩ : StateWriter) (⟨n_1.head_branch, n_1.head_commit⟩ : NamesHead) ey49_17) rfl (by decide) ?_
 rintro q49_17_0 rfl
 try dsimp only
 refine Zl ?_
 refine Zq (Zr ?_)
 refine Zm ?_
 refine Zu (q_field gfa61_4 rfl) ?_
 refine Zu (q_fep (j := 5) (n := 11) gagg57 rfl rfl rfl) ?_
 obtain ⟨y53_18, ey53_18, hS⟩ := bd_s hS
 refine VL.callO (state_writer_seq_ct w_0_b q49_17_0 (⟨n_1.seq_kind, n_1.seq_other, n_1.seq_text, n_1.seq_doing, n_1.seq_todo, n_1.seq_made, n_1.seq_branch, n_1.seq_head_branch, n_1.seq_head_commit, n_1.seq_index, n_1.seq_work⟩ : StateSeq) ey53_18) rfl (by decide) ?_
 rintro q53_18_0 rfl
 try dsimp only
 refine Zl ?_
 refine VC.keep (ρ' := [(0, ptr w_0_b 0), (3, ptr b3_1 0)]) [0, 3] rfl ?_
 refine Zq ?_
 refine VC.draw [(0, true), (1, true), (2, true), (3, true), (4, true), (5, true), (6, false), (7, false)] mixed (by kernel_rfl) (by kernel_rfl) (by kernel_rfl) ?_
 refine Zw rfl (q_move rfl) ?_
 refine Zw rfl (q_nilCheck rfl) ?_
 refine Zw rfl (q_field gfa157_0 rfl) ?_
 refine Zw rfl (q_field gfa61_5 rfl) ?_
 refine Zw rfl (q_fe gone59 rfl rfl) ?_
 refine Zw rfl (q_lnm ShelfShelf.pl (s := n_1.stash) Tryz.underlying59 rfl) ?_
 refine VD.one rfl ?_
 refine VL.lit (α := Int) (xs := [.tmp 59]) (vs := [i64 ((n_1.stash.l.map ShelfShelf.pl).length : Int)]) [((n_1.stash.l.map ShelfShelf.pl).length : Int)] Tryz.underlying32 glit3 (by decide) rfl rfl rfl rfl (by decide) (fun _ _ _ _ => trivial) (by decide) (fun s60_19 hs60_19 => ?_) (by decide)
 replace hS := lt_to hs60_19 hS
 refine VL.back (D' := [(2, ptr w_0_b 0), (1, ptr w_0_b 0)]) (by kernel_rfl) (Pend.cons rfl (q_field gfa157_0 rfl) (Pend.cons rfl (q_nilCheck rfl) (Pend.nil))) ?_
 refine VD.one rfl ?_
 obtain ⟨y61_21, ey61_21, hS⟩ := bd_s hS
 refine VL.callO (codec_Enc_Int_ct w_0_b q53_18_0 s60_19 ey61_21) rfl (by decide) ?_
 rintro q61_21_0 rfl
 try dsimp only
 refine VL.back (D' := []) (by kernel_rfl) (Pend.nil) ?_
 refine VD.to (fun _ _ h => h) ?_
 refine Zq (Zr ?_)
 refine Zu (q_field gfa61_5 rfl) ?_
 refine Zu (q_fe gone59 rfl rfl) ?_
 refine Zu (q_lnm ShelfShelf.pl (s := n_1.stash) Tryz.underlying59 rfl) ?_
 refine Zy ?_
 refine VC.keep (ρ' := [(0, ptr w_0_b 0), (63, n_1.stash.val), (64, i64 ((n_1.stash.l.map ShelfShelf.pl).length : Int)), (65, i64 0)]) [0, 63, 64, 65] rfl ?_
 refine Zb ?_
 refine VC.iter (S := Int × Sv UInt8) (fun sg => (sg.1, sg.2.l)) (fun sg => [(0, ptr w_0_b 0), (63, n_1.stash.val), (64, i64 ((n_1.stash.l.map ShelfShelf.pl).length : Int)), (65, i64 sg.1)]) (fun sg => Mo.tt) (fun sg => Ow.star (Blk w_0_b [sg.2.val] 157) (Ow.star (Blk b3_1 [n_1.work.val, n_1.index.val, n_1.refs.val, str n_1.head_branch, i64 n_1.head_commit, str n_1.seq_kind, i64 n_1.seq_other, str n_1.seq_text, n_1.seq_doing.val, n_1.seq_todo.val, i64 n_1.seq_made, str n_1.seq_branch, str n_1.seq_head_branch, i64 n_1.seq_head_commit, n_1.seq_index.val, n_1.seq_work.val, n_1.stash.val] 61) (Ow.star (Sv.own sg.2 5) (Ow.emp)))) (0, q61_21_0.enc_b) [0, 63, 64, 65] hS rfl ?_
 clear hS
 rintro ⟨x65_22, c0_23⟩ m1 y1 hS hK1
 refine Zq (Zr ?_)
 refine Zu (q_lss rfl rfl) ?_
 refine Zl ?_
 refine Zq ?_
 refine Zc hS (fun h66 hS => ?_) (fun h66 hS => ?_)
 ·
  refine Zk ?_
  refine Zq (Zb (Zq (Zr ?_)))
  obtain ⟨z67_24, nz67_24, hz67_24, hS⟩ := atm_s hS
  refine VL.deep z67_24.m hz67_24 (fun _ q => q) ?_
  refine Zu (q_ixm (s := n_1.stash) Tryz.underlying59 gsz155 rfl rfl nz67_24 (lt_of_get nz67_24 hz67_24)) ?_
  refine Zu (q_els (s := n_1.stash) gagg155 rfl rfl hz67_24) ?_
  refine VL.alloc (cs := [i64 0, .slice none 0 0, .slice none 0 0, str []]) (by kernel_rfl) (by decide) fun b7_25 => ?_
  refine Zv (vc := [i64 z67_24.base, z67_24.index.val, z67_24.work.val, str z67_24.text]) (cs' := [i64 z67_24.base, z67_24.index.val, z67_24.work.val, str z67_24.text]) rfl gsz155 ?_
  refine Zl ?_
  refine Zq ?_
  refine VC.draw [(0, true), (1, true), (2, true), (3, true), (4, true), (5, false), (6, false)] mixed (by kernel_rfl) (by kernel_rfl) (by kernel_rfl) ?_
  refine Zw rfl (q_move rfl) ?_
  refine Zw rfl (q_nilCheck rfl) ?_
  refine Zw rfl (q_field gfa157_0 rfl) ?_
  refine Zw rfl (q_field gfa155_0 rfl) ?_
  refine Zw rfl (q_fe gone3 rfl rfl) ?_
  refine VD.one rfl ?_
  refine VL.lit (α := Int) (xs := [.tmp 73]) (vs := [i64 z67_24.base]) [z67_24.base] Tryz.underlying32 glit3 (by decide) rfl rfl rfl rfl (by decide) (fun _ _ _ _ => trivial) (by decide) (fun s74_26 hs74_26 => ?_) (by decide)
  replace hS := lt_to hs74_26 hS
  refine VL.back (D' := [(2, ptr w_0_b 0), (1, ptr w_0_b 0)]) (by kernel_rfl) (Pend.cons rfl (q_field gfa157_0 rfl) (Pend.cons rfl (q_nilCheck rfl) (Pend.nil))) ?_
  refine VD.one rfl ?_
  obtain ⟨y75_28, ey75_28, hS⟩ := bd_s hS
  refine VL.callO (codec_Enc_Int_ct w_0_b (⟨c0_23⟩ : StateWriter) s74_26 ey75_28) rfl (by decide) ?_
  rintro q75_28_0 rfl
  try dsimp only
  refine VL.back (D' := []) (by kernel_rfl) (Pend.nil) ?_
  refine VD.to (fun _ _ h => h) ?_
  refine VC.keep (ρ' := [(0, ptr w_0_b 0), (63, n_1.stash.val), (64, i64 ((n_1.stash.l.map ShelfShelf.pl).length : Int)), (65, i64 x65_22), (7, ptr b7_25 0)]) [0, 63, 64, 65, 7] rfl ?_
  refine Zq (Zr ?_)
  refine Zm ?_
  refine Zu (q_field gfa155_1 rfl) ?_
  refine Zu (q_fe gone50 rfl rfl) ?_
  obtain ⟨y79_29, ey79_29, hS⟩ := bd_s hS
  refine VL.callO (state_writer_row_ct w_0_b q75_28_0 z67_24.index ey79_29) rfl (by decide) ?_
  rintro q79_29_0 rfl
  try dsimp only
  refine Zl ?_
  refine Zq (Zr ?_)
  refine Zm ?_
  refine Zu (q_field gfa155_2 rfl) ?_
  refine Zu (q_fe gone50 rfl rfl) ?_
  obtain ⟨y83_30, ey83_30, hS⟩ := bd_s hS
  refine VL.callO (state_writer_row_ct w_0_b q79_29_0 z67_24.work ey83_30) rfl (by decide) ?_
  rintro q83_30_0 rfl
  try dsimp only
  refine Zl ?_
  refine VC.keep (ρ' := [(0, ptr w_0_b 0), (63, n_1.stash.val), (64, i64 ((n_1.stash.l.map ShelfShelf.pl).length : Int)), (65, i64 x65_22), (7, ptr b7_25 0)]) [0, 63, 64, 65, 7] rfl ?_
  refine VC.draw [(0, true), (1, true), (2, true), (3, true), (4, true), (5, false), (6, false)] mixed (by kernel_rfl) (by kernel_rfl) (by kernel_rfl) ?_
  refine Zw rfl (q_move rfl) ?_
  refine Zw rfl (q_nilCheck rfl) ?_
  refine Zw rfl (q_field gfa157_0 rfl) ?_
  refine Zw rfl (q_field gfa155_3 rfl) ?_
  refine Zw rfl (q_fe gone9 rfl rfl) ?_
  refine VD.one rfl ?_
  refine VL.lit (α := Str) (xs := [.tmp 88]) (vs := [str z67_24.text]) [z67_24.text] Tryz.underlying89 glit9 (by decide) rfl rfl rfl rfl (by decide) (fun _ _ _ _ => trivial) (by decide) (fun s89_31 hs89_31 => ?_) (by decide)
  replace hS := lt_to hs89_31 hS
  refine VL.back (D' := [(2, ptr w_0_b 0), (1, ptr w_0_b 0)]) (by kernel_rfl) (Pend.cons rfl (q_field gfa157_0 rfl) (Pend.cons rfl (q_nilCheck rfl) (Pend.nil))) ?_
  refine VD.one rfl ?_
  obtain ⟨y90_33, ey90_33, hS⟩ := bd_s hS
  refine VL.callO (codec_Enc_Text_ct w_0_b q83_30_0 s89_31 ey90_33) rfl (by decide) ?_
  rintro q90_33_0 rfl
  try dsimp only
  refine VL.back (D' := []) (by kernel_rfl) (Pend.nil) ?_
  refine VD.to (fun _ _ h => h) ?_
  refine VC.keep (ρ' := [(0, ptr w_0_b 0), (63, n_1.stash.val), (64, i64 ((n_1.stash.l.map ShelfShelf.pl).length : Int)), (65, i64 x65_22)]) [0, 63, 64, 65] rfl ?_
  refine Zr ?_
  obtain ⟨b91, hS⟩ := gd_s hS
  refine Zu (q_add rfl rfl b91) ?_
  refine Zm ?_
  refine VL.rnd ((x65_22 + 1), q90_33_0.enc_b) [0, 63, 64, 65] (fun _ _ h => h) (go2 hS hK1) rfl
 replace hS := up2 hS hK1
 cases hS
 exact VC.exit (fin0 (.inl rfl) rfl ⟨c0_23⟩ rfl rfl (by (try dsimp only); exact InM.out) (by (try dsimp only); exact EntO.out))
theorem slices_Clone_byte_byte_ct (s_0 : Sv UInt8) {r : List UInt8} (hS : Sh.slices_Clone_byte_byte s_0.l = some r) :
 Ct Tryz.prog 123 [s_0.val] s_0.ok (Ow.emp) (X := Sv UInt8) (fun x => x.val) (fun x => r = x.l) (fun x => Mo.tt) (fun x => Sv.own x 5) := by
 refine Zo Tryz.func123 Tryz.ntmps123 fun c => ?_
 unfold Sh.slices_Clone_byte_byte at hS
 refine Zq (Zr ?_)
 refine Zy ?_
 refine Zq (Zq (Zr ?_))
 refine Zm ?_
 refine Zu (q_slnil (s := s_0) Tryz.underlying22 rfl) ?_
 refine Zl ?_
 refine VC.slnil (s := s_0) rfl (fun h4 => ?_) ?_
 ·
  have hS : (some []) = some r := by
    simp [lt, gd, h4] at hS ⊢
    try exact hS
  refine Zq (Zr ?_)
  refine Zy ?_
  refine VC.nilO (⟨none, 0, []⟩ : Sv UInt8) 5 ⟨rfl, rfl⟩ ?_
  cases hS
  exact VC.ret (fin1 (.inr rfl) rfl rfl ⟨none, 0, []⟩ rfl rfl (by (try dsimp only); exact InM.out) (by (try dsimp only); exact EntO.out))
 refine Zk ?_
 refine Zq (Zr ?_)
 refine VL.lit0 (α := UInt8) Tryz.underlying22 ghas5 (by decide) (fun s5_1 hs5_1 hcs5_1 => ?_)
 refine VL.nilO s5_1 5 ⟨hcs5_1, hs5_1⟩ ?_
 replace hS := lt_to hs5_1 hS
 refine Zm ?_
 obtain ⟨b7, hS⟩ := gd_s hS
 refine VL.app (s := s5_1) (r := s_0) Tryz.underlying22 gapp5 (by decide) rfl Fo.out (ap1 b7) (ap2 b7 (by decide)) (by decide) (fun s7_3 hs7_3 => ?_)
 replace hS := lt_to hs7_3 hS
 refine Zy ?_
 cases hS
 exact VC.ret (fin1 (.inr rfl) rfl rfl s7_3 rfl rfl (by (try dsimp only); exact InM.out) (by (try dsimp only); exact EntO.out))
theorem slices_Clip_byte_byte_ct (s_0 : Sv UInt8) {r : List UInt8} (hS : Sh.slices_Clip_byte_byte s_0.l = some r) :
 Ct Tryz.prog 129 [s_0.val] s_0.ok (Ow.emp) (X := Sv UInt8) (fun x => x.val) (fun x => r = x.l) (fun x => x.ok) (fun x => Ow.emp) := by
 refine Zo Tryz.func129 Tryz.ntmps129 fun c => ?_
 unfold Sh.slices_Clip_byte_byte at hS
 refine Zq (Zr ?_)
 refine Zy ?_
 refine Zq (Zr ?_)
 refine Zy ?_
 refine Zu (q_ln (s := s_0) Tryz.underlying22 rfl) ?_
 refine Zm ?_
 refine Zu (q_ln (s := s_0) Tryz.underlying22 rfl) ?_
 obtain ⟨b8, hS⟩ := gd_s hS
 refine VL.stom Tryz.underlying22 gsz5 rfl rfl rfl b8.1 (b8.2) (by decide) fun s8_1 hs8_1 => ?_
 replace hS := lt_to hs8_1 hS
 refine Zy ?_
 cases hS
 exact VC.ret (fin1 (.inr rfl) rfl rfl s8_1 rfl rfl (by (try dsimp only); exact InM.out) (fun _ _ => trivial))
theorem codec_Enc_Bytes_ct (e_0_b : Nat) (e_0 : StateWriter) {r : List UInt8} (hS : Sh.codec_Enc_Bytes e_0.pl = some r) :
 Ct Tryz.prog 63 [ptr e_0_b 0] Mo.tt (Ow.star (Sv.own e_0.enc_b 5) (Blk e_0_b [e_0.enc_b.val] 157)) (X := Sv UInt8) (fun x => x.val) (fun x => r = x.l) (fun x => x.ok) (fun x => Ow.star (Blk e_0_b [e_0.enc_b.val] 157) (Sv.own e_0.enc_b 5)) := by
 refine Zo Tryz.func63 Tryz.ntmps63 fun c => ?_
 unfold Sh.codec_Enc_Bytes at hS
 refine Zq (Zr ?_)
 refine Zy ?_
 refine Zq (Zr ?_)
 refine Zm ?_
 refine Zu (q_nilCheck rfl) ?_
 refine Zu (q_field gfa147_0 rfl) ?_
 refine Zu (q_fe gone22 rfl rfl) ?_
 obtain ⟨y7_1, ey7_1, hS⟩ := bd_s hS
 refine VL.callOR (slices_Clone_byte_byte_ct e_0.enc_b ey7_1) rfl (by decide) ?_
 rintro q7_1_0 rfl
 try dsimp only
 refine VL.shut q7_1_0 5 (fun _ _ _ _ => trivial) ?_
 obtain ⟨y8_2, ey8_2, hS⟩ := bd_s hS
 refine VL.callF (slices_Clip_byte_byte_ct q7_1_0 ey8_2) rfl (by decide) ?_
 rintro q8_2_0 rfl
 try dsimp only
 refine Zy ?_
 cases hS
 exact VC.ret (fin1 (.inr rfl) rfl rfl q8_2_0 rfl rfl (by (try dsimp only); exact InM.out) (by (try dsimp only); exact EntO.out))
theorem state_Mark_ct (n_0 : StateNow) {r : Str} (hS : Sh.state_Mark n_0.pl = some r) :
 Ct Tryz.prog 22 [.agg #[n_0.work.val, n_0.index.val, n_0.refs.val, str n_0.head_branch, i64 n_0.head_commit, str n_0.seq_kind, i64 n_0.seq_other, str n_0.seq_text, n_0.seq_doing.val, n_0.seq_todo.val, i64 n_0.seq_made, str n_0.seq_branch, str n_0.seq_head_branch, i64 n_0.seq_head_commit, n_0.seq_index.val, n_0.seq_work.val, n_0.stash.val]] (n_0.work.ok.and (n_0.index.ok.and (n_0.refs.ok.and (n_0.seq_doing.ok.and (n_0.seq_todo.ok.and (n_0.seq_index.ok.and (n_0.seq_work.ok.and n_0.stash.ok))))))) (Ow.emp) (X := Unit) (fun _ => str r) (fun _ => True) (fun _ => Mo.tt) (fun _ => Ow.emp) := by
 refine Zo Tryz.func22 Tryz.ntmps22 fun c => ?_
 unfold Sh.state_Mark at hS
 refine Zq (Zr ?_)
 refine VL.box (cs := [n_0.work.val, n_0.index.val, n_0.refs.val, str n_0.head_branch, i64 n_0.head_commit, str n_0.seq_kind, i64 n_0.seq_other, str n_0.seq_text, n_0.seq_doing.val, n_0.seq_todo.val, i64 n_0.seq_made, str n_0.seq_branch, str n_0.seq_head_branch, i64 n_0.seq_head_commit, n_0.seq_index.val, n_0.seq_work.val, n_0.stash.val]) rfl rfl (by decide) fun b1_1 => ?_
 refine Zy ?_
 refine Zq (Zr ?_)
 refine VL.alloc (cs := [.slice none 0 0]) (by kernel_rfl) (by decide) fun b3_2 => ?_
 refine Zl ?_
 refine Zq (Zr ?_)
 refine Zu (q_fes gagg61 rfl rfl) ?_
 refine VL.nilO (⟨none, 0, []⟩ : Sv UInt8) 5 ⟨rfl, rfl⟩ ?_
 refine VL.reB b3_2 (cs' := [(⟨none, 0, []⟩ : Sv UInt8).val]) rfl ?_
 obtain ⟨y5_3, ey5_3, hS⟩ := bd_s hS
 refine VL.callO (state_writer_now_ct b3_2 (⟨(⟨none, 0, []⟩ : Sv UInt8)⟩ : StateWriter) n_0 ey5_3) rfl (by decide) ?_
 rintro q5_3_0 rfl
 try dsimp only
 refine Zl ?_
 refine Zq (Zr ?_)
 refine Zu (q_field gfa157_0 rfl) ?_
 obtain ⟨y7_4, ey7_4, hS⟩ := bd_s hS
 refine VL.callO (codec_Enc_Bytes_ct b3_2 q5_3_0 ey7_4) rfl (by decide) ?_
 rintro q7_4_0 rfl
 try dsimp only
 refine Zu (q_b2s (s := q7_4_0) Tryz.underlying22 Tryz.underlying5 Tryz.underlying9 rfl) ?_
 refine Zy ?_
 cases hS
 exact Ze
theorem codec_Of_ct (b_0 : Sv UInt8) {r : CodecDecP} (hS : Sh.codec_Of b_0.l = some r) :
 Ct Tryz.prog 49 [b_0.val] b_0.ok (Ow.emp) (X := Nat × CodecDec) (fun x => ptr x.1 0) (fun x => r = x.2.pl) (fun x => (x.2.b.ok.and x.2.err.ok)) (fun x => Blk x.1 [x.2.b.val, i64 x.2.at_, x.2.err.val] 233) := by
 refine Zo Tryz.func49 Tryz.ntmps49 fun c => ?_
 unfold Sh.codec_Of at hS
 refine Zq (Zr ?_)
 refine Zy ?_
 refine Zq (Zr ?_)
 refine Zm ?_
 obtain ⟨y4_1, ey4_1, hS⟩ := bd_s hS
 refine VL.callO (slices_Clone_byte_byte_ct b_0 ey4_1) rfl (by decide) ?_
 rintro q4_1_0 rfl
 try dsimp only
 refine Zu (q_build (vs := [(0, q4_1_0.val)]) (cs := #[q4_1_0.val, i64 0, .nilIface]) rfl (by kernel_rfl)) ?_
 refine VL.box (cs := [q4_1_0.val, i64 0, .nilIface]) rfl rfl (by decide) fun b6_2 => ?_
 refine Zy ?_
 refine VC.shut q4_1_0 5 (fun _ _ _ _ => trivial) ?_
 refine VC.reB b6_2 (cs' := [q4_1_0.val, i64 0, (Er.nil).val]) rfl ?_
 cases hS
 exact VC.ret (fin1 (.inr rfl) rfl rfl (b6_2, ⟨q4_1_0, 0, (Er.nil)⟩) rfl rfl (by (try dsimp only); exact InM.out) (by (try dsimp only); exact EntO.out))
theorem codec_Dec_uint_ct (d_0_b : Nat) (d_0 : CodecDec) {r : Int × Int × CodecDecP} (hS : Sh.codec_Dec_uint d_0.pl = some r) :
 Ct Tryz.prog 124 [ptr d_0_b 0] (d_0.b.ok.and d_0.err.ok) (Blk d_0_b [d_0.b.val, i64 d_0.at_, d_0.err.val] 233) (X := Int × Int × CodecDec) (fun x => .tuple #[.int .u64 x.1, i64 x.2.1]) (fun x => r = (x.1, x.2.1, x.2.2.pl)) (fun x => (x.2.2.b.ok.and x.2.2.err.ok)) (fun x => Blk d_0_b [x.2.2.b.val, i64 x.2.2.at_, x.2.2.err.val] 233) := by
 refine Zo Tryz.func124 Tryz.ntmps124 fun c => ?_
 unfold Sh.codec_Dec_uint at hS
 refine Zq (Zr ?_)
 refine Zy ?_
 refine Zq (Zr ?_)
 refine Zy ?_
 refine Zq (Zq (Zr ?_))
 refine Zy ?_
 refine Zb ?_
 refine VC.iter (S := Int × Int) (fun sg => (sg.1, sg.2)) (fun sg => [(0, ptr d_0_b 0), (4, .int .u64 sg.1), (7, i64 sg.2)]) (fun sg => Mo.tt) (fun sg => Ow.star (Blk d_0_b [d_0.b.val, i64 d_0.at_, d_0.err.val] 233) (Ow.emp)) (0, 0) [0, 4, 7] hS rfl ?_
 clear hS
 rintro ⟨v4_1, x7_2⟩ m1 y1 hS hK1
 refine Zq (Zr ?_)
 refine Zu (q_lss rfl rfl) ?_
 refine Zl ?_
 refine Zq ?_
 refine Zc hS (fun h8 hS => ?_) (fun h8 hS => ?_)
 ·
  refine Zk ?_
  refine Zq (Zb (Zq (Zr ?_)))
  refine Zy ?_
  refine Zq (Zq ?_)
  refine VC.draw ((List.range 12).map fun k => (k, true)) mixed (by kernel_rfl) (by kernel_rfl) (by kernel_rfl) ?_
  refine Zw rfl (q_move rfl) ?_
  refine Zw rfl (q_nilCheck rfl) ?_
  refine Zw rfl (q_field gfa233_1 rfl) ?_
  refine Zw rfl (q_fe gone3 rfl rfl) ?_
  refine Zw rfl (q_move rfl) ?_
  obtain ⟨b15, hS⟩ := gd_s hS
  refine Zw rfl (q_add rfl rfl b15) ?_
  refine Zw rfl (q_move rfl) ?_
  refine Zw rfl (q_nilCheck rfl) ?_
  refine Zw rfl (q_field gfa233_0 rfl) ?_
  refine Zw rfl (q_fe gone22 rfl rfl) ?_
  refine Zw rfl (q_ln (s := d_0.b) Tryz.underlying22 rfl) ?_
  refine Zw rfl (q_geq rfl rfl) ?_
  refine VD.to (fun _ _ h => h) ?_
  refine VC.keep (ρ' := [(0, ptr d_0_b 0), (4, .int .u64 v4_1), (7, i64 x7_2), (5, i64 x7_2), (21, .bool (decide ((d_0.b.l.length : Int) ≤ (d_0.at_ + x7_2))))]) [0, 4, 7, 5, 21] rfl ?_
  refine Zc hS (fun h21 hS => ?_) (fun h21 hS => ?_)
  ·
   refine Zq (Zr ?_)
   refine Zy ?_
   replace hS := up2 hS hK1
   cases hS
   exact VC.ret (fin2 (.inr rfl) rfl rfl rfl (0, 3, ⟨d_0.b, d_0.at_, d_0.err⟩) rfl rfl (by (try dsimp only); exact InM.out) (by (try dsimp only); exact EntO.out))
  refine Zk ?_
  refine Zq ?_
  refine VC.draw ((List.range 13).map fun k => (k, true)) mixed (by kernel_rfl) (by kernel_rfl) (by kernel_rfl) ?_
  refine Zw rfl (q_move rfl) ?_
  refine Zw rfl (q_nilCheck rfl) ?_
  refine Zw rfl (q_field gfa233_0 rfl) ?_
  refine Zw rfl (q_fe gone22 rfl rfl) ?_
  refine Zw rfl (q_move rfl) ?_
  refine Zw rfl (q_nilCheck rfl) ?_
  refine Zw rfl (q_field gfa233_1 rfl) ?_
  refine Zw rfl (q_fe gone3 rfl rfl) ?_
  refine Zw rfl (q_move rfl) ?_
  obtain ⟨b31, hS⟩ := gd_s hS
  refine Zw rfl (q_add rfl rfl b31) ?_
  obtain ⟨z32_3, nz32_3, hz32_3, hS⟩ := at_s hS
  refine Zw rfl (q_ixm (s := d_0.b) Tryz.underlying22 gsz5 rfl rfl nz32_3 (lt_of_get nz32_3 hz32_3)) ?_
  refine Zw rfl (q_el (s := d_0.b) gone5 rfl hz32_3 rfl) ?_
  refine Zw rfl (q_assign rfl) ?_
  refine VD.to (fun _ _ h => h) ?_
  refine VC.keep (ρ' := [(0, ptr d_0_b 0), (4, .int .u64 v4_1), (7, i64 x7_2), (5, i64 x7_2), (6, .int .u8 (z32_3.toNat : Int))]) [0, 4, 7, 5, 6] rfl ?_
  refine VC.cutJ (S := Unit) (fun (_ : Unit) => ()) (fun (_ : Unit) => [(0, ptr d_0_b 0), (4, .int .u64 v4_1), (5, i64 x7_2), (6, .int .u8 (z32_3.toNat : Int)), (7, i64 x7_2)]) (fun (_ : Unit) => Mo.tt) (fun (_ : Unit) => Ow.star (Blk d_0_b [d_0.b.val, i64 d_0.at_, d_0.err.val] 233) (Ow.emp)) hS ?_ ?_
  ·
   clear hS
   intro k4 hS
   refine Zq (Zr ?_)
   refine Zm ?_
   refine Zu (q_eql rfl rfl) ?_
   refine Zm ?_
   refine Zsp 36 hS (fun h36 hS => ?_) (fun h36 hS => ?_)
   ·
    refine Zg ?_
    refine Zh (q_gtr rfl rfl) ?_
    refine Zy ?_
    refine Zsp 40 hS (fun h40 hS => ?_) (fun h40 hS => ?_)
    ·
     refine VL.runs 7 [(47, some true)] (by kernel_rfl) ?_
     refine Zl ?_
     refine VC.keep (ρ' := [(0, ptr d_0_b 0), (4, .int .u64 v4_1), (7, i64 x7_2), (5, i64 x7_2), (6, .int .u8 (z32_3.toNat : Int)), (47, .bool true)]) [0, 4, 7, 5, 6, 47] rfl ?_
     refine VC.cond_t rfl ?_
     replace hS := up2 hS hK1
     refine Zx ?_
     refine Zq (Zr ?_)
     refine Zy ?_
     cases hS
     exact VC.ret (fin2 (.inr rfl) rfl rfl rfl (0, 2, ⟨d_0.b, d_0.at_, d_0.err⟩) rfl rfl (by (try dsimp only); exact InM.out) (by (try dsimp only); exact EntO.out))
    refine Zg ?_
    refine Zh (q_gtr rfl rfl) ?_
    refine Zg ?_
    refine Zsp 43 hS (fun h43 hS => ?_) (fun h43 hS => ?_)
    ·
     refine Zg ?_
     refine Zh (q_eql rfl rfl) ?_
     refine Zh (q_pick_t rfl rfl) ?_
     refine Zy ?_
     refine VC.keep (ρ' := [(0, ptr d_0_b 0), (4, .int .u64 v4_1), (7, i64 x7_2), (5, i64 x7_2), (6, .int .u8 (z32_3.toNat : Int)), (47, .bool (decide ((z32_3.toNat : Int) = 0)))]) [0, 4, 7, 5, 6, 47] rfl ?_
     refine Zc hS (fun h47 hS => ?_) (fun h47 hS => ?_)
     ·
      replace hS := up2 hS hK1
      refine Zx ?_
      refine Zq (Zr ?_)
      refine Zy ?_
      cases hS
      exact VC.ret (fin2 (.inr rfl) rfl rfl rfl (0, 2, ⟨d_0.b, d_0.at_, d_0.err⟩) rfl rfl (by (try dsimp only); exact InM.out) (by (try dsimp only); exact EntO.out))
     refine VC.skip_mt () [0, 4, 5, 6, 7] (fun _ _ h => h) hS rfl
    refine Zy ?_
    refine Zh (q_pick_f rfl rfl) ?_
    refine Zy ?_
    refine VC.keep (ρ' := [(0, ptr d_0_b 0), (4, .int .u64 v4_1), (7, i64 x7_2), (5, i64 x7_2), (6, .int .u8 (z32_3.toNat : Int)), (47, .bool false)]) [0, 4, 7, 5, 6, 47] rfl ?_
    refine VC.cond_f rfl ?_
    refine VC.skip_mt () [0, 4, 5, 6, 7] (fun _ _ h => h) hS rfl
   refine VL.runs 4 [(40, some false)] (by kernel_rfl) ?_
   refine Zg ?_
   refine Zh (q_gtr rfl rfl) ?_
   refine Zg ?_
   refine Zsp 43 hS (fun h43 hS => ?_) (fun h43 hS => ?_)
   ·
    refine Zg ?_
    refine Zh (q_eql rfl rfl) ?_
    refine Zh (q_pick_t rfl rfl) ?_
    refine Zy ?_
    refine VC.keep (ρ' := [(0, ptr d_0_b 0), (4, .int .u64 v4_1), (7, i64 x7_2), (5, i64 x7_2), (6, .int .u8 (z32_3.toNat : Int)), (47, .bool (decide ((z32_3.toNat : Int) = 0)))]) [0, 4, 7, 5, 6, 47] rfl ?_
    refine Zc hS (fun h47 hS => ?_) (fun h47 hS => ?_)
    ·
     replace hS := up2 hS hK1
     refine Zx ?_
     refine Zq (Zr ?_)
     refine Zy ?_
     cases hS
     exact VC.ret (fin2 (.inr rfl) rfl rfl rfl (0, 2, ⟨d_0.b, d_0.at_, d_0.err⟩) rfl rfl (by (try dsimp only); exact InM.out) (by (try dsimp only); exact EntO.out))
    refine VC.skip_mt () [0, 4, 5, 6, 7] (fun _ _ h => h) hS rfl
   refine Zy ?_
   refine Zh (q_pick_f rfl rfl) ?_
   refine Zy ?_
   refine VC.keep (ρ' := [(0, ptr d_0_b 0), (4, .int .u64 v4_1), (7, i64 x7_2), (5, i64 x7_2), (6, .int .u8 (z32_3.toNat : Int)), (47, .bool false)]) [0, 4, 7, 5, 6, 47] rfl ?_
   refine VC.cond_f rfl ?_
   refine VC.skip_mt () [0, 4, 5, 6, 7] (fun _ _ h => h) hS rfl
  clear hS
  rintro _ hS
  refine Zq (Zr ?_)
  refine Zy ?_
  refine Zu (q_and rfl rfl) ?_
  refine Zu (q_convW Tryz.underlying5 Tryz.underlying234 rfl) ?_
  refine Zm ?_
  obtain ⟨b53, hS⟩ := gd_s hS
  refine Zu (q_mul rfl rfl b53) ?_
  obtain ⟨b54, hS⟩ := gd_s hS
  refine Zu (q_shl rfl rfl b54) ?_
  refine Zu (q_or rfl rfl) ?_
  refine Zy ?_
  refine VC.keep (ρ' := [(0, ptr d_0_b 0), (4, .int .u64 (bOr .u64 v4_1 (sHl .u64 (IntKind.wrap .u64 (bAnd .u8 (z32_3.toNat : Int) 127)) (7 * x7_2)))), (5, i64 x7_2), (6, .int .u8 (z32_3.toNat : Int)), (7, i64 x7_2)]) [0, 4, 5, 6, 7] rfl ?_
  refine Zq (Zr ?_)
  refine Zm ?_
  refine Zu (q_lss rfl rfl) ?_
  refine Zl ?_
  refine Zc hS (fun h57 hS => ?_) (fun h57 hS => ?_)
  ·
   refine Zq (Zr ?_)
   refine Zm ?_
   refine Zu (q_nilCheck rfl) ?_
   refine Zu (q_field gfa233_1 rfl) ?_
   refine Zu (q_fe gone3 rfl rfl) ?_
   refine Zm ?_
   obtain ⟨b63, hS⟩ := gd_s hS
   refine Zu (q_add rfl rfl b63) ?_
   obtain ⟨b64, hS⟩ := gd_s hS
   refine Zu (q_add rfl rfl b64) ?_
   refine Zu (q_nilCheck rfl) ?_
   refine Zu (q_field gfa233_1 rfl) ?_
   refine Zv (vc := [i64 (d_0.at_ + (x7_2 + 1))]) (cs' := [d_0.b.val, i64 (d_0.at_ + (x7_2 + 1)), d_0.err.val]) rfl gsz3 ?_
   refine Zl ?_
   refine VC.keep (ρ' := [(4, .int .u64 (bOr .u64 v4_1 (sHl .u64 (IntKind.wrap .u64 (bAnd .u8 (z32_3.toNat : Int) 127)) (7 * x7_2))))]) [4] rfl ?_
   refine Zq (Zr ?_)
   refine Zy ?_
   replace hS := up2 hS hK1
   cases hS
   exact VC.ret (fin2 (.inr rfl) rfl rfl rfl ((bOr .u64 v4_1 (sHl .u64 (IntKind.wrap .u64 (bAnd .u8 (z32_3.toNat : Int) 127)) (7 * x7_2))), 0, ⟨d_0.b, (d_0.at_ + (x7_2 + 1)), d_0.err⟩) rfl rfl (by (try dsimp only); exact InM.out) (by (try dsimp only); exact EntO.out))
  refine Zk ?_
  refine Zr ?_
  obtain ⟨b68, hS⟩ := gd_s hS
  refine Zu (q_add rfl rfl b68) ?_
  refine Zm ?_
  refine VL.rnd ((bOr .u64 v4_1 (sHl .u64 (IntKind.wrap .u64 (bAnd .u8 (z32_3.toNat : Int) 127)) (7 * x7_2))), (x7_2 + 1)) [0, 4, 7] (fun _ _ h => h) (go2 hS hK1) rfl
 replace hS := up2 hS hK1
 refine Zx ?_
 refine Zq (Zr ?_)
 refine Zy ?_
 cases hS
 exact VC.ret (fin2 (.inr rfl) rfl rfl rfl (0, 2, ⟨d_0.b, d_0.at_, d_0.err⟩) rfl rfl (by (try dsimp only); exact InM.out) (by (try dsimp only); exact EntO.out))
theorem codec_Dec_fail_ct (d_0_b : Nat) (d_0 : CodecDec) (at_1 : Int) (e_2 : Int) {r : CodecDecP} (hS : Sh.codec_Dec_fail d_0.pl at_1 e_2 = some r) :
 Ct Tryz.prog 125 [ptr d_0_b 0, i64 at_1, i64 e_2] (d_0.b.ok.and d_0.err.ok) (Blk d_0_b [d_0.b.val, i64 d_0.at_, d_0.err.val] 233) (X := CodecDec) (fun x => .tuple #[]) (fun x => r = x.pl) (fun x => (x.b.ok.and x.err.ok)) (fun x => Blk d_0_b [x.b.val, i64 x.at_, x.err.val] 233) := by
 refine Zo Tryz.func125 Tryz.ntmps125 fun c => ?_
 unfold Sh.codec_Dec_fail at hS
 refine Zr ?_
 refine Zy ?_
 refine Zu (q_mkif Tryz.underlying131 (fun _ h => by cases h) rfl) ?_
 refine Zu (q_build (vs := [(0, str [98, 121, 116, 101]), (1, i64 at_1), (2, (Er.no e_2).val)]) (cs := #[str [98, 121, 116, 101], i64 at_1, (Er.no e_2).val]) rfl (by kernel_rfl)) ?_
 refine VL.box (cs := [str [98, 121, 116, 101], i64 at_1, (Er.no e_2).val]) rfl rfl (by decide) fun b11_1 => ?_
 refine VL.shutB b11_1 ?_
 refine Zu (q_mkif Tryz.underlying190 (fun _ h => by cases h) rfl) ?_
 refine Zu (q_nilCheck rfl) ?_
 refine Zu (q_field gfa233_2 rfl) ?_
 refine Zv (vc := [(Er.fault b11_1 [98, 121, 116, 101] at_1 (Er.no e_2)).val]) (cs' := [d_0.b.val, i64 d_0.at_, (Er.fault b11_1 [98, 121, 116, 101] at_1 (Er.no e_2)).val]) rfl gsz26 ?_
 cases hS
 exact VL.nil (fin0 (.inl rfl) rfl ⟨d_0.b, d_0.at_, (Er.fault b11_1 [98, 121, 116, 101] at_1 (Er.no e_2))⟩ rfl rfl (by (try dsimp only); exact InM.out) (by (try dsimp only); exact EntO.out))
theorem codec_Dec_Int_ct (d_0_b : Nat) (d_0 : CodecDec) {r : Int × CodecDecP} (hS : Sh.codec_Dec_Int d_0.pl = some r) :
 Ct Tryz.prog 50 [ptr d_0_b 0] (d_0.b.ok.and d_0.err.ok) (Blk d_0_b [d_0.b.val, i64 d_0.at_, d_0.err.val] 233) (X := Int × CodecDec) (fun x => i64 x.1) (fun x => r = (x.1, x.2.pl)) (fun x => (x.2.b.ok.and x.2.err.ok)) (fun x => Blk d_0_b [x.2.b.val, i64 x.2.at_, x.2.err.val] 233) := by
 refine Zo Tryz.func50 Tryz.ntmps50 fun c => ?_
 unfold Sh.codec_Dec_Int at hS
 refine Zq (Zr ?_)
 refine Zy ?_
 refine Zq (Zq (Zr ?_))
 refine Zm ?_
 refine Zu (q_nilCheck rfl) ?_
 refine Zu (q_field gfa233_2 rfl) ?_
 refine Zu (q_fe gone26 rfl rfl) ?_
 refine Zu (q_erne Tryz.underlying26 rfl) ?_
 refine Zl ?_
 refine Zcn hS (fun h10 hS => ?_) (fun h10 hS => ?_)
 ·
  refine Zq (Zr ?_)
  refine Zy ?_
  cases hS
  exact VC.ret (fin1 (.inr rfl) rfl rfl (0, ⟨d_0.b, d_0.at_, d_0.err⟩) rfl rfl (by (try dsimp only); exact InM.out) (by (try dsimp only); exact EntO.out))
 refine Zk ?_
 refine Zq (Zr ?_)
 refine Zm ?_
 refine Zu (q_nilCheck rfl) ?_
 refine Zu (q_field gfa233_1 rfl) ?_
 refine Zu (q_fe gone3 rfl rfl) ?_
 refine Zy ?_
 refine VC.keep (ρ' := [(0, ptr d_0_b 0), (3, i64 d_0.at_)]) [0, 3] rfl ?_
 refine Zq (Zr ?_)
 refine Zm ?_
 obtain ⟨y17_1, ey17_1, hS⟩ := bd_s hS
 refine VL.callO (codec_Dec_uint_ct d_0_b d_0 ey17_1) rfl (by decide) ?_
 rintro ⟨q17_1_0, q17_1_1, q17_1_2⟩ rfl
 try dsimp only
 refine Zm ?_
 refine Zu (q_extract rfl rfl) ?_
 refine Zu (q_extract rfl rfl) ?_
 refine Zy ?_
 refine Zq (Zq (Zr ?_))
 refine Zm ?_
 refine Zu (q_neq rfl rfl) ?_
 refine Zl ?_
 refine Zcn hS (fun h21 hS => ?_) (fun h21 hS => ?_)
 ·
  refine Zq (Zr ?_)
  refine Zy ?_
  obtain ⟨y25_2, ey25_2, hS⟩ := bd_s hS
  refine VL.callO (codec_Dec_fail_ct d_0_b q17_1_2 d_0.at_ q17_1_1 ey25_2) rfl (by decide) ?_
  rintro q25_2_0 rfl
  try dsimp only
  refine Zl ?_
  refine VC.keep (ρ' := []) [] rfl ?_
  refine Zq (Zr ?_)
  refine Zy ?_
  cases hS
  exact VC.ret (fin1 (.inr rfl) rfl rfl (0, ⟨q25_2_0.b, q25_2_0.at_, q25_2_0.err⟩) rfl rfl (by (try dsimp only); exact InM.out) (by (try dsimp only); exact EntO.out))
 refine Zk ?_
 refine VC.keep (ρ' := [(4, .int .u64 q17_1_0)]) [4] rfl ?_
 refine Zq (Zr ?_)
 refine Zm ?_
 refine Zu (q_shr rfl rfl (by decide)) ?_
 refine Zu (q_convW Tryz.underlying234 Tryz.underlying2 rfl) ?_
 refine Zm ?_
 refine Zu (q_and rfl rfl) ?_
 refine Zu (q_convW Tryz.underlying234 Tryz.underlying2 rfl) ?_
 refine Zu (q_neg rfl) ?_
 refine Zu (q_xor rfl rfl) ?_
 refine Zy ?_
 cases hS
 exact VC.ret (fin1 (.inr rfl) rfl rfl ((bXor .i64 (IntKind.wrap .i64 (sHr .u64 q17_1_0 1)) (IntKind.wrap .i64 (0 - (IntKind.wrap .i64 (bAnd .u64 q17_1_0 1))))), ⟨q17_1_2.b, q17_1_2.at_, q17_1_2.err⟩) rfl rfl (by (try dsimp only); exact InM.out) (by (try dsimp only); exact EntO.out))
theorem codec_Dec_Err_ct (d_0_b : Nat) (d_0 : CodecDec) {r : Err} (hS : Sh.codec_Dec_Err d_0.pl = some r) :
 Ct Tryz.prog 53 [ptr d_0_b 0] (d_0.b.ok.and d_0.err.ok) (Blk d_0_b [d_0.b.val, i64 d_0.at_, d_0.err.val] 233) (X := Er) (fun x => x.val) (fun x => r = x.pl) (fun x => x.ok) (fun x => Blk d_0_b [d_0.b.val, i64 d_0.at_, d_0.err.val] 233) := by
 refine Zo Tryz.func53 Tryz.ntmps53 fun c => ?_
 unfold Sh.codec_Dec_Err at hS
 refine Zq (Zr ?_)
 refine Zy ?_
 refine Zq (Zr ?_)
 refine Zm ?_
 refine Zu (q_nilCheck rfl) ?_
 refine Zu (q_field gfa233_2 rfl) ?_
 refine Zu (q_fe gone26 rfl rfl) ?_
 refine Zy ?_
 cases hS
 exact VC.ret (fin1 (.inr rfl) rfl rfl d_0.err rfl rfl (by (try dsimp only); exact InM.out) (by (try dsimp only); exact EntO.out))
theorem codec_Dec_Text_ct (d_0_b : Nat) (d_0 : CodecDec) {r : Str × CodecDecP} (hS : Sh.codec_Dec_Text d_0.pl = some r) :
 Ct Tryz.prog 52 [ptr d_0_b 0] (d_0.b.ok.and d_0.err.ok) (Blk d_0_b [d_0.b.val, i64 d_0.at_, d_0.err.val] 233) (X := Str × CodecDec) (fun x => str x.1) (fun x => r = (x.1, x.2.pl)) (fun x => (x.2.b.ok.and x.2.err.ok)) (fun x => Blk d_0_b [x.2.b.val, i64 x.2.at_, x.2.err.val] 233) := by
 refine Zo Tryz.func52 Tryz.ntmps52 fun c => ?_
 unfold Sh.codec_Dec_Text at hS
 refine Zq (Zr ?_)
 refine Zy ?_
 refine Zq (Zr ?_)
 refine Zm ?_
 refine Zu (q_nilCheck rfl) ?_
 refine Zu (q_field gfa233_1 rfl) ?_
 refine Zu (q_fe gone3 rfl rfl) ?_
 refine Zy ?_
 refine Zq (Zr ?_)
 refine Zm ?_
 obtain ⟨y11_1, ey11_1, hS⟩ := bd_s hS
 refine VL.callO (codec_Dec_Int_ct d_0_b d_0 ey11_1) rfl (by decide) ?_
 rintro ⟨q11_1_0, q11_1_1⟩ rfl
 try dsimp only
 refine Zy ?_
 refine Zq (Zb (Zq (Zr ?_)))
 refine Zm ?_
 refine Zu (q_nilCheck rfl) ?_
 refine Zu (q_field gfa233_2 rfl) ?_
 refine Zu (q_fe gone26 rfl rfl) ?_
 refine Zu (q_erne Tryz.underlying26 rfl) ?_
 refine Zy ?_
 refine VC.keep (ρ' := [(0, ptr d_0_b 0), (3, i64 d_0.at_), (4, i64 q11_1_0), (12, .bool (!decide (q11_1_1.err.pl.isNil = true)))]) [0, 3, 4, 12] rfl ?_
 refine Zcn hS (fun h12 hS => ?_) (fun h12 hS => ?_)
 ·
  refine Zq (Zr ?_)
  refine Zy ?_
  cases hS
  exact VC.ret (fin1 (.inr rfl) rfl rfl ([], ⟨q11_1_1.b, q11_1_1.at_, q11_1_1.err⟩) rfl rfl (by (try dsimp only); exact InM.out) (by (try dsimp only); exact EntO.out))
 refine Zq (Zr ?_)
 refine Zm ?_
 refine Zu (q_lss rfl rfl) ?_
 refine Zy ?_
 refine Zc hS (fun h18 hS => ?_) (fun h18 hS => ?_)
 ·
  refine Zq (Zr ?_)
  refine Zy ?_
  obtain ⟨y23_2, ey23_2, hS⟩ := bd_s hS
  refine VL.callO (codec_Dec_fail_ct d_0_b q11_1_1 d_0.at_ 2 ey23_2) rfl (by decide) ?_
  rintro q23_2_0 rfl
  try dsimp only
  refine Zl ?_
  refine Zq (Zr ?_)
  refine Zy ?_
  refine VC.keep (ρ' := [(2, str [])]) [2] rfl ?_
  cases hS
  exact VC.ret (fin1 (.inr rfl) rfl rfl ([], ⟨q23_2_0.b, q23_2_0.at_, q23_2_0.err⟩) rfl rfl (by (try dsimp only); exact InM.out) (by (try dsimp only); exact EntO.out))
 refine Zq ?_
 refine VC.draw ((List.range 13).map fun k => (k, true)) mixed (by kernel_rfl) (by kernel_rfl) (by kernel_rfl) ?_
 refine Zw rfl (q_move rfl) ?_
 refine Zw rfl (q_move rfl) ?_
 refine Zw rfl (q_nilCheck rfl) ?_
 refine Zw rfl (q_field gfa233_0 rfl) ?_
 refine Zw rfl (q_fe gone22 rfl rfl) ?_
 refine Zw rfl (q_ln (s := q11_1_1.b) Tryz.underlying22 rfl) ?_
 refine Zw rfl (q_move rfl) ?_
 refine Zw rfl (q_nilCheck rfl) ?_
 refine Zw rfl (q_field gfa233_1 rfl) ?_
 refine Zw rfl (q_fe gone3 rfl rfl) ?_
 obtain ⟨b35, hS⟩ := gd_s hS
 refine Zw rfl (q_sub rfl rfl b35) ?_
 refine Zw rfl (q_gtr rfl rfl) ?_
 refine Zw rfl (q_assign rfl) ?_
 refine VD.to (fun _ _ h => h) ?_
 refine VC.keep (ρ' := [(0, ptr d_0_b 0), (3, i64 d_0.at_), (4, i64 q11_1_0), (24, .bool (decide (((q11_1_1.b.l.length : Int) - q11_1_1.at_) < q11_1_0)))]) [0, 3, 4, 24] rfl ?_
 refine Zc hS (fun h24 hS => ?_) (fun h24 hS => ?_)
 ·
  refine Zq (Zr ?_)
  refine Zy ?_
  obtain ⟨y39_3, ey39_3, hS⟩ := bd_s hS
  refine VL.callO (codec_Dec_fail_ct d_0_b q11_1_1 d_0.at_ 3 ey39_3) rfl (by decide) ?_
  rintro q39_3_0 rfl
  try dsimp only
  refine Zl ?_
  refine Zq (Zr ?_)
  refine Zy ?_
  cases hS
  exact VC.ret (fin1 (.inr rfl) rfl rfl ([], ⟨q39_3_0.b, q39_3_0.at_, q39_3_0.err⟩) rfl rfl (by (try dsimp only); exact InM.out) (by (try dsimp only); exact EntO.out))
 refine Zk ?_
 refine Zq ?_
 refine VC.draw ((List.range 17).map fun k => (k, true)) mixed (by kernel_rfl) (by kernel_rfl) (by kernel_rfl) ?_
 refine Zw rfl (q_move rfl) ?_
 refine Zw rfl (q_nilCheck rfl) ?_
 refine Zw rfl (q_field gfa233_0 rfl) ?_
 refine Zw rfl (q_fe gone22 rfl rfl) ?_
 refine Zw rfl (q_move rfl) ?_
 refine Zw rfl (q_nilCheck rfl) ?_
 refine Zw rfl (q_field gfa233_1 rfl) ?_
 refine Zw rfl (q_fe gone3 rfl rfl) ?_
 refine Zw rfl (q_move rfl) ?_
 refine Zw rfl (q_nilCheck rfl) ?_
 refine Zw rfl (q_field gfa233_1 rfl) ?_
 refine Zw rfl (q_fe gone3 rfl rfl) ?_
 refine Zw rfl (q_move rfl) ?_
 obtain ⟨b53, hS⟩ := gd_s hS
 refine Zw rfl (q_add rfl rfl b53) ?_
 obtain ⟨b54, hS⟩ := gd_s hS
 refine VD.smidK rfl Tryz.underlying22 gsz5 rfl rfl rfl b54.1 b54.2.1 (b54.2.2) (by decide) fun s54_4 hs54_4 Qs54_4 => ?_
 replace hS := lt_to hs54_4 hS
 refine Zw rfl (q_b2s (s := s54_4) Tryz.underlying22 Tryz.underlying5 Tryz.underlying9 rfl) ?_
 refine Zw rfl (q_assign rfl) ?_
 refine VD.to (fun _ _ h => h) ?_
 refine VC.keep (ρ' := [(0, ptr d_0_b 0), (4, i64 q11_1_0), (5, str s54_4.l)]) [0, 4, 5] rfl ?_
 refine Zq (Zr ?_)
 refine Zm ?_
 refine Zu (q_nilCheck rfl) ?_
 refine Zu (q_field gfa233_1 rfl) ?_
 refine Zu (q_fe gone3 rfl rfl) ?_
 refine Zm ?_
 obtain ⟨b61, hS⟩ := gd_s hS
 refine Zu (q_add rfl rfl b61) ?_
 refine Zu (q_nilCheck rfl) ?_
 refine Zu (q_field gfa233_1 rfl) ?_
 refine Zv (vc := [i64 (q11_1_1.at_ + q11_1_0)]) (cs' := [q11_1_1.b.val, i64 (q11_1_1.at_ + q11_1_0), q11_1_1.err.val]) rfl gsz3 ?_
 refine Zl ?_
 refine VC.keep (ρ' := [(5, str s54_4.l)]) [5] rfl ?_
 refine Zq (Zr ?_)
 refine Zy ?_
 cases hS
 exact VC.ret (fin1 (.inr rfl) rfl rfl (s54_4.l, ⟨q11_1_1.b, (q11_1_1.at_ + q11_1_0), q11_1_1.err⟩) rfl rfl (by (try dsimp only); exact InM.out) (by (try dsimp only); exact EntO.out))
theorem state_reader_row_1_ct (a_0_b : Nat) (a_0 : Sv FilesFile) (a_1_b : Nat) (a_1__b : Nat) (a_1_ : StateReader) (a_1__dec_b : Nat) (a_1__dec : CodecDec) {r : List FilesFile × CodecDecP} (hS : Sh.state_reader_row_1 a_0.l a_1_ a_1__dec.pl = some r) :
 Ct Tryz.prog 201 [ptr a_0_b 0, ptr a_1_b 0] (a_1__dec.b.ok.and a_1__dec.err.ok) (Ow.star (Sv.own a_0 185) (Ow.star (Blk a_0_b [a_0.val] 50) (Ow.star (Blk a_1__dec_b [a_1__dec.b.val, i64 a_1__dec.at_, a_1__dec.err.val] 233) (Ow.star (Blk a_1__b [ptr a_1__dec_b 0, .bool a_1_.bad] 161) (Blk a_1_b [ptr a_1__b 0] 159))))) (X := Sv FilesFile × CodecDec) (fun x => .tuple #[]) (fun x => r = (x.1.l, x.2.pl)) (fun x => (x.2.b.ok.and x.2.err.ok)) (fun x => Ow.star (Blk a_0_b [x.1.val] 50) (Ow.star (Sv.own x.1 185) (Ow.star (Blk a_1__dec_b [x.2.b.val, i64 x.2.at_, x.2.err.val] 233) (Ow.star (Blk a_1__b [ptr a_1__dec_b 0, .bool a_1_.bad] 161) (Blk a_1_b [ptr a_1__b 0] 159))))) := by
 refine Zo Tryz.func201 Tryz.ntmps201 fun c => ?_
 unfold Sh.state_reader_row_1 at hS
 refine VC.draw [(0, true), (1, true), (2, true), (3, true), (4, true), (6, true), (7, true), (8, true), (9, true), (11, true), (12, true), (13, true), (14, true), (5, false), (10, false), (15, false), (16, true), (17, false), (18, false), (19, false)] mixed (by kernel_rfl) (by kernel_rfl) (by kernel_rfl) ?_
 refine Zw rfl (q_fe gone50 rfl rfl) ?_
 refine Zw rfl (q_fe gone159 rfl rfl) ?_
 refine Zw rfl (q_nilCheck rfl) ?_
 refine Zw rfl (q_field gfa161_0 rfl) ?_
 refine Zw rfl (q_fe gone129 rfl rfl) ?_
 refine Zw rfl (q_fe gone159 rfl rfl) ?_
 refine Zw rfl (q_nilCheck rfl) ?_
 refine Zw rfl (q_field gfa161_0 rfl) ?_
 refine Zw rfl (q_fe gone129 rfl rfl) ?_
 refine Zw rfl (q_fe gone159 rfl rfl) ?_
 refine Zw rfl (q_nilCheck rfl) ?_
 refine Zw rfl (q_field gfa161_0 rfl) ?_
 refine Zw rfl (q_fe gone129 rfl rfl) ?_
 refine VD.one rfl ?_
 obtain ⟨y7_1, ey7_1, hS⟩ := bd_s hS
 refine VL.callO (codec_Dec_Text_ct a_1__dec_b a_1__dec ey7_1) rfl (by decide) ?_
 rintro ⟨q7_1_0, q7_1_1⟩ rfl
 try dsimp only
 refine VL.back (D' := [(14, ptr a_1__dec_b 0), (13, ptr a_1__b 0), (12, ptr a_1__b 0), (11, ptr a_1__b 0), (9, ptr a_1__dec_b 0), (8, ptr a_1__b 0), (7, ptr a_1__b 0), (6, ptr a_1__b 0), (0, a_0.val)]) (by kernel_rfl) (Pend.cons rfl (q_fe gone129 rfl rfl) (Pend.cons rfl (q_field gfa161_0 rfl) (Pend.cons rfl (q_nilCheck rfl) (Pend.cons rfl (q_fe gone159 rfl rfl) (Pend.cons rfl (q_fe gone129 rfl rfl) (Pend.cons rfl (q_field gfa161_0 rfl) (Pend.cons rfl (q_nilCheck rfl) (Pend.cons rfl (q_fe gone159 rfl rfl) (Pend.cons rfl (q_fe gone50 rfl rfl) (Pend.nil)))))))))) ?_
 refine VD.one rfl ?_
 obtain ⟨y12_2, ey12_2, hS⟩ := bd_s hS
 refine VL.callO (codec_Dec_Int_ct a_1__dec_b q7_1_1 ey12_2) rfl (by decide) ?_
 rintro ⟨q12_2_0, q12_2_1⟩ rfl
 try dsimp only
 refine VL.back (D' := [(14, ptr a_1__dec_b 0), (13, ptr a_1__b 0), (12, ptr a_1__b 0), (11, ptr a_1__b 0), (0, a_0.val)]) (by kernel_rfl) (Pend.cons rfl (q_fe gone129 rfl rfl) (Pend.cons rfl (q_field gfa161_0 rfl) (Pend.cons rfl (q_nilCheck rfl) (Pend.cons rfl (q_fe gone159 rfl rfl) (Pend.cons rfl (q_fe gone50 rfl rfl) (Pend.nil)))))) ?_
 refine VD.one rfl ?_
 obtain ⟨y17_3, ey17_3, hS⟩ := bd_s hS
 refine VL.callO (codec_Dec_Text_ct a_1__dec_b q12_2_1 ey17_3) rfl (by decide) ?_
 rintro ⟨q17_3_0, q17_3_1⟩ rfl
 try dsimp only
 refine VL.back (D' := [(0, a_0.val)]) (by kernel_rfl) (Pend.cons rfl (q_fe gone50 rfl rfl) (Pend.nil)) ?_
 refine Zw rfl (q_build (vs := [(0, str q7_1_0), (1, i64 q12_2_0), (2, str q17_3_0)]) (cs := #[str q7_1_0, i64 q12_2_0, str q17_3_0]) rfl (by kernel_rfl)) ?_
 refine VD.one rfl ?_
 refine VL.lit (α := FilesFile) (xs := [.tmp 18]) (vs := [.agg #[str q7_1_0, i64 q12_2_0, str q17_3_0]]) [⟨q7_1_0, q12_2_0, q17_3_0⟩] Tryz.underlying50 glit185 (by decide) rfl rfl rfl rfl (by decide) (fun _ _ _ _ => trivial) (by decide) (fun s19_4 hs19_4 => ?_) (by decide)
 replace hS := lt_to hs19_4 hS
 refine VL.back (D' := [(0, a_0.val)]) (by kernel_rfl) (Pend.cons rfl (q_fe gone50 rfl rfl) (Pend.nil)) ?_
 refine VD.one rfl ?_
 obtain ⟨b20, hS⟩ := gd_s hS
 refine VL.app (s := a_0) (r := s19_4) Tryz.underlying50 gapp185 (by decide) rfl Fo.out (ap1 b20) (ap2 b20 (by decide)) (by decide) (fun s20_6 hs20_6 => ?_)
 replace hS := lt_to hs20_6 hS
 refine VL.back (D' := []) (by kernel_rfl) (Pend.nil) ?_
 refine VD.one rfl ?_
 refine Zv (vc := [s20_6.val]) (cs' := [s20_6.val]) rfl gsz50 ?_
 refine VL.back (D' := []) (by kernel_rfl) (Pend.nil) ?_
 cases hS
 exact VD.nil (fin0 (.inl rfl) rfl (s20_6, ⟨q17_3_1.b, q17_3_1.at_, q17_3_1.err⟩) rfl rfl (by (try dsimp only); exact InM.out) (by (try dsimp only); exact EntO.out))
theorem state_reader_many_ct (r_0_b : Nat) (r_0 : StateReader) (r_0_dec_b : Nat) (r_0_dec : CodecDec) (one_1_0_b : Nat) (one_1_0 : Sv FilesFile) (one_1_1_b : Nat) {r : CodecDecP × StateReader × List FilesFile} (hS : Sh.state_reader_many r_0 r_0_dec.pl one_1_0.l = some r) :
 Ct Tryz.prog 142 [ptr r_0_b 0, .func (.func 201) #[] #[ptr one_1_0_b 0, ptr one_1_1_b 0]] (r_0_dec.b.ok.and r_0_dec.err.ok) (Ow.star (Blk r_0_dec_b [r_0_dec.b.val, i64 r_0_dec.at_, r_0_dec.err.val] 233) (Ow.star (Blk r_0_b [ptr r_0_dec_b 0, .bool r_0.bad] 161) (Ow.star (Sv.own one_1_0 185) (Ow.star (Blk one_1_0_b [one_1_0.val] 50) (Blk one_1_1_b [ptr r_0_b 0] 159))))) (X := CodecDec × StateReader × Sv FilesFile) (fun x => .tuple #[]) (fun x => r = (x.1.pl, x.2.1, x.2.2.l)) (fun x => (x.1.b.ok.and x.1.err.ok)) (fun x => Ow.star (Blk r_0_dec_b [x.1.b.val, i64 x.1.at_, x.1.err.val] 233) (Ow.star (Blk r_0_b [ptr r_0_dec_b 0, .bool x.2.1.bad] 161) (Ow.star (Blk one_1_0_b [x.2.2.val] 50) (Ow.star (Sv.own x.2.2 185) (Blk one_1_1_b [ptr r_0_b 0] 159))))) := by
 refine Zo Tryz.func142 Tryz.ntmps142 fun c => ?_
 unfold Sh.state_reader_many at hS
 refine Zq (Zr ?_)
 refine Zm ?_
 refine Zu (q_nilCheck rfl) ?_
 refine Zu (q_field gfa161_0 rfl) ?_
 refine Zu (q_fe gone129 rfl rfl) ?_
 obtain ⟨y10_1, ey10_1, hS⟩ := bd_s hS
 refine VL.callO (codec_Dec_Int_ct r_0_dec_b r_0_dec ey10_1) rfl (by decide) ?_
 rintro ⟨q10_1_0, q10_1_1⟩ rfl
 try dsimp only
 refine Zy ?_
 refine VC.cutJ (S := Bool) (fun (c1_2 : Bool) => c1_2) (fun (c1_2 : Bool) => [(0, ptr r_0_b 0), (1, .func (.func 201) #[] #[ptr one_1_0_b 0, ptr one_1_1_b 0]), (4, i64 q10_1_0)]) (fun (c1_2 : Bool) => Mo.tt) (fun (c1_2 : Bool) => Ow.star (Blk r_0_dec_b [q10_1_1.b.val, i64 q10_1_1.at_, q10_1_1.err.val] 233) (Ow.star (Blk r_0_b [ptr r_0_dec_b 0, .bool c1_2] 161) (Ow.star (Blk one_1_0_b [one_1_0.val] 50) (Ow.star (Blk one_1_1_b [ptr r_0_b 0] 159) (Ow.star (Sv.own one_1_0 185) (Ow.emp)))))) hS ?_ ?_
 ·
  clear hS
  intro k3 hS
  refine Zr ?_
  refine Zy ?_
  refine Zu (q_nilCheck rfl) ?_
  refine Zu (q_field gfa161_1 rfl) ?_
  refine Zu (q_fe gone4 rfl rfl) ?_
  refine Zm ?_
  refine Zspb 16 hS (fun h16 hS => ?_) (fun h16 hS => ?_)
  ·
   refine VL.runs 3 [(19, some true)] (by kernel_rfl) ?_
   refine Zu (q_nilCheck rfl) ?_
   refine Zu (q_field gfa161_1 rfl) ?_
   refine Zv (vc := [.bool true]) (cs' := [ptr r_0_dec_b 0, .bool true]) rfl gsz4 ?_
   refine VL.mt true [0, 1, 4] (fun _ _ h => h) hS rfl
  refine Zg ?_
  refine Zh (q_lss rfl rfl) ?_
  refine Zf ?_
  refine Zu (q_nilCheck rfl) ?_
  refine Zu (q_field gfa161_1 rfl) ?_
  refine Zv (vc := [.bool (decide (q10_1_0 < 0))]) (cs' := [ptr r_0_dec_b 0, .bool (decide (q10_1_0 < 0))]) rfl gsz4 ?_
  refine VL.mt (decide (q10_1_0 < 0)) [0, 1, 4] (fun _ _ h => h) hS rfl
 clear hS
 rintro c1_2 hS
 refine Zq (Zr ?_)
 refine Zy ?_
 refine Zb ?_
 refine VC.iter (S := Int × Sv UInt8 × Int × Er × Sv FilesFile) (fun sg => (sg.1, sg.2.1.l, sg.2.2.1, sg.2.2.2.1.pl, sg.2.2.2.2.l)) (fun sg => [(0, ptr r_0_b 0), (1, .func (.func 201) #[] #[ptr one_1_0_b 0, ptr one_1_1_b 0]), (4, i64 q10_1_0), (5, i64 sg.1)]) (fun sg => (sg.2.1.ok.and sg.2.2.2.1.ok)) (fun sg => Ow.star (Blk r_0_dec_b [sg.2.1.val, i64 sg.2.2.1, sg.2.2.2.1.val] 233) (Ow.star (Blk r_0_b [ptr r_0_dec_b 0, .bool c1_2] 161) (Ow.star (Blk one_1_0_b [sg.2.2.2.2.val] 50) (Ow.star (Blk one_1_1_b [ptr r_0_b 0] 159) (Ow.star (Sv.own sg.2.2.2.2 185) (Ow.emp)))))) (0, q10_1_1.b, q10_1_1.at_, q10_1_1.err, one_1_0) [0, 1, 4, 5] hS rfl ?_
 clear hS
 rintro ⟨i5_4, c0_5, c1_6, c2_7, c0_8⟩ m1 y1 hS hK1
 refine Zq (Zq (Zr ?_))
 refine Zy ?_
 refine Zu (q_lss rfl rfl) ?_
 refine Zm ?_
 refine Zsp 25 hS (fun h25 hS => ?_) (fun h25 hS => ?_)
 ·
  refine Zg ?_
  refine Zh (q_nilCheck rfl) ?_
  refine Zh (q_field gfa161_0 rfl) ?_
  refine Zh (q_fe gone129 rfl rfl) ?_
  refine VL.guard rfl rfl ?_
  obtain ⟨y30_9, ey30_9, hS⟩ := bd_s hS
  refine VL.callO (codec_Dec_Err_ct r_0_dec_b (⟨c0_5, c1_6, c2_7⟩ : CodecDec) ey30_9) rfl (by decide) ?_
  rintro q30_9_0 rfl
  try dsimp only
  refine Zh (q_ereq Tryz.underlying26 rfl) ?_
  refine Zy ?_
  refine VC.keep (ρ' := [(0, ptr r_0_b 0), (1, .func (.func 201) #[] #[ptr one_1_0_b 0, ptr one_1_1_b 0]), (4, i64 q10_1_0), (5, i64 i5_4), (32, .bool (decide (q30_9_0.pl.isNil = true)))]) [0, 1, 4, 5, 32] rfl ?_
  refine Zc hS (fun h32 hS => ?_) (fun h32 hS => ?_)
  ·
   refine Zk ?_
   refine Zq (Zb (Zr ?_))
   refine Zm ?_
   obtain ⟨y36_10, ey36_10, hS⟩ := bd_s hS
   refine VL.callOV (vs := []) (caps := [ptr one_1_0_b 0, ptr one_1_1_b 0]) (state_reader_row_1_ct one_1_0_b c0_8 one_1_1_b r_0_b (⟨c1_2⟩ : StateReader) r_0_dec_b (⟨c0_5, c1_6, c2_7⟩ : CodecDec) ey36_10) rfl rfl (by decide) ?_
   rintro ⟨q36_10_0, q36_10_1⟩ rfl
   try dsimp only
   refine Zl ?_
   refine Zr ?_
   refine Zm ?_
   obtain ⟨b34, hS⟩ := gd_s hS
   refine Zu (q_add rfl rfl b34) ?_
   refine Za ?_
   refine VL.rnd ((i5_4 + 1), q36_10_1.b, q36_10_1.at_, q36_10_1.err, q36_10_0) [0, 1, 4, 5] (fun _ _ h => h) (go2 hS hK1) rfl
  replace hS := up2 hS hK1
  cases hS
  exact VC.exit (fin0 (.inl rfl) rfl (⟨c0_5, c1_6, c2_7⟩, ⟨c1_2⟩, c0_8) rfl rfl (by (try dsimp only); exact InM.out) (by (try dsimp only); exact EntO.out))
 refine VL.runs 7 [(32, some false)] (by kernel_rfl) ?_
 refine Zl ?_
 refine VC.cond_f rfl ?_
 replace hS := up2 hS hK1
 cases hS
 exact VC.exit (fin0 (.inl rfl) rfl (⟨c0_5, c1_6, c2_7⟩, ⟨c1_2⟩, c0_8) rfl rfl (by (try dsimp only); exact InM.out) (by (try dsimp only); exact EntO.out))
theorem slices_Clip_files_Row_files_File_ct (s_0 : Sv FilesFile) {r : List FilesFile} (hS : Sh.slices_Clip_files_Row_files_File s_0.l = some r) :
 Ct Tryz.prog 92 [s_0.val] s_0.ok (Ow.emp) (X := Sv FilesFile) (fun x => x.val) (fun x => r = x.l) (fun x => x.ok) (fun x => Ow.emp) := by
 refine Zo Tryz.func92 Tryz.ntmps92 fun c => ?_
 unfold Sh.slices_Clip_files_Row_files_File at hS
 refine Zq (Zr ?_)
 refine Zy ?_
 refine Zq (Zr ?_)
 refine Zy ?_
 refine Zu (q_ln (s := s_0) Tryz.underlying50 rfl) ?_
 refine Zm ?_
 refine Zu (q_ln (s := s_0) Tryz.underlying50 rfl) ?_
 obtain ⟨b8, hS⟩ := gd_s hS
 refine VL.stom Tryz.underlying50 gsz185 rfl rfl rfl b8.1 (b8.2) (by decide) fun s8_1 hs8_1 => ?_
 replace hS := lt_to hs8_1 hS
 refine Zy ?_
 cases hS
 exact VC.ret (fin1 (.inr rfl) rfl rfl s8_1 rfl rfl (by (try dsimp only); exact InM.out) (fun _ _ => trivial))
theorem state_reader_row_ct (r_0_b : Nat) (r_0 : StateReader) (r_0_dec_b : Nat) (r_0_dec : CodecDec) {r : List FilesFile × CodecDecP × StateReader} (hS : Sh.state_reader_row r_0 r_0_dec.pl = some r) :
 Ct Tryz.prog 140 [ptr r_0_b 0] (r_0_dec.b.ok.and r_0_dec.err.ok) (Ow.star (Blk r_0_dec_b [r_0_dec.b.val, i64 r_0_dec.at_, r_0_dec.err.val] 233) (Blk r_0_b [ptr r_0_dec_b 0, .bool r_0.bad] 161)) (X := Sv FilesFile × CodecDec × StateReader) (fun x => x.1.val) (fun x => r = (x.1.l, x.2.1.pl, x.2.2)) (fun x => (x.1.ok.and (x.2.1.b.ok.and x.2.1.err.ok))) (fun x => Ow.star (Blk r_0_dec_b [x.2.1.b.val, i64 x.2.1.at_, x.2.1.err.val] 233) (Blk r_0_b [ptr r_0_dec_b 0, .bool x.2.2.bad] 161)) := by
 refine Zo Tryz.func140 Tryz.ntmps140 fun c => ?_
 unfold Sh.state_reader_row at hS
 refine Zq (Zr ?_)
 refine VL.box (cs := [ptr r_0_b 0]) rfl rfl (by decide) fun b1_1 => ?_
 refine Zy ?_
 refine Zq (Zr ?_)
 refine VL.alloc (cs := [.slice none 0 0]) (by kernel_rfl) (by decide) fun b3_2 => ?_
 refine Zl ?_
 refine Zq (Zr ?_)
 refine Zu (q_fe gone159 rfl rfl) ?_
 refine Zu (q_mkfn rfl) ?_
 refine VL.nilO (⟨none, 0, []⟩ : Sv FilesFile) 185 ⟨rfl, rfl⟩ ?_
 refine VL.reB b3_2 (cs' := [(⟨none, 0, []⟩ : Sv FilesFile).val]) rfl ?_
 obtain ⟨y6_3, ey6_3, hS⟩ := bd_s hS
 refine VL.callO (state_reader_many_ct r_0_b r_0 r_0_dec_b r_0_dec b3_2 (⟨none, 0, []⟩ : Sv FilesFile) b1_1 ey6_3) rfl (by decide) ?_
 rintro ⟨q6_3_0, q6_3_1, q6_3_2⟩ rfl
 try dsimp only
 refine Zl ?_
 refine Zq (Zr ?_)
 refine Zu (q_fe gone50 rfl rfl) ?_
 refine VL.shut q6_3_2 185 (fun _ _ _ _ => trivial) ?_
 obtain ⟨y8_4, ey8_4, hS⟩ := bd_s hS
 refine VL.callF (slices_Clip_files_Row_files_File_ct q6_3_2 ey8_4) rfl (by decide) ?_
 rintro q8_4_0 rfl
 try dsimp only
 refine Zy ?_
 cases hS
 exact VC.ret (fin1 (.inr rfl) rfl rfl (q8_4_0, ⟨q6_3_0.b, q6_3_0.at_, q6_3_0.err⟩, ⟨q6_3_1.bad⟩) rfl rfl (by (try dsimp only); exact InM.out) (by (try dsimp only); exact EntO.out))
theorem state_reader_entries_1_ct (a_0_b : Nat) (a_0 : Sv IndexEntry) (a_1_b : Nat) (a_1__b : Nat) (a_1_ : StateReader) (a_1__dec_b : Nat) (a_1__dec : CodecDec) {r : List IndexEntry × CodecDecP} (hS : Sh.state_reader_entries_1 a_0.l a_1_ a_1__dec.pl = some r) :
 Ct Tryz.prog 202 [ptr a_0_b 0, ptr a_1_b 0] (a_1__dec.b.ok.and a_1__dec.err.ok) (Ow.star (Sv.own a_0 218) (Ow.star (Blk a_0_b [a_0.val] 51) (Ow.star (Blk a_1__dec_b [a_1__dec.b.val, i64 a_1__dec.at_, a_1__dec.err.val] 233) (Ow.star (Blk a_1__b [ptr a_1__dec_b 0, .bool a_1_.bad] 161) (Blk a_1_b [ptr a_1__b 0] 159))))) (X := Sv IndexEntry × CodecDec) (fun x => .tuple #[]) (fun x => r = (x.1.l, x.2.pl)) (fun x => (x.2.b.ok.and x.2.err.ok)) (fun x => Ow.star (Blk a_0_b [x.1.val] 51) (Ow.star (Sv.own x.1 218) (Ow.star (Blk a_1__dec_b [x.2.b.val, i64 x.2.at_, x.2.err.val] 233) (Ow.star (Blk a_1__b [ptr a_1__dec_b 0, .bool a_1_.bad] 161) (Blk a_1_b [ptr a_1__b 0] 159))))) := by
 refine Zo Tryz.func202 Tryz.ntmps202 fun c => ?_
 unfold Sh.state_reader_entries_1 at hS
 refine VC.draw [(0, true), (1, true), (2, true), (3, true), (4, true), (6, true), (7, true), (8, true), (9, true), (11, true), (12, true), (13, true), (14, true), (16, true), (17, true), (18, true), (19, true), (21, true), (22, true), (23, true), (24, true), (26, true), (27, true), (28, true), (29, true), (5, false), (10, false), (15, false), (20, false), (25, false), (30, false), (31, true), (32, false), (33, false), (34, false)] mixed (by kernel_rfl) (by kernel_rfl) (by kernel_rfl) ?_
 refine Zw rfl (q_fe gone51 rfl rfl) ?_
 refine Zw rfl (q_fe gone159 rfl rfl) ?_
 refine Zw rfl (q_nilCheck rfl) ?_
 refine Zw rfl (q_field gfa161_0 rfl) ?_
 refine Zw rfl (q_fe gone129 rfl rfl) ?_
 refine Zw rfl (q_fe gone159 rfl rfl) ?_
 refine Zw rfl (q_nilCheck rfl) ?_
 refine Zw rfl (q_field gfa161_0 rfl) ?_
 refine Zw rfl (q_fe gone129 rfl rfl) ?_
 refine Zw rfl (q_fe gone159 rfl rfl) ?_
 refine Zw rfl (q_nilCheck rfl) ?_
 refine Zw rfl (q_field gfa161_0 rfl) ?_
 refine Zw rfl (q_fe gone129 rfl rfl) ?_
 refine Zw rfl (q_fe gone159 rfl rfl) ?_
 refine Zw rfl (q_nilCheck rfl) ?_
 refine Zw rfl (q_field gfa161_0 rfl) ?_
 refine Zw rfl (q_fe gone129 rfl rfl) ?_
 refine Zw rfl (q_fe gone159 rfl rfl) ?_
 refine Zw rfl (q_nilCheck rfl) ?_
 refine Zw rfl (q_field gfa161_0 rfl) ?_
 refine Zw rfl (q_fe gone129 rfl rfl) ?_
 refine Zw rfl (q_fe gone159 rfl rfl) ?_
 refine Zw rfl (q_nilCheck rfl) ?_
 refine Zw rfl (q_field gfa161_0 rfl) ?_
 refine Zw rfl (q_fe gone129 rfl rfl) ?_
 refine VD.one rfl ?_
 obtain ⟨y7_1, ey7_1, hS⟩ := bd_s hS
 refine VL.callO (codec_Dec_Text_ct a_1__dec_b a_1__dec ey7_1) rfl (by decide) ?_
 rintro ⟨q7_1_0, q7_1_1⟩ rfl
 try dsimp only
 refine VL.back (D' := [(29, ptr a_1__dec_b 0), (28, ptr a_1__b 0), (27, ptr a_1__b 0), (26, ptr a_1__b 0), (24, ptr a_1__dec_b 0), (23, ptr a_1__b 0), (22, ptr a_1__b 0), (21, ptr a_1__b 0), (19, ptr a_1__dec_b 0), (18, ptr a_1__b 0), (17, ptr a_1__b 0), (16, ptr a_1__b 0), (14, ptr a_1__dec_b 0), (13, ptr a_1__b 0), (12, ptr a_1__b 0), (11, ptr a_1__b 0), (9, ptr a_1__dec_b 0), (8, ptr a_1__b 0), (7, ptr a_1__b 0), (6, ptr a_1__b 0), (0, a_0.val)]) (by kernel_rfl) (Pend.cons rfl (q_fe gone129 rfl rfl) (Pend.cons rfl (q_field gfa161_0 rfl) (Pend.cons rfl (q_nilCheck rfl) (Pend.cons rfl (q_fe gone159 rfl rfl) (Pend.cons rfl (q_fe gone129 rfl rfl) (Pend.cons rfl (q_field gfa161_0 rfl) (Pend.cons rfl (q_nilCheck rfl) (Pend.cons rfl (q_fe gone159 rfl rfl) (Pend.cons rfl (q_fe gone129 rfl rfl) (Pend.cons rfl (q_field gfa161_0 rfl) (Pend.cons rfl (q_nilCheck rfl) (Pend.cons rfl (q_fe gone159 rfl rfl) (Pend.cons rfl (q_fe gone129 rfl rfl) (Pend.cons rfl (q_field gfa161_0 rfl) (Pend.cons rfl (q_nilCheck rfl) (Pend.cons rfl (q_fe gone159 rfl rfl) (Pend.cons rfl (q_fe gone129 rfl rfl) (Pend.cons rfl (q_field gfa161_0 rfl) (Pend.cons rfl (q_nilCheck rfl) (Pend.cons rfl (q_fe gone159 rfl rfl) (Pend.cons rfl (q_fe gone51 rfl rfl) (Pend.nil)))))))))))))))))))))) ?_
 refine VD.one rfl ?_
 obtain ⟨y12_2, ey12_2, hS⟩ := bd_s hS
 refine VL.callO (codec_Dec_Int_ct a_1__dec_b q7_1_1 ey12_2) rfl (by decide) ?_
 rintro ⟨q12_2_0, q12_2_1⟩ rfl
 try dsimp only
 refine VL.back (D' := [(29, ptr a_1__dec_b 0), (28, ptr a_1__b 0), (27, ptr a_1__b 0), (26, ptr a_1__b 0), (24, ptr a_1__dec_b 0), (23, ptr a_1__b 0), (22, ptr a_1__b 0), (21, ptr a_1__b 0), (19, ptr a_1__dec_b 0), (18, ptr a_1__b 0), (17, ptr a_1__b 0), (16, ptr a_1__b 0), (14, ptr a_1__dec_b 0), (13, ptr a_1__b 0), (12, ptr a_1__b 0), (11, ptr a_1__b 0), (0, a_0.val)]) (by kernel_rfl) (Pend.cons rfl (q_fe gone129 rfl rfl) (Pend.cons rfl (q_field gfa161_0 rfl) (Pend.cons rfl (q_nilCheck rfl) (Pend.cons rfl (q_fe gone159 rfl rfl) (Pend.cons rfl (q_fe gone129 rfl rfl) (Pend.cons rfl (q_field gfa161_0 rfl) (Pend.cons rfl (q_nilCheck rfl) (Pend.cons rfl (q_fe gone159 rfl rfl) (Pend.cons rfl (q_fe gone129 rfl rfl) (Pend.cons rfl (q_field gfa161_0 rfl) (Pend.cons rfl (q_nilCheck rfl) (Pend.cons rfl (q_fe gone159 rfl rfl) (Pend.cons rfl (q_fe gone129 rfl rfl) (Pend.cons rfl (q_field gfa161_0 rfl) (Pend.cons rfl (q_nilCheck rfl) (Pend.cons rfl (q_fe gone159 rfl rfl) (Pend.cons rfl (q_fe gone51 rfl rfl) (Pend.nil)))))))))))))))))) ?_
 refine VD.one rfl ?_
 obtain ⟨y17_3, ey17_3, hS⟩ := bd_s hS
 refine VL.callO (codec_Dec_Int_ct a_1__dec_b q12_2_1 ey17_3) rfl (by decide) ?_
 rintro ⟨q17_3_0, q17_3_1⟩ rfl
 try dsimp only
 refine VL.back (D' := [(29, ptr a_1__dec_b 0), (28, ptr a_1__b 0), (27, ptr a_1__b 0), (26, ptr a_1__b 0), (24, ptr a_1__dec_b 0), (23, ptr a_1__b 0), (22, ptr a_1__b 0), (21, ptr a_1__b 0), (19, ptr a_1__dec_b 0), (18, ptr a_1__b 0), (17, ptr a_1__b 0), (16, ptr a_1__b 0), (0, a_0.val)]) (by kernel_rfl) (Pend.cons rfl (q_fe gone129 rfl rfl) (Pend.cons rfl (q_field gfa161_0 rfl) (Pend.cons rfl (q_nilCheck rfl) (Pend.cons rfl (q_fe gone159 rfl rfl) (Pend.cons rfl (q_fe gone129 rfl rfl) (Pend.cons rfl (q_field gfa161_0 rfl) (Pend.cons rfl (q_nilCheck rfl) (Pend.cons rfl (q_fe gone159 rfl rfl) (Pend.cons rfl (q_fe gone129 rfl rfl) (Pend.cons rfl (q_field gfa161_0 rfl) (Pend.cons rfl (q_nilCheck rfl) (Pend.cons rfl (q_fe gone159 rfl rfl) (Pend.cons rfl (q_fe gone51 rfl rfl) (Pend.nil)))))))))))))) ?_
 refine VD.one rfl ?_
 obtain ⟨y22_4, ey22_4, hS⟩ := bd_s hS
 refine VL.callO (codec_Dec_Text_ct a_1__dec_b q17_3_1 ey22_4) rfl (by decide) ?_
 rintro ⟨q22_4_0, q22_4_1⟩ rfl
 try dsimp only
 refine VL.back (D' := [(29, ptr a_1__dec_b 0), (28, ptr a_1__b 0), (27, ptr a_1__b 0), (26, ptr a_1__b 0), (24, ptr a_1__dec_b 0), (23, ptr a_1__b 0), (22, ptr a_1__b 0), (21, ptr a_1__b 0), (0, a_0.val)]) (by kernel_rfl) (Pend.cons rfl (q_fe gone129 rfl rfl) (Pend.cons rfl (q_field gfa161_0 rfl) (Pend.cons rfl (q_nilCheck rfl) (Pend.cons rfl (q_fe gone159 rfl rfl) (Pend.cons rfl (q_fe gone129 rfl rfl) (Pend.cons rfl (q_field gfa161_0 rfl) (Pend.cons rfl (q_nilCheck rfl) (Pend.cons rfl (q_fe gone159 rfl rfl) (Pend.cons rfl (q_fe gone51 rfl rfl) (Pend.nil)))))))))) ?_
 refine VD.one rfl ?_
 obtain ⟨y27_5, ey27_5, hS⟩ := bd_s hS
 refine VL.callO (codec_Dec_Int_ct a_1__dec_b q22_4_1 ey27_5) rfl (by decide) ?_
 rintro ⟨q27_5_0, q27_5_1⟩ rfl
 try dsimp only
 refine VL.back (D' := [(29, ptr a_1__dec_b 0), (28, ptr a_1__b 0), (27, ptr a_1__b 0), (26, ptr a_1__b 0), (0, a_0.val)]) (by kernel_rfl) (Pend.cons rfl (q_fe gone129 rfl rfl) (Pend.cons rfl (q_field gfa161_0 rfl) (Pend.cons rfl (q_nilCheck rfl) (Pend.cons rfl (q_fe gone159 rfl rfl) (Pend.cons rfl (q_fe gone51 rfl rfl) (Pend.nil)))))) ?_
 refine VD.one rfl ?_
 obtain ⟨y32_6, ey32_6, hS⟩ := bd_s hS
 refine VL.callO (codec_Dec_Int_ct a_1__dec_b q27_5_1 ey32_6) rfl (by decide) ?_
 rintro ⟨q32_6_0, q32_6_1⟩ rfl
 try dsimp only
 refine VL.back (D' := [(0, a_0.val)]) (by kernel_rfl) (Pend.cons rfl (q_fe gone51 rfl rfl) (Pend.nil)) ?_
 refine Zw rfl (q_build (vs := [(0, str q7_1_0), (1, i64 q12_2_0), (2, i64 q17_3_0), (3, str q22_4_0), (4, i64 q27_5_0), (5, i64 q32_6_0)]) (cs := #[str q7_1_0, i64 q12_2_0, i64 q17_3_0, str q22_4_0, i64 q27_5_0, i64 q32_6_0]) rfl (by kernel_rfl)) ?_
 refine VD.one rfl ?_
 refine VL.lit (α := IndexEntry) (xs := [.tmp 33]) (vs := [.agg #[str q7_1_0, i64 q12_2_0, i64 q17_3_0, str q22_4_0, i64 q27_5_0, i64 q32_6_0]]) [⟨q7_1_0, q12_2_0, q17_3_0, q22_4_0, q27_5_0, q32_6_0⟩] Tryz.underlying51 glit218 (by decide) rfl rfl rfl rfl (by decide) (fun _ _ _ _ => trivial) (by decide) (fun s34_7 hs34_7 => ?_) (by decide)
 replace hS := lt_to hs34_7 hS
 refine VL.back (D' := [(0, a_0.val)]) (by kernel_rfl) (Pend.cons rfl (q_fe gone51 rfl rfl) (Pend.nil)) ?_
 refine VD.one rfl ?_
 obtain ⟨b35, hS⟩ := gd_s hS
 refine VL.app (s := a_0) (r := s34_7) Tryz.underlying51 gapp218 (by decide) rfl Fo.out (ap1 b35) (ap2 b35 (by decide)) (by decide) (fun s35_9 hs35_9 => ?_)
 replace hS := lt_to hs35_9 hS
 refine VL.back (D' := []) (by kernel_rfl) (Pend.nil) ?_
 refine VD.one rfl ?_
 refine Zv (vc := [s35_9.val]) (cs' := [s35_9.val]) rfl gsz51 ?_
 refine VL.back (D' := []) (by kernel_rfl) (Pend.nil) ?_
 cases hS
 exact VD.nil (fin0 (.inl rfl) rfl (s35_9, ⟨q32_6_1.b, q32_6_1.at_, q32_6_1.err⟩) rfl rfl (by (try dsimp only); exact InM.out) (by (try dsimp only); exact EntO.out))
theorem state_reader_many_v2_ct (r_0_b : Nat) (r_0 : StateReader) (r_0_dec_b : Nat) (r_0_dec : CodecDec) (one_1_0_b : Nat) (one_1_0 : Sv IndexEntry) (one_1_1_b : Nat) {r : CodecDecP × StateReader × List IndexEntry} (hS : Sh.state_reader_many_v2 r_0 r_0_dec.pl one_1_0.l = some r) :
 Ct Tryz.prog 142 [ptr r_0_b 0, .func (.func 202) #[] #[ptr one_1_0_b 0, ptr one_1_1_b 0]] (r_0_dec.b.ok.and r_0_dec.err.ok) (Ow.star (Blk r_0_dec_b [r_0_dec.b.val, i64 r_0_dec.at_, r_0_dec.err.val] 233) (Ow.star (Blk r_0_b [ptr r_0_dec_b 0, .bool r_0.bad] 161) (Ow.star (Sv.own one_1_0 218) (Ow.star (Blk one_1_0_b [one_1_0.val] 51) (Blk one_1_1_b [ptr r_0_b 0] 159))))) (X := CodecDec × StateReader × Sv IndexEntry) (fun x => .tuple #[]) (fun x => r = (x.1.pl, x.2.1, x.2.2.l)) (fun x => (x.1.b.ok.and x.1.err.ok)) (fun x => Ow.star (Blk r_0_dec_b [x.1.b.val, i64 x.1.at_, x.1.err.val] 233) (Ow.star (Blk r_0_b [ptr r_0_dec_b 0, .bool x.2.1.bad] 161) (Ow.star (Blk one_1_0_b [x.2.2.val] 51) (Ow.star (Sv.own x.2.2 218) (Blk one_1_1_b [ptr r_0_b 0] 159))))) := by
 refine Zo Tryz.func142 Tryz.ntmps142 fun c => ?_
 unfold Sh.state_reader_many_v2 at hS
 refine Zq (Zr ?_)
 refine Zm ?_
 refine Zu (q_nilCheck rfl) ?_
 refine Zu (q_field gfa161_0 rfl) ?_
 refine Zu (q_fe gone129 rfl rfl) ?_
 obtain ⟨y10_1, ey10_1, hS⟩ := bd_s hS
 refine VL.callO (codec_Dec_Int_ct r_0_dec_b r_0_dec ey10_1) rfl (by decide) ?_
 rintro ⟨q10_1_0, q10_1_1⟩ rfl
 try dsimp only
 refine Zy ?_
 refine VC.cutJ (S := Bool) (fun (c1_2 : Bool) => c1_2) (fun (c1_2 : Bool) => [(0, ptr r_0_b 0), (1, .func (.func 202) #[] #[ptr one_1_0_b 0, ptr one_1_1_b 0]), (4, i64 q10_1_0)]) (fun (c1_2 : Bool) => Mo.tt) (fun (c1_2 : Bool) => Ow.star (Blk r_0_dec_b [q10_1_1.b.val, i64 q10_1_1.at_, q10_1_1.err.val] 233) (Ow.star (Blk r_0_b [ptr r_0_dec_b 0, .bool c1_2] 161) (Ow.star (Blk one_1_0_b [one_1_0.val] 51) (Ow.star (Blk one_1_1_b [ptr r_0_b 0] 159) (Ow.star (Sv.own one_1_0 218) (Ow.emp)))))) hS ?_ ?_
 ·
  clear hS
  intro k3 hS
  refine Zr ?_
  refine Zy ?_
  refine Zu (q_nilCheck rfl) ?_
  refine Zu (q_field gfa161_1 rfl) ?_
  refine Zu (q_fe gone4 rfl rfl) ?_
  refine Zm ?_
  refine Zspb 16 hS (fun h16 hS => ?_) (fun h16 hS => ?_)
  ·
   refine VL.runs 3 [(19, some true)] (by kernel_rfl) ?_
   refine Zu (q_nilCheck rfl) ?_
   refine Zu (q_field gfa161_1 rfl) ?_
   refine Zv (vc := [.bool true]) (cs' := [ptr r_0_dec_b 0, .bool true]) rfl gsz4 ?_
   refine VL.mt true [0, 1, 4] (fun _ _ h => h) hS rfl
  refine Zg ?_
  refine Zh (q_lss rfl rfl) ?_
  refine Zf ?_
  refine Zu (q_nilCheck rfl) ?_
  refine Zu (q_field gfa161_1 rfl) ?_
  refine Zv (vc := [.bool (decide (q10_1_0 < 0))]) (cs' := [ptr r_0_dec_b 0, .bool (decide (q10_1_0 < 0))]) rfl gsz4 ?_
  refine VL.mt (decide (q10_1_0 < 0)) [0, 1, 4] (fun _ _ h => h) hS rfl
 clear hS
 rintro c1_2 hS
 refine Zq (Zr ?_)
 refine Zy ?_
 refine Zb ?_
 refine VC.iter (S := Int × Sv UInt8 × Int × Er × Sv IndexEntry) (fun sg => (sg.1, sg.2.1.l, sg.2.2.1, sg.2.2.2.1.pl, sg.2.2.2.2.l)) (fun sg => [(0, ptr r_0_b 0), (1, .func (.func 202) #[] #[ptr one_1_0_b 0, ptr one_1_1_b 0]), (4, i64 q10_1_0), (5, i64 sg.1)]) (fun sg => (sg.2.1.ok.and sg.2.2.2.1.ok)) (fun sg => Ow.star (Blk r_0_dec_b [sg.2.1.val, i64 sg.2.2.1, sg.2.2.2.1.val] 233) (Ow.star (Blk r_0_b [ptr r_0_dec_b 0, .bool c1_2] 161) (Ow.star (Blk one_1_0_b [sg.2.2.2.2.val] 51) (Ow.star (Blk one_1_1_b [ptr r_0_b 0] 159) (Ow.star (Sv.own sg.2.2.2.2 218) (Ow.emp)))))) (0, q10_1_1.b, q10_1_1.at_, q10_1_1.err, one_1_0) [0, 1, 4, 5] hS rfl ?_
 clear hS
 rintro ⟨i5_4, c0_5, c1_6, c2_7, c0_8⟩ m1 y1 hS hK1
 refine Zq (Zq (Zr ?_))
 refine Zy ?_
 refine Zu (q_lss rfl rfl) ?_
 refine Zm ?_
 refine Zsp 25 hS (fun h25 hS => ?_) (fun h25 hS => ?_)
 ·
  refine Zg ?_
  refine Zh (q_nilCheck rfl) ?_
  refine Zh (q_field gfa161_0 rfl) ?_
  refine Zh (q_fe gone129 rfl rfl) ?_
  refine VL.guard rfl rfl ?_
  obtain ⟨y30_9, ey30_9, hS⟩ := bd_s hS
  refine VL.callO (codec_Dec_Err_ct r_0_dec_b (⟨c0_5, c1_6, c2_7⟩ : CodecDec) ey30_9) rfl (by decide) ?_
  rintro q30_9_0 rfl
  try dsimp only
  refine Zh (q_ereq Tryz.underlying26 rfl) ?_
  refine Zy ?_
  refine VC.keep (ρ' := [(0, ptr r_0_b 0), (1, .func (.func 202) #[] #[ptr one_1_0_b 0, ptr one_1_1_b 0]), (4, i64 q10_1_0), (5, i64 i5_4), (32, .bool (decide (q30_9_0.pl.isNil = true)))]) [0, 1, 4, 5, 32] rfl ?_
  refine Zc hS (fun h32 hS => ?_) (fun h32 hS => ?_)
  ·
   refine Zk ?_
   refine Zq (Zb (Zr ?_))
   refine Zm ?_
   obtain ⟨y36_10, ey36_10, hS⟩ := bd_s hS
   refine VL.callOV (vs := []) (caps := [ptr one_1_0_b 0, ptr one_1_1_b 0]) (state_reader_entries_1_ct one_1_0_b c0_8 one_1_1_b r_0_b (⟨c1_2⟩ : StateReader) r_0_dec_b (⟨c0_5, c1_6, c2_7⟩ : CodecDec) ey36_10) rfl rfl (by decide) ?_
   rintro ⟨q36_10_0, q36_10_1⟩ rfl
   try dsimp only
   refine Zl ?_
   refine Zr ?_
   refine Zm ?_
   obtain ⟨b34, hS⟩ := gd_s hS
   refine Zu (q_add rfl rfl b34) ?_
   refine Za ?_
   refine VL.rnd ((i5_4 + 1), q36_10_1.b, q36_10_1.at_, q36_10_1.err, q36_10_0) [0, 1, 4, 5] (fun _ _ h => h) (go2 hS hK1) rfl
  replace hS := up2 hS hK1
  cases hS
  exact VC.exit (fin0 (.inl rfl) rfl (⟨c0_5, c1_6, c2_7⟩, ⟨c1_2⟩, c0_8) rfl rfl (by (try dsimp only); exact InM.out) (by (try dsimp only); exact EntO.out))
 refine VL.runs 7 [(32, some false)] (by kernel_rfl) ?_
 refine Zl ?_
 refine VC.cond_f rfl ?_
 replace hS := up2 hS hK1
 cases hS
 exact VC.exit (fin0 (.inl rfl) rfl (⟨c0_5, c1_6, c2_7⟩, ⟨c1_2⟩, c0_8) rfl rfl (by (try dsimp only); exact InM.out) (by (try dsimp only); exact EntO.out))
theorem slices_Clip_index_Entry_index_Entry_ct (s_0 : Sv IndexEntry) {r : List IndexEntry} (hS : Sh.slices_Clip_index_Entry_index_Entry s_0.l = some r) :
 Ct Tryz.prog 203 [s_0.val] s_0.ok (Ow.emp) (X := Sv IndexEntry) (fun x => x.val) (fun x => r = x.l) (fun x => x.ok) (fun x => Ow.emp) := by
 refine Zo Tryz.func203 Tryz.ntmps203 fun c => ?_
 unfold Sh.slices_Clip_index_Entry_index_Entry at hS
 refine Zq (Zr ?_)
 refine Zy ?_
 refine Zq (Zr ?_)
 refine Zy ?_
 refine Zu (q_ln (s := s_0) Tryz.underlying51 rfl) ?_
 refine Zm ?_
 refine Zu (q_ln (s := s_0) Tryz.underlying51 rfl) ?_
 obtain ⟨b8, hS⟩ := gd_s hS
 refine VL.stom Tryz.underlying51 gsz218 rfl rfl rfl b8.1 (b8.2) (by decide) fun s8_1 hs8_1 => ?_
 replace hS := lt_to hs8_1 hS
 refine Zy ?_
 cases hS
 exact VC.ret (fin1 (.inr rfl) rfl rfl s8_1 rfl rfl (by (try dsimp only); exact InM.out) (fun _ _ => trivial))
theorem state_reader_entries_ct (r_0_b : Nat) (r_0 : StateReader) (r_0_dec_b : Nat) (r_0_dec : CodecDec) {r : List IndexEntry × CodecDecP × StateReader} (hS : Sh.state_reader_entries r_0 r_0_dec.pl = some r) :
 Ct Tryz.prog 141 [ptr r_0_b 0] (r_0_dec.b.ok.and r_0_dec.err.ok) (Ow.star (Blk r_0_dec_b [r_0_dec.b.val, i64 r_0_dec.at_, r_0_dec.err.val] 233) (Blk r_0_b [ptr r_0_dec_b 0, .bool r_0.bad] 161)) (X := Sv IndexEntry × CodecDec × StateReader) (fun x => x.1.val) (fun x => r = (x.1.l, x.2.1.pl, x.2.2)) (fun x => (x.1.ok.and (x.2.1.b.ok.and x.2.1.err.ok))) (fun x => Ow.star (Blk r_0_dec_b [x.2.1.b.val, i64 x.2.1.at_, x.2.1.err.val] 233) (Blk r_0_b [ptr r_0_dec_b 0, .bool x.2.2.bad] 161)) := by
 refine Zo Tryz.func141 Tryz.ntmps141 fun c => ?_
 unfold Sh.state_reader_entries at hS
 refine Zq (Zr ?_)
 refine VL.box (cs := [ptr r_0_b 0]) rfl rfl (by decide) fun b1_1 => ?_
 refine Zy ?_
 refine Zq (Zr ?_)
 refine VL.alloc (cs := [.slice none 0 0]) (by kernel_rfl) (by decide) fun b3_2 => ?_
 refine Zl ?_
 refine Zq (Zr ?_)
 refine Zu (q_fe gone159 rfl rfl) ?_
 refine Zu (q_mkfn rfl) ?_
 refine VL.nilO (⟨none, 0, []⟩ : Sv IndexEntry) 218 ⟨rfl, rfl⟩ ?_
 refine VL.reB b3_2 (cs' := [(⟨none, 0, []⟩ : Sv IndexEntry).val]) rfl ?_
 obtain ⟨y6_3, ey6_3, hS⟩ := bd_s hS
 refine VL.callO (state_reader_many_v2_ct r_0_b r_0 r_0_dec_b r_0_dec b3_2 (⟨none, 0, []⟩ : Sv IndexEntry) b1_1 ey6_3) rfl (by decide) ?_
 rintro ⟨q6_3_0, q6_3_1, q6_3_2⟩ rfl
 try dsimp only
 refine Zl ?_
 refine Zq (Zr ?_)
 refine Zu (q_fe gone51 rfl rfl) ?_
 refine VL.shut q6_3_2 218 (fun _ _ _ _ => trivial) ?_
 obtain ⟨y8_4, ey8_4, hS⟩ := bd_s hS
 refine VL.callF (slices_Clip_index_Entry_index_Entry_ct q6_3_2 ey8_4) rfl (by decide) ?_
 rintro q8_4_0 rfl
 try dsimp only
 refine Zy ?_
 cases hS
 exact VC.ret (fin1 (.inr rfl) rfl rfl (q8_4_0, ⟨q6_3_0.b, q6_3_0.at_, q6_3_0.err⟩, ⟨q6_3_1.bad⟩) rfl rfl (by (try dsimp only); exact InM.out) (by (try dsimp only); exact EntO.out))
theorem state_reader_now_1_ct (a_0_b : Nat) (a_0 : StateNow) (a_1_b : Nat) (a_1__b : Nat) (a_1_ : StateReader) (a_1__dec_b : Nat) (a_1__dec : CodecDec) {r : StateNowP × CodecDecP} (hS : Sh.state_reader_now_1 a_0.pl a_1_ a_1__dec.pl = some r) :
 Ct Tryz.prog 143 [ptr a_0_b 0, ptr a_1_b 0] (a_0.work.ok.and (a_0.index.ok.and (a_0.seq_doing.ok.and (a_0.seq_todo.ok.and (a_0.seq_index.ok.and (a_0.seq_work.ok.and ((MAl a_0.stash.l).and (a_1__dec.b.ok.and a_1__dec.err.ok)))))))) (Ow.star (Sv.own a_0.refs 216) (Ow.star (Sv.own a_0.stash 155) (Ow.star (Blk a_0_b [a_0.work.val, a_0.index.val, a_0.refs.val, str a_0.head_branch, i64 a_0.head_commit, str a_0.seq_kind, i64 a_0.seq_other, str a_0.seq_text, a_0.seq_doing.val, a_0.seq_todo.val, i64 a_0.seq_made, str a_0.seq_branch, str a_0.seq_head_branch, i64 a_0.seq_head_commit, a_0.seq_index.val, a_0.seq_work.val, a_0.stash.val] 61) (Ow.star (Blk a_1__dec_b [a_1__dec.b.val, i64 a_1__dec.at_, a_1__dec.err.val] 233) (Ow.star (Blk a_1__b [ptr a_1__dec_b 0, .bool a_1_.bad] 161) (Blk a_1_b [ptr a_1__b 0] 159)))))) (X := StateNow × CodecDec) (fun x => .tuple #[]) (fun x => r = (x.1.pl, x.2.pl)) (fun x => (x.1.work.ok.and (x.1.index.ok.and (x.1.seq_doing.ok.and (x.1.seq_todo.ok.and (x.1.seq_index.ok.and (x.1.seq_work.ok.and ((MAl x.1.stash.l).and (x.2.b.ok.and x.2.err.ok))))))))) (fun x => Ow.star (Blk a_0_b [x.1.work.val, x.1.index.val, x.1.refs.val, str x.1.head_branch, i64 x.1.head_commit, str x.1.seq_kind, i64 x.1.seq_other, str x.1.seq_text, x.1.seq_doing.val, x.1.seq_todo.val, i64 x.1.seq_made, str x.1.seq_branch, str x.1.seq_head_branch, i64 x.1.seq_head_commit, x.1.seq_index.val, x.1.seq_work.val, x.1.stash.val] 61) (Ow.star (Sv.own x.1.refs 216) (Ow.star (Sv.own x.1.stash 155) (Ow.star (Blk a_1__dec_b [x.2.b.val, i64 x.2.at_, x.2.err.val] 233) (Ow.star (Blk a_1__b [ptr a_1__dec_b 0, .bool a_1_.bad] 161) (Blk a_1_b [ptr a_1__b 0] 159)))))) := by
 refine Zo Tryz.func143 Tryz.ntmps143 fun c => ?_
 unfold Sh.state_reader_now_1 at hS
 refine VC.draw [(0, true), (1, true), (2, true), (3, true), (4, true), (5, true), (7, true), (8, true), (9, true), (10, true), (6, false), (11, false), (12, true), (13, false), (14, false), (15, true), (16, false)] mixed (by kernel_rfl) (by kernel_rfl) (by kernel_rfl) ?_
 refine Zw rfl (q_field gfa61_2 rfl) ?_
 refine Zw rfl (q_fe gone52 rfl rfl) ?_
 refine Zw rfl (q_fe gone159 rfl rfl) ?_
 refine Zw rfl (q_nilCheck rfl) ?_
 refine Zw rfl (q_field gfa161_0 rfl) ?_
 refine Zw rfl (q_fe gone129 rfl rfl) ?_
 refine Zw rfl (q_fe gone159 rfl rfl) ?_
 refine Zw rfl (q_nilCheck rfl) ?_
 refine Zw rfl (q_field gfa161_0 rfl) ?_
 refine Zw rfl (q_fe gone129 rfl rfl) ?_
 refine VD.one rfl ?_
 obtain ⟨y8_1, ey8_1, hS⟩ := bd_s hS
 refine VL.callO (codec_Dec_Text_ct a_1__dec_b a_1__dec ey8_1) rfl (by decide) ?_
 rintro ⟨q8_1_0, q8_1_1⟩ rfl
 try dsimp only
 refine VL.back (D' := [(10, ptr a_1__dec_b 0), (9, ptr a_1__b 0), (8, ptr a_1__b 0), (7, ptr a_1__b 0), (1, a_0.refs.val), (0, ptr a_0_b 2)]) (by kernel_rfl) (Pend.cons rfl (q_fe gone129 rfl rfl) (Pend.cons rfl (q_field gfa161_0 rfl) (Pend.cons rfl (q_nilCheck rfl) (Pend.cons rfl (q_fe gone159 rfl rfl) (Pend.cons rfl (q_fe gone52 rfl rfl) (Pend.cons rfl (q_field gfa61_2 rfl) (Pend.nil))))))) ?_
 refine VD.one rfl ?_
 obtain ⟨y13_2, ey13_2, hS⟩ := bd_s hS
 refine VL.callO (codec_Dec_Int_ct a_1__dec_b q8_1_1 ey13_2) rfl (by decide) ?_
 rintro ⟨q13_2_0, q13_2_1⟩ rfl
 try dsimp only
 refine VL.back (D' := [(1, a_0.refs.val), (0, ptr a_0_b 2)]) (by kernel_rfl) (Pend.cons rfl (q_fe gone52 rfl rfl) (Pend.cons rfl (q_field gfa61_2 rfl) (Pend.nil))) ?_
 refine Zw rfl (q_build (vs := [(0, str q8_1_0), (1, i64 q13_2_0)]) (cs := #[str q8_1_0, i64 q13_2_0]) rfl (by kernel_rfl)) ?_
 refine VD.one rfl ?_
 refine VL.lit (α := NamesRef) (xs := [.tmp 14]) (vs := [.agg #[str q8_1_0, i64 q13_2_0]]) [⟨q8_1_0, q13_2_0⟩] Tryz.underlying52 glit216 (by decide) rfl rfl rfl rfl (by decide) (fun _ _ _ _ => trivial) (by decide) (fun s15_3 hs15_3 => ?_) (by decide)
 replace hS := lt_to hs15_3 hS
 refine VL.back (D' := [(1, a_0.refs.val), (0, ptr a_0_b 2)]) (by kernel_rfl) (Pend.cons rfl (q_fe gone52 rfl rfl) (Pend.cons rfl (q_field gfa61_2 rfl) (Pend.nil))) ?_
 refine VD.one rfl ?_
 obtain ⟨b16, hS⟩ := gd_s hS
 refine VL.app (s := a_0.refs) (r := s15_3) Tryz.underlying52 gapp216 (by decide) rfl Fo.out (ap1 b16) (ap2 b16 (by decide)) (by decide) (fun s16_5 hs16_5 => ?_)
 replace hS := lt_to hs16_5 hS
 refine VL.back (D' := []) (by kernel_rfl) (Pend.nil) ?_
 refine Zw rfl (q_field gfa61_2 rfl) ?_
 refine VD.one rfl ?_
 refine Zv (vc := [s16_5.val]) (cs' := [a_0.work.val, a_0.index.val, s16_5.val, str a_0.head_branch, i64 a_0.head_commit, str a_0.seq_kind, i64 a_0.seq_other, str a_0.seq_text, a_0.seq_doing.val, a_0.seq_todo.val, i64 a_0.seq_made, str a_0.seq_branch, str a_0.seq_head_branch, i64 a_0.seq_head_commit, a_0.seq_index.val, a_0.seq_work.val, a_0.stash.val]) rfl gsz52 ?_
 refine VL.back (D' := []) (by kernel_rfl) (Pend.nil) ?_
 cases hS
 exact VD.nil (fin0 (.inl rfl) rfl (⟨a_0.work, a_0.index, s16_5, a_0.head_branch, a_0.head_commit, a_0.seq_kind, a_0.seq_other, a_0.seq_text, a_0.seq_doing, a_0.seq_todo, a_0.seq_made, a_0.seq_branch, a_0.seq_head_branch, a_0.seq_head_commit, a_0.seq_index, a_0.seq_work, a_0.stash⟩, ⟨q13_2_1.b, q13_2_1.at_, q13_2_1.err⟩) rfl rfl (by (try dsimp only); exact InM.out) (by (try dsimp only); exact EntO.out))
theorem state_reader_many_v3_ct (r_0_b : Nat) (r_0 : StateReader) (r_0_dec_b : Nat) (r_0_dec : CodecDec) (one_1_0_b : Nat) (one_1_0 : StateNow) (one_1_1_b : Nat) {r : CodecDecP × StateReader × StateNowP} (hS : Sh.state_reader_many_v3 r_0 r_0_dec.pl one_1_0.pl = some r) :
 Ct Tryz.prog 142 [ptr r_0_b 0, .func (.func 143) #[] #[ptr one_1_0_b 0, ptr one_1_1_b 0]] (r_0_dec.b.ok.and (r_0_dec.err.ok.and (one_1_0.work.ok.and (one_1_0.index.ok.and (one_1_0.seq_doing.ok.and (one_1_0.seq_todo.ok.and (one_1_0.seq_index.ok.and (one_1_0.seq_work.ok.and (MAl one_1_0.stash.l))))))))) (Ow.star (Blk r_0_dec_b [r_0_dec.b.val, i64 r_0_dec.at_, r_0_dec.err.val] 233) (Ow.star (Blk r_0_b [ptr r_0_dec_b 0, .bool r_0.bad] 161) (Ow.star (Sv.own one_1_0.refs 216) (Ow.star (Sv.own one_1_0.stash 155) (Ow.star (Blk one_1_0_b [one_1_0.work.val, one_1_0.index.val, one_1_0.refs.val, str one_1_0.head_branch, i64 one_1_0.head_commit, str one_1_0.seq_kind, i64 one_1_0.seq_other, str one_1_0.seq_text, one_1_0.seq_doing.val, one_1_0.seq_todo.val, i64 one_1_0.seq_made, str one_1_0.seq_branch, str one_1_0.seq_head_branch, i64 one_1_0.seq_head_commit, one_1_0.seq_index.val, one_1_0.seq_work.val, one_1_0.stash.val] 61) (Blk one_1_1_b [ptr r_0_b 0] 159)))))) (X := CodecDec × StateReader × StateNow) (fun x => .tuple #[]) (fun x => r = (x.1.pl, x.2.1, x.2.2.pl)) (fun x => (x.1.b.ok.and (x.1.err.ok.and (x.2.2.work.ok.and (x.2.2.index.ok.and (x.2.2.seq_doing.ok.and (x.2.2.seq_todo.ok.and (x.2.2.seq_index.ok.and (x.2.2.seq_work.ok.and (MAl x.2.2.stash.l)))))))))) (fun x => Ow.star (Blk r_0_dec_b [x.1.b.val, i64 x.1.at_, x.1.err.val] 233) (Ow.star (Blk r_0_b [ptr r_0_dec_b 0, .bool x.2.1.bad] 161) (Ow.star (Blk one_1_0_b [x.2.2.work.val, x.2.2.index.val, x.2.2.refs.val, str x.2.2.head_branch, i64 x.2.2.head_commit, str x.2.2.seq_kind, i64 x.2.2.seq_other, str x.2.2.seq_text, x.2.2.seq_doing.val, x.2.2.seq_todo.val, i64 x.2.2.seq_made, str x.2.2.seq_branch, str x.2.2.seq_head_branch, i64 x.2.2.seq_head_commit, x.2.2.seq_index.val, x.2.2.seq_work.val, x.2.2.stash.val] 61) (Ow.star (Sv.own x.2.2.refs 216) (Ow.star (Sv.own x.2.2.stash 155) (Blk one_1_1_b [ptr r_0_b 0] 159)))))) := by
 refine Zo Tryz.func142 Tryz.ntmps142 fun c => ?_
 unfold Sh.state_reader_many_v3 at hS
 refine Zq (Zr ?_)
 refine Zm ?_
 refine Zu (q_nilCheck rfl) ?_
 refine Zu (q_field gfa161_0 rfl) ?_
 refine Zu (q_fe gone129 rfl rfl) ?_
 obtain ⟨y10_1, ey10_1, hS⟩ := bd_s hS
 refine VL.callO (codec_Dec_Int_ct r_0_dec_b r_0_dec ey10_1) rfl (by decide) ?_
 rintro ⟨q10_1_0, q10_1_1⟩ rfl
 try dsimp only
 refine Zy ?_
 refine VC.cutJ (S := Bool) (fun (c1_2 : Bool) => c1_2) (fun (c1_2 : Bool) => [(0, ptr r_0_b 0), (1, .func (.func 143) #[] #[ptr one_1_0_b 0, ptr one_1_1_b 0]), (4, i64 q10_1_0)]) (fun (c1_2 : Bool) => Mo.tt) (fun (c1_2 : Bool) => Ow.star (Blk r_0_dec_b [q10_1_1.b.val, i64 q10_1_1.at_, q10_1_1.err.val] 233) (Ow.star (Blk r_0_b [ptr r_0_dec_b 0, .bool c1_2] 161) (Ow.star (Blk one_1_0_b [one_1_0.work.val, one_1_0.index.val, one_1_0.refs.val, str one_1_0.head_branch, i64 one_1_0.head_commit, str one_1_0.seq_kind, i64 one_1_0.seq_other, str one_1_0.seq_text, one_1_0.seq_doing.val, one_1_0.seq_todo.val, i64 one_1_0.seq_made, str one_1_0.seq_branch, str one_1_0.seq_head_branch, i64 one_1_0.seq_head_commit, one_1_0.seq_index.val, one_1_0.seq_work.val, one_1_0.stash.val] 61) (Ow.star (Blk one_1_1_b [ptr r_0_b 0] 159) (Ow.star (Sv.own one_1_0.refs 216) (Ow.star (Sv.own one_1_0.stash 155) (Ow.emp))))))) hS ?_ ?_
 ·
  clear hS
  intro k3 hS
  refine Zr ?_
  refine Zy ?_
  refine Zu (q_nilCheck rfl) ?_
  refine Zu (q_field gfa161_1 rfl) ?_
  refine Zu (q_fe gone4 rfl rfl) ?_
  refine Zm ?_
  refine Zspb 16 hS (fun h16 hS => ?_) (fun h16 hS => ?_)
  ·
   refine VL.runs 3 [(19, some true)] (by kernel_rfl) ?_
   refine Zu (q_nilCheck rfl) ?_
   refine Zu (q_field gfa161_1 rfl) ?_
   refine Zv (vc := [.bool true]) (cs' := [ptr r_0_dec_b 0, .bool true]) rfl gsz4 ?_
   refine VL.mt true [0, 1, 4] (fun _ _ h => h) hS rfl
  refine Zg ?_
  refine Zh (q_lss rfl rfl) ?_
  refine Zf ?_
  refine Zu (q_nilCheck rfl) ?_
  refine Zu (q_field gfa161_1 rfl) ?_
  refine Zv (vc := [.bool (decide (q10_1_0 < 0))]) (cs' := [ptr r_0_dec_b 0, .bool (decide (q10_1_0 < 0))]) rfl gsz4 ?_
  refine VL.mt (decide (q10_1_0 < 0)) [0, 1, 4] (fun _ _ h => h) hS rfl
 clear hS
 rintro c1_2 hS
 refine Zq (Zr ?_)
 refine Zy ?_
 refine Zb ?_
 refine VC.iter (S := Int × Sv UInt8 × Int × Er × Sv FilesFile × Sv IndexEntry × Sv NamesRef × Str × Int × Str × Int × Str × Sv TodoStep × Sv TodoStep × Int × Str × Str × Int × Sv IndexEntry × Sv FilesFile × Sv ShelfShelf) (fun sg => (sg.1, sg.2.1.l, sg.2.2.1, sg.2.2.2.1.pl, sg.2.2.2.2.1.l, sg.2.2.2.2.2.1.l, sg.2.2.2.2.2.2.1.l, sg.2.2.2.2.2.2.2.1, sg.2.2.2.2.2.2.2.2.1, sg.2.2.2.2.2.2.2.2.2.1, sg.2.2.2.2.2.2.2.2.2.2.1, sg.2.2.2.2.2.2.2.2.2.2.2.1, sg.2.2.2.2.2.2.2.2.2.2.2.2.1.l, sg.2.2.2.2.2.2.2.2.2.2.2.2.2.1.l, sg.2.2.2.2.2.2.2.2.2.2.2.2.2.2.1, sg.2.2.2.2.2.2.2.2.2.2.2.2.2.2.2.1, sg.2.2.2.2.2.2.2.2.2.2.2.2.2.2.2.2.1, sg.2.2.2.2.2.2.2.2.2.2.2.2.2.2.2.2.2.1, sg.2.2.2.2.2.2.2.2.2.2.2.2.2.2.2.2.2.2.1.l, sg.2.2.2.2.2.2.2.2.2.2.2.2.2.2.2.2.2.2.2.1.l, (sg.2.2.2.2.2.2.2.2.2.2.2.2.2.2.2.2.2.2.2.2.l.map ShelfShelf.pl))) (fun sg => [(0, ptr r_0_b 0), (1, .func (.func 143) #[] #[ptr one_1_0_b 0, ptr one_1_1_b 0]), (4, i64 q10_1_0), (5, i64 sg.1)]) (fun sg => (sg.2.1.ok.and (sg.2.2.2.1.ok.and (sg.2.2.2.2.1.ok.and (sg.2.2.2.2.2.1.ok.and (sg.2.2.2.2.2.2.2.2.2.2.2.2.1.ok.and (sg.2.2.2.2.2.2.2.2.2.2.2.2.2.1.ok.and (sg.2.2.2.2.2.2.2.2.2.2.2.2.2.2.2.2.2.2.1.ok.and (sg.2.2.2.2.2.2.2.2.2.2.2.2.2.2.2.2.2.2.2.1.ok.and (MAl sg.2.2.2.2.2.2.2.2.2.2.2.2.2.2.2.2.2.2.2.2.l)))))))))) (fun sg => Ow.star (Blk r_0_dec_b [sg.2.1.val, i64 sg.2.2.1, sg.2.2.2.1.val] 233) (Ow.star (Blk r_0_b [ptr r_0_dec_b 0, .bool c1_2] 161) (Ow.star (Blk one_1_0_b [sg.2.2.2.2.1.val, sg.2.2.2.2.2.1.val, sg.2.2.2.2.2.2.1.val, str sg.2.2.2.2.2.2.2.1, i64 sg.2.2.2.2.2.2.2.2.1, str sg.2.2.2.2.2.2.2.2.2.1, i64 sg.2.2.2.2.2.2.2.2.2.2.1, str sg.2.2.2.2.2.2.2.2.2.2.2.1, sg.2.2.2.2.2.2.2.2.2.2.2.2.1.val, sg.2.2.2.2.2.2.2.2.2.2.2.2.2.1.val, i64 sg.2.2.2.2.2.2.2.2.2.2.2.2.2.2.1, str sg.2.2.2.2.2.2.2.2.2.2.2.2.2.2.2.1, str sg.2.2.2.2.2.2.2.2.2.2.2.2.2.2.2.2.1, i64 sg.2.2.2.2.2.2.2.2.2.2.2.2.2.2.2.2.2.1, sg.2.2.2.2.2.2.2.2.2.2.2.2.2.2.2.2.2.2.1.val, sg.2.2.2.2.2.2.2.2.2.2.2.2.2.2.2.2.2.2.2.1.val, sg.2.2.2.2.2.2.2.2.2.2.2.2.2.2.2.2.2.2.2.2.val] 61) (Ow.star (Blk one_1_1_b [ptr r_0_b 0] 159) (Ow.star (Sv.own sg.2.2.2.2.2.2.1 216) (Ow.star (Sv.own sg.2.2.2.2.2.2.2.2.2.2.2.2.2.2.2.2.2.2.2.2 155) (Ow.emp))))))) (0, q10_1_1.b, q10_1_1.at_, q10_1_1.err, one_1_0.work, one_1_0.index, one_1_0.refs, one_1_0.head_branch, one_1_0.head_commit, one_1_0.seq_kind, one_1_0.seq_other, one_1_0.seq_text, one_1_0.seq_doing, one_1_0.seq_todo, one_1_0.seq_made, one_1_0.seq_branch, one_1_0.seq_head_branch, one_1_0.seq_head_commit, one_1_0.seq_index, one_1_0.seq_work, one_1_0.stash) [0, 1, 4, 5] hS rfl ?_
 clear hS
 rintro ⟨i5_4, c0_5, c1_6, c2_7, c0_8, c1_9, c2_10, c3_11, c4_12, c5_13, c6_14, c7_15, c8_16, c9_17, c10_18, c11_19, c12_20, c13_21, c14_22, c15_23, c16_24⟩ m1 y1 hS hK1
 refine Zq (Zq (Zr ?_))
 refine Zy ?_
 refine Zu (q_lss rfl rfl) ?_
 refine Zm ?_
 refine Zsp 25 hS (fun h25 hS => ?_) (fun h25 hS => ?_)
 ·
  refine Zg ?_
  refine Zh (q_nilCheck rfl) ?_
  refine Zh (q_field gfa161_0 rfl) ?_
  refine Zh (q_fe gone129 rfl rfl) ?_
  refine VL.guard rfl rfl ?_
  obtain ⟨y30_25, ey30_25, hS⟩ := bd_s hS
  refine VL.callO (codec_Dec_Err_ct r_0_dec_b (⟨c0_5, c1_6, c2_7⟩ : CodecDec) ey30_25) rfl (by decide) ?_
  rintro q30_25_0 rfl
  try dsimp only
  refine Zh (q_ereq Tryz.underlying26 rfl) ?_
  refine Zy ?_
  refine VC.keep (ρ' := [(0, ptr r_0_b 0), (1, .func (.func 143) #[] #[ptr one_1_0_b 0, ptr one_1_1_b 0]), (4, i64 q10_1_0), (5, i64 i5_4), (32, .bool (decide (q30_25_0.pl.isNil = true)))]) [0, 1, 4, 5, 32] rfl ?_
  refine Zc hS (fun h32 hS => ?_) (fun h32 hS => ?_)
  ·
   refine Zk ?_
   refine Zq (Zb (Zr ?_))
   refine Zm ?_
   obtain ⟨y36_26, ey36_26, hS⟩ := bd_s hS
   refine VL.callOV (vs := []) (caps := [ptr one_1_0_b 0, ptr one_1_1_b 0]) (state_reader_now_1_ct one_1_0_b (⟨c0_8, c1_9, c2_10, c3_11, c4_12, c5_13, c6_14, c7_15, c8_16, c9_17, c10_18, c11_19, c12_20, c13_21, c14_22, c15_23, c16_24⟩ : StateNow) one_1_1_b r_0_b (⟨c1_2⟩ : StateReader) r_0_dec_b (⟨c0_5, c1_6, c2_7⟩ : CodecDec) ey36_26) rfl rfl (by decide) ?_
   rintro ⟨q36_26_0, q36_26_1⟩ rfl
   try dsimp only
   refine Zl ?_
   refine Zr ?_
   refine Zm ?_
   obtain ⟨b34, hS⟩ := gd_s hS
   refine Zu (q_add rfl rfl b34) ?_
   refine Za ?_
   refine VL.rnd ((i5_4 + 1), q36_26_1.b, q36_26_1.at_, q36_26_1.err, q36_26_0.work, q36_26_0.index, q36_26_0.refs, q36_26_0.head_branch, q36_26_0.head_commit, q36_26_0.seq_kind, q36_26_0.seq_other, q36_26_0.seq_text, q36_26_0.seq_doing, q36_26_0.seq_todo, q36_26_0.seq_made, q36_26_0.seq_branch, q36_26_0.seq_head_branch, q36_26_0.seq_head_commit, q36_26_0.seq_index, q36_26_0.seq_work, q36_26_0.stash) [0, 1, 4, 5] (fun _ _ h => h) (go2 hS hK1) rfl
  replace hS := up2 hS hK1
  cases hS
  exact VC.exit (fin0 (.inl rfl) rfl (⟨c0_5, c1_6, c2_7⟩, ⟨c1_2⟩, ⟨c0_8, c1_9, c2_10, c3_11, c4_12, c5_13, c6_14, c7_15, c8_16, c9_17, c10_18, c11_19, c12_20, c13_21, c14_22, c15_23, c16_24⟩) rfl rfl (by (try dsimp only); exact InM.out) (by (try dsimp only); exact EntO.out))
 refine VL.runs 7 [(32, some false)] (by kernel_rfl) ?_
 refine Zl ?_
 refine VC.cond_f rfl ?_
 replace hS := up2 hS hK1
 cases hS
 exact VC.exit (fin0 (.inl rfl) rfl (⟨c0_5, c1_6, c2_7⟩, ⟨c1_2⟩, ⟨c0_8, c1_9, c2_10, c3_11, c4_12, c5_13, c6_14, c7_15, c8_16, c9_17, c10_18, c11_19, c12_20, c13_21, c14_22, c15_23, c16_24⟩) rfl rfl (by (try dsimp only); exact InM.out) (by (try dsimp only); exact EntO.out))
theorem state_reader_head_ct (r_0_b : Nat) (r_0 : StateReader) (r_0_dec_b : Nat) (r_0_dec : CodecDec) {r : NamesHead × CodecDecP} (hS : Sh.state_reader_head r_0 r_0_dec.pl = some r) :
 Ct Tryz.prog 144 [ptr r_0_b 0] (r_0_dec.b.ok.and r_0_dec.err.ok) (Ow.star (Blk r_0_dec_b [r_0_dec.b.val, i64 r_0_dec.at_, r_0_dec.err.val] 233) (Blk r_0_b [ptr r_0_dec_b 0, .bool r_0.bad] 161)) (X := NamesHead × CodecDec) (fun x => .agg #[str x.1.branch, i64 x.1.commit]) (fun x => r = (x.1, x.2.pl)) (fun x => (x.2.b.ok.and x.2.err.ok)) (fun x => Ow.star (Blk r_0_dec_b [x.2.b.val, i64 x.2.at_, x.2.err.val] 233) (Blk r_0_b [ptr r_0_dec_b 0, .bool r_0.bad] 161)) := by
 refine Zo Tryz.func144 Tryz.ntmps144 fun c => ?_
 unfold Sh.state_reader_head at hS
 refine Zq (Zr ?_)
 refine VL.alloc (cs := [str [], i64 0]) (by kernel_rfl) (by decide) fun b2_1 => ?_
 refine Zl ?_
 refine Zq ?_
 refine VC.draw [(0, true), (1, true), (2, true), (3, true), (5, true), (6, true), (7, true), (8, true), (4, false), (9, false), (10, true), (11, false)] mixed (by kernel_rfl) (by kernel_rfl) (by kernel_rfl) ?_
 refine Zw rfl (q_move rfl) ?_
 refine Zw rfl (q_nilCheck rfl) ?_
 refine Zw rfl (q_field gfa161_0 rfl) ?_
 refine Zw rfl (q_fe gone129 rfl rfl) ?_
 refine Zw rfl (q_move rfl) ?_
 refine Zw rfl (q_nilCheck rfl) ?_
 refine Zw rfl (q_field gfa161_0 rfl) ?_
 refine Zw rfl (q_fe gone129 rfl rfl) ?_
 refine VD.one rfl ?_
 obtain ⟨y7_2, ey7_2, hS⟩ := bd_s hS
 refine VL.callO (codec_Dec_Text_ct r_0_dec_b r_0_dec ey7_2) rfl (by decide) ?_
 rintro ⟨q7_2_0, q7_2_1⟩ rfl
 try dsimp only
 refine VL.back (D' := [(8, ptr r_0_dec_b 0), (7, ptr r_0_b 0), (6, ptr r_0_b 0)]) (by kernel_rfl) (Pend.cons rfl (q_fe gone129 rfl rfl) (Pend.cons rfl (q_field gfa161_0 rfl) (Pend.cons rfl (q_nilCheck rfl) (Pend.nil)))) ?_
 refine VD.one rfl ?_
 obtain ⟨y12_3, ey12_3, hS⟩ := bd_s hS
 refine VL.callO (codec_Dec_Int_ct r_0_dec_b q7_2_1 ey12_3) rfl (by decide) ?_
 rintro ⟨q12_3_0, q12_3_1⟩ rfl
 try dsimp only
 refine VL.back (D' := []) (by kernel_rfl) (Pend.nil) ?_
 refine Zw rfl (q_build (vs := [(0, str q7_2_0), (1, i64 q12_3_0)]) (cs := #[str q7_2_0, i64 q12_3_0]) rfl (by kernel_rfl)) ?_
 refine VD.one rfl ?_
 refine Zv (vc := [str q7_2_0, i64 q12_3_0]) (cs' := [str q7_2_0, i64 q12_3_0]) rfl gsz54 ?_
 refine VL.back (D' := []) (by kernel_rfl) (Pend.nil) ?_
 refine VD.to (fun _ _ h => h) ?_
 refine VC.keep (ρ' := [(2, ptr b2_1 0)]) [2] rfl ?_
 cases hS
 exact VC.ret (finG (vs := [.agg #[str q7_2_0, i64 q12_3_0]]) (.inr rfl) rfl (RVs.cell gagg54 rfl rfl Rd.blk (RVs.nil)) (⟨q7_2_0, q12_3_0⟩, ⟨q12_3_1.b, q12_3_1.at_, q12_3_1.err⟩) rfl rfl (by (try dsimp only); exact InM.out) (by (try dsimp only); exact EntO.out))
theorem state_reader_steps_1_ct (a_0_b : Nat) (a_0 : Sv TodoStep) (a_1_b : Nat) (a_1__b : Nat) (a_1_ : StateReader) (a_1__dec_b : Nat) (a_1__dec : CodecDec) {r : List TodoStep × CodecDecP} (hS : Sh.state_reader_steps_1 a_0.l a_1_ a_1__dec.pl = some r) :
 Ct Tryz.prog 245 [ptr a_0_b 0, ptr a_1_b 0] (a_1__dec.b.ok.and a_1__dec.err.ok) (Ow.star (Sv.own a_0 278) (Ow.star (Blk a_0_b [a_0.val] 55) (Ow.star (Blk a_1__dec_b [a_1__dec.b.val, i64 a_1__dec.at_, a_1__dec.err.val] 233) (Ow.star (Blk a_1__b [ptr a_1__dec_b 0, .bool a_1_.bad] 161) (Blk a_1_b [ptr a_1__b 0] 159))))) (X := Sv TodoStep × CodecDec) (fun x => .tuple #[]) (fun x => r = (x.1.l, x.2.pl)) (fun x => (x.2.b.ok.and x.2.err.ok)) (fun x => Ow.star (Blk a_0_b [x.1.val] 55) (Ow.star (Sv.own x.1 278) (Ow.star (Blk a_1__dec_b [x.2.b.val, i64 x.2.at_, x.2.err.val] 233) (Ow.star (Blk a_1__b [ptr a_1__dec_b 0, .bool a_1_.bad] 161) (Blk a_1_b [ptr a_1__b 0] 159))))) := by
 refine Zo Tryz.func245 Tryz.ntmps245 fun c => ?_
 unfold Sh.state_reader_steps_1 at hS
 refine VC.draw [(0, true), (1, true), (2, true), (3, true), (4, true), (6, true), (7, true), (8, true), (9, true), (11, true), (12, true), (13, true), (14, true), (5, false), (10, false), (15, false), (16, true), (17, false), (18, false), (19, false)] mixed (by kernel_rfl) (by kernel_rfl) (by kernel_rfl) ?_
 refine Zw rfl (q_fe gone55 rfl rfl) ?_
 refine Zw rfl (q_fe gone159 rfl rfl) ?_
 refine Zw rfl (q_nilCheck rfl) ?_
 refine Zw rfl (q_field gfa161_0 rfl) ?_
 refine Zw rfl (q_fe gone129 rfl rfl) ?_
 refine Zw rfl (q_fe gone159 rfl rfl) ?_
 refine Zw rfl (q_nilCheck rfl) ?_
 refine Zw rfl (q_field gfa161_0 rfl) ?_
 refine Zw rfl (q_fe gone129 rfl rfl) ?_
 refine Zw rfl (q_fe gone159 rfl rfl) ?_
 refine Zw rfl (q_nilCheck rfl) ?_
 refine Zw rfl (q_field gfa161_0 rfl) ?_
 refine Zw rfl (q_fe gone129 rfl rfl) ?_
 refine VD.one rfl ?_
 obtain ⟨y7_1, ey7_1, hS⟩ := bd_s hS
 refine VL.callO (codec_Dec_Text_ct a_1__dec_b a_1__dec ey7_1) rfl (by decide) ?_
 rintro ⟨q7_1_0, q7_1_1⟩ rfl
 try dsimp only
 refine VL.back (D' := [(14, ptr a_1__dec_b 0), (13, ptr a_1__b 0), (12, ptr a_1__b 0), (11, ptr a_1__b 0), (9, ptr a_1__dec_b 0), (8, ptr a_1__b 0), (7, ptr a_1__b 0), (6, ptr a_1__b 0), (0, a_0.val)]) (by kernel_rfl) (Pend.cons rfl (q_fe gone129 rfl rfl) (Pend.cons rfl (q_field gfa161_0 rfl) (Pend.cons rfl (q_nilCheck rfl) (Pend.cons rfl (q_fe gone159 rfl rfl) (Pend.cons rfl (q_fe gone129 rfl rfl) (Pend.cons rfl (q_field gfa161_0 rfl) (Pend.cons rfl (q_nilCheck rfl) (Pend.cons rfl (q_fe gone159 rfl rfl) (Pend.cons rfl (q_fe gone55 rfl rfl) (Pend.nil)))))))))) ?_
 refine VD.one rfl ?_
 obtain ⟨y12_2, ey12_2, hS⟩ := bd_s hS
 refine VL.callO (codec_Dec_Int_ct a_1__dec_b q7_1_1 ey12_2) rfl (by decide) ?_
 rintro ⟨q12_2_0, q12_2_1⟩ rfl
 try dsimp only
 refine VL.back (D' := [(14, ptr a_1__dec_b 0), (13, ptr a_1__b 0), (12, ptr a_1__b 0), (11, ptr a_1__b 0), (0, a_0.val)]) (by kernel_rfl) (Pend.cons rfl (q_fe gone129 rfl rfl) (Pend.cons rfl (q_field gfa161_0 rfl) (Pend.cons rfl (q_nilCheck rfl) (Pend.cons rfl (q_fe gone159 rfl rfl) (Pend.cons rfl (q_fe gone55 rfl rfl) (Pend.nil)))))) ?_
 refine VD.one rfl ?_
 obtain ⟨y17_3, ey17_3, hS⟩ := bd_s hS
 refine VL.callO (codec_Dec_Text_ct a_1__dec_b q12_2_1 ey17_3) rfl (by decide) ?_
 rintro ⟨q17_3_0, q17_3_1⟩ rfl
 try dsimp only
 refine VL.back (D' := [(0, a_0.val)]) (by kernel_rfl) (Pend.cons rfl (q_fe gone55 rfl rfl) (Pend.nil)) ?_
 refine Zw rfl (q_build (vs := [(0, str q7_1_0), (1, i64 q12_2_0), (2, str q17_3_0)]) (cs := #[str q7_1_0, i64 q12_2_0, str q17_3_0]) rfl (by kernel_rfl)) ?_
 refine VD.one rfl ?_
 refine VL.lit (α := TodoStep) (xs := [.tmp 18]) (vs := [.agg #[str q7_1_0, i64 q12_2_0, str q17_3_0]]) [⟨q7_1_0, q12_2_0, q17_3_0⟩] Tryz.underlying55 glit278 (by decide) rfl rfl rfl rfl (by decide) (fun _ _ _ _ => trivial) (by decide) (fun s19_4 hs19_4 => ?_) (by decide)
 replace hS := lt_to hs19_4 hS
 refine VL.back (D' := [(0, a_0.val)]) (by kernel_rfl) (Pend.cons rfl (q_fe gone55 rfl rfl) (Pend.nil)) ?_
 refine VD.one rfl ?_
 obtain ⟨b20, hS⟩ := gd_s hS
 refine VL.app (s := a_0) (r := s19_4) Tryz.underlying55 gapp278 (by decide) rfl Fo.out (ap1 b20) (ap2 b20 (by decide)) (by decide) (fun s20_6 hs20_6 => ?_)
 replace hS := lt_to hs20_6 hS
 refine VL.back (D' := []) (by kernel_rfl) (Pend.nil) ?_
 refine VD.one rfl ?_
 refine Zv (vc := [s20_6.val]) (cs' := [s20_6.val]) rfl gsz55 ?_
 refine VL.back (D' := []) (by kernel_rfl) (Pend.nil) ?_
 cases hS
 exact VD.nil (fin0 (.inl rfl) rfl (s20_6, ⟨q17_3_1.b, q17_3_1.at_, q17_3_1.err⟩) rfl rfl (by (try dsimp only); exact InM.out) (by (try dsimp only); exact EntO.out))
theorem state_reader_many_v4_ct (r_0_b : Nat) (r_0 : StateReader) (r_0_dec_b : Nat) (r_0_dec : CodecDec) (one_1_0_b : Nat) (one_1_0 : Sv TodoStep) (one_1_1_b : Nat) {r : CodecDecP × StateReader × List TodoStep} (hS : Sh.state_reader_many_v4 r_0 r_0_dec.pl one_1_0.l = some r) :
 Ct Tryz.prog 142 [ptr r_0_b 0, .func (.func 245) #[] #[ptr one_1_0_b 0, ptr one_1_1_b 0]] (r_0_dec.b.ok.and r_0_dec.err.ok) (Ow.star (Blk r_0_dec_b [r_0_dec.b.val, i64 r_0_dec.at_, r_0_dec.err.val] 233) (Ow.star (Blk r_0_b [ptr r_0_dec_b 0, .bool r_0.bad] 161) (Ow.star (Sv.own one_1_0 278) (Ow.star (Blk one_1_0_b [one_1_0.val] 55) (Blk one_1_1_b [ptr r_0_b 0] 159))))) (X := CodecDec × StateReader × Sv TodoStep) (fun x => .tuple #[]) (fun x => r = (x.1.pl, x.2.1, x.2.2.l)) (fun x => (x.1.b.ok.and x.1.err.ok)) (fun x => Ow.star (Blk r_0_dec_b [x.1.b.val, i64 x.1.at_, x.1.err.val] 233) (Ow.star (Blk r_0_b [ptr r_0_dec_b 0, .bool x.2.1.bad] 161) (Ow.star (Blk one_1_0_b [x.2.2.val] 55) (Ow.star (Sv.own x.2.2 278) (Blk one_1_1_b [ptr r_0_b 0] 159))))) := by
 refine Zo Tryz.func142 Tryz.ntmps142 fun c => ?_
 unfold Sh.state_reader_many_v4 at hS
 refine Zq (Zr ?_)
 refine Zm ?_
 refine Zu (q_nilCheck rfl) ?_
 refine Zu (q_field gfa161_0 rfl) ?_
 refine Zu (q_fe gone129 rfl rfl) ?_
 obtain ⟨y10_1, ey10_1, hS⟩ := bd_s hS
 refine VL.callO (codec_Dec_Int_ct r_0_dec_b r_0_dec ey10_1) rfl (by decide) ?_
 rintro ⟨q10_1_0, q10_1_1⟩ rfl
 try dsimp only
 refine Zy ?_
 refine VC.cutJ (S := Bool) (fun (c1_2 : Bool) => c1_2) (fun (c1_2 : Bool) => [(0, ptr r_0_b 0), (1, .func (.func 245) #[] #[ptr one_1_0_b 0, ptr one_1_1_b 0]), (4, i64 q10_1_0)]) (fun (c1_2 : Bool) => Mo.tt) (fun (c1_2 : Bool) => Ow.star (Blk r_0_dec_b [q10_1_1.b.val, i64 q10_1_1.at_, q10_1_1.err.val] 233) (Ow.star (Blk r_0_b [ptr r_0_dec_b 0, .bool c1_2] 161) (Ow.star (Blk one_1_0_b [one_1_0.val] 55) (Ow.star (Blk one_1_1_b [ptr r_0_b 0] 159) (Ow.star (Sv.own one_1_0 278) (Ow.emp)))))) hS ?_ ?_
 ·
  clear hS
  intro k3 hS
  refine Zr ?_
  refine Zy ?_
  refine Zu (q_nilCheck rfl) ?_
  refine Zu (q_field gfa161_1 rfl) ?_
  refine Zu (q_fe gone4 rfl rfl) ?_
  refine Zm ?_
  refine Zspb 16 hS (fun h16 hS => ?_) (fun h16 hS => ?_)
  ·
   refine VL.runs 3 [(19, some true)] (by kernel_rfl) ?_
   refine Zu (q_nilCheck rfl) ?_
   refine Zu (q_field gfa161_1 rfl) ?_
   refine Zv (vc := [.bool true]) (cs' := [ptr r_0_dec_b 0, .bool true]) rfl gsz4 ?_
   refine VL.mt true [0, 1, 4] (fun _ _ h => h) hS rfl
  refine Zg ?_
  refine Zh (q_lss rfl rfl) ?_
  refine Zf ?_
  refine Zu (q_nilCheck rfl) ?_
  refine Zu (q_field gfa161_1 rfl) ?_
  refine Zv (vc := [.bool (decide (q10_1_0 < 0))]) (cs' := [ptr r_0_dec_b 0, .bool (decide (q10_1_0 < 0))]) rfl gsz4 ?_
  refine VL.mt (decide (q10_1_0 < 0)) [0, 1, 4] (fun _ _ h => h) hS rfl
 clear hS
 rintro c1_2 hS
 refine Zq (Zr ?_)
 refine Zy ?_
 refine Zb ?_
 refine VC.iter (S := Int × Sv UInt8 × Int × Er × Sv TodoStep) (fun sg => (sg.1, sg.2.1.l, sg.2.2.1, sg.2.2.2.1.pl, sg.2.2.2.2.l)) (fun sg => [(0, ptr r_0_b 0), (1, .func (.func 245) #[] #[ptr one_1_0_b 0, ptr one_1_1_b 0]), (4, i64 q10_1_0), (5, i64 sg.1)]) (fun sg => (sg.2.1.ok.and sg.2.2.2.1.ok)) (fun sg => Ow.star (Blk r_0_dec_b [sg.2.1.val, i64 sg.2.2.1, sg.2.2.2.1.val] 233) (Ow.star (Blk r_0_b [ptr r_0_dec_b 0, .bool c1_2] 161) (Ow.star (Blk one_1_0_b [sg.2.2.2.2.val] 55) (Ow.star (Blk one_1_1_b [ptr r_0_b 0] 159) (Ow.star (Sv.own sg.2.2.2.2 278) (Ow.emp)))))) (0, q10_1_1.b, q10_1_1.at_, q10_1_1.err, one_1_0) [0, 1, 4, 5] hS rfl ?_
 clear hS
 rintro ⟨i5_4, c0_5, c1_6, c2_7, c0_8⟩ m1 y1 hS hK1
 refine Zq (Zq (Zr ?_))
 refine Zy ?_
 refine Zu (q_lss rfl rfl) ?_
 refine Zm ?_
 refine Zsp 25 hS (fun h25 hS => ?_) (fun h25 hS => ?_)
 ·
  refine Zg ?_
  refine Zh (q_nilCheck rfl) ?_
  refine Zh (q_field gfa161_0 rfl) ?_
  refine Zh (q_fe gone129 rfl rfl) ?_
  refine VL.guard rfl rfl ?_
  obtain ⟨y30_9, ey30_9, hS⟩ := bd_s hS
  refine VL.callO (codec_Dec_Err_ct r_0_dec_b (⟨c0_5, c1_6, c2_7⟩ : CodecDec) ey30_9) rfl (by decide) ?_
  rintro q30_9_0 rfl
  try dsimp only
  refine Zh (q_ereq Tryz.underlying26 rfl) ?_
  refine Zy ?_
  refine VC.keep (ρ' := [(0, ptr r_0_b 0), (1, .func (.func 245) #[] #[ptr one_1_0_b 0, ptr one_1_1_b 0]), (4, i64 q10_1_0), (5, i64 i5_4), (32, .bool (decide (q30_9_0.pl.isNil = true)))]) [0, 1, 4, 5, 32] rfl ?_
  refine Zc hS (fun h32 hS => ?_) (fun h32 hS => ?_)
  ·
   refine Zk ?_
   refine Zq (Zb (Zr ?_))
   refine Zm ?_
   obtain ⟨y36_10, ey36_10, hS⟩ := bd_s hS
   refine VL.callOV (vs := []) (caps := [ptr one_1_0_b 0, ptr one_1_1_b 0]) (state_reader_steps_1_ct one_1_0_b c0_8 one_1_1_b r_0_b (⟨c1_2⟩ : StateReader) r_0_dec_b (⟨c0_5, c1_6, c2_7⟩ : CodecDec) ey36_10) rfl rfl (by decide) ?_
   rintro ⟨q36_10_0, q36_10_1⟩ rfl
   try dsimp only
   refine Zl ?_
   refine Zr ?_
   refine Zm ?_
   obtain ⟨b34, hS⟩ := gd_s hS
   refine Zu (q_add rfl rfl b34) ?_
   refine Za ?_
   refine VL.rnd ((i5_4 + 1), q36_10_1.b, q36_10_1.at_, q36_10_1.err, q36_10_0) [0, 1, 4, 5] (fun _ _ h => h) (go2 hS hK1) rfl
  replace hS := up2 hS hK1
  cases hS
  exact VC.exit (fin0 (.inl rfl) rfl (⟨c0_5, c1_6, c2_7⟩, ⟨c1_2⟩, c0_8) rfl rfl (by (try dsimp only); exact InM.out) (by (try dsimp only); exact EntO.out))
 refine VL.runs 7 [(32, some false)] (by kernel_rfl) ?_
 refine Zl ?_
 refine VC.cond_f rfl ?_
 replace hS := up2 hS hK1
 cases hS
 exact VC.exit (fin0 (.inl rfl) rfl (⟨c0_5, c1_6, c2_7⟩, ⟨c1_2⟩, c0_8) rfl rfl (by (try dsimp only); exact InM.out) (by (try dsimp only); exact EntO.out))
theorem slices_Clip_todo_Step_todo_Step_ct (s_0 : Sv TodoStep) {r : List TodoStep} (hS : Sh.slices_Clip_todo_Step_todo_Step s_0.l = some r) :
 Ct Tryz.prog 246 [s_0.val] s_0.ok (Ow.emp) (X := Sv TodoStep) (fun x => x.val) (fun x => r = x.l) (fun x => x.ok) (fun x => Ow.emp) := by
 refine Zo Tryz.func246 Tryz.ntmps246 fun c => ?_
 unfold Sh.slices_Clip_todo_Step_todo_Step at hS
 refine Zq (Zr ?_)
 refine Zy ?_
 refine Zq (Zr ?_)
 refine Zy ?_
 refine Zu (q_ln (s := s_0) Tryz.underlying55 rfl) ?_
 refine Zm ?_
 refine Zu (q_ln (s := s_0) Tryz.underlying55 rfl) ?_
 obtain ⟨b8, hS⟩ := gd_s hS
 refine VL.stom Tryz.underlying55 gsz278 rfl rfl rfl b8.1 (b8.2) (by decide) fun s8_1 hs8_1 => ?_
 replace hS := lt_to hs8_1 hS
 refine Zy ?_
 cases hS
 exact VC.ret (fin1 (.inr rfl) rfl rfl s8_1 rfl rfl (by (try dsimp only); exact InM.out) (fun _ _ => trivial))
theorem state_reader_steps_ct (r_0_b : Nat) (r_0 : StateReader) (r_0_dec_b : Nat) (r_0_dec : CodecDec) {r : List TodoStep × CodecDecP × StateReader} (hS : Sh.state_reader_steps r_0 r_0_dec.pl = some r) :
 Ct Tryz.prog 204 [ptr r_0_b 0] (r_0_dec.b.ok.and r_0_dec.err.ok) (Ow.star (Blk r_0_dec_b [r_0_dec.b.val, i64 r_0_dec.at_, r_0_dec.err.val] 233) (Blk r_0_b [ptr r_0_dec_b 0, .bool r_0.bad] 161)) (X := Sv TodoStep × CodecDec × StateReader) (fun x => x.1.val) (fun x => r = (x.1.l, x.2.1.pl, x.2.2)) (fun x => (x.1.ok.and (x.2.1.b.ok.and x.2.1.err.ok))) (fun x => Ow.star (Blk r_0_dec_b [x.2.1.b.val, i64 x.2.1.at_, x.2.1.err.val] 233) (Blk r_0_b [ptr r_0_dec_b 0, .bool x.2.2.bad] 161)) := by
 refine Zo Tryz.func204 Tryz.ntmps204 fun c => ?_
 unfold Sh.state_reader_steps at hS
 refine Zq (Zr ?_)
 refine VL.box (cs := [ptr r_0_b 0]) rfl rfl (by decide) fun b1_1 => ?_
 refine Zy ?_
 refine Zq (Zr ?_)
 refine VL.alloc (cs := [.slice none 0 0]) (by kernel_rfl) (by decide) fun b3_2 => ?_
 refine Zl ?_
 refine Zq (Zr ?_)
 refine Zu (q_fe gone159 rfl rfl) ?_
 refine Zu (q_mkfn rfl) ?_
 refine VL.nilO (⟨none, 0, []⟩ : Sv TodoStep) 278 ⟨rfl, rfl⟩ ?_
 refine VL.reB b3_2 (cs' := [(⟨none, 0, []⟩ : Sv TodoStep).val]) rfl ?_
 obtain ⟨y6_3, ey6_3, hS⟩ := bd_s hS
 refine VL.callO (state_reader_many_v4_ct r_0_b r_0 r_0_dec_b r_0_dec b3_2 (⟨none, 0, []⟩ : Sv TodoStep) b1_1 ey6_3) rfl (by decide) ?_
 rintro ⟨q6_3_0, q6_3_1, q6_3_2⟩ rfl
 try dsimp only
 refine Zl ?_
 refine Zq (Zr ?_)
 refine Zu (q_fe gone55 rfl rfl) ?_
 refine VL.shut q6_3_2 278 (fun _ _ _ _ => trivial) ?_
 obtain ⟨y8_4, ey8_4, hS⟩ := bd_s hS
 refine VL.callF (slices_Clip_todo_Step_todo_Step_ct q6_3_2 ey8_4) rfl (by decide) ?_
 rintro q8_4_0 rfl
 try dsimp only
 refine Zy ?_
 cases hS
 exact VC.ret (fin1 (.inr rfl) rfl rfl (q8_4_0, ⟨q6_3_0.b, q6_3_0.at_, q6_3_0.err⟩, ⟨q6_3_1.bad⟩) rfl rfl (by (try dsimp only); exact InM.out) (by (try dsimp only); exact EntO.out))
theorem state_reader_seq_ct (r_0_b : Nat) (r_0 : StateReader) (r_0_dec_b : Nat) (r_0_dec : CodecDec) {r : StateSeqP × CodecDecP × StateReader} (hS : Sh.state_reader_seq r_0 r_0_dec.pl = some r) :
 Ct Tryz.prog 145 [ptr r_0_b 0] (r_0_dec.b.ok.and r_0_dec.err.ok) (Ow.star (Blk r_0_dec_b [r_0_dec.b.val, i64 r_0_dec.at_, r_0_dec.err.val] 233) (Blk r_0_b [ptr r_0_dec_b 0, .bool r_0.bad] 161)) (X := StateSeq × CodecDec × StateReader) (fun x => .agg (Dat.enc x.1).toArray) (fun x => r = (x.1.pl, x.2.1.pl, x.2.2)) (fun x => (x.1.m.and (x.2.1.b.ok.and x.2.1.err.ok))) (fun x => Ow.star (Blk r_0_dec_b [x.2.1.b.val, i64 x.2.1.at_, x.2.1.err.val] 233) (Blk r_0_b [ptr r_0_dec_b 0, .bool x.2.2.bad] 161)) := by
 refine Zo Tryz.func145 Tryz.ntmps145 fun c => ?_
 unfold Sh.state_reader_seq at hS
 refine Zq (Zr ?_)
 refine VL.alloc (cs := [str [], i64 0, str [], .slice none 0 0, .slice none 0 0, i64 0, str [], str [], i64 0, .slice none 0 0, .slice none 0 0]) (by kernel_rfl) (by decide) fun b2_1 => ?_
 refine Zl ?_
 refine Zq ?_
 refine VC.draw [(0, true), (1, true), (2, true), (3, true), (5, true), (6, true), (7, true), (8, true), (10, true), (11, true), (12, true), (13, true), (15, true), (17, true), (19, true), (20, true), (21, true), (22, true), (24, true), (25, true), (26, true), (27, true), (29, true), (31, true), (33, true), (4, false), (9, false), (14, false), (16, false), (18, false), (23, false), (28, false), (30, false), (32, false), (34, false), (35, true), (36, false)] mixed (by kernel_rfl) (by kernel_rfl) (by kernel_rfl) ?_
 refine Zw rfl (q_move rfl) ?_
 refine Zw rfl (q_nilCheck rfl) ?_
 refine Zw rfl (q_field gfa161_0 rfl) ?_
 refine Zw rfl (q_fe gone129 rfl rfl) ?_
 refine Zw rfl (q_move rfl) ?_
 refine Zw rfl (q_nilCheck rfl) ?_
 refine Zw rfl (q_field gfa161_0 rfl) ?_
 refine Zw rfl (q_fe gone129 rfl rfl) ?_
 refine Zw rfl (q_move rfl) ?_
 refine Zw rfl (q_nilCheck rfl) ?_
 refine Zw rfl (q_field gfa161_0 rfl) ?_
 refine Zw rfl (q_fe gone129 rfl rfl) ?_
 refine Zw rfl (q_move rfl) ?_
 refine Zw rfl (q_move rfl) ?_
 refine Zw rfl (q_move rfl) ?_
 refine Zw rfl (q_nilCheck rfl) ?_
 refine Zw rfl (q_field gfa161_0 rfl) ?_
 refine Zw rfl (q_fe gone129 rfl rfl) ?_
 refine Zw rfl (q_move rfl) ?_
 refine Zw rfl (q_nilCheck rfl) ?_
 refine Zw rfl (q_field gfa161_0 rfl) ?_
 refine Zw rfl (q_fe gone129 rfl rfl) ?_
 refine Zw rfl (q_move rfl) ?_
 refine Zw rfl (q_move rfl) ?_
 refine Zw rfl (q_move rfl) ?_
 refine VD.one rfl ?_
 obtain ⟨y7_2, ey7_2, hS⟩ := bd_s hS
 refine VL.callO (codec_Dec_Text_ct r_0_dec_b r_0_dec ey7_2) rfl (by decide) ?_
 rintro ⟨q7_2_0, q7_2_1⟩ rfl
 try dsimp only
 refine VL.back (D' := [(27, ptr r_0_dec_b 0), (26, ptr r_0_b 0), (25, ptr r_0_b 0), (22, ptr r_0_dec_b 0), (21, ptr r_0_b 0), (20, ptr r_0_b 0), (13, ptr r_0_dec_b 0), (12, ptr r_0_b 0), (11, ptr r_0_b 0), (8, ptr r_0_dec_b 0), (7, ptr r_0_b 0), (6, ptr r_0_b 0)]) (by kernel_rfl) (Pend.cons rfl (q_fe gone129 rfl rfl) (Pend.cons rfl (q_field gfa161_0 rfl) (Pend.cons rfl (q_nilCheck rfl) (Pend.cons rfl (q_fe gone129 rfl rfl) (Pend.cons rfl (q_field gfa161_0 rfl) (Pend.cons rfl (q_nilCheck rfl) (Pend.cons rfl (q_fe gone129 rfl rfl) (Pend.cons rfl (q_field gfa161_0 rfl) (Pend.cons rfl (q_nilCheck rfl) (Pend.cons rfl (q_fe gone129 rfl rfl) (Pend.cons rfl (q_field gfa161_0 rfl) (Pend.cons rfl (q_nilCheck rfl) (Pend.nil))))))))))))) ?_
 refine VD.one rfl ?_
 obtain ⟨y12_3, ey12_3, hS⟩ := bd_s hS
 refine VL.callO (codec_Dec_Int_ct r_0_dec_b q7_2_1 ey12_3) rfl (by decide) ?_
 rintro ⟨q12_3_0, q12_3_1⟩ rfl
 try dsimp only
 refine VL.back (D' := [(27, ptr r_0_dec_b 0), (26, ptr r_0_b 0), (25, ptr r_0_b 0), (22, ptr r_0_dec_b 0), (21, ptr r_0_b 0), (20, ptr r_0_b 0), (13, ptr r_0_dec_b 0), (12, ptr r_0_b 0), (11, ptr r_0_b 0)]) (by kernel_rfl) (Pend.cons rfl (q_fe gone129 rfl rfl) (Pend.cons rfl (q_field gfa161_0 rfl) (Pend.cons rfl (q_nilCheck rfl) (Pend.cons rfl (q_fe gone129 rfl rfl) (Pend.cons rfl (q_field gfa161_0 rfl) (Pend.cons rfl (q_nilCheck rfl) (Pend.cons rfl (q_fe gone129 rfl rfl) (Pend.cons rfl (q_field gfa161_0 rfl) (Pend.cons rfl (q_nilCheck rfl) (Pend.nil)))))))))) ?_
 refine VD.one rfl ?_
 obtain ⟨y17_4, ey17_4, hS⟩ := bd_s hS
 refine VL.callO (codec_Dec_Text_ct r_0_dec_b q12_3_1 ey17_4) rfl (by decide) ?_
 rintro ⟨q17_4_0, q17_4_1⟩ rfl
 try dsimp only
 refine VL.back (D' := [(27, ptr r_0_dec_b 0), (26, ptr r_0_b 0), (25, ptr r_0_b 0), (22, ptr r_0_dec_b 0), (21, ptr r_0_b 0), (20, ptr r_0_b 0)]) (by kernel_rfl) (Pend.cons rfl (q_fe gone129 rfl rfl) (Pend.cons rfl (q_field gfa161_0 rfl) (Pend.cons rfl (q_nilCheck rfl) (Pend.cons rfl (q_fe gone129 rfl rfl) (Pend.cons rfl (q_field gfa161_0 rfl) (Pend.cons rfl (q_nilCheck rfl) (Pend.nil))))))) ?_
 refine VD.one rfl ?_
 obtain ⟨y19_5, ey19_5, hS⟩ := bd_s hS
 refine VL.callO (state_reader_steps_ct r_0_b r_0 r_0_dec_b q17_4_1 ey19_5) rfl (by decide) ?_
 rintro ⟨q19_5_0, q19_5_1, q19_5_2⟩ rfl
 try dsimp only
 refine VL.back (D' := [(27, ptr r_0_dec_b 0), (26, ptr r_0_b 0), (25, ptr r_0_b 0), (22, ptr r_0_dec_b 0), (21, ptr r_0_b 0), (20, ptr r_0_b 0)]) (by kernel_rfl) (Pend.cons rfl (q_fe gone129 rfl rfl) (Pend.cons rfl (q_field gfa161_0 rfl) (Pend.cons rfl (q_nilCheck rfl) (Pend.cons rfl (q_fe gone129 rfl rfl) (Pend.cons rfl (q_field gfa161_0 rfl) (Pend.cons rfl (q_nilCheck rfl) (Pend.nil))))))) ?_
 refine VD.one rfl ?_
 obtain ⟨y21_6, ey21_6, hS⟩ := bd_s hS
 refine VL.callO (state_reader_steps_ct r_0_b q19_5_2 r_0_dec_b q19_5_1 ey21_6) rfl (by decide) ?_
 rintro ⟨q21_6_0, q21_6_1, q21_6_2⟩ rfl
 try dsimp only
 refine VL.back (D' := [(27, ptr r_0_dec_b 0), (26, ptr r_0_b 0), (25, ptr r_0_b 0), (22, ptr r_0_dec_b 0), (21, ptr r_0_b 0), (20, ptr r_0_b 0)]) (by kernel_rfl) (Pend.cons rfl (q_fe gone129 rfl rfl) (Pend.cons rfl (q_field gfa161_0 rfl) (Pend.cons rfl (q_nilCheck rfl) (Pend.cons rfl (q_fe gone129 rfl rfl) (Pend.cons rfl (q_field gfa161_0 rfl) (Pend.cons rfl (q_nilCheck rfl) (Pend.nil))))))) ?_
 refine VD.one rfl ?_
 obtain ⟨y26_7, ey26_7, hS⟩ := bd_s hS
 refine VL.callO (codec_Dec_Int_ct r_0_dec_b q21_6_1 ey26_7) rfl (by decide) ?_
 rintro ⟨q26_7_0, q26_7_1⟩ rfl
 try dsimp only
 refine VL.back (D' := [(27, ptr r_0_dec_b 0), (26, ptr r_0_b 0), (25, ptr r_0_b 0)]) (by kernel_rfl) (Pend.cons rfl (q_fe gone129 rfl rfl) (Pend.cons rfl (q_field gfa161_0 rfl) (Pend.cons rfl (q_nilCheck rfl) (Pend.nil)))) ?_
 refine VD.one rfl ?_
 obtain ⟨y31_8, ey31_8, hS⟩ := bd_s hS
 refine VL.callO (codec_Dec_Text_ct r_0_dec_b q26_7_1 ey31_8) rfl (by decide) ?_
 rintro ⟨q31_8_0, q31_8_1⟩ rfl
 try dsimp only
 refine VL.back (D' := []) (by kernel_rfl) (Pend.nil) ?_
 refine VD.one rfl ?_
 obtain ⟨y33_9, ey33_9, hS⟩ := bd_s hS
 refine VL.callO (state_reader_head_ct r_0_b q21_6_2 r_0_dec_b q31_8_1 ey33_9) rfl (by decide) ?_
 rintro ⟨q33_9_0, q33_9_1⟩ rfl
 try dsimp only
 refine VL.back (D' := []) (by kernel_rfl) (Pend.nil) ?_
 refine VD.one rfl ?_
 obtain ⟨y35_10, ey35_10, hS⟩ := bd_s hS
 refine VL.callO (state_reader_entries_ct r_0_b q21_6_2 r_0_dec_b q33_9_1 ey35_10) rfl (by decide) ?_
 rintro ⟨q35_10_0, q35_10_1, q35_10_2⟩ rfl
 try dsimp only
 refine VL.back (D' := []) (by kernel_rfl) (Pend.nil) ?_
 refine VD.one rfl ?_
 obtain ⟨y37_11, ey37_11, hS⟩ := bd_s hS
 refine VL.callO (state_reader_row_ct r_0_b q35_10_2 r_0_dec_b q35_10_1 ey37_11) rfl (by decide) ?_
 rintro ⟨q37_11_0, q37_11_1, q37_11_2⟩ rfl
 try dsimp only
 refine VL.back (D' := []) (by kernel_rfl) (Pend.nil) ?_
 refine Zw rfl (q_build (vs := [(0, str q7_2_0), (1, i64 q12_3_0), (2, str q17_4_0), (3, q19_5_0.val), (4, q21_6_0.val), (5, i64 q26_7_0), (6, str q31_8_0), (7, .agg #[str q33_9_0.branch, i64 q33_9_0.commit]), (8, q35_10_0.val), (9, q37_11_0.val)]) (cs := #[str q7_2_0, i64 q12_3_0, str q17_4_0, q19_5_0.val, q21_6_0.val, i64 q26_7_0, str q31_8_0, str q33_9_0.branch, i64 q33_9_0.commit, q35_10_0.val, q37_11_0.val]) rfl (by kernel_rfl)) ?_
 refine VD.one rfl ?_
 refine Zv (vc := [str q7_2_0, i64 q12_3_0, str q17_4_0, q19_5_0.val, q21_6_0.val, i64 q26_7_0, str q31_8_0, str q33_9_0.branch, i64 q33_9_0.commit, q35_10_0.val, q37_11_0.val]) (cs' := [str q7_2_0, i64 q12_3_0, str q17_4_0, q19_5_0.val, q21_6_0.val, i64 q26_7_0, str q31_8_0, str q33_9_0.branch, i64 q33_9_0.commit, q35_10_0.val, q37_11_0.val]) rfl gsz57 ?_
 refine VL.back (D' := []) (by kernel_rfl) (Pend.nil) ?_
 refine VD.to (fun _ _ h => h) ?_
 refine VC.keep (ρ' := [(2, ptr b2_1 0)]) [2] rfl ?_
 cases hS
 exact VC.ret (finG (vs := [.agg #[str q7_2_0, i64 q12_3_0, str q17_4_0, q19_5_0.val, q21_6_0.val, i64 q26_7_0, str q31_8_0, str q33_9_0.branch, i64 q33_9_0.commit, q35_10_0.val, q37_11_0.val]]) (.inr rfl) rfl (RVs.cell gagg57 rfl rfl Rd.blk (RVs.nil)) (⟨q7_2_0, q12_3_0, q17_4_0, q19_5_0, q21_6_0, q26_7_0, q31_8_0, q33_9_0.branch, q33_9_0.commit, q35_10_0, q37_11_0⟩, ⟨q37_11_1.b, q37_11_1.at_, q37_11_1.err⟩, ⟨q37_11_2.bad⟩) rfl rfl (by (try dsimp only); exact InM.out) (by (try dsimp only); exact EntO.out))
theorem state_reader_now_2_ct (a_0_b : Nat) (a_0 : StateNow) (a_1_b : Nat) (a_1__b : Nat) (a_1_ : StateReader) (a_1__dec_b : Nat) (a_1__dec : CodecDec) {r : StateNowP × CodecDecP × StateReader} (hS : Sh.state_reader_now_2 a_0.pl a_1_ a_1__dec.pl = some r) :
 Ct Tryz.prog 146 [ptr a_0_b 0, ptr a_1_b 0] (a_0.work.ok.and (a_0.index.ok.and (a_0.seq_doing.ok.and (a_0.seq_todo.ok.and (a_0.seq_index.ok.and (a_0.seq_work.ok.and ((MAl a_0.stash.l).and (a_1__dec.b.ok.and a_1__dec.err.ok)))))))) (Ow.star (Sv.own a_0.refs 216) (Ow.star (Sv.own a_0.stash 155) (Ow.star (Blk a_0_b [a_0.work.val, a_0.index.val, a_0.refs.val, str a_0.head_branch, i64 a_0.head_commit, str a_0.seq_kind, i64 a_0.seq_other, str a_0.seq_text, a_0.seq_doing.val, a_0.seq_todo.val, i64 a_0.seq_made, str a_0.seq_branch, str a_0.seq_head_branch, i64 a_0.seq_head_commit, a_0.seq_index.val, a_0.seq_work.val, a_0.stash.val] 61) (Ow.star (Blk a_1__dec_b [a_1__dec.b.val, i64 a_1__dec.at_, a_1__dec.err.val] 233) (Ow.star (Blk a_1__b [ptr a_1__dec_b 0, .bool a_1_.bad] 161) (Blk a_1_b [ptr a_1__b 0] 159)))))) (X := StateNow × CodecDec × StateReader) (fun x => .tuple #[]) (fun x => r = (x.1.pl, x.2.1.pl, x.2.2)) (fun x => (x.1.work.ok.and (x.1.index.ok.and (x.1.seq_doing.ok.and (x.1.seq_todo.ok.and (x.1.seq_index.ok.and (x.1.seq_work.ok.and ((MAl x.1.stash.l).and (x.2.1.b.ok.and x.2.1.err.ok))))))))) (fun x => Ow.star (Blk a_0_b [x.1.work.val, x.1.index.val, x.1.refs.val, str x.1.head_branch, i64 x.1.head_commit, str x.1.seq_kind, i64 x.1.seq_other, str x.1.seq_text, x.1.seq_doing.val, x.1.seq_todo.val, i64 x.1.seq_made, str x.1.seq_branch, str x.1.seq_head_branch, i64 x.1.seq_head_commit, x.1.seq_index.val, x.1.seq_work.val, x.1.stash.val] 61) (Ow.star (Sv.own x.1.refs 216) (Ow.star (Sv.own x.1.stash 155) (Ow.star (Blk a_1__dec_b [x.2.1.b.val, i64 x.2.1.at_, x.2.1.err.val] 233) (Ow.star (Blk a_1__b [ptr a_1__dec_b 0, .bool x.2.2.bad] 161) (Blk a_1_b [ptr a_1__b 0] 159)))))) := by
 refine Zo Tryz.func146 Tryz.ntmps146 fun c => ?_
 unfold Sh.state_reader_now_2 at hS
 refine VC.draw [(0, true), (1, true), (2, true), (3, true), (4, true), (5, true), (7, true), (9, true), (11, true), (12, true), (13, true), (14, true), (6, false), (8, false), (10, false), (15, false), (16, true), (17, false), (18, false), (19, true), (20, false)] mixed (by kernel_rfl) (by kernel_rfl) (by kernel_rfl) ?_
 refine Zw rfl (q_field gfa61_5 rfl) ?_
 refine Zw rfl (q_fe gone59 rfl rfl) ?_
 refine Zw rfl (q_fe gone159 rfl rfl) ?_
 refine Zw rfl (q_nilCheck rfl) ?_
 refine Zw rfl (q_field gfa161_0 rfl) ?_
 refine Zw rfl (q_fe gone129 rfl rfl) ?_
 refine Zw rfl (q_fe gone159 rfl rfl) ?_
 refine Zw rfl (q_fe gone159 rfl rfl) ?_
 refine Zw rfl (q_fe gone159 rfl rfl) ?_
 refine Zw rfl (q_nilCheck rfl) ?_
 refine Zw rfl (q_field gfa161_0 rfl) ?_
 refine Zw rfl (q_fe gone129 rfl rfl) ?_
 refine VD.one rfl ?_
 obtain ⟨y8_1, ey8_1, hS⟩ := bd_s hS
 refine VL.callO (codec_Dec_Int_ct a_1__dec_b a_1__dec ey8_1) rfl (by decide) ?_
 rintro ⟨q8_1_0, q8_1_1⟩ rfl
 try dsimp only
 refine VL.back (D' := [(14, ptr a_1__dec_b 0), (13, ptr a_1__b 0), (12, ptr a_1__b 0), (11, ptr a_1__b 0), (9, ptr a_1__b 0), (7, ptr a_1__b 0), (1, a_0.stash.val), (0, ptr a_0_b 16)]) (by kernel_rfl) (Pend.cons rfl (q_fe gone129 rfl rfl) (Pend.cons rfl (q_field gfa161_0 rfl) (Pend.cons rfl (q_nilCheck rfl) (Pend.cons rfl (q_fe gone159 rfl rfl) (Pend.cons rfl (q_fe gone159 rfl rfl) (Pend.cons rfl (q_fe gone159 rfl rfl) (Pend.cons rfl (q_fe gone59 rfl rfl) (Pend.cons rfl (q_field gfa61_5 rfl) (Pend.nil))))))))) ?_
 refine VD.one rfl ?_
 obtain ⟨y10_2, ey10_2, hS⟩ := bd_s hS
 refine VL.callO (state_reader_row_ct a_1__b a_1_ a_1__dec_b q8_1_1 ey10_2) rfl (by decide) ?_
 rintro ⟨q10_2_0, q10_2_1, q10_2_2⟩ rfl
 try dsimp only
 refine VL.back (D' := [(14, ptr a_1__dec_b 0), (13, ptr a_1__b 0), (12, ptr a_1__b 0), (11, ptr a_1__b 0), (9, ptr a_1__b 0), (1, a_0.stash.val), (0, ptr a_0_b 16)]) (by kernel_rfl) (Pend.cons rfl (q_fe gone129 rfl rfl) (Pend.cons rfl (q_field gfa161_0 rfl) (Pend.cons rfl (q_nilCheck rfl) (Pend.cons rfl (q_fe gone159 rfl rfl) (Pend.cons rfl (q_fe gone159 rfl rfl) (Pend.cons rfl (q_fe gone59 rfl rfl) (Pend.cons rfl (q_field gfa61_5 rfl) (Pend.nil)))))))) ?_
 refine VD.one rfl ?_
 obtain ⟨y12_3, ey12_3, hS⟩ := bd_s hS
 refine VL.callO (state_reader_row_ct a_1__b q10_2_2 a_1__dec_b q10_2_1 ey12_3) rfl (by decide) ?_
 rintro ⟨q12_3_0, q12_3_1, q12_3_2⟩ rfl
 try dsimp only
 refine VL.back (D' := [(14, ptr a_1__dec_b 0), (13, ptr a_1__b 0), (12, ptr a_1__b 0), (11, ptr a_1__b 0), (1, a_0.stash.val), (0, ptr a_0_b 16)]) (by kernel_rfl) (Pend.cons rfl (q_fe gone129 rfl rfl) (Pend.cons rfl (q_field gfa161_0 rfl) (Pend.cons rfl (q_nilCheck rfl) (Pend.cons rfl (q_fe gone159 rfl rfl) (Pend.cons rfl (q_fe gone59 rfl rfl) (Pend.cons rfl (q_field gfa61_5 rfl) (Pend.nil))))))) ?_
 refine VD.one rfl ?_
 obtain ⟨y17_4, ey17_4, hS⟩ := bd_s hS
 refine VL.callO (codec_Dec_Text_ct a_1__dec_b q12_3_1 ey17_4) rfl (by decide) ?_
 rintro ⟨q17_4_0, q17_4_1⟩ rfl
 try dsimp only
 refine VL.back (D' := [(1, a_0.stash.val), (0, ptr a_0_b 16)]) (by kernel_rfl) (Pend.cons rfl (q_fe gone59 rfl rfl) (Pend.cons rfl (q_field gfa61_5 rfl) (Pend.nil))) ?_
 refine Zw rfl (q_build (vs := [(0, i64 q8_1_0), (1, q10_2_0.val), (2, q12_3_0.val), (3, str q17_4_0)]) (cs := #[i64 q8_1_0, q10_2_0.val, q12_3_0.val, str q17_4_0]) rfl (by kernel_rfl)) ?_
 refine VD.one rfl ?_
 refine VL.lit (α := ShelfShelf) (xs := [.tmp 18]) (vs := [.agg #[i64 q8_1_0, q10_2_0.val, q12_3_0.val, str q17_4_0]]) [⟨q8_1_0, q10_2_0, q12_3_0, q17_4_0⟩] Tryz.underlying59 glit155 (by decide) rfl rfl rfl rfl (by decide) (fun h m => List.forall_mem_cons.2 ⟨InM.out (X := (q10_2_0.ok.and q12_3_0.ok)) h m, fun _ h => by cases h⟩) (by decide) (fun s19_5 hs19_5 => ?_) (by decide)
 replace hS := lt_to (congrArg (List.map ShelfShelf.pl) hs19_5) hS
 refine VL.back (D' := [(1, a_0.stash.val), (0, ptr a_0_b 16)]) (by kernel_rfl) (Pend.cons rfl (q_fe gone59 rfl rfl) (Pend.cons rfl (q_field gfa61_5 rfl) (Pend.nil))) ?_
 refine VD.one rfl ?_
 obtain ⟨b20, hS⟩ := gd_s hS
 refine VL.app (s := a_0.stash) (r := s19_5) Tryz.underlying59 gapp155 (by decide) rfl Fo.out (ap1 (apm b20)) (ap2 (apm b20) (by decide)) (by decide) (fun s20_7 hs20_7 => ?_)
 replace hS := lt_to ((congrArg (List.map ShelfShelf.pl) hs20_7).trans List.map_append) hS
 refine VL.maApp hs20_7 ?_
 refine VL.back (D' := []) (by kernel_rfl) (Pend.nil) ?_
 refine Zw rfl (q_field gfa61_5 rfl) ?_
 refine VD.one rfl ?_
 refine Zv (vc := [s20_7.val]) (cs' := [a_0.work.val, a_0.index.val, a_0.refs.val, str a_0.head_branch, i64 a_0.head_commit, str a_0.seq_kind, i64 a_0.seq_other, str a_0.seq_text, a_0.seq_doing.val, a_0.seq_todo.val, i64 a_0.seq_made, str a_0.seq_branch, str a_0.seq_head_branch, i64 a_0.seq_head_commit, a_0.seq_index.val, a_0.seq_work.val, s20_7.val]) rfl gsz59 ?_
 refine VL.back (D' := []) (by kernel_rfl) (Pend.nil) ?_
 cases hS
 exact VD.nil (fin0 (.inl rfl) rfl (⟨a_0.work, a_0.index, a_0.refs, a_0.head_branch, a_0.head_commit, a_0.seq_kind, a_0.seq_other, a_0.seq_text, a_0.seq_doing, a_0.seq_todo, a_0.seq_made, a_0.seq_branch, a_0.seq_head_branch, a_0.seq_head_commit, a_0.seq_index, a_0.seq_work, s20_7⟩, ⟨q17_4_1.b, q17_4_1.at_, q17_4_1.err⟩, ⟨q12_3_2.bad⟩) rfl rfl (by (try dsimp only); exact InM.out) (by (try dsimp only); exact EntO.out))
end Go.Proofs.YthbccdlpalenlaaGreatDoor
end
