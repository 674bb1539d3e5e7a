/- Part of the proofs of: Any three trees merged: each path, what clashes, with its stages; or why not, as the document says. -/
import Derived.Test.YtleokmhhloamaaaGreatDoorRows
import Derived.Test.YtleokmhhloamaaaGreatDoorMC
set_option linter.unusedVariables false
set_option linter.unusedSimpArgs false
set_option linter.unusedSectionVars false
section
set_option linter.unusedVariables false
namespace Go.Proofs.YtleokmhhloamaaaGreatDoor
set_option maxHeartbeats 4000000
set_option maxRecDepth 100000
open Go.RowKit Go.V
open Go.S hiding Str
theorem gszb : (Tryz.prog.info? 259).map (·.size) = some 2 := by kernel_rfl
theorem gappb : ((Tryz.prog.info? 5).map fun i => (i.size, i.bytes, i.zero)) = some (1, 1, some (.int .u8 0)) := by kernel_rfl
theorem gfa259_0 : FieldAt Tryz.prog 259 0 0 := fieldAt_sz (n := 0) (f := ⟨_, _, 0, _, _, _, _⟩) Tryz.underlying259 rfl (by kernel_rfl)
theorem gfa259_1 : FieldAt Tryz.prog 259 1 1 := fieldAt_sz (n := 0) (f := ⟨_, _, 1, _, _, _, _⟩) Tryz.underlying259 rfl (by kernel_rfl)
theorem gone257 : OneCell Tryz.prog 257 := oneCell_of Tryz.underlying257 rfl
theorem gone27 : OneCell Tryz.prog 27 := oneCell_of Tryz.underlying27 rfl
theorem gsz257 : (Tryz.prog.info? 257).map (·.size) = some 1 := by kernel_rfl
theorem gsz27 : (Tryz.prog.info? 27).map (·.size) = some 1 := by kernel_rfl
theorem gfa117_2 : FieldAt Tryz.prog 117 2 2 := fieldAt_sz (n := 0) (f := ⟨_, _, 2, _, _, _, _⟩) Tryz.underlying117 rfl (by kernel_rfl)
theorem gone29 : OneCell Tryz.prog 29 := oneCell_of Tryz.underlying29 rfl
theorem glit42 : ((Tryz.prog.info? 42).map fun i => (i.size, i.zero.isSome)) = some (3, true) := by kernel_rfl
theorem glit38 : ((Tryz.prog.info? 38).map fun i => (i.size, i.zero.isSome)) = some (1, true) := by kernel_rfl
theorem gsz38 : (Tryz.prog.info? 38).map (·.size) = some 1 := by kernel_rfl
theorem gone38 : OneCell Tryz.prog 38 := oneCell_of Tryz.underlying38 rfl
theorem gsz42 : (Tryz.prog.info? 42).map (·.size) = some 3 := by kernel_rfl
theorem gagg42 : AggOf Tryz.prog 42 3 := aggOf_of Tryz.underlying42 rfl (by kernel_rfl)
theorem gfa42_0 : FieldAt Tryz.prog 42 0 0 := fieldAt_sz (n := 0) (f := ⟨_, _, 0, _, _, _, _⟩) Tryz.underlying42 rfl (by kernel_rfl)
theorem gone9 : OneCell Tryz.prog 9 := oneCell_of Tryz.underlying9 rfl
theorem gmk9 : ((Tryz.prog.info? 9).map fun i => (i.size, i.bytes, i.zero.map fun z => z.cells.toList)) = some (1, 16, some [str []]) := by kernel_rfl
theorem gsz9 : (Tryz.prog.info? 9).map (·.size) = some 1 := by kernel_rfl
theorem gsz5 : (Tryz.prog.info? 5).map (·.size) = some 1 := by kernel_rfl
theorem gone5 : OneCell Tryz.prog 5 := oneCell_of Tryz.underlying5 rfl
theorem gfa42_1 : FieldAt Tryz.prog 42 1 1 := fieldAt_sz (n := 0) (f := ⟨_, _, 1, _, _, _, _⟩) Tryz.underlying42 rfl (by kernel_rfl)
theorem gone3 : OneCell Tryz.prog 3 := oneCell_of Tryz.underlying3 rfl
theorem gfa42_2 : FieldAt Tryz.prog 42 2 2 := fieldAt_sz (n := 0) (f := ⟨_, _, 2, _, _, _, _⟩) Tryz.underlying42 rfl (by kernel_rfl)
theorem gsz86 : (Tryz.prog.info? 86).map (·.size) = some 3 := by kernel_rfl
theorem gsz121 : (Tryz.prog.info? 121).map (·.size) = some 4 := by kernel_rfl
theorem gagg121 : AggOf Tryz.prog 121 4 := aggOf_of Tryz.underlying121 rfl (by kernel_rfl)
theorem geqs121 : ∀ (x0 : List UInt8) (x1 : Int) (x2 : List UInt8) (x3 : Bool) (y0 : List UInt8) (y1 : Int) (y2 : List UInt8) (y3 : Bool) (w : World), (Op.equalIn 10000 121 (.agg #[str x0, i64 x1, str x2, .bool x3]) (.agg #[str y0, i64 y1, str y2, .bool y3])).run Tryz.prog w = .ok (decide (x0 = y0 ∧ x1 = y1 ∧ x2 = y2 ∧ x3 = y3)) w := by
 intro x0 x1 x2 x3 y0 y1 y2 y3 w
 have hS : Tryz.prog.underlying 121 = some (.struct (Tryz.prog.fieldsOf 121)) := by kernel_rfl
 rw [show (10000 : Nat) = 9999 + 1 from rfl, run_equalIn_agg w 9999 121 _ _ hS (by kernel_rfl)]
 simp only [Program.fieldsOf, Tryz.underlying121]
 go_simp
 by_cases h0 : x0 = y0 <;> by_cases h1 : x1 = y1 <;> by_cases h2 : x2 = y2 <;> by_cases h3 : x3 = y3 <;> simp [h0, h1, h2, h3]
theorem geqg121 : Tryz.prog.eqGuardType Tryz.prog.depth 121 = false := by kernel_rfl
theorem gfa121_0 : FieldAt Tryz.prog 121 0 0 := fieldAt_sz (n := 2) (f := ⟨_, _, 0, _, _, _, _⟩) Tryz.underlying121 rfl (by kernel_rfl)
theorem gfa121_1 : FieldAt Tryz.prog 121 1 3 := fieldAt_sz (n := 0) (f := ⟨_, _, 3, _, _, _, _⟩) Tryz.underlying121 rfl (by kernel_rfl)
theorem gone4 : OneCell Tryz.prog 4 := oneCell_of Tryz.underlying4 rfl
theorem glit9 : ((Tryz.prog.info? 9).map fun i => (i.size, i.zero.isSome)) = some (1, true) := by kernel_rfl
theorem gapp9 : ((Tryz.prog.info? 9).map fun i => (i.size, i.bytes, (i.zero.map fun z => z.cells.size))) = some (1, 16, some 1) := by kernel_rfl
theorem gmk3 : ((Tryz.prog.info? 3).map fun i => (i.size, i.bytes, i.zero.map fun z => z.cells.toList)) = some (1, 8, some [i64 0]) := by kernel_rfl
theorem gsz366 : (Tryz.prog.info? 366).map (·.size) = some 2 := by kernel_rfl
theorem gagg366 : AggOf Tryz.prog 366 2 := aggOf_of Tryz.underlying366 rfl (by kernel_rfl)
theorem gfa366_0 : FieldAt Tryz.prog 366 0 0 := fieldAt_sz (n := 0) (f := ⟨_, _, 0, _, _, _, _⟩) Tryz.underlying366 rfl (by kernel_rfl)
theorem glit342 : ((Tryz.prog.info? 342).map fun i => (i.size, i.zero.isSome)) = some (3, true) := by kernel_rfl
theorem gapp342 : ((Tryz.prog.info? 342).map fun i => (i.size, i.bytes, (i.zero.map fun z => z.cells.size))) = some (3, 24, some 3) := by kernel_rfl
theorem gsz342 : (Tryz.prog.info? 342).map (·.size) = some 3 := by kernel_rfl
theorem gfa342_2 : FieldAt Tryz.prog 342 2 2 := fieldAt_sz (n := 0) (f := ⟨_, _, 2, _, _, _, _⟩) Tryz.underlying342 rfl (by kernel_rfl)
theorem gsz3 : (Tryz.prog.info? 3).map (·.size) = some 1 := by kernel_rfl
theorem glit3 : ((Tryz.prog.info? 3).map fun i => (i.size, i.zero.isSome)) = some (1, true) := by kernel_rfl
theorem gagg342 : AggOf Tryz.prog 342 3 := aggOf_of Tryz.underlying342 rfl (by kernel_rfl)
theorem gfa342_0 : FieldAt Tryz.prog 342 0 0 := fieldAt_sz (n := 0) (f := ⟨_, _, 0, _, _, _, _⟩) Tryz.underlying342 rfl (by kernel_rfl)
theorem gfa342_1 : FieldAt Tryz.prog 342 1 1 := fieldAt_sz (n := 0) (f := ⟨_, _, 1, _, _, _, _⟩) Tryz.underlying342 rfl (by kernel_rfl)
theorem gsz261 : (Tryz.prog.info? 261).map (·.size) = some 5 := by kernel_rfl
theorem gagg261 : AggOf Tryz.prog 261 5 := aggOf_of Tryz.underlying261 rfl (by kernel_rfl)
theorem gfa261_3 : FieldAt Tryz.prog 261 3 3 := fieldAt_sz (n := 0) (f := ⟨_, _, 3, _, _, _, _⟩) Tryz.underlying261 rfl (by kernel_rfl)
theorem gfa261_1 : FieldAt Tryz.prog 261 1 1 := fieldAt_sz (n := 0) (f := ⟨_, _, 1, _, _, _, _⟩) Tryz.underlying261 rfl (by kernel_rfl)
theorem gone82 : OneCell Tryz.prog 82 := oneCell_of Tryz.underlying82 rfl
theorem gfa261_2 : FieldAt Tryz.prog 261 2 2 := fieldAt_sz (n := 0) (f := ⟨_, _, 2, _, _, _, _⟩) Tryz.underlying261 rfl (by kernel_rfl)
theorem gfa261_4 : FieldAt Tryz.prog 261 4 4 := fieldAt_sz (n := 0) (f := ⟨_, _, 4, _, _, _, _⟩) Tryz.underlying261 rfl (by kernel_rfl)
theorem gfa86_0 : FieldAt Tryz.prog 86 0 0 := fieldAt_sz (n := 0) (f := ⟨_, _, 0, _, _, _, _⟩) Tryz.underlying86 rfl (by kernel_rfl)
theorem gapp42 : ((Tryz.prog.info? 42).map fun i => (i.size, i.bytes, (i.zero.map fun z => z.cells.size))) = some (3, 40, some 3) := by kernel_rfl
theorem gfa86_2 : FieldAt Tryz.prog 86 2 2 := fieldAt_sz (n := 0) (f := ⟨_, _, 2, _, _, _, _⟩) Tryz.underlying86 rfl (by kernel_rfl)
theorem gsz82 : (Tryz.prog.info? 82).map (·.size) = some 1 := by kernel_rfl
theorem gfa86_1 : FieldAt Tryz.prog 86 1 1 := fieldAt_sz (n := 0) (f := ⟨_, _, 1, _, _, _, _⟩) Tryz.underlying86 rfl (by kernel_rfl)
theorem gone66 : OneCell Tryz.prog 66 := oneCell_of Tryz.underlying66 rfl
theorem glit149 : ((Tryz.prog.info? 149).map fun i => (i.size, i.zero.isSome)) = some (6, true) := by kernel_rfl
theorem gapp149 : ((Tryz.prog.info? 149).map fun i => (i.size, i.bytes, (i.zero.map fun z => z.cells.size))) = some (6, 64, some 6) := by kernel_rfl
theorem gsz66 : (Tryz.prog.info? 66).map (·.size) = some 1 := by kernel_rfl
theorem gsz149 : (Tryz.prog.info? 149).map (·.size) = some 6 := by kernel_rfl
theorem gagg86 : AggOf Tryz.prog 86 3 := aggOf_of Tryz.underlying86 rfl (by kernel_rfl)
theorem glit45 : ((Tryz.prog.info? 45).map fun i => (i.size, i.zero.isSome)) = some (3, true) := by kernel_rfl
theorem gapp45 : ((Tryz.prog.info? 45).map fun i => (i.size, i.bytes, (i.zero.map fun z => z.cells.size))) = some (3, 40, some 3) := by kernel_rfl
theorem gsz45 : (Tryz.prog.info? 45).map (·.size) = some 3 := by kernel_rfl
theorem gfa45_0 : FieldAt Tryz.prog 45 0 0 := fieldAt_sz (n := 0) (f := ⟨_, _, 0, _, _, _, _⟩) Tryz.underlying45 rfl (by kernel_rfl)
theorem gagg45 : AggOf Tryz.prog 45 3 := aggOf_of Tryz.underlying45 rfl (by kernel_rfl)
theorem geqs45 : ∀ (x0 : List UInt8) (x1 : Int) (x2 : List UInt8) (y0 : List UInt8) (y1 : Int) (y2 : List UInt8) (w : World), (Op.equalIn 10000 45 (.agg #[str x0, i64 x1, str x2]) (.agg #[str y0, i64 y1, str y2])).run Tryz.prog w = .ok (decide (x0 = y0 ∧ x1 = y1 ∧ x2 = y2)) w := by
 intro x0 x1 x2 y0 y1 y2 w
 have hS : Tryz.prog.underlying 45 = some (.struct (Tryz.prog.fieldsOf 45)) := by kernel_rfl
 rw [show (10000 : Nat) = 9999 + 1 from rfl, run_equalIn_agg w 9999 45 _ _ hS (by kernel_rfl)]
 simp only [Program.fieldsOf, Tryz.underlying45]
 go_simp
 by_cases h0 : x0 = y0 <;> by_cases h1 : x1 = y1 <;> by_cases h2 : x2 = y2 <;> simp [h0, h1, h2]
theorem geqg45 : Tryz.prog.eqGuardType Tryz.prog.depth 45 = false := by kernel_rfl
theorem gfa45_1 : FieldAt Tryz.prog 45 1 1 := fieldAt_sz (n := 0) (f := ⟨_, _, 1, _, _, _, _⟩) Tryz.underlying45 rfl (by kernel_rfl)
theorem gfa45_2 : FieldAt Tryz.prog 45 2 2 := fieldAt_sz (n := 0) (f := ⟨_, _, 2, _, _, _, _⟩) Tryz.underlying45 rfl (by kernel_rfl)
theorem glit137 : ((Tryz.prog.info? 137).map fun i => (i.size, i.zero.isSome)) = some (2, true) := by kernel_rfl
theorem gsz54 : (Tryz.prog.info? 54).map (·.size) = some 2 := by kernel_rfl
theorem gagg54 : AggOf Tryz.prog 54 2 := aggOf_of Tryz.underlying54 rfl (by kernel_rfl)
theorem gfa54_1 : FieldAt Tryz.prog 54 1 1 := fieldAt_sz (n := 0) (f := ⟨_, _, 1, _, _, _, _⟩) Tryz.underlying54 rfl (by kernel_rfl)
theorem glit350 : ((Tryz.prog.info? 350).map fun i => (i.size, i.zero.isSome)) = some (2, true) := by kernel_rfl
theorem gapp350 : ((Tryz.prog.info? 350).map fun i => (i.size, i.bytes, (i.zero.map fun z => z.cells.size))) = some (2, 24, some 2) := by kernel_rfl
theorem gsz26 : (Tryz.prog.info? 26).map (·.size) = some 1 := by kernel_rfl
theorem gone26 : OneCell Tryz.prog 26 := oneCell_of Tryz.underlying26 rfl
theorem gsz350 : (Tryz.prog.info? 350).map (·.size) = some 2 := by kernel_rfl
theorem gfa350_0 : FieldAt Tryz.prog 350 0 0 := fieldAt_sz (n := 0) (f := ⟨_, _, 0, _, _, _, _⟩) Tryz.underlying350 rfl (by kernel_rfl)
theorem gsz268 : (Tryz.prog.info? 268).map (·.size) = some 5 := by kernel_rfl
theorem gfa268_4 : FieldAt Tryz.prog 268 4 4 := fieldAt_sz (n := 0) (f := ⟨_, _, 4, _, _, _, _⟩) Tryz.underlying268 rfl (by kernel_rfl)
theorem gagg268 : AggOf Tryz.prog 268 5 := aggOf_of Tryz.underlying268 rfl (by kernel_rfl)
theorem gfa268_3 : FieldAt Tryz.prog 268 3 3 := fieldAt_sz (n := 0) (f := ⟨_, _, 3, _, _, _, _⟩) Tryz.underlying268 rfl (by kernel_rfl)
theorem gsz4 : (Tryz.prog.info? 4).map (·.size) = some 1 := by kernel_rfl
theorem glit268 : ((Tryz.prog.info? 268).map fun i => (i.size, i.zero.isSome)) = some (5, true) := by kernel_rfl
theorem gapp268 : ((Tryz.prog.info? 268).map fun i => (i.size, i.bytes, (i.zero.map fun z => z.cells.size))) = some (5, 104, some 5) := by kernel_rfl
theorem gfa268_1 : FieldAt Tryz.prog 268 1 1 := fieldAt_sz (n := 0) (f := ⟨_, _, 1, _, _, _, _⟩) Tryz.underlying268 rfl (by kernel_rfl)
theorem gfa268_2 : FieldAt Tryz.prog 268 2 2 := fieldAt_sz (n := 0) (f := ⟨_, _, 2, _, _, _, _⟩) Tryz.underlying268 rfl (by kernel_rfl)
theorem glit48 : ((Tryz.prog.info? 48).map fun i => (i.size, i.zero.isSome)) = some (1, true) := by kernel_rfl
theorem gsz48 : (Tryz.prog.info? 48).map (·.size) = some 1 := by kernel_rfl
theorem gone48 : OneCell Tryz.prog 48 := oneCell_of Tryz.underlying48 rfl
theorem gsz90 : (Tryz.prog.info? 90).map (·.size) = some 3 := by kernel_rfl
theorem gfa90_0 : FieldAt Tryz.prog 90 0 0 := fieldAt_sz (n := 0) (f := ⟨_, _, 0, _, _, _, _⟩) Tryz.underlying90 rfl (by kernel_rfl)
theorem gfa90_2 : FieldAt Tryz.prog 90 2 2 := fieldAt_sz (n := 0) (f := ⟨_, _, 2, _, _, _, _⟩) Tryz.underlying90 rfl (by kernel_rfl)
theorem gfa90_1 : FieldAt Tryz.prog 90 1 1 := fieldAt_sz (n := 0) (f := ⟨_, _, 1, _, _, _, _⟩) Tryz.underlying90 rfl (by kernel_rfl)
theorem gone68 : OneCell Tryz.prog 68 := oneCell_of Tryz.underlying68 rfl
theorem glit152 : ((Tryz.prog.info? 152).map fun i => (i.size, i.zero.isSome)) = some (6, true) := by kernel_rfl
theorem gapp152 : ((Tryz.prog.info? 152).map fun i => (i.size, i.bytes, (i.zero.map fun z => z.cells.size))) = some (6, 64, some 6) := by kernel_rfl
theorem gsz68 : (Tryz.prog.info? 68).map (·.size) = some 1 := by kernel_rfl
theorem gagg90 : AggOf Tryz.prog 90 3 := aggOf_of Tryz.underlying90 rfl (by kernel_rfl)
theorem gfa117_0 : FieldAt Tryz.prog 117 0 0 := fieldAt_sz (n := 0) (f := ⟨_, _, 0, _, _, _, _⟩) Tryz.underlying117 rfl (by kernel_rfl)
theorem gfa117_1 : FieldAt Tryz.prog 117 1 1 := fieldAt_sz (n := 0) (f := ⟨_, _, 1, _, _, _, _⟩) Tryz.underlying117 rfl (by kernel_rfl)
theorem gfa54_0 : FieldAt Tryz.prog 54 0 0 := fieldAt_sz (n := 0) (f := ⟨_, _, 0, _, _, _, _⟩) Tryz.underlying54 rfl (by kernel_rfl)
theorem gone52 : OneCell Tryz.prog 52 := oneCell_of Tryz.underlying52 rfl
theorem gsz137 : (Tryz.prog.info? 137).map (·.size) = some 2 := by kernel_rfl
theorem gfa137_0 : FieldAt Tryz.prog 137 0 0 := fieldAt_sz (n := 0) (f := ⟨_, _, 0, _, _, _, _⟩) Tryz.underlying137 rfl (by kernel_rfl)
theorem gfa137_1 : FieldAt Tryz.prog 137 1 1 := fieldAt_sz (n := 0) (f := ⟨_, _, 1, _, _, _, _⟩) Tryz.underlying137 rfl (by kernel_rfl)
theorem glit5 : ((Tryz.prog.info? 5).map fun i => (i.size, i.zero.isSome)) = some (1, true) := by kernel_rfl
theorem gone114 : OneCell Tryz.prog 114 := oneCell_of Tryz.underlying114 rfl
theorem gagg149 : AggOf Tryz.prog 149 6 := aggOf_of Tryz.underlying149 rfl (by kernel_rfl)
theorem gfa149_0 : FieldAt Tryz.prog 149 0 0 := fieldAt_sz (n := 0) (f := ⟨_, _, 0, _, _, _, _⟩) Tryz.underlying149 rfl (by kernel_rfl)
theorem gfa149_1 : FieldAt Tryz.prog 149 1 1 := fieldAt_sz (n := 0) (f := ⟨_, _, 1, _, _, _, _⟩) Tryz.underlying149 rfl (by kernel_rfl)
theorem gfa149_2 : FieldAt Tryz.prog 149 2 2 := fieldAt_sz (n := 0) (f := ⟨_, _, 2, _, _, _, _⟩) Tryz.underlying149 rfl (by kernel_rfl)
theorem gfa149_3 : FieldAt Tryz.prog 149 3 3 := fieldAt_sz (n := 0) (f := ⟨_, _, 3, _, _, _, _⟩) Tryz.underlying149 rfl (by kernel_rfl)
theorem gfa149_4 : FieldAt Tryz.prog 149 4 4 := fieldAt_sz (n := 0) (f := ⟨_, _, 4, _, _, _, _⟩) Tryz.underlying149 rfl (by kernel_rfl)
theorem gfa149_5 : FieldAt Tryz.prog 149 5 5 := fieldAt_sz (n := 0) (f := ⟨_, _, 5, _, _, _, _⟩) Tryz.underlying149 rfl (by kernel_rfl)
theorem gsz152 : (Tryz.prog.info? 152).map (·.size) = some 6 := by kernel_rfl
theorem gagg152 : AggOf Tryz.prog 152 6 := aggOf_of Tryz.underlying152 rfl (by kernel_rfl)
theorem geqs152 : ∀ (x0 : List UInt8) (x1 : Int) (x2 : Int) (x3 : List UInt8) (x4 : Int) (x5 : Int) (y0 : List UInt8) (y1 : Int) (y2 : Int) (y3 : List UInt8) (y4 : Int) (y5 : Int) (w : World), (Op.equalIn 10000 152 (.agg #[str x0, i64 x1, i64 x2, str x3, i64 x4, i64 x5]) (.agg #[str y0, i64 y1, i64 y2, str y3, i64 y4, i64 y5])).run Tryz.prog w = .ok (decide (x0 = y0 ∧ x1 = y1 ∧ x2 = y2 ∧ x3 = y3 ∧ x4 = y4 ∧ x5 = y5)) w := by
 intro x0 x1 x2 x3 x4 x5 y0 y1 y2 y3 y4 y5 w
 have hS : Tryz.prog.underlying 152 = some (.struct (Tryz.prog.fieldsOf 152)) := by kernel_rfl
 rw [show (10000 : Nat) = 9999 + 1 from rfl, run_equalIn_agg w 9999 152 _ _ hS (by kernel_rfl)]
 simp only [Program.fieldsOf, Tryz.underlying152]
 go_simp
 by_cases h0 : x0 = y0 <;> by_cases h1 : x1 = y1 <;> by_cases h2 : x2 = y2 <;> by_cases h3 : x3 = y3 <;> by_cases h4 : x4 = y4 <;> by_cases h5 : x5 = y5 <;> simp [h0, h1, h2, h3, h4, h5]
theorem geqg152 : Tryz.prog.eqGuardType Tryz.prog.depth 152 = false := by kernel_rfl
theorem copyCheck_ct (b : Nat) (p u : Value) (hp : p = .pointer none ∨ p = ptr b 0) (hu : u.oneCell' = true) : Ct Tryz.prog 229 [ptr b 0] Mo.tt (Blk b [p, u] 259) (X := Unit) (fun _ => .tuple #[]) (fun _ => True) (fun _ => Mo.tt) (fun _ => Blk b [ptr b 0, u] 259) := by
 refine Zo Tryz.func229 Tryz.ntmps229 fun c => ?_
 rcases hp with rfl | rfl
 ·
  refine Zq (Zr ?_)
  refine Zm ?_
  refine Zu (q_nilCheck rfl) ?_
  refine Zu (q_field gfa259_0 rfl) ?_
  refine Zu (q_fe gone257 rfl rfl) ?_
  refine Zu (q_peqn Tryz.underlying257 rfl) ?_
  refine Zl ?_
  refine VC.cond_t rfl ?_
  refine Zr ?_
  refine Zy ?_
  refine Zu (q_tou (n := 1) Tryz.underlying257 Tryz.underlying207 gszb rfl (by simp)) ?_
  refine Zu (q_noEscape Tryz.func265 rfl rfl (by kernel_rfl) (by kernel_rfl) rfl) ?_
  refine Zu (q_fromu (n := 2) (cs := [.pointer none, u]) Tryz.underlying207 Tryz.underlying257 gszb rfl (by kernel_rfl)) ?_
  refine Zu (q_nilCheck rfl) ?_
  refine Zu (q_field gfa259_0 rfl) ?_
  refine Zv (vc := [ptr b 0]) (cs' := [ptr b 0, u]) rfl gsz257 ?_
  exact VL.nil (fin0 (.inl rfl) rfl () rfl trivial (fun _ _ => trivial) (by exact EntO.out))
 refine Zq (Zr ?_)
 refine Zm ?_
 refine Zu (q_nilCheck rfl) ?_
 refine Zu (q_field gfa259_0 rfl) ?_
 refine Zu (q_fe gone257 rfl rfl) ?_
 refine Zu (q_peqn Tryz.underlying257 rfl) ?_
 refine Zl ?_
 refine VC.cond_f rfl ?_
 refine Zq (Zr ?_)
 refine Zm ?_
 refine Zu (q_nilCheck rfl) ?_
 refine Zu (q_field gfa259_0 rfl) ?_
 refine Zu (q_fe gone257 rfl rfl) ?_
 refine Zm ?_
 refine Zu (q_pne Tryz.underlying257 gszb rfl rfl) ?_
 refine Zl ?_
 refine VC.cond_f rfl ?_
 exact VC.skip (fin0 (.inl rfl) rfl () rfl trivial (fun _ _ => trivial) (by exact EntO.out))
theorem writeString_ct (b : Nat) (l s : Str) (hb : l.length + s.length ≤ 4294967296) : Ct Tryz.prog 182 [ptr b 0, str s] Mo.tt (Bd 259 5 b l) (X := Unit) (fun _ => .tuple #[i64 s.length, .nilIface]) (fun _ => True) (fun _ => Mo.tt) (fun _ => Bd 259 5 b (l ++ s)) := by
 refine Ct.monoE (E1 := fun z => ∃ q : Value × Sv UInt8, ((q.1 = .pointer none ∨ q.1 = ptr b 0) ∧ q.2.l = l ∧ (q.2.c = 0 → q.2.a = none)) ∧ Ow.star (Blk b [q.1, q.2.val] 259) (q.2.own 5) z) (Ct.exE (entry_of Tryz.func182 rfl (by kernel_rfl)) ?_) (fun z ⟨p, q, h1, h2, h3, h4⟩ => ⟨(p, q), ⟨h1, h2, h3⟩, h4⟩)
 rintro ⟨p, q⟩ ⟨hp, hl, hc⟩
 dsimp only at hp hl hc ⊢
 refine Zo Tryz.func182 Tryz.ntmps182 fun c => ?_
 refine Zq (Zr ?_)
 refine Zy ?_
 refine Zq (Zr ?_)
 refine Zm ?_
 refine VL.callO (copyCheck_ct b p q.val hp rfl) rfl (by decide) ?_
 rintro _ _
 refine Zl ?_
 refine Zq (Zr ?_)
 refine Zy ?_
 refine Zu (q_nilCheck rfl) ?_
 refine Zu (q_field gfa259_1 rfl) ?_
 refine Zu (q_fe gone27 rfl rfl) ?_
 refine Zm ?_
 refine VL.appS (s := q) (r := s) Tryz.underlying27 Tryz.underlying9 gappb rfl Fo.out (by rw [hl]; exact hb) (by decide) fun q2 hq2 hc2 => ?_
 refine Zu (q_nilCheck rfl) ?_
 refine Zu (q_field gfa259_1 rfl) ?_
 refine Zv (vc := [q2.val]) (cs' := [ptr b 0, q2.val]) rfl gsz27 ?_
 refine Zl ?_
 refine Zq (Zr ?_)
 refine Zm ?_
 refine Zu (q_slen Tryz.underlying9 rfl) ?_
 refine Zy ?_
 exact VC.ret (fin2 (.inr rfl) rfl rfl rfl () rfl trivial (fun _ _ => trivial) (fun z hz => Bd.mk (p := ptr b 0) (s := q2) (.inr rfl) (by rw [hq2, hl]) (hc2 hc) ((EntO.out (E' := Ow.star (Blk b [ptr b 0, q2.val] 259) (q2.own 5))) z hz)))
theorem string_ct (b : Nat) (l : Str) : Ct Tryz.prog 185 [ptr b 0] Mo.tt (Bd 259 5 b l) (X := Unit) (fun _ => str l) (fun _ => True) (fun _ => Mo.tt) (fun _ => Ow.emp) := by
 refine Ct.monoE (E1 := fun z => ∃ q : Value × Sv UInt8, ((q.1 = .pointer none ∨ q.1 = ptr b 0) ∧ q.2.l = l ∧ (q.2.c = 0 → q.2.a = none)) ∧ Ow.star (Blk b [q.1, q.2.val] 259) (q.2.own 5) z) (Ct.exE (entry_of Tryz.func185 rfl (by kernel_rfl)) ?_) (fun z ⟨p, q, h1, h2, h3, h4⟩ => ⟨(p, q), ⟨h1, h2, h3⟩, h4⟩)
 rintro ⟨p, q⟩ ⟨hp, rfl, hc⟩
 dsimp only at hp hc ⊢
 refine Zo Tryz.func185 Tryz.ntmps185 fun c => ?_
 refine Zq (Zr ?_)
 refine Zy ?_
 refine Zq ?_
 refine VC.draw [(0, true), (1, true), (2, true), (3, true), (4, true), (5, true), (6, true), (7, true), (8, true), (9, true), (10, false), (11, true)] mixed (by kernel_rfl) (by kernel_rfl) (by kernel_rfl) ?_
 refine Zw rfl (q_move rfl) ?_
 refine Zw rfl (q_nilCheck rfl) ?_
 refine Zw rfl (q_field gfa259_1 rfl) ?_
 refine Zw rfl (q_fe gone27 rfl rfl) ?_
 refine Zw rfl (q_sdata (s := q) rfl hc) ?_
 refine Zw rfl (q_move rfl) ?_
 refine Zw rfl (q_nilCheck rfl) ?_
 refine Zw rfl (q_field gfa259_1 rfl) ?_
 refine Zw rfl (q_fe gone27 rfl rfl) ?_
 refine Zw rfl (q_ln (s := q) Tryz.underlying27 rfl) ?_
 refine VD.one rfl ?_
 refine VL.ustr (s := q) (e := 5) rfl Fo.out (by decide) (fun w h z o l k m => St.ustr (e := 5) Tryz.underlying313 (by kernel_rfl) o l k m) ?_
 refine VL.back (D' := []) (by kernel_rfl) Pend.nil ?_
 refine Zw rfl (q_assign rfl) ?_
 refine VD.to (fun _ _ h => h) ?_
 exact Ze
theorem unwrap_ct (b : Nat) (p : Str) (a : Int) (e : Er) : Ct Tryz.prog 326 [ptr b 0] (Cells b 0 [str p, i64 a, e.val]) Ow.emp (X := Unit) (fun _ => e.val) (fun _ => True) (fun _ => Mo.tt) (fun _ => Ow.emp) := by
 refine Zo Tryz.func326 Tryz.ntmps326 fun c => ?_
 refine Zq (Zr ?_)
 refine Zy ?_
 refine Zq (Zr ?_)
 refine Zm ?_
 refine Zu (q_nilCheck rfl) ?_
 refine Zu (q_field gfa117_2 rfl) ?_
 refine Zu (q_fm gone29 rfl rfl) ?_
 refine Zy ?_
 exact Ze
theorem unwrap_me (v : Value) : Meth Tryz.prog (.iface 114 v) "Unwrap" 326 v := Meth.of fun w => by kernel_rfl
theorem errorsis_ct (z0 : Er) (n : Int) (h0 : z0.pl.isNil = false) : Ct Tryz.prog 136 [z0.val, .iface 115 (i64 n), .bool true] z0.ok Ow.emp (X := Unit) (fun _ => .bool (decide (endNo z0.pl = some n))) (fun _ => True) (fun _ => Mo.tt) (fun _ => Ow.emp) := by
 refine Zo Tryz.func136 Tryz.ntmps136 fun c => ?_
 refine Zq (Zr ?_)
 refine Zy ?_
 refine Zb ?_
 refine VC.loopM (S := Er) (fun z => endNo z.pl = endNo z0.pl ∧ z.pl.isNil = false) (fun z => [(0, z.val), (1, .iface 115 (i64 n)), (2, .bool true)]) (fun z => z.ok) (fun _ => Ow.emp) Er.dep z0 [0, 1, 2] ⟨rfl, h0⟩ rfl (fun _ m => m) (fun _ e => e) ?_
 rintro z ⟨hz, hn⟩
 cases z with
 | nil => cases hn
 | no m =>
   refine Zb (Zq (Zq (Zr ?_)))
   refine Zy ?_
   refine Zh (q_eqno (a := m) (b := n) Tryz.underlying29 Tryz.underlying115 (by kernel_rfl) rfl rfl) ?_
   refine Zy ?_
   have hz' : some m = endNo z0.pl := hz
   refine VC.cond_dec rfl (fun h => ?_) (fun h => ?_)
   · refine VC.seq ?_
     refine Zr ?_
     refine Zy ?_
     exact VC.ret (fin1 (.inr rfl) rfl rfl () (congrArg Value.bool (by rw [← hz', h]; simp)) trivial (fun _ _ => trivial) (fun _ _ => trivial))
   refine Zk ?_
   refine Zq (Zq (Zr ?_))
   refine Zm ?_
   refine Zu (q_ta rfl fun w => run_typeAssert_lacksB (z := .nilIface) Tryz.underlying272 (by kernel_rfl) (by kernel_rfl) _ _ w) ?_
   refine Zm ?_
   refine Zu (q_extract rfl rfl) ?_
   refine Zu (q_extract rfl rfl) ?_
   refine Zy ?_
   refine Zq (Zr ?_)
   refine Zy ?_
   refine VC.cond_f rfl ?_
   refine Zk ?_
   refine Zq (Zr ?_)
   refine Zy ?_
   refine Zb (Zq (Zr ?_))
   refine Zu (q_ta rfl fun w => run_typeAssert_lacksB (z := .nilIface) Tryz.underlying275 (by kernel_rfl) (by kernel_rfl) _ _ w) ?_
   refine Zu (q_extract rfl rfl) ?_
   refine Zu (q_extract rfl rfl) ?_
   refine Zl ?_
   refine VC.cond_f rfl ?_
   refine Zq (Zr ?_)
   refine Zu (q_ta rfl fun w => run_typeAssert_lacksB (z := .nilIface) Tryz.underlying276 (by kernel_rfl) (by kernel_rfl) _ _ w) ?_
   refine Zu (q_extract rfl rfl) ?_
   refine Zu (q_extract rfl rfl) ?_
   refine Zl ?_
   refine VC.cond_f rfl ?_
   refine Zq (Zr ?_)
   refine Zy ?_
   refine Zq (Zr ?_)
   refine Zy ?_
   exact VC.ret (fin1 (.inr rfl) rfl rfl () (congrArg Value.bool (by rw [← hz']; exact (decide_eq_false fun q => h (Option.some.inj q)).symm)) trivial (fun _ _ => trivial) (fun _ _ => trivial))
 | fault b p a e =>
   refine VC.addM (Cells b 0 [str p, i64 a, e.val]) (fun _ m => m.1) ?_
   refine VC.addM e.ok (fun _ m => m.2.2) ?_
   refine Zb (Zq (Zq (Zr ?_)))
   refine Zy ?_
   refine Zh (q_eqdt (t1 := 114) (t2 := 115) (a := ptr b 0) (b := i64 n) Tryz.underlying29 (by decide) rfl rfl) ?_
   refine Zy ?_
   have hz' : endNo e.pl = endNo z0.pl := hz
   refine VC.cond_f rfl ?_
   refine Zk ?_
   refine Zq (Zq (Zr ?_))
   refine Zm ?_
   refine Zu (q_ta rfl fun w => run_typeAssert_lacksB (z := .nilIface) Tryz.underlying272 (by kernel_rfl) (by kernel_rfl) _ _ w) ?_
   refine Zm ?_
   refine Zu (q_extract rfl rfl) ?_
   refine Zu (q_extract rfl rfl) ?_
   refine Zy ?_
   refine Zq (Zr ?_)
   refine Zy ?_
   refine VC.cond_f rfl ?_
   refine Zk ?_
   refine Zq (Zr ?_)
   refine Zy ?_
   refine Zb (Zq (Zr ?_))
   refine Zu (q_ta rfl fun w => run_typeAssert_hasB Tryz.underlying275 (by kernel_rfl) _ _ w) ?_
   refine Zu (q_extract rfl rfl) ?_
   refine Zu (q_extract rfl rfl) ?_
   refine Zl ?_
   refine VC.cond_t rfl ?_
   refine Zq (Zr ?_)
   refine Zy ?_
   refine Zq (Zr ?_)
   refine Zm ?_
   refine Zu (q_inv rfl (unwrap_me (ptr b 0)) (unwrap_ct b p a e) (fun _ _ => rfl)) ?_
   refine Zy ?_
   refine Zq (Zr ?_)
   refine Zm ?_
   refine Zu (q_ereq Tryz.underlying29 (z := e) rfl) ?_
   refine Zl ?_
   refine VC.cond_dec rfl (fun h => ?_) (fun h => ?_)
   · refine VC.seq ?_
     refine Zr ?_
     refine Zy ?_
     exact VC.ret (fin1 (.inr rfl) rfl rfl () (congrArg Value.bool (by
       rw [← hz']
       cases e with
       | nil => rfl
       | no m => cases h
       | fault _ _ _ _ => cases h)) trivial (fun _ _ => trivial) (fun _ _ => trivial))
   · exact VC.skip_any e [0, 1, 2] (fun _ _ h => h) ⟨⟨hz', by simpa using h⟩, Nat.lt_succ_self _⟩ rfl (fun _ m => m.1) (fun _ e => e)
theorem typeof_no (v : Value) (w : World) : (Extern.ReflectliteType.typeOf #[.iface 115 v]).run Tryz.prog w = .ok (.iface 270 (.agg #[.pointer (some ⟨7, 115, none⟩)])) w := by kernel_rfl
theorem comp_no (w : World) : (Extern.ReflectliteType.method (fun t => do Extern.Rtype.noPackHeld "Comparable" t; pure (.bool (← typeInfo t).comparable)) #[.agg #[.pointer (some ⟨7, 115, none⟩)]]).run Tryz.prog w = .ok (.bool true) w := by kernel_rfl
theorem comp_me (v : Value) : Meth Tryz.prog (.iface 270 v) "Comparable" 347 v := Meth.of fun w => by kernel_rfl
theorem Ct.mapX {P : Program} {f : FuncId} {args : List Value} {X Y : Type} {M : Mo} {E : Ow} {val : X → Value} {φ : X → Prop} {M2 : X → Mo} {E2 : X → Ow} {val' : Y → Value} {φ' : Y → Prop} {M2' : Y → Mo} {E2' : Y → Ow} (h : Ct P f args M E val φ M2 E2) (g : X → Y)
    (hv : ∀ x, val x = val' (g x)) (hφ : ∀ x, φ x → φ' (g x)) (hm : ∀ x h, (M2 x).on h → (M2' (g x)).on h) (hE : ∀ x e, E2 x e → E2' (g x) e) : Ct P f args M E val' φ' M2' E2' :=
  ⟨h.entry, fun w hp e m ee d l k => (h.calls w hp e m ee d l k).mono fun en w' ⟨r, h1, x, h2, h3, h4⟩ => ⟨r, h1, g x, h2.trans (hv x), hφ x h3, h4.mono (hm x) (hE x)⟩⟩
theorem repeat2_ct (r : Sv Int) (n : Int) {q : List Int} (hS : Sh.slices_Repeat0 r.l n = some q) : Ct Tryz.prog 262 [r.val, i64 n] r.ok Ow.emp (X := Sv Int) (fun x => x.val) (fun x => q = x.l) (fun _ => Mo.tt) (fun x => x.own 3) := by
 obtain ⟨⟨h1, h2, h3⟩, hS⟩ := gd_s hS
 cases hS
 exact (repeat_ct r (-1) n h1 h2 h3).weak (fun _ h => h) fun q hq => by rw [hq]
theorem common2_ct (a b : Sv Str) {r : List (List Int)} (hS : Sh.r11_common a.l b.l = some r) : Ct Tryz.prog 269 [a.val, b.val] (a.ok.and b.ok) Ow.emp (X := Sv (Sv Int)) (fun x => x.val) (fun x => r = x.l.map Sv.l) (fun x => x.ok) (fun x => Ow.emp) := by
 obtain ⟨⟨h1, h2⟩, hS⟩ := gd_s hS
 cases hS
 exact (common_ct a b h1 h2).weak (fun _ h => h) fun q hq => hq.symm
theorem is_ct (z0 : Er) (n : Int) : Ct Tryz.prog 68 [z0.val, .iface 115 (i64 n)] z0.ok Ow.emp (X := Unit) (fun _ => .bool (decide (endNo z0.pl = some n))) (fun _ => True) (fun _ => Mo.tt) (fun _ => Ow.emp) := by
 refine Zo Tryz.func68 Tryz.ntmps68 fun c => ?_
 have fin : z0.pl.isNil = false → ∀ Q : Exit → Act → World → Prop, Q = bodyPost Tryz.prog Tryz.f68 (fun en w' => ∃ r, en = .returned r ∧ Post (X := Unit) (fun _ => .bool (decide (endNo z0.pl = some n))) (fun _ => True) (fun _ => Mo.tt) (fun _ => Ow.emp) c r w') → True := fun _ _ _ => trivial
 refine Zq (Zr ?_)
 refine Zy ?_
 refine Zq (Zq (Zr ?_))
 refine Zm ?_
 by_cases hn : z0 = .nil
 ·
  subst hn
  refine Zu (q_nileq Tryz.underlying29 rfl) ?_
  refine Zy ?_
  refine VC.cond_t rfl ?_
  refine Zq (Zr ?_)
  refine Zy ?_
  refine Zu (q_eqnl (T := 115) (u := i64 n) Tryz.underlying29 rfl rfl) ?_
  refine Zy ?_
  exact Ze
 have hn' : z0.pl.isNil = false := by
   cases z0 with
   | nil => exact absurd rfl hn
   | no m => rfl
   | fault _ _ _ _ => rfl
 refine VL.q (v := .bool false) (by
   cases z0 with
   | nil => exact absurd rfl hn
   | no m => exact q_ifeq Tryz.underlying29 rfl
   | fault _ _ _ _ => exact q_ifeq Tryz.underlying29 rfl) (by decide) ?_
 refine Zy ?_
 refine Zh (q_ifeq Tryz.underlying29 rfl) ?_
 refine Zy ?_
 refine VC.cond_f rfl ?_
 refine Zk ?_
 refine Zq (Zr ?_)
 refine Zm ?_
 refine Zu (q_extern Tryz.func135 rfl rfl (by kernel_rfl) (by kernel_rfl) rfl (typeof_no _)) ?_
 refine Zu (q_invX rfl (comp_me _) Tryz.func347 rfl rfl (by kernel_rfl) (by kernel_rfl) comp_no) ?_
 refine Zy ?_
 refine Zq (Zr ?_)
 refine Zy ?_
 refine Zu (q_call (errorsis_ct z0 n hn') rfl (fun _ _ => rfl)) ?_
 refine Zy ?_
 exact Ze
open Go.Extern.Stop Go.Stop Go.Extern Go.RowKit in
section
end
namespace As
open Go.Extern Go.Extern.Stop
theorem as_valueOf (t : Addr) (w : World) : (ReflectliteValue.unpack (.iface 135 (.pointer (some t)))).run Tryz.prog w
    = .ok (.agg #[.pointer (some ⟨7, 135, none⟩), .pointer (some ⟨w.heap.size, 0, none⟩), .int .u64 150]) (w.alloc (.cells #[.pointer (some t)] 135)) := by kernel_rfl
theorem as_type (a : Addr) (w : World) : (ReflectliteValue.methodAny (ReflectliteValue.valueError "reflectlite.Value.Type" 0) (fun t _ _ _ => ReflectliteType.toType t) #[.agg #[.pointer (some ⟨7, 135, none⟩), .pointer (some a), .int .u64 150]]).run Tryz.prog w
    = .ok (.iface 270 (.agg #[.pointer (some ⟨7, 135, none⟩)])) w := by kernel_rfl
theorem as_mKind (h : Value) (w : World) : (Go.method 523 270 (.agg #[h]) "Kind").run Tryz.prog w = .ok (322, h) w := by kernel_rfl
theorem as_kind1 (w : World) : ((ReflectliteType.abiMethod fun t => (fun a : Nat => Value.int IntKind.u8 (a : Int)) <$> Rtype.kind t) #[.pointer (some ⟨7, 135, none⟩)]).run Tryz.prog w = .ok (.int .u8 22) w := by kernel_rfl
theorem as_kind2 (w : World) : ((ReflectliteType.abiMethod fun t => (fun a : Nat => Value.int IntKind.u8 (a : Int)) <$> Rtype.kind t) #[.pointer (some ⟨7, 114, none⟩)]).run Tryz.prog w = .ok (.int .u8 22) w := by kernel_rfl
theorem as_rlm (z : Sem Value) (f : TypeId → Addr → Nat → Nat → Sem Value) (v : Value) :
    ReflectliteValue.method z f #[v] = (do match ← ReflectliteValue.parts v with | none => z | some (t, a, fl) => f t a fl (fl % 32)) := rfl
theorem as_parts1 (a : Addr) (w : World) : (ReflectliteValue.parts (.agg #[.pointer (some ⟨7, 135, none⟩), .pointer (some a), .int .u64 150])).run Tryz.prog w = .ok (some (135, a, 150)) w := by kernel_rfl
theorem as_isNil (a p : Addr) (W : World) (ha : W.cell? a = some (.pointer (some p))) :
 (ReflectliteValue.method (ReflectliteValue.valueError "reflectlite.Value.IsNil" 0) ReflectliteValue.isNil #[.agg #[.pointer (some ⟨7, 135, none⟩), .pointer (some a), .int .u64 150]]).run Tryz.prog W = .ok (.bool false) W := by
 rw [as_rlm]
 simp only [Sem.run_bind, as_parts1, Result.andThen]
 simp [ReflectliteValue.isNil, loadVar, isAgg, underlying, Tryz.underlying135, ha, Result.andThen]
theorem as_mElem (h : Value) (w : World) : (Go.method 523 270 (.agg #[h]) "Elem").run Tryz.prog w = .ok (348, .agg #[h]) w := by kernel_rfl
theorem as_mImpl (h : Value) (w : World) : (Go.method 523 270 (.agg #[h]) "Implements").run Tryz.prog w = .ok (349, .agg #[h]) w := by kernel_rfl
theorem as_mAssn (h : Value) (w : World) : (Go.method 523 270 (.agg #[h]) "AssignableTo").run Tryz.prog w = .ok (346, .agg #[h]) w := by kernel_rfl
theorem as_elem1 (w : World) : (ReflectliteType.method ReflectliteType.elem #[.agg #[.pointer (some ⟨7, 135, none⟩)]]).run Tryz.prog w = .ok (.iface 270 (.agg #[.pointer (some ⟨7, 114, none⟩)])) w := by kernel_rfl
theorem as_impl2 (w : World) : (ReflectliteType.relation "Implements" ReflectliteType.implements_ #[.agg #[.pointer (some ⟨7, 114, none⟩)], .iface 270 (.agg #[.pointer (some ⟨7, 29, none⟩)])]).run Tryz.prog w = .ok (.bool true) w := by kernel_rfl
theorem as_typeOf2 (v : Value) (w : World) : (ReflectliteType.typeOf #[.iface 114 v]).run Tryz.prog w = .ok (.iface 270 (.agg #[.pointer (some ⟨7, 114, none⟩)])) w := by kernel_rfl
theorem as_assn2 (w : World) : (ReflectliteType.relation "AssignableTo" ReflectliteType.assignableTo #[.agg #[.pointer (some ⟨7, 114, none⟩)], .iface 270 (.agg #[.pointer (some ⟨7, 114, none⟩)])]).run Tryz.prog w = .ok (.bool true) w := by kernel_rfl
theorem as_valueOf2 (e : Addr) (w : World) : (ReflectliteValue.unpack (.iface 114 (.pointer (some e)))).run Tryz.prog w
    = .ok (.agg #[.pointer (some ⟨7, 114, none⟩), .pointer (some ⟨w.heap.size, 0, none⟩), .int .u64 150]) (w.alloc (.cells #[.pointer (some e)] 114)) := by kernel_rfl
theorem as_elemOf1 (w : World) : (Rtype.elem? 135).run Tryz.prog w = .ok (some 114) w := by kernel_rfl
theorem as_mk2 (p : Addr) (w : World) : (ReflectliteValue.mk 114 p ReflectliteValue.flagAddr).run Tryz.prog w = .ok (.agg #[.pointer (some ⟨7, 114, none⟩), .pointer (some p), .int .u64 406]) w := by kernel_rfl
theorem as_elemV1 (a p : Addr) (W : World) (ha : W.cell? a = some (.pointer (some p))) :
 (ReflectliteValue.method (ReflectliteValue.valueError "reflectlite.Value.Elem" 0) ReflectliteValue.elem #[.agg #[.pointer (some ⟨7, 135, none⟩), .pointer (some a), .int .u64 150]]).run Tryz.prog W
 = .ok (.agg #[.pointer (some ⟨7, 114, none⟩), .pointer (some p), .int .u64 406]) W := by
 rw [as_rlm]
 simp only [Sem.run_bind, as_parts1, Result.andThen]
 simp [ReflectliteValue.elem, loadVar, isAgg, underlying, Tryz.underlying135, ha, Result.andThen, as_elemOf1, as_mk2]
theorem as_rls (v x : Value) : ReflectliteValue.set #[v, x] = (do
    let (some (dst, a, fl), some (src, b, _)) := (← ReflectliteValue.parts v, ← ReflectliteValue.parts x)
      | unsupported (.noEntry "extern/(internal/reflectlite.Value).Set.zeroValue")
    if fl / ReflectliteValue.flagAddr % 2 == 0 then unsupported (.noEntry "extern/(internal/reflectlite.Value).Set.unaddressable")
    let val ← loadVar src b
    if ← Rtype.directlyAssignable dst src then storeVar dst a val
    else if ← Rtype.implements dst src then
      if (← Rtype.kind src) == 20 then
        match val with
        | .nilIface => unsupported (.noEntry "extern/reflectlite: a nil value of one interface type handed on as a value of another")
        | _ => storeVar dst a val
      else storeVar dst a (.iface src val)
    else panicString ("reflectlite.Set: value of type " ++ (← Rtype.spelt src) ++ " is not assignable to type " ++ (← Rtype.spelt dst))
    pure (.tuple #[])) := rfl
theorem as_parts2a (a : Addr) (w : World) : (ReflectliteValue.parts (.agg #[.pointer (some ⟨7, 114, none⟩), .pointer (some a), .int .u64 406])).run Tryz.prog w = .ok (some (114, a, 406)) w := by kernel_rfl
theorem as_parts2 (a : Addr) (w : World) : (ReflectliteValue.parts (.agg #[.pointer (some ⟨7, 114, none⟩), .pointer (some a), .int .u64 150])).run Tryz.prog w = .ok (some (114, a, 150)) w := by kernel_rfl
theorem as_direct2 (w : World) : (Rtype.directlyAssignable 114 114).run Tryz.prog w = .ok true w := by kernel_rfl
theorem as_set2 (ta b e : Addr) (old : Value) (W : World) (hb : W.cell? b = some (.pointer (some e))) (ht : W.cell? ta = some old) (hf : W.frozen? ta = false) :
 (ReflectliteValue.set #[.agg #[.pointer (some ⟨7, 114, none⟩), .pointer (some ta), .int .u64 406], .agg #[.pointer (some ⟨7, 114, none⟩), .pointer (some b), .int .u64 150]]).run Tryz.prog W
 = .ok (.tuple #[]) (W.setCell ta (.pointer (some e))) := by
 rw [as_rls]
 simp only [Sem.run_bind, as_parts2a, as_parts2, Result.andThen]
 simp [ReflectliteValue.flagAddr, loadVar, isAgg, underlying, Tryz.underlying114, hb, Result.andThen, as_direct2, storeVar, Value.cells, storeCells, Addr.add]
 rw [run_store Tryz.prog W ta _ _ (by rfl)]
 simp [ht, hf]
theorem as_hit (e t : Addr) (old : Value) (w : World) (hg : w.cell? ⟨0, 0, none⟩ = some (.iface 270 (.agg #[.pointer (some ⟨7, 29, none⟩)]))) (ht0 : w.cell? t = some old) (hf0 : w.frozen? t = false) :
 Calls Tryz.prog 69 #[.iface 114 (.pointer (some e)), .iface 135 (.pointer (some t))] w fun ev w' => ev = .returned (.bool true) ∧ w' = ((((w.alloc (.cells #[.pointer (some t)] 135)).alloc (.cells #[.pointer (some ⟨7, 135, none⟩), .pointer (some ⟨w.heap.size, 0, none⟩), .int .u64 150] 210)).alloc (.cells #[.pointer (some ⟨7, 135, none⟩), .pointer (some ⟨w.heap.size, 0, none⟩), .int .u64 150] 210)).alloc (.cells #[.pointer (some e)] 114)).setCell t (.pointer (some e)) := by
 have h6 := @run_callFunc_extern Tryz.prog 137 _ (fun args => ReflectliteValue.unpack (args.getD 0 (.tuple #[]))) Tryz.func137 (by kernel_rfl) (by kernel_rfl) (by kernel_rfl) (by kernel_rfl)
 have h7 := @run_callFunc_extern Tryz.prog 138 _ (ReflectliteValue.methodAny (ReflectliteValue.valueError "reflectlite.Value.Type" 0) (fun t _ _ _ => ReflectliteType.toType t)) Tryz.func138 (by kernel_rfl) (by kernel_rfl) (by kernel_rfl) (by kernel_rfl)
 have h8 := @run_callFunc_extern Tryz.prog 139 _ (ReflectliteValue.method (ReflectliteValue.valueError "reflectlite.Value.IsNil" 0) ReflectliteValue.isNil) Tryz.func139 (by kernel_rfl) (by kernel_rfl) (by kernel_rfl) (by kernel_rfl)
 have h27 := @run_callFunc_extern Tryz.prog 322 _ (ReflectliteType.abiMethod fun t => do pure (.int .u8 (← Rtype.kind t))) Tryz.func322 (by kernel_rfl) (by kernel_rfl) (by kernel_rfl) (by kernel_rfl)
 have h37 := @run_callFunc_extern Tryz.prog 348 _ (ReflectliteType.method ReflectliteType.elem) Tryz.func348 (by kernel_rfl) (by kernel_rfl) (by kernel_rfl) (by kernel_rfl)
 have h38 := @run_callFunc_extern Tryz.prog 349 _ (ReflectliteType.relation "Implements" ReflectliteType.implements_) Tryz.func349 (by kernel_rfl) (by kernel_rfl) (by kernel_rfl) (by kernel_rfl)
 have h10 := @run_callFunc_extern Tryz.prog 135 _ ReflectliteType.typeOf Tryz.func135 (by kernel_rfl) (by kernel_rfl) (by kernel_rfl) (by kernel_rfl)
 have h35 := @run_callFunc_extern Tryz.prog 346 _ (ReflectliteType.relation "AssignableTo" ReflectliteType.assignableTo) Tryz.func346 (by kernel_rfl) (by kernel_rfl) (by kernel_rfl) (by kernel_rfl)
 have h11 := @run_callFunc_extern Tryz.prog 192 _ (ReflectliteValue.method (ReflectliteValue.valueError "reflectlite.Value.Elem" 0) ReflectliteValue.elem) Tryz.func192 (by kernel_rfl) (by kernel_rfl) (by kernel_rfl) (by kernel_rfl)
 have h12 := @run_callFunc_extern Tryz.prog 193 _ ReflectliteValue.set Tryz.func193 (by kernel_rfl) (by kernel_rfl) (by kernel_rfl) (by kernel_rfl)
 have tO := as_typeOf2
 have mA := as_mAssn
 have a25 := as_assn2
 have v25 := as_valueOf2
 have f6 := as_valueOf
 have f7 := as_type
 have mK := as_mKind
 have mE := as_mElem
 have mI := as_mImpl
 have k27 := as_kind1
 have k25 := as_kind2
 have e27 := as_elem1
 have i25 := as_impl2
 have n8 := as_isNil ⟨w.heap.size, 0, none⟩ t ((w.alloc (.cells #[.pointer (some t)] 135)).alloc (.cells #[.pointer (some ⟨7, 135, none⟩), .pointer (some ⟨w.heap.size, 0, none⟩), .int .u64 150] 210)) (by simp)
 have hlt : 0 < w.heap.size := by
   rcases Nat.lt_or_ge 0 w.heap.size with h | h
   · exact h
   · simp [World.cell?, Array.getElem?_eq_none h] at hg
 have hg2 : ((w.alloc (.cells #[.pointer (some t)] 135)).alloc (.cells #[.pointer (some ⟨7, 135, none⟩), .pointer (some ⟨w.heap.size, 0, none⟩), .int .u64 150] 210)).cell? ⟨0, 0, none⟩ = some (.iface 270 (.agg #[.pointer (some ⟨7, 29, none⟩)])) := by
   rw [World.cell?_alloc_lt _ _ ⟨0, 0, none⟩ (by first | (simp; done) | (simp; omega)), World.cell?_alloc_lt _ _ ⟨0, 0, none⟩ hlt]; exact hg
 have htl : t.block < w.heap.size := by
   rcases Nat.lt_or_ge t.block w.heap.size with h | h
   · exact h
   · simp [World.cell?, Array.getElem?_eq_none h] at ht0
 have el := as_elemV1 ⟨w.heap.size, 0, none⟩ t (((w.alloc (.cells #[.pointer (some t)] 135)).alloc (.cells #[.pointer (some ⟨7, 135, none⟩), .pointer (some ⟨w.heap.size, 0, none⟩), .int .u64 150] 210)).alloc (.cells #[.pointer (some ⟨7, 135, none⟩), .pointer (some ⟨w.heap.size, 0, none⟩), .int .u64 150] 210)) (by rw [World.cell?_alloc_lt _ _ ⟨w.heap.size, 0, none⟩ (by simp; omega)]; simp)
 have st := as_set2 t ⟨w.heap.size + 1 + 1 + 1, 0, none⟩ e old ((((w.alloc (.cells #[.pointer (some t)] 135)).alloc (.cells #[.pointer (some ⟨7, 135, none⟩), .pointer (some ⟨w.heap.size, 0, none⟩), .int .u64 150] 210)).alloc (.cells #[.pointer (some ⟨7, 135, none⟩), .pointer (some ⟨w.heap.size, 0, none⟩), .int .u64 150] 210)).alloc (.cells #[.pointer (some e)] 114))
   (by rw [World.cell?_alloc_at _ _ _ _ (by simp)]; rfl)
   (by rw [World.cell?_alloc_lt _ _ t (by simp; omega), World.cell?_alloc_lt _ _ t (by simp; omega), World.cell?_alloc_lt _ _ t (by simp; omega), World.cell?_alloc_lt _ _ t htl]; exact ht0)
   (by rw [World.frozen?_alloc_old _ _ t (by simp; omega), World.frozen?_alloc_old _ _ t (by simp; omega), World.frozen?_alloc_old _ _ t (by simp; omega), World.frozen?_alloc_old _ _ t (Nat.ne_of_lt htl)]; exact hf0)
 go_enter Tryz.func69, Tryz.ntmps69
 go_wp2
 refine wp_loop_rounds 1 ?_
 rw [rounds_succ]
 go_wp2
 go_ret
 exact ⟨rfl, rfl⟩
theorem as_ct (b t : Nat) : Ct Tryz.prog 69 [.iface 114 (ptr b 0), .iface 135 (ptr t 0)] (GBlk 0 #[.iface 270 (.agg #[.pointer (some ⟨7, 29, none⟩)])]) (Blk t [.pointer none] 114) (X := Unit) (fun _ => .bool true) (fun _ => True) (fun _ => Mo.tt) (fun _ => Blk t [ptr b 0] 114) :=
  ⟨entry_of Tryz.func69 rfl (by kernel_rfl), fun w hp z m ee d l k => by
    have hb : w.heap[t]? = some (.cells #[.pointer none] 114 (0, 0)) := k _ _ ee
    obtain ⟨t1, f1, m1⟩ := m
    have hg : w.heap[0]? = some (.cells #[.iface 270 (.agg #[.pointer (some ⟨7, 29, none⟩)])] t1 f1) := l _ _ m1
    have htl := (Array.getElem?_eq_some_iff.1 hb).1
    refine (as_hit ⟨b, 0, none⟩ ⟨t, 0, none⟩ (.pointer none) w (by simp [World.cell?, hg]) (by simp [World.cell?, hb]) (by simp [World.frozen?, hb])).mono fun en w' ⟨h1, h2⟩ => ⟨_, h1, (), rfl, trivial, ?_⟩
    have hgr : Gr w ((((w.alloc (.cells #[.pointer (some ⟨t, 0, none⟩)] 135)).alloc (.cells #[.pointer (some ⟨7, 135, none⟩), .pointer (some ⟨w.heap.size, 0, none⟩), .int .u64 150] 210)).alloc (.cells #[.pointer (some ⟨7, 135, none⟩), .pointer (some ⟨w.heap.size, 0, none⟩), .int .u64 150] 210)).alloc (.cells #[.pointer (some ⟨b, 0, none⟩)] 114)) := (((Gr.alloc w _).trans (Gr.alloc _ _)).trans (Gr.alloc _ _)).trans (Gr.alloc _ _)
    exact St.turned hb (show z t = _ from ee) d l hgr h2⟩
end As
theorem unicode_utf8_RuneCountInString_ct (s_0 : Str) {r : Int} (hS : Sh.unicode_utf8_RuneCountInString s_0 = some r) :
 Ct Tryz.prog 280 [str s_0] Mo.tt (Ow.emp) (X := Unit) (fun _ => i64 r) (fun _ => True) (fun _ => Mo.tt) (fun _ => Ow.emp) := by
 refine Zo Tryz.func280 Tryz.ntmps280 fun c => ?_
 unfold Sh.unicode_utf8_RuneCountInString at hS
 refine Zq (Zr ?_)
 refine Zy ?_
 refine Zq (Zq (Zr ?_))
 refine Zm ?_
 cases hS
theorem unicode_utf8_decodeRuneInStringSlow_ct (s_0 : Str) {r : Int × Int} (hS : Sh.unicode_utf8_decodeRuneInStringSlow s_0 = some r) :
 Ct Tryz.prog 296 [str s_0] Mo.tt (Ow.emp) (X := Unit) (fun _ => .tuple #[.int .i32 r.1, i64 r.2]) (fun _ => True) (fun _ => Mo.tt) (fun _ => Ow.emp) := by
 refine Zo Tryz.func296 Tryz.ntmps296 fun c => ?_
 unfold Sh.unicode_utf8_decodeRuneInStringSlow at hS
 refine Zq (Zr ?_)
 refine Zy ?_
 refine Zq (Zr ?_)
 refine Zm ?_
 refine Zu (q_slen Tryz.underlying9 rfl) ?_
 refine Zy ?_
 refine Zq (Zq (Zr ?_))
 refine Zm ?_
 refine Zu (q_lss rfl rfl) ?_
 refine Zl ?_
 refine Zc hS (fun h16 hS => ?_) (fun h16 hS => ?_)
 ·
  refine Zq (Zr ?_)
  refine Zy ?_
  cases hS
  exact VC.ret (fin2 (.inr rfl) rfl rfl rfl () rfl trivial (fun _ _ => trivial) (fun _ _ => trivial))
 refine Zk ?_
 refine Zq (Zr ?_)
 refine Zm ?_
 obtain ⟨z18_1, nz18_1, hz18_1, hS⟩ := at_s hS
 refine Zu (q_sidx Tryz.underlying9 rfl rfl nz18_1 hz18_1) ?_
 refine Zy ?_
 refine VC.keep [0, 4, 5] rfl ?_
 refine Zq (Zr ?_)
 refine Zm ?_
 cases hS
theorem unicode_utf8_DecodeRuneInString_ct (s_0 : Str) {r : Int × Int} (hS : Sh.unicode_utf8_DecodeRuneInString s_0 = some r) :
 Ct Tryz.prog 281 [str s_0] Mo.tt (Ow.emp) (X := Unit) (fun _ => .tuple #[.int .i32 r.1, i64 r.2]) (fun _ => True) (fun _ => Mo.tt) (fun _ => Ow.emp) := by
 refine Zo Tryz.func281 Tryz.ntmps281 fun c => ?_
 unfold Sh.unicode_utf8_DecodeRuneInString at hS
 refine Zq (Zr ?_)
 refine Zy ?_
 refine Zq ?_
 refine VC.cutJ (S := Bool) (fun (x10_1 : Bool) => x10_1) (fun (x10_1 : Bool) => [(0, str s_0), (10, .bool x10_1)]) (fun (x10_1 : Bool) => Mo.tt) (fun (x10_1 : Bool) => Ow.emp) hS ?_ ?_
 ·
  clear hS
  intro k2 hS
  refine Zr ?_
  refine Zm ?_
  refine Zu (q_sne rfl rfl) ?_
  refine Zm ?_
  refine Zspn 6 hS (fun h6 hS => ?_) (fun h6 hS => ?_)
  ·
   refine Zg ?_
   obtain ⟨z8_3, nz8_3, hz8_3, hS⟩ := at_s hS
   refine Zh (q_sidx Tryz.underlying9 rfl rfl nz8_3 hz8_3) ?_
   refine Zh (q_lss rfl rfl) ?_
   refine Zt ?_
   refine VL.mt (decide ((z8_3.toNat : Int) < 128)) [0, 10] (fun _ _ h => h) hS rfl
  refine Zy ?_
  refine VL.mt false [0, 10] (fun _ _ h => h) hS rfl
 clear hS
 rintro x10_1 hS
 refine Zcb hS (fun h10 hS => ?_) (fun h10 hS => ?_)
 ·
  refine Zq (Zr ?_)
  refine Zm ?_
  obtain ⟨z12_4, nz12_4, hz12_4, hS⟩ := at_s hS
  refine Zu (q_sidx Tryz.underlying9 rfl rfl nz12_4 hz12_4) ?_
  refine Zu (q_conv Tryz.underlying5 Tryz.underlying21 rfl (wr_i32 z12_4)) ?_
  refine Zy ?_
  cases hS
  exact VC.ret (fin2 (.inr rfl) rfl rfl rfl () rfl trivial (fun _ _ => trivial) (fun _ _ => trivial))
 refine Zr ?_
 refine Zm ?_
 obtain ⟨y16_5, ey16_5, hS⟩ := bd_s hS
 refine Zu (q_call (unicode_utf8_decodeRuneInStringSlow_ct s_0 ey16_5) rfl (fun _ _ => rfl)) ?_
 refine Zm ?_
 refine Zu (q_extract rfl rfl) ?_
 refine Zu (q_extract rfl rfl) ?_
 refine Zy ?_
 cases hS
 exact VC.ret (fin2 (.inr rfl) rfl rfl rfl () rfl trivial (fun _ _ => trivial) (fun _ _ => trivial))
theorem strings_explode_ct (s_0 : Str) (n_1 : Int) {r : List Str} (hS : Sh.strings_explode s_0 n_1 = some r) :
 Ct Tryz.prog 259 [str s_0, i64 n_1] Mo.tt (Ow.emp) (X := Sv Str) (fun x => x.val) (fun x => r = x.l) (fun x => Mo.tt) (fun x => Sv.own x 9) := by
 refine Zo Tryz.func259 Tryz.ntmps259 fun c => ?_
 unfold Sh.strings_explode at hS
 refine Zq (Zr ?_)
 refine Zy ?_
 refine Zq (Zr ?_)
 refine Zm ?_
 obtain ⟨y11_1, ey11_1, hS⟩ := bd_s hS
 refine Zu (q_call (unicode_utf8_RuneCountInString_ct s_0 ey11_1) rfl (fun _ _ => rfl)) ?_
 refine Zy ?_
 refine VC.cutJ (S := Int) (fun (n1_2 : Int) => n1_2) (fun (n1_2 : Int) => [(0, str s_0), (1, i64 n1_2)]) (fun (n1_2 : Int) => Mo.tt) (fun (n1_2 : Int) => Ow.emp) hS ?_ ?_
 ·
  clear hS
  intro k3 hS
  refine VC.cutJ (S := Bool) (fun (x18_4 : Bool) => x18_4) (fun (x18_4 : Bool) => [(0, str s_0), (1, i64 n_1), (5, i64 y11_1), (18, .bool x18_4)]) (fun (x18_4 : Bool) => Mo.tt) (fun (x18_4 : Bool) => Ow.emp) hS ?_ ?_
  ·
   clear hS
   intro k5 hS
   refine Zr ?_
   refine Zm ?_
   refine Zu (q_lss rfl rfl) ?_
   refine Zm ?_
   refine Zsp 14 hS (fun h14 hS => ?_) (fun h14 hS => ?_)
   ·
    refine Zy ?_
    refine VL.mt true [0, 1, 5, 18] (fun _ _ h => h) hS rfl
   refine Zy ?_
   refine Zh (q_gtr rfl rfl) ?_
   refine Zf ?_
   refine VL.mt (decide (y11_1 < n_1)) [0, 1, 5, 18] (fun _ _ h => h) hS rfl
  clear hS
  rintro x18_4 hS
  refine Zcb hS (fun h18 hS => ?_) (fun h18 hS => ?_)
  ·
   refine Zr ?_
   refine Zy ?_
   refine VL.mt y11_1 [0, 1] (fun _ _ h => h) hS rfl
  refine VC.skip_mt n_1 [0, 1] (fun _ _ h => h) hS rfl
 clear hS
 rintro n1_2 hS
 refine Zq (Zr ?_)
 refine Zm ?_
 obtain ⟨b21, hS⟩ := gd_s hS
 refine VL.make (α := Str) (z := []) Tryz.underlying82 gmk9 (by decide) rfl rfl b21.1 (Int.le_refl _) (by omega) (by omega) (by decide) (fun s21_6 hs21_6 => ?_)
 replace hS := lt_to hs21_6 hS
 refine Zy ?_
 refine Zq (Zq (Zr ?_))
 refine Zy ?_
 refine Zb ?_
 refine VC.iter (S := Str × Sv Str × Int) (fun sg => (sg.1, sg.2.1.l, sg.2.2)) (fun sg => [(0, str sg.1), (1, i64 n1_2), (6, sg.2.1.val), (7, i64 sg.2.2)]) (fun sg => Mo.tt) (fun sg => Ow.star (Sv.own sg.2.1 9) (Ow.emp)) (s_0, s21_6, 0) [0, 1, 6, 7] hS rfl ?_
 clear hS
 rintro ⟨s0_8, a6_9, i7_10⟩ m1 y1 hS hK1
 refine Zq (Zq (Zr ?_))
 refine Zy ?_
 obtain ⟨b24, hS⟩ := gd_s hS
 refine Zu (q_sub rfl rfl b24) ?_
 refine Zu (q_lss rfl rfl) ?_
 refine Zl ?_
 refine Zc hS (fun h25 hS => ?_) (fun h25 hS => ?_)
 ·
  refine Zk ?_
  refine Zq (Zb (Zq (Zr ?_)))
  refine Zm ?_
  obtain ⟨y30_11, ey30_11, hS⟩ := bd_s hS
  refine Zu (q_call (unicode_utf8_DecodeRuneInString_ct s0_8 ey30_11) rfl (fun _ _ => rfl)) ?_
  refine Zm ?_
  refine Zu (q_extract rfl rfl) ?_
  refine Zu (q_extract rfl rfl) ?_
  refine Zy ?_
  refine VC.keep [0, 1, 6, 7, 9] rfl ?_
  refine Zq (Zr ?_)
  refine Zy ?_
  obtain ⟨b37, hS⟩ := gd_s hS
  obtain ⟨y37_12, ey37_12, hS⟩ := lt_s hS
  refine Zu (q_stoE Tryz.underlying9 rfl rfl b37.1 b37.2 ey37_12) ?_
  obtain ⟨z38_13, nz38_13, hz38_13, hS⟩ := at_s hS
  refine Zu (q_ixo (s := a6_9) Tryz.underlying82 gsz9 rfl rfl nz38_13 (lt_of_get nz38_13 hz38_13)) ?_
  refine VL.storeE (s := a6_9) (T := 9) (j := 0) (vc := [str y37_12]) (y37_12 : Str) (by decide) rfl rfl hz38_13 rfl gsz9 rfl rfl (Nat.le_of_ble_eq_true rfl) rfl (fun w14 hw14 haw14 hcw14 hvw14 hbw14 how14 => ?_)
  rw [← hvw14]
  replace hS := lt_to hw14 hS
  refine Zl ?_
  refine Zr ?_
  refine Zy ?_
  obtain ⟨b41, hS⟩ := gd_s hS
  obtain ⟨y41_16, ey41_16, hS⟩ := lt_s hS
  refine Zu (q_sfromE Tryz.underlying9 rfl rfl b41.1 b41.2 ey41_16) ?_
  refine Zy ?_
  refine VC.keep [0, 1, 6, 7] rfl ?_
  refine Zr ?_
  refine Zm ?_
  obtain ⟨b27, hS⟩ := gd_s hS
  refine Zu (q_add rfl rfl b27) ?_
  refine Za ?_
  refine VL.rnd (y41_16, w14, (i7_10 + 1)) [0, 1, 6, 7] (fun _ _ h => h) (go2 hS hK1) rfl
 replace hS := up2 hS hK1
 refine Zx ?_
 refine Zq (Zq (Zr ?_))
 refine Zm ?_
 refine Zu (q_gtr rfl rfl) ?_
 refine Zl ?_
 refine Zc hS (fun h43 hS => ?_) (fun h43 hS => ?_)
 ·
  refine Zr ?_
  refine Zy ?_
  obtain ⟨b46, hS⟩ := gd_s hS
  refine Zu (q_sub rfl rfl b46) ?_
  refine Zm ?_
  obtain ⟨z48_17, nz48_17, hz48_17, hS⟩ := at_s hS
  refine Zu (q_ixo (s := a6_9) Tryz.underlying82 gsz9 rfl rfl nz48_17 (lt_of_get nz48_17 hz48_17)) ?_
  refine VL.storeE (s := a6_9) (T := 9) (j := 0) (vc := [str s0_8]) (s0_8 : Str) (by decide) rfl rfl hz48_17 rfl gsz9 rfl rfl (Nat.le_of_ble_eq_true rfl) rfl (fun w18 hw18 haw18 hcw18 hvw18 hbw18 how18 => ?_)
  rw [← hvw18]
  replace hS := lt_to hw18 hS
  refine Zl ?_
  refine VC.keep [6] rfl ?_
  refine Zq (Zr ?_)
  refine Zy ?_
  cases hS
  exact VC.ret (fin1 (.inr rfl) rfl rfl w18 rfl rfl (by (try dsimp only); exact InM.out) (by (try dsimp only); exact EntO.out))
 refine Zk ?_
 refine Zq (Zr ?_)
 refine Zy ?_
 refine VC.keep [4] rfl ?_
 cases hS
 exact VC.ret (fin1 (.inr rfl) rfl rfl a6_9 rfl rfl (by (try dsimp only); exact InM.out) (by (try dsimp only); exact EntO.out))
theorem internal_stringslite_IndexByte_ct (s_0 : Str) (c_1 : Int) {r : Int} (hS : Sh.internal_stringslite_IndexByte s_0 c_1 = some r) :
 Ct Tryz.prog 288 [str s_0, .int .u8 c_1] Mo.tt (Ow.emp) (X := Unit) (fun _ => i64 r) (fun _ => True) (fun _ => Mo.tt) (fun _ => Ow.emp) := by
 refine Zo Tryz.func288 Tryz.ntmps288 fun c => ?_
 unfold Sh.internal_stringslite_IndexByte at hS
 refine Zq (Zr ?_)
 refine Zy ?_
 refine Zq (Zr ?_)
 refine Zy ?_
 refine Zu (q_extern Tryz.func303 rfl rfl (by kernel_rfl) (by kernel_rfl) rfl (fun w => x_ixS s_0 c_1 w)) ?_
 refine Zy ?_
 cases hS
 exact Ze
theorem internal_stringslite_Index_ct (s_0 : Str) (substr_1 : Str) {r : Int} (hS : Sh.internal_stringslite_Index s_0 substr_1 = some r) :
 Ct Tryz.prog 264 [str s_0, str substr_1] Mo.tt (Ow.emp) (X := Unit) (fun _ => i64 r) (fun _ => True) (fun _ => Mo.tt) (fun _ => Ow.emp) := by
 refine Zo Tryz.func264 Tryz.ntmps264 fun c => ?_
 unfold Sh.internal_stringslite_Index at hS
 refine Zq (Zr ?_)
 refine Zy ?_
 refine Zq (Zr ?_)
 refine Zm ?_
 refine Zu (q_slen Tryz.underlying9 rfl) ?_
 refine Zy ?_
 refine Zq (Zb ?_)
 refine VC.cutJ (S := Bool) (fun (x16_1 : Bool) => x16_1) (fun (x16_1 : Bool) => [(0, str s_0), (1, str substr_1), (5, i64 (substr_1.length : Int)), (16, .bool x16_1)]) (fun (x16_1 : Bool) => Mo.tt) (fun (x16_1 : Bool) => Ow.emp) hS ?_ ?_
 ·
  clear hS
  intro k2 hS
  refine Zr ?_
  refine Zm ?_
  refine Zu (q_eql rfl rfl) ?_
  refine Zm ?_
  refine Zsp 19 hS (fun h19 hS => ?_) (fun h19 hS => ?_)
  ·
   refine Zy ?_
   refine VL.mt true [0, 1, 5, 16] (fun _ _ h => h) hS rfl
  refine Zy ?_
  refine Zh (q_seq rfl rfl) ?_
  refine Zy ?_
  refine VL.mt (decide (substr_1 = s_0)) [0, 1, 5, 16] (fun _ _ h => h) hS rfl
 clear hS
 rintro x16_1 hS
 refine Zcb hS (fun h16 hS => ?_) (fun h16 hS => ?_)
 ·
  refine Zq (Zr ?_)
  refine Zy ?_
  cases hS
  exact Ze
 refine Zq (Zr ?_)
 refine Zm ?_
 refine Zu (q_eql rfl rfl) ?_
 refine Zy ?_
 refine Zc hS (fun h24 hS => ?_) (fun h24 hS => ?_)
 ·
  refine Zq (Zr ?_)
  refine Zy ?_
  obtain ⟨z29_3, nz29_3, hz29_3, hS⟩ := at_s hS
  refine Zu (q_sidx Tryz.underlying9 rfl rfl nz29_3 hz29_3) ?_
  obtain ⟨y30_4, ey30_4, hS⟩ := bd_s hS
  refine Zu (q_call (internal_stringslite_IndexByte_ct s_0 (z29_3.toNat : Int) ey30_4) rfl (fun _ _ => rfl)) ?_
  refine Zy ?_
  refine VC.keep [4] rfl ?_
  cases hS
  exact Ze
 refine Zq (Zr ?_)
 refine Zy ?_
 refine Zu (q_slen Tryz.underlying9 rfl) ?_
 refine Zu (q_geq rfl rfl) ?_
 refine Zy ?_
 refine VC.keep [0, 1, 5, 31] rfl ?_
 refine Zc hS (fun h31 hS => ?_) (fun h31 hS => ?_)
 ·
  refine Zq (Zr ?_)
  refine Zy ?_
  cases hS
  exact Ze
 refine Zq (Zr ?_)
 refine Zm ?_
 cases hS
theorem strings_Index_ct (s_0 : Str) (substr_1 : Str) {r : Int} (hS : Sh.strings_Index s_0 substr_1 = some r) :
 Ct Tryz.prog 228 [str s_0, str substr_1] Mo.tt (Ow.emp) (X := Unit) (fun _ => i64 r) (fun _ => True) (fun _ => Mo.tt) (fun _ => Ow.emp) := by
 refine Zo Tryz.func228 Tryz.ntmps228 fun c => ?_
 unfold Sh.strings_Index at hS
 refine Zq (Zr ?_)
 refine Zy ?_
 refine Zq (Zr ?_)
 refine Zy ?_
 obtain ⟨y7_1, ey7_1, hS⟩ := bd_s hS
 refine Zu (q_call (internal_stringslite_Index_ct s_0 substr_1 ey7_1) rfl (fun _ _ => rfl)) ?_
 refine Zy ?_
 cases hS
 exact Ze
theorem strings_Count_ct (s_0 : Str) (substr_1 : Str) {r : Int} (hS : Sh.strings_Count s_0 substr_1 = some r) :
 Ct Tryz.prog 260 [str s_0, str substr_1] Mo.tt (Ow.emp) (X := Unit) (fun _ => i64 r) (fun _ => True) (fun _ => Mo.tt) (fun _ => Ow.emp) := by
 refine Zo Tryz.func260 Tryz.ntmps260 fun c => ?_
 unfold Sh.strings_Count at hS
 refine Zq (Zr ?_)
 refine Zy ?_
 refine Zq (Zq (Zr ?_))
 refine Zm ?_
 refine Zu (q_slen Tryz.underlying9 rfl) ?_
 refine Zu (q_eql rfl rfl) ?_
 refine Zl ?_
 refine Zc hS (fun h9 hS => ?_) (fun h9 hS => ?_)
 ·
  refine Zq (Zr ?_)
  refine Zm ?_
  obtain ⟨y11_1, ey11_1, hS⟩ := bd_s hS
  refine Zu (q_call (unicode_utf8_RuneCountInString_ct s_0 ey11_1) rfl (fun _ _ => rfl)) ?_
  obtain ⟨b12, hS⟩ := gd_s hS
  refine Zu (q_add rfl rfl b12) ?_
  refine Zy ?_
  cases hS
  exact Ze
 refine Zk ?_
 refine Zq (Zq (Zr ?_))
 refine Zm ?_
 refine Zu (q_slen Tryz.underlying9 rfl) ?_
 refine Zu (q_eql rfl rfl) ?_
 refine Zl ?_
 refine Zc hS (fun h15 hS => ?_) (fun h15 hS => ?_)
 ·
  refine Zq (Zr ?_)
  refine Zy ?_
  obtain ⟨z18_2, nz18_2, hz18_2, hS⟩ := at_s hS
  refine Zu (q_sidx Tryz.underlying9 rfl rfl nz18_2 hz18_2) ?_
  refine Zu (q_extern Tryz.func282 rfl rfl (by kernel_rfl) (by kernel_rfl) rfl (fun w => x_cntS s_0 (z18_2.toNat : Int) w)) ?_
  refine Zy ?_
  refine VC.keep [4] rfl ?_
  cases hS
  exact Ze
 refine Zk ?_
 refine Zq (Zr ?_)
 refine Zy ?_
 refine Zb ?_
 refine VC.iter (S := Str × Int) (fun sg => (sg.1, sg.2)) (fun sg => [(0, str sg.1), (1, str substr_1), (5, i64 sg.2)]) (fun sg => Mo.tt) (fun sg => Ow.emp) (s_0, 0) [0, 1, 5] hS rfl ?_
 clear hS
 rintro ⟨s0_3, n5_4⟩ m1 y1 hS hK1
 refine Zb (Zq (Zr ?_))
 refine Zy ?_
 obtain ⟨y22_5, ey22_5, hS⟩ := bd_s hS
 refine Zu (q_call (strings_Index_ct s0_3 substr_1 ey22_5) rfl (fun _ _ => rfl)) ?_
 refine Zy ?_
 refine Zq (Zq (Zr ?_))
 refine Zm ?_
 refine Zu (q_eql rfl rfl) ?_
 refine Zl ?_
 refine Zc hS (fun h24 hS => ?_) (fun h24 hS => ?_)
 ·
  refine Zq (Zr ?_)
  refine Zy ?_
  refine VC.keep [4] rfl ?_
  replace hS := up2 hS hK1
  cases hS
  exact Ze
 refine Zk ?_
 refine Zq (Zr ?_)
 refine Zm ?_
 obtain ⟨b27, hS⟩ := gd_s hS
 refine Zu (q_add rfl rfl b27) ?_
 refine Zy ?_
 refine VC.keep [0, 1, 5, 6] rfl ?_
 refine Zr ?_
 refine Zy ?_
 refine Zu (q_slen Tryz.underlying9 rfl) ?_
 obtain ⟨b32, hS⟩ := gd_s hS
 refine Zu (q_add rfl rfl b32) ?_
 obtain ⟨b33, hS⟩ := gd_s hS
 obtain ⟨y33_6, ey33_6, hS⟩ := lt_s hS
 refine Zu (q_sfromE Tryz.underlying9 rfl rfl b33.1 b33.2 ey33_6) ?_
 refine Za ?_
 refine VL.rnd (y33_6, (n5_4 + 1)) [0, 1, 5] (fun _ _ h => h) (go2 hS hK1) rfl
theorem strings_genSplit_ct (s_0 : Str) (sep_1 : Str) (sepSave_2 : Int) (n_3 : Int) {r : List Str} (hS : Sh.strings_genSplit s_0 sep_1 sepSave_2 n_3 = some r) :
 Ct Tryz.prog 221 [str s_0, str sep_1, i64 sepSave_2, i64 n_3] Mo.tt (Ow.emp) (X := Sv Str) (fun x => x.val) (fun x => r = x.l) (fun x => x.ok) (fun x => Ow.emp) := by
 refine Zo Tryz.func221 Tryz.ntmps221 fun c => ?_
 unfold Sh.strings_genSplit at hS
 refine Zq (Zr ?_)
 refine Zy ?_
 refine Zq (Zq (Zr ?_))
 refine Zm ?_
 refine Zu (q_eql rfl rfl) ?_
 refine Zl ?_
 refine Zc hS (fun h13 hS => ?_) (fun h13 hS => ?_)
 ·
  refine Zq (Zr ?_)
  refine Zy ?_
  cases hS
  exact VC.ret (fin1 (.inr rfl) rfl rfl ⟨none, 0, []⟩ rfl rfl (by (try dsimp only); exact InM.out) (fun _ _ => trivial))
 refine Zk ?_
 refine Zq (Zq (Zr ?_))
 refine Zy ?_
 refine Zc hS (fun h15 hS => ?_) (fun h15 hS => ?_)
 ·
  refine Zq (Zr ?_)
  refine Zy ?_
  obtain ⟨y18_1, ey18_1, hS⟩ := bd_s hS
  refine VL.callO (strings_explode_ct s_0 n_3 ey18_1) rfl (by decide) ?_
  rintro q18_1_0 rfl
  try dsimp only
  refine Zy ?_
  refine VC.keep [8] rfl ?_
  refine VC.shut q18_1_0 9 (fun _ _ _ _ => trivial) ?_
  cases hS
  exact VC.ret (fin1 (.inr rfl) rfl rfl q18_1_0 rfl rfl (by (try dsimp only); exact InM.out) (fun _ _ => trivial))
 refine Zk ?_
 refine VC.cutJ (S := Int) (fun (n3_2 : Int) => n3_2) (fun (n3_2 : Int) => [(0, str s_0), (1, str sep_1), (2, i64 sepSave_2), (3, i64 n3_2)]) (fun (n3_2 : Int) => Mo.tt) (fun (n3_2 : Int) => Ow.emp) hS ?_ ?_
 ·
  clear hS
  intro k3 hS
  refine Zq (Zr ?_)
  refine Zm ?_
  refine Zu (q_lss rfl rfl) ?_
  refine Zl ?_
  refine Zc hS (fun h20 hS => ?_) (fun h20 hS => ?_)
  ·
   refine Zr ?_
   refine Zy ?_
   obtain ⟨y23_4, ey23_4, hS⟩ := bd_s hS
   refine Zu (q_call (strings_Count_ct s_0 sep_1 ey23_4) rfl (fun _ _ => rfl)) ?_
   obtain ⟨b24, hS⟩ := gd_s hS
   refine Zu (q_add rfl rfl b24) ?_
   refine Za ?_
   refine VL.mt (y23_4 + 1) [0, 1, 2, 3] (fun _ _ h => h) hS rfl
  refine VC.skip_mt n_3 [0, 1, 2, 3] (fun _ _ h => h) hS rfl
 clear hS
 rintro n3_2 hS
 refine Zq (Zr ?_)
 refine Zy ?_
 refine Zu (q_slen Tryz.underlying9 rfl) ?_
 obtain ⟨b28, hS⟩ := gd_s hS
 refine Zu (q_add rfl rfl b28) ?_
 refine Zu (q_min rfl) ?_
 refine Zy ?_
 refine Zq (Zr ?_)
 refine Zm ?_
 obtain ⟨b31, hS⟩ := gd_s hS
 refine VL.make (α := Str) (z := []) Tryz.underlying82 gmk9 (by decide) rfl rfl b31.1 (Int.le_refl _) (by omega) (by omega) (by decide) (fun s31_5 hs31_5 => ?_)
 replace hS := lt_to hs31_5 hS
 refine Zy ?_
 refine VC.keep [0, 1, 2, 3, 9] rfl ?_
 refine Zq (Zr ?_)
 refine Zm ?_
 obtain ⟨b33, hS⟩ := gd_s hS
 refine Zu (q_sub rfl rfl b33) ?_
 refine Zy ?_
 refine Zq (Zr ?_)
 refine Zy ?_
 refine VC.cutJ (S := Str × Sv Str × Int) (fun sg => (sg.1, sg.2.1.l, sg.2.2)) (fun sg => [(0, str sg.1), (9, sg.2.1.val), (10, i64 sg.2.2)]) (fun sg => Mo.tt) (fun sg => Ow.star (Sv.own sg.2.1 9) (Ow.emp)) hS ?_ ?_
 ·
  clear hS
  intro k10 hS
  refine Zb ?_
  refine VC.iter (S := Str × Sv Str × Int) (fun sg => (sg.1, sg.2.1.l, sg.2.2)) (fun sg => [(0, str sg.1), (1, str sep_1), (2, i64 sepSave_2), (3, i64 ((min n3_2 ((s_0.length : Int) + 1)) - 1)), (9, sg.2.1.val), (10, i64 sg.2.2)]) (fun sg => Mo.tt) (fun sg => Ow.star (Sv.own sg.2.1 9) (Ow.emp)) (s_0, s31_5, 0) [0, 1, 2, 3, 9, 10] hS rfl ?_
  clear hS
  rintro ⟨s0_11, a9_12, i10_13⟩ m1 y1 hS hK1
  refine Zq (Zq (Zr ?_))
  refine Zy ?_
  refine Zu (q_lss rfl rfl) ?_
  refine Zl ?_
  refine Zc hS (fun h36 hS => ?_) (fun h36 hS => ?_)
  ·
   refine Zk ?_
   refine Zb (Zq (Zr ?_))
   refine Zy ?_
   obtain ⟨y39_14, ey39_14, hS⟩ := bd_s hS
   refine Zu (q_call (strings_Index_ct s0_11 sep_1 ey39_14) rfl (fun _ _ => rfl)) ?_
   refine Zy ?_
   refine Zq (Zq (Zr ?_))
   refine Zm ?_
   refine Zu (q_lss rfl rfl) ?_
   refine Zl ?_
   refine VC.keep [0, 1, 2, 3, 9, 10, 11, 41] rfl ?_
   refine Zc hS (fun h41 hS => ?_) (fun h41 hS => ?_)
   ·
    replace hS := up2 hS hK1
    refine VC.exit_mt (s0_11, a9_12, i10_13) [0, 9, 10] (fun _ _ h => h) hS rfl
   refine Zk ?_
   refine Zq (Zr ?_)
   refine Zy ?_
   obtain ⟨b47, hS⟩ := gd_s hS
   refine Zu (q_add rfl rfl b47) ?_
   obtain ⟨b48, hS⟩ := gd_s hS
   obtain ⟨y48_15, ey48_15, hS⟩ := lt_s hS
   refine Zu (q_stoE Tryz.underlying9 rfl rfl b48.1 b48.2 ey48_15) ?_
   obtain ⟨z49_16, nz49_16, hz49_16, hS⟩ := at_s hS
   refine Zu (q_ixo (s := a9_12) Tryz.underlying82 gsz9 rfl rfl nz49_16 (lt_of_get nz49_16 hz49_16)) ?_
   refine VL.storeE (s := a9_12) (T := 9) (j := 0) (vc := [str y48_15]) (y48_15 : Str) (by decide) rfl rfl hz49_16 rfl gsz9 rfl rfl (Nat.le_of_ble_eq_true rfl) rfl (fun w17 hw17 haw17 hcw17 hvw17 hbw17 how17 => ?_)
   rw [← hvw17]
   replace hS := lt_to hw17 hS
   refine Zl ?_
   refine VC.keep [0, 1, 2, 3, 9, 10, 11] rfl ?_
   refine Zq (Zr ?_)
   refine Zy ?_
   refine Zu (q_slen Tryz.underlying9 rfl) ?_
   obtain ⟨b54, hS⟩ := gd_s hS
   refine Zu (q_add rfl rfl b54) ?_
   obtain ⟨b55, hS⟩ := gd_s hS
   obtain ⟨y55_19, ey55_19, hS⟩ := lt_s hS
   refine Zu (q_sfromE Tryz.underlying9 rfl rfl b55.1 b55.2 ey55_19) ?_
   refine Zy ?_
   refine VC.keep [0, 1, 2, 3, 9, 10] rfl ?_
   refine Zr ?_
   refine Zm ?_
   obtain ⟨b57, hS⟩ := gd_s hS
   refine Zu (q_add rfl rfl b57) ?_
   refine Za ?_
   refine VL.rnd (y55_19, w17, (i10_13 + 1)) [0, 1, 2, 3, 9, 10] (fun _ _ h => h) (go2 hS hK1) rfl
  replace hS := up2 hS hK1
  refine VC.exit_mt (s0_11, a9_12, i10_13) [0, 9, 10] (fun _ _ h => h) hS rfl
 clear hS
 rintro ⟨s0_7, a9_8, i10_9⟩ hS
 refine Zq (Zr ?_)
 refine Zy ?_
 obtain ⟨z61_20, nz61_20, hz61_20, hS⟩ := at_s hS
 refine Zu (q_ixo (s := a9_8) Tryz.underlying82 gsz9 rfl rfl nz61_20 (lt_of_get nz61_20 hz61_20)) ?_
 refine VL.storeE (s := a9_8) (T := 9) (j := 0) (vc := [str s0_7]) (s0_7 : Str) (by decide) rfl rfl hz61_20 rfl gsz9 rfl rfl (Nat.le_of_ble_eq_true rfl) rfl (fun w21 hw21 haw21 hcw21 hvw21 hbw21 how21 => ?_)
 rw [← hvw21]
 replace hS := lt_to hw21 hS
 refine Zl ?_
 refine Zq (Zr ?_)
 refine Zy ?_
 obtain ⟨b64, hS⟩ := gd_s hS
 refine Zu (q_add rfl rfl b64) ?_
 refine VL.shut w21 9 (fun _ _ _ _ => trivial) ?_
 obtain ⟨b65, hS⟩ := gd_s hS
 refine VL.sto Tryz.underlying82 gsz9 rfl rfl b65.1 (b65.2) (by decide) fun s65_23 hs65_23 => ?_
 replace hS := lt_to hs65_23 hS
 refine Zy ?_
 refine VC.keep [8] rfl ?_
 cases hS
 exact VC.ret (fin1 (.inr rfl) rfl rfl s65_23 rfl rfl (by (try dsimp only); exact InM.out) (fun _ _ => trivial))
theorem strings_Split_ct (s_0 : Str) (sep_1 : Str) {r : List Str} (hS : Sh.strings_Split s_0 sep_1 = some r) :
 Ct Tryz.prog 177 [str s_0, str sep_1] Mo.tt (Ow.emp) (X := Sv Str) (fun x => x.val) (fun x => r = x.l) (fun x => x.ok) (fun x => Ow.emp) := by
 refine Zo Tryz.func177 Tryz.ntmps177 fun c => ?_
 unfold Sh.strings_Split at hS
 refine Zq (Zr ?_)
 refine Zy ?_
 refine Zq (Zr ?_)
 refine Zy ?_
 obtain ⟨y7_1, ey7_1, hS⟩ := bd_s hS
 refine VL.callF (strings_genSplit_ct s_0 sep_1 0 (-1) ey7_1) rfl (by decide) ?_
 rintro q7_1_0 rfl
 try dsimp only
 refine Zy ?_
 cases hS
 exact VC.ret (fin1 (.inr rfl) rfl rfl q7_1_0 rfl rfl (by (try dsimp only); exact InM.out) (fun _ _ => trivial))
theorem path_good_ct (c_0 : Int) {r : Bool} (hS : Sh.path_good c_0 = some r) :
 Ct Tryz.prog 222 [.int .u8 c_0] Mo.tt (Ow.emp) (X := Unit) (fun _ => .bool r) (fun _ => True) (fun _ => Mo.tt) (fun _ => Ow.emp) := by
 refine Zo Tryz.func222 Tryz.ntmps222 fun c => ?_
 unfold Sh.path_good at hS
 refine Zq (Zr ?_)
 refine Zy ?_
 refine VC.cutJ (S := Unit) (fun (_ : Unit) => ()) (fun (_ : Unit) => [(0, .int .u8 c_0)]) (fun (_ : Unit) => Mo.tt) (fun (_ : Unit) => Ow.emp) hS ?_ ?_
 ·
  clear hS
  intro k1 hS
  refine Zq (Zr ?_)
  refine Zy ?_
  refine Zb ?_
  refine VC.cutJ (S := Unit) (fun (_ : Unit) => ()) (fun (_ : Unit) => []) (fun (_ : Unit) => Mo.tt) (fun (_ : Unit) => Ow.emp) hS ?_ ?_
  ·
   clear hS
   intro k2 hS
   refine Zb (Zb (Zb (Zq (Zq (Zq (Zr ?_))))))
   refine Zu (q_eql rfl rfl) ?_
   refine Zy ?_
   refine Zc hS (fun h4 hS => ?_) (fun h4 hS => ?_)
   ·
    refine VC.exit_mt () [] (fun _ _ h => h) hS rfl
   refine Zk ?_
   refine Zq (Zq (Zr ?_))
   refine Zu (q_eql rfl rfl) ?_
   refine Zy ?_
   refine Zc hS (fun h6 hS => ?_) (fun h6 hS => ?_)
   ·
    refine VC.exit_mt () [] (fun _ _ h => h) hS rfl
   refine Zk ?_
   refine Zq (Zr ?_)
   refine Zu (q_eql rfl rfl) ?_
   refine Zy ?_
   refine Zc hS (fun h8 hS => ?_) (fun h8 hS => ?_)
   ·
    refine VC.exit_mt () [] (fun _ _ h => h) hS rfl
   refine Zk ?_
   refine VC.exit_mt () [0] (fun _ _ h => h) hS rfl
  clear hS
  rintro _ hS
  refine Zq (Zq (Zr ?_))
  refine Zy ?_
  cases hS
  exact Ze
 clear hS
 rintro _ hS
 refine Zq (Zr ?_)
 refine Zm ?_
 refine Zu (q_geq rfl rfl) ?_
 refine Zm ?_
 refine Zsp 12 hS (fun h12 hS => ?_) (fun h12 hS => ?_)
 ·
  refine Zg ?_
  refine Zh (q_leq rfl rfl) ?_
  refine Zy ?_
  refine Zsp 16 hS (fun h16 hS => ?_) (fun h16 hS => ?_)
  ·
   refine Zy ?_
   refine VL.gu rfl rfl (by decide) ?_
   refine VL.gu rfl rfl (by decide) ?_
   refine Zy ?_
   refine VC.keep [2] rfl ?_
   cases hS
   exact Ze
  refine Zg ?_
  refine Zh (q_geq rfl rfl) ?_
  refine Zg ?_
  refine Zsp 19 hS (fun h19 hS => ?_) (fun h19 hS => ?_)
  ·
   refine Zg ?_
   refine Zh (q_leq rfl rfl) ?_
   refine Zh (q_pick_t rfl rfl) ?_
   refine Zy ?_
   refine VC.keep [2] rfl ?_
   cases hS
   exact Ze
  refine Zy ?_
  refine Zh (q_pick_f rfl rfl) ?_
  refine Zy ?_
  refine VC.keep [2] rfl ?_
  cases hS
  exact Ze
 refine Zy ?_
 refine Zh (q_geq rfl rfl) ?_
 refine Zg ?_
 refine Zsp 19 hS (fun h19 hS => ?_) (fun h19 hS => ?_)
 ·
  refine Zg ?_
  refine Zh (q_leq rfl rfl) ?_
  refine Zh (q_pick_t rfl rfl) ?_
  refine Zy ?_
  refine VC.keep [2] rfl ?_
  cases hS
  exact Ze
 refine Zy ?_
 refine Zh (q_pick_f rfl rfl) ?_
 refine Zy ?_
 refine VC.keep [2] rfl ?_
 cases hS
 exact Ze
theorem path_part_ct (s_0 : Str) {r : Bool} (hS : Sh.path_part s_0 = some r) :
 Ct Tryz.prog 178 [str s_0] Mo.tt (Ow.emp) (X := Unit) (fun _ => .bool r) (fun _ => True) (fun _ => Mo.tt) (fun _ => Ow.emp) := by
 refine Zo Tryz.func178 Tryz.ntmps178 fun c => ?_
 unfold Sh.path_part at hS
 refine Zq (Zr ?_)
 refine Zy ?_
 refine Zq ?_
 refine VC.cutJ (S := Bool) (fun (x14_1 : Bool) => x14_1) (fun (x14_1 : Bool) => [(0, str s_0), (14, .bool x14_1)]) (fun (x14_1 : Bool) => Mo.tt) (fun (x14_1 : Bool) => Ow.emp) hS ?_ ?_
 ·
  clear hS
  intro k2 hS
  refine Zr ?_
  refine Zy ?_
  refine Zsp 7 hS (fun h7 hS => ?_) (fun h7 hS => ?_)
  ·
   refine Zy ?_
   refine VL.mt true [0, 14] (fun _ _ h => h) hS rfl
  refine Zg ?_
  refine Zh (q_seq rfl rfl) ?_
  refine Zy ?_
  refine Zsp 11 hS (fun h11 hS => ?_) (fun h11 hS => ?_)
  ·
   refine Zy ?_
   refine VL.mt true [0, 14] (fun _ _ h => h) hS rfl
  refine Zg ?_
  refine Zh (q_seq rfl rfl) ?_
  refine Zf ?_
  refine VL.mt (decide (s_0 = [46, 46])) [0, 14] (fun _ _ h => h) hS rfl
 clear hS
 rintro x14_1 hS
 refine Zcb hS (fun h14 hS => ?_) (fun h14 hS => ?_)
 ·
  refine Zq (Zr ?_)
  refine Zy ?_
  cases hS
  exact Ze
 refine Zk ?_
 refine Zq (Zq (Zr ?_))
 refine Zm ?_
 obtain ⟨b16, hS⟩ := gd_s hS
 refine VL.s2b Tryz.underlying9 Tryz.underlying27 Tryz.underlying5 rfl b16 (by decide) fun s16_3 hs16_3 => ?_
 replace hS := lt_to hs16_3 hS
 refine Zu (q_ln (s := s16_3) Tryz.underlying27 rfl) ?_
 refine Zy ?_
 refine Zb ?_
 refine VC.iter (S := Int) (fun (x18_5 : Int) => x18_5) (fun (x18_5 : Int) => [(16, s16_3.val), (17, i64 (s16_3.l.length : Int)), (18, i64 x18_5)]) (fun (x18_5 : Int) => Mo.tt) (fun (x18_5 : Int) => Ow.emp) 0 [16, 17, 18] hS rfl ?_
 clear hS
 rintro x18_5 m1 y1 hS hK1
 refine Zq (Zr ?_)
 refine Zu (q_lss rfl rfl) ?_
 refine Zl ?_
 refine Zq ?_
 refine Zc hS (fun h19 hS => ?_) (fun h19 hS => ?_)
 ·
  refine Zk ?_
  refine Zq (Zb (Zq (Zr ?_)))
  obtain ⟨z20_6, nz20_6, hz20_6, hS⟩ := at_s hS
  refine Zu (q_ixm (s := s16_3) Tryz.underlying27 gsz5 rfl rfl nz20_6 (lt_of_get nz20_6 hz20_6)) ?_
  refine Zu (q_el (s := s16_3) gone5 rfl hz20_6 rfl) ?_
  refine Zy ?_
  refine Zq (Zr ?_)
  refine Zm ?_
  obtain ⟨y23_7, ey23_7, hS⟩ := bd_s hS
  refine Zu (q_call (path_good_ct (z20_6.toNat : Int) ey23_7) rfl (fun _ _ => rfl)) ?_
  refine Zu (q_not rfl) ?_
  refine Zl ?_
  refine Zcb hS (fun h24 hS => ?_) (fun h24 hS => ?_)
  ·
   refine Zq (Zr ?_)
   refine Zy ?_
   refine VC.keep [2] rfl ?_
   replace hS := up2 hS hK1
   cases hS
   exact Ze
  refine Zk ?_
  refine Zr ?_
  obtain ⟨b25, hS⟩ := gd_s hS
  refine Zu (q_add rfl rfl b25) ?_
  refine Zm ?_
  refine VL.rnd (x18_5 + 1) [16, 17, 18] (fun _ _ h => h) (go2 hS hK1) rfl
 replace hS := up2 hS hK1
 refine Zx ?_
 refine Zq (Zr ?_)
 refine Zy ?_
 cases hS
 exact Ze
theorem path_Check_ct (p_0 : Str) {r : Int} (hS : Sh.path_Check p_0 = some r) :
 Ct Tryz.prog 122 [str p_0] Mo.tt (Ow.emp) (X := Unit) (fun _ => i64 r) (fun _ => True) (fun _ => Mo.tt) (fun _ => Ow.emp) := by
 refine Zo Tryz.func122 Tryz.ntmps122 fun c => ?_
 unfold Sh.path_Check at hS
 refine Zq (Zr ?_)
 refine Zy ?_
 refine Zq (Zq (Zr ?_))
 refine Zm ?_
 refine Zu (q_slen Tryz.underlying9 rfl) ?_
 refine Zu (q_gtr rfl rfl) ?_
 refine Zl ?_
 refine Zc hS (fun h7 hS => ?_) (fun h7 hS => ?_)
 ·
  refine Zq (Zr ?_)
  refine Zy ?_
  cases hS
  exact Ze
 refine Zk ?_
 refine Zq (Zq (Zr ?_))
 refine Zm ?_
 obtain ⟨y9_1, ey9_1, hS⟩ := bd_s hS
 refine VL.callF (strings_Split_ct p_0 [47] ey9_1) rfl (by decide) ?_
 rintro q9_1_0 rfl
 try dsimp only
 refine Zu (q_ln (s := q9_1_0) Tryz.underlying82 rfl) ?_
 refine Zy ?_
 refine Zb ?_
 refine VC.iter (S := Int) (fun (x11_2 : Int) => x11_2) (fun (x11_2 : Int) => [(9, q9_1_0.val), (10, i64 (q9_1_0.l.length : Int)), (11, i64 x11_2)]) (fun (x11_2 : Int) => Mo.tt) (fun (x11_2 : Int) => Ow.emp) 0 [9, 10, 11] hS rfl ?_
 clear hS
 rintro x11_2 m1 y1 hS hK1
 refine Zq (Zr ?_)
 refine Zu (q_lss rfl rfl) ?_
 refine Zl ?_
 refine Zq ?_
 refine Zc hS (fun h12 hS => ?_) (fun h12 hS => ?_)
 ·
  refine Zk ?_
  refine Zq (Zb (Zq (Zr ?_)))
  obtain ⟨z13_3, nz13_3, hz13_3, hS⟩ := at_s hS
  refine Zu (q_ixm (s := q9_1_0) Tryz.underlying82 gsz9 rfl rfl nz13_3 (lt_of_get nz13_3 hz13_3)) ?_
  refine Zu (q_el (s := q9_1_0) gone9 rfl hz13_3 rfl) ?_
  refine Zy ?_
  refine Zq (Zr ?_)
  refine Zm ?_
  obtain ⟨y16_4, ey16_4, hS⟩ := bd_s hS
  refine Zu (q_call (path_part_ct z13_3 ey16_4) rfl (fun _ _ => rfl)) ?_
  refine Zu (q_not rfl) ?_
  refine Zl ?_
  refine Zcb hS (fun h17 hS => ?_) (fun h17 hS => ?_)
  ·
   refine Zq (Zr ?_)
   refine Zy ?_
   refine VC.keep [2] rfl ?_
   replace hS := up2 hS hK1
   cases hS
   exact Ze
  refine Zk ?_
  refine Zr ?_
  obtain ⟨b18, hS⟩ := gd_s hS
  refine Zu (q_add rfl rfl b18) ?_
  refine Zm ?_
  refine VL.rnd (x11_2 + 1) [9, 10, 11] (fun _ _ h => h) (go2 hS hK1) rfl
 replace hS := up2 hS hK1
 refine Zx ?_
 refine Zq (Zr ?_)
 refine Zy ?_
 cases hS
 exact Ze
theorem cmp_isNaN_string_ct (x_0 : Str) {r : Bool} (hS : Sh.cmp_isNaN_string x_0 = some r) :
 Ct Tryz.prog 223 [str x_0] Mo.tt (Ow.emp) (X := Unit) (fun _ => .bool r) (fun _ => True) (fun _ => Mo.tt) (fun _ => Ow.emp) := by
 refine Zo Tryz.func223 Tryz.ntmps223 fun c => ?_
 unfold Sh.cmp_isNaN_string at hS
 refine Zq (Zr ?_)
 refine Zy ?_
 refine Zq (Zr ?_)
 refine Zy ?_
 refine Zu (q_sne rfl rfl) ?_
 refine Zy ?_
 cases hS
 exact Ze
theorem cmp_Compare_string_ct (x_0 : Str) (y_1 : Str) {r : Int} (hS : Sh.cmp_Compare_string x_0 y_1 = some r) :
 Ct Tryz.prog 179 [str x_0, str y_1] Mo.tt (Ow.emp) (X := Unit) (fun _ => i64 r) (fun _ => True) (fun _ => Mo.tt) (fun _ => Ow.emp) := by
 refine Zo Tryz.func179 Tryz.ntmps179 fun c => ?_
 unfold Sh.cmp_Compare_string at hS
 refine Zq (Zr ?_)
 refine Zy ?_
 refine Zq (Zr ?_)
 refine Zm ?_
 obtain ⟨y8_1, ey8_1, hS⟩ := bd_s hS
 refine Zu (q_call (cmp_isNaN_string_ct x_0 ey8_1) rfl (fun _ _ => rfl)) ?_
 refine Zy ?_
 refine Zq (Zr ?_)
 refine Zm ?_
 obtain ⟨y10_2, ey10_2, hS⟩ := bd_s hS
 refine Zu (q_call (cmp_isNaN_string_ct y_1 ey10_2) rfl (fun _ _ => rfl)) ?_
 refine Zy ?_
 refine Zq (Zq (Zr ?_))
 refine Zy ?_
 refine Zcb hS (fun h11 hS => ?_) (fun h11 hS => ?_)
 ·
  refine Zq (Zq (Zr ?_))
  refine Zy ?_
  refine VC.keep [12] rfl ?_
  refine Zcb hS (fun h12 hS => ?_) (fun h12 hS => ?_)
  ·
   refine Zq (Zr ?_)
   refine Zy ?_
   cases hS
   exact Ze
  refine Zk ?_
  refine Zq (Zr ?_)
  refine Zy ?_
  cases hS
  exact Ze
 refine Zk ?_
 refine Zq (Zq (Zr ?_))
 refine Zy ?_
 refine VC.keep [0, 1, 13] rfl ?_
 refine Zcb hS (fun h13 hS => ?_) (fun h13 hS => ?_)
 ·
  refine Zq (Zr ?_)
  refine Zy ?_
  cases hS
  exact Ze
 refine Zk ?_
 refine Zq (Zq (Zr ?_))
 refine Zy ?_
 refine Zu (q_slss rfl rfl) ?_
 refine Zl ?_
 refine Zcb hS (fun h16 hS => ?_) (fun h16 hS => ?_)
 ·
  refine Zq (Zr ?_)
  refine Zy ?_
  cases hS
  exact Ze
 refine Zk ?_
 refine Zq (Zq (Zr ?_))
 refine Zy ?_
 refine Zu (q_sgtr rfl rfl) ?_
 refine Zl ?_
 refine Zcb hS (fun h19 hS => ?_) (fun h19 hS => ?_)
 ·
  refine Zq (Zr ?_)
  refine Zy ?_
  cases hS
  exact Ze
 refine Zk ?_
 refine Zq (Zr ?_)
 refine Zy ?_
 cases hS
 exact Ze
theorem path_Compare_ct (a_0 : Str) (b_1 : Str) {r : Int} (hS : Sh.path_Compare a_0 b_1 = some r) :
 Ct Tryz.prog 123 [str a_0, str b_1] Mo.tt (Ow.emp) (X := Unit) (fun _ => i64 r) (fun _ => True) (fun _ => Mo.tt) (fun _ => Ow.emp) := by
 refine Zo Tryz.func123 Tryz.ntmps123 fun c => ?_
 unfold Sh.path_Compare at hS
 refine Zq (Zr ?_)
 refine Zy ?_
 refine Zq (Zr ?_)
 refine Zy ?_
 obtain ⟨y7_1, ey7_1, hS⟩ := bd_s hS
 refine Zu (q_call (cmp_Compare_string_ct a_0 b_1 ey7_1) rfl (fun _ _ => rfl)) ?_
 refine Zy ?_
 cases hS
 exact Ze
theorem internal_stringslite_HasPrefix_ct (s_0 : Str) (prefix_1 : Str) {r : Bool} (hS : Sh.internal_stringslite_HasPrefix s_0 prefix_1 = some r) :
 Ct Tryz.prog 238 [str s_0, str prefix_1] Mo.tt (Ow.emp) (X := Unit) (fun _ => .bool r) (fun _ => True) (fun _ => Mo.tt) (fun _ => Ow.emp) := by
 refine Zo Tryz.func238 Tryz.ntmps238 fun c => ?_
 unfold Sh.internal_stringslite_HasPrefix at hS
 refine Zq (Zr ?_)
 refine Zy ?_
 refine Zq (Zr ?_)
 refine Zm ?_
 refine Zu (q_slen Tryz.underlying9 rfl) ?_
 refine Zm ?_
 refine Zu (q_slen Tryz.underlying9 rfl) ?_
 refine Zu (q_geq rfl rfl) ?_
 refine Zm ?_
 refine Zsp 10 hS (fun h10 hS => ?_) (fun h10 hS => ?_)
 ·
  refine Zy ?_
  refine Zh (q_slen Tryz.underlying9 rfl) ?_
  obtain ⟨b14, hS⟩ := gd_s hS
  obtain ⟨y14_1, ey14_1, hS⟩ := lt_s hS
  refine Zh (q_stoE Tryz.underlying9 rfl rfl b14.1 b14.2 ey14_1) ?_
  refine Zg ?_
  refine Zh (q_seq rfl rfl) ?_
  refine Zy ?_
  refine VC.keep [4] rfl ?_
  cases hS
  exact Ze
 refine Zy ?_
 refine VC.keep [4] rfl ?_
 cases hS
 exact Ze
theorem strings_HasPrefix_ct (s_0 : Str) (prefix_1 : Str) {r : Bool} (hS : Sh.strings_HasPrefix s_0 prefix_1 = some r) :
 Ct Tryz.prog 197 [str s_0, str prefix_1] Mo.tt (Ow.emp) (X := Unit) (fun _ => .bool r) (fun _ => True) (fun _ => Mo.tt) (fun _ => Ow.emp) := by
 refine Zo Tryz.func197 Tryz.ntmps197 fun c => ?_
 unfold Sh.strings_HasPrefix at hS
 refine Zq (Zr ?_)
 refine Zy ?_
 refine Zq (Zr ?_)
 refine Zy ?_
 obtain ⟨y7_1, ey7_1, hS⟩ := bd_s hS
 refine Zu (q_call (internal_stringslite_HasPrefix_ct s_0 prefix_1 ey7_1) rfl (fun _ _ => rfl)) ?_
 refine Zy ?_
 cases hS
 exact Ze
theorem path_Under_ct (p_0 : Str) (dir_1 : Str) {r : Bool} (hS : Sh.path_Under p_0 dir_1 = some r) :
 Ct Tryz.prog 149 [str p_0, str dir_1] Mo.tt (Ow.emp) (X := Unit) (fun _ => .bool r) (fun _ => True) (fun _ => Mo.tt) (fun _ => Ow.emp) := by
 refine Zo Tryz.func149 Tryz.ntmps149 fun c => ?_
 unfold Sh.path_Under at hS
 refine Zq (Zr ?_)
 refine Zy ?_
 refine Zq (Zq (Zr ?_))
 refine Zy ?_
 refine Zc hS (fun h6 hS => ?_) (fun h6 hS => ?_)
 ·
  refine Zq (Zr ?_)
  refine Zm ?_
  refine Zu (q_sne rfl rfl) ?_
  refine Zy ?_
  cases hS
  exact Ze
 refine Zk ?_
 refine Zq (Zr ?_)
 refine Zm ?_
 refine Zu (q_slen Tryz.underlying9 rfl) ?_
 refine Zm ?_
 refine Zu (q_slen Tryz.underlying9 rfl) ?_
 obtain ⟨b13, hS⟩ := gd_s hS
 refine Zu (q_add rfl rfl b13) ?_
 refine Zu (q_gtr rfl rfl) ?_
 refine Zm ?_
 refine Zsp 15 hS (fun h15 hS => ?_) (fun h15 hS => ?_)
 ·
  refine Zy ?_
  obtain ⟨b18, hS⟩ := gd_s hS
  obtain ⟨y18_1, ey18_1, hS⟩ := lt_s hS
  refine Zh (q_catE rfl rfl b18 ey18_1) ?_
  obtain ⟨y19_2, ey19_2, hS⟩ := bd_s hS
  refine Zh (q_call (strings_HasPrefix_ct p_0 y18_1 ey19_2) rfl (fun _ _ => rfl)) ?_
  refine Zy ?_
  refine VC.keep [4] rfl ?_
  cases hS
  exact Ze
 refine Zy ?_
 refine VC.keep [4] rfl ?_
 cases hS
 exact Ze
theorem path_Clash_ct (a_0 : Str) (b_1 : Str) {r : Bool} (hS : Sh.path_Clash a_0 b_1 = some r) :
 Ct Tryz.prog 80 [str a_0, str b_1] Mo.tt (Ow.emp) (X := Unit) (fun _ => .bool r) (fun _ => True) (fun _ => Mo.tt) (fun _ => Ow.emp) := by
 refine Zo Tryz.func80 Tryz.ntmps80 fun c => ?_
 unfold Sh.path_Clash at hS
 refine Zq (Zr ?_)
 refine Zy ?_
 refine Zq (Zr ?_)
 refine Zm ?_
 refine Zu (q_sne rfl rfl) ?_
 refine Zm ?_
 refine Zspn 7 hS (fun h7 hS => ?_) (fun h7 hS => ?_)
 ·
  refine Zg ?_
  refine Zh (q_sne rfl rfl) ?_
  refine Zy ?_
  refine Zspn 11 hS (fun h11 hS => ?_) (fun h11 hS => ?_)
  ·
   refine Zy ?_
   obtain ⟨y14_1, ey14_1, hS⟩ := bd_s hS
   refine Zh (q_call (path_Under_ct a_0 b_1 ey14_1) rfl (fun _ _ => rfl)) ?_
   refine Zg ?_
   refine Zspb 15 hS (fun h15 hS => ?_) (fun h15 hS => ?_)
   ·
    refine Zy ?_
    refine Zh (q_pick_t rfl rfl) ?_
    refine Zy ?_
    refine VC.keep [4] rfl ?_
    cases hS
    exact Ze
   refine Zy ?_
   obtain ⟨y18_2, ey18_2, hS⟩ := bd_s hS
   refine Zh (q_call (path_Under_ct b_1 a_0 ey18_2) rfl (fun _ _ => rfl)) ?_
   refine Zh (q_pick_f rfl rfl) ?_
   refine Zy ?_
   refine VC.keep [4] rfl ?_
   cases hS
   exact Ze
  refine Zy ?_
  refine VL.gu rfl rfl (by decide) ?_
  refine VL.gu rfl rfl (by decide) ?_
  refine VL.gu rfl rfl (by decide) ?_
  refine Zy ?_
  refine VC.keep [4] rfl ?_
  cases hS
  exact Ze
 refine Zy ?_
 refine VL.gu rfl rfl (by decide) ?_
 refine VL.gu rfl rfl (by decide) ?_
 refine VL.gu rfl rfl (by decide) ?_
 refine Zy ?_
 refine VC.keep [4] rfl ?_
 cases hS
 exact Ze
theorem files_Row_wrong_1_ct (g_0 : FilesFile) (a_1_b : Nat) (a_1 : FilesFile) {r : Bool} (hS : Sh.files_Row_wrong_1 g_0 a_1 = some r) :
 Ct Tryz.prog 125 [.agg #[str g_0.path, i64 g_0.mode, str g_0.data], ptr a_1_b 0] (Cells a_1_b 0 [str a_1.path, i64 a_1.mode, str a_1.data]) (Ow.emp) (X := Unit) (fun _ => .bool r) (fun _ => True) (fun _ => Mo.tt) (fun _ => Ow.emp) := by
 refine Zo Tryz.func125 Tryz.ntmps125 fun c => ?_
 unfold Sh.files_Row_wrong_1 at hS
 refine Zq (Zr ?_)
 refine VL.box (cs := [str g_0.path, i64 g_0.mode, str g_0.data]) rfl rfl (by decide) fun b2_1 => ?_
 refine Zy ?_
 refine Zq (Zr ?_)
 refine Zu (q_field gfa42_0 rfl) ?_
 refine Zu (q_fe gone9 rfl rfl) ?_
 refine Zu (q_field gfa42_0 rfl) ?_
 refine Zu (q_fm gone9 rfl rfl) ?_
 obtain ⟨y8_2, ey8_2, hS⟩ := bd_s hS
 refine Zu (q_call (path_Clash_ct g_0.path a_1.path ey8_2) rfl (fun _ _ => rfl)) ?_
 refine Zy ?_
 cases hS
 exact Ze
theorem slices_IndexFunc_files_Row_files_File_ct (s_0 : Sv FilesFile) (f_1_0_b : Nat) (f_1_0 : FilesFile) {r : Int} (hS : Sh.slices_IndexFunc_files_Row_files_File s_0.l f_1_0 = some r) :
 Ct Tryz.prog 148 [s_0.val, .func (.func 125) #[] #[ptr f_1_0_b 0]] (s_0.ok.and (Cells f_1_0_b 0 [str f_1_0.path, i64 f_1_0.mode, str f_1_0.data])) (Ow.emp) (X := Unit) (fun _ => i64 r) (fun _ => True) (fun _ => Mo.tt) (fun _ => Ow.emp) := by
 refine Zo Tryz.func148 Tryz.ntmps148 fun c => ?_
 unfold Sh.slices_IndexFunc_files_Row_files_File at hS
 refine Zq (Zr ?_)
 refine Zy ?_
 refine Zq (Zq (Zr ?_))
 refine Zm ?_
 refine Zu (q_ln (s := s_0) Tryz.underlying38 rfl) ?_
 refine Zy ?_
 refine Zb ?_
 refine VC.iter (S := Int) (fun (x8_1 : Int) => x8_1) (fun (x8_1 : Int) => [(0, s_0.val), (1, .func (.func 125) #[] #[ptr f_1_0_b 0]), (7, i64 (s_0.l.length : Int)), (8, i64 x8_1)]) (fun (x8_1 : Int) => Mo.tt) (fun (x8_1 : Int) => Ow.emp) 0 [0, 1, 7, 8] hS rfl ?_
 clear hS
 rintro x8_1 m1 y1 hS hK1
 refine Zq (Zr ?_)
 refine Zu (q_lss rfl rfl) ?_
 refine Zl ?_
 refine Zq ?_
 refine Zc hS (fun h9 hS => ?_) (fun h9 hS => ?_)
 ·
  refine Zk ?_
  refine Zq (Zb (Zq (Zr ?_)))
  refine Zy ?_
  refine Zq (Zr ?_)
  refine Zy ?_
  obtain ⟨z14_2, nz14_2, hz14_2, hS⟩ := at_s hS
  refine Zu (q_ixm (s := s_0) Tryz.underlying38 gsz42 rfl rfl nz14_2 (lt_of_get nz14_2 hz14_2)) ?_
  refine Zu (q_els (s := s_0) gagg42 rfl rfl hz14_2) ?_
  obtain ⟨y16_3, ey16_3, hS⟩ := bd_s hS
  refine Zu (q_callVC (vs := [.agg #[str z14_2.path, i64 z14_2.mode, str z14_2.data]]) (caps := [ptr f_1_0_b 0]) (files_Row_wrong_1_ct z14_2 f_1_0_b f_1_0 ey16_3) rfl rfl (fun _ _ => rfl)) ?_
  refine Zl ?_
  refine VC.keep [0, 1, 7, 8, 5, 16] rfl ?_
  refine Zcb hS (fun h16 hS => ?_) (fun h16 hS => ?_)
  ·
   refine Zq (Zr ?_)
   refine Zy ?_
   replace hS := up2 hS hK1
   cases hS
   exact Ze
  refine Zk ?_
  refine Zr ?_
  obtain ⟨b18, hS⟩ := gd_s hS
  refine Zu (q_add rfl rfl b18) ?_
  refine Zm ?_
  refine VL.rnd (x8_1 + 1) [0, 1, 7, 8] (fun _ _ h => h) (go2 hS hK1) rfl
 replace hS := up2 hS hK1
 refine Zx ?_
 refine Zq (Zr ?_)
 refine Zy ?_
 cases hS
 exact Ze
theorem slices_ContainsFunc_files_Row_files_File_ct (s_0 : Sv FilesFile) (f_1_0_b : Nat) (f_1_0 : FilesFile) {r : Bool} (hS : Sh.slices_ContainsFunc_files_Row_files_File s_0.l f_1_0 = some r) :
 Ct Tryz.prog 124 [s_0.val, .func (.func 125) #[] #[ptr f_1_0_b 0]] (s_0.ok.and (Cells f_1_0_b 0 [str f_1_0.path, i64 f_1_0.mode, str f_1_0.data])) (Ow.emp) (X := Unit) (fun _ => .bool r) (fun _ => True) (fun _ => Mo.tt) (fun _ => Ow.emp) := by
 refine Zo Tryz.func124 Tryz.ntmps124 fun c => ?_
 unfold Sh.slices_ContainsFunc_files_Row_files_File at hS
 refine Zq (Zr ?_)
 refine Zy ?_
 refine Zq (Zr ?_)
 refine Zy ?_
 obtain ⟨y7_1, ey7_1, hS⟩ := bd_s hS
 refine Zu (q_callR (slices_IndexFunc_files_Row_files_File_ct s_0 f_1_0_b f_1_0 ey7_1) rfl (fun _ _ => rfl)) ?_
 refine Zu (q_geq rfl rfl) ?_
 refine Zy ?_
 cases hS
 exact Ze
theorem files_Row_wrong_ct (r_0 : Sv FilesFile) (i_1 : Int) {r : Int} (hS : Sh.files_Row_wrong r_0.l i_1 = some r) :
 Ct Tryz.prog 59 [r_0.val, i64 i_1] r_0.ok (Ow.emp) (X := Unit) (fun _ => i64 r) (fun _ => True) (fun _ => Mo.tt) (fun _ => Ow.emp) := by
 refine Zo Tryz.func59 Tryz.ntmps59 fun c => ?_
 unfold Sh.files_Row_wrong at hS
 refine Zq (Zr ?_)
 refine Zy ?_
 refine Zq (Zr ?_)
 refine Zy ?_
 obtain ⟨z9_1, nz9_1, hz9_1, hS⟩ := at_s hS
 refine Zu (q_ixm (s := r_0) Tryz.underlying38 gsz42 rfl rfl nz9_1 (lt_of_get nz9_1 hz9_1)) ?_
 refine Zu (q_els (s := r_0) gagg42 rfl rfl hz9_1) ?_
 refine VL.alloc (cs := [str [], i64 0, str []]) (by kernel_rfl) (by decide) fun b5_2 => ?_
 refine Zv (vc := [str z9_1.path, i64 z9_1.mode, str z9_1.data]) (cs' := [str z9_1.path, i64 z9_1.mode, str z9_1.data]) rfl gsz42 ?_
 refine Zl ?_
 refine Zq (Zq (Zr ?_))
 refine Zu (q_field gfa42_0 rfl) ?_
 refine Zu (q_fe gone9 rfl rfl) ?_
 obtain ⟨y13_3, ey13_3, hS⟩ := bd_s hS
 refine Zu (q_call (path_Check_ct z9_1.path ey13_3) rfl (fun _ _ => rfl)) ?_
 refine Zy ?_
 refine VC.keep [0, 1, 5, 6] rfl ?_
 refine Zq (Zr ?_)
 refine Zm ?_
 refine Zu (q_neq rfl rfl) ?_
 refine Zl ?_
 refine Zcn hS (fun h15 hS => ?_) (fun h15 hS => ?_)
 ·
  refine Zq (Zr ?_)
  refine Zy ?_
  cases hS
  exact Ze
 refine Zk ?_
 refine Zq (Zb ?_)
 refine VC.cutJ (S := Bool) (fun (x17_4 : Bool) => x17_4) (fun (x17_4 : Bool) => [(0, r_0.val), (1, i64 i_1), (5, ptr b5_2 0), (17, .bool x17_4)]) (fun (x17_4 : Bool) => Mo.tt) (fun (x17_4 : Bool) => Ow.star (Blk b5_2 [str z9_1.path, i64 z9_1.mode, str z9_1.data] 42) (Ow.emp)) hS ?_ ?_
 ·
  clear hS
  intro k5 hS
  refine Zr ?_
  refine Zu (q_field gfa42_1 rfl) ?_
  refine Zu (q_fe gone3 rfl rfl) ?_
  refine Zu (q_neq rfl rfl) ?_
  refine Zm ?_
  refine Zspn 21 hS (fun h21 hS => ?_) (fun h21 hS => ?_)
  ·
   refine Zh (q_field gfa42_1 rfl) ?_
   refine Zh (q_fe gone3 rfl rfl) ?_
   refine Zh (q_neq rfl rfl) ?_
   refine Zy ?_
   refine VL.mt (!decide (z9_1.mode = 2)) [0, 1, 5, 17] (fun _ _ h => h) hS rfl
  refine Zy ?_
  refine VL.mt false [0, 1, 5, 17] (fun _ _ h => h) hS rfl
 clear hS
 rintro x17_4 hS
 refine Zcb hS (fun h17 hS => ?_) (fun h17 hS => ?_)
 ·
  refine Zq (Zr ?_)
  refine Zy ?_
  cases hS
  exact Ze
 refine Zq (Zr ?_)
 refine Zu (q_field gfa42_2 rfl) ?_
 refine Zu (q_fe gone9 rfl rfl) ?_
 refine Zu (q_slen Tryz.underlying9 rfl) ?_
 refine Zu (q_gtr rfl rfl) ?_
 refine Zy ?_
 refine Zc hS (fun h26 hS => ?_) (fun h26 hS => ?_)
 ·
  refine Zq (Zr ?_)
  refine Zy ?_
  cases hS
  exact Ze
 refine VC.cutJ (S := Bool) (fun (x31_6 : Bool) => x31_6) (fun (x31_6 : Bool) => [(0, r_0.val), (1, i64 i_1), (5, ptr b5_2 0), (31, .bool x31_6)]) (fun (x31_6 : Bool) => Mo.tt) (fun (x31_6 : Bool) => Ow.star (Blk b5_2 [str z9_1.path, i64 z9_1.mode, str z9_1.data] 42) (Ow.emp)) hS ?_ ?_
 ·
  clear hS
  intro k7 hS
  refine VC.draw ((List.range 15).map fun k => (k, true)) mixed (by kernel_rfl) (by kernel_rfl) (by kernel_rfl) ?_
  refine Zw rfl (q_move rfl) ?_
  refine Zw rfl (q_gtr rfl rfl) ?_
  refine Zw rfl (q_move rfl) ?_
  refine VD.split_dec 34 rfl (fun h34 => ?_) (fun h34 => ?_)
  ·
   replace hS := it_t h34 hS
   refine Zi rfl (q_move rfl) ?_
   refine Zi rfl (q_move rfl) ?_
   obtain ⟨b37, hS⟩ := gd_s hS
   refine Zi rfl (q_sub rfl rfl b37) ?_
   obtain ⟨z38_8, nz38_8, hz38_8, hS⟩ := at_s hS
   refine Zi rfl (q_ixm (s := r_0) Tryz.underlying38 gsz42 rfl rfl nz38_8 (lt_of_get nz38_8 hz38_8)) ?_
   refine Zi rfl (q_field gfa42_0 rfl) ?_
   refine Zi rfl (q_elf (s := r_0) gone9 rfl hz38_8 rfl) ?_
   refine Zi rfl (q_field gfa42_0 rfl) ?_
   refine Zi rfl (q_fe gone9 rfl rfl) ?_
   obtain ⟨y43_9, ey43_9, hS⟩ := bd_s hS
   refine Zi rfl (q_call (path_Compare_ct z38_8.path z9_1.path ey43_9) rfl (fun _ _ => rfl)) ?_
   refine Zi rfl (q_geq rfl rfl) ?_
   refine Zw rfl (q_pick_t rfl rfl) ?_
   refine Zw rfl (q_assign rfl) ?_
   refine VD.mt (decide (0 ≤ y43_9)) [0, 1, 5, 31] (fun _ _ h => h) hS rfl
  replace hS := it_f h34 hS
  refine Zd ?_
  refine Zd ?_
  refine Zd ?_
  refine Zd ?_
  refine Zd ?_
  refine Zd ?_
  refine Zd ?_
  refine Zd ?_
  refine Zd ?_
  refine Zd ?_
  refine Zw rfl (q_pick_f rfl rfl) ?_
  refine Zw rfl (q_assign rfl) ?_
  refine VD.mt false [0, 1, 5, 31] (fun _ _ h => h) hS rfl
 clear hS
 rintro x31_6 hS
 refine Zcb hS (fun h31 hS => ?_) (fun h31 hS => ?_)
 ·
  refine Zq (Zr ?_)
  refine Zy ?_
  cases hS
  exact Ze
 refine Zq (Zr ?_)
 refine Zy ?_
 obtain ⟨b49, hS⟩ := gd_s hS
 refine VL.sto Tryz.underlying38 gsz42 rfl rfl b49.1 (b49.2) (by decide) fun s49_10 hs49_10 => ?_
 replace hS := lt_to hs49_10 hS
 refine Zu (q_mkfn rfl) ?_
 obtain ⟨y51_12, ey51_12, hS⟩ := bd_s hS
 refine Zu (q_callR (slices_ContainsFunc_files_Row_files_File_ct s49_10 b5_2 z9_1 ey51_12) rfl (fun _ _ => rfl)) ?_
 refine Zy ?_
 refine Zcb hS (fun h46 hS => ?_) (fun h46 hS => ?_)
 ·
  refine Zq (Zr ?_)
  refine Zy ?_
  refine VC.keep [4] rfl ?_
  cases hS
  exact Ze
 refine Zk ?_
 refine Zq (Zr ?_)
 refine Zy ?_
 refine VC.keep [4] rfl ?_
 cases hS
 exact Ze
theorem files_Row_Check_ct (r_0 : Sv FilesFile) {r : Err} (hS : Sh.files_Row_Check r_0.l = some r) :
 Ct Tryz.prog 15 [r_0.val] r_0.ok (Ow.emp) (X := Er) (fun x => x.val) (fun x => r = x.pl) (fun x => x.ok) (fun x => Ow.emp) := by
 refine Zo Tryz.func15 Tryz.ntmps15 fun c => ?_
 unfold Sh.files_Row_Check at hS
 refine Zq (Zr ?_)
 refine Zy ?_
 refine Zq (Zq (Zr ?_))
 refine Zm ?_
 refine Zu (q_ln (s := r_0) Tryz.underlying38 rfl) ?_
 refine Zu (q_gtr rfl rfl) ?_
 refine Zl ?_
 refine Zc hS (fun h7 hS => ?_) (fun h7 hS => ?_)
 ·
  refine Zq (Zr ?_)
  refine Zu (q_mkif Tryz.underlying115 (fun _ h => by cases h) rfl) ?_
  refine Zu (q_build (vs := [(0, str [102, 105, 108, 101]), (1, i64 64), (2, (Er.no 4).val)]) (cs := #[str [102, 105, 108, 101], i64 64, (Er.no 4).val]) rfl (by kernel_rfl)) ?_
  refine VL.box (cs := [str [102, 105, 108, 101], i64 64, (Er.no 4).val]) rfl rfl (by decide) fun b10_1 => ?_
  refine VL.shutB b10_1 ?_
  refine Zu (q_mkif Tryz.underlying114 (fun _ h => by cases h) rfl) ?_
  refine Zy ?_
  cases hS
  exact VC.ret (fin1 (.inr rfl) rfl rfl (Er.fault b10_1 [102, 105, 108, 101] 64 (Er.no 4)) rfl rfl (by (try dsimp only); exact InM.out) (fun _ _ => trivial))
 refine Zk ?_
 refine Zq (Zq (Zr ?_))
 refine Zm ?_
 refine Zu (q_ln (s := r_0) Tryz.underlying38 rfl) ?_
 refine Zy ?_
 refine Zb ?_
 refine VC.iter (S := Int) (fun (x14_2 : Int) => x14_2) (fun (x14_2 : Int) => [(0, r_0.val), (13, i64 (r_0.l.length : Int)), (14, i64 x14_2)]) (fun (x14_2 : Int) => Mo.tt) (fun (x14_2 : Int) => Ow.emp) 0 [0, 13, 14] hS rfl ?_
 clear hS
 rintro x14_2 m1 y1 hS hK1
 refine Zq (Zr ?_)
 refine Zu (q_lss rfl rfl) ?_
 refine Zl ?_
 refine Zq ?_
 refine Zc hS (fun h15 hS => ?_) (fun h15 hS => ?_)
 ·
  refine Zk ?_
  refine Zq (Zb (Zq (Zr ?_)))
  refine Zy ?_
  refine Zq (Zr ?_)
  refine Zy ?_
  obtain ⟨y19_3, ey19_3, hS⟩ := bd_s hS
  refine Zu (q_call (files_Row_wrong_ct r_0 x14_2 ey19_3) rfl (fun _ _ => rfl)) ?_
  refine Zy ?_
  refine Zq (Zr ?_)
  refine Zm ?_
  refine Zu (q_neq rfl rfl) ?_
  refine Zl ?_
  refine Zcn hS (fun h21 hS => ?_) (fun h21 hS => ?_)
  ·
   refine Zq (Zr ?_)
   refine Zy ?_
   refine Zu (q_mkif Tryz.underlying115 (fun _ h => by cases h) rfl) ?_
   refine Zu (q_build (vs := [(0, str [102, 105, 108, 101]), (1, i64 x14_2), (2, (Er.no y19_3).val)]) (cs := #[str [102, 105, 108, 101], i64 x14_2, (Er.no y19_3).val]) rfl (by kernel_rfl)) ?_
   refine VL.box (cs := [str [102, 105, 108, 101], i64 x14_2, (Er.no y19_3).val]) rfl rfl (by decide) fun b26_4 => ?_
   refine VL.shutB b26_4 ?_
   refine Zu (q_mkif Tryz.underlying114 (fun _ h => by cases h) rfl) ?_
   refine Zy ?_
   refine VC.keep [2] rfl ?_
   replace hS := up2 hS hK1
   cases hS
   exact VC.ret (fin1 (.inr rfl) rfl rfl (Er.fault b26_4 [102, 105, 108, 101] x14_2 (Er.no y19_3)) rfl rfl (by (try dsimp only); exact InM.out) (fun _ _ => trivial))
  refine Zk ?_
  refine VC.keep [0, 13, 14] rfl ?_
  refine Zr ?_
  obtain ⟨b28, hS⟩ := gd_s hS
  refine Zu (q_add rfl rfl b28) ?_
  refine Zm ?_
  refine VL.rnd (x14_2 + 1) [0, 13, 14] (fun _ _ h => h) (go2 hS hK1) rfl
 replace hS := up2 hS hK1
 refine Zx ?_
 refine Zq (Zr ?_)
 refine Zy ?_
 cases hS
 exact VC.ret (fin1 (.inr rfl) rfl rfl .nil rfl rfl (by (try dsimp only); exact InM.out) (fun _ _ => trivial))
theorem slices_Clip_string_string_ct (s_0 : Sv Str) {r : List Str} (hS : Sh.slices_Clip_string_string s_0.l = some r) :
 Ct Tryz.prog 103 [s_0.val] s_0.ok (Ow.emp) (X := Sv Str) (fun x => x.val) (fun x => r = x.l) (fun x => x.ok) (fun x => Ow.emp) := by
 refine Zo Tryz.func103 Tryz.ntmps103 fun c => ?_
 unfold Sh.slices_Clip_string_string at hS
 refine Zq (Zr ?_)
 refine Zy ?_
 refine Zq (Zr ?_)
 refine Zy ?_
 refine Zu (q_ln (s := s_0) Tryz.underlying82 rfl) ?_
 refine Zm ?_
 refine Zu (q_ln (s := s_0) Tryz.underlying82 rfl) ?_
 obtain ⟨b8, hS⟩ := gd_s hS
 refine VL.stom Tryz.underlying82 gsz9 rfl rfl rfl b8.1 (b8.2) (by decide) fun s8_1 hs8_1 => ?_
 replace hS := lt_to hs8_1 hS
 refine Zy ?_
 cases hS
 exact VC.ret (fin1 (.inr rfl) rfl rfl s8_1 rfl rfl (by (try dsimp only); exact InM.out) (fun _ _ => trivial))
theorem files_Paths_ct (l_0 : Sv (Sv FilesFile)) {r : List Str} (hS : Sh.files_Paths (l_0.l.map Sv.l) = some r) :
 Ct Tryz.prog 65 [l_0.val] l_0.ok (Ow.emp) (X := Sv Str) (fun x => x.val) (fun x => r = x.l) (fun x => x.ok) (fun x => Ow.emp) := by
 refine Zo Tryz.func65 Tryz.ntmps65 fun c => ?_
 unfold Sh.files_Paths at hS
 refine Zq (Zr ?_)
 refine Zy ?_
 refine Zq (Zr ?_)
 refine VL.mkmap (k := 9) (e := 4) (by decide) fun b8_1 => ?_
 refine Zy ?_
 refine Zq (Zq (Zr ?_))
 refine Zm ?_
 refine Zu (q_lnm Sv.l (s := l_0) Tryz.underlying171 rfl) ?_
 refine Zy ?_
 refine Zb ?_
 refine VC.iter (S := Int × List Str) (fun sg => (sg.1, sg.2)) (fun sg => [(3, .map (some b8_1)), (9, l_0.val), (10, i64 ((l_0.l.map Sv.l).length : Int)), (11, i64 sg.1)]) (fun sg => Mo.tt) (fun sg => Ow.star (MpK Tryz.prog 9 4 b8_1 sg.2) (Ow.emp)) (0, ([] : List Str)) [3, 9, 10, 11] hS rfl ?_
 clear hS
 rintro ⟨x11_2, acc_3⟩ m1 y1 hS hK1
 refine Zq (Zr ?_)
 refine Zu (q_lss rfl rfl) ?_
 refine Zl ?_
 refine Zq ?_
 refine Zc hS (fun h12 hS => ?_) (fun h12 hS => ?_)
 ·
  refine Zk ?_
  refine Zq (Zb (Zq (Zr ?_)))
  obtain ⟨z13_4, nz13_4, hz13_4, hS⟩ := atm_s hS
  refine VL.deep z13_4.ok hz13_4 (fun _ q => q) ?_
  refine Zu (q_ixm (s := l_0) Tryz.underlying171 gsz38 rfl rfl nz13_4 (lt_of_get nz13_4 hz13_4)) ?_
  refine Zu (q_el (s := l_0) gone38 rfl hz13_4 rfl) ?_
  refine Zy ?_
  refine Zq (Zr ?_)
  refine Zm ?_
  refine Zu (q_ln (s := z13_4) Tryz.underlying38 rfl) ?_
  refine Zy ?_
  refine Zb ?_
  refine VC.iter (S := Int × List Str) (fun sg => (sg.1, sg.2)) (fun sg => [(3, .map (some b8_1)), (9, l_0.val), (10, i64 ((l_0.l.map Sv.l).length : Int)), (11, i64 x11_2), (15, z13_4.val), (16, i64 (z13_4.l.length : Int)), (17, i64 sg.1)]) (fun sg => Mo.tt) (fun sg => Ow.star (MpK Tryz.prog 9 4 b8_1 sg.2) (Ow.emp)) (0, acc_3) [3, 9, 10, 11, 15, 16, 17] hS rfl ?_
  clear hS
  rintro ⟨x17_5, acc_6⟩ m2 y2 hS hK2
  refine Zq (Zr ?_)
  refine Zu (q_lss rfl rfl) ?_
  refine Zl ?_
  refine Zq ?_
  refine Zc hS (fun h18 hS => ?_) (fun h18 hS => ?_)
  ·
   refine Zk ?_
   refine Zq (Zb (Zq (Zr ?_)))
   obtain ⟨z19_7, nz19_7, hz19_7, hS⟩ := at_s hS
   refine Zu (q_ixm (s := z13_4) Tryz.underlying38 gsz42 rfl rfl nz19_7 (lt_of_get nz19_7 hz19_7)) ?_
   refine Zu (q_els (s := z13_4) gagg42 rfl rfl hz19_7) ?_
   refine VL.alloc (cs := [str [], i64 0, str []]) (by kernel_rfl) (by decide) fun b7_8 => ?_
   refine Zv (vc := [str z19_7.path, i64 z19_7.mode, str z19_7.data]) (cs' := [str z19_7.path, i64 z19_7.mode, str z19_7.data]) rfl gsz42 ?_
   refine Zl ?_
   refine Zr ?_
   refine Zm ?_
   refine Zu (q_field gfa42_0 rfl) ?_
   refine Zu (q_fe gone9 rfl rfl) ?_
   obtain ⟨bs3, hS⟩ := gd_s hS
   refine VL.mapset (b := b8_1) (l := acc_6) (s := z19_7.path) Tryz.underlying9 Tryz.underlying4 Tryz.underlying196 Fo.out rfl rfl rfl bs3 ?_
   obtain ⟨accs3_9, eaccs3_9, hS⟩ := lt_s hS
   rw [eaccs3_9]
   refine Zl ?_
   refine VC.keep [3, 9, 10, 11, 15, 16, 17] rfl ?_
   refine Zr ?_
   obtain ⟨b24, hS⟩ := gd_s hS
   refine Zu (q_add rfl rfl b24) ?_
   refine Zm ?_
   refine VL.rnd ((x17_5 + 1), accs3_9) [3, 9, 10, 11, 15, 16, 17] (fun _ _ h => h) (go2 hS hK2) rfl
  replace hS := up2 hS hK2
  refine Zx ?_
  refine Zr ?_
  obtain ⟨b25, hS⟩ := gd_s hS
  refine Zu (q_add rfl rfl b25) ?_
  refine Zm ?_
  refine VL.rnd ((x11_2 + 1), acc_6) [3, 9, 10, 11] (fun _ _ h => h) (go2 hS hK1) rfl
 replace hS := up2 hS hK1
 refine Zx ?_
 refine Zq (Zr ?_)
 refine Zm ?_
 refine VL.callO (Ct.mapKeys (b := b8_1) (entry_of Tryz.func131 rfl (by kernel_rfl)) Tryz.mapsKeys_131) rfl (by decide) ?_
 intro B27_10 _
 try dsimp only
 obtain ⟨b28, hS⟩ := gd_s hS
 refine VL.callO (Ct.sortedKeys (it := 191) (T := 196) (b := b8_1) (B := B27_10) (e := 4) (l := acc_3) (entry_of Tryz.func130 rfl (by kernel_rfl)) Tryz.underlying9 (fun D0 nn W h1 h2 h3 h4 h5 => Tryz.sortedKeys_130_131 B27_10 b8_1 nn D0 _ W h1 h2 h3 h4 h5) b28) rfl (by decide) ?_
 intro s28_11 hs28_11
 try dsimp only
 replace hS := lt_to hs28_11 hS
 refine VL.shut s28_11 9 (fun _ _ _ _ => trivial) ?_
 obtain ⟨y29_13, ey29_13, hS⟩ := bd_s hS
 refine VL.callF (slices_Clip_string_string_ct s28_11 ey29_13) rfl (by decide) ?_
 rintro q29_13_0 rfl
 try dsimp only
 refine Zy ?_
 cases hS
 exact VC.ret (fin1 (.inr rfl) rfl rfl q29_13_0 rfl rfl (by (try dsimp only); exact InM.out) (fun _ _ => trivial))
theorem files_Row_find_1_ct (f_0 : FilesFile) (p_1 : Str) {r : Int} (hS : Sh.files_Row_find_1 f_0 p_1 = some r) :
 Ct Tryz.prog 145 [.agg #[str f_0.path, i64 f_0.mode, str f_0.data], str p_1] Mo.tt (Ow.emp) (X := Unit) (fun _ => i64 r) (fun _ => True) (fun _ => Mo.tt) (fun _ => Ow.emp) := by
 refine Zo Tryz.func145 Tryz.ntmps145 fun c => ?_
 unfold Sh.files_Row_find_1 at hS
 refine Zq (Zr ?_)
 refine VL.box (cs := [str f_0.path, i64 f_0.mode, str f_0.data]) rfl rfl (by decide) fun b2_1 => ?_
 refine Zy ?_
 refine Zq (Zr ?_)
 refine Zu (q_field gfa42_0 rfl) ?_
 refine Zu (q_fe gone9 rfl rfl) ?_
 refine Zm ?_
 obtain ⟨y8_2, ey8_2, hS⟩ := bd_s hS
 refine Zu (q_call (path_Compare_ct f_0.path p_1 ey8_2) rfl (fun _ _ => rfl)) ?_
 refine Zy ?_
 cases hS
 exact Ze
theorem slices_BinarySearchFunc_files_Row_files_File_string_ct (x_0 : Sv FilesFile) (target_1 : Str) {r : Int × Bool} (hS : Sh.slices_BinarySearchFunc_files_Row_files_File_string x_0.l target_1 = some r) :
 Ct Tryz.prog 144 [x_0.val, str target_1, .func (.func 145) #[] #[]] x_0.ok (Ow.emp) (X := Unit) (fun _ => .tuple #[i64 r.1, .bool r.2]) (fun _ => True) (fun _ => Mo.tt) (fun _ => Ow.emp) := by
 refine Zo Tryz.func144 Tryz.ntmps144 fun c => ?_
 unfold Sh.slices_BinarySearchFunc_files_Row_files_File_string at hS
 refine Zq (Zr ?_)
 refine Zy ?_
 refine Zq (Zr ?_)
 refine Zm ?_
 refine Zu (q_ln (s := x_0) Tryz.underlying38 rfl) ?_
 refine Zy ?_
 refine Zq (Zr ?_)
 refine Zy ?_
 refine Zq (Zb ?_)
 refine VC.iter (S := Int × Int) (fun sg => (sg.1, sg.2)) (fun sg => [(0, x_0.val), (1, str target_1), (2, .func (.func 145) #[] #[]), (8, i64 (x_0.l.length : Int)), (9, i64 sg.1), (10, i64 sg.2)]) (fun sg => Mo.tt) (fun sg => Ow.emp) (0, (x_0.l.length : Int)) [0, 1, 2, 8, 9, 10] hS rfl ?_
 clear hS
 rintro ⟨i9_1, j10_2⟩ m1 y1 hS hK1
 refine Zq (Zq (Zr ?_))
 refine Zy ?_
 refine Zu (q_lss rfl rfl) ?_
 refine Zl ?_
 refine Zc hS (fun h17 hS => ?_) (fun h17 hS => ?_)
 ·
  refine Zk ?_
  refine Zb (Zq (Zr ?_))
  refine Zy ?_
  obtain ⟨b20, hS⟩ := gd_s hS
  refine Zu (q_add rfl rfl b20) ?_
  refine Zu (q_convW Tryz.underlying3 Tryz.underlying232 rfl) ?_
  refine Zu (q_shr rfl rfl (by decide)) ?_
  refine Zu (q_convW Tryz.underlying232 Tryz.underlying3 rfl) ?_
  refine Zy ?_
  refine VC.keep [0, 1, 2, 8, 9, 10, 11] rfl ?_
  refine Zq (Zr ?_)
  refine Zy ?_
  obtain ⟨z27_3, nz27_3, hz27_3, hS⟩ := at_s hS
  refine Zu (q_ixm (s := x_0) Tryz.underlying38 gsz42 rfl rfl nz27_3 (lt_of_get nz27_3 hz27_3)) ?_
  refine Zu (q_els (s := x_0) gagg42 rfl rfl hz27_3) ?_
  refine Zm ?_
  obtain ⟨y30_4, ey30_4, hS⟩ := bd_s hS
  refine Zu (q_callV (files_Row_find_1_ct z27_3 target_1 ey30_4) rfl rfl (fun _ _ => rfl)) ?_
  refine Zu (q_lss rfl rfl) ?_
  refine Zl ?_
  refine VC.keep [0, 1, 2, 8, 9, 10, 11, 31] rfl ?_
  refine Zc hS (fun h31 hS => ?_) (fun h31 hS => ?_)
  ·
   refine Zr ?_
   refine Zm ?_
   obtain ⟨b33, hS⟩ := gd_s hS
   refine Zu (q_add rfl rfl b33) ?_
   refine Za ?_
   refine VL.rnd (((IntKind.wrap .i64 (sHr .u64 (IntKind.wrap .u64 (i9_1 + j10_2)) 1)) + 1), j10_2) [0, 1, 2, 8, 9, 10] (fun _ _ h => h) (go2 hS hK1) rfl
  refine Zr ?_
  refine Zy ?_
  refine VL.rnd (i9_1, (IntKind.wrap .i64 (sHr .u64 (IntKind.wrap .u64 (i9_1 + j10_2)) 1))) [0, 1, 2, 8, 9, 10] (fun _ _ h => h) (go2 hS hK1) rfl
 replace hS := up2 hS hK1
 refine Zx ?_
 refine Zq (Zr ?_)
 refine Zy ?_
 refine Zu (q_lss rfl rfl) ?_
 refine Zm ?_
 refine Zsp 39 hS (fun h39 hS => ?_) (fun h39 hS => ?_)
 ·
  refine Zy ?_
  obtain ⟨z43_5, nz43_5, hz43_5, hS⟩ := at_s hS
  refine Zh (q_ixm (s := x_0) Tryz.underlying38 gsz42 rfl rfl nz43_5 (lt_of_get nz43_5 hz43_5)) ?_
  refine Zh (q_els (s := x_0) gagg42 rfl rfl hz43_5) ?_
  refine Zg ?_
  obtain ⟨y46_6, ey46_6, hS⟩ := bd_s hS
  refine Zh (q_callV (files_Row_find_1_ct z43_5 target_1 ey46_6) rfl rfl (fun _ _ => rfl)) ?_
  refine Zh (q_eql rfl rfl) ?_
  refine Zy ?_
  refine VC.keep [6, 7] rfl ?_
  cases hS
  exact VC.ret (fin2 (.inr rfl) rfl rfl rfl () rfl trivial (fun _ _ => trivial) (fun _ _ => trivial))
 refine Zy ?_
 refine VC.keep [6, 7] rfl ?_
 cases hS
 exact VC.ret (fin2 (.inr rfl) rfl rfl rfl () rfl trivial (fun _ _ => trivial) (fun _ _ => trivial))
theorem files_Row_find_ct (r_0 : Sv FilesFile) (p_1 : Str) {r : Int × Bool} (hS : Sh.files_Row_find r_0.l p_1 = some r) :
 Ct Tryz.prog 73 [r_0.val, str p_1] r_0.ok (Ow.emp) (X := Unit) (fun _ => .tuple #[i64 r.1, .bool r.2]) (fun _ => True) (fun _ => Mo.tt) (fun _ => Ow.emp) := by
 refine Zo Tryz.func73 Tryz.ntmps73 fun c => ?_
 unfold Sh.files_Row_find at hS
 refine Zq (Zr ?_)
 refine Zy ?_
 refine Zq (Zr ?_)
 refine Zy ?_
 obtain ⟨y8_1, ey8_1, hS⟩ := bd_s hS
 refine Zu (q_call (slices_BinarySearchFunc_files_Row_files_File_string_ct r_0 p_1 ey8_1) rfl (fun _ _ => rfl)) ?_
 refine Zu (q_extract rfl rfl) ?_
 refine Zu (q_extract rfl rfl) ?_
 refine Zy ?_
 cases hS
 exact VC.ret (fin2 (.inr rfl) rfl rfl rfl () rfl trivial (fun _ _ => trivial) (fun _ _ => trivial))
theorem files_Row_Get_ct (r_0 : Sv FilesFile) (p_1 : Str) {r : FilesFile × Bool} (hS : Sh.files_Row_Get r_0.l p_1 = some r) :
 Ct Tryz.prog 23 [r_0.val, str p_1] r_0.ok (Ow.emp) (X := Unit) (fun _ => .tuple #[.agg #[str r.1.path, i64 r.1.mode, str r.1.data], .bool r.2]) (fun _ => True) (fun _ => Mo.tt) (fun _ => Ow.emp) := by
 refine Zo Tryz.func23 Tryz.ntmps23 fun c => ?_
 unfold Sh.files_Row_Get at hS
 refine Zq (Zr ?_)
 refine VL.alloc (cs := [str [], i64 0, str []]) (by kernel_rfl) (by decide) fun b4_1 => ?_
 refine Zy ?_
 refine Zq (Zr ?_)
 refine Zy ?_
 obtain ⟨y11_2, ey11_2, hS⟩ := bd_s hS
 refine Zu (q_call (files_Row_find_ct r_0 p_1 ey11_2) rfl (fun _ _ => rfl)) ?_
 refine Zm ?_
 refine Zu (q_extract rfl rfl) ?_
 refine Zu (q_extract rfl rfl) ?_
 refine Zy ?_
 refine VC.keep [0, 4, 6, 7] rfl ?_
 refine Zq (Zq (Zr ?_))
 refine Zm ?_
 refine Zu (q_not rfl) ?_
 refine Zl ?_
 refine Zcb hS (fun h15 hS => ?_) (fun h15 hS => ?_)
 ·
  refine Zq (Zr ?_)
  refine Zu (q_build (vs := []) (cs := #[str [], i64 0, str []]) rfl (by kernel_rfl)) ?_
  refine Zv (vc := [str [], i64 0, str []]) (cs' := [str [], i64 0, str []]) rfl gsz42 ?_
  refine Zy ?_
  cases hS
  exact VC.ret (finG (vs := [.agg #[str [], i64 0, str []], .bool false]) (.inr rfl) rfl (RVs.cell gagg42 rfl rfl Rd.blk (RVs.tmp rfl (RVs.nil))) () rfl trivial (by (try dsimp only); exact InM.out) (fun _ _ => trivial))
 refine Zk ?_
 refine Zq (Zr ?_)
 refine Zy ?_
 obtain ⟨z19_3, nz19_3, hz19_3, hS⟩ := at_s hS
 refine Zu (q_ixm (s := r_0) Tryz.underlying38 gsz42 rfl rfl nz19_3 (lt_of_get nz19_3 hz19_3)) ?_
 refine Zu (q_els (s := r_0) gagg42 rfl rfl hz19_3) ?_
 refine Zv (vc := [str z19_3.path, i64 z19_3.mode, str z19_3.data]) (cs' := [str z19_3.path, i64 z19_3.mode, str z19_3.data]) rfl gsz42 ?_
 refine Zy ?_
 refine VC.keep [4, 5] rfl ?_
 cases hS
 exact VC.ret (finG (vs := [.agg #[str z19_3.path, i64 z19_3.mode, str z19_3.data], .bool true]) (.inr rfl) rfl (RVs.cell gagg42 rfl rfl Rd.blk (RVs.tmp rfl (RVs.nil))) () rfl trivial (by (try dsimp only); exact InM.out) (fun _ _ => trivial))
theorem tmerge_of_ct (r_0 : Sv FilesFile) (p_1 : Str) {r : TmergeOne} (hS : Sh.tmerge_of r_0.l p_1 = some r) :
 Ct Tryz.prog 60 [r_0.val, str p_1] r_0.ok (Ow.emp) (X := Unit) (fun _ => .agg #[str r.file_path, i64 r.file_mode, str r.file_data, .bool r.is]) (fun _ => True) (fun _ => Mo.tt) (fun _ => Ow.emp) := by
 refine Zo Tryz.func60 Tryz.ntmps60 fun c => ?_
 unfold Sh.tmerge_of at hS
 refine Zq (Zr ?_)
 refine VL.alloc (cs := [str [], i64 0, str [], .bool false]) (by kernel_rfl) (by decide) fun b4_1 => ?_
 refine Zl ?_
 refine Zq (Zr ?_)
 refine Zy ?_
 obtain ⟨y10_2, ey10_2, hS⟩ := bd_s hS
 refine Zu (q_call (files_Row_Get_ct r_0 p_1 ey10_2) rfl (fun _ _ => rfl)) ?_
 refine Zm ?_
 refine Zu (q_extract rfl rfl) ?_
 refine Zu (q_extract rfl rfl) ?_
 refine VL.alloc (cs := [str [], i64 0, str []]) (by kernel_rfl) (by decide) fun b5_3 => ?_
 refine Zv (vc := [str y10_2.1.path, i64 y10_2.1.mode, str y10_2.1.data]) (cs' := [str y10_2.1.path, i64 y10_2.1.mode, str y10_2.1.data]) rfl gsz42 ?_
 refine Zy ?_
 refine VC.keep [4, 5, 6] rfl ?_
 refine Zq (Zr ?_)
 refine Zu (q_fes gagg42 rfl rfl) ?_
 refine Zm ?_
 refine Zu (q_build (vs := [(0, .agg #[str y10_2.1.path, i64 y10_2.1.mode, str y10_2.1.data]), (1, .bool y10_2.2)]) (cs := #[str y10_2.1.path, i64 y10_2.1.mode, str y10_2.1.data, .bool y10_2.2]) rfl (by kernel_rfl)) ?_
 refine Zv (vc := [str y10_2.1.path, i64 y10_2.1.mode, str y10_2.1.data, .bool y10_2.2]) (cs' := [str y10_2.1.path, i64 y10_2.1.mode, str y10_2.1.data, .bool y10_2.2]) rfl gsz121 ?_
 refine Zl ?_
 cases hS
 exact VC.ret (finG (vs := [.agg #[str y10_2.1.path, i64 y10_2.1.mode, str y10_2.1.data, .bool y10_2.2]]) (.inr rfl) rfl (RVs.cell gagg121 rfl rfl Rd.blk (RVs.nil)) () rfl trivial (by (try dsimp only); exact InM.out) (fun _ _ => trivial))
theorem tmerge_mode_ct (base_0 : TmergeOne) (ours_1 : TmergeOne) (theirs_2 : TmergeOne) {r : Int} (hS : Sh.tmerge_mode base_0 ours_1 theirs_2 = some r) :
 Ct Tryz.prog 126 [.agg #[str base_0.file_path, i64 base_0.file_mode, str base_0.file_data, .bool base_0.is], .agg #[str ours_1.file_path, i64 ours_1.file_mode, str ours_1.file_data, .bool ours_1.is], .agg #[str theirs_2.file_path, i64 theirs_2.file_mode, str theirs_2.file_data, .bool theirs_2.is]] Mo.tt (Ow.emp) (X := Unit) (fun _ => i64 r) (fun _ => True) (fun _ => Mo.tt) (fun _ => Ow.emp) := by
 refine Zo Tryz.func126 Tryz.ntmps126 fun c => ?_
 unfold Sh.tmerge_mode at hS
 refine Zq (Zr ?_)
 refine VL.box (cs := [str base_0.file_path, i64 base_0.file_mode, str base_0.file_data, .bool base_0.is]) rfl rfl (by decide) fun b3_1 => ?_
 refine VL.box (cs := [str ours_1.file_path, i64 ours_1.file_mode, str ours_1.file_data, .bool ours_1.is]) rfl rfl (by decide) fun b4_2 => ?_
 refine VL.box (cs := [str theirs_2.file_path, i64 theirs_2.file_mode, str theirs_2.file_data, .bool theirs_2.is]) rfl rfl (by decide) fun b5_3 => ?_
 refine Zy ?_
 refine Zq ?_
 refine VC.cutJ (S := Bool) (fun (x17_4 : Bool) => x17_4) (fun (x17_4 : Bool) => [(4, ptr b4_2 0), (5, ptr b5_3 0), (17, .bool x17_4)]) (fun (x17_4 : Bool) => Mo.tt) (fun (x17_4 : Bool) => Ow.star (Blk b5_3 [str theirs_2.file_path, i64 theirs_2.file_mode, str theirs_2.file_data, .bool theirs_2.is] 121) (Ow.star (Blk b4_2 [str ours_1.file_path, i64 ours_1.file_mode, str ours_1.file_data, .bool ours_1.is] 121) (Ow.star (Blk b3_1 [str base_0.file_path, i64 base_0.file_mode, str base_0.file_data, .bool base_0.is] 121) (Ow.emp)))) hS ?_ ?_
 ·
  clear hS
  intro k5 hS
  refine Zr ?_
  refine Zu (q_field gfa121_1 rfl) ?_
  refine Zu (q_fe gone4 rfl rfl) ?_
  refine Zm ?_
  refine Zspb 9 hS (fun h9 hS => ?_) (fun h9 hS => ?_)
  ·
   refine Zh (q_field gfa121_0 rfl) ?_
   refine Zh (q_field gfa42_1 rfl) ?_
   refine Zh (q_fe gone3 rfl rfl) ?_
   refine Zh (q_field gfa121_0 rfl) ?_
   refine Zh (q_field gfa42_1 rfl) ?_
   refine Zh (q_fe gone3 rfl rfl) ?_
   refine Zh (q_eql rfl rfl) ?_
   refine Zt ?_
   refine VL.mt (decide (base_0.file_mode = ours_1.file_mode)) [4, 5, 17] (fun _ _ h => h) hS rfl
  refine Zy ?_
  refine VL.mt false [4, 5, 17] (fun _ _ h => h) hS rfl
 clear hS
 rintro x17_4 hS
 refine Zcb hS (fun h17 hS => ?_) (fun h17 hS => ?_)
 ·
  refine Zq (Zr ?_)
  refine Zu (q_field gfa121_0 rfl) ?_
  refine Zu (q_field gfa42_1 rfl) ?_
  refine Zu (q_fe gone3 rfl rfl) ?_
  refine Zy ?_
  cases hS
  exact Ze
 refine Zk ?_
 refine Zq (Zr ?_)
 refine Zu (q_field gfa121_0 rfl) ?_
 refine Zu (q_field gfa42_1 rfl) ?_
 refine Zu (q_fe gone3 rfl rfl) ?_
 refine Zy ?_
 cases hS
 exact Ze
theorem lines_Split_ct (s_0 : Str) {r : List Str} (hS : Sh.lines_Split s_0 = some r) :
 Ct Tryz.prog 181 [str s_0] Mo.tt (Ow.emp) (X := Sv Str) (fun x => x.val) (fun x => r = x.l) (fun x => x.ok) (fun x => Ow.emp) := by
 refine Zo Tryz.func181 Tryz.ntmps181 fun c => ?_
 unfold Sh.lines_Split at hS
 refine Zq (Zr ?_)
 refine Zy ?_
 refine Zq (Zr ?_)
 refine Zy ?_
 refine Zq (Zb ?_)
 refine VC.nilO (⟨none, 0, []⟩ : Sv Str) 9 ⟨rfl, rfl⟩ ?_
 refine VC.iter (S := Str × Sv Str) (fun sg => (sg.1, sg.2.l)) (fun sg => [(0, str sg.1), (3, sg.2.val)]) (fun sg => Mo.tt) (fun sg => Ow.star (Sv.own sg.2 9) (Ow.emp)) (s_0, ⟨none, 0, []⟩) [0, 3] hS rfl ?_
 clear hS
 rintro ⟨s0_1, out3_2⟩ m1 y1 hS hK1
 refine Zq (Zq (Zr ?_))
 refine Zm ?_
 refine Zu (q_sne rfl rfl) ?_
 refine Zl ?_
 refine Zcn hS (fun h6 hS => ?_) (fun h6 hS => ?_)
 ·
  refine Zk ?_
  refine Zb (Zq (Zr ?_))
  refine Zm ?_
  obtain ⟨y8_3, ey8_3, hS⟩ := bd_s hS
  refine Zu (q_call (strings_Index_ct s0_1 [10] ey8_3) rfl (fun _ _ => rfl)) ?_
  refine Zy ?_
  refine VC.cutJ (S := Int) (fun (i4_4 : Int) => i4_4) (fun (i4_4 : Int) => [(0, str s0_1), (3, out3_2.val), (4, i64 i4_4)]) (fun (i4_4 : Int) => Mo.tt) (fun (i4_4 : Int) => Ow.star (Sv.own out3_2 9) (Ow.emp)) hS ?_ ?_
  ·
   clear hS
   intro k5 hS
   refine Zq (Zr ?_)
   refine Zm ?_
   refine Zu (q_lss rfl rfl) ?_
   refine Zl ?_
   refine Zc hS (fun h10 hS => ?_) (fun h10 hS => ?_)
   ·
    refine Zr ?_
    refine Zm ?_
    refine Zu (q_slen Tryz.underlying9 rfl) ?_
    obtain ⟨b13, hS⟩ := gd_s hS
    refine Zu (q_sub rfl rfl b13) ?_
    refine Za ?_
    refine VL.mt ((s0_1.length : Int) - 1) [0, 3, 4] (fun _ _ h => h) hS rfl
   refine VC.skip_mt y8_3 [0, 3, 4] (fun _ _ h => h) hS rfl
  clear hS
  rintro i4_4 hS
  refine Zq (Zr ?_)
  refine Zy ?_
  obtain ⟨b17, hS⟩ := gd_s hS
  refine Zu (q_add rfl rfl b17) ?_
  obtain ⟨b18, hS⟩ := gd_s hS
  obtain ⟨y18_6, ey18_6, hS⟩ := lt_s hS
  refine Zu (q_stoE Tryz.underlying9 rfl rfl b18.1 b18.2 ey18_6) ?_
  refine VL.lit (α := Str) (xs := [.tmp 18]) (vs := [str y18_6]) [y18_6] Tryz.underlying82 glit9 (by decide) rfl rfl rfl rfl (by decide) (fun _ _ _ _ => trivial) (by decide) (fun s19_7 hs19_7 => ?_) (by decide)
  replace hS := lt_to hs19_7 hS
  obtain ⟨b20, hS⟩ := gd_s hS
  refine VL.app (s := out3_2) (r := s19_7) Tryz.underlying82 gapp9 (by decide) rfl Fo.out (ap1 b20) (ap2 b20 (by decide)) (by decide) (fun s20_9 hs20_9 => ?_)
  replace hS := lt_to hs20_9 hS
  refine Zy ?_
  refine Zr ?_
  refine Zy ?_
  obtain ⟨b23, hS⟩ := gd_s hS
  refine Zu (q_add rfl rfl b23) ?_
  obtain ⟨b24, hS⟩ := gd_s hS
  obtain ⟨y24_11, ey24_11, hS⟩ := lt_s hS
  refine Zu (q_sfromE Tryz.underlying9 rfl rfl b24.1 b24.2 ey24_11) ?_
  refine Za ?_
  refine VL.rnd (y24_11, s20_9) [0, 3] (fun _ _ h => h) (go2 hS hK1) rfl
 replace hS := up2 hS hK1
 refine Zx ?_
 refine Zq (Zr ?_)
 refine Zm ?_
 refine VL.shut out3_2 9 (fun _ _ _ _ => trivial) ?_
 obtain ⟨y26_12, ey26_12, hS⟩ := bd_s hS
 refine VL.callF (slices_Clip_string_string_ct out3_2 ey26_12) rfl (by decide) ?_
 rintro q26_12_0 rfl
 try dsimp only
 refine Zy ?_
 cases hS
 exact VC.ret (fin1 (.inr rfl) rfl rfl q26_12_0 rfl rfl (by (try dsimp only); exact InM.out) (fun _ _ => trivial))
theorem diff_made_ct (a_0 : Sv Str) (a_1 : Sv Str) {r : (Unit × Err) ⊕ (DiffTableP × Unit)} (hS : Sh.diff_made a_0.l a_1.l = some r) :
 Ct Tryz.prog 297 [a_0.val, a_1.val] (a_0.ok.and a_1.ok) (Ow.emp) (X := (Er) ⊕ (Nat × DiffTable)) (fun x => match x with | .inl x => .tuple #[.pointer none, x.val] | .inr x => .tuple #[ptr x.1 0, .nilIface]) (fun x => match x with | .inl x => r = .inl ((), x.pl) | .inr x => r = .inr (x.2.pl, ())) (fun x => match x with | .inl x => x.ok | .inr x => (x.2.a.ok.and (x.2.b.ok.and x.2.n.ok))) (fun x => match x with | .inl x => Ow.emp | .inr x => Blk x.1 [x.2.a.val, x.2.b.val, x.2.n.val] 386) := by
 refine Zo Tryz.func297 Tryz.ntmps297 fun c => ?_
 unfold Sh.diff_made at hS
 refine Zq (Zr ?_)
 refine Zy ?_
 refine Zq (Zq (Zr ?_))
 refine Zm ?_
 refine Zu (q_ln (s := a_0) Tryz.underlying82 rfl) ?_
 refine Zu (q_gtr rfl rfl) ?_
 refine Zl ?_
 refine Zc hS (fun h12 hS => ?_) (fun h12 hS => ?_)
 ·
  refine Zq (Zr ?_)
  refine Zu (q_mkif Tryz.underlying115 (fun _ h => by cases h) rfl) ?_
  refine Zu (q_build (vs := [(0, str [108, 105, 110, 101, 115]), (1, i64 0), (2, (Er.no 4).val)]) (cs := #[str [108, 105, 110, 101, 115], i64 0, (Er.no 4).val]) rfl (by kernel_rfl)) ?_
  refine VL.box (cs := [str [108, 105, 110, 101, 115], i64 0, (Er.no 4).val]) rfl rfl (by decide) fun b15_1 => ?_
  refine VL.shutB b15_1 ?_
  refine Zu (q_mkif Tryz.underlying114 (fun _ h => by cases h) rfl) ?_
  refine Zy ?_
  refine VC.keep [4, 5] rfl ?_
  cases hS
  exact VC.ret (fin2 (.inr rfl) rfl rfl rfl (.inl (Er.fault b15_1 [108, 105, 110, 101, 115] 0 (Er.no 4))) rfl rfl (by (try dsimp only); exact InM.out) (by (try dsimp only); exact EntO.out))
 refine Zk ?_
 refine Zq (Zq (Zr ?_))
 refine Zm ?_
 refine Zu (q_ln (s := a_1) Tryz.underlying82 rfl) ?_
 refine Zu (q_gtr rfl rfl) ?_
 refine Zl ?_
 refine Zc hS (fun h19 hS => ?_) (fun h19 hS => ?_)
 ·
  refine Zq (Zr ?_)
  refine Zu (q_mkif Tryz.underlying115 (fun _ h => by cases h) rfl) ?_
  refine Zu (q_build (vs := [(0, str [108, 105, 110, 101, 115]), (1, i64 1), (2, (Er.no 4).val)]) (cs := #[str [108, 105, 110, 101, 115], i64 1, (Er.no 4).val]) rfl (by kernel_rfl)) ?_
  refine VL.box (cs := [str [108, 105, 110, 101, 115], i64 1, (Er.no 4).val]) rfl rfl (by decide) fun b22_2 => ?_
  refine VL.shutB b22_2 ?_
  refine Zu (q_mkif Tryz.underlying114 (fun _ h => by cases h) rfl) ?_
  refine Zy ?_
  refine VC.keep [4, 5] rfl ?_
  cases hS
  exact VC.ret (fin2 (.inr rfl) rfl rfl rfl (.inl (Er.fault b22_2 [108, 105, 110, 101, 115] 1 (Er.no 4))) rfl rfl (by (try dsimp only); exact InM.out) (by (try dsimp only); exact EntO.out))
 refine Zk ?_
 refine Zq (Zr ?_)
 refine Zy ?_
 refine Zu (q_ln (s := a_0) Tryz.underlying82 rfl) ?_
 obtain ⟨b28, hS⟩ := gd_s hS
 refine Zu (q_add rfl rfl b28) ?_
 refine Zm ?_
 refine Zu (q_ln (s := a_1) Tryz.underlying82 rfl) ?_
 obtain ⟨b31, hS⟩ := gd_s hS
 refine Zu (q_add rfl rfl b31) ?_
 obtain ⟨b32, hS⟩ := gd_s hS
 refine Zu (q_mul rfl rfl b32) ?_
 obtain ⟨b33, hS⟩ := gd_s hS
 refine VL.make (α := Int) (z := 0) Tryz.underlying26 gmk3 (by decide) rfl rfl b33.1 (Int.le_refl _) (by omega) (by omega) (by decide) (fun s33_3 hs33_3 => ?_)
 replace hS := lt_to hs33_3 hS
 refine Zu (q_build (vs := [(0, a_0.val), (1, a_1.val), (2, s33_3.val)]) (cs := #[a_0.val, a_1.val, s33_3.val]) rfl (by kernel_rfl)) ?_
 refine VL.box (cs := [a_0.val, a_1.val, s33_3.val]) rfl rfl (by decide) fun b35_5 => ?_
 refine Zy ?_
 refine VC.keep [0, 1, 6] rfl ?_
 refine Zq (Zq (Zr ?_))
 refine Zm ?_
 refine Zu (q_ln (s := a_0) Tryz.underlying82 rfl) ?_
 obtain ⟨b38, hS⟩ := gd_s hS
 refine Zu (q_sub rfl rfl b38) ?_
 refine Zy ?_
 refine Zb ?_
 refine VC.iter (S := Int) (fun (x7_6 : Int) => x7_6) (fun (x7_6 : Int) => [(0, a_0.val), (1, a_1.val), (6, ptr b35_5 0), (7, i64 x7_6)]) (fun (x7_6 : Int) => Mo.tt) (fun (x7_6 : Int) => Ow.star (Blk b35_5 [a_0.val, a_1.val, s33_3.val] 386) (Ow.star (Sv.own s33_3 3) (Ow.emp))) ((a_0.l.length : Int) - 1) [0, 1, 6, 7] hS rfl ?_
 clear hS
 rintro x7_6 m1 y1 hS hK1
 refine Zq (Zq (Zr ?_))
 refine Zm ?_
 refine Zu (q_geq rfl rfl) ?_
 refine Zl ?_
 refine Zc hS (fun h40 hS => ?_) (fun h40 hS => ?_)
 ·
  refine Zk ?_
  refine Zq (Zb (Zq (Zr ?_)))
  refine Zm ?_
  refine Zu (q_ln (s := a_1) Tryz.underlying82 rfl) ?_
  obtain ⟨b45, hS⟩ := gd_s hS
  refine Zu (q_sub rfl rfl b45) ?_
  refine Zy ?_
  refine Zb ?_
  refine VC.iter (S := Unit) (fun (_ : Unit) => ()) (fun (_ : Unit) => [(0, a_0.val), (1, a_1.val), (6, ptr b35_5 0), (7, i64 x7_6), (8, i64 ((a_1.l.length : Int) - 1))]) (fun (_ : Unit) => Mo.tt) (fun (_ : Unit) => Ow.star (Blk b35_5 [a_0.val, a_1.val, s33_3.val] 386) (Ow.star (Sv.own s33_3 3) (Ow.emp))) () [0, 1, 6, 7, 8] hS rfl ?_
  clear hS
  rintro _ m2 y2 hS hK2
  refine Zq (Zq (Zr ?_))
  refine Zm ?_
  refine Zu (q_geq rfl rfl) ?_
  refine Zl ?_
  refine Zc hS (fun h47 hS => ?_) (fun h47 hS => ?_)
  ·
   refine Zk ?_
   refine Zq (Zb (Zq (Zr ?_)))
   refine Zy ?_
   obtain ⟨b52, hS⟩ := gd_s hS
   refine Zu (q_add rfl rfl b52) ?_
   refine Zm ?_
   cases hS
  replace hS := up2 hS hK2
  refine Zx ?_
  refine Zr ?_
  refine Zm ?_
  obtain ⟨b42, hS⟩ := gd_s hS
  refine Zu (q_sub rfl rfl b42) ?_
  refine Za ?_
  refine VL.rnd (x7_6 - 1) [0, 1, 6, 7] (fun _ _ h => h) (go2 hS hK1) rfl
 replace hS := up2 hS hK1
 refine Zx ?_
 refine Zq (Zr ?_)
 refine Zy ?_
 refine VC.shut s33_3 3 (fun _ _ _ _ => trivial) ?_
 cases hS
 exact VC.ret (fin2 (.inr rfl) rfl rfl rfl (.inr (b35_5, ⟨a_0, a_1, s33_3⟩)) rfl rfl (by (try dsimp only); exact InM.out) (by (try dsimp only); exact EntO.out))
theorem slices_Clip_diff_Edit_diff_Edit_ct (s_0 : Sv DiffEdit) {r : List DiffEdit} (hS : Sh.slices_Clip_diff_Edit_diff_Edit s_0.l = some r) :
 Ct Tryz.prog 299 [s_0.val] s_0.ok (Ow.emp) (X := Sv DiffEdit) (fun x => x.val) (fun x => r = x.l) (fun x => x.ok) (fun x => Ow.emp) := by
 refine Zo Tryz.func299 Tryz.ntmps299 fun c => ?_
 unfold Sh.slices_Clip_diff_Edit_diff_Edit at hS
 refine Zq (Zr ?_)
 refine Zy ?_
 refine Zq (Zr ?_)
 refine Zy ?_
 refine Zu (q_ln (s := s_0) Tryz.underlying363 rfl) ?_
 refine Zm ?_
 refine Zu (q_ln (s := s_0) Tryz.underlying363 rfl) ?_
 obtain ⟨b8, hS⟩ := gd_s hS
 refine VL.stom Tryz.underlying363 gsz366 rfl rfl rfl b8.1 (b8.2) (by decide) fun s8_1 hs8_1 => ?_
 replace hS := lt_to hs8_1 hS
 refine Zy ?_
 cases hS
 exact VC.ret (fin1 (.inr rfl) rfl rfl s8_1 rfl rfl (by (try dsimp only); exact InM.out) (fun _ _ => trivial))
theorem diff_Lines_ct (a_0 : Sv Str) (a_1 : Sv Str) {r : List DiffEdit × Err} (hS : Sh.diff_Lines a_0.l a_1.l = some r) :
 Ct Tryz.prog 283 [a_0.val, a_1.val] (a_0.ok.and a_1.ok) (Ow.emp) (X := Sv DiffEdit × Er) (fun x => .tuple #[x.1.val, x.2.val]) (fun x => r = (x.1.l, x.2.pl)) (fun x => (x.1.ok.and x.2.ok)) (fun x => Ow.emp) := by
 refine Zo Tryz.func283 Tryz.ntmps283 fun c => ?_
 unfold Sh.diff_Lines at hS
 refine Zq (Zr ?_)
 refine Zy ?_
 refine Zq (Zr ?_)
 refine Zy ?_
 obtain ⟨y16_1, ey16_1, hS⟩ := bd_s hS
 refine VL.callO (diff_made_ct a_0 a_1 ey16_1) rfl (by decide) ?_
 rintro (q16_1_0 | ⟨q16_1_0, q16_1_1⟩) rfl
 ·
  try dsimp only at hS
  try dsimp only
  refine Zm ?_
  refine Zu (q_extract rfl rfl) ?_
  refine Zu (q_extract rfl rfl) ?_
  refine Zy ?_
  refine VC.keep [0, 1, 6, 7] rfl ?_
  refine Zq (Zq (Zr ?_))
  refine Zm ?_
  refine Zu (q_erne Tryz.underlying29 rfl) ?_
  refine Zl ?_
  refine Zcn hS (fun h20 hS => ?_) (fun h20 hS => ?_)
  ·
   refine Zq (Zr ?_)
   refine Zy ?_
   cases hS
   exact VC.ret (fin2 (.inr rfl) rfl rfl rfl (⟨none, 0, []⟩, q16_1_0) rfl rfl (by (try dsimp only); exact InM.out) (fun _ _ => trivial))
  refine Zk ?_
  refine Zq (Zr ?_)
  refine Zy ?_
  refine VC.cutJ (S := Unit) (fun (_ : Unit) => ()) (fun (_ : Unit) => [(8, .slice none 0 0)]) (fun (_ : Unit) => Mo.tt) (fun (_ : Unit) => Ow.emp) hS ?_ ?_
  ·
   clear hS
   intro k2 hS
   refine Zq (Zr ?_)
   refine Zy ?_
   refine Zb ?_
   refine VC.iter (S := Unit) (fun (_ : Unit) => ()) (fun (_ : Unit) => [(0, a_0.val), (1, a_1.val), (6, .pointer none), (8, .slice none 0 0), (9, i64 0), (10, i64 0)]) (fun (_ : Unit) => Mo.tt) (fun (_ : Unit) => Ow.emp) () [0, 1, 6, 8, 9, 10] hS rfl ?_
   clear hS
   rintro _ m1 y1 hS hK1
   refine VC.cutJ (S := Unit) (fun (_ : Unit) => ()) (fun (_ : Unit) => [(0, a_0.val), (1, a_1.val), (6, .pointer none), (8, .slice none 0 0), (9, i64 0), (10, i64 0)]) (fun (_ : Unit) => Mo.tt) (fun (_ : Unit) => Ow.emp) hS ?_ ?_
   ·
    clear hS
    intro k3 hS
    refine Zq (Zr ?_)
    refine Zy ?_
    refine Zu (q_ln (s := a_0) Tryz.underlying82 rfl) ?_
    refine Zu (q_lss rfl rfl) ?_
    refine Zm ?_
    refine Zsp 26 hS (fun h26 hS => ?_) (fun h26 hS => ?_)
    ·
     refine Zy ?_
     refine VC.keep [0, 1, 6, 8, 9, 10, 31] rfl ?_
     refine VC.cond_t rfl ?_
     refine VC.skip_mt () [0, 1, 6, 8, 9, 10] (fun _ _ h => h) hS rfl
    refine Zy ?_
    refine Zh (q_ln (s := a_1) Tryz.underlying82 rfl) ?_
    refine Zh (q_lss rfl rfl) ?_
    refine Zy ?_
    refine VC.keep [0, 1, 6, 8, 9, 10, 31] rfl ?_
    refine Zc hS (fun h31 hS => ?_) (fun h31 hS => ?_)
    ·
     refine VC.skip_mt () [0, 1, 6, 8, 9, 10] (fun _ _ h => h) hS rfl
    replace hS := up2 hS hK1
    refine VC.exit_mt () [8] (fun _ _ h => h) hS rfl
   clear hS
   rintro _ hS
   refine Zb (Zq (Zr ?_))
   refine Zy ?_
   cases hS
  clear hS
  rintro _ hS
  refine Zq (Zr ?_)
  refine Zm ?_
  obtain ⟨y64_4, ey64_4, hS⟩ := bd_s hS
  refine VL.callF (slices_Clip_diff_Edit_diff_Edit_ct ⟨none, 0, []⟩ ey64_4) rfl (by decide) ?_
  rintro q64_4_0 rfl
  try dsimp only
  refine Zy ?_
  cases hS
  exact VC.ret (fin2 (.inr rfl) rfl rfl rfl (q64_4_0, .nil) rfl rfl (by (try dsimp only); exact InM.out) (fun _ _ => trivial))
 try dsimp only at hS
 try dsimp only
 refine Zm ?_
 refine Zu (q_extract rfl rfl) ?_
 refine Zu (q_extract rfl rfl) ?_
 refine Zy ?_
 refine VC.keep [0, 1, 6, 7] rfl ?_
 refine Zq (Zq (Zr ?_))
 refine Zm ?_
 refine Zu (q_nilne Tryz.underlying29 rfl) ?_
 refine Zl ?_
 refine VC.cond_f rfl ?_
 refine Zk ?_
 refine Zq (Zr ?_)
 refine Zy ?_
 refine VC.cutJ (S := Unit) (fun (_ : Unit) => ()) (fun (_ : Unit) => [(8, .slice none 0 0)]) (fun (_ : Unit) => Mo.tt) (fun (_ : Unit) => Ow.star (Blk q16_1_0 [q16_1_1.a.val, q16_1_1.b.val, q16_1_1.n.val] 386) (Ow.emp)) hS ?_ ?_
 ·
  clear hS
  intro k5 hS
  refine Zq (Zr ?_)
  refine Zy ?_
  refine Zb ?_
  refine VC.iter (S := Unit) (fun (_ : Unit) => ()) (fun (_ : Unit) => [(0, a_0.val), (1, a_1.val), (6, ptr q16_1_0 0), (8, .slice none 0 0), (9, i64 0), (10, i64 0)]) (fun (_ : Unit) => Mo.tt) (fun (_ : Unit) => Ow.star (Blk q16_1_0 [q16_1_1.a.val, q16_1_1.b.val, q16_1_1.n.val] 386) (Ow.emp)) () [0, 1, 6, 8, 9, 10] hS rfl ?_
  clear hS
  rintro _ m1 y1 hS hK1
  refine VC.cutJ (S := Unit) (fun (_ : Unit) => ()) (fun (_ : Unit) => [(0, a_0.val), (1, a_1.val), (6, ptr q16_1_0 0), (8, .slice none 0 0), (9, i64 0), (10, i64 0)]) (fun (_ : Unit) => Mo.tt) (fun (_ : Unit) => Ow.star (Blk q16_1_0 [q16_1_1.a.val, q16_1_1.b.val, q16_1_1.n.val] 386) (Ow.emp)) hS ?_ ?_
  ·
   clear hS
   intro k6 hS
   refine Zq (Zr ?_)
   refine Zy ?_
   refine Zu (q_ln (s := a_0) Tryz.underlying82 rfl) ?_
   refine Zu (q_lss rfl rfl) ?_
   refine Zm ?_
   refine Zsp 26 hS (fun h26 hS => ?_) (fun h26 hS => ?_)
   ·
    refine Zy ?_
    refine VC.keep [0, 1, 6, 8, 9, 10, 31] rfl ?_
    refine VC.cond_t rfl ?_
    refine VC.skip_mt () [0, 1, 6, 8, 9, 10] (fun _ _ h => h) hS rfl
   refine Zy ?_
   refine Zh (q_ln (s := a_1) Tryz.underlying82 rfl) ?_
   refine Zh (q_lss rfl rfl) ?_
   refine Zy ?_
   refine VC.keep [0, 1, 6, 8, 9, 10, 31] rfl ?_
   refine Zc hS (fun h31 hS => ?_) (fun h31 hS => ?_)
   ·
    refine VC.skip_mt () [0, 1, 6, 8, 9, 10] (fun _ _ h => h) hS rfl
   replace hS := up2 hS hK1
   refine VC.exit_mt () [8] (fun _ _ h => h) hS rfl
  clear hS
  rintro _ hS
  refine Zb (Zq (Zr ?_))
  refine Zy ?_
  cases hS
 clear hS
 rintro _ hS
 refine Zq (Zr ?_)
 refine Zm ?_
 obtain ⟨y64_7, ey64_7, hS⟩ := bd_s hS
 refine VL.callF (slices_Clip_diff_Edit_diff_Edit_ct ⟨none, 0, []⟩ ey64_7) rfl (by decide) ?_
 rintro q64_7_0 rfl
 try dsimp only
 refine Zy ?_
 cases hS
 exact VC.ret (fin2 (.inr rfl) rfl rfl rfl (q64_7_0, .nil) rfl rfl (by (try dsimp only); exact InM.out) (fun _ _ => trivial))
theorem slices_Clip_diff_Match_diff_Match_ct (s_0 : Sv DiffMatch) {r : List DiffMatch} (hS : Sh.slices_Clip_diff_Match_diff_Match s_0.l = some r) :
 Ct Tryz.prog 284 [s_0.val] s_0.ok (Ow.emp) (X := Sv DiffMatch) (fun x => x.val) (fun x => r = x.l) (fun x => x.ok) (fun x => Ow.emp) := by
 refine Zo Tryz.func284 Tryz.ntmps284 fun c => ?_
 unfold Sh.slices_Clip_diff_Match_diff_Match at hS
 refine Zq (Zr ?_)
 refine Zy ?_
 refine Zq (Zr ?_)
 refine Zy ?_
 refine Zu (q_ln (s := s_0) Tryz.underlying337 rfl) ?_
 refine Zm ?_
 refine Zu (q_ln (s := s_0) Tryz.underlying337 rfl) ?_
 obtain ⟨b8, hS⟩ := gd_s hS
 refine VL.stom Tryz.underlying337 gsz342 rfl rfl rfl b8.1 (b8.2) (by decide) fun s8_1 hs8_1 => ?_
 replace hS := lt_to hs8_1 hS
 refine Zy ?_
 cases hS
 exact VC.ret (fin1 (.inr rfl) rfl rfl s8_1 rfl rfl (by (try dsimp only); exact InM.out) (fun _ _ => trivial))
theorem diff_Matches_ct (a_0 : Sv Str) (a_1 : Sv Str) {r : List DiffMatch × Err} (hS : Sh.diff_Matches a_0.l a_1.l = some r) :
 Ct Tryz.prog 261 [a_0.val, a_1.val] (a_0.ok.and a_1.ok) (Ow.emp) (X := Sv DiffMatch × Er) (fun x => .tuple #[x.1.val, x.2.val]) (fun x => r = (x.1.l, x.2.pl)) (fun x => (x.1.ok.and x.2.ok)) (fun x => Ow.emp) := by
 refine Zo Tryz.func261 Tryz.ntmps261 fun c => ?_
 unfold Sh.diff_Matches at hS
 refine Zq (Zr ?_)
 refine Zy ?_
 refine Zq (Zr ?_)
 refine Zy ?_
 obtain ⟨y17_1, ey17_1, hS⟩ := bd_s hS
 refine VL.callF (diff_Lines_ct a_0 a_1 ey17_1) rfl (by decide) ?_
 rintro ⟨q17_1_0, q17_1_1⟩ rfl
 try dsimp only
 refine Zm ?_
 refine Zu (q_extract rfl rfl) ?_
 refine Zu (q_extract rfl rfl) ?_
 refine Zy ?_
 refine VC.keep [6, 7] rfl ?_
 refine Zq (Zq (Zr ?_))
 refine Zm ?_
 refine Zu (q_erne Tryz.underlying29 rfl) ?_
 refine Zl ?_
 refine Zcn hS (fun h21 hS => ?_) (fun h21 hS => ?_)
 ·
  refine Zq (Zr ?_)
  refine Zy ?_
  cases hS
  exact VC.ret (fin2 (.inr rfl) rfl rfl rfl (⟨none, 0, []⟩, q17_1_1) rfl rfl (by (try dsimp only); exact InM.out) (fun _ _ => trivial))
 refine Zk ?_
 refine Zq (Zr ?_)
 refine Zy ?_
 refine Zq (Zr ?_)
 refine Zy ?_
 refine Zq (Zq (Zr ?_))
 refine Zm ?_
 refine Zu (q_ln (s := q17_1_0) Tryz.underlying363 rfl) ?_
 refine Zy ?_
 refine Zb ?_
 refine VC.nilO (⟨none, 0, []⟩ : Sv DiffMatch) 342 ⟨rfl, rfl⟩ ?_
 refine VC.iter (S := Sv DiffMatch × Int × Int × Bool × Int) (fun sg => (sg.1.l, sg.2.1, sg.2.2.1, sg.2.2.2.1, sg.2.2.2.2)) (fun sg => [(8, sg.1.val), (9, i64 sg.2.1), (10, i64 sg.2.2.1), (11, .bool sg.2.2.2.1), (23, q17_1_0.val), (24, i64 (q17_1_0.l.length : Int)), (25, i64 sg.2.2.2.2)]) (fun sg => Mo.tt) (fun sg => Ow.star (Sv.own sg.1 342) (Ow.emp)) (⟨none, 0, []⟩, 0, 0, false, 0) [8, 9, 10, 11, 23, 24, 25] hS rfl ?_
 clear hS
 rintro ⟨x8_2, x9_3, x10_4, x11_5, x25_6⟩ m1 y1 hS hK1
 refine Zq (Zr ?_)
 refine Zu (q_lss rfl rfl) ?_
 refine Zl ?_
 refine Zq ?_
 refine Zc hS (fun h26 hS => ?_) (fun h26 hS => ?_)
 ·
  refine Zk ?_
  refine Zq (Zb (Zq (Zr ?_)))
  obtain ⟨z27_7, nz27_7, hz27_7, hS⟩ := at_s hS
  refine Zu (q_ixm (s := q17_1_0) Tryz.underlying363 gsz366 rfl rfl nz27_7 (lt_of_get nz27_7 hz27_7)) ?_
  refine Zu (q_els (s := q17_1_0) gagg366 rfl rfl hz27_7) ?_
  refine VL.alloc (cs := [i64 0, str []]) (by kernel_rfl) (by decide) fun b13_8 => ?_
  refine Zv (vc := [i64 z27_7.op, str z27_7.line]) (cs' := [i64 z27_7.op, str z27_7.line]) rfl gsz366 ?_
  refine Zl ?_
  refine VC.cutJ (S := Sv DiffMatch) (fun (x8_9 : Sv DiffMatch) => x8_9.l) (fun (x8_9 : Sv DiffMatch) => [(8, x8_9.val), (9, i64 x9_3), (10, i64 x10_4), (13, ptr b13_8 0), (23, q17_1_0.val), (24, i64 (q17_1_0.l.length : Int)), (25, i64 x25_6)]) (fun (x8_9 : Sv DiffMatch) => Mo.tt) (fun (x8_9 : Sv DiffMatch) => Ow.star (Blk b13_8 [i64 z27_7.op, str z27_7.line] 366) (Ow.star (Sv.own x8_9 342) (Ow.emp))) hS ?_ ?_
  ·
   clear hS
   intro k10 hS
   refine Zq (Zr ?_)
   refine Zu (q_field gfa366_0 rfl) ?_
   refine Zu (q_fe gone3 rfl rfl) ?_
   refine Zu (q_eql rfl rfl) ?_
   refine Zl ?_
   refine Zc hS (fun h31 hS => ?_) (fun h31 hS => ?_)
   ·
    refine VC.cutJ (S := Sv DiffMatch) (fun (x8_11 : Sv DiffMatch) => x8_11.l) (fun (x8_11 : Sv DiffMatch) => [(8, x8_11.val), (9, i64 x9_3), (10, i64 x10_4), (13, ptr b13_8 0), (23, q17_1_0.val), (24, i64 (q17_1_0.l.length : Int)), (25, i64 x25_6)]) (fun (x8_11 : Sv DiffMatch) => Mo.tt) (fun (x8_11 : Sv DiffMatch) => Ow.star (Blk b13_8 [i64 z27_7.op, str z27_7.line] 366) (Ow.star (Sv.own x8_11 342) (Ow.emp))) hS ?_ ?_
    ·
     clear hS
     intro k12 hS
     refine Zq (Zr ?_)
     refine Zm ?_
     refine Zu (q_not rfl) ?_
     refine Zl ?_
     refine VC.keep [8, 9, 10, 23, 24, 25, 13, 33] rfl ?_
     refine Zcb hS (fun h33 hS => ?_) (fun h33 hS => ?_)
     ·
      refine Zr ?_
      refine Zy ?_
      refine Zu (q_build (vs := [(0, i64 x9_3), (1, i64 x10_4)]) (cs := #[i64 x9_3, i64 x10_4, i64 0]) rfl (by kernel_rfl)) ?_
      refine VL.lit (α := DiffMatch) (xs := [.tmp 37]) (vs := [.agg #[i64 x9_3, i64 x10_4, i64 0]]) [⟨x9_3, x10_4, 0⟩] Tryz.underlying337 glit342 (by decide) rfl rfl rfl rfl (by decide) (fun _ _ _ _ => trivial) (by decide) (fun s38_13 hs38_13 => ?_) (by decide)
      replace hS := lt_to hs38_13 hS
      obtain ⟨b39, hS⟩ := gd_s hS
      refine VL.app (s := x8_2) (r := s38_13) Tryz.underlying337 gapp342 (by decide) rfl Fo.out (ap1 b39) (ap2 b39 (by decide)) (by decide) (fun s39_15 hs39_15 => ?_)
      replace hS := lt_to hs39_15 hS
      refine Za ?_
      refine VL.mt s39_15 [8, 9, 10, 13, 23, 24, 25] (fun _ _ h => h) hS rfl
     refine VC.skip_mt x8_2 [8, 9, 10, 13, 23, 24, 25] (fun _ _ h => h) hS rfl
    clear hS
    rintro x8_11 hS
    refine Zr ?_
    refine Zy ?_
    refine Zu (q_ln (s := x8_11) Tryz.underlying337 rfl) ?_
    obtain ⟨b43, hS⟩ := gd_s hS
    refine Zu (q_sub rfl rfl b43) ?_
    obtain ⟨z44_17, nz44_17, hz44_17, hS⟩ := at_s hS
    refine Zu (q_ixo (s := x8_11) Tryz.underlying337 gsz342 rfl rfl nz44_17 (lt_of_get nz44_17 hz44_17)) ?_
    refine Zu (q_field gfa342_2 rfl) ?_
    refine Zu (q_elfo (s := x8_11) gone3 rfl hz44_17 rfl) ?_
    obtain ⟨b47, hS⟩ := gd_s hS
    refine Zu (q_add rfl rfl b47) ?_
    obtain ⟨z48_18, nz48_18, hz48_18, hS⟩ := at_s hS
    refine Zu (q_ixo (s := x8_11) Tryz.underlying337 gsz342 rfl rfl nz48_18 (lt_of_get nz48_18 hz48_18)) ?_
    refine Zu (q_field gfa342_2 rfl) ?_
    refine VL.storeE (s := x8_11) (T := 342) (j := 2) (vc := [i64 (z44_17.n + 1)]) (⟨z48_18.a, z48_18.b, (z44_17.n + 1)⟩ : DiffMatch) (by decide) rfl rfl hz48_18 rfl gsz3 rfl rfl (Nat.le_of_ble_eq_true rfl) rfl (fun w19 hw19 haw19 hcw19 hvw19 hbw19 how19 => ?_)
    rw [← hvw19]
    replace hS := lt_to hw19 hS
    refine VL.mt w19 [8, 9, 10, 13, 23, 24, 25] (fun _ _ h => h) hS rfl
   refine VC.skip_mt x8_2 [8, 9, 10, 13, 23, 24, 25] (fun _ _ h => h) hS rfl
  clear hS
  rintro x8_9 hS
  refine Zq (Zr ?_)
  refine Zu (q_field gfa366_0 rfl) ?_
  refine Zu (q_fe gone3 rfl rfl) ?_
  refine Zu (q_eql rfl rfl) ?_
  refine Zy ?_
  refine VC.cutJ (S := Int) (fun (x9_21 : Int) => x9_21) (fun (x9_21 : Int) => [(8, x8_9.val), (9, i64 x9_21), (10, i64 x10_4), (11, .bool (decide (z27_7.op = 1))), (13, ptr b13_8 0), (23, q17_1_0.val), (24, i64 (q17_1_0.l.length : Int)), (25, i64 x25_6)]) (fun (x9_21 : Int) => Mo.tt) (fun (x9_21 : Int) => Ow.star (Blk b13_8 [i64 z27_7.op, str z27_7.line] 366) (Ow.star (Sv.own x8_9 342) (Ow.emp))) hS ?_ ?_
  ·
   clear hS
   intro k22 hS
   refine Zq (Zr ?_)
   refine Zu (q_field gfa366_0 rfl) ?_
   refine Zu (q_fe gone3 rfl rfl) ?_
   refine Zu (q_neq rfl rfl) ?_
   refine Zl ?_
   refine Zcn hS (fun h55 hS => ?_) (fun h55 hS => ?_)
   ·
    refine Zr ?_
    refine Zm ?_
    obtain ⟨b57, hS⟩ := gd_s hS
    refine Zu (q_add rfl rfl b57) ?_
    refine Za ?_
    refine VL.mt (x9_3 + 1) [8, 9, 10, 11, 13, 23, 24, 25] (fun _ _ h => h) hS rfl
   refine VC.skip_mt x9_3 [8, 9, 10, 11, 13, 23, 24, 25] (fun _ _ h => h) hS rfl
  clear hS
  rintro x9_21 hS
  refine Zq (Zr ?_)
  refine Zu (q_field gfa366_0 rfl) ?_
  refine Zu (q_fe gone3 rfl rfl) ?_
  refine Zu (q_neq rfl rfl) ?_
  refine Zl ?_
  refine Zcn hS (fun h60 hS => ?_) (fun h60 hS => ?_)
  ·
   refine Zr ?_
   refine Zm ?_
   obtain ⟨b62, hS⟩ := gd_s hS
   refine Zu (q_add rfl rfl b62) ?_
   refine Zy ?_
   refine Zr ?_
   obtain ⟨b63, hS⟩ := gd_s hS
   refine Zu (q_add rfl rfl b63) ?_
   refine Zm ?_
   refine VL.rnd (x8_9, x9_21, (x10_4 + 1), (decide (z27_7.op = 1)), (x25_6 + 1)) [8, 9, 10, 11, 23, 24, 25] (fun _ _ h => h) (go2 hS hK1) rfl
  refine Zk ?_
  refine Zr ?_
  obtain ⟨b63, hS⟩ := gd_s hS
  refine Zu (q_add rfl rfl b63) ?_
  refine Zm ?_
  refine VL.rnd (x8_9, x9_21, x10_4, (decide (z27_7.op = 1)), (x25_6 + 1)) [8, 9, 10, 11, 23, 24, 25] (fun _ _ h => h) (go2 hS hK1) rfl
 replace hS := up2 hS hK1
 refine Zx ?_
 refine Zq (Zr ?_)
 refine Zm ?_
 refine VL.shut x8_2 342 (fun _ _ _ _ => trivial) ?_
 obtain ⟨y65_23, ey65_23, hS⟩ := bd_s hS
 refine VL.callF (slices_Clip_diff_Match_diff_Match_ct x8_2 ey65_23) rfl (by decide) ?_
 rintro q65_23_0 rfl
 try dsimp only
 refine Zy ?_
 refine VC.keep [4, 5] rfl ?_
 cases hS
 exact VC.ret (fin2 (.inr rfl) rfl rfl rfl (q65_23_0, .nil) rfl rfl (by (try dsimp only); exact InM.out) (fun _ _ => trivial))
theorem merge_places0_ct (base_0 : Sv Str) (other_1 : Sv Str) {r : List Int × Err} (hS : Sh.merge_places0 base_0.l other_1.l = some r) :
 Ct Tryz.prog 224 [base_0.val, other_1.val] (base_0.ok.and other_1.ok) (Ow.emp) (X := Sv Int × Er) (fun x => .tuple #[x.1.val, x.2.val]) (fun x => r = (x.1.l, x.2.pl)) (fun x => (x.1.ok.and x.2.ok)) (fun x => Ow.emp) := by
 refine Zo Tryz.func224 Tryz.ntmps224 fun c => ?_
 unfold Sh.merge_places0 at hS
 refine Zq (Zr ?_)
 refine Zy ?_
 refine Zq (Zr ?_)
 refine Zy ?_
 obtain ⟨y15_1, ey15_1, hS⟩ := bd_s hS
 refine VL.callF (diff_Matches_ct base_0 other_1 ey15_1) rfl (by decide) ?_
 rintro ⟨q15_1_0, q15_1_1⟩ rfl
 try dsimp only
 refine Zm ?_
 refine Zu (q_extract rfl rfl) ?_
 refine Zu (q_extract rfl rfl) ?_
 refine Zy ?_
 refine VC.keep [0, 6, 7] rfl ?_
 refine Zq (Zq (Zr ?_))
 refine Zm ?_
 refine Zu (q_erne Tryz.underlying29 rfl) ?_
 refine Zl ?_
 refine Zcn hS (fun h19 hS => ?_) (fun h19 hS => ?_)
 ·
  refine Zq (Zr ?_)
  refine Zy ?_
  cases hS
  exact VC.ret (fin2 (.inr rfl) rfl rfl rfl (⟨none, 0, []⟩, q15_1_1) rfl rfl (by (try dsimp only); exact InM.out) (fun _ _ => trivial))
 refine Zk ?_
 refine Zq (Zr ?_)
 refine VL.lit (α := Int) (xs := [.const (i64 (-1))]) (vs := [i64 (-1)]) [(-1)] Tryz.underlying26 glit3 (by decide) rfl rfl rfl rfl (by decide) (fun _ _ _ _ => trivial) (by decide) (fun s21_2 hs21_2 => ?_) (by decide)
 replace hS := lt_to hs21_2 hS
 refine Zm ?_
 refine Zu (q_ln (s := base_0) Tryz.underlying82 rfl) ?_
 obtain ⟨y24_4, ey24_4, hS⟩ := bd_s hS
 refine VL.callO (repeat2_ct s21_2 (base_0.l.length : Int) ey24_4) rfl (by decide) ?_
 rintro q24_4_0 rfl
 try dsimp only
 refine Zy ?_
 refine Zq (Zq (Zr ?_))
 refine Zm ?_
 refine Zu (q_ln (s := q15_1_0) Tryz.underlying337 rfl) ?_
 refine Zy ?_
 refine VC.keep [8, 25, 26, 27] rfl ?_
 refine Zb ?_
 refine VC.iter (S := Sv Int × Int) (fun sg => (sg.1.l, sg.2)) (fun sg => [(8, sg.1.val), (25, q15_1_0.val), (26, i64 (q15_1_0.l.length : Int)), (27, i64 sg.2)]) (fun sg => Mo.tt) (fun sg => Ow.star (Sv.own sg.1 3) (Ow.emp)) (q24_4_0, 0) [8, 25, 26, 27] hS rfl ?_
 clear hS
 rintro ⟨out8_5, x27_6⟩ m1 y1 hS hK1
 refine Zq (Zr ?_)
 refine Zu (q_lss rfl rfl) ?_
 refine Zl ?_
 refine Zq ?_
 refine Zc hS (fun h28 hS => ?_) (fun h28 hS => ?_)
 ·
  refine Zk ?_
  refine Zq (Zb (Zq (Zr ?_)))
  obtain ⟨z29_7, nz29_7, hz29_7, hS⟩ := at_s hS
  refine Zu (q_ixm (s := q15_1_0) Tryz.underlying337 gsz342 rfl rfl nz29_7 (lt_of_get nz29_7 hz29_7)) ?_
  refine Zu (q_els (s := q15_1_0) gagg342 rfl rfl hz29_7) ?_
  refine VL.alloc (cs := [i64 0, i64 0, i64 0]) (by kernel_rfl) (by decide) fun b10_8 => ?_
  refine Zv (vc := [i64 z29_7.a, i64 z29_7.b, i64 z29_7.n]) (cs' := [i64 z29_7.a, i64 z29_7.b, i64 z29_7.n]) rfl gsz342 ?_
  refine Zl ?_
  refine Zq (Zr ?_)
  refine Zu (q_field gfa342_2 rfl) ?_
  refine Zu (q_fe gone3 rfl rfl) ?_
  refine Zy ?_
  refine Zb ?_
  refine VC.iter (S := Sv Int × Int) (fun sg => (sg.1.l, sg.2)) (fun sg => [(8, sg.1.val), (10, ptr b10_8 0), (25, q15_1_0.val), (26, i64 (q15_1_0.l.length : Int)), (27, i64 x27_6), (32, i64 z29_7.n), (33, i64 sg.2)]) (fun sg => Mo.tt) (fun sg => Ow.star (Blk b10_8 [i64 z29_7.a, i64 z29_7.b, i64 z29_7.n] 342) (Ow.star (Sv.own sg.1 3) (Ow.emp))) (out8_5, 0) [8, 10, 25, 26, 27, 32, 33] hS rfl ?_
  clear hS
  rintro ⟨out8_9, x33_10⟩ m2 y2 hS hK2
  refine Zq (Zr ?_)
  refine Zu (q_lss rfl rfl) ?_
  refine Zl ?_
  refine Zq ?_
  refine Zc hS (fun h34 hS => ?_) (fun h34 hS => ?_)
  ·
   refine Zk ?_
   refine Zq (Zb (Zq (Zr ?_)))
   refine Zy ?_
   refine Zr ?_
   refine Zm ?_
   refine Zu (q_field gfa342_0 rfl) ?_
   refine Zu (q_fe gone3 rfl rfl) ?_
   refine Zm ?_
   obtain ⟨b40, hS⟩ := gd_s hS
   refine Zu (q_add rfl rfl b40) ?_
   refine Zu (q_field gfa342_1 rfl) ?_
   refine Zu (q_fe gone3 rfl rfl) ?_
   refine Zm ?_
   obtain ⟨b44, hS⟩ := gd_s hS
   refine Zu (q_add rfl rfl b44) ?_
   obtain ⟨z45_11, nz45_11, hz45_11, hS⟩ := at_s hS
   refine Zu (q_ixo (s := out8_9) Tryz.underlying26 gsz3 rfl rfl nz45_11 (lt_of_get nz45_11 hz45_11)) ?_
   refine VL.storeE (s := out8_9) (T := 3) (j := 0) (vc := [i64 (z29_7.b + x33_10)]) ((z29_7.b + x33_10) : Int) (by decide) rfl rfl hz45_11 rfl gsz3 rfl rfl (Nat.le_of_ble_eq_true rfl) rfl (fun w12 hw12 haw12 hcw12 hvw12 hbw12 how12 => ?_)
   rw [← hvw12]
   replace hS := lt_to hw12 hS
   refine Zl ?_
   refine VC.keep [8, 10, 25, 26, 27, 32, 33] rfl ?_
   refine Zr ?_
   obtain ⟨b46, hS⟩ := gd_s hS
   refine Zu (q_add rfl rfl b46) ?_
   refine Zm ?_
   refine VL.rnd (w12, (x33_10 + 1)) [8, 10, 25, 26, 27, 32, 33] (fun _ _ h => h) (go2 hS hK2) rfl
  replace hS := up2 hS hK2
  refine Zx ?_
  refine Zr ?_
  obtain ⟨b47, hS⟩ := gd_s hS
  refine Zu (q_add rfl rfl b47) ?_
  refine Zm ?_
  refine VL.rnd (out8_9, (x27_6 + 1)) [8, 25, 26, 27] (fun _ _ h => h) (go2 hS hK1) rfl
 replace hS := up2 hS hK1
 refine Zx ?_
 refine Zq (Zr ?_)
 refine Zy ?_
 refine VC.shut out8_5 3 (fun _ _ _ _ => trivial) ?_
 cases hS
 exact VC.ret (fin2 (.inr rfl) rfl rfl rfl (out8_5, .nil) rfl rfl (by (try dsimp only); exact InM.out) (fun _ _ => trivial))
theorem merge_places_ct (base_0 : Sv Str) (other_1 : Sv Str) {r : List Int × Err} (hS : Sh.merge_places base_0.l other_1.l = some r) :
 Ct Tryz.prog 224 [base_0.val, other_1.val] (base_0.ok.and other_1.ok) (Ow.emp) (X := Sv Int × Er) (fun x => .tuple #[x.1.val, x.2.val]) (fun x => r = (x.1.l, x.2.pl)) (fun x => (x.1.ok.and x.2.ok)) (fun x => Ow.emp) := by
 unfold Sh.merge_places at hS
 split at hS
 ·
  next h =>
  cases hS
  exact Ct.mapX (places_ct base_0 other_1 h.1 h.2) (fun q => (q, Er.nil)) (fun _ => rfl) (fun q hq => by rw [← hq]; rfl) (fun q hp m => ⟨m, trivial⟩) (fun _ _ e => e)
 exact merge_places0_ct base_0 other_1 hS
theorem merge_Chunks0_ct (a_0 : Sv Str) (a_1 : Sv Str) (a_2 : Sv Str) {r : List P.Chunk × Err} (hS : Sh.merge_Chunks0 a_0.l a_1.l a_2.l = some r) :
 Ct Tryz.prog 180 [a_0.val, a_1.val, a_2.val] (a_0.ok.and (a_1.ok.and a_2.ok)) (Ow.emp) (X := Sv Ck × Er) (fun x => .tuple #[x.1.val, x.2.val]) (fun x => r = ((x.1.l.map Ck.pl), x.2.pl)) (fun x => (x.1.ok.and x.2.ok)) (fun x => Ow.emp) := by
 refine Zo Tryz.func180 Tryz.ntmps180 fun c => ?_
 unfold Sh.merge_Chunks0 at hS
 refine Zq (Zr ?_)
 refine Zy ?_
 refine Zq (Zr ?_)
 refine Zy ?_
 obtain ⟨y18_1, ey18_1, hS⟩ := bd_s hS
 refine VL.callF (merge_places_ct a_0 a_1 ey18_1) rfl (by decide) ?_
 rintro ⟨q18_1_0, q18_1_1⟩ rfl
 try dsimp only
 refine Zm ?_
 refine Zu (q_extract rfl rfl) ?_
 refine Zu (q_extract rfl rfl) ?_
 refine Zy ?_
 refine VC.keep [0, 1, 2, 8, 9] rfl ?_
 refine Zq (Zq (Zr ?_))
 refine Zm ?_
 refine Zu (q_erne Tryz.underlying29 rfl) ?_
 refine Zl ?_
 refine Zcn hS (fun h22 hS => ?_) (fun h22 hS => ?_)
 ·
  refine Zq (Zr ?_)
  refine Zy ?_
  cases hS
  exact VC.ret (fin2 (.inr rfl) rfl rfl rfl (⟨none, 0, []⟩, q18_1_1) rfl rfl (by (try dsimp only); exact InM.out) (fun _ _ => trivial))
 refine Zk ?_
 refine Zq (Zr ?_)
 refine Zy ?_
 obtain ⟨y27_2, ey27_2, hS⟩ := bd_s hS
 refine VL.callF (merge_places_ct a_0 a_2 ey27_2) rfl (by decide) ?_
 rintro ⟨q27_2_0, q27_2_1⟩ rfl
 try dsimp only
 refine Zm ?_
 refine Zu (q_extract rfl rfl) ?_
 refine Zu (q_extract rfl rfl) ?_
 refine Zy ?_
 refine VC.keep [0, 1, 2, 8, 9, 10] rfl ?_
 refine Zq (Zq (Zr ?_))
 refine Zm ?_
 refine Zu (q_erne Tryz.underlying29 rfl) ?_
 refine Zl ?_
 refine Zcn hS (fun h31 hS => ?_) (fun h31 hS => ?_)
 ·
  refine Zq (Zr ?_)
  refine Zy ?_
  refine VC.keep [6, 7] rfl ?_
  cases hS
  exact VC.ret (fin2 (.inr rfl) rfl rfl rfl (⟨none, 0, []⟩, q27_2_1) rfl rfl (by (try dsimp only); exact InM.out) (fun _ _ => trivial))
 refine Zk ?_
 refine Zq (Zr ?_)
 refine Zy ?_
 refine Zu (q_build (vs := [(0, a_0.val), (1, a_1.val), (2, a_2.val)]) (cs := #[a_0.val, a_1.val, a_2.val, i64 0, i64 0, i64 0, .slice none 0 0, .bool false]) rfl (by kernel_rfl)) ?_
 refine VL.box (cs := [a_0.val, a_1.val, a_2.val, i64 0, i64 0, i64 0, .slice none 0 0, .bool false]) rfl rfl (by decide) fun b37_3 => ?_
 refine Zy ?_
 refine VC.keep [0, 1, 2, 8, 10, 11] rfl ?_
 refine Zq (Zq (Zr ?_))
 refine Zm ?_
 refine Zu (q_ln (s := a_0) Tryz.underlying82 rfl) ?_
 refine Zy ?_
 refine Zb ?_
 refine VC.iter (S := Int) (fun (x40_4 : Int) => x40_4) (fun (x40_4 : Int) => [(0, a_0.val), (1, a_1.val), (2, a_2.val), (8, q18_1_0.val), (10, q27_2_0.val), (11, ptr b37_3 0), (39, i64 (a_0.l.length : Int)), (40, i64 x40_4)]) (fun (x40_4 : Int) => Mo.tt) (fun (x40_4 : Int) => Ow.star (Blk b37_3 [a_0.val, a_1.val, a_2.val, i64 0, i64 0, i64 0, .slice none 0 0, .bool false] 308) (Ow.emp)) 0 [0, 1, 2, 8, 10, 11, 39, 40] hS rfl ?_
 clear hS
 rintro x40_4 m1 y1 hS hK1
 refine Zq (Zr ?_)
 refine Zu (q_lss rfl rfl) ?_
 refine Zl ?_
 refine Zq ?_
 refine Zc hS (fun h41 hS => ?_) (fun h41 hS => ?_)
 ·
  refine Zk ?_
  refine Zq (Zb (Zq (Zr ?_)))
  refine Zy ?_
  refine VC.cutJ (S := Bool) (fun (x54_5 : Bool) => x54_5) (fun (x54_5 : Bool) => [(0, a_0.val), (1, a_1.val), (2, a_2.val), (8, q18_1_0.val), (10, q27_2_0.val), (11, ptr b37_3 0), (12, i64 x40_4), (39, i64 (a_0.l.length : Int)), (40, i64 x40_4), (54, .bool x54_5)]) (fun (x54_5 : Bool) => Mo.tt) (fun (x54_5 : Bool) => Ow.star (Blk b37_3 [a_0.val, a_1.val, a_2.val, i64 0, i64 0, i64 0, .slice none 0 0, .bool false] 308) (Ow.emp)) hS ?_ ?_
  ·
   clear hS
   intro k6 hS
   refine Zr ?_
   refine Zy ?_
   obtain ⟨z45_7, nz45_7, hz45_7, hS⟩ := at_s hS
   refine Zu (q_ixm (s := q18_1_0) Tryz.underlying26 gsz3 rfl rfl nz45_7 (lt_of_get nz45_7 hz45_7)) ?_
   refine Zu (q_el (s := q18_1_0) gone3 rfl hz45_7 rfl) ?_
   refine Zu (q_geq rfl rfl) ?_
   refine Zm ?_
   refine Zsp 48 hS (fun h48 hS => ?_) (fun h48 hS => ?_)
   ·
    refine Zy ?_
    obtain ⟨z51_8, nz51_8, hz51_8, hS⟩ := at_s hS
    refine Zh (q_ixm (s := q27_2_0) Tryz.underlying26 gsz3 rfl rfl nz51_8 (lt_of_get nz51_8 hz51_8)) ?_
    refine Zh (q_el (s := q27_2_0) gone3 rfl hz51_8 rfl) ?_
    refine Zh (q_geq rfl rfl) ?_
    refine Zt ?_
    refine VL.mt (decide (0 ≤ z51_8)) [0, 1, 2, 8, 10, 11, 12, 39, 40, 54] (fun _ _ h => h) hS rfl
   refine Zy ?_
   refine VL.mt false [0, 1, 2, 8, 10, 11, 12, 39, 40, 54] (fun _ _ h => h) hS rfl
  clear hS
  rintro x54_5 hS
  refine Zcb hS (fun h54 hS => ?_) (fun h54 hS => ?_)
  ·
   refine Zq ?_
   refine VC.draw ((List.range 11).map fun k => (k, true)) mixed (by kernel_rfl) (by kernel_rfl) (by kernel_rfl) ?_
   refine Zw rfl (q_move rfl) ?_
   refine Zw rfl (q_move rfl) ?_
   refine Zw rfl (q_move rfl) ?_
   refine Zw rfl (q_move rfl) ?_
   obtain ⟨z59_9, nz59_9, hz59_9, hS⟩ := at_s hS
   refine Zw rfl (q_ixm (s := q18_1_0) Tryz.underlying26 gsz3 rfl rfl nz59_9 (lt_of_get nz59_9 hz59_9)) ?_
   refine Zw rfl (q_el (s := q18_1_0) gone3 rfl hz59_9 rfl) ?_
   refine Zw rfl (q_move rfl) ?_
   refine Zw rfl (q_move rfl) ?_
   obtain ⟨z63_10, nz63_10, hz63_10, hS⟩ := at_s hS
   refine Zw rfl (q_ixm (s := q27_2_0) Tryz.underlying26 gsz3 rfl rfl nz63_10 (lt_of_get nz63_10 hz63_10)) ?_
   refine Zw rfl (q_el (s := q27_2_0) gone3 rfl hz63_10 rfl) ?_
   cases hS
  refine Zk ?_
  refine Zr ?_
  obtain ⟨b68, hS⟩ := gd_s hS
  refine Zu (q_add rfl rfl b68) ?_
  refine Zm ?_
  refine VL.rnd (x40_4 + 1) [0, 1, 2, 8, 10, 11, 39, 40] (fun _ _ h => h) (go2 hS hK1) rfl
 replace hS := up2 hS hK1
 refine Zx ?_
 refine Zq (Zr ?_)
 refine Zy ?_
 refine Zu (q_ln (s := a_0) Tryz.underlying82 rfl) ?_
 refine Zm ?_
 refine Zu (q_ln (s := a_1) Tryz.underlying82 rfl) ?_
 refine Zm ?_
 refine Zu (q_ln (s := a_2) Tryz.underlying82 rfl) ?_
 cases hS
theorem merge_Chunks_ct (a_0 : Sv Str) (a_1 : Sv Str) (a_2 : Sv Str) {r : List P.Chunk × Err} (hS : Sh.merge_Chunks a_0.l a_1.l a_2.l = some r) :
 Ct Tryz.prog 180 [a_0.val, a_1.val, a_2.val] (a_0.ok.and (a_1.ok.and a_2.ok)) (Ow.emp) (X := Sv Ck × Er) (fun x => .tuple #[x.1.val, x.2.val]) (fun x => r = ((x.1.l.map Ck.pl), x.2.pl)) (fun x => (x.1.ok.and x.2.ok)) (fun x => Ow.emp) := by
 unfold Sh.merge_Chunks at hS
 split at hS
 ·
  next h =>
  cases hS
  exact Ct.mapX (chunks_ct a_0 a_1 a_2 h.1 h.2.1 h.2.2) (fun q => (q, Er.nil)) (fun _ => rfl) (fun q hq => by rw [← hq]; rfl) (fun q hp m => ⟨m, trivial⟩) (fun _ _ e => e)
 exact merge_Chunks0_ct a_0 a_1 a_2 hS
theorem join_ct (s : Sv Str) (sep : Str) (hb : s.l.length ≤ 4294967296 ∧ (Go.S.joinS s.l sep).length ≤ 4294967296) : Ct Tryz.prog 231 [s.val, str sep] s.ok Ow.emp (X := Unit) (fun _ => str (Go.S.joinS s.l sep)) (fun _ => True) (fun _ => Mo.tt) (fun _ => Ow.emp) :=
  Ct.of_gr (entry_of Tryz.func231 rfl (by kernel_rfl)) fun w h m l => by
    by_cases hl : s.l = []
    · have := Tryz.strings_Join_none s.a s.c ⟨⟨sep⟩⟩ w
      have e1 : s.val = .slice s.a 0 s.c := by unfold Sv.val; rw [hl]; rfl
      rw [e1]
      exact this.mono fun e w' ⟨h1, h2⟩ => ⟨by rw [h1, hl]; rfl, h2 ▸ Gr.refl w⟩
    · obtain ⟨h1, _, h3, h4, _⟩ := m
      have ha := h3 hl
      have hx : (s.l.map fun z => (⟨⟨z⟩⟩ : ByteArray)).map (·.data.toList) = s.l := by rw [List.map_map]; exact (List.map_congr_left fun z _ => rfl).trans (List.map_id _)
      have hc : ∀ (j : Nat) x, (s.l.map fun z => (⟨⟨z⟩⟩ : ByteArray))[j]? = some x → w.cell? ⟨s.b, s.o + j, none⟩ = some (.string x) := fun j x hj => by
        rw [List.getElem?_map] at hj
        cases hz : s.l[j]? with
        | none => rw [hz] at hj; cases hj
        | some z =>
          rw [hz] at hj; cases hj
          have := h4 j z hz 0 (str z) rfl
          have hs : Dat.sz Str = 1 := rfl
          rw [hs, Nat.mul_one] at this
          exact cell_of_le l (by simpa using this)
      have hlt : s.b < w.heap.size := by
        have h0 : 0 < s.l.length := List.length_pos_iff.2 hl
        have := hc 0 ⟨⟨s.l[0]⟩⟩ (by simp [h0])
        rcases Nat.lt_or_ge s.b w.heap.size with q | q
        · exact q
        · simp [World.cell?, Array.getElem?_eq_none q] at this
      have := Tryz.strings_Join s.b s.o s.c (s.l.map fun z => ⟨⟨z⟩⟩) ⟨⟨sep⟩⟩ w hc hlt (by rw [List.length_map]; omega) (by rw [List.length_map]; exact h1) (by rw [hx]; have := hb.2; unfold Go.S.joinS at this; show (Lib.join s.l sep).length ≤ _; omega)
      rw [hx, List.length_map] at this
      have e1 : s.val = .slice (some ⟨s.b, s.o, none⟩) s.l.length s.c := by unfold Sv.val; rw [ha]
      rw [e1]
      exact this.mono fun e w' ⟨h1, h2⟩ => ⟨h1, Gr.of_below h2⟩
theorem lines_Join_ct (l_0 : Sv Str) {r : Str} (hS : Sh.lines_Join l_0.l = some r) :
 Ct Tryz.prog 184 [l_0.val] l_0.ok (Ow.emp) (X := Unit) (fun _ => str r) (fun _ => True) (fun _ => Mo.tt) (fun _ => Ow.emp) := by
 refine Zo Tryz.func184 Tryz.ntmps184 fun c => ?_
 unfold Sh.lines_Join at hS
 refine Zq (Zr ?_)
 refine Zy ?_
 refine Zq (Zr ?_)
 refine Zm ?_
 obtain ⟨b4, hS⟩ := gd_s hS
 obtain ⟨y4_1, ey4_1, hS⟩ := lt_s hS
 refine Zu (q_call (join_ct l_0 [] b4) rfl (fun _ _ => congrArg str ey4_1)) ?_
 refine Zy ?_
 cases hS
 exact Ze
theorem internal_stringslite_HasSuffix_ct (s_0 : Str) (suffix_1 : Str) {r : Bool} (hS : Sh.internal_stringslite_HasSuffix s_0 suffix_1 = some r) :
 Ct Tryz.prog 305 [str s_0, str suffix_1] Mo.tt (Ow.emp) (X := Unit) (fun _ => .bool r) (fun _ => True) (fun _ => Mo.tt) (fun _ => Ow.emp) := by
 refine Zo Tryz.func305 Tryz.ntmps305 fun c => ?_
 unfold Sh.internal_stringslite_HasSuffix at hS
 refine Zq (Zr ?_)
 refine Zy ?_
 refine Zq (Zr ?_)
 refine Zm ?_
 refine Zu (q_slen Tryz.underlying9 rfl) ?_
 refine Zm ?_
 refine Zu (q_slen Tryz.underlying9 rfl) ?_
 refine Zu (q_geq rfl rfl) ?_
 refine Zm ?_
 refine Zsp 10 hS (fun h10 hS => ?_) (fun h10 hS => ?_)
 ·
  refine Zy ?_
  refine Zh (q_slen Tryz.underlying9 rfl) ?_
  refine Zg ?_
  refine Zh (q_slen Tryz.underlying9 rfl) ?_
  obtain ⟨b16, hS⟩ := gd_s hS
  refine Zh (q_sub rfl rfl b16) ?_
  obtain ⟨b17, hS⟩ := gd_s hS
  obtain ⟨y17_1, ey17_1, hS⟩ := lt_s hS
  refine Zh (q_sfromE Tryz.underlying9 rfl rfl b17.1 b17.2 ey17_1) ?_
  refine Zg ?_
  refine Zh (q_seq rfl rfl) ?_
  refine Zy ?_
  refine VC.keep [4] rfl ?_
  cases hS
  exact Ze
 refine Zy ?_
 refine VC.keep [4] rfl ?_
 cases hS
 exact Ze
theorem strings_HasSuffix_ct (s_0 : Str) (suffix_1 : Str) {r : Bool} (hS : Sh.strings_HasSuffix s_0 suffix_1 = some r) :
 Ct Tryz.prog 292 [str s_0, str suffix_1] Mo.tt (Ow.emp) (X := Unit) (fun _ => .bool r) (fun _ => True) (fun _ => Mo.tt) (fun _ => Ow.emp) := by
 refine Zo Tryz.func292 Tryz.ntmps292 fun c => ?_
 unfold Sh.strings_HasSuffix at hS
 refine Zq (Zr ?_)
 refine Zy ?_
 refine Zq (Zr ?_)
 refine Zy ?_
 obtain ⟨y7_1, ey7_1, hS⟩ := bd_s hS
 refine Zu (q_call (internal_stringslite_HasSuffix_ct s_0 suffix_1 ey7_1) rfl (fun _ _ => rfl)) ?_
 refine Zy ?_
 cases hS
 exact Ze
theorem lines_Whole_ct (s_0 : Str) {r : Bool} (hS : Sh.lines_Whole s_0 = some r) :
 Ct Tryz.prog 266 [str s_0] Mo.tt (Ow.emp) (X := Unit) (fun _ => .bool r) (fun _ => True) (fun _ => Mo.tt) (fun _ => Ow.emp) := by
 refine Zo Tryz.func266 Tryz.ntmps266 fun c => ?_
 unfold Sh.lines_Whole at hS
 refine Zq (Zr ?_)
 refine Zy ?_
 refine Zq (Zr ?_)
 refine Zy ?_
 refine Zsp 5 hS (fun h5 hS => ?_) (fun h5 hS => ?_)
 ·
  refine Zy ?_
  cases hS
  exact Ze
 refine Zg ?_
 obtain ⟨y7_1, ey7_1, hS⟩ := bd_s hS
 refine Zh (q_call (strings_HasSuffix_ct s_0 [10] ey7_1) rfl (fun _ _ => rfl)) ?_
 refine Zy ?_
 cases hS
 exact Ze
theorem merge_closed_ct (l_0 : Sv Str) {r : Str} (hS : Sh.merge_closed l_0.l = some r) :
 Ct Tryz.prog 230 [l_0.val] l_0.ok (Ow.emp) (X := Unit) (fun _ => str r) (fun _ => True) (fun _ => Mo.tt) (fun _ => Ow.emp) := by
 refine Zo Tryz.func230 Tryz.ntmps230 fun c => ?_
 unfold Sh.merge_closed at hS
 refine Zq (Zr ?_)
 refine Zy ?_
 refine Zq (Zr ?_)
 refine Zm ?_
 obtain ⟨y5_1, ey5_1, hS⟩ := bd_s hS
 refine Zu (q_call (lines_Join_ct l_0 ey5_1) rfl (fun _ _ => rfl)) ?_
 refine Zy ?_
 refine Zq (Zq (Zr ?_))
 refine Zm ?_
 obtain ⟨y7_2, ey7_2, hS⟩ := bd_s hS
 refine Zu (q_call (lines_Whole_ct y5_1 ey7_2) rfl (fun _ _ => rfl)) ?_
 refine Zu (q_not rfl) ?_
 refine Zl ?_
 refine Zcb hS (fun h8 hS => ?_) (fun h8 hS => ?_)
 ·
  refine Zr ?_
  refine Zm ?_
  obtain ⟨b10, hS⟩ := gd_s hS
  obtain ⟨y10_3, ey10_3, hS⟩ := lt_s hS
  refine Zu (q_catE rfl rfl b10 ey10_3) ?_
  refine Zy ?_
  refine Zq (Zr ?_)
  refine Zy ?_
  refine VC.keep [2] rfl ?_
  cases hS
  exact Ze
 refine Zk ?_
 refine Zq (Zr ?_)
 refine Zy ?_
 cases hS
 exact Ze
theorem merge_clash_ct (c_0 : Ck) (a_1 : Str) (b_2 : Str) {r : Str} (hS : Sh.merge_clash c_0.pl a_1 b_2 = some r) :
 Ct Tryz.prog 183 [.agg #[c_0.base.val, c_0.ours.val, c_0.theirs.val, .bool c_0.clash, c_0.out.val], str a_1, str b_2] (c_0.base.ok.and (c_0.ours.ok.and (c_0.theirs.ok.and c_0.out.ok))) (Ow.emp) (X := Unit) (fun _ => str r) (fun _ => True) (fun _ => Mo.tt) (fun _ => Ow.emp) := by
 refine Zo Tryz.func183 Tryz.ntmps183 fun c => ?_
 unfold Sh.merge_clash at hS
 refine Zq (Zr ?_)
 refine VL.box (cs := [c_0.base.val, c_0.ours.val, c_0.theirs.val, .bool c_0.clash, c_0.out.val]) rfl rfl (by decide) fun b3_1 => ?_
 refine Zy ?_
 refine Zq ?_
 refine VC.draw ((List.range 17).map fun k => (k, true)) mixed (by kernel_rfl) (by kernel_rfl) (by kernel_rfl) ?_
 refine Zw rfl (q_move rfl) ?_
 obtain ⟨b8, hS⟩ := gd_s hS
 obtain ⟨y8_2, ey8_2, hS⟩ := lt_s hS
 refine Zw rfl (q_catE rfl rfl b8 ey8_2) ?_
 obtain ⟨b9, hS⟩ := gd_s hS
 obtain ⟨y9_3, ey9_3, hS⟩ := lt_s hS
 refine Zw rfl (q_catE rfl rfl b9 ey9_3) ?_
 refine Zw rfl (q_field gfa261_1 rfl) ?_
 refine Zw rfl (q_fe gone82 rfl rfl) ?_
 obtain ⟨y12_4, ey12_4, hS⟩ := bd_s hS
 refine Zw rfl (q_call (merge_closed_ct c_0.ours ey12_4) rfl (fun _ _ => rfl)) ?_
 obtain ⟨b13, hS⟩ := gd_s hS
 obtain ⟨y13_5, ey13_5, hS⟩ := lt_s hS
 refine Zw rfl (q_catE rfl rfl b13 ey13_5) ?_
 obtain ⟨b14, hS⟩ := gd_s hS
 obtain ⟨y14_6, ey14_6, hS⟩ := lt_s hS
 refine Zw rfl (q_catE rfl rfl b14 ey14_6) ?_
 refine Zw rfl (q_field gfa261_2 rfl) ?_
 refine Zw rfl (q_fe gone82 rfl rfl) ?_
 obtain ⟨y17_7, ey17_7, hS⟩ := bd_s hS
 refine Zw rfl (q_call (merge_closed_ct c_0.theirs ey17_7) rfl (fun _ _ => rfl)) ?_
 obtain ⟨b18, hS⟩ := gd_s hS
 obtain ⟨y18_8, ey18_8, hS⟩ := lt_s hS
 refine Zw rfl (q_catE rfl rfl b18 ey18_8) ?_
 obtain ⟨b19, hS⟩ := gd_s hS
 obtain ⟨y19_9, ey19_9, hS⟩ := lt_s hS
 refine Zw rfl (q_catE rfl rfl b19 ey19_9) ?_
 refine Zw rfl (q_move rfl) ?_
 obtain ⟨b21, hS⟩ := gd_s hS
 obtain ⟨y21_10, ey21_10, hS⟩ := lt_s hS
 refine Zw rfl (q_catE rfl rfl b21 ey21_10) ?_
 obtain ⟨b22, hS⟩ := gd_s hS
 obtain ⟨y22_11, ey22_11, hS⟩ := lt_s hS
 refine Zw rfl (q_catE rfl rfl b22 ey22_11) ?_
 refine Zw rfl (q_assign rfl) ?_
 refine VD.to (fun _ _ h => h) ?_
 refine VC.keep [6] rfl ?_
 cases hS
 exact Ze
end Go.Proofs.YtleokmhhloamaaaGreatDoor
end

section
set_option linter.unusedVariables false
namespace Go.Proofs.YtleokmhhloamaaaGreatDoor
set_option maxHeartbeats 4000000
set_option maxRecDepth 100000
open Go.RowKit Go.V
open Go.S hiding Str
theorem merge_Text_ct (base_0 : Str) (ours_1 : Str) (theirs_2 : Str) (a_3 : Str) (b_4 : Str) {r : Str × Int × Err} (hS : Sh.merge_Text base_0 ours_1 theirs_2 a_3 b_4 = some r) :
 Ct Tryz.prog 127 [str base_0, str ours_1, str theirs_2, str a_3, str b_4] Mo.tt (Ow.emp) (X := Str × Int × Er) (fun x => .tuple #[str x.1, i64 x.2.1, x.2.2.val]) (fun x => r = (x.1, x.2.1, x.2.2.pl)) (fun x => x.2.2.ok) (fun x => Ow.emp) := by
 refine Zo Tryz.func127 Tryz.ntmps127 fun c => ?_
 unfold Sh.merge_Text at hS
 refine Zq (Zr ?_)
 refine Zy ?_
 refine Zq (Zr ?_)
 refine Zm ?_
 obtain ⟨y21_1, ey21_1, hS⟩ := bd_s hS
 refine VL.callF (lines_Split_ct base_0 ey21_1) rfl (by decide) ?_
 rintro q21_1_0 rfl
 try dsimp only
 refine Zm ?_
 obtain ⟨y23_2, ey23_2, hS⟩ := bd_s hS
 refine VL.callF (lines_Split_ct ours_1 ey23_2) rfl (by decide) ?_
 rintro q23_2_0 rfl
 try dsimp only
 refine Zm ?_
 obtain ⟨y25_3, ey25_3, hS⟩ := bd_s hS
 refine VL.callF (lines_Split_ct theirs_2 ey25_3) rfl (by decide) ?_
 rintro q25_3_0 rfl
 try dsimp only
 obtain ⟨y26_4, ey26_4, hS⟩ := bd_s hS
 refine VL.callF (merge_Chunks_ct q21_1_0 q23_2_0 q25_3_0 ey26_4) rfl (by decide) ?_
 rintro ⟨q26_4_0, q26_4_1⟩ rfl
 try dsimp only
 refine Zm ?_
 refine Zu (q_extract rfl rfl) ?_
 refine Zu (q_extract rfl rfl) ?_
 refine Zy ?_
 refine VC.keep [3, 4, 13, 14] rfl ?_
 refine Zq (Zq (Zr ?_))
 refine Zm ?_
 refine Zu (q_erne Tryz.underlying29 rfl) ?_
 refine Zl ?_
 refine Zcn hS (fun h30 hS => ?_) (fun h30 hS => ?_)
 ·
  refine Zq (Zr ?_)
  refine Zy ?_
  cases hS
  exact VC.ret (fin3 (.inr rfl) rfl rfl rfl rfl ([], 0, q26_4_1) rfl rfl (by (try dsimp only); exact InM.out) (fun _ _ => trivial))
 refine Zk ?_
 refine Zq (Zr ?_)
 refine VL.alloc (cs := [.pointer none, .slice none 0 0]) (by kernel_rfl) (by decide) fun b15_5 => ?_
 refine VL.toBd 5 b15_5 ?_
 refine Zl ?_
 refine Zq (Zr ?_)
 refine Zy ?_
 refine Zq (Zq (Zr ?_))
 refine Zm ?_
 refine Zu (q_lnm Ck.pl (s := q26_4_0) Tryz.underlying253 rfl) ?_
 refine Zy ?_
 refine Zb ?_
 refine VC.iter (S := Int × Int × Str) (fun sg => (sg.1, sg.2.1, sg.2.2)) (fun sg => [(3, str a_3), (4, str b_4), (15, ptr b15_5 0), (16, i64 sg.1), (32, q26_4_0.val), (33, i64 ((q26_4_0.l.map Ck.pl).length : Int)), (34, i64 sg.2.1)]) (fun sg => Mo.tt) (fun sg => Ow.star (Bd 259 5 b15_5 sg.2.2) (Ow.emp)) (0, 0, []) [3, 4, 15, 16, 32, 33, 34] hS rfl ?_
 clear hS
 rintro ⟨n16_6, x34_7, acc_8⟩ m1 y1 hS hK1
 refine Zq (Zr ?_)
 refine Zu (q_lss rfl rfl) ?_
 refine Zl ?_
 refine Zq ?_
 refine Zc hS (fun h35 hS => ?_) (fun h35 hS => ?_)
 ·
  refine Zk ?_
  refine Zq (Zb (Zq (Zr ?_)))
  obtain ⟨z36_9, nz36_9, hz36_9, hS⟩ := atm_s hS
  refine VL.deep z36_9.m hz36_9 (fun _ q => q) ?_
  refine Zu (q_ixm (s := q26_4_0) Tryz.underlying253 gsz261 rfl rfl nz36_9 (lt_of_get nz36_9 hz36_9)) ?_
  refine Zu (q_els (s := q26_4_0) gagg261 rfl rfl hz36_9) ?_
  refine VL.alloc (cs := [.slice none 0 0, .slice none 0 0, .slice none 0 0, .bool false, .slice none 0 0]) (by kernel_rfl) (by decide) fun b18_10 => ?_
  refine Zv (vc := [z36_9.base.val, z36_9.ours.val, z36_9.theirs.val, .bool z36_9.clash, z36_9.out.val]) (cs' := [z36_9.base.val, z36_9.ours.val, z36_9.theirs.val, .bool z36_9.clash, z36_9.out.val]) rfl gsz261 ?_
  refine Zl ?_
  refine Zq (Zq (Zr ?_))
  refine Zu (q_field gfa261_3 rfl) ?_
  refine Zu (q_fe gone4 rfl rfl) ?_
  refine Zl ?_
  refine Zcb hS (fun h39 hS => ?_) (fun h39 hS => ?_)
  ·
   refine Zq (Zr ?_)
   refine Zm ?_
   obtain ⟨b41, hS⟩ := gd_s hS
   refine Zu (q_add rfl rfl b41) ?_
   refine Zy ?_
   refine VC.keep [3, 4, 15, 16, 32, 33, 34, 18] rfl ?_
   refine Zq (Zr ?_)
   refine Zu (q_fes gagg261 rfl rfl) ?_
   refine Zy ?_
   obtain ⟨y45_11, ey45_11, hS⟩ := bd_s hS
   refine Zu (q_call (merge_clash_ct z36_9 a_3 b_4 ey45_11) rfl (fun _ _ => rfl)) ?_
   obtain ⟨b46, hS⟩ := gd_s hS
   refine VL.callO (writeString_ct b15_5 acc_8 y45_11 b46) rfl (by decide) ?_
   rintro _ _
   obtain ⟨acc46_12, eacc46_12, hS⟩ := lt_s hS
   rw [eacc46_12]
   refine Zl ?_
   refine Zx ?_
   refine Zr ?_
   obtain ⟨b51, hS⟩ := gd_s hS
   refine Zu (q_add rfl rfl b51) ?_
   refine Zm ?_
   refine VL.rnd ((n16_6 + 1), (x34_7 + 1), acc46_12) [3, 4, 15, 16, 32, 33, 34] (fun _ _ h => h) (go2 hS hK1) rfl
  refine Zk ?_
  refine Zr ?_
  refine Zu (q_field gfa261_4 rfl) ?_
  refine Zu (q_fe gone82 rfl rfl) ?_
  obtain ⟨y49_13, ey49_13, hS⟩ := bd_s hS
  refine Zu (q_call (lines_Join_ct z36_9.out ey49_13) rfl (fun _ _ => rfl)) ?_
  obtain ⟨b50, hS⟩ := gd_s hS
  refine VL.callO (writeString_ct b15_5 acc_8 y49_13 b50) rfl (by decide) ?_
  rintro _ _
  obtain ⟨acc50_14, eacc50_14, hS⟩ := lt_s hS
  rw [eacc50_14]
  refine Zl ?_
  refine VC.keep [3, 4, 15, 16, 32, 33, 34] rfl ?_
  refine Zr ?_
  obtain ⟨b51, hS⟩ := gd_s hS
  refine Zu (q_add rfl rfl b51) ?_
  refine Zm ?_
  refine VL.rnd (n16_6, (x34_7 + 1), acc50_14) [3, 4, 15, 16, 32, 33, 34] (fun _ _ h => h) (go2 hS hK1) rfl
 replace hS := up2 hS hK1
 refine Zx ?_
 refine Zq (Zr ?_)
 refine VL.callO (string_ct b15_5 acc_8) rfl (by decide) ?_
 rintro _ _
 refine Zy ?_
 refine VC.keep [10, 11, 12] rfl ?_
 cases hS
 exact VC.ret (fin3 (.inr rfl) rfl rfl rfl rfl (acc_8, n16_6, .nil) rfl rfl (by (try dsimp only); exact InM.out) (fun _ _ => trivial))
theorem tmerge_both_ct (base_0 : TmergeOne) (ours_1 : TmergeOne) (theirs_2 : TmergeOne) (a_3 : Str) (b_4 : Str) {r : FilesFile × Bool} (hS : Sh.tmerge_both base_0 ours_1 theirs_2 a_3 b_4 = some r) :
 Ct Tryz.prog 61 [.agg #[str base_0.file_path, i64 base_0.file_mode, str base_0.file_data, .bool base_0.is], .agg #[str ours_1.file_path, i64 ours_1.file_mode, str ours_1.file_data, .bool ours_1.is], .agg #[str theirs_2.file_path, i64 theirs_2.file_mode, str theirs_2.file_data, .bool theirs_2.is], str a_3, str b_4] Mo.tt (Ow.emp) (X := Unit) (fun _ => .tuple #[.agg #[str r.1.path, i64 r.1.mode, str r.1.data], .bool r.2]) (fun _ => True) (fun _ => Mo.tt) (fun _ => Ow.emp) := by
 refine Zo Tryz.func61 Tryz.ntmps61 fun c => ?_
 unfold Sh.tmerge_both at hS
 refine Zq (Zr ?_)
 refine VL.box (cs := [str base_0.file_path, i64 base_0.file_mode, str base_0.file_data, .bool base_0.is]) rfl rfl (by decide) fun b5_1 => ?_
 refine VL.box (cs := [str ours_1.file_path, i64 ours_1.file_mode, str ours_1.file_data, .bool ours_1.is]) rfl rfl (by decide) fun b6_2 => ?_
 refine VL.box (cs := [str theirs_2.file_path, i64 theirs_2.file_mode, str theirs_2.file_data, .bool theirs_2.is]) rfl rfl (by decide) fun b7_3 => ?_
 refine VL.alloc (cs := [str [], i64 0, str []]) (by kernel_rfl) (by decide) fun b10_4 => ?_
 refine Zy ?_
 refine Zq ?_
 refine VC.draw [(0, true), (1, true), (2, true), (3, true), (4, true), (5, true), (6, true), (7, true), (8, true), (9, true), (10, true), (11, false), (12, false)] mixed (by kernel_rfl) (by kernel_rfl) (by kernel_rfl) ?_
 refine Zw rfl (q_field gfa121_0 rfl) ?_
 refine Zw rfl (q_field gfa42_0 rfl) ?_
 refine Zw rfl (q_fe gone9 rfl rfl) ?_
 refine Zw rfl (q_fes gagg121 rfl rfl) ?_
 refine Zw rfl (q_fes gagg121 rfl rfl) ?_
 refine Zw rfl (q_fes gagg121 rfl rfl) ?_
 obtain ⟨y22_5, ey22_5, hS⟩ := bd_s hS
 refine Zw rfl (q_call (tmerge_mode_ct base_0 ours_1 theirs_2 ey22_5) rfl (fun _ _ => rfl)) ?_
 refine Zw rfl (q_field gfa121_0 rfl) ?_
 refine Zw rfl (q_field gfa42_2 rfl) ?_
 refine Zw rfl (q_fe gone9 rfl rfl) ?_
 refine Zw rfl (q_build (vs := [(0, str ours_1.file_path), (1, i64 y22_5), (2, str ours_1.file_data)]) (cs := #[str ours_1.file_path, i64 y22_5, str ours_1.file_data]) rfl (by kernel_rfl)) ?_
 refine VD.one rfl ?_
 refine VL.alloc (cs := [str [], i64 0, str []]) (by kernel_rfl) (by decide) fun b12_6 => ?_
 refine VL.back (D' := [(10, .agg #[str ours_1.file_path, i64 y22_5, str ours_1.file_data]), (9, str ours_1.file_data), (8, ptr b6_2 2), (7, ptr b6_2 0), (6, i64 y22_5), (5, .agg #[str theirs_2.file_path, i64 theirs_2.file_mode, str theirs_2.file_data, .bool theirs_2.is]), (4, .agg #[str ours_1.file_path, i64 ours_1.file_mode, str ours_1.file_data, .bool ours_1.is]), (3, .agg #[str base_0.file_path, i64 base_0.file_mode, str base_0.file_data, .bool base_0.is]), (2, str ours_1.file_path), (1, ptr b6_2 0), (0, ptr b6_2 0)]) (by kernel_rfl) (Pend.cons rfl (q_build (vs := [(0, str ours_1.file_path), (1, i64 y22_5), (2, str ours_1.file_data)]) (cs := #[str ours_1.file_path, i64 y22_5, str ours_1.file_data]) rfl (by kernel_rfl)) (Pend.cons rfl (q_fe gone9 rfl rfl) (Pend.cons rfl (q_field gfa42_2 rfl) (Pend.cons rfl (q_field gfa121_0 rfl) (Pend.cons rfl (q_call (tmerge_mode_ct base_0 ours_1 theirs_2 ey22_5) rfl (fun _ _ => rfl)) (Pend.cons rfl (q_fes gagg121 rfl rfl) (Pend.cons rfl (q_fes gagg121 rfl rfl) (Pend.cons rfl (q_fes gagg121 rfl rfl) (Pend.cons rfl (q_fe gone9 rfl rfl) (Pend.cons rfl (q_field gfa42_0 rfl) (Pend.cons rfl (q_field gfa121_0 rfl) (Pend.nil)))))))))))) ?_
 refine VD.one rfl ?_
 refine Zv (vc := [str ours_1.file_path, i64 y22_5, str ours_1.file_data]) (cs' := [str ours_1.file_path, i64 y22_5, str ours_1.file_data]) rfl gsz42 ?_
 refine VL.back (D' := []) (by kernel_rfl) (Pend.nil) ?_
 refine VD.to (fun _ _ h => h) ?_
 refine VC.keep [3, 4, 5, 6, 7, 10, 12] rfl ?_
 refine Zq (Zb ?_)
 refine VC.cutJ (S := Bool) (fun (x27_7 : Bool) => x27_7) (fun (x27_7 : Bool) => [(3, str a_3), (4, str b_4), (5, ptr b5_1 0), (6, ptr b6_2 0), (7, ptr b7_3 0), (10, ptr b10_4 0), (12, ptr b12_6 0), (27, .bool x27_7)]) (fun (x27_7 : Bool) => Mo.tt) (fun (x27_7 : Bool) => Ow.star (Blk b12_6 [str ours_1.file_path, i64 y22_5, str ours_1.file_data] 42) (Ow.star (Blk b10_4 [str [], i64 0, str []] 42) (Ow.star (Blk b7_3 [str theirs_2.file_path, i64 theirs_2.file_mode, str theirs_2.file_data, .bool theirs_2.is] 121) (Ow.star (Blk b6_2 [str ours_1.file_path, i64 ours_1.file_mode, str ours_1.file_data, .bool ours_1.is] 121) (Ow.star (Blk b5_1 [str base_0.file_path, i64 base_0.file_mode, str base_0.file_data, .bool base_0.is] 121) (Ow.emp)))))) hS ?_ ?_
 ·
  clear hS
  intro k8 hS
  refine Zr ?_
  refine Zu (q_field gfa121_0 rfl) ?_
  refine Zu (q_field gfa42_2 rfl) ?_
  refine Zu (q_fe gone9 rfl rfl) ?_
  refine Zu (q_field gfa121_0 rfl) ?_
  refine Zu (q_field gfa42_2 rfl) ?_
  refine Zu (q_fe gone9 rfl rfl) ?_
  refine Zy ?_
  refine Zsp 35 hS (fun h35 hS => ?_) (fun h35 hS => ?_)
  ·
   refine Zy ?_
   refine VL.gu rfl rfl (by decide) ?_
   refine VL.gu rfl rfl (by decide) ?_
   refine VL.gu rfl rfl (by decide) ?_
   refine VL.gu rfl rfl (by decide) ?_
   refine VL.gu rfl rfl (by decide) ?_
   refine VL.gu rfl rfl (by decide) ?_
   refine VL.gu rfl rfl (by decide) ?_
   refine Zy ?_
   refine VL.mt true [3, 4, 5, 6, 7, 10, 12, 27] (fun _ _ h => h) hS rfl
  refine Zh (q_field gfa121_1 rfl) ?_
  refine Zh (q_fe gone4 rfl rfl) ?_
  refine Zg ?_
  refine Zspb 38 hS (fun h38 hS => ?_) (fun h38 hS => ?_)
  ·
   refine Zh (q_field gfa121_0 rfl) ?_
   refine Zh (q_field gfa42_2 rfl) ?_
   refine Zh (q_fe gone9 rfl rfl) ?_
   refine Zh (q_field gfa121_0 rfl) ?_
   refine Zh (q_field gfa42_2 rfl) ?_
   refine Zh (q_fe gone9 rfl rfl) ?_
   refine Zh (q_seq rfl rfl) ?_
   refine Zh (q_pick_t rfl rfl) ?_
   refine Zy ?_
   refine VL.mt (decide (theirs_2.file_data = base_0.file_data)) [3, 4, 5, 6, 7, 10, 12, 27] (fun _ _ h => h) hS rfl
  refine Zy ?_
  refine Zh (q_pick_f rfl rfl) ?_
  refine Zy ?_
  refine VL.mt false [3, 4, 5, 6, 7, 10, 12, 27] (fun _ _ h => h) hS rfl
 clear hS
 rintro x27_7 hS
 refine Zcb hS (fun h27 hS => ?_) (fun h27 hS => ?_)
 ·
  refine Zq (Zr ?_)
  refine Zu (q_fes gagg42 rfl rfl) ?_
  refine Zv (vc := [str ours_1.file_path, i64 y22_5, str ours_1.file_data]) (cs' := [str ours_1.file_path, i64 y22_5, str ours_1.file_data]) rfl gsz42 ?_
  refine Zy ?_
  cases hS
  exact VC.ret (finG (vs := [.agg #[str ours_1.file_path, i64 y22_5, str ours_1.file_data], .bool false]) (.inr rfl) rfl (RVs.cell gagg42 rfl rfl Rd.blk (RVs.tmp rfl (RVs.nil))) () rfl trivial (by (try dsimp only); exact InM.out) (fun _ _ => trivial))
 refine VC.cutJ (S := Bool) (fun (x49_9 : Bool) => x49_9) (fun (x49_9 : Bool) => [(3, str a_3), (4, str b_4), (5, ptr b5_1 0), (6, ptr b6_2 0), (7, ptr b7_3 0), (10, ptr b10_4 0), (12, ptr b12_6 0), (49, .bool x49_9)]) (fun (x49_9 : Bool) => Mo.tt) (fun (x49_9 : Bool) => Ow.star (Blk b12_6 [str ours_1.file_path, i64 y22_5, str ours_1.file_data] 42) (Ow.star (Blk b10_4 [str [], i64 0, str []] 42) (Ow.star (Blk b7_3 [str theirs_2.file_path, i64 theirs_2.file_mode, str theirs_2.file_data, .bool theirs_2.is] 121) (Ow.star (Blk b6_2 [str ours_1.file_path, i64 ours_1.file_mode, str ours_1.file_data, .bool ours_1.is] 121) (Ow.star (Blk b5_1 [str base_0.file_path, i64 base_0.file_mode, str base_0.file_data, .bool base_0.is] 121) (Ow.emp)))))) hS ?_ ?_
 ·
  clear hS
  intro k10 hS
  refine Zr ?_
  refine Zu (q_field gfa121_1 rfl) ?_
  refine Zu (q_fe gone4 rfl rfl) ?_
  refine Zm ?_
  refine Zspb 52 hS (fun h52 hS => ?_) (fun h52 hS => ?_)
  ·
   refine Zh (q_field gfa121_0 rfl) ?_
   refine Zh (q_field gfa42_2 rfl) ?_
   refine Zh (q_fe gone9 rfl rfl) ?_
   refine Zh (q_field gfa121_0 rfl) ?_
   refine Zh (q_field gfa42_2 rfl) ?_
   refine Zh (q_fe gone9 rfl rfl) ?_
   refine Zh (q_seq rfl rfl) ?_
   refine Zy ?_
   refine VL.mt (decide (ours_1.file_data = base_0.file_data)) [3, 4, 5, 6, 7, 10, 12, 49] (fun _ _ h => h) hS rfl
  refine Zy ?_
  refine VL.mt false [3, 4, 5, 6, 7, 10, 12, 49] (fun _ _ h => h) hS rfl
 clear hS
 rintro x49_9 hS
 refine Zcb hS (fun h49 hS => ?_) (fun h49 hS => ?_)
 ·
  refine Zq (Zr ?_)
  refine Zu (q_field gfa121_0 rfl) ?_
  refine Zu (q_field gfa42_2 rfl) ?_
  refine Zu (q_fe gone9 rfl rfl) ?_
  refine Zu (q_field gfa42_2 rfl) ?_
  refine Zv (vc := [str theirs_2.file_data]) (cs' := [str ours_1.file_path, i64 y22_5, str theirs_2.file_data]) rfl gsz9 ?_
  refine Zl ?_
  refine VC.keep [10, 12] rfl ?_
  refine Zq (Zr ?_)
  refine Zu (q_fes gagg42 rfl rfl) ?_
  refine Zv (vc := [str ours_1.file_path, i64 y22_5, str theirs_2.file_data]) (cs' := [str ours_1.file_path, i64 y22_5, str theirs_2.file_data]) rfl gsz42 ?_
  refine Zy ?_
  cases hS
  exact VC.ret (finG (vs := [.agg #[str ours_1.file_path, i64 y22_5, str theirs_2.file_data], .bool false]) (.inr rfl) rfl (RVs.cell gagg42 rfl rfl Rd.blk (RVs.tmp rfl (RVs.nil))) () rfl trivial (by (try dsimp only); exact InM.out) (fun _ _ => trivial))
 refine Zk ?_
 refine Zq (Zr ?_)
 refine Zu (q_field gfa121_0 rfl) ?_
 refine Zu (q_field gfa42_2 rfl) ?_
 refine Zu (q_fe gone9 rfl rfl) ?_
 refine Zu (q_field gfa121_0 rfl) ?_
 refine Zu (q_field gfa42_2 rfl) ?_
 refine Zu (q_fe gone9 rfl rfl) ?_
 refine Zu (q_field gfa121_0 rfl) ?_
 refine Zu (q_field gfa42_2 rfl) ?_
 refine Zu (q_fe gone9 rfl rfl) ?_
 refine Zy ?_
 obtain ⟨y78_11, ey78_11, hS⟩ := bd_s hS
 refine VL.callF (merge_Text_ct base_0.file_data ours_1.file_data theirs_2.file_data a_3 b_4 ey78_11) rfl (by decide) ?_
 rintro ⟨q78_11_0, q78_11_1, q78_11_2⟩ rfl
 try dsimp only
 refine Zm ?_
 refine Zu (q_extract rfl rfl) ?_
 refine Zu (q_extract rfl rfl) ?_
 refine Zu (q_extract rfl rfl) ?_
 refine Zy ?_
 refine VC.keep [6, 10, 12, 13, 14, 15] rfl ?_
 refine Zq ?_
 refine VC.cutJ (S := Bool) (fun (x88_12 : Bool) => x88_12) (fun (x88_12 : Bool) => [(6, ptr b6_2 0), (10, ptr b10_4 0), (12, ptr b12_6 0), (13, str q78_11_0), (14, i64 q78_11_1), (88, .bool x88_12)]) (fun (x88_12 : Bool) => Mo.tt) (fun (x88_12 : Bool) => Ow.star (Blk b12_6 [str ours_1.file_path, i64 y22_5, str ours_1.file_data] 42) (Ow.star (Blk b10_4 [str [], i64 0, str []] 42) (Ow.star (Blk b7_3 [str theirs_2.file_path, i64 theirs_2.file_mode, str theirs_2.file_data, .bool theirs_2.is] 121) (Ow.star (Blk b6_2 [str ours_1.file_path, i64 ours_1.file_mode, str ours_1.file_data, .bool ours_1.is] 121) (Ow.star (Blk b5_1 [str base_0.file_path, i64 base_0.file_mode, str base_0.file_data, .bool base_0.is] 121) (Ow.emp)))))) hS ?_ ?_
 ·
  clear hS
  intro k13 hS
  refine Zr ?_
  refine Zm ?_
  refine Zu (q_erne Tryz.underlying29 rfl) ?_
  refine Zm ?_
  refine Zspn 84 hS (fun h84 hS => ?_) (fun h84 hS => ?_)
  ·
   refine Zy ?_
   refine VL.mt true [6, 10, 12, 13, 14, 88] (fun _ _ h => h) hS rfl
  refine Zg ?_
  refine Zh (q_slen Tryz.underlying9 rfl) ?_
  refine Zh (q_gtr rfl rfl) ?_
  refine Zf ?_
  refine VL.mt (decide (4096 < (q78_11_0.length : Int))) [6, 10, 12, 13, 14, 88] (fun _ _ h => h) hS rfl
 clear hS
 rintro x88_12 hS
 refine Zcb hS (fun h88 hS => ?_) (fun h88 hS => ?_)
 ·
  refine Zq (Zr ?_)
  refine Zu (q_field gfa121_0 rfl) ?_
  refine Zu (q_field gfa42_0 rfl) ?_
  refine Zu (q_fe gone9 rfl rfl) ?_
  refine Zu (q_field gfa42_1 rfl) ?_
  refine Zu (q_fe gone3 rfl rfl) ?_
  refine Zu (q_field gfa121_0 rfl) ?_
  refine Zu (q_field gfa42_2 rfl) ?_
  refine Zu (q_fe gone9 rfl rfl) ?_
  refine Zu (q_build (vs := [(0, str ours_1.file_path), (1, i64 y22_5), (2, str ours_1.file_data)]) (cs := #[str ours_1.file_path, i64 y22_5, str ours_1.file_data]) rfl (by kernel_rfl)) ?_
  refine Zv (vc := [str ours_1.file_path, i64 y22_5, str ours_1.file_data]) (cs' := [str ours_1.file_path, i64 y22_5, str ours_1.file_data]) rfl gsz42 ?_
  refine Zy ?_
  refine VC.keep [10, 11] rfl ?_
  cases hS
  exact VC.ret (finG (vs := [.agg #[str ours_1.file_path, i64 y22_5, str ours_1.file_data], .bool true]) (.inr rfl) rfl (RVs.cell gagg42 rfl rfl Rd.blk (RVs.tmp rfl (RVs.nil))) () rfl trivial (by (try dsimp only); exact InM.out) (fun _ _ => trivial))
 refine Zk ?_
 refine Zq (Zr ?_)
 refine Zm ?_
 refine Zu (q_field gfa42_2 rfl) ?_
 refine Zv (vc := [str q78_11_0]) (cs' := [str ours_1.file_path, i64 y22_5, str q78_11_0]) rfl gsz9 ?_
 refine Zl ?_
 refine Zq (Zr ?_)
 refine Zu (q_fes gagg42 rfl rfl) ?_
 refine Zm ?_
 refine Zu (q_gtr rfl rfl) ?_
 refine Zv (vc := [str ours_1.file_path, i64 y22_5, str q78_11_0]) (cs' := [str ours_1.file_path, i64 y22_5, str q78_11_0]) rfl gsz42 ?_
 refine Zy ?_
 refine VC.keep [10, 11] rfl ?_
 cases hS
 exact VC.ret (finG (vs := [.agg #[str ours_1.file_path, i64 y22_5, str q78_11_0], .bool (decide (0 < q78_11_1))]) (.inr rfl) rfl (RVs.cell gagg42 rfl rfl Rd.blk (RVs.tmp rfl (RVs.nil))) () rfl trivial (by (try dsimp only); exact InM.out) (fun _ _ => trivial))
theorem tmerge_One_ct (p_0 : Str) (base_1 : Sv FilesFile) (ours_2 : Sv FilesFile) (theirs_3 : Sv FilesFile) (a_4 : Str) (b_5 : Str) {r : FilesFile × Bool × Bool} (hS : Sh.tmerge_One p_0 base_1.l ours_2.l theirs_3.l a_4 b_5 = some r) :
 Ct Tryz.prog 16 [str p_0, base_1.val, ours_2.val, theirs_3.val, str a_4, str b_5] (base_1.ok.and (ours_2.ok.and theirs_3.ok)) (Ow.emp) (X := Unit) (fun _ => .tuple #[.agg #[str r.1.path, i64 r.1.mode, str r.1.data], .bool r.2.1, .bool r.2.2]) (fun _ => True) (fun _ => Mo.tt) (fun _ => Ow.emp) := by
 refine Zo Tryz.func16 Tryz.ntmps16 fun c => ?_
 unfold Sh.tmerge_One at hS
 refine Zq (Zr ?_)
 refine VL.alloc (cs := [str [], i64 0, str []]) (by kernel_rfl) (by decide) fun b12_1 => ?_
 refine Zy ?_
 refine Zq (Zr ?_)
 refine Zy ?_
 obtain ⟨y20_2, ey20_2, hS⟩ := bd_s hS
 refine Zu (q_call (tmerge_of_ct base_1 p_0 ey20_2) rfl (fun _ _ => rfl)) ?_
 refine Zy ?_
 obtain ⟨y23_3, ey23_3, hS⟩ := bd_s hS
 refine Zu (q_call (tmerge_of_ct ours_2 p_0 ey23_3) rfl (fun _ _ => rfl)) ?_
 refine Zy ?_
 obtain ⟨y26_4, ey26_4, hS⟩ := bd_s hS
 refine Zu (q_call (tmerge_of_ct theirs_3 p_0 ey26_4) rfl (fun _ _ => rfl)) ?_
 refine VL.alloc (cs := [str [], i64 0, str [], .bool false]) (by kernel_rfl) (by decide) fun b15_5 => ?_
 refine VL.alloc (cs := [str [], i64 0, str [], .bool false]) (by kernel_rfl) (by decide) fun b16_6 => ?_
 refine VL.alloc (cs := [str [], i64 0, str [], .bool false]) (by kernel_rfl) (by decide) fun b17_7 => ?_
 refine Zv (vc := [str y20_2.file_path, i64 y20_2.file_mode, str y20_2.file_data, .bool y20_2.is]) (cs' := [str y20_2.file_path, i64 y20_2.file_mode, str y20_2.file_data, .bool y20_2.is]) rfl gsz121 ?_
 refine Zv (vc := [str y23_3.file_path, i64 y23_3.file_mode, str y23_3.file_data, .bool y23_3.is]) (cs' := [str y23_3.file_path, i64 y23_3.file_mode, str y23_3.file_data, .bool y23_3.is]) rfl gsz121 ?_
 refine Zv (vc := [str y26_4.file_path, i64 y26_4.file_mode, str y26_4.file_data, .bool y26_4.is]) (cs' := [str y26_4.file_path, i64 y26_4.file_mode, str y26_4.file_data, .bool y26_4.is]) rfl gsz121 ?_
 refine Zl ?_
 refine VC.keep [4, 5, 12, 15, 16, 17] rfl ?_
 refine Zq (Zb ?_)
 refine VC.cutJ (S := Bool) (fun (x27_8 : Bool) => x27_8) (fun (x27_8 : Bool) => [(4, str a_4), (5, str b_5), (12, ptr b12_1 0), (15, ptr b15_5 0), (16, ptr b16_6 0), (17, ptr b17_7 0), (27, .bool x27_8)]) (fun (x27_8 : Bool) => Mo.tt) (fun (x27_8 : Bool) => Ow.star (Blk b17_7 [str y26_4.file_path, i64 y26_4.file_mode, str y26_4.file_data, .bool y26_4.is] 121) (Ow.star (Blk b16_6 [str y23_3.file_path, i64 y23_3.file_mode, str y23_3.file_data, .bool y23_3.is] 121) (Ow.star (Blk b15_5 [str y20_2.file_path, i64 y20_2.file_mode, str y20_2.file_data, .bool y20_2.is] 121) (Ow.star (Blk b12_1 [str [], i64 0, str []] 42) (Ow.emp))))) hS ?_ ?_
 ·
  clear hS
  intro k9 hS
  refine Zr ?_
  refine Zu (q_fes gagg121 rfl rfl) ?_
  refine Zu (q_fes gagg121 rfl rfl) ?_
  refine Zu (q_steql geqg121 (geqs121 y23_3.file_path y23_3.file_mode y23_3.file_data y23_3.is y26_4.file_path y26_4.file_mode y26_4.file_data y26_4.is) rfl rfl) ?_
  refine Zm ?_
  refine Zsp 31 hS (fun h31 hS => ?_) (fun h31 hS => ?_)
  ·
   refine Zy ?_
   refine VL.mt true [4, 5, 12, 15, 16, 17, 27] (fun _ _ h => h) hS rfl
  refine Zh (q_fes gagg121 rfl rfl) ?_
  refine Zh (q_fes gagg121 rfl rfl) ?_
  refine Zh (q_steql geqg121 (geqs121 y20_2.file_path y20_2.file_mode y20_2.file_data y20_2.is y26_4.file_path y26_4.file_mode y26_4.file_data y26_4.is) rfl rfl) ?_
  refine Zy ?_
  refine VL.mt (decide (y20_2.file_path = y26_4.file_path ∧ y20_2.file_mode = y26_4.file_mode ∧ y20_2.file_data = y26_4.file_data ∧ y20_2.is = y26_4.is)) [4, 5, 12, 15, 16, 17, 27] (fun _ _ h => h) hS rfl
 clear hS
 rintro x27_8 hS
 refine Zcb hS (fun h27 hS => ?_) (fun h27 hS => ?_)
 ·
  refine Zq ?_
  refine VC.draw [(0, true), (1, true), (2, true), (3, true), (4, false), (5, true), (6, true)] mixed (by kernel_rfl) (by kernel_rfl) (by kernel_rfl) ?_
  refine Zw rfl (q_field gfa121_0 rfl) ?_
  refine Zw rfl (q_fep (j := 0) (n := 3) gagg42 rfl rfl rfl) ?_
  refine Zw rfl (q_field gfa121_1 rfl) ?_
  refine Zw rfl (q_fe gone4 rfl rfl) ?_
  refine VD.one rfl ?_
  refine Zv (vc := [str y23_3.file_path, i64 y23_3.file_mode, str y23_3.file_data]) (cs' := [str y23_3.file_path, i64 y23_3.file_mode, str y23_3.file_data]) rfl gsz42 ?_
  refine VL.back (D' := [(3, .bool y23_3.is), (2, ptr b16_6 3)]) (by kernel_rfl) (Pend.cons rfl (q_fe gone4 rfl rfl) (Pend.cons rfl (q_field gfa121_1 rfl) (Pend.nil))) ?_
  refine Zw rfl (q_assign rfl) ?_
  refine Zw rfl (q_assign rfl) ?_
  refine VD.to (fun _ _ h => h) ?_
  refine VC.keep [12, 13, 14] rfl ?_
  cases hS
  exact VC.ret (finG (vs := [.agg #[str y23_3.file_path, i64 y23_3.file_mode, str y23_3.file_data], .bool y23_3.is, .bool false]) (.inr rfl) rfl (RVs.cell gagg42 rfl rfl Rd.blk (RVs.tmp rfl (RVs.tmp rfl (RVs.nil)))) () rfl trivial (by (try dsimp only); exact InM.out) (fun _ _ => trivial))
 refine Zq (Zr ?_)
 refine Zu (q_fes gagg121 rfl rfl) ?_
 refine Zu (q_fes gagg121 rfl rfl) ?_
 refine Zu (q_steql geqg121 (geqs121 y20_2.file_path y20_2.file_mode y20_2.file_data y20_2.is y23_3.file_path y23_3.file_mode y23_3.file_data y23_3.is) rfl rfl) ?_
 refine Zy ?_
 refine Zc hS (fun h40 hS => ?_) (fun h40 hS => ?_)
 ·
  refine Zq ?_
  refine VC.draw [(0, true), (1, true), (2, true), (3, true), (4, false), (5, true), (6, true)] mixed (by kernel_rfl) (by kernel_rfl) (by kernel_rfl) ?_
  refine Zw rfl (q_field gfa121_0 rfl) ?_
  refine Zw rfl (q_fep (j := 0) (n := 3) gagg42 rfl rfl rfl) ?_
  refine Zw rfl (q_field gfa121_1 rfl) ?_
  refine Zw rfl (q_fe gone4 rfl rfl) ?_
  refine VD.one rfl ?_
  refine Zv (vc := [str y26_4.file_path, i64 y26_4.file_mode, str y26_4.file_data]) (cs' := [str y26_4.file_path, i64 y26_4.file_mode, str y26_4.file_data]) rfl gsz42 ?_
  refine VL.back (D' := [(3, .bool y26_4.is), (2, ptr b17_7 3)]) (by kernel_rfl) (Pend.cons rfl (q_fe gone4 rfl rfl) (Pend.cons rfl (q_field gfa121_1 rfl) (Pend.nil))) ?_
  refine Zw rfl (q_assign rfl) ?_
  refine Zw rfl (q_assign rfl) ?_
  refine VD.to (fun _ _ h => h) ?_
  refine VC.keep [12, 13, 14] rfl ?_
  cases hS
  exact VC.ret (finG (vs := [.agg #[str y26_4.file_path, i64 y26_4.file_mode, str y26_4.file_data], .bool y26_4.is, .bool false]) (.inr rfl) rfl (RVs.cell gagg42 rfl rfl Rd.blk (RVs.tmp rfl (RVs.tmp rfl (RVs.nil)))) () rfl trivial (by (try dsimp only); exact InM.out) (fun _ _ => trivial))
 refine VC.cutJ (S := Bool) (fun (x48_10 : Bool) => x48_10) (fun (x48_10 : Bool) => [(4, str a_4), (5, str b_5), (12, ptr b12_1 0), (15, ptr b15_5 0), (16, ptr b16_6 0), (17, ptr b17_7 0), (48, .bool x48_10)]) (fun (x48_10 : Bool) => Mo.tt) (fun (x48_10 : Bool) => Ow.star (Blk b17_7 [str y26_4.file_path, i64 y26_4.file_mode, str y26_4.file_data, .bool y26_4.is] 121) (Ow.star (Blk b16_6 [str y23_3.file_path, i64 y23_3.file_mode, str y23_3.file_data, .bool y23_3.is] 121) (Ow.star (Blk b15_5 [str y20_2.file_path, i64 y20_2.file_mode, str y20_2.file_data, .bool y20_2.is] 121) (Ow.star (Blk b12_1 [str [], i64 0, str []] 42) (Ow.emp))))) hS ?_ ?_
 ·
  clear hS
  intro k11 hS
  refine Zr ?_
  refine Zu (q_field gfa121_1 rfl) ?_
  refine Zu (q_fe gone4 rfl rfl) ?_
  refine Zm ?_
  refine Zspb 51 hS (fun h51 hS => ?_) (fun h51 hS => ?_)
  ·
   refine Zh (q_field gfa121_1 rfl) ?_
   refine Zh (q_fe gone4 rfl rfl) ?_
   refine Zy ?_
   refine VL.mt y26_4.is [4, 5, 12, 15, 16, 17, 48] (fun _ _ h => h) hS rfl
  refine Zy ?_
  refine VL.mt false [4, 5, 12, 15, 16, 17, 48] (fun _ _ h => h) hS rfl
 clear hS
 rintro x48_10 hS
 refine Zcb hS (fun h48 hS => ?_) (fun h48 hS => ?_)
 ·
  refine Zq (Zr ?_)
  refine Zu (q_fes gagg121 rfl rfl) ?_
  refine Zu (q_fes gagg121 rfl rfl) ?_
  refine Zu (q_fes gagg121 rfl rfl) ?_
  refine Zy ?_
  obtain ⟨y61_12, ey61_12, hS⟩ := bd_s hS
  refine Zu (q_call (tmerge_both_ct y20_2 y23_3 y26_4 a_4 b_5 ey61_12) rfl (fun _ _ => rfl)) ?_
  refine Zm ?_
  refine Zu (q_extract rfl rfl) ?_
  refine Zu (q_extract rfl rfl) ?_
  refine Zv (vc := [str y61_12.1.path, i64 y61_12.1.mode, str y61_12.1.data]) (cs' := [str y61_12.1.path, i64 y61_12.1.mode, str y61_12.1.data]) rfl gsz42 ?_
  refine Zy ?_
  refine VC.keep [12, 14] rfl ?_
  refine Zq (Zr ?_)
  refine Zu (q_fes gagg42 rfl rfl) ?_
  refine Zm ?_
  refine Zv (vc := [str y61_12.1.path, i64 y61_12.1.mode, str y61_12.1.data]) (cs' := [str y61_12.1.path, i64 y61_12.1.mode, str y61_12.1.data]) rfl gsz42 ?_
  refine Zy ?_
  cases hS
  exact VC.ret (finG (vs := [.agg #[str y61_12.1.path, i64 y61_12.1.mode, str y61_12.1.data], .bool true, .bool y61_12.2]) (.inr rfl) rfl (RVs.cell gagg42 rfl rfl Rd.blk (RVs.tmp rfl (RVs.tmp rfl (RVs.nil)))) () rfl trivial (by (try dsimp only); exact InM.out) (fun _ _ => trivial))
 refine Zq (Zr ?_)
 refine Zu (q_field gfa121_1 rfl) ?_
 refine Zu (q_fe gone4 rfl rfl) ?_
 refine Zy ?_
 refine Zcb hS (fun h66 hS => ?_) (fun h66 hS => ?_)
 ·
  refine Zq (Zr ?_)
  refine Zu (q_field gfa121_0 rfl) ?_
  refine Zu (q_fep (j := 0) (n := 3) gagg42 rfl rfl rfl) ?_
  refine Zv (vc := [str y23_3.file_path, i64 y23_3.file_mode, str y23_3.file_data]) (cs' := [str y23_3.file_path, i64 y23_3.file_mode, str y23_3.file_data]) rfl gsz42 ?_
  refine Zy ?_
  refine VC.keep [12, 13, 14] rfl ?_
  cases hS
  exact VC.ret (finG (vs := [.agg #[str y23_3.file_path, i64 y23_3.file_mode, str y23_3.file_data], .bool true, .bool true]) (.inr rfl) rfl (RVs.cell gagg42 rfl rfl Rd.blk (RVs.tmp rfl (RVs.tmp rfl (RVs.nil)))) () rfl trivial (by (try dsimp only); exact InM.out) (fun _ _ => trivial))
 refine Zk ?_
 refine Zq (Zr ?_)
 refine Zu (q_field gfa121_0 rfl) ?_
 refine Zu (q_fep (j := 0) (n := 3) gagg42 rfl rfl rfl) ?_
 refine Zv (vc := [str y26_4.file_path, i64 y26_4.file_mode, str y26_4.file_data]) (cs' := [str y26_4.file_path, i64 y26_4.file_mode, str y26_4.file_data]) rfl gsz42 ?_
 refine Zy ?_
 refine VC.keep [12, 13, 14] rfl ?_
 cases hS
 exact VC.ret (finG (vs := [.agg #[str y26_4.file_path, i64 y26_4.file_mode, str y26_4.file_data], .bool true, .bool true]) (.inr rfl) rfl (RVs.cell gagg42 rfl rfl Rd.blk (RVs.tmp rfl (RVs.tmp rfl (RVs.nil)))) () rfl trivial (by (try dsimp only); exact InM.out) (fun _ _ => trivial))
theorem tmerge_stages_ct (p_0 : Str) (rows_1 : Sv (Sv FilesFile)) {r : List IndexEntry} (hS : Sh.tmerge_stages p_0 (rows_1.l.map Sv.l) = some r) :
 Ct Tryz.prog 106 [str p_0, rows_1.val] rows_1.ok (Ow.emp) (X := Sv IndexEntry) (fun x => x.val) (fun x => r = x.l) (fun x => Mo.tt) (fun x => Sv.own x 149) := by
 refine Zo Tryz.func106 Tryz.ntmps106 fun c => ?_
 unfold Sh.tmerge_stages at hS
 refine Zq (Zr ?_)
 refine Zy ?_
 refine Zq (Zr ?_)
 refine Zy ?_
 refine Zq (Zq (Zr ?_))
 refine Zm ?_
 refine Zu (q_lnm Sv.l (s := rows_1) Tryz.underlying171 rfl) ?_
 refine Zy ?_
 refine Zb ?_
 refine VC.nilO (⟨none, 0, []⟩ : Sv IndexEntry) 149 ⟨rfl, rfl⟩ ?_
 refine VC.iter (S := Sv IndexEntry × Int) (fun sg => (sg.1.l, sg.2)) (fun sg => [(0, str p_0), (5, sg.1.val), (10, rows_1.val), (11, i64 ((rows_1.l.map Sv.l).length : Int)), (12, i64 sg.2)]) (fun sg => Mo.tt) (fun sg => Ow.star (Sv.own sg.1 149) (Ow.emp)) (⟨none, 0, []⟩, 0) [0, 5, 10, 11, 12] hS rfl ?_
 clear hS
 rintro ⟨out5_1, x12_2⟩ m1 y1 hS hK1
 refine Zq (Zr ?_)
 refine Zu (q_lss rfl rfl) ?_
 refine Zl ?_
 refine Zq ?_
 refine Zc hS (fun h13 hS => ?_) (fun h13 hS => ?_)
 ·
  refine Zk ?_
  refine Zq (Zb (Zq (Zr ?_)))
  refine Zm ?_
  obtain ⟨z15_3, nz15_3, hz15_3, hS⟩ := atm_s hS
  refine VL.deep z15_3.ok hz15_3 (fun _ q => q) ?_
  refine Zu (q_ixm (s := rows_1) Tryz.underlying171 gsz38 rfl rfl nz15_3 (lt_of_get nz15_3 hz15_3)) ?_
  refine Zu (q_el (s := rows_1) gone38 rfl hz15_3 rfl) ?_
  refine Zy ?_
  refine Zq (Zr ?_)
  refine Zy ?_
  obtain ⟨y20_4, ey20_4, hS⟩ := bd_s hS
  refine Zu (q_call (files_Row_Get_ct z15_3 p_0 ey20_4) rfl (fun _ _ => rfl)) ?_
  refine Zm ?_
  refine Zu (q_extract rfl rfl) ?_
  refine Zu (q_extract rfl rfl) ?_
  refine VL.alloc (cs := [str [], i64 0, str []]) (by kernel_rfl) (by decide) fun b8_5 => ?_
  refine Zv (vc := [str y20_4.1.path, i64 y20_4.1.mode, str y20_4.1.data]) (cs' := [str y20_4.1.path, i64 y20_4.1.mode, str y20_4.1.data]) rfl gsz42 ?_
  refine Zy ?_
  refine VC.keep [0, 5, 10, 11, 12, 6, 8, 9] rfl ?_
  refine Zq (Zr ?_)
  refine Zy ?_
  refine Zcb hS (fun h23 hS => ?_) (fun h23 hS => ?_)
  ·
   refine Zr ?_
   refine Zy ?_
   obtain ⟨b27, hS⟩ := gd_s hS
   refine Zu (q_add rfl rfl b27) ?_
   refine Zu (q_field gfa42_1 rfl) ?_
   refine Zu (q_fe gone3 rfl rfl) ?_
   refine Zu (q_field gfa42_2 rfl) ?_
   refine Zu (q_fe gone9 rfl rfl) ?_
   refine Zu (q_build (vs := [(0, str p_0), (1, i64 (x12_2 + 1)), (2, i64 y20_4.1.mode), (3, str y20_4.1.data)]) (cs := #[str p_0, i64 (x12_2 + 1), i64 y20_4.1.mode, str y20_4.1.data, i64 0, i64 0]) rfl (by kernel_rfl)) ?_
   refine VL.lit (α := IndexEntry) (xs := [.tmp 32]) (vs := [.agg #[str p_0, i64 (x12_2 + 1), i64 y20_4.1.mode, str y20_4.1.data, i64 0, i64 0]]) [⟨p_0, (x12_2 + 1), y20_4.1.mode, y20_4.1.data, 0, 0⟩] Tryz.underlying66 glit149 (by decide) rfl rfl rfl rfl (by decide) (fun _ _ _ _ => trivial) (by decide) (fun s33_6 hs33_6 => ?_) (by decide)
   replace hS := lt_to hs33_6 hS
   obtain ⟨b34, hS⟩ := gd_s hS
   refine VL.app (s := out5_1) (r := s33_6) Tryz.underlying66 gapp149 (by decide) rfl Fo.out (ap1 b34) (ap2 b34 (by decide)) (by decide) (fun s34_8 hs34_8 => ?_)
   replace hS := lt_to hs34_8 hS
   refine Zy ?_
   refine VC.keep [0, 5, 10, 11, 12] rfl ?_
   refine Zr ?_
   obtain ⟨b35, hS⟩ := gd_s hS
   refine Zu (q_add rfl rfl b35) ?_
   refine Zm ?_
   refine VL.rnd (s34_8, (x12_2 + 1)) [0, 5, 10, 11, 12] (fun _ _ h => h) (go2 hS hK1) rfl
  refine Zk ?_
  refine Zr ?_
  obtain ⟨b35, hS⟩ := gd_s hS
  refine Zu (q_add rfl rfl b35) ?_
  refine Zm ?_
  refine VL.rnd (out5_1, (x12_2 + 1)) [0, 5, 10, 11, 12] (fun _ _ h => h) (go2 hS hK1) rfl
 replace hS := up2 hS hK1
 refine Zx ?_
 refine Zq (Zr ?_)
 refine Zy ?_
 cases hS
 exact VC.ret (fin1 (.inr rfl) rfl rfl out5_1 rfl rfl (by (try dsimp only); exact InM.out) (by (try dsimp only); exact EntO.out))
theorem tmerge_fault_1_ct (g_0 : FilesFile) (a_1_b : Nat) (a_1 : FilesFile) {r : Bool} (hS : Sh.tmerge_fault_1 g_0 a_1 = some r) :
 Ct Tryz.prog 170 [.agg #[str g_0.path, i64 g_0.mode, str g_0.data], ptr a_1_b 0] (Cells a_1_b 0 [str a_1.path, i64 a_1.mode, str a_1.data]) (Ow.emp) (X := Unit) (fun _ => .bool r) (fun _ => True) (fun _ => Mo.tt) (fun _ => Ow.emp) := by
 refine Zo Tryz.func170 Tryz.ntmps170 fun c => ?_
 unfold Sh.tmerge_fault_1 at hS
 refine Zq (Zr ?_)
 refine VL.box (cs := [str g_0.path, i64 g_0.mode, str g_0.data]) rfl rfl (by decide) fun b2_1 => ?_
 refine Zy ?_
 refine Zq (Zr ?_)
 refine Zu (q_field gfa42_0 rfl) ?_
 refine Zu (q_fe gone9 rfl rfl) ?_
 refine Zu (q_field gfa42_0 rfl) ?_
 refine Zu (q_fm gone9 rfl rfl) ?_
 obtain ⟨y8_2, ey8_2, hS⟩ := bd_s hS
 refine Zu (q_call (path_Clash_ct g_0.path a_1.path ey8_2) rfl (fun _ _ => rfl)) ?_
 refine Zy ?_
 cases hS
 exact Ze
theorem slices_IndexFunc_files_Row_files_File_v2_ct (s_0 : Sv FilesFile) (f_1_0_b : Nat) (f_1_0 : FilesFile) {r : Int} (hS : Sh.slices_IndexFunc_files_Row_files_File_v2 s_0.l f_1_0 = some r) :
 Ct Tryz.prog 148 [s_0.val, .func (.func 170) #[] #[ptr f_1_0_b 0]] (s_0.ok.and (Cells f_1_0_b 0 [str f_1_0.path, i64 f_1_0.mode, str f_1_0.data])) (Ow.emp) (X := Unit) (fun _ => i64 r) (fun _ => True) (fun _ => Mo.tt) (fun _ => Ow.emp) := by
 refine Zo Tryz.func148 Tryz.ntmps148 fun c => ?_
 unfold Sh.slices_IndexFunc_files_Row_files_File_v2 at hS
 refine Zq (Zr ?_)
 refine Zy ?_
 refine Zq (Zq (Zr ?_))
 refine Zm ?_
 refine Zu (q_ln (s := s_0) Tryz.underlying38 rfl) ?_
 refine Zy ?_
 refine Zb ?_
 refine VC.iter (S := Int) (fun (x8_1 : Int) => x8_1) (fun (x8_1 : Int) => [(0, s_0.val), (1, .func (.func 170) #[] #[ptr f_1_0_b 0]), (7, i64 (s_0.l.length : Int)), (8, i64 x8_1)]) (fun (x8_1 : Int) => Mo.tt) (fun (x8_1 : Int) => Ow.emp) 0 [0, 1, 7, 8] hS rfl ?_
 clear hS
 rintro x8_1 m1 y1 hS hK1
 refine Zq (Zr ?_)
 refine Zu (q_lss rfl rfl) ?_
 refine Zl ?_
 refine Zq ?_
 refine Zc hS (fun h9 hS => ?_) (fun h9 hS => ?_)
 ·
  refine Zk ?_
  refine Zq (Zb (Zq (Zr ?_)))
  refine Zy ?_
  refine Zq (Zr ?_)
  refine Zy ?_
  obtain ⟨z14_2, nz14_2, hz14_2, hS⟩ := at_s hS
  refine Zu (q_ixm (s := s_0) Tryz.underlying38 gsz42 rfl rfl nz14_2 (lt_of_get nz14_2 hz14_2)) ?_
  refine Zu (q_els (s := s_0) gagg42 rfl rfl hz14_2) ?_
  obtain ⟨y16_3, ey16_3, hS⟩ := bd_s hS
  refine Zu (q_callVC (vs := [.agg #[str z14_2.path, i64 z14_2.mode, str z14_2.data]]) (caps := [ptr f_1_0_b 0]) (tmerge_fault_1_ct z14_2 f_1_0_b f_1_0 ey16_3) rfl rfl (fun _ _ => rfl)) ?_
  refine Zl ?_
  refine VC.keep [0, 1, 7, 8, 5, 16] rfl ?_
  refine Zcb hS (fun h16 hS => ?_) (fun h16 hS => ?_)
  ·
   refine Zq (Zr ?_)
   refine Zy ?_
   replace hS := up2 hS hK1
   cases hS
   exact Ze
  refine Zk ?_
  refine Zr ?_
  obtain ⟨b18, hS⟩ := gd_s hS
  refine Zu (q_add rfl rfl b18) ?_
  refine Zm ?_
  refine VL.rnd (x8_1 + 1) [0, 1, 7, 8] (fun _ _ h => h) (go2 hS hK1) rfl
 replace hS := up2 hS hK1
 refine Zx ?_
 refine Zq (Zr ?_)
 refine Zy ?_
 cases hS
 exact Ze
theorem slices_ContainsFunc_files_Row_files_File_v2_ct (s_0 : Sv FilesFile) (f_1_0_b : Nat) (f_1_0 : FilesFile) {r : Bool} (hS : Sh.slices_ContainsFunc_files_Row_files_File_v2 s_0.l f_1_0 = some r) :
 Ct Tryz.prog 124 [s_0.val, .func (.func 170) #[] #[ptr f_1_0_b 0]] (s_0.ok.and (Cells f_1_0_b 0 [str f_1_0.path, i64 f_1_0.mode, str f_1_0.data])) (Ow.emp) (X := Unit) (fun _ => .bool r) (fun _ => True) (fun _ => Mo.tt) (fun _ => Ow.emp) := by
 refine Zo Tryz.func124 Tryz.ntmps124 fun c => ?_
 unfold Sh.slices_ContainsFunc_files_Row_files_File_v2 at hS
 refine Zq (Zr ?_)
 refine Zy ?_
 refine Zq (Zr ?_)
 refine Zy ?_
 obtain ⟨y7_1, ey7_1, hS⟩ := bd_s hS
 refine Zu (q_callR (slices_IndexFunc_files_Row_files_File_v2_ct s_0 f_1_0_b f_1_0 ey7_1) rfl (fun _ _ => rfl)) ?_
 refine Zu (q_geq rfl rfl) ?_
 refine Zy ?_
 cases hS
 exact Ze
theorem tmerge_fault_ct (r_0 : Sv FilesFile) {r : Err} (hS : Sh.tmerge_fault r_0.l = some r) :
 Ct Tryz.prog 107 [r_0.val] r_0.ok (Ow.emp) (X := Er) (fun x => x.val) (fun x => r = x.pl) (fun x => x.ok) (fun x => Ow.emp) := by
 refine Zo Tryz.func107 Tryz.ntmps107 fun c => ?_
 unfold Sh.tmerge_fault at hS
 refine Zq (Zr ?_)
 refine Zy ?_
 refine Zq (Zq (Zr ?_))
 refine Zm ?_
 refine Zu (q_ln (s := r_0) Tryz.underlying38 rfl) ?_
 refine Zu (q_gtr rfl rfl) ?_
 refine Zl ?_
 refine Zc hS (fun h7 hS => ?_) (fun h7 hS => ?_)
 ·
  refine Zq (Zr ?_)
  refine Zu (q_mkif Tryz.underlying115 (fun _ h => by cases h) rfl) ?_
  refine Zu (q_build (vs := [(0, str [102, 105, 108, 101]), (1, i64 64), (2, (Er.no 4).val)]) (cs := #[str [102, 105, 108, 101], i64 64, (Er.no 4).val]) rfl (by kernel_rfl)) ?_
  refine VL.box (cs := [str [102, 105, 108, 101], i64 64, (Er.no 4).val]) rfl rfl (by decide) fun b10_1 => ?_
  refine VL.shutB b10_1 ?_
  refine Zu (q_mkif Tryz.underlying114 (fun _ h => by cases h) rfl) ?_
  refine Zy ?_
  cases hS
  exact VC.ret (fin1 (.inr rfl) rfl rfl (Er.fault b10_1 [102, 105, 108, 101] 64 (Er.no 4)) rfl rfl (by (try dsimp only); exact InM.out) (fun _ _ => trivial))
 refine Zk ?_
 refine Zq (Zq (Zr ?_))
 refine Zm ?_
 refine Zu (q_ln (s := r_0) Tryz.underlying38 rfl) ?_
 refine Zy ?_
 refine Zb ?_
 refine VC.iter (S := Int) (fun (x14_2 : Int) => x14_2) (fun (x14_2 : Int) => [(0, r_0.val), (12, r_0.val), (13, i64 (r_0.l.length : Int)), (14, i64 x14_2)]) (fun (x14_2 : Int) => Mo.tt) (fun (x14_2 : Int) => Ow.emp) 0 [0, 12, 13, 14] hS rfl ?_
 clear hS
 rintro x14_2 m1 y1 hS hK1
 refine Zq (Zr ?_)
 refine Zu (q_lss rfl rfl) ?_
 refine Zl ?_
 refine Zq ?_
 refine Zc hS (fun h15 hS => ?_) (fun h15 hS => ?_)
 ·
  refine Zk ?_
  refine Zq (Zb (Zq (Zr ?_)))
  refine Zm ?_
  obtain ⟨z17_3, nz17_3, hz17_3, hS⟩ := at_s hS
  refine Zu (q_ixm (s := r_0) Tryz.underlying38 gsz42 rfl rfl nz17_3 (lt_of_get nz17_3 hz17_3)) ?_
  refine Zu (q_els (s := r_0) gagg42 rfl rfl hz17_3) ?_
  refine VL.alloc (cs := [str [], i64 0, str []]) (by kernel_rfl) (by decide) fun b4_4 => ?_
  refine Za ?_
  refine Zv (vc := [str z17_3.path, i64 z17_3.mode, str z17_3.data]) (cs' := [str z17_3.path, i64 z17_3.mode, str z17_3.data]) rfl gsz42 ?_
  refine Zl ?_
  refine Zq (Zr ?_)
  refine Zy ?_
  obtain ⟨b21, hS⟩ := gd_s hS
  refine VL.sto Tryz.underlying38 gsz42 rfl rfl b21.1 (b21.2) (by decide) fun s21_5 hs21_5 => ?_
  replace hS := lt_to hs21_5 hS
  refine Zu (q_mkfn rfl) ?_
  obtain ⟨y23_7, ey23_7, hS⟩ := bd_s hS
  refine Zu (q_callR (slices_ContainsFunc_files_Row_files_File_v2_ct s21_5 b4_4 z17_3 ey23_7) rfl (fun _ _ => rfl)) ?_
  refine Zl ?_
  refine VC.keep [0, 12, 13, 14, 3, 23] rfl ?_
  refine Zcb hS (fun h23 hS => ?_) (fun h23 hS => ?_)
  ·
   refine Zq (Zr ?_)
   refine Zm ?_
   refine Zu (q_mkif Tryz.underlying115 (fun _ h => by cases h) rfl) ?_
   refine Zu (q_build (vs := [(0, str [102, 105, 108, 101]), (1, i64 x14_2), (2, (Er.no 11).val)]) (cs := #[str [102, 105, 108, 101], i64 x14_2, (Er.no 11).val]) rfl (by kernel_rfl)) ?_
   refine VL.box (cs := [str [102, 105, 108, 101], i64 x14_2, (Er.no 11).val]) rfl rfl (by decide) fun b27_8 => ?_
   refine VL.shutB b27_8 ?_
   refine Zu (q_mkif Tryz.underlying114 (fun _ h => by cases h) rfl) ?_
   refine Zy ?_
   refine VC.keep [2] rfl ?_
   replace hS := up2 hS hK1
   cases hS
   exact VC.ret (fin1 (.inr rfl) rfl rfl (Er.fault b27_8 [102, 105, 108, 101] x14_2 (Er.no 11)) rfl rfl (by (try dsimp only); exact InM.out) (fun _ _ => trivial))
  refine Zk ?_
  refine Zr ?_
  obtain ⟨b29, hS⟩ := gd_s hS
  refine Zu (q_add rfl rfl b29) ?_
  refine Zm ?_
  refine VL.rnd (x14_2 + 1) [0, 12, 13, 14] (fun _ _ h => h) (go2 hS hK1) rfl
 replace hS := up2 hS hK1
 refine Zx ?_
 refine Zq (Zr ?_)
 refine Zy ?_
 cases hS
 exact VC.ret (fin1 (.inr rfl) rfl rfl .nil rfl rfl (by (try dsimp only); exact InM.out) (fun _ _ => trivial))
theorem slices_Clip_files_Row_files_File_ct (s_0 : Sv FilesFile) {r : List FilesFile} (hS : Sh.slices_Clip_files_Row_files_File s_0.l = some r) :
 Ct Tryz.prog 75 [s_0.val] s_0.ok (Ow.emp) (X := Sv FilesFile) (fun x => x.val) (fun x => r = x.l) (fun x => x.ok) (fun x => Ow.emp) := by
 refine Zo Tryz.func75 Tryz.ntmps75 fun c => ?_
 unfold Sh.slices_Clip_files_Row_files_File at hS
 refine Zq (Zr ?_)
 refine Zy ?_
 refine Zq (Zr ?_)
 refine Zy ?_
 refine Zu (q_ln (s := s_0) Tryz.underlying38 rfl) ?_
 refine Zm ?_
 refine Zu (q_ln (s := s_0) Tryz.underlying38 rfl) ?_
 obtain ⟨b8, hS⟩ := gd_s hS
 refine VL.stom Tryz.underlying38 gsz42 rfl rfl rfl b8.1 (b8.2) (by decide) fun s8_1 hs8_1 => ?_
 replace hS := lt_to hs8_1 hS
 refine Zy ?_
 cases hS
 exact VC.ret (fin1 (.inr rfl) rfl rfl s8_1 rfl rfl (by (try dsimp only); exact InM.out) (fun _ _ => trivial))
theorem slices_Clip_index_Entry_index_Entry_ct (s_0 : Sv IndexEntry) {r : List IndexEntry} (hS : Sh.slices_Clip_index_Entry_index_Entry s_0.l = some r) :
 Ct Tryz.prog 100 [s_0.val] s_0.ok (Ow.emp) (X := Sv IndexEntry) (fun x => x.val) (fun x => r = x.l) (fun x => x.ok) (fun x => Ow.emp) := by
 refine Zo Tryz.func100 Tryz.ntmps100 fun c => ?_
 unfold Sh.slices_Clip_index_Entry_index_Entry at hS
 refine Zq (Zr ?_)
 refine Zy ?_
 refine Zq (Zr ?_)
 refine Zy ?_
 refine Zu (q_ln (s := s_0) Tryz.underlying66 rfl) ?_
 refine Zm ?_
 refine Zu (q_ln (s := s_0) Tryz.underlying66 rfl) ?_
 obtain ⟨b8, hS⟩ := gd_s hS
 refine VL.stom Tryz.underlying66 gsz149 rfl rfl rfl b8.1 (b8.2) (by decide) fun s8_1 hs8_1 => ?_
 replace hS := lt_to hs8_1 hS
 refine Zy ?_
 cases hS
 exact VC.ret (fin1 (.inr rfl) rfl rfl s8_1 rfl rfl (by (try dsimp only); exact InM.out) (fun _ _ => trivial))
theorem tmerge_Merge_ct (base_0 : Sv FilesFile) (ours_1 : Sv FilesFile) (theirs_2 : Sv FilesFile) (a_3 : Str) (b_4 : Str) {r : TmergeResultP × Err} (hS : Sh.tmerge_Merge base_0.l ours_1.l theirs_2.l a_3 b_4 = some r) :
 Ct Tryz.prog 46 [base_0.val, ours_1.val, theirs_2.val, str a_3, str b_4] (base_0.ok.and (ours_1.ok.and theirs_2.ok)) (Ow.emp) (X := TmergeResult × Er) (fun x => .tuple #[.agg (Dat.enc x.1).toArray, x.2.val]) (fun x => r = (x.1.pl, x.2.pl)) (fun x => (x.1.m.and x.2.ok)) (fun x => Ow.emp) := by
 refine Zo Tryz.func46 Tryz.ntmps46 fun c => ?_
 unfold Sh.tmerge_Merge at hS
 refine Zq (Zr ?_)
 refine VL.alloc (cs := [.slice none 0 0, .slice none 0 0, .slice none 0 0]) (by kernel_rfl) (by decide) fun b10_1 => ?_
 refine Zy ?_
 refine Zq (Zq (Zr ?_))
 refine Zy ?_
 refine VL.lit (α := Sv FilesFile) (xs := [.tmp 22, .tmp 23, .tmp 24]) (vs := [base_0.val, ours_1.val, theirs_2.val]) [base_0, ours_1, theirs_2] Tryz.underlying171 glit38 (by decide) rfl rfl rfl rfl (by decide) (fun h m => List.forall_mem_cons.2 ⟨InM.out (X := base_0.ok) h m, List.forall_mem_cons.2 ⟨InM.out (X := ours_1.ok) h m, List.forall_mem_cons.2 ⟨InM.out (X := theirs_2.ok) h m, fun _ h => by cases h⟩⟩⟩) (by decide) (fun s25_2 hs25_2 => ?_) (by decide)
 replace hS := lt_to (congrArg (List.map Sv.l) hs25_2) hS
 refine Zu (q_lnm Sv.l (s := s25_2) Tryz.underlying171 rfl) ?_
 refine Zy ?_
 refine Zb ?_
 refine VC.iter (S := Int) (fun (x27_4 : Int) => x27_4) (fun (x27_4 : Int) => [(0, base_0.val), (1, ours_1.val), (2, theirs_2.val), (3, str a_3), (4, str b_4), (10, ptr b10_1 0), (25, s25_2.val), (26, i64 ((s25_2.l.map Sv.l).length : Int)), (27, i64 x27_4)]) (fun (x27_4 : Int) => Mo.tt) (fun (x27_4 : Int) => Ow.star (Blk b10_1 [.slice none 0 0, .slice none 0 0, .slice none 0 0] 86) (Ow.emp)) 0 [0, 1, 2, 3, 4, 10, 25, 26, 27] hS rfl ?_
 clear hS
 rintro x27_4 m1 y1 hS hK1
 refine Zq (Zr ?_)
 refine Zu (q_lss rfl rfl) ?_
 refine Zl ?_
 refine Zq ?_
 refine Zc hS (fun h28 hS => ?_) (fun h28 hS => ?_)
 ·
  refine Zk ?_
  refine Zq (Zb (Zq (Zr ?_)))
  obtain ⟨z29_5, nz29_5, hz29_5, hS⟩ := atm_s hS
  refine VL.deep z29_5.ok hz29_5 (fun _ q => q) ?_
  refine Zu (q_ixm (s := s25_2) Tryz.underlying171 gsz38 rfl rfl nz29_5 (lt_of_get nz29_5 hz29_5)) ?_
  refine Zu (q_el (s := s25_2) gone38 rfl hz29_5 rfl) ?_
  refine Zy ?_
  refine Zq (Zr ?_)
  refine Zm ?_
  obtain ⟨y32_6, ey32_6, hS⟩ := bd_s hS
  refine VL.callF (files_Row_Check_ct z29_5 ey32_6) rfl (by decide) ?_
  rintro q32_6_0 rfl
  try dsimp only
  refine Zy ?_
  refine Zq (Zr ?_)
  refine Zm ?_
  refine Zu (q_erne Tryz.underlying29 rfl) ?_
  refine Zl ?_
  refine VC.keep [0, 1, 2, 3, 4, 10, 25, 26, 27, 14, 34] rfl ?_
  refine Zcn hS (fun h34 hS => ?_) (fun h34 hS => ?_)
  ·
   refine Zq (Zr ?_)
   refine Zu (q_build (vs := []) (cs := #[.slice none 0 0, .slice none 0 0, .slice none 0 0]) rfl (by kernel_rfl)) ?_
   refine Zm ?_
   refine Zv (vc := [.slice none 0 0, .slice none 0 0, .slice none 0 0]) (cs' := [.slice none 0 0, .slice none 0 0, .slice none 0 0]) rfl gsz86 ?_
   refine Zy ?_
   refine VC.keep [10, 11] rfl ?_
   replace hS := up2 hS hK1
   cases hS
   exact VC.ret (finG (vs := [.agg #[.slice none 0 0, .slice none 0 0, .slice none 0 0], q32_6_0.val]) (.inr rfl) rfl (RVs.cell gagg86 rfl rfl Rd.blk (RVs.tmp rfl (RVs.nil))) (⟨⟨none, 0, []⟩, ⟨none, 0, []⟩, ⟨none, 0, []⟩⟩, q32_6_0) rfl rfl (by (try dsimp only); exact InM.out) (fun _ _ => trivial))
  refine Zk ?_
  refine Zr ?_
  obtain ⟨b37, hS⟩ := gd_s hS
  refine Zu (q_add rfl rfl b37) ?_
  refine Zm ?_
  refine VL.rnd (x27_4 + 1) [0, 1, 2, 3, 4, 10, 25, 26, 27] (fun _ _ h => h) (go2 hS hK1) rfl
 replace hS := up2 hS hK1
 refine Zx ?_
 refine Zq (Zr ?_)
 refine VL.alloc (cs := [.slice none 0 0, .slice none 0 0, .slice none 0 0]) (by kernel_rfl) (by decide) fun b15_7 => ?_
 refine Zl ?_
 refine Zq (Zq (Zr ?_))
 refine Zy ?_
 refine VL.lit (α := Sv FilesFile) (xs := [.tmp 38, .tmp 39, .tmp 40]) (vs := [base_0.val, ours_1.val, theirs_2.val]) [base_0, ours_1, theirs_2] Tryz.underlying171 glit38 (by decide) rfl rfl rfl rfl (by decide) (fun h m => List.forall_mem_cons.2 ⟨InM.out (X := base_0.ok) h m, List.forall_mem_cons.2 ⟨InM.out (X := ours_1.ok) h m, List.forall_mem_cons.2 ⟨InM.out (X := theirs_2.ok) h m, fun _ h => by cases h⟩⟩⟩) (by decide) (fun s41_8 hs41_8 => ?_) (by decide)
 replace hS := lt_to (congrArg (List.map Sv.l) hs41_8) hS
 obtain ⟨y42_10, ey42_10, hS⟩ := bd_s hS
 refine VL.callF (files_Paths_ct s41_8 ey42_10) rfl (by decide) ?_
 rintro q42_10_0 rfl
 try dsimp only
 refine Zu (q_ln (s := q42_10_0) Tryz.underlying82 rfl) ?_
 refine Zy ?_
 refine VC.keep [0, 1, 2, 3, 4, 10, 15, 42, 43, 44] rfl ?_
 refine Zb ?_
 refine VC.nilO (⟨none, 0, []⟩ : Sv FilesFile) 42 ⟨rfl, rfl⟩ ?_
 refine VC.nilO (⟨none, 0, []⟩ : Sv IndexEntry) 149 ⟨rfl, rfl⟩ ?_
 refine VC.nilO (⟨none, 0, []⟩ : Sv Str) 9 ⟨rfl, rfl⟩ ?_
 refine VC.reB b15_7 (cs' := [(⟨none, 0, []⟩ : Sv FilesFile).val, (⟨none, 0, []⟩ : Sv IndexEntry).val, (⟨none, 0, []⟩ : Sv Str).val]) rfl ?_
 refine VC.iter (S := Int × Sv FilesFile × Sv IndexEntry × Sv Str) (fun sg => (sg.1, sg.2.1.l, sg.2.2.1.l, sg.2.2.2.l)) (fun sg => [(0, base_0.val), (1, ours_1.val), (2, theirs_2.val), (3, str a_3), (4, str b_4), (10, ptr b10_1 0), (15, ptr b15_7 0), (42, q42_10_0.val), (43, i64 (q42_10_0.l.length : Int)), (44, i64 sg.1)]) (fun sg => Mo.tt) (fun sg => Ow.star (Blk b15_7 [sg.2.1.val, sg.2.2.1.val, sg.2.2.2.val] 86) (Ow.star (Blk b10_1 [.slice none 0 0, .slice none 0 0, .slice none 0 0] 86) (Ow.star (Sv.own sg.2.1 42) (Ow.star (Sv.own sg.2.2.1 149) (Ow.star (Sv.own sg.2.2.2 9) (Ow.emp)))))) (0, (⟨none, 0, []⟩ : Sv FilesFile), (⟨none, 0, []⟩ : Sv IndexEntry), (⟨none, 0, []⟩ : Sv Str)) [0, 1, 2, 3, 4, 10, 15, 42, 43, 44] hS rfl ?_
 clear hS
 rintro ⟨x44_11, c0_12, c1_13, c2_14⟩ m1 y1 hS hK1
 refine Zq (Zr ?_)
 refine Zu (q_lss rfl rfl) ?_
 refine Zl ?_
 refine Zq ?_
 refine Zc hS (fun h45 hS => ?_) (fun h45 hS => ?_)
 ·
  refine Zk ?_
  refine Zq (Zb (Zq (Zr ?_)))
  obtain ⟨z46_15, nz46_15, hz46_15, hS⟩ := at_s hS
  refine Zu (q_ixm (s := q42_10_0) Tryz.underlying82 gsz9 rfl rfl nz46_15 (lt_of_get nz46_15 hz46_15)) ?_
  refine Zu (q_el (s := q42_10_0) gone9 rfl hz46_15 rfl) ?_
  refine Zy ?_
  refine Zq (Zr ?_)
  refine Zy ?_
  obtain ⟨y55_16, ey55_16, hS⟩ := bd_s hS
  refine Zu (q_call (tmerge_One_ct z46_15 base_0 ours_1 theirs_2 a_3 b_4 ey55_16) rfl (fun _ _ => rfl)) ?_
  refine Zm ?_
  refine Zu (q_extract rfl rfl) ?_
  refine Zu (q_extract rfl rfl) ?_
  refine Zu (q_extract rfl rfl) ?_
  refine VL.alloc (cs := [str [], i64 0, str []]) (by kernel_rfl) (by decide) fun b18_17 => ?_
  refine Zv (vc := [str y55_16.1.path, i64 y55_16.1.mode, str y55_16.1.data]) (cs' := [str y55_16.1.path, i64 y55_16.1.mode, str y55_16.1.data]) rfl gsz42 ?_
  refine Zy ?_
  refine VC.keep [0, 1, 2, 3, 4, 10, 15, 42, 43, 44, 17, 18, 19, 20] rfl ?_
  refine VC.cutJ (S := Sv FilesFile) (fun (c0_18 : Sv FilesFile) => c0_18.l) (fun (c0_18 : Sv FilesFile) => [(0, base_0.val), (1, ours_1.val), (2, theirs_2.val), (3, str a_3), (4, str b_4), (10, ptr b10_1 0), (15, ptr b15_7 0), (17, str z46_15), (20, .bool y55_16.2.2), (42, q42_10_0.val), (43, i64 (q42_10_0.l.length : Int)), (44, i64 x44_11)]) (fun (c0_18 : Sv FilesFile) => Mo.tt) (fun (c0_18 : Sv FilesFile) => Ow.star (Blk b18_17 [str y55_16.1.path, i64 y55_16.1.mode, str y55_16.1.data] 42) (Ow.star (Blk b15_7 [c0_18.val, c1_13.val, c2_14.val] 86) (Ow.star (Blk b10_1 [.slice none 0 0, .slice none 0 0, .slice none 0 0] 86) (Ow.star (Sv.own c1_13 149) (Ow.star (Sv.own c2_14 9) (Ow.star (Sv.own c0_18 42) (Ow.emp))))))) hS ?_ ?_
  ·
   clear hS
   intro k19 hS
   refine Zq (Zr ?_)
   refine Zy ?_
   refine Zcb hS (fun h59 hS => ?_) (fun h59 hS => ?_)
   ·
    refine Zr ?_
    refine Zu (q_field gfa86_0 rfl) ?_
    refine Zu (q_fe gone38 rfl rfl) ?_
    refine Zu (q_fes gagg42 rfl rfl) ?_
    refine VL.lit (α := FilesFile) (xs := [.tmp 62]) (vs := [.agg #[str y55_16.1.path, i64 y55_16.1.mode, str y55_16.1.data]]) [⟨y55_16.1.path, y55_16.1.mode, y55_16.1.data⟩] Tryz.underlying38 glit42 (by decide) rfl rfl rfl rfl (by decide) (fun _ _ _ _ => trivial) (by decide) (fun s63_20 hs63_20 => ?_) (by decide)
    replace hS := lt_to hs63_20 hS
    obtain ⟨b64, hS⟩ := gd_s hS
    refine VL.app (s := c0_12) (r := s63_20) Tryz.underlying38 gapp42 (by decide) rfl Fo.out (ap1 b64) (ap2 b64 (by decide)) (by decide) (fun s64_22 hs64_22 => ?_)
    replace hS := lt_to hs64_22 hS
    refine Zu (q_field gfa86_0 rfl) ?_
    refine Zv (vc := [s64_22.val]) (cs' := [s64_22.val, c1_13.val, c2_14.val]) rfl gsz38 ?_
    refine VL.mt s64_22 [0, 1, 2, 3, 4, 10, 15, 17, 20, 42, 43, 44] (fun _ _ h => h) hS rfl
   refine VC.skip_mt c0_12 [0, 1, 2, 3, 4, 10, 15, 17, 20, 42, 43, 44] (fun _ _ h => h) hS rfl
  clear hS
  rintro c0_18 hS
  refine Zq (Zr ?_)
  refine Zy ?_
  refine Zcb hS (fun h66 hS => ?_) (fun h66 hS => ?_)
  ·
   refine Zq (Zr ?_)
   refine Zu (q_field gfa86_2 rfl) ?_
   refine Zu (q_fe gone82 rfl rfl) ?_
   refine Zm ?_
   refine VL.lit (α := Str) (xs := [.tmp 69]) (vs := [str z46_15]) [z46_15] Tryz.underlying82 glit9 (by decide) rfl rfl rfl rfl (by decide) (fun _ _ _ _ => trivial) (by decide) (fun s70_24 hs70_24 => ?_) (by decide)
   replace hS := lt_to hs70_24 hS
   obtain ⟨b71, hS⟩ := gd_s hS
   refine VL.app (s := c2_14) (r := s70_24) Tryz.underlying82 gapp9 (by decide) rfl Fo.out (ap1 b71) (ap2 b71 (by decide)) (by decide) (fun s71_26 hs71_26 => ?_)
   replace hS := lt_to hs71_26 hS
   refine Zu (q_field gfa86_2 rfl) ?_
   refine Zv (vc := [s71_26.val]) (cs' := [c0_18.val, c1_13.val, s71_26.val]) rfl gsz82 ?_
   refine Zl ?_
   refine VC.keep [0, 1, 2, 3, 4, 10, 15, 17, 42, 43, 44] rfl ?_
   refine VC.draw [(0, true), (1, true), (2, true), (3, true), (4, true), (5, true), (6, false), (7, false), (8, false), (9, true), (10, false)] mixed (by kernel_rfl) (by kernel_rfl) (by kernel_rfl) ?_
   refine Zw rfl (q_field gfa86_1 rfl) ?_
   refine Zw rfl (q_fe gone66 rfl rfl) ?_
   refine Zw rfl (q_move rfl) ?_
   refine Zw rfl (q_move rfl) ?_
   refine Zw rfl (q_move rfl) ?_
   refine Zw rfl (q_move rfl) ?_
   refine VD.one rfl ?_
   refine VL.lit (α := Sv FilesFile) (xs := [.tmp 76, .tmp 77, .tmp 78]) (vs := [base_0.val, ours_1.val, theirs_2.val]) [base_0, ours_1, theirs_2] Tryz.underlying171 glit38 (by decide) rfl rfl rfl rfl (by decide) (fun h m => List.forall_mem_cons.2 ⟨InM.out (X := base_0.ok) h m, List.forall_mem_cons.2 ⟨InM.out (X := ours_1.ok) h m, List.forall_mem_cons.2 ⟨InM.out (X := theirs_2.ok) h m, fun _ h => by cases h⟩⟩⟩) (by decide) (fun s79_28 hs79_28 => ?_) (by decide)
   replace hS := lt_to (congrArg (List.map Sv.l) hs79_28) hS
   refine VL.back (D' := [(1, c1_13.val), (0, ptr b15_7 1)]) (by kernel_rfl) (Pend.cons rfl (q_fe gone66 rfl rfl) (Pend.cons rfl (q_field gfa86_1 rfl) (Pend.nil))) ?_
   refine VD.one rfl ?_
   obtain ⟨y80_30, ey80_30, hS⟩ := bd_s hS
   refine VL.callO (tmerge_stages_ct z46_15 s79_28 ey80_30) rfl (by decide) ?_
   rintro q80_30_0 rfl
   try dsimp only
   refine VL.back (D' := [(1, c1_13.val), (0, ptr b15_7 1)]) (by kernel_rfl) (Pend.cons rfl (q_fe gone66 rfl rfl) (Pend.cons rfl (q_field gfa86_1 rfl) (Pend.nil))) ?_
   refine VD.one rfl ?_
   refine VL.shut q80_30_0 149 (fun _ _ _ _ => trivial) ?_
   obtain ⟨b81, hS⟩ := gd_s hS
   refine VL.app (s := c1_13) (r := q80_30_0) Tryz.underlying66 gapp149 (by decide) rfl Fo.out (ap1 b81) (ap2 b81 (by decide)) (by decide) (fun s81_31 hs81_31 => ?_)
   replace hS := lt_to hs81_31 hS
   refine VL.back (D' := []) (by kernel_rfl) (Pend.nil) ?_
   refine Zw rfl (q_field gfa86_1 rfl) ?_
   refine VD.one rfl ?_
   refine Zv (vc := [s81_31.val]) (cs' := [c0_18.val, s81_31.val, s71_26.val]) rfl gsz66 ?_
   refine VL.back (D' := []) (by kernel_rfl) (Pend.nil) ?_
   refine VD.to (fun _ _ h => h) ?_
   refine VC.keep [0, 1, 2, 3, 4, 10, 15, 42, 43, 44] rfl ?_
   refine Zr ?_
   obtain ⟨b83, hS⟩ := gd_s hS
   refine Zu (q_add rfl rfl b83) ?_
   refine Zm ?_
   refine VL.rnd ((x44_11 + 1), c0_18, s81_31, s71_26) [0, 1, 2, 3, 4, 10, 15, 42, 43, 44] (fun _ _ h => h) (go2 hS hK1) rfl
  refine Zk ?_
  refine Zr ?_
  obtain ⟨b83, hS⟩ := gd_s hS
  refine Zu (q_add rfl rfl b83) ?_
  refine Zm ?_
  refine VL.rnd ((x44_11 + 1), c0_18, c1_13, c2_14) [0, 1, 2, 3, 4, 10, 15, 42, 43, 44] (fun _ _ h => h) (go2 hS hK1) rfl
 replace hS := up2 hS hK1
 refine Zx ?_
 refine VC.keep [10, 15] rfl ?_
 refine Zq (Zq (Zr ?_))
 refine Zu (q_field gfa86_0 rfl) ?_
 refine Zu (q_fe gone38 rfl rfl) ?_
 refine VL.shut c0_12 42 (fun _ _ _ _ => trivial) ?_
 obtain ⟨y86_33, ey86_33, hS⟩ := bd_s hS
 refine VL.callF (tmerge_fault_ct c0_12 ey86_33) rfl (by decide) ?_
 rintro q86_33_0 rfl
 try dsimp only
 refine Zy ?_
 refine Zq (Zr ?_)
 refine Zm ?_
 refine Zu (q_erne Tryz.underlying29 rfl) ?_
 refine Zl ?_
 refine Zcn hS (fun h88 hS => ?_) (fun h88 hS => ?_)
 ·
  refine Zq (Zr ?_)
  refine Zu (q_build (vs := []) (cs := #[.slice none 0 0, .slice none 0 0, .slice none 0 0]) rfl (by kernel_rfl)) ?_
  refine Zm ?_
  refine Zv (vc := [.slice none 0 0, .slice none 0 0, .slice none 0 0]) (cs' := [.slice none 0 0, .slice none 0 0, .slice none 0 0]) rfl gsz86 ?_
  refine Zy ?_
  refine VC.keep [10, 11] rfl ?_
  cases hS
  exact VC.ret (finG (vs := [.agg #[.slice none 0 0, .slice none 0 0, .slice none 0 0], q86_33_0.val]) (.inr rfl) rfl (RVs.cell gagg86 rfl rfl Rd.blk (RVs.tmp rfl (RVs.nil))) (⟨⟨none, 0, []⟩, ⟨none, 0, []⟩, ⟨none, 0, []⟩⟩, q86_33_0) rfl rfl (by (try dsimp only); exact InM.out) (fun _ _ => trivial))
 refine Zk ?_
 refine Zq ?_
 refine VC.draw [(0, true), (1, true), (3, true), (4, true), (6, true), (7, true), (2, false), (5, false), (8, false), (9, true), (10, false), (11, true)] mixed (by kernel_rfl) (by kernel_rfl) (by kernel_rfl) ?_
 refine Zw rfl (q_field gfa86_0 rfl) ?_
 refine Zw rfl (q_fe gone38 rfl rfl) ?_
 refine Zw rfl (q_field gfa86_1 rfl) ?_
 refine Zw rfl (q_fe gone66 rfl rfl) ?_
 refine Zw rfl (q_field gfa86_2 rfl) ?_
 refine Zw rfl (q_fe gone82 rfl rfl) ?_
 refine VD.one rfl ?_
 obtain ⟨y93_34, ey93_34, hS⟩ := bd_s hS
 refine VL.callF (slices_Clip_files_Row_files_File_ct c0_12 ey93_34) rfl (by decide) ?_
 rintro q93_34_0 rfl
 try dsimp only
 refine VL.back (D' := [(7, c2_14.val), (6, ptr b15_7 2), (4, c1_13.val), (3, ptr b15_7 1)]) (by kernel_rfl) (Pend.cons rfl (q_fe gone82 rfl rfl) (Pend.cons rfl (q_field gfa86_2 rfl) (Pend.cons rfl (q_fe gone66 rfl rfl) (Pend.cons rfl (q_field gfa86_1 rfl) (Pend.nil))))) ?_
 refine VD.one rfl ?_
 refine VL.shut c1_13 149 (fun _ _ _ _ => trivial) ?_
 obtain ⟨y96_35, ey96_35, hS⟩ := bd_s hS
 refine VL.callF (slices_Clip_index_Entry_index_Entry_ct c1_13 ey96_35) rfl (by decide) ?_
 rintro q96_35_0 rfl
 try dsimp only
 refine VL.back (D' := [(7, c2_14.val), (6, ptr b15_7 2)]) (by kernel_rfl) (Pend.cons rfl (q_fe gone82 rfl rfl) (Pend.cons rfl (q_field gfa86_2 rfl) (Pend.nil))) ?_
 refine VD.one rfl ?_
 refine VL.shut c2_14 9 (fun _ _ _ _ => trivial) ?_
 obtain ⟨y99_36, ey99_36, hS⟩ := bd_s hS
 refine VL.callF (slices_Clip_string_string_ct c2_14 ey99_36) rfl (by decide) ?_
 rintro q99_36_0 rfl
 try dsimp only
 refine VL.back (D' := []) (by kernel_rfl) (Pend.nil) ?_
 refine Zw rfl (q_build (vs := [(0, q93_34_0.val), (1, q96_35_0.val), (2, q99_36_0.val)]) (cs := #[q93_34_0.val, q96_35_0.val, q99_36_0.val]) rfl (by kernel_rfl)) ?_
 refine VD.one rfl ?_
 refine Zv (vc := [q93_34_0.val, q96_35_0.val, q99_36_0.val]) (cs' := [q93_34_0.val, q96_35_0.val, q99_36_0.val]) rfl gsz86 ?_
 refine VL.back (D' := []) (by kernel_rfl) (Pend.nil) ?_
 refine Zw rfl (q_assign rfl) ?_
 refine VD.to (fun _ _ h => h) ?_
 refine VC.keep [10, 11] rfl ?_
 cases hS
 exact VC.ret (finG (vs := [.agg #[q93_34_0.val, q96_35_0.val, q99_36_0.val], .nilIface]) (.inr rfl) rfl (RVs.cell gagg86 rfl rfl Rd.blk (RVs.tmp rfl (RVs.nil))) (⟨q93_34_0, q96_35_0, q99_36_0⟩, .nil) rfl rfl (by (try dsimp only); exact InM.out) (fun _ _ => trivial))
theorem l16_known_ct  {r : Bool} (hS : Sh.l16_known = some r) :
 Ct Tryz.prog 12 [] Mo.tt (Ow.emp) (X := Unit) (fun _ => .bool r) (fun _ => True) (fun _ => Mo.tt) (fun _ => Ow.emp) := by
 refine Zo Tryz.func12 Tryz.ntmps12 fun c => ?_
 unfold Sh.l16_known at hS
 refine Zq (Zr ?_)
 refine Zy ?_
 refine Zq (Zr ?_)
 refine Zu (q_build (vs := [(0, str [97]), (1, i64 1), (2, str [120, 10])]) (cs := #[str [97], i64 1, str [120, 10]]) rfl (by kernel_rfl)) ?_
 refine Zu (q_build (vs := [(0, str [98]), (1, i64 1), (2, str [121, 10])]) (cs := #[str [98], i64 1, str [121, 10]]) rfl (by kernel_rfl)) ?_
 refine VL.lit (α := FilesFile) (xs := [.tmp 9, .tmp 10]) (vs := [.agg #[str [97], i64 1, str [120, 10]], .agg #[str [98], i64 1, str [121, 10]]]) [⟨[97], 1, [120, 10]⟩, ⟨[98], 1, [121, 10]⟩] Tryz.underlying38 glit42 (by decide) rfl rfl rfl rfl (by decide) (fun _ _ _ _ => trivial) (by decide) (fun s11_1 hs11_1 => ?_) (by decide)
 replace hS := lt_to hs11_1 hS
 refine Zy ?_
 refine Zq (Zr ?_)
 refine Zu (q_build (vs := [(0, str [97]), (1, i64 1), (2, str [88, 10])]) (cs := #[str [97], i64 1, str [88, 10]]) rfl (by kernel_rfl)) ?_
 refine Zu (q_build (vs := [(0, str [98]), (1, i64 1), (2, str [49, 10])]) (cs := #[str [98], i64 1, str [49, 10]]) rfl (by kernel_rfl)) ?_
 refine VL.lit (α := FilesFile) (xs := [.tmp 12, .tmp 13]) (vs := [.agg #[str [97], i64 1, str [88, 10]], .agg #[str [98], i64 1, str [49, 10]]]) [⟨[97], 1, [88, 10]⟩, ⟨[98], 1, [49, 10]⟩] Tryz.underlying38 glit42 (by decide) rfl rfl rfl rfl (by decide) (fun _ _ _ _ => trivial) (by decide) (fun s14_3 hs14_3 => ?_) (by decide)
 replace hS := lt_to hs14_3 hS
 refine Zy ?_
 refine Zq (Zr ?_)
 refine Zu (q_build (vs := [(0, str [97]), (1, i64 1), (2, str [120, 10])]) (cs := #[str [97], i64 1, str [120, 10]]) rfl (by kernel_rfl)) ?_
 refine Zu (q_build (vs := [(0, str [98]), (1, i64 1), (2, str [50, 10])]) (cs := #[str [98], i64 1, str [50, 10]]) rfl (by kernel_rfl)) ?_
 refine VL.lit (α := FilesFile) (xs := [.tmp 15, .tmp 16]) (vs := [.agg #[str [97], i64 1, str [120, 10]], .agg #[str [98], i64 1, str [50, 10]]]) [⟨[97], 1, [120, 10]⟩, ⟨[98], 1, [50, 10]⟩] Tryz.underlying38 glit42 (by decide) rfl rfl rfl rfl (by decide) (fun _ _ _ _ => trivial) (by decide) (fun s17_5 hs17_5 => ?_) (by decide)
 replace hS := lt_to hs17_5 hS
 refine Zy ?_
 refine VC.keep [1, 2, 3] rfl ?_
 refine Zq (Zr ?_)
 refine Zy ?_
 obtain ⟨y22_7, ey22_7, hS⟩ := bd_s hS
 refine VL.callF (tmerge_Merge_ct s11_1 s14_3 s17_5 [112] [113] ey22_7) rfl (by decide) ?_
 rintro ⟨q22_7_0, q22_7_1⟩ rfl
 try dsimp only
 refine Zm ?_
 refine Zu (q_extract rfl rfl) ?_
 refine Zu (q_extract rfl rfl) ?_
 refine VL.alloc (cs := [.slice none 0 0, .slice none 0 0, .slice none 0 0]) (by kernel_rfl) (by decide) fun b4_8 => ?_
 refine Zv (vc := [q22_7_0.files.val, q22_7_0.entries.val, q22_7_0.conflicts.val]) (cs' := [q22_7_0.files.val, q22_7_0.entries.val, q22_7_0.conflicts.val]) rfl gsz86 ?_
 refine Zy ?_
 refine VC.keep [1, 2, 3, 4, 5] rfl ?_
 refine Zq (Zr ?_)
 refine Zy ?_
 obtain ⟨y29_9, ey29_9, hS⟩ := bd_s hS
 refine Zu (q_call (tmerge_One_ct [97] s11_1 s14_3 s17_5 [112] [113] ey29_9) rfl (fun _ _ => rfl)) ?_
 refine Zm ?_
 refine Zu (q_extract rfl rfl) ?_
 refine Zu (q_extract rfl rfl) ?_
 refine Zu (q_extract rfl rfl) ?_
 refine VL.alloc (cs := [str [], i64 0, str []]) (by kernel_rfl) (by decide) fun b6_10 => ?_
 refine Zv (vc := [str y29_9.1.path, i64 y29_9.1.mode, str y29_9.1.data]) (cs' := [str y29_9.1.path, i64 y29_9.1.mode, str y29_9.1.data]) rfl gsz42 ?_
 refine Zy ?_
 refine VC.keep [4, 5, 6, 7, 8] rfl ?_
 refine Zq (Zr ?_)
 refine Zm ?_
 refine Zu (q_ereq Tryz.underlying29 rfl) ?_
 refine Zm ?_
 refine Zsp 35 hS (fun h35 hS => ?_) (fun h35 hS => ?_)
 ·
  refine Zh (q_field gfa86_0 rfl) ?_
  refine Zh (q_fe gone38 rfl rfl) ?_
  refine Zh (q_ln (s := q22_7_0.files) Tryz.underlying38 rfl) ?_
  refine Zh (q_eql rfl rfl) ?_
  refine Zy ?_
  refine Zsp 41 hS (fun h41 hS => ?_) (fun h41 hS => ?_)
  ·
   refine Zh (q_field gfa86_0 rfl) ?_
   refine Zh (q_fe gone38 rfl rfl) ?_
   obtain ⟨z44_11, nz44_11, hz44_11, hS⟩ := at_s hS
   refine Zh (q_ixm (s := q22_7_0.files) Tryz.underlying38 gsz42 rfl rfl nz44_11 (lt_of_get nz44_11 hz44_11)) ?_
   refine Zh (q_field gfa42_2 rfl) ?_
   refine Zh (q_elf (s := q22_7_0.files) gone9 rfl hz44_11 rfl) ?_
   refine Zh (q_seq rfl rfl) ?_
   refine Zy ?_
   refine Zsp 49 hS (fun h49 hS => ?_) (fun h49 hS => ?_)
   ·
    refine Zh (q_field gfa86_2 rfl) ?_
    refine Zh (q_fe gone82 rfl rfl) ?_
    refine Zh (q_ln (s := q22_7_0.conflicts) Tryz.underlying82 rfl) ?_
    refine Zh (q_eql rfl rfl) ?_
    refine Zy ?_
    refine Zsp 55 hS (fun h55 hS => ?_) (fun h55 hS => ?_)
    ·
     refine Zh (q_field gfa86_2 rfl) ?_
     refine Zh (q_fe gone82 rfl rfl) ?_
     obtain ⟨z58_12, nz58_12, hz58_12, hS⟩ := at_s hS
     refine Zh (q_ixm (s := q22_7_0.conflicts) Tryz.underlying82 gsz9 rfl rfl nz58_12 (lt_of_get nz58_12 hz58_12)) ?_
     refine Zh (q_el (s := q22_7_0.conflicts) gone9 rfl hz58_12 rfl) ?_
     refine Zh (q_seq rfl rfl) ?_
     refine Zy ?_
     refine Zsp 62 hS (fun h62 hS => ?_) (fun h62 hS => ?_)
     ·
      refine Zh (q_field gfa86_1 rfl) ?_
      refine Zh (q_fe gone66 rfl rfl) ?_
      refine Zh (q_ln (s := q22_7_0.entries) Tryz.underlying66 rfl) ?_
      refine Zh (q_eql rfl rfl) ?_
      refine Zy ?_
      refine Zsp 68 hS (fun h68 hS => ?_) (fun h68 hS => ?_)
      ·
       refine Zh (q_field gfa42_2 rfl) ?_
       refine Zh (q_fe gone9 rfl rfl) ?_
       refine Zh (q_seq rfl rfl) ?_
       refine Zy ?_
       refine Zsp 73 hS (fun h73 hS => ?_) (fun h73 hS => ?_)
       ·
        refine Zy ?_
        refine Zspb 76 hS (fun h76 hS => ?_) (fun h76 hS => ?_)
        ·
         refine Zg ?_
         refine Zh (q_not rfl) ?_
         refine Zy ?_
         refine VC.keep [0] rfl ?_
         cases hS
         exact Ze
        refine Zy ?_
        refine VC.keep [0] rfl ?_
        cases hS
        exact Ze
       refine Zy ?_
       refine VC.keep [0] rfl ?_
       cases hS
       exact Ze
      refine Zy ?_
      refine VC.keep [0] rfl ?_
      cases hS
      exact Ze
     refine Zy ?_
     refine VC.keep [0] rfl ?_
     cases hS
     exact Ze
    refine Zy ?_
    refine VC.keep [0] rfl ?_
    cases hS
    exact Ze
   refine Zy ?_
   refine VC.keep [0] rfl ?_
   cases hS
   exact Ze
  refine Zy ?_
  refine VC.keep [0] rfl ?_
  cases hS
  exact Ze
 refine Zy ?_
 refine VC.keep [0] rfl ?_
 cases hS
 exact Ze
theorem l14_Few_ct (r_0 : Sv FilesFile) {r : Bool} (hS : Sh.l14_Few r_0.l = some r) :
 Ct Tryz.prog 13 [r_0.val] r_0.ok (Ow.emp) (X := Unit) (fun _ => .bool r) (fun _ => True) (fun _ => Mo.tt) (fun _ => Ow.emp) := by
 refine Zo Tryz.func13 Tryz.ntmps13 fun c => ?_
 unfold Sh.l14_Few at hS
 refine Zq (Zr ?_)
 refine Zy ?_
 refine Zq (Zq (Zr ?_))
 refine Zm ?_
 refine Zu (q_ln (s := r_0) Tryz.underlying38 rfl) ?_
 refine Zu (q_gtr rfl rfl) ?_
 refine Zl ?_
 refine Zc hS (fun h6 hS => ?_) (fun h6 hS => ?_)
 ·
  refine Zq (Zr ?_)
  refine Zy ?_
  cases hS
  exact Ze
 refine Zk ?_
 refine Zq (Zq (Zr ?_))
 refine Zy ?_
 refine Zb ?_
 refine VC.iter (S := Int) (fun (i3_1 : Int) => i3_1) (fun (i3_1 : Int) => [(0, r_0.val), (3, i64 i3_1)]) (fun (i3_1 : Int) => Mo.tt) (fun (i3_1 : Int) => Ow.emp) 0 [0, 3] hS rfl ?_
 clear hS
 rintro i3_1 m1 y1 hS hK1
 refine Zq (Zq (Zr ?_))
 refine Zy ?_
 refine Zu (q_ln (s := r_0) Tryz.underlying38 rfl) ?_
 refine Zu (q_lss rfl rfl) ?_
 refine Zl ?_
 refine Zc hS (fun h10 hS => ?_) (fun h10 hS => ?_)
 ·
  refine Zk ?_
  refine Zq (Zb ?_)
  refine VC.cutJ (S := Bool) (fun (x28_2 : Bool) => x28_2) (fun (x28_2 : Bool) => [(0, r_0.val), (3, i64 i3_1), (28, .bool x28_2)]) (fun (x28_2 : Bool) => Mo.tt) (fun (x28_2 : Bool) => Ow.emp) hS ?_ ?_
  ·
   clear hS
   intro k3 hS
   refine Zr ?_
   refine Zy ?_
   obtain ⟨z15_4, nz15_4, hz15_4, hS⟩ := at_s hS
   refine Zu (q_ixm (s := r_0) Tryz.underlying38 gsz42 rfl rfl nz15_4 (lt_of_get nz15_4 hz15_4)) ?_
   refine Zu (q_field gfa42_0 rfl) ?_
   refine Zu (q_elf (s := r_0) gone9 rfl hz15_4 rfl) ?_
   refine Zu (q_slen Tryz.underlying9 rfl) ?_
   refine Zu (q_gtr rfl rfl) ?_
   refine Zm ?_
   refine Zsp 20 hS (fun h20 hS => ?_) (fun h20 hS => ?_)
   ·
    refine Zy ?_
    refine VL.mt true [0, 3, 28] (fun _ _ h => h) hS rfl
   refine Zy ?_
   obtain ⟨z23_5, nz23_5, hz23_5, hS⟩ := at_s hS
   refine Zh (q_ixm (s := r_0) Tryz.underlying38 gsz42 rfl rfl nz23_5 (lt_of_get nz23_5 hz23_5)) ?_
   refine Zh (q_field gfa42_2 rfl) ?_
   refine Zh (q_elf (s := r_0) gone9 rfl hz23_5 rfl) ?_
   refine Zh (q_slen Tryz.underlying9 rfl) ?_
   refine Zh (q_gtr rfl rfl) ?_
   refine Zf ?_
   refine VL.mt (decide (5000 < (z23_5.data.length : Int))) [0, 3, 28] (fun _ _ h => h) hS rfl
  clear hS
  rintro x28_2 hS
  refine Zcb hS (fun h28 hS => ?_) (fun h28 hS => ?_)
  ·
   refine Zq (Zr ?_)
   refine Zy ?_
   replace hS := up2 hS hK1
   cases hS
   exact Ze
  refine Zk ?_
  refine Zr ?_
  refine Zm ?_
  obtain ⟨b12, hS⟩ := gd_s hS
  refine Zu (q_add rfl rfl b12) ?_
  refine Za ?_
  refine VL.rnd (i3_1 + 1) [0, 3] (fun _ _ h => h) (go2 hS hK1) rfl
 replace hS := up2 hS hK1
 refine Zx ?_
 refine Zq (Zr ?_)
 refine Zy ?_
 cases hS
 exact Ze
theorem l16_short_ct (r_0 : Sv FilesFile) {r : Bool} (hS : Sh.l16_short r_0.l = some r) :
 Ct Tryz.prog 14 [r_0.val] r_0.ok (Ow.emp) (X := Unit) (fun _ => .bool r) (fun _ => True) (fun _ => Mo.tt) (fun _ => Ow.emp) := by
 refine Zo Tryz.func14 Tryz.ntmps14 fun c => ?_
 unfold Sh.l16_short at hS
 refine Zq (Zr ?_)
 refine Zy ?_
 refine Zq (Zq (Zr ?_))
 refine Zm ?_
 refine Zu (q_ln (s := r_0) Tryz.underlying38 rfl) ?_
 refine Zu (q_gtr rfl rfl) ?_
 refine Zl ?_
 refine Zc hS (fun h7 hS => ?_) (fun h7 hS => ?_)
 ·
  refine Zq (Zr ?_)
  refine Zm ?_
  refine Zu (q_ln (s := r_0) Tryz.underlying38 rfl) ?_
  refine Zu (q_gtr rfl rfl) ?_
  refine Zm ?_
  refine Zsp 11 hS (fun h11 hS => ?_) (fun h11 hS => ?_)
  ·
   refine Zg ?_
   refine Zh (q_ln (s := r_0) Tryz.underlying38 rfl) ?_
   refine Zh (q_leq rfl rfl) ?_
   refine Zy ?_
   refine VC.keep [2] rfl ?_
   cases hS
   exact Ze
  refine Zy ?_
  refine VC.keep [2] rfl ?_
  cases hS
  exact Ze
 refine Zk ?_
 refine Zq (Zr ?_)
 refine Zy ?_
 refine Zq (Zq (Zr ?_))
 refine Zy ?_
 refine Zb ?_
 refine VC.iter (S := Int × Int) (fun sg => (sg.1, sg.2)) (fun sg => [(0, r_0.val), (3, i64 sg.1), (4, i64 sg.2)]) (fun sg => Mo.tt) (fun sg => Ow.emp) (0, 0) [0, 3, 4] hS rfl ?_
 clear hS
 rintro ⟨n3_1, i4_2⟩ m1 y1 hS hK1
 refine Zq (Zq (Zr ?_))
 refine Zy ?_
 refine Zu (q_ln (s := r_0) Tryz.underlying38 rfl) ?_
 refine Zu (q_lss rfl rfl) ?_
 refine Zl ?_
 refine Zc hS (fun h19 hS => ?_) (fun h19 hS => ?_)
 ·
  refine Zk ?_
  refine Zq (Zb (Zq (Zr ?_)))
  refine Zy ?_
  obtain ⟨z25_3, nz25_3, hz25_3, hS⟩ := at_s hS
  refine Zu (q_ixm (s := r_0) Tryz.underlying38 gsz42 rfl rfl nz25_3 (lt_of_get nz25_3 hz25_3)) ?_
  refine Zu (q_field gfa42_2 rfl) ?_
  refine Zu (q_elf (s := r_0) gone9 rfl hz25_3 rfl) ?_
  refine Zu (q_slen Tryz.underlying9 rfl) ?_
  obtain ⟨b29, hS⟩ := gd_s hS
  refine Zu (q_add rfl rfl b29) ?_
  refine Zy ?_
  refine VC.keep [0, 3, 4] rfl ?_
  refine VC.cutJ (S := Bool) (fun (x45_4 : Bool) => x45_4) (fun (x45_4 : Bool) => [(0, r_0.val), (3, i64 (n3_1 + (z25_3.data.length : Int))), (4, i64 i4_2), (45, .bool x45_4)]) (fun (x45_4 : Bool) => Mo.tt) (fun (x45_4 : Bool) => Ow.emp) hS ?_ ?_
  ·
   clear hS
   intro k5 hS
   refine Zr ?_
   refine Zy ?_
   obtain ⟨z32_6, nz32_6, hz32_6, hS⟩ := at_s hS
   refine Zu (q_ixm (s := r_0) Tryz.underlying38 gsz42 rfl rfl nz32_6 (lt_of_get nz32_6 hz32_6)) ?_
   refine Zu (q_field gfa42_2 rfl) ?_
   refine Zu (q_elf (s := r_0) gone9 rfl hz32_6 rfl) ?_
   refine Zu (q_slen Tryz.underlying9 rfl) ?_
   refine Zu (q_gtr rfl rfl) ?_
   refine Zm ?_
   refine Zsp 37 hS (fun h37 hS => ?_) (fun h37 hS => ?_)
   ·
    refine Zy ?_
    obtain ⟨z40_7, nz40_7, hz40_7, hS⟩ := at_s hS
    refine Zh (q_ixm (s := r_0) Tryz.underlying38 gsz42 rfl rfl nz40_7 (lt_of_get nz40_7 hz40_7)) ?_
    refine Zh (q_field gfa42_2 rfl) ?_
    refine Zh (q_elf (s := r_0) gone9 rfl hz40_7 rfl) ?_
    refine Zh (q_slen Tryz.underlying9 rfl) ?_
    refine Zh (q_leq rfl rfl) ?_
    refine Zt ?_
    refine VL.mt (decide ((z40_7.data.length : Int) ≤ 4096)) [0, 3, 4, 45] (fun _ _ h => h) hS rfl
   refine Zy ?_
   refine VL.mt false [0, 3, 4, 45] (fun _ _ h => h) hS rfl
  clear hS
  rintro x45_4 hS
  refine Zcb hS (fun h45 hS => ?_) (fun h45 hS => ?_)
  ·
   refine Zq (Zr ?_)
   refine Zy ?_
   replace hS := up2 hS hK1
   cases hS
   exact Ze
  refine Zk ?_
  refine Zr ?_
  refine Zm ?_
  obtain ⟨b21, hS⟩ := gd_s hS
  refine Zu (q_add rfl rfl b21) ?_
  refine Za ?_
  refine VL.rnd ((n3_1 + (z25_3.data.length : Int)), (i4_2 + 1)) [0, 3, 4] (fun _ _ h => h) (go2 hS hK1) rfl
 replace hS := up2 hS hK1
 refine Zx ?_
 refine Zq (Zr ?_)
 refine Zm ?_
 refine Zu (q_leq rfl rfl) ?_
 refine Zm ?_
 refine Zsp 48 hS (fun h48 hS => ?_) (fun h48 hS => ?_)
 ·
  refine Zy ?_
  refine VC.keep [2] rfl ?_
  cases hS
  exact Ze
 refine Zg ?_
 refine Zh (q_gtr rfl rfl) ?_
 refine Zy ?_
 refine VC.keep [2] rfl ?_
 cases hS
 exact Ze
theorem l14_Of_ct (r_0 : Sv FilesFile) {r : List Rectoref14File} (hS : Sh.l14_Of r_0.l = some r) :
 Ct Tryz.prog 18 [r_0.val] r_0.ok (Ow.emp) (X := Sv Rectoref14File) (fun x => x.val) (fun x => r = x.l) (fun x => Mo.tt) (fun x => Sv.own x 45) := by
 refine Zo Tryz.func18 Tryz.ntmps18 fun c => ?_
 unfold Sh.l14_Of at hS
 refine Zq (Zr ?_)
 refine Zy ?_
 refine Zq (Zr ?_)
 refine Zy ?_
 refine Zq (Zq (Zr ?_))
 refine Zy ?_
 refine Zb ?_
 refine VC.nilO (⟨none, 0, []⟩ : Sv Rectoref14File) 45 ⟨rfl, rfl⟩ ?_
 refine VC.iter (S := Sv Rectoref14File × Int) (fun sg => (sg.1.l, sg.2)) (fun sg => [(0, r_0.val), (3, sg.1.val), (4, i64 sg.2)]) (fun sg => Mo.tt) (fun sg => Ow.star (Sv.own sg.1 45) (Ow.emp)) (⟨none, 0, []⟩, 0) [0, 3, 4] hS rfl ?_
 clear hS
 rintro ⟨out3_1, i4_2⟩ m1 y1 hS hK1
 refine Zq (Zq (Zr ?_))
 refine Zy ?_
 refine Zu (q_ln (s := r_0) Tryz.underlying38 rfl) ?_
 refine Zu (q_lss rfl rfl) ?_
 refine Zl ?_
 refine Zc hS (fun h8 hS => ?_) (fun h8 hS => ?_)
 ·
  refine Zk ?_
  refine Zq (Zb ?_)
  refine VC.draw [(0, true), (1, true), (2, true), (3, true), (4, true), (5, true), (6, true), (7, true), (8, true), (9, true), (10, true), (11, true), (12, true), (13, true), (14, true), (15, true), (16, true), (17, false), (18, false), (19, true)] mixed (by kernel_rfl) (by kernel_rfl) (by kernel_rfl) ?_
  refine Zw rfl (q_move rfl) ?_
  refine Zw rfl (q_move rfl) ?_
  refine Zw rfl (q_move rfl) ?_
  obtain ⟨z14_3, nz14_3, hz14_3, hS⟩ := at_s hS
  refine Zw rfl (q_ixm (s := r_0) Tryz.underlying38 gsz42 rfl rfl nz14_3 (lt_of_get nz14_3 hz14_3)) ?_
  refine Zw rfl (q_field gfa42_0 rfl) ?_
  refine Zw rfl (q_elf (s := r_0) gone9 rfl hz14_3 rfl) ?_
  refine Zw rfl (q_move rfl) ?_
  refine Zw rfl (q_move rfl) ?_
  obtain ⟨z19_4, nz19_4, hz19_4, hS⟩ := at_s hS
  refine Zw rfl (q_ixm (s := r_0) Tryz.underlying38 gsz42 rfl rfl nz19_4 (lt_of_get nz19_4 hz19_4)) ?_
  refine Zw rfl (q_field gfa42_1 rfl) ?_
  refine Zw rfl (q_elf (s := r_0) gone3 rfl hz19_4 rfl) ?_
  refine Zw rfl (q_move rfl) ?_
  refine Zw rfl (q_move rfl) ?_
  obtain ⟨z24_5, nz24_5, hz24_5, hS⟩ := at_s hS
  refine Zw rfl (q_ixm (s := r_0) Tryz.underlying38 gsz42 rfl rfl nz24_5 (lt_of_get nz24_5 hz24_5)) ?_
  refine Zw rfl (q_field gfa42_2 rfl) ?_
  refine Zw rfl (q_elf (s := r_0) gone9 rfl hz24_5 rfl) ?_
  refine Zw rfl (q_build (vs := [(0, str z14_3.path), (1, i64 z19_4.mode), (2, str z24_5.data)]) (cs := #[str z14_3.path, i64 z19_4.mode, str z24_5.data]) rfl (by kernel_rfl)) ?_
  refine VD.one rfl ?_
  refine VL.lit (α := Rectoref14File) (xs := [.tmp 27]) (vs := [.agg #[str z14_3.path, i64 z19_4.mode, str z24_5.data]]) [⟨z14_3.path, z19_4.mode, z24_5.data⟩] Tryz.underlying48 glit45 (by decide) rfl rfl rfl rfl (by decide) (fun _ _ _ _ => trivial) (by decide) (fun s28_6 hs28_6 => ?_) (by decide)
  replace hS := lt_to hs28_6 hS
  refine VL.back (D' := []) (by kernel_rfl) (Pend.nil) ?_
  refine VD.one rfl ?_
  obtain ⟨b29, hS⟩ := gd_s hS
  refine VL.app (s := out3_1) (r := s28_6) Tryz.underlying48 gapp45 (by decide) rfl Fo.out (ap1 b29) (ap2 b29 (by decide)) (by decide) (fun s29_8 hs29_8 => ?_)
  replace hS := lt_to hs29_8 hS
  refine VL.back (D' := []) (by kernel_rfl) (Pend.nil) ?_
  refine Zw rfl (q_assign rfl) ?_
  refine VD.to (fun _ _ h => h) ?_
  refine VC.keep [0, 3, 4] rfl ?_
  refine Zr ?_
  refine Zm ?_
  obtain ⟨b10, hS⟩ := gd_s hS
  refine Zu (q_add rfl rfl b10) ?_
  refine Za ?_
  refine VL.rnd (s29_8, (i4_2 + 1)) [0, 3, 4] (fun _ _ h => h) (go2 hS hK1) rfl
 replace hS := up2 hS hK1
 refine Zx ?_
 refine Zq (Zr ?_)
 refine Zy ?_
 cases hS
 exact VC.ret (fin1 (.inr rfl) rfl rfl out3_1 rfl rfl (by (try dsimp only); exact InM.out) (by (try dsimp only); exact EntO.out))
theorem r14_Get_ct (r_0 : Sv Rectoref14File) (p_1 : Str) {r : Rectoref14File × Bool} (hS : Sh.r14_Get r_0.l p_1 = some r) :
 Ct Tryz.prog 24 [r_0.val, str p_1] r_0.ok (Ow.emp) (X := Unit) (fun _ => .tuple #[.agg #[str r.1.path, i64 r.1.mode, str r.1.data], .bool r.2]) (fun _ => True) (fun _ => Mo.tt) (fun _ => Ow.emp) := by
 refine Zo Tryz.func24 Tryz.ntmps24 fun c => ?_
 unfold Sh.r14_Get at hS
 refine Zq (Zr ?_)
 refine VL.alloc (cs := [str [], i64 0, str []]) (by kernel_rfl) (by decide) fun b4_1 => ?_
 refine Zy ?_
 refine Zq (Zq (Zr ?_))
 refine Zy ?_
 refine Zb ?_
 refine VC.iter (S := Int) (fun (i6_2 : Int) => i6_2) (fun (i6_2 : Int) => [(0, r_0.val), (1, str p_1), (4, ptr b4_1 0), (6, i64 i6_2)]) (fun (i6_2 : Int) => Mo.tt) (fun (i6_2 : Int) => Ow.star (Blk b4_1 [str [], i64 0, str []] 45) (Ow.emp)) 0 [0, 1, 4, 6] hS rfl ?_
 clear hS
 rintro i6_2 m1 y1 hS hK1
 refine Zq (Zq (Zr ?_))
 refine Zy ?_
 refine Zu (q_ln (s := r_0) Tryz.underlying48 rfl) ?_
 refine Zu (q_lss rfl rfl) ?_
 refine Zl ?_
 refine Zc hS (fun h10 hS => ?_) (fun h10 hS => ?_)
 ·
  refine Zk ?_
  refine Zq (Zb (Zq (Zr ?_)))
  refine Zy ?_
  obtain ⟨z15_3, nz15_3, hz15_3, hS⟩ := at_s hS
  refine Zu (q_ixm (s := r_0) Tryz.underlying48 gsz45 rfl rfl nz15_3 (lt_of_get nz15_3 hz15_3)) ?_
  refine Zu (q_field gfa45_0 rfl) ?_
  refine Zu (q_elf (s := r_0) gone9 rfl hz15_3 rfl) ?_
  refine Zy ?_
  refine VC.keep [0, 1, 4, 6, 19] rfl ?_
  refine Zc hS (fun h19 hS => ?_) (fun h19 hS => ?_)
  ·
   refine Zq (Zr ?_)
   refine Zy ?_
   obtain ⟨z22_4, nz22_4, hz22_4, hS⟩ := at_s hS
   refine Zu (q_ixm (s := r_0) Tryz.underlying48 gsz45 rfl rfl nz22_4 (lt_of_get nz22_4 hz22_4)) ?_
   refine Zu (q_els (s := r_0) gagg45 rfl rfl hz22_4) ?_
   refine Zv (vc := [str z22_4.path, i64 z22_4.mode, str z22_4.data]) (cs' := [str z22_4.path, i64 z22_4.mode, str z22_4.data]) rfl gsz45 ?_
   refine Zy ?_
   replace hS := up2 hS hK1
   cases hS
   exact VC.ret (finG (vs := [.agg #[str z22_4.path, i64 z22_4.mode, str z22_4.data], .bool true]) (.inr rfl) rfl (RVs.cell gagg45 rfl rfl Rd.blk (RVs.tmp rfl (RVs.nil))) () rfl trivial (by (try dsimp only); exact InM.out) (fun _ _ => trivial))
  refine Zk ?_
  refine Zr ?_
  refine Zm ?_
  obtain ⟨b12, hS⟩ := gd_s hS
  refine Zu (q_add rfl rfl b12) ?_
  refine Za ?_
  refine VL.rnd (i6_2 + 1) [0, 1, 4, 6] (fun _ _ h => h) (go2 hS hK1) rfl
 replace hS := up2 hS hK1
 refine Zx ?_
 refine Zq (Zr ?_)
 refine Zu (q_build (vs := []) (cs := #[str [], i64 0, str []]) rfl (by kernel_rfl)) ?_
 refine Zv (vc := [str [], i64 0, str []]) (cs' := [str [], i64 0, str []]) rfl gsz45 ?_
 refine Zy ?_
 cases hS
 exact VC.ret (finG (vs := [.agg #[str [], i64 0, str []], .bool false]) (.inr rfl) rfl (RVs.cell gagg45 rfl rfl Rd.blk (RVs.tmp rfl (RVs.nil))) () rfl trivial (by (try dsimp only); exact InM.out) (fun _ _ => trivial))
theorem r14_Like_ct (a_0 : Sv Rectoref14File) (b_1 : Sv Rectoref14File) (p_2 : Str) {r : Bool} (hS : Sh.r14_Like a_0.l b_1.l p_2 = some r) :
 Ct Tryz.prog 62 [a_0.val, b_1.val, str p_2] (a_0.ok.and b_1.ok) (Ow.emp) (X := Unit) (fun _ => .bool r) (fun _ => True) (fun _ => Mo.tt) (fun _ => Ow.emp) := by
 refine Zo Tryz.func62 Tryz.ntmps62 fun c => ?_
 unfold Sh.r14_Like at hS
 refine Zq (Zr ?_)
 refine Zy ?_
 refine Zq (Zr ?_)
 refine Zy ?_
 obtain ⟨y14_1, ey14_1, hS⟩ := bd_s hS
 refine Zu (q_call (r14_Get_ct a_0 p_2 ey14_1) rfl (fun _ _ => rfl)) ?_
 refine Zm ?_
 refine Zu (q_extract rfl rfl) ?_
 refine Zu (q_extract rfl rfl) ?_
 refine VL.alloc (cs := [str [], i64 0, str []]) (by kernel_rfl) (by decide) fun b7_2 => ?_
 refine Zv (vc := [str y14_1.1.path, i64 y14_1.1.mode, str y14_1.1.data]) (cs' := [str y14_1.1.path, i64 y14_1.1.mode, str y14_1.1.data]) rfl gsz45 ?_
 refine Zy ?_
 refine VC.keep [1, 2, 7, 8] rfl ?_
 refine Zq (Zr ?_)
 refine Zy ?_
 obtain ⟨y20_3, ey20_3, hS⟩ := bd_s hS
 refine Zu (q_call (r14_Get_ct b_1 p_2 ey20_3) rfl (fun _ _ => rfl)) ?_
 refine Zm ?_
 refine Zu (q_extract rfl rfl) ?_
 refine Zu (q_extract rfl rfl) ?_
 refine VL.alloc (cs := [str [], i64 0, str []]) (by kernel_rfl) (by decide) fun b9_4 => ?_
 refine Zv (vc := [str y20_3.1.path, i64 y20_3.1.mode, str y20_3.1.data]) (cs' := [str y20_3.1.path, i64 y20_3.1.mode, str y20_3.1.data]) rfl gsz45 ?_
 refine Zy ?_
 refine VC.keep [7, 8, 9, 10] rfl ?_
 refine Zq (Zr ?_)
 refine Zy ?_
 refine Zu (q_beql Tryz.underlying4 rfl rfl) ?_
 refine Zm ?_
 refine Zsp 26 hS (fun h26 hS => ?_) (fun h26 hS => ?_)
 ·
  refine Zh (q_fes gagg45 rfl rfl) ?_
  refine Zh (q_fes gagg45 rfl rfl) ?_
  refine Zh (q_steql geqg45 (geqs45 y14_1.1.path y14_1.1.mode y14_1.1.data y20_3.1.path y20_3.1.mode y20_3.1.data) rfl rfl) ?_
  refine Zy ?_
  refine VC.keep [6] rfl ?_
  cases hS
  exact Ze
 refine Zy ?_
 refine VC.keep [6] rfl ?_
 cases hS
 exact Ze
theorem r11_Split_ct (s_0 : Str) {r : List Str} (hS : Sh.r11_Split s_0 = some r) :
 Ct Tryz.prog 187 [str s_0] Mo.tt (Ow.emp) (X := Sv Str) (fun x => x.val) (fun x => r = x.l) (fun x => Mo.tt) (fun x => Sv.own x 9) := by
 refine Zo Tryz.func187 Tryz.ntmps187 fun c => ?_
 unfold Sh.r11_Split at hS
 refine Zq (Zr ?_)
 refine Zy ?_
 refine Zq (Zr ?_)
 refine Zy ?_
 refine Zq (Zr ?_)
 refine Zy ?_
 refine Zq (Zq (Zr ?_))
 refine Zy ?_
 refine Zb ?_
 refine VC.nilO (⟨none, 0, []⟩ : Sv Str) 9 ⟨rfl, rfl⟩ ?_
 refine VC.iter (S := Sv Str × Int × Int) (fun sg => (sg.1.l, sg.2.1, sg.2.2)) (fun sg => [(0, str s_0), (3, sg.1.val), (4, i64 sg.2.1), (5, i64 sg.2.2)]) (fun sg => Mo.tt) (fun sg => Ow.star (Sv.own sg.1 9) (Ow.emp)) (⟨none, 0, []⟩, 0, 0) [0, 3, 4, 5] hS rfl ?_
 clear hS
 rintro ⟨out3_1, from4_2, i5_3⟩ m1 y1 hS hK1
 refine Zq (Zq (Zr ?_))
 refine Zy ?_
 refine Zu (q_slen Tryz.underlying9 rfl) ?_
 refine Zu (q_lss rfl rfl) ?_
 refine Zl ?_
 refine Zc hS (fun h9 hS => ?_) (fun h9 hS => ?_)
 ·
  refine Zk ?_
  refine VC.cutJ (S := Sv Str × Int) (fun sg => (sg.1.l, sg.2)) (fun sg => [(0, str s_0), (3, sg.1.val), (4, i64 sg.2), (5, i64 i5_3)]) (fun sg => Mo.tt) (fun sg => Ow.star (Sv.own sg.1 9) (Ow.emp)) hS ?_ ?_
  ·
   clear hS
   intro k6 hS
   refine Zb (Zq (Zr ?_))
   refine Zy ?_
   obtain ⟨z14_7, nz14_7, hz14_7, hS⟩ := at_s hS
   refine Zu (q_sidx Tryz.underlying9 rfl rfl nz14_7 hz14_7) ?_
   refine Zu (q_eql rfl rfl) ?_
   refine Zl ?_
   refine VC.keep [0, 3, 4, 5, 15] rfl ?_
   refine Zc hS (fun h15 hS => ?_) (fun h15 hS => ?_)
   ·
    refine Zq (Zr ?_)
    refine Zy ?_
    obtain ⟨b20, hS⟩ := gd_s hS
    refine Zu (q_add rfl rfl b20) ?_
    obtain ⟨b21, hS⟩ := gd_s hS
    obtain ⟨y21_8, ey21_8, hS⟩ := lt_s hS
    refine Zu (q_smidE Tryz.underlying9 rfl rfl rfl b21.1 b21.2.1 b21.2.2 ey21_8) ?_
    refine VL.lit (α := Str) (xs := [.tmp 21]) (vs := [str y21_8]) [y21_8] Tryz.underlying82 glit9 (by decide) rfl rfl rfl rfl (by decide) (fun _ _ _ _ => trivial) (by decide) (fun s22_9 hs22_9 => ?_) (by decide)
    replace hS := lt_to hs22_9 hS
    obtain ⟨b23, hS⟩ := gd_s hS
    refine VL.app (s := out3_1) (r := s22_9) Tryz.underlying82 gapp9 (by decide) rfl Fo.out (ap1 b23) (ap2 b23 (by decide)) (by decide) (fun s23_11 hs23_11 => ?_)
    replace hS := lt_to hs23_11 hS
    refine Zy ?_
    refine VC.keep [0, 3, 5] rfl ?_
    refine Zr ?_
    refine Zm ?_
    obtain ⟨b25, hS⟩ := gd_s hS
    refine Zu (q_add rfl rfl b25) ?_
    refine Za ?_
    refine VL.mt (s23_11, (i5_3 + 1)) [0, 3, 4, 5] (fun _ _ h => h) hS rfl
   refine VC.skip_mt (out3_1, from4_2) [0, 3, 4, 5] (fun _ _ h => h) hS rfl
  clear hS
  rintro ⟨out3_4, from4_5⟩ hS
  refine Zr ?_
  refine Zm ?_
  obtain ⟨b11, hS⟩ := gd_s hS
  refine Zu (q_add rfl rfl b11) ?_
  refine Za ?_
  refine VL.rnd (out3_4, from4_5, (i5_3 + 1)) [0, 3, 4, 5] (fun _ _ h => h) (go2 hS hK1) rfl
 replace hS := up2 hS hK1
 refine Zx ?_
 refine Zq (Zq (Zr ?_))
 refine Zy ?_
 refine Zu (q_slen Tryz.underlying9 rfl) ?_
 refine Zu (q_lss rfl rfl) ?_
 refine Zl ?_
 refine VC.keep [0, 3, 4, 29] rfl ?_
 refine Zc hS (fun h29 hS => ?_) (fun h29 hS => ?_)
 ·
  refine Zr ?_
  refine Zy ?_
  obtain ⟨b33, hS⟩ := gd_s hS
  obtain ⟨y33_13, ey33_13, hS⟩ := lt_s hS
  refine Zu (q_sfromE Tryz.underlying9 rfl rfl b33.1 b33.2 ey33_13) ?_
  refine VL.lit (α := Str) (xs := [.tmp 33]) (vs := [str y33_13]) [y33_13] Tryz.underlying82 glit9 (by decide) rfl rfl rfl rfl (by decide) (fun _ _ _ _ => trivial) (by decide) (fun s34_14 hs34_14 => ?_) (by decide)
  replace hS := lt_to hs34_14 hS
  obtain ⟨b35, hS⟩ := gd_s hS
  refine VL.app (s := out3_1) (r := s34_14) Tryz.underlying82 gapp9 (by decide) rfl Fo.out (ap1 b35) (ap2 b35 (by decide)) (by decide) (fun s35_16 hs35_16 => ?_)
  replace hS := lt_to hs35_16 hS
  refine Zy ?_
  refine Zq (Zr ?_)
  refine Zy ?_
  refine VC.keep [2] rfl ?_
  cases hS
  exact VC.ret (fin1 (.inr rfl) rfl rfl s35_16 rfl rfl (by (try dsimp only); exact InM.out) (by (try dsimp only); exact EntO.out))
 refine Zk ?_
 refine Zq (Zr ?_)
 refine Zy ?_
 cases hS
 exact VC.ret (fin1 (.inr rfl) rfl rfl out3_1 rfl rfl (by (try dsimp only); exact InM.out) (by (try dsimp only); exact EntO.out))
theorem r3_At_ct (word_0 : Str) (at_1 : Int) (e_2 : Int) {r : Rectoref3WrongP} (hS : Sh.r3_At word_0 at_1 e_2 = some r) :
 Ct Tryz.prog 70 [str word_0, i64 at_1, i64 e_2] Mo.tt (Ow.emp) (X := Rectoref3Wrong) (fun x => .agg (Dat.enc x).toArray) (fun x => r = x.pl) (fun x => x.m) (fun x => Ow.emp) := by
 refine Zo Tryz.func70 Tryz.ntmps70 fun c => ?_
 unfold Sh.r3_At at hS
 refine Zq (Zr ?_)
 refine VL.alloc (cs := [.slice none 0 0, i64 0]) (by kernel_rfl) (by decide) fun b6_1 => ?_
 refine Zl ?_
 refine Zq (Zr ?_)
 refine Zy ?_
 refine Zu (q_build (vs := [(0, str word_0), (1, i64 at_1)]) (cs := #[str word_0, i64 at_1]) rfl (by kernel_rfl)) ?_
 refine VL.lit (α := Rectoref3Part) (xs := [.tmp 9]) (vs := [.agg #[str word_0, i64 at_1]]) [⟨word_0, at_1⟩] Tryz.underlying52 glit137 (by decide) rfl rfl rfl rfl (by decide) (fun _ _ _ _ => trivial) (by decide) (fun s10_2 hs10_2 => ?_) (by decide)
 replace hS := lt_to hs10_2 hS
 refine Zm ?_
 refine Zu (q_build (vs := [(0, s10_2.val), (1, i64 e_2)]) (cs := #[s10_2.val, i64 e_2]) rfl (by kernel_rfl)) ?_
 refine Zv (vc := [s10_2.val, i64 e_2]) (cs' := [s10_2.val, i64 e_2]) rfl gsz54 ?_
 refine Zl ?_
 cases hS
 exact VC.ret (finG (vs := [.agg #[s10_2.val, i64 e_2]]) (.inr rfl) rfl (RVs.cell gagg54 rfl rfl Rd.blk (RVs.nil)) ⟨s10_2, e_2⟩ rfl rfl (by (try dsimp only); exact InM.out) (fun _ _ => trivial))
theorem r11_long_ct (a_0 : Sv Str) (b_1 : Sv Str) {r : Rectoref3WrongP} (hS : Sh.r11_long a_0.l b_1.l = some r) :
 Ct Tryz.prog 268 [a_0.val, b_1.val] (a_0.ok.and b_1.ok) (Ow.emp) (X := Rectoref3Wrong) (fun x => .agg (Dat.enc x).toArray) (fun x => r = x.pl) (fun x => x.m) (fun x => Ow.emp) := by
 refine Zo Tryz.func268 Tryz.ntmps268 fun c => ?_
 unfold Sh.r11_long at hS
 refine Zq (Zr ?_)
 refine VL.alloc (cs := [.slice none 0 0, i64 0]) (by kernel_rfl) (by decide) fun b4_1 => ?_
 refine Zl ?_
 refine Zq (Zq (Zr ?_))
 refine Zm ?_
 refine Zu (q_ln (s := a_0) Tryz.underlying82 rfl) ?_
 refine Zu (q_gtr rfl rfl) ?_
 refine Zl ?_
 refine Zc hS (fun h7 hS => ?_) (fun h7 hS => ?_)
 ·
  refine Zq (Zr ?_)
  obtain ⟨y8_2, ey8_2, hS⟩ := bd_s hS
  refine VL.callF (r3_At_ct [108, 105, 110, 101, 115] 0 4 ey8_2) rfl (by decide) ?_
  rintro q8_2_0 rfl
  try dsimp only
  refine Zv (vc := [q8_2_0.parts.val, i64 q8_2_0.err]) (cs' := [q8_2_0.parts.val, i64 q8_2_0.err]) rfl gsz54 ?_
  refine Zl ?_
  cases hS
  exact VC.ret (finG (vs := [.agg #[q8_2_0.parts.val, i64 q8_2_0.err]]) (.inr rfl) rfl (RVs.cell gagg54 rfl rfl Rd.blk (RVs.nil)) ⟨q8_2_0.parts, q8_2_0.err⟩ rfl rfl (by (try dsimp only); exact InM.out) (fun _ _ => trivial))
 refine Zk ?_
 refine Zq (Zq (Zr ?_))
 refine Zm ?_
 refine Zu (q_ln (s := b_1) Tryz.underlying82 rfl) ?_
 refine Zu (q_gtr rfl rfl) ?_
 refine Zl ?_
 refine Zc hS (fun h11 hS => ?_) (fun h11 hS => ?_)
 ·
  refine Zq (Zr ?_)
  obtain ⟨y12_3, ey12_3, hS⟩ := bd_s hS
  refine VL.callF (r3_At_ct [108, 105, 110, 101, 115] 1 4 ey12_3) rfl (by decide) ?_
  rintro q12_3_0 rfl
  try dsimp only
  refine Zv (vc := [q12_3_0.parts.val, i64 q12_3_0.err]) (cs' := [q12_3_0.parts.val, i64 q12_3_0.err]) rfl gsz54 ?_
  refine Zl ?_
  cases hS
  exact VC.ret (finG (vs := [.agg #[q12_3_0.parts.val, i64 q12_3_0.err]]) (.inr rfl) rfl (RVs.cell gagg54 rfl rfl Rd.blk (RVs.nil)) ⟨q12_3_0.parts, q12_3_0.err⟩ rfl rfl (by (try dsimp only); exact InM.out) (fun _ _ => trivial))
 refine Zk ?_
 refine Zq (Zr ?_)
 refine Zu (q_build (vs := []) (cs := #[.slice none 0 0, i64 0]) rfl (by kernel_rfl)) ?_
 refine Zv (vc := [.slice none 0 0, i64 0]) (cs' := [.slice none 0 0, i64 0]) rfl gsz54 ?_
 refine Zl ?_
 cases hS
 exact VC.ret (finG (vs := [.agg #[.slice none 0 0, i64 0]]) (.inr rfl) rfl (RVs.cell gagg54 rfl rfl Rd.blk (RVs.nil)) ⟨⟨none, 0, []⟩, 0⟩ rfl rfl (by (try dsimp only); exact InM.out) (fun _ _ => trivial))
theorem r11_Lines_ct (a_0 : Sv Str) (b_1 : Sv Str) {r : List Rectoref11Edit × Rectoref3WrongP} (hS : Sh.r11_Lines a_0.l b_1.l = some r) :
 Ct Tryz.prog 232 [a_0.val, b_1.val] (a_0.ok.and b_1.ok) (Ow.emp) (X := Sv Rectoref11Edit × Rectoref3Wrong) (fun x => .tuple #[x.1.val, .agg (Dat.enc x.2).toArray]) (fun x => r = (x.1.l, x.2.pl)) (fun x => x.2.m) (fun x => Sv.own x.1 350) := by
 refine Zo Tryz.func232 Tryz.ntmps232 fun c => ?_
 unfold Sh.r11_Lines at hS
 refine Zq (Zr ?_)
 refine Za ?_
 refine VL.alloc (cs := [.slice none 0 0, i64 0]) (by kernel_rfl) (by decide) fun b5_1 => ?_
 refine Zl ?_
 refine Zq (Zr ?_)
 refine Zy ?_
 obtain ⟨y13_2, ey13_2, hS⟩ := bd_s hS
 refine VL.callF (r11_long_ct a_0 b_1 ey13_2) rfl (by decide) ?_
 rintro q13_2_0 rfl
 try dsimp only
 refine VL.alloc (cs := [.slice none 0 0, i64 0]) (by kernel_rfl) (by decide) fun b6_3 => ?_
 refine Zv (vc := [q13_2_0.parts.val, i64 q13_2_0.err]) (cs' := [q13_2_0.parts.val, i64 q13_2_0.err]) rfl gsz54 ?_
 refine Zl ?_
 refine Zq (Zq (Zr ?_))
 refine Zu (q_field gfa54_1 rfl) ?_
 refine Zu (q_fe gone3 rfl rfl) ?_
 refine Zu (q_neq rfl rfl) ?_
 refine Zl ?_
 refine Zcn hS (fun h16 hS => ?_) (fun h16 hS => ?_)
 ·
  refine Zq ?_
  refine VC.draw [(0, true), (1, true), (2, false)] mixed (by kernel_rfl) (by kernel_rfl) (by kernel_rfl) ?_
  refine Zw rfl (q_fes gagg54 rfl rfl) ?_
  refine Zw rfl (q_assign rfl) ?_
  refine VD.one rfl ?_
  refine Zv (vc := [q13_2_0.parts.val, i64 q13_2_0.err]) (cs' := [q13_2_0.parts.val, i64 q13_2_0.err]) rfl gsz54 ?_
  refine VL.back (D' := []) (by kernel_rfl) (Pend.nil) ?_
  refine VD.to (fun _ _ h => h) ?_
  refine VC.keep [4, 5] rfl ?_
  refine VC.nilO (⟨none, 0, []⟩ : Sv Rectoref11Edit) 350 ⟨rfl, rfl⟩ ?_
  cases hS
  exact VC.ret (finG (vs := [.slice none 0 0, .agg #[q13_2_0.parts.val, i64 q13_2_0.err]]) (.inr rfl) rfl (RVs.tmp rfl (RVs.cell gagg54 rfl rfl Rd.blk (RVs.nil))) (⟨none, 0, []⟩, ⟨q13_2_0.parts, q13_2_0.err⟩) rfl rfl (by (try dsimp only); exact InM.out) (by (try dsimp only); exact EntO.out))
 refine Zk ?_
 refine VC.keep [0, 1, 5, 6] rfl ?_
 refine Zq (Zr ?_)
 refine Zy ?_
 obtain ⟨y20_4, ey20_4, hS⟩ := bd_s hS
 refine VL.callF (common2_ct a_0 b_1 ey20_4) rfl (by decide) ?_
 rintro q20_4_0 rfl
 try dsimp only
 refine Zy ?_
 refine Zq (Zr ?_)
 refine Zy ?_
 refine Zq (Zr ?_)
 refine Zy ?_
 refine Zq (Zr ?_)
 refine Zy ?_
 refine VC.cutJ (S := Sv Rectoref11Edit) (fun (out8_5 : Sv Rectoref11Edit) => out8_5.l) (fun (out8_5 : Sv Rectoref11Edit) => [(5, ptr b5_1 0), (6, ptr b6_3 0), (8, out8_5.val)]) (fun (out8_5 : Sv Rectoref11Edit) => Mo.tt) (fun (out8_5 : Sv Rectoref11Edit) => Ow.star (Blk b6_3 [q13_2_0.parts.val, i64 q13_2_0.err] 54) (Ow.star (Blk b5_1 [.slice none 0 0, i64 0] 54) (Ow.star (Sv.own out8_5 350) (Ow.emp)))) hS ?_ ?_
 ·
  clear hS
  intro k6 hS
  refine Zb ?_
  refine VC.nilO (⟨none, 0, []⟩ : Sv Rectoref11Edit) 350 ⟨rfl, rfl⟩ ?_
  refine VC.iter (S := Sv Rectoref11Edit × Int × Int) (fun sg => (sg.1.l, sg.2.1, sg.2.2)) (fun sg => [(0, a_0.val), (1, b_1.val), (5, ptr b5_1 0), (6, ptr b6_3 0), (7, q20_4_0.val), (8, sg.1.val), (9, i64 sg.2.1), (10, i64 sg.2.2)]) (fun sg => Mo.tt) (fun sg => Ow.star (Blk b6_3 [q13_2_0.parts.val, i64 q13_2_0.err] 54) (Ow.star (Blk b5_1 [.slice none 0 0, i64 0] 54) (Ow.star (Sv.own sg.1 350) (Ow.emp)))) (⟨none, 0, []⟩, 0, 0) [0, 1, 5, 6, 7, 8, 9, 10] hS rfl ?_
  clear hS
  rintro ⟨out8_7, i9_8, j10_9⟩ m1 y1 hS hK1
  refine VC.cutJ (S := Unit) (fun (_ : Unit) => ()) (fun (_ : Unit) => [(0, a_0.val), (1, b_1.val), (5, ptr b5_1 0), (6, ptr b6_3 0), (7, q20_4_0.val), (8, out8_7.val), (9, i64 i9_8), (10, i64 j10_9)]) (fun (_ : Unit) => Mo.tt) (fun (_ : Unit) => Ow.star (Blk b6_3 [q13_2_0.parts.val, i64 q13_2_0.err] 54) (Ow.star (Blk b5_1 [.slice none 0 0, i64 0] 54) (Ow.star (Sv.own out8_7 350) (Ow.emp)))) hS ?_ ?_
  ·
   clear hS
   intro k10 hS
   refine Zq (Zr ?_)
   refine Zy ?_
   refine Zu (q_ln (s := a_0) Tryz.underlying82 rfl) ?_
   refine Zu (q_lss rfl rfl) ?_
   refine Zm ?_
   refine Zsp 25 hS (fun h25 hS => ?_) (fun h25 hS => ?_)
   ·
    refine Zy ?_
    refine VC.keep [0, 1, 5, 6, 7, 8, 9, 10, 30] rfl ?_
    refine VC.cond_t rfl ?_
    refine VC.skip_mt () [0, 1, 5, 6, 7, 8, 9, 10] (fun _ _ h => h) hS rfl
   refine Zy ?_
   refine Zh (q_ln (s := b_1) Tryz.underlying82 rfl) ?_
   refine Zh (q_lss rfl rfl) ?_
   refine Zy ?_
   refine VC.keep [0, 1, 5, 6, 7, 8, 9, 10, 30] rfl ?_
   refine Zc hS (fun h30 hS => ?_) (fun h30 hS => ?_)
   ·
    refine VC.skip_mt () [0, 1, 5, 6, 7, 8, 9, 10] (fun _ _ h => h) hS rfl
   replace hS := up2 hS hK1
   refine VC.exit_mt out8_7 [5, 6, 8] (fun _ _ h => h) hS rfl
  clear hS
  rintro _ hS
  refine Zb (Zb ?_)
  refine VC.cutJ (S := Bool) (fun (x41_11 : Bool) => x41_11) (fun (x41_11 : Bool) => [(0, a_0.val), (1, b_1.val), (5, ptr b5_1 0), (6, ptr b6_3 0), (7, q20_4_0.val), (8, out8_7.val), (9, i64 i9_8), (10, i64 j10_9), (41, .bool x41_11)]) (fun (x41_11 : Bool) => Mo.tt) (fun (x41_11 : Bool) => Ow.star (Blk b6_3 [q13_2_0.parts.val, i64 q13_2_0.err] 54) (Ow.star (Blk b5_1 [.slice none 0 0, i64 0] 54) (Ow.star (Sv.own out8_7 350) (Ow.emp)))) hS ?_ ?_
  ·
   clear hS
   intro k12 hS
   refine VC.draw ((List.range 22).map fun k => (k, true)) mixed (by kernel_rfl) (by kernel_rfl) (by kernel_rfl) ?_
   refine Zw rfl (q_move rfl) ?_
   refine Zw rfl (q_move rfl) ?_
   refine Zw rfl (q_ln (s := a_0) Tryz.underlying82 rfl) ?_
   refine Zw rfl (q_lss rfl rfl) ?_
   refine Zw rfl (q_move rfl) ?_
   refine VD.split_dec 46 rfl (fun h46 => ?_) (fun h46 => ?_)
   ·
    replace hS := it_t h46 hS
    refine Zi rfl (q_move rfl) ?_
    refine Zi rfl (q_move rfl) ?_
    refine Zi rfl (q_ln (s := b_1) Tryz.underlying82 rfl) ?_
    refine Zi rfl (q_lss rfl rfl) ?_
    refine Zw rfl (q_pick_t rfl rfl) ?_
    refine Zw rfl (q_move rfl) ?_
    refine VD.split_dec 52 rfl (fun h52 => ?_) (fun h52 => ?_)
    ·
     replace hS := it_t h52 hS
     refine Zi rfl (q_move rfl) ?_
     refine Zi rfl (q_move rfl) ?_
     obtain ⟨z55_13, nz55_13, hz55_13, hS⟩ := at_s hS
     refine Zi rfl (q_ixm (s := a_0) Tryz.underlying82 gsz9 rfl rfl nz55_13 (lt_of_get nz55_13 hz55_13)) ?_
     refine Zi rfl (q_el (s := a_0) gone9 rfl hz55_13 rfl) ?_
     refine Zi rfl (q_move rfl) ?_
     refine Zi rfl (q_move rfl) ?_
     obtain ⟨z59_14, nz59_14, hz59_14, hS⟩ := at_s hS
     refine Zi rfl (q_ixm (s := b_1) Tryz.underlying82 gsz9 rfl rfl nz59_14 (lt_of_get nz59_14 hz59_14)) ?_
     refine Zi rfl (q_el (s := b_1) gone9 rfl hz59_14 rfl) ?_
     refine Zi rfl (q_seq rfl rfl) ?_
     refine Zw rfl (q_pick_t rfl rfl) ?_
     refine Zw rfl (q_assign rfl) ?_
     refine VD.mt (decide (z55_13 = z59_14)) [0, 1, 5, 6, 7, 8, 9, 10, 41] (fun _ _ h => h) hS rfl
    replace hS := it_f h52 hS
    refine Zd ?_
    refine Zd ?_
    refine Zd ?_
    refine Zd ?_
    refine Zd ?_
    refine Zd ?_
    refine Zd ?_
    refine Zd ?_
    refine Zd ?_
    refine Zw rfl (q_pick_f rfl rfl) ?_
    refine Zw rfl (q_assign rfl) ?_
    refine VD.mt false [0, 1, 5, 6, 7, 8, 9, 10, 41] (fun _ _ h => h) hS rfl
   replace hS := it_f h46 hS
   refine Zd ?_
   refine Zd ?_
   refine Zd ?_
   refine Zd ?_
   refine Zw rfl (q_pick_f rfl rfl) ?_
   refine Zw rfl (q_move rfl) ?_
   refine Zd ?_
   refine Zd ?_
   refine Zd ?_
   refine Zd ?_
   refine Zd ?_
   refine Zd ?_
   refine Zd ?_
   refine Zd ?_
   refine Zd ?_
   refine Zw rfl (q_pick_f rfl rfl) ?_
   refine Zw rfl (q_assign rfl) ?_
   refine VD.mt false [0, 1, 5, 6, 7, 8, 9, 10, 41] (fun _ _ h => h) hS rfl
  clear hS
  rintro x41_11 hS
  refine Zcb hS (fun h41 hS => ?_) (fun h41 hS => ?_)
  ·
   refine Zq (Zr ?_)
   refine Zy ?_
   obtain ⟨z66_15, nz66_15, hz66_15, hS⟩ := at_s hS
   refine Zu (q_ixm (s := a_0) Tryz.underlying82 gsz9 rfl rfl nz66_15 (lt_of_get nz66_15 hz66_15)) ?_
   refine Zu (q_el (s := a_0) gone9 rfl hz66_15 rfl) ?_
   refine Zu (q_build (vs := [(0, i64 1), (1, str z66_15)]) (cs := #[i64 1, str z66_15]) rfl (by kernel_rfl)) ?_
   refine VL.lit (α := Rectoref11Edit) (xs := [.tmp 68]) (vs := [.agg #[i64 1, str z66_15]]) [⟨1, z66_15⟩] Tryz.underlying314 glit350 (by decide) rfl rfl rfl rfl (by decide) (fun _ _ _ _ => trivial) (by decide) (fun s69_16 hs69_16 => ?_) (by decide)
   replace hS := lt_to hs69_16 hS
   obtain ⟨b70, hS⟩ := gd_s hS
   refine VL.app (s := out8_7) (r := s69_16) Tryz.underlying314 gapp350 (by decide) rfl Fo.out (ap1 b70) (ap2 b70 (by decide)) (by decide) (fun s70_18 hs70_18 => ?_)
   replace hS := lt_to hs70_18 hS
   refine Zy ?_
   refine VC.keep [0, 1, 5, 6, 7, 8, 9, 10] rfl ?_
   refine Zq (Zr ?_)
   refine Zm ?_
   obtain ⟨b72, hS⟩ := gd_s hS
   refine Zu (q_add rfl rfl b72) ?_
   refine Zy ?_
   refine Zr ?_
   refine Zm ?_
   obtain ⟨b74, hS⟩ := gd_s hS
   refine Zu (q_add rfl rfl b74) ?_
   refine Za ?_
   refine VL.rnd (s70_18, (i9_8 + 1), (j10_9 + 1)) [0, 1, 5, 6, 7, 8, 9, 10] (fun _ _ h => h) (go2 hS hK1) rfl
  refine VC.cutJ (S := Bool) (fun (x75_20 : Bool) => x75_20) (fun (x75_20 : Bool) => [(0, a_0.val), (1, b_1.val), (5, ptr b5_1 0), (6, ptr b6_3 0), (7, q20_4_0.val), (8, out8_7.val), (9, i64 i9_8), (10, i64 j10_9), (75, .bool x75_20)]) (fun (x75_20 : Bool) => Mo.tt) (fun (x75_20 : Bool) => Ow.star (Blk b6_3 [q13_2_0.parts.val, i64 q13_2_0.err] 54) (Ow.star (Blk b5_1 [.slice none 0 0, i64 0] 54) (Ow.star (Sv.own out8_7 350) (Ow.emp)))) hS ?_ ?_
  ·
   clear hS
   intro k21 hS
   refine VC.draw ((List.range 30).map fun k => (k, true)) mixed (by kernel_rfl) (by kernel_rfl) (by kernel_rfl) ?_
   refine Zw rfl (q_move rfl) ?_
   refine Zw rfl (q_move rfl) ?_
   refine Zw rfl (q_ln (s := a_0) Tryz.underlying82 rfl) ?_
   refine Zw rfl (q_lss rfl rfl) ?_
   refine Zw rfl (q_move rfl) ?_
   refine VD.split_dec 80 rfl (fun h80 => ?_) (fun h80 => ?_)
   ·
    replace hS := it_t h80 hS
    refine Zi rfl (q_move rfl) ?_
    refine Zi rfl (q_move rfl) ?_
    refine Zi rfl (q_ln (s := b_1) Tryz.underlying82 rfl) ?_
    refine Zi rfl (q_eql rfl rfl) ?_
    refine Zi rfl (q_move rfl) ?_
    refine VD.split_dec 85 rfl (fun h85 => ?_) (fun h85 => ?_)
    ·
     replace hS := it_t h85 hS
     refine Zd ?_
     refine Zd ?_
     refine Zd ?_
     refine Zd ?_
     refine Zd ?_
     refine Zd ?_
     refine Zd ?_
     refine Zd ?_
     refine Zd ?_
     refine Zd ?_
     refine Zd ?_
     refine Zd ?_
     refine Zd ?_
     refine Zd ?_
     refine Zd ?_
     refine Zd ?_
     refine Zd ?_
     refine Zi rfl (q_pick_t rfl rfl) ?_
     refine Zw rfl (q_pick_t rfl rfl) ?_
     refine Zw rfl (q_assign rfl) ?_
     refine VD.mt true [0, 1, 5, 6, 7, 8, 9, 10, 75] (fun _ _ h => h) hS rfl
    replace hS := it_f h85 hS
    refine Zi rfl (q_move rfl) ?_
    refine Zi rfl (q_move rfl) ?_
    obtain ⟨b88, hS⟩ := gd_s hS
    refine Zi rfl (q_add rfl rfl b88) ?_
    obtain ⟨z89_22, nz89_22, hz89_22, hS⟩ := atm_s hS
    refine VD.deep z89_22.ok hz89_22 (fun _ q => q) ?_
    refine Zi rfl (q_ixm (s := q20_4_0) Tryz.underlying347 gsz26 rfl rfl nz89_22 (lt_of_get nz89_22 hz89_22)) ?_
    refine Zi rfl (q_el (s := q20_4_0) gone26 rfl hz89_22 rfl) ?_
    refine Zi rfl (q_move rfl) ?_
    obtain ⟨z92_23, nz92_23, hz92_23, hS⟩ := at_s hS
    refine Zi rfl (q_ixm (s := z89_22) Tryz.underlying26 gsz3 rfl rfl nz92_23 (lt_of_get nz92_23 hz92_23)) ?_
    refine Zi rfl (q_el (s := z89_22) gone3 rfl hz92_23 rfl) ?_
    refine Zi rfl (q_move rfl) ?_
    refine Zi rfl (q_move rfl) ?_
    obtain ⟨z96_24, nz96_24, hz96_24, hS⟩ := atm_s hS
    refine VD.deep z96_24.ok hz96_24 (fun _ q => q) ?_
    refine Zi rfl (q_ixm (s := q20_4_0) Tryz.underlying347 gsz26 rfl rfl nz96_24 (lt_of_get nz96_24 hz96_24)) ?_
    refine Zi rfl (q_el (s := q20_4_0) gone26 rfl hz96_24 rfl) ?_
    refine Zi rfl (q_move rfl) ?_
    obtain ⟨b99, hS⟩ := gd_s hS
    refine Zi rfl (q_add rfl rfl b99) ?_
    obtain ⟨z100_25, nz100_25, hz100_25, hS⟩ := at_s hS
    refine Zi rfl (q_ixm (s := z96_24) Tryz.underlying26 gsz3 rfl rfl nz100_25 (lt_of_get nz100_25 hz100_25)) ?_
    refine Zi rfl (q_el (s := z96_24) gone3 rfl hz100_25 rfl) ?_
    refine Zi rfl (q_geq rfl rfl) ?_
    refine Zi rfl (q_pick_f rfl rfl) ?_
    refine Zw rfl (q_pick_t rfl rfl) ?_
    refine Zw rfl (q_assign rfl) ?_
    refine VD.mt (decide (z100_25 ≤ z92_23)) [0, 1, 5, 6, 7, 8, 9, 10, 75] (fun _ _ h => h) hS rfl
   replace hS := it_f h80 hS
   refine Zd ?_
   refine Zd ?_
   refine Zd ?_
   refine Zd ?_
   refine Zd ?_
   refine VD.gu rfl rfl rfl (by decide) ?_
   refine VD.gu rfl rfl rfl (by decide) ?_
   refine VD.gu rfl rfl rfl (by decide) ?_
   refine VD.gu rfl rfl rfl (by decide) ?_
   refine VD.gu rfl rfl rfl (by decide) ?_
   refine VD.gu rfl rfl rfl (by decide) ?_
   refine VD.gu rfl rfl rfl (by decide) ?_
   refine VD.gu rfl rfl rfl (by decide) ?_
   refine VD.gu rfl rfl rfl (by decide) ?_
   refine VD.gu rfl rfl rfl (by decide) ?_
   refine VD.gu rfl rfl rfl (by decide) ?_
   refine VD.gu rfl rfl rfl (by decide) ?_
   refine VD.gu rfl rfl rfl (by decide) ?_
   refine VD.gu rfl rfl rfl (by decide) ?_
   refine VD.gu rfl rfl rfl (by decide) ?_
   refine VD.gu rfl rfl rfl (by decide) ?_
   refine VD.gu rfl rfl rfl (by decide) ?_
   refine Zd ?_
   refine Zw rfl (q_pick_f rfl rfl) ?_
   refine Zw rfl (q_assign rfl) ?_
   refine VD.mt false [0, 1, 5, 6, 7, 8, 9, 10, 75] (fun _ _ h => h) hS rfl
  clear hS
  rintro x75_20 hS
  refine Zcb hS (fun h75 hS => ?_) (fun h75 hS => ?_)
  ·
   refine Zq (Zr ?_)
   refine Zy ?_
   obtain ⟨z108_26, nz108_26, hz108_26, hS⟩ := at_s hS
   refine Zu (q_ixm (s := a_0) Tryz.underlying82 gsz9 rfl rfl nz108_26 (lt_of_get nz108_26 hz108_26)) ?_
   refine Zu (q_el (s := a_0) gone9 rfl hz108_26 rfl) ?_
   refine Zu (q_build (vs := [(0, i64 2), (1, str z108_26)]) (cs := #[i64 2, str z108_26]) rfl (by kernel_rfl)) ?_
   refine VL.lit (α := Rectoref11Edit) (xs := [.tmp 110]) (vs := [.agg #[i64 2, str z108_26]]) [⟨2, z108_26⟩] Tryz.underlying314 glit350 (by decide) rfl rfl rfl rfl (by decide) (fun _ _ _ _ => trivial) (by decide) (fun s111_27 hs111_27 => ?_) (by decide)
   replace hS := lt_to hs111_27 hS
   obtain ⟨b112, hS⟩ := gd_s hS
   refine VL.app (s := out8_7) (r := s111_27) Tryz.underlying314 gapp350 (by decide) rfl Fo.out (ap1 b112) (ap2 b112 (by decide)) (by decide) (fun s112_29 hs112_29 => ?_)
   replace hS := lt_to hs112_29 hS
   refine Zy ?_
   refine VC.keep [0, 1, 5, 6, 7, 8, 9, 10] rfl ?_
   refine Zr ?_
   refine Zm ?_
   obtain ⟨b114, hS⟩ := gd_s hS
   refine Zu (q_add rfl rfl b114) ?_
   refine Za ?_
   refine VL.rnd (s112_29, (i9_8 + 1), j10_9) [0, 1, 5, 6, 7, 8, 9, 10] (fun _ _ h => h) (go2 hS hK1) rfl
  refine Zq (Zr ?_)
  refine Zy ?_
  obtain ⟨z34_31, nz34_31, hz34_31, hS⟩ := at_s hS
  refine Zu (q_ixm (s := b_1) Tryz.underlying82 gsz9 rfl rfl nz34_31 (lt_of_get nz34_31 hz34_31)) ?_
  refine Zu (q_el (s := b_1) gone9 rfl hz34_31 rfl) ?_
  refine Zu (q_build (vs := [(0, i64 3), (1, str z34_31)]) (cs := #[i64 3, str z34_31]) rfl (by kernel_rfl)) ?_
  refine VL.lit (α := Rectoref11Edit) (xs := [.tmp 36]) (vs := [.agg #[i64 3, str z34_31]]) [⟨3, z34_31⟩] Tryz.underlying314 glit350 (by decide) rfl rfl rfl rfl (by decide) (fun _ _ _ _ => trivial) (by decide) (fun s37_32 hs37_32 => ?_) (by decide)
  replace hS := lt_to hs37_32 hS
  obtain ⟨b38, hS⟩ := gd_s hS
  refine VL.app (s := out8_7) (r := s37_32) Tryz.underlying314 gapp350 (by decide) rfl Fo.out (ap1 b38) (ap2 b38 (by decide)) (by decide) (fun s38_34 hs38_34 => ?_)
  replace hS := lt_to hs38_34 hS
  refine Zy ?_
  refine VC.keep [0, 1, 5, 6, 7, 8, 9, 10] rfl ?_
  refine Zr ?_
  refine Zm ?_
  obtain ⟨b40, hS⟩ := gd_s hS
  refine Zu (q_add rfl rfl b40) ?_
  refine Za ?_
  refine VL.rnd (s38_34, i9_8, (j10_9 + 1)) [0, 1, 5, 6, 7, 8, 9, 10] (fun _ _ h => h) (go2 hS hK1) rfl
 clear hS
 rintro out8_5 hS
 refine Zq ?_
 refine VC.draw [(0, true), (1, true), (2, true), (3, false)] mixed (by kernel_rfl) (by kernel_rfl) (by kernel_rfl) ?_
 refine Zw rfl (q_move rfl) ?_
 refine Zw rfl (q_fes gagg54 rfl rfl) ?_
 refine Zw rfl (q_assign rfl) ?_
 refine VD.one rfl ?_
 refine Zv (vc := [q13_2_0.parts.val, i64 q13_2_0.err]) (cs' := [q13_2_0.parts.val, i64 q13_2_0.err]) rfl gsz54 ?_
 refine VL.back (D' := []) (by kernel_rfl) (Pend.nil) ?_
 refine VD.to (fun _ _ h => h) ?_
 cases hS
 exact VC.ret (finG (vs := [out8_5.val, .agg #[q13_2_0.parts.val, i64 q13_2_0.err]]) (.inr rfl) rfl (RVs.tmp rfl (RVs.cell gagg54 rfl rfl Rd.blk (RVs.nil))) (out8_5, ⟨q13_2_0.parts, q13_2_0.err⟩) rfl rfl (by (try dsimp only); exact InM.out) (by (try dsimp only); exact EntO.out))
theorem r11_kept_ct (l_0 : Sv Rectoref11Edit) (n_1 : Int) {r : List Int} (hS : Sh.r11_kept l_0.l n_1 = some r) :
 Ct Tryz.prog 233 [l_0.val, i64 n_1] l_0.ok (Ow.emp) (X := Sv Int) (fun x => x.val) (fun x => r = x.l) (fun x => Mo.tt) (fun x => Sv.own x 3) := by
 refine Zo Tryz.func233 Tryz.ntmps233 fun c => ?_
 unfold Sh.r11_kept at hS
 refine Zq (Zr ?_)
 refine Zy ?_
 refine Zq (Zr ?_)
 refine Zm ?_
 obtain ⟨b10, hS⟩ := gd_s hS
 refine VL.make (α := Int) (z := 0) Tryz.underlying26 gmk3 (by decide) rfl rfl b10.1 (Int.le_refl _) (by omega) (by omega) (by decide) (fun s10_1 hs10_1 => ?_)
 replace hS := lt_to hs10_1 hS
 refine Zy ?_
 refine Zq (Zr ?_)
 refine Zy ?_
 refine Zq (Zr ?_)
 refine Zy ?_
 refine Zq (Zq (Zr ?_))
 refine Zy ?_
 refine Zb ?_
 refine VC.iter (S := Sv Int × Int × Int × Int) (fun sg => (sg.1.l, sg.2.1, sg.2.2.1, sg.2.2.2)) (fun sg => [(0, l_0.val), (5, sg.1.val), (6, i64 sg.2.1), (7, i64 sg.2.2.1), (8, i64 sg.2.2.2)]) (fun sg => Mo.tt) (fun sg => Ow.star (Sv.own sg.1 3) (Ow.emp)) (s10_1, 0, 0, 0) [0, 5, 6, 7, 8] hS rfl ?_
 clear hS
 rintro ⟨out5_3, i6_4, j7_5, k8_6⟩ m1 y1 hS hK1
 refine Zq (Zq (Zr ?_))
 refine Zy ?_
 refine Zu (q_ln (s := l_0) Tryz.underlying314 rfl) ?_
 refine Zu (q_lss rfl rfl) ?_
 refine Zl ?_
 refine Zc hS (fun h14 hS => ?_) (fun h14 hS => ?_)
 ·
  refine Zk ?_
  refine VC.cutJ (S := Sv Int × Int × Int) (fun sg => (sg.1.l, sg.2.1, sg.2.2)) (fun sg => [(0, l_0.val), (5, sg.1.val), (6, i64 sg.2.1), (7, i64 sg.2.2), (8, i64 k8_6)]) (fun sg => Mo.tt) (fun sg => Ow.star (Sv.own sg.1 3) (Ow.emp)) hS ?_ ?_
  ·
   clear hS
   intro k10 hS
   refine Zb (Zq (Zr ?_))
   refine Zy ?_
   obtain ⟨z19_11, nz19_11, hz19_11, hS⟩ := at_s hS
   refine Zu (q_ixm (s := l_0) Tryz.underlying314 gsz350 rfl rfl nz19_11 (lt_of_get nz19_11 hz19_11)) ?_
   refine Zu (q_field gfa350_0 rfl) ?_
   refine Zu (q_elf (s := l_0) gone3 rfl hz19_11 rfl) ?_
   refine Zl ?_
   refine VC.keep [0, 5, 6, 7, 8, 21] rfl ?_
   refine Zb (Zq (Zr ?_))
   refine Zu (q_eql rfl rfl) ?_
   refine Zy ?_
   refine Zc hS (fun h22 hS => ?_) (fun h22 hS => ?_)
   ·
    refine Zq (Zr ?_)
    refine Zy ?_
    obtain ⟨z27_12, nz27_12, hz27_12, hS⟩ := at_s hS
    refine Zu (q_ixo (s := out5_3) Tryz.underlying26 gsz3 rfl rfl nz27_12 (lt_of_get nz27_12 hz27_12)) ?_
    refine VL.storeE (s := out5_3) (T := 3) (j := 0) (vc := [i64 j7_5]) (j7_5 : Int) (by decide) rfl rfl hz27_12 rfl gsz3 rfl rfl (Nat.le_of_ble_eq_true rfl) rfl (fun w13 hw13 haw13 hcw13 hvw13 hbw13 how13 => ?_)
    rw [← hvw13]
    replace hS := lt_to hw13 hS
    refine Zl ?_
    refine VC.keep [0, 5, 6, 7, 8] rfl ?_
    refine Zq (Zr ?_)
    refine Zm ?_
    obtain ⟨b29, hS⟩ := gd_s hS
    refine Zu (q_add rfl rfl b29) ?_
    refine Zy ?_
    refine Zr ?_
    refine Zm ?_
    obtain ⟨b31, hS⟩ := gd_s hS
    refine Zu (q_add rfl rfl b31) ?_
    refine Za ?_
    refine VL.mt (w13, (i6_4 + 1), (j7_5 + 1)) [0, 5, 6, 7, 8] (fun _ _ h => h) hS rfl
   refine Zq (Zr ?_)
   refine Zu (q_eql rfl rfl) ?_
   refine Zy ?_
   refine Zc hS (fun h32 hS => ?_) (fun h32 hS => ?_)
   ·
    refine Zq (Zr ?_)
    refine Zy ?_
    obtain ⟨z36_15, nz36_15, hz36_15, hS⟩ := at_s hS
    refine Zu (q_ixo (s := out5_3) Tryz.underlying26 gsz3 rfl rfl nz36_15 (lt_of_get nz36_15 hz36_15)) ?_
    refine VL.storeE (s := out5_3) (T := 3) (j := 0) (vc := [i64 (-1)]) ((-1) : Int) (by decide) rfl rfl hz36_15 rfl gsz3 rfl rfl (Nat.le_of_ble_eq_true rfl) rfl (fun w16 hw16 haw16 hcw16 hvw16 hbw16 how16 => ?_)
    rw [← hvw16]
    replace hS := lt_to hw16 hS
    refine Zl ?_
    refine VC.keep [0, 5, 6, 7, 8] rfl ?_
    refine Zr ?_
    refine Zm ?_
    obtain ⟨b38, hS⟩ := gd_s hS
    refine Zu (q_add rfl rfl b38) ?_
    refine Za ?_
    refine VL.mt (w16, (i6_4 + 1), j7_5) [0, 5, 6, 7, 8] (fun _ _ h => h) hS rfl
   refine Zq (Zr ?_)
   refine Zu (q_eql rfl rfl) ?_
   refine Zy ?_
   refine Zc hS (fun h39 hS => ?_) (fun h39 hS => ?_)
   ·
    refine Zr ?_
    refine Zm ?_
    obtain ⟨b42, hS⟩ := gd_s hS
    refine Zu (q_add rfl rfl b42) ?_
    refine Za ?_
    refine VL.mt (out5_3, i6_4, (j7_5 + 1)) [0, 5, 6, 7, 8] (fun _ _ h => h) hS rfl
   refine VC.skip_mt (out5_3, i6_4, j7_5) [0, 5, 6, 7, 8] (fun _ _ h => h) hS rfl
  clear hS
  rintro ⟨out5_7, i6_8, j7_9⟩ hS
  refine Zr ?_
  refine Zm ?_
  obtain ⟨b16, hS⟩ := gd_s hS
  refine Zu (q_add rfl rfl b16) ?_
  refine Za ?_
  refine VL.rnd (out5_7, i6_8, j7_9, (k8_6 + 1)) [0, 5, 6, 7, 8] (fun _ _ h => h) (go2 hS hK1) rfl
 replace hS := up2 hS hK1
 refine Zx ?_
 refine Zq (Zr ?_)
 refine Zy ?_
 refine VC.keep [4] rfl ?_
 cases hS
 exact VC.ret (fin1 (.inr rfl) rfl rfl out5_3 rfl rfl (by (try dsimp only); exact InM.out) (by (try dsimp only); exact EntO.out))
theorem r11_Equal_ct (a_0 : Sv Str) (b_1 : Sv Str) {r : Bool} (hS : Sh.r11_Equal a_0.l b_1.l = some r) :
 Ct Tryz.prog 270 [a_0.val, b_1.val] (a_0.ok.and b_1.ok) (Ow.emp) (X := Unit) (fun _ => .bool r) (fun _ => True) (fun _ => Mo.tt) (fun _ => Ow.emp) := by
 refine Zo Tryz.func270 Tryz.ntmps270 fun c => ?_
 unfold Sh.r11_Equal at hS
 refine Zq (Zr ?_)
 refine Zy ?_
 refine Zq (Zq (Zr ?_))
 refine Zm ?_
 refine Zu (q_ln (s := a_0) Tryz.underlying82 rfl) ?_
 refine Zm ?_
 refine Zu (q_ln (s := b_1) Tryz.underlying82 rfl) ?_
 refine Zu (q_neq rfl rfl) ?_
 refine Zl ?_
 refine Zcn hS (fun h10 hS => ?_) (fun h10 hS => ?_)
 ·
  refine Zq (Zr ?_)
  refine Zy ?_
  cases hS
  exact Ze
 refine Zk ?_
 refine Zq (Zq (Zr ?_))
 refine Zy ?_
 refine Zb ?_
 refine VC.iter (S := Int) (fun (i5_1 : Int) => i5_1) (fun (i5_1 : Int) => [(0, a_0.val), (1, b_1.val), (5, i64 i5_1)]) (fun (i5_1 : Int) => Mo.tt) (fun (i5_1 : Int) => Ow.emp) 0 [0, 1, 5] hS rfl ?_
 clear hS
 rintro i5_1 m1 y1 hS hK1
 refine Zq (Zq (Zr ?_))
 refine Zy ?_
 refine Zu (q_ln (s := a_0) Tryz.underlying82 rfl) ?_
 refine Zu (q_lss rfl rfl) ?_
 refine Zl ?_
 refine Zc hS (fun h14 hS => ?_) (fun h14 hS => ?_)
 ·
  refine Zk ?_
  refine Zq (Zb (Zq ?_))
  refine VC.draw ((List.range 9).map fun k => (k, true)) mixed (by kernel_rfl) (by kernel_rfl) (by kernel_rfl) ?_
  refine Zw rfl (q_move rfl) ?_
  refine Zw rfl (q_move rfl) ?_
  obtain ⟨z19_2, nz19_2, hz19_2, hS⟩ := at_s hS
  refine Zw rfl (q_ixm (s := a_0) Tryz.underlying82 gsz9 rfl rfl nz19_2 (lt_of_get nz19_2 hz19_2)) ?_
  refine Zw rfl (q_el (s := a_0) gone9 rfl hz19_2 rfl) ?_
  refine Zw rfl (q_move rfl) ?_
  refine Zw rfl (q_move rfl) ?_
  obtain ⟨z23_3, nz23_3, hz23_3, hS⟩ := at_s hS
  refine Zw rfl (q_ixm (s := b_1) Tryz.underlying82 gsz9 rfl rfl nz23_3 (lt_of_get nz23_3 hz23_3)) ?_
  refine Zw rfl (q_el (s := b_1) gone9 rfl hz23_3 rfl) ?_
  refine Zw rfl (q_sne rfl rfl) ?_
  refine VD.to (fun _ _ h => h) ?_
  refine VC.keep [0, 1, 5, 25] rfl ?_
  refine Zcn hS (fun h25 hS => ?_) (fun h25 hS => ?_)
  ·
   refine Zq (Zr ?_)
   refine Zy ?_
   replace hS := up2 hS hK1
   cases hS
   exact Ze
  refine Zk ?_
  refine Zr ?_
  refine Zm ?_
  obtain ⟨b16, hS⟩ := gd_s hS
  refine Zu (q_add rfl rfl b16) ?_
  refine Za ?_
  refine VL.rnd (i5_1 + 1) [0, 1, 5] (fun _ _ h => h) (go2 hS hK1) rfl
 replace hS := up2 hS hK1
 refine Zx ?_
 refine Zq (Zr ?_)
 refine Zy ?_
 cases hS
 exact Ze
theorem r11_between_ct (b_0 : Sv Str) (o_1 : Sv Str) (t_2 : Sv Str) {r : Rectoref11ChunkP} (hS : Sh.r11_between b_0.l o_1.l t_2.l = some r) :
 Ct Tryz.prog 234 [b_0.val, o_1.val, t_2.val] (b_0.ok.and (o_1.ok.and t_2.ok)) (Ow.emp) (X := Rectoref11Chunk) (fun x => .agg (Dat.enc x).toArray) (fun x => r = x.pl) (fun x => x.m) (fun x => Ow.emp) := by
 refine Zo Tryz.func234 Tryz.ntmps234 fun c => ?_
 unfold Sh.r11_between at hS
 refine Zq (Zr ?_)
 refine VL.alloc (cs := [.slice none 0 0, .slice none 0 0, .slice none 0 0, .bool false, .slice none 0 0]) (by kernel_rfl) (by decide) fun b6_1 => ?_
 refine Zl ?_
 refine Zq (Zr ?_)
 refine Zy ?_
 refine Zu (q_build (vs := [(0, b_0.val), (1, o_1.val), (2, t_2.val)]) (cs := #[b_0.val, o_1.val, t_2.val, .bool false, .slice none 0 0]) rfl (by kernel_rfl)) ?_
 refine VL.alloc (cs := [.slice none 0 0, .slice none 0 0, .slice none 0 0, .bool false, .slice none 0 0]) (by kernel_rfl) (by decide) fun b7_2 => ?_
 refine Zv (vc := [b_0.val, o_1.val, t_2.val, .bool false, .slice none 0 0]) (cs' := [b_0.val, o_1.val, t_2.val, .bool false, .slice none 0 0]) rfl gsz268 ?_
 refine Zl ?_
 refine Zq (Zb (Zq (Zr ?_)))
 refine Zy ?_
 obtain ⟨y16_3, ey16_3, hS⟩ := bd_s hS
 refine Zu (q_call (r11_Equal_ct o_1 b_0 ey16_3) rfl (fun _ _ => rfl)) ?_
 refine Zy ?_
 refine VC.keep [0, 1, 2, 6, 7, 13] rfl ?_
 refine Zcb hS (fun h13 hS => ?_) (fun h13 hS => ?_)
 ·
  refine Zr ?_
  refine Zm ?_
  refine Zu (q_field gfa268_4 rfl) ?_
  refine Zv (vc := [t_2.val]) (cs' := [b_0.val, o_1.val, t_2.val, .bool false, t_2.val]) rfl gsz82 ?_
  refine Zl ?_
  refine Zq (Zr ?_)
  refine Zu (q_fes gagg268 rfl rfl) ?_
  refine Zv (vc := [b_0.val, o_1.val, t_2.val, .bool false, t_2.val]) (cs' := [b_0.val, o_1.val, t_2.val, .bool false, t_2.val]) rfl gsz268 ?_
  refine Zl ?_
  cases hS
  exact VC.ret (finG (vs := [.agg #[b_0.val, o_1.val, t_2.val, .bool false, t_2.val]]) (.inr rfl) rfl (RVs.cell gagg268 rfl rfl Rd.blk (RVs.nil)) ⟨b_0, o_1, t_2, false, t_2⟩ rfl rfl (by (try dsimp only); exact InM.out) (fun _ _ => trivial))
 refine Zq (Zr ?_)
 refine Zy ?_
 obtain ⟨y22_4, ey22_4, hS⟩ := bd_s hS
 refine Zu (q_call (r11_Equal_ct t_2 b_0 ey22_4) rfl (fun _ _ => rfl)) ?_
 refine Zy ?_
 refine Zcb hS (fun h19 hS => ?_) (fun h19 hS => ?_)
 ·
  refine Zr ?_
  refine Zm ?_
  refine Zu (q_field gfa268_4 rfl) ?_
  refine Zv (vc := [o_1.val]) (cs' := [b_0.val, o_1.val, t_2.val, .bool false, o_1.val]) rfl gsz82 ?_
  refine Zl ?_
  refine VC.keep [6, 7] rfl ?_
  refine Zq (Zr ?_)
  refine Zu (q_fes gagg268 rfl rfl) ?_
  refine Zv (vc := [b_0.val, o_1.val, t_2.val, .bool false, o_1.val]) (cs' := [b_0.val, o_1.val, t_2.val, .bool false, o_1.val]) rfl gsz268 ?_
  refine Zl ?_
  cases hS
  exact VC.ret (finG (vs := [.agg #[b_0.val, o_1.val, t_2.val, .bool false, o_1.val]]) (.inr rfl) rfl (RVs.cell gagg268 rfl rfl Rd.blk (RVs.nil)) ⟨b_0, o_1, t_2, false, o_1⟩ rfl rfl (by (try dsimp only); exact InM.out) (fun _ _ => trivial))
 refine Zq (Zr ?_)
 refine Zy ?_
 obtain ⟨y28_5, ey28_5, hS⟩ := bd_s hS
 refine Zu (q_call (r11_Equal_ct o_1 t_2 ey28_5) rfl (fun _ _ => rfl)) ?_
 refine Zy ?_
 refine VC.keep [1, 6, 7, 25] rfl ?_
 refine Zcb hS (fun h25 hS => ?_) (fun h25 hS => ?_)
 ·
  refine Zr ?_
  refine Zm ?_
  refine Zu (q_field gfa268_4 rfl) ?_
  refine Zv (vc := [o_1.val]) (cs' := [b_0.val, o_1.val, t_2.val, .bool false, o_1.val]) rfl gsz82 ?_
  refine Zl ?_
  refine Zq (Zr ?_)
  refine Zu (q_fes gagg268 rfl rfl) ?_
  refine Zv (vc := [b_0.val, o_1.val, t_2.val, .bool false, o_1.val]) (cs' := [b_0.val, o_1.val, t_2.val, .bool false, o_1.val]) rfl gsz268 ?_
  refine Zl ?_
  cases hS
  exact VC.ret (finG (vs := [.agg #[b_0.val, o_1.val, t_2.val, .bool false, o_1.val]]) (.inr rfl) rfl (RVs.cell gagg268 rfl rfl Rd.blk (RVs.nil)) ⟨b_0, o_1, t_2, false, o_1⟩ rfl rfl (by (try dsimp only); exact InM.out) (fun _ _ => trivial))
 refine Zr ?_
 refine Zu (q_field gfa268_3 rfl) ?_
 refine Zv (vc := [.bool true]) (cs' := [b_0.val, o_1.val, t_2.val, .bool true, .slice none 0 0]) rfl gsz4 ?_
 refine Zl ?_
 refine Zq (Zr ?_)
 refine Zu (q_fes gagg268 rfl rfl) ?_
 refine Zv (vc := [b_0.val, o_1.val, t_2.val, .bool true, .slice none 0 0]) (cs' := [b_0.val, o_1.val, t_2.val, .bool true, .slice none 0 0]) rfl gsz268 ?_
 refine Zl ?_
 cases hS
 exact VC.ret (finG (vs := [.agg #[b_0.val, o_1.val, t_2.val, .bool true, .slice none 0 0]]) (.inr rfl) rfl (RVs.cell gagg268 rfl rfl Rd.blk (RVs.nil)) ⟨b_0, o_1, t_2, true, ⟨none, 0, []⟩⟩ rfl rfl (by (try dsimp only); exact InM.out) (fun _ _ => trivial))
end Go.Proofs.YtleokmhhloamaaaGreatDoor
end
