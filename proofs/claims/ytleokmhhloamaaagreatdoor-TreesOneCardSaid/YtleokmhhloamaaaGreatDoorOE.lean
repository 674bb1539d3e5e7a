/- Part of the proofs of: What becomes of one path of any three trees: its file, or none, and whether it clashes, as the document says. -/
import Derived.Test.YtleokmhhloamaaaGreatDoorRows
import Derived.Test.YtleokmhhloamaaaGreatDoorOD
set_option linter.unusedVariables false
set_option linter.unusedSimpArgs false
set_option linter.unusedSectionVars false
section
set_option linter.unusedVariables false
namespace Go.Proofs.YtleokmhhloamaaaGreatDoor
set_option maxHeartbeats 4000000
set_option maxRecDepth 100000
open Go.RowKit Go.V
open Go.S hiding Str
theorem gszb : (Tryz.prog.info? 259).map (·.size) = some 2 := by kernel_rfl
theorem gappb : ((Tryz.prog.info? 5).map fun i => (i.size, i.bytes, i.zero)) = some (1, 1, some (.int .u8 0)) := by kernel_rfl
theorem gfa259_0 : FieldAt Tryz.prog 259 0 0 := fieldAt_sz (n := 0) (f := ⟨_, _, 0, _, _, _, _⟩) Tryz.underlying259 rfl (by kernel_rfl)
theorem gfa259_1 : FieldAt Tryz.prog 259 1 1 := fieldAt_sz (n := 0) (f := ⟨_, _, 1, _, _, _, _⟩) Tryz.underlying259 rfl (by kernel_rfl)
theorem gone257 : OneCell Tryz.prog 257 := oneCell_of Tryz.underlying257 rfl
theorem gone27 : OneCell Tryz.prog 27 := oneCell_of Tryz.underlying27 rfl
theorem gsz257 : (Tryz.prog.info? 257).map (·.size) = some 1 := by kernel_rfl
theorem gsz27 : (Tryz.prog.info? 27).map (·.size) = some 1 := by kernel_rfl
theorem glit42 : ((Tryz.prog.info? 42).map fun i => (i.size, i.zero.isSome)) = some (3, true) := by kernel_rfl
theorem glit38 : ((Tryz.prog.info? 38).map fun i => (i.size, i.zero.isSome)) = some (1, true) := by kernel_rfl
theorem gsz38 : (Tryz.prog.info? 38).map (·.size) = some 1 := by kernel_rfl
theorem gone38 : OneCell Tryz.prog 38 := oneCell_of Tryz.underlying38 rfl
theorem gsz42 : (Tryz.prog.info? 42).map (·.size) = some 3 := by kernel_rfl
theorem gagg42 : AggOf Tryz.prog 42 3 := aggOf_of Tryz.underlying42 rfl (by kernel_rfl)
theorem gfa42_0 : FieldAt Tryz.prog 42 0 0 := fieldAt_sz (n := 0) (f := ⟨_, _, 0, _, _, _, _⟩) Tryz.underlying42 rfl (by kernel_rfl)
theorem gone9 : OneCell Tryz.prog 9 := oneCell_of Tryz.underlying9 rfl
theorem gmk9 : ((Tryz.prog.info? 9).map fun i => (i.size, i.bytes, i.zero.map fun z => z.cells.toList)) = some (1, 16, some [str []]) := by kernel_rfl
theorem gsz9 : (Tryz.prog.info? 9).map (·.size) = some 1 := by kernel_rfl
theorem gsz5 : (Tryz.prog.info? 5).map (·.size) = some 1 := by kernel_rfl
theorem gone5 : OneCell Tryz.prog 5 := oneCell_of Tryz.underlying5 rfl
theorem gfa42_1 : FieldAt Tryz.prog 42 1 1 := fieldAt_sz (n := 0) (f := ⟨_, _, 1, _, _, _, _⟩) Tryz.underlying42 rfl (by kernel_rfl)
theorem gone3 : OneCell Tryz.prog 3 := oneCell_of Tryz.underlying3 rfl
theorem gfa42_2 : FieldAt Tryz.prog 42 2 2 := fieldAt_sz (n := 0) (f := ⟨_, _, 2, _, _, _, _⟩) Tryz.underlying42 rfl (by kernel_rfl)
theorem gsz86 : (Tryz.prog.info? 86).map (·.size) = some 3 := by kernel_rfl
theorem gsz121 : (Tryz.prog.info? 121).map (·.size) = some 4 := by kernel_rfl
theorem gagg121 : AggOf Tryz.prog 121 4 := aggOf_of Tryz.underlying121 rfl (by kernel_rfl)
theorem geqs121 : ∀ (x0 : List UInt8) (x1 : Int) (x2 : List UInt8) (x3 : Bool) (y0 : List UInt8) (y1 : Int) (y2 : List UInt8) (y3 : Bool) (w : World), (Op.equalIn 10000 121 (.agg #[str x0, i64 x1, str x2, .bool x3]) (.agg #[str y0, i64 y1, str y2, .bool y3])).run Tryz.prog w = .ok (decide (x0 = y0 ∧ x1 = y1 ∧ x2 = y2 ∧ x3 = y3)) w := by
 intro x0 x1 x2 x3 y0 y1 y2 y3 w
 have hS : Tryz.prog.underlying 121 = some (.struct (Tryz.prog.fieldsOf 121)) := by kernel_rfl
 rw [show (10000 : Nat) = 9999 + 1 from rfl, run_equalIn_agg w 9999 121 _ _ hS (by kernel_rfl)]
 simp only [Program.fieldsOf, Tryz.underlying121]
 go_simp
 by_cases h0 : x0 = y0 <;> by_cases h1 : x1 = y1 <;> by_cases h2 : x2 = y2 <;> by_cases h3 : x3 = y3 <;> simp [h0, h1, h2, h3]
theorem geqg121 : Tryz.prog.eqGuardType Tryz.prog.depth 121 = false := by kernel_rfl
theorem gfa121_0 : FieldAt Tryz.prog 121 0 0 := fieldAt_sz (n := 2) (f := ⟨_, _, 0, _, _, _, _⟩) Tryz.underlying121 rfl (by kernel_rfl)
theorem gfa121_1 : FieldAt Tryz.prog 121 1 3 := fieldAt_sz (n := 0) (f := ⟨_, _, 3, _, _, _, _⟩) Tryz.underlying121 rfl (by kernel_rfl)
theorem gone4 : OneCell Tryz.prog 4 := oneCell_of Tryz.underlying4 rfl
theorem glit9 : ((Tryz.prog.info? 9).map fun i => (i.size, i.zero.isSome)) = some (1, true) := by kernel_rfl
theorem gapp9 : ((Tryz.prog.info? 9).map fun i => (i.size, i.bytes, (i.zero.map fun z => z.cells.size))) = some (1, 16, some 1) := by kernel_rfl
theorem gmk3 : ((Tryz.prog.info? 3).map fun i => (i.size, i.bytes, i.zero.map fun z => z.cells.toList)) = some (1, 8, some [i64 0]) := by kernel_rfl
theorem gsz366 : (Tryz.prog.info? 366).map (·.size) = some 2 := by kernel_rfl
theorem gagg366 : AggOf Tryz.prog 366 2 := aggOf_of Tryz.underlying366 rfl (by kernel_rfl)
theorem gfa366_0 : FieldAt Tryz.prog 366 0 0 := fieldAt_sz (n := 0) (f := ⟨_, _, 0, _, _, _, _⟩) Tryz.underlying366 rfl (by kernel_rfl)
theorem glit342 : ((Tryz.prog.info? 342).map fun i => (i.size, i.zero.isSome)) = some (3, true) := by kernel_rfl
theorem gapp342 : ((Tryz.prog.info? 342).map fun i => (i.size, i.bytes, (i.zero.map fun z => z.cells.size))) = some (3, 24, some 3) := by kernel_rfl
theorem gsz342 : (Tryz.prog.info? 342).map (·.size) = some 3 := by kernel_rfl
theorem gfa342_2 : FieldAt Tryz.prog 342 2 2 := fieldAt_sz (n := 0) (f := ⟨_, _, 2, _, _, _, _⟩) Tryz.underlying342 rfl (by kernel_rfl)
theorem gsz3 : (Tryz.prog.info? 3).map (·.size) = some 1 := by kernel_rfl
theorem glit3 : ((Tryz.prog.info? 3).map fun i => (i.size, i.zero.isSome)) = some (1, true) := by kernel_rfl
theorem gagg342 : AggOf Tryz.prog 342 3 := aggOf_of Tryz.underlying342 rfl (by kernel_rfl)
theorem gfa342_0 : FieldAt Tryz.prog 342 0 0 := fieldAt_sz (n := 0) (f := ⟨_, _, 0, _, _, _, _⟩) Tryz.underlying342 rfl (by kernel_rfl)
theorem gfa342_1 : FieldAt Tryz.prog 342 1 1 := fieldAt_sz (n := 0) (f := ⟨_, _, 1, _, _, _, _⟩) Tryz.underlying342 rfl (by kernel_rfl)
theorem gsz261 : (Tryz.prog.info? 261).map (·.size) = some 5 := by kernel_rfl
theorem gagg261 : AggOf Tryz.prog 261 5 := aggOf_of Tryz.underlying261 rfl (by kernel_rfl)
theorem gfa261_3 : FieldAt Tryz.prog 261 3 3 := fieldAt_sz (n := 0) (f := ⟨_, _, 3, _, _, _, _⟩) Tryz.underlying261 rfl (by kernel_rfl)
theorem gfa261_1 : FieldAt Tryz.prog 261 1 1 := fieldAt_sz (n := 0) (f := ⟨_, _, 1, _, _, _, _⟩) Tryz.underlying261 rfl (by kernel_rfl)
theorem gone82 : OneCell Tryz.prog 82 := oneCell_of Tryz.underlying82 rfl
theorem gfa261_2 : FieldAt Tryz.prog 261 2 2 := fieldAt_sz (n := 0) (f := ⟨_, _, 2, _, _, _, _⟩) Tryz.underlying261 rfl (by kernel_rfl)
theorem gfa261_4 : FieldAt Tryz.prog 261 4 4 := fieldAt_sz (n := 0) (f := ⟨_, _, 4, _, _, _, _⟩) Tryz.underlying261 rfl (by kernel_rfl)
theorem gfa86_0 : FieldAt Tryz.prog 86 0 0 := fieldAt_sz (n := 0) (f := ⟨_, _, 0, _, _, _, _⟩) Tryz.underlying86 rfl (by kernel_rfl)
theorem gapp42 : ((Tryz.prog.info? 42).map fun i => (i.size, i.bytes, (i.zero.map fun z => z.cells.size))) = some (3, 40, some 3) := by kernel_rfl
theorem gfa86_2 : FieldAt Tryz.prog 86 2 2 := fieldAt_sz (n := 0) (f := ⟨_, _, 2, _, _, _, _⟩) Tryz.underlying86 rfl (by kernel_rfl)
theorem gsz82 : (Tryz.prog.info? 82).map (·.size) = some 1 := by kernel_rfl
theorem gfa86_1 : FieldAt Tryz.prog 86 1 1 := fieldAt_sz (n := 0) (f := ⟨_, _, 1, _, _, _, _⟩) Tryz.underlying86 rfl (by kernel_rfl)
theorem gone66 : OneCell Tryz.prog 66 := oneCell_of Tryz.underlying66 rfl
theorem glit149 : ((Tryz.prog.info? 149).map fun i => (i.size, i.zero.isSome)) = some (6, true) := by kernel_rfl
theorem gapp149 : ((Tryz.prog.info? 149).map fun i => (i.size, i.bytes, (i.zero.map fun z => z.cells.size))) = some (6, 64, some 6) := by kernel_rfl
theorem gsz66 : (Tryz.prog.info? 66).map (·.size) = some 1 := by kernel_rfl
theorem gsz149 : (Tryz.prog.info? 149).map (·.size) = some 6 := by kernel_rfl
theorem gagg86 : AggOf Tryz.prog 86 3 := aggOf_of Tryz.underlying86 rfl (by kernel_rfl)
theorem glit45 : ((Tryz.prog.info? 45).map fun i => (i.size, i.zero.isSome)) = some (3, true) := by kernel_rfl
theorem gapp45 : ((Tryz.prog.info? 45).map fun i => (i.size, i.bytes, (i.zero.map fun z => z.cells.size))) = some (3, 40, some 3) := by kernel_rfl
theorem gsz45 : (Tryz.prog.info? 45).map (·.size) = some 3 := by kernel_rfl
theorem gfa45_0 : FieldAt Tryz.prog 45 0 0 := fieldAt_sz (n := 0) (f := ⟨_, _, 0, _, _, _, _⟩) Tryz.underlying45 rfl (by kernel_rfl)
theorem gagg45 : AggOf Tryz.prog 45 3 := aggOf_of Tryz.underlying45 rfl (by kernel_rfl)
theorem geqs45 : ∀ (x0 : List UInt8) (x1 : Int) (x2 : List UInt8) (y0 : List UInt8) (y1 : Int) (y2 : List UInt8) (w : World), (Op.equalIn 10000 45 (.agg #[str x0, i64 x1, str x2]) (.agg #[str y0, i64 y1, str y2])).run Tryz.prog w = .ok (decide (x0 = y0 ∧ x1 = y1 ∧ x2 = y2)) w := by
 intro x0 x1 x2 y0 y1 y2 w
 have hS : Tryz.prog.underlying 45 = some (.struct (Tryz.prog.fieldsOf 45)) := by kernel_rfl
 rw [show (10000 : Nat) = 9999 + 1 from rfl, run_equalIn_agg w 9999 45 _ _ hS (by kernel_rfl)]
 simp only [Program.fieldsOf, Tryz.underlying45]
 go_simp
 by_cases h0 : x0 = y0 <;> by_cases h1 : x1 = y1 <;> by_cases h2 : x2 = y2 <;> simp [h0, h1, h2]
theorem geqg45 : Tryz.prog.eqGuardType Tryz.prog.depth 45 = false := by kernel_rfl
theorem gfa45_1 : FieldAt Tryz.prog 45 1 1 := fieldAt_sz (n := 0) (f := ⟨_, _, 1, _, _, _, _⟩) Tryz.underlying45 rfl (by kernel_rfl)
theorem gfa45_2 : FieldAt Tryz.prog 45 2 2 := fieldAt_sz (n := 0) (f := ⟨_, _, 2, _, _, _, _⟩) Tryz.underlying45 rfl (by kernel_rfl)
theorem glit137 : ((Tryz.prog.info? 137).map fun i => (i.size, i.zero.isSome)) = some (2, true) := by kernel_rfl
theorem gsz54 : (Tryz.prog.info? 54).map (·.size) = some 2 := by kernel_rfl
theorem gagg54 : AggOf Tryz.prog 54 2 := aggOf_of Tryz.underlying54 rfl (by kernel_rfl)
theorem gfa54_1 : FieldAt Tryz.prog 54 1 1 := fieldAt_sz (n := 0) (f := ⟨_, _, 1, _, _, _, _⟩) Tryz.underlying54 rfl (by kernel_rfl)
theorem glit350 : ((Tryz.prog.info? 350).map fun i => (i.size, i.zero.isSome)) = some (2, true) := by kernel_rfl
theorem gapp350 : ((Tryz.prog.info? 350).map fun i => (i.size, i.bytes, (i.zero.map fun z => z.cells.size))) = some (2, 24, some 2) := by kernel_rfl
theorem gsz26 : (Tryz.prog.info? 26).map (·.size) = some 1 := by kernel_rfl
theorem gone26 : OneCell Tryz.prog 26 := oneCell_of Tryz.underlying26 rfl
theorem gsz350 : (Tryz.prog.info? 350).map (·.size) = some 2 := by kernel_rfl
theorem gfa350_0 : FieldAt Tryz.prog 350 0 0 := fieldAt_sz (n := 0) (f := ⟨_, _, 0, _, _, _, _⟩) Tryz.underlying350 rfl (by kernel_rfl)
theorem gsz268 : (Tryz.prog.info? 268).map (·.size) = some 5 := by kernel_rfl
theorem gfa268_4 : FieldAt Tryz.prog 268 4 4 := fieldAt_sz (n := 0) (f := ⟨_, _, 4, _, _, _, _⟩) Tryz.underlying268 rfl (by kernel_rfl)
theorem gagg268 : AggOf Tryz.prog 268 5 := aggOf_of Tryz.underlying268 rfl (by kernel_rfl)
theorem gfa268_3 : FieldAt Tryz.prog 268 3 3 := fieldAt_sz (n := 0) (f := ⟨_, _, 3, _, _, _, _⟩) Tryz.underlying268 rfl (by kernel_rfl)
theorem gsz4 : (Tryz.prog.info? 4).map (·.size) = some 1 := by kernel_rfl
theorem glit268 : ((Tryz.prog.info? 268).map fun i => (i.size, i.zero.isSome)) = some (5, true) := by kernel_rfl
theorem gapp268 : ((Tryz.prog.info? 268).map fun i => (i.size, i.bytes, (i.zero.map fun z => z.cells.size))) = some (5, 104, some 5) := by kernel_rfl
theorem gfa268_1 : FieldAt Tryz.prog 268 1 1 := fieldAt_sz (n := 0) (f := ⟨_, _, 1, _, _, _, _⟩) Tryz.underlying268 rfl (by kernel_rfl)
theorem gfa268_2 : FieldAt Tryz.prog 268 2 2 := fieldAt_sz (n := 0) (f := ⟨_, _, 2, _, _, _, _⟩) Tryz.underlying268 rfl (by kernel_rfl)
theorem copyCheck_ct (b : Nat) (p u : Value) (hp : p = .pointer none ∨ p = ptr b 0) (hu : u.oneCell' = true) : Ct Tryz.prog 229 [ptr b 0] Mo.tt (Blk b [p, u] 259) (X := Unit) (fun _ => .tuple #[]) (fun _ => True) (fun _ => Mo.tt) (fun _ => Blk b [ptr b 0, u] 259) := by
 refine Ct.of Tryz.func229 rfl (by kernel_rfl) Tryz.ntmps229 (by simp) fun c => ?_
 rcases hp with rfl | rfl
 ·
  refine Zq (Zr ?_)
  refine Zm ?_
  refine VL.q (q_nilCheck rfl) (by decide) ?_
  refine VL.q (q_field gfa259_0 rfl) (by decide) ?_
  refine VL.q (q_fe gone257 rfl rfl) (by decide) ?_
  refine VL.q (q_peqn Tryz.underlying257 rfl) (by decide) ?_
  refine Zl ?_
  refine VC.cond_t rfl ?_
  refine Zr ?_
  refine Zm ?_
  refine Zm ?_
  refine VL.q (q_tou (n := 1) Tryz.underlying257 Tryz.underlying207 gszb rfl (by simp)) (by decide) ?_
  refine VL.q (q_noEscape Tryz.func265 rfl rfl (by kernel_rfl) (by kernel_rfl) rfl) (by decide) ?_
  refine VL.q (q_fromu (n := 2) (cs := [.pointer none, u]) Tryz.underlying207 Tryz.underlying257 gszb rfl (by kernel_rfl)) (by decide) ?_
  refine VL.q (q_nilCheck rfl) (by decide) ?_
  refine VL.q (q_field gfa259_0 rfl) (by decide) ?_
  refine VL.store (vc := [ptr b 0]) (cs' := [ptr b 0, u]) rfl rfl rfl gsz257 rfl rfl (Nat.le_of_ble_eq_true rfl) rfl ?_
  exact VL.nil (fin0 (.inl rfl) rfl () rfl trivial (fun _ _ => trivial) (by exact EntO.out))
 refine Zq (Zr ?_)
 refine Zm ?_
 refine VL.q (q_nilCheck rfl) (by decide) ?_
 refine VL.q (q_field gfa259_0 rfl) (by decide) ?_
 refine VL.q (q_fe gone257 rfl rfl) (by decide) ?_
 refine VL.q (q_peqn Tryz.underlying257 rfl) (by decide) ?_
 refine Zl ?_
 refine VC.cond_f rfl ?_
 refine Zq (Zr ?_)
 refine Zm ?_
 refine VL.q (q_nilCheck rfl) (by decide) ?_
 refine VL.q (q_field gfa259_0 rfl) (by decide) ?_
 refine VL.q (q_fe gone257 rfl rfl) (by decide) ?_
 refine Zm ?_
 refine VL.q (q_pne Tryz.underlying257 gszb rfl rfl) (by decide) ?_
 refine Zl ?_
 refine VC.cond_f rfl ?_
 exact VC.skip (fin0 (.inl rfl) rfl () rfl trivial (fun _ _ => trivial) (by exact EntO.out))
theorem writeString_ct (b : Nat) (l s : Str) (hb : l.length + s.length ≤ 4294967296) : Ct Tryz.prog 182 [ptr b 0, str s] Mo.tt (Bd 259 5 b l) (X := Unit) (fun _ => .tuple #[i64 s.length, .nilIface]) (fun _ => True) (fun _ => Mo.tt) (fun _ => Bd 259 5 b (l ++ s)) := by
 refine Ct.monoE (E1 := fun z => ∃ q : Value × Sv UInt8, ((q.1 = .pointer none ∨ q.1 = ptr b 0) ∧ q.2.l = l ∧ (q.2.c = 0 → q.2.a = none)) ∧ Ow.star (Blk b [q.1, q.2.val] 259) (q.2.own 5) z) (Ct.exE (entry_of Tryz.func182 rfl (by kernel_rfl)) ?_) (fun z ⟨p, q, h1, h2, h3, h4⟩ => ⟨(p, q), ⟨h1, h2, h3⟩, h4⟩)
 rintro ⟨p, q⟩ ⟨hp, hl, hc⟩
 dsimp only at hp hl hc ⊢
 refine Ct.of Tryz.func182 rfl (by kernel_rfl) Tryz.ntmps182 (by simp) fun c => ?_
 refine Zq (Zr ?_)
 refine Za ?_
 refine Za ?_
 refine Zl ?_
 refine Zq (Zr ?_)
 refine Zm ?_
 refine VL.callO (copyCheck_ct b p q.val hp rfl) rfl (by decide) ?_
 rintro _ _
 refine Zl ?_
 refine Zq (Zr ?_)
 refine Zm ?_
 refine Zm ?_
 refine VL.q (q_nilCheck rfl) (by decide) ?_
 refine VL.q (q_field gfa259_1 rfl) (by decide) ?_
 refine VL.q (q_fe gone27 rfl rfl) (by decide) ?_
 refine Zm ?_
 refine VL.appS (s := q) (r := s) Tryz.underlying27 Tryz.underlying9 gappb rfl Fo.out (by rw [hl]; exact hb) (by decide) fun q2 hq2 hc2 => ?_
 refine VL.q (q_nilCheck rfl) (by decide) ?_
 refine VL.q (q_field gfa259_1 rfl) (by decide) ?_
 refine VL.store (vc := [q2.val]) (cs' := [ptr b 0, q2.val]) rfl rfl rfl gsz27 rfl rfl (Nat.le_of_ble_eq_true rfl) rfl ?_
 refine Zl ?_
 refine Zq (Zr ?_)
 refine Zm ?_
 refine VL.q (q_slen Tryz.underlying9 rfl) (by decide) ?_
 refine Za ?_
 refine Za ?_
 refine Zl ?_
 exact VC.ret (fin2 (.inr rfl) rfl rfl rfl () rfl trivial (fun _ _ => trivial) (fun z hz => Bd.mk (p := ptr b 0) (s := q2) (.inr rfl) (by rw [hq2, hl]) (hc2 hc) ((EntO.out (E' := Ow.star (Blk b [ptr b 0, q2.val] 259) (q2.own 5))) z hz)))
theorem string_ct (b : Nat) (l : Str) : Ct Tryz.prog 185 [ptr b 0] Mo.tt (Bd 259 5 b l) (X := Unit) (fun _ => str l) (fun _ => True) (fun _ => Mo.tt) (fun _ => Ow.emp) := by
 refine Ct.monoE (E1 := fun z => ∃ q : Value × Sv UInt8, ((q.1 = .pointer none ∨ q.1 = ptr b 0) ∧ q.2.l = l ∧ (q.2.c = 0 → q.2.a = none)) ∧ Ow.star (Blk b [q.1, q.2.val] 259) (q.2.own 5) z) (Ct.exE (entry_of Tryz.func185 rfl (by kernel_rfl)) ?_) (fun z ⟨p, q, h1, h2, h3, h4⟩ => ⟨(p, q), ⟨h1, h2, h3⟩, h4⟩)
 rintro ⟨p, q⟩ ⟨hp, rfl, hc⟩
 dsimp only at hp hc ⊢
 refine Ct.of Tryz.func185 rfl (by kernel_rfl) Tryz.ntmps185 (by simp) fun c => ?_
 refine Zq (Zr ?_)
 refine Za ?_
 refine Zl ?_
 refine Zq ?_
 refine VC.draw [(0, true), (1, true), (2, true), (3, true), (4, true), (5, true), (6, true), (7, true), (8, true), (9, true), (10, false), (11, true)] mixed (by kernel_rfl) (by kernel_rfl) (by kernel_rfl) ?_
 refine VD.q rfl (q_move rfl) (by decide) ?_
 refine VD.q rfl (q_nilCheck rfl) (by decide) ?_
 refine VD.q rfl (q_field gfa259_1 rfl) (by decide) ?_
 refine VD.q rfl (q_fe gone27 rfl rfl) (by decide) ?_
 refine VD.q rfl (q_sdata (s := q) rfl hc) (by decide) ?_
 refine VD.q rfl (q_move rfl) (by decide) ?_
 refine VD.q rfl (q_nilCheck rfl) (by decide) ?_
 refine VD.q rfl (q_field gfa259_1 rfl) (by decide) ?_
 refine VD.q rfl (q_fe gone27 rfl rfl) (by decide) ?_
 refine VD.q rfl (q_ln (s := q) Tryz.underlying27 rfl) (by decide) ?_
 refine VD.one rfl ?_
 refine VL.ustr (s := q) (e := 5) rfl Fo.out (by decide) (fun w h z o l k m => St.ustr (e := 5) Tryz.underlying313 (by kernel_rfl) o l k m) ?_
 refine VL.back (D' := []) (by kernel_rfl) Pend.nil ?_
 refine VD.q rfl (q_assign rfl) (by decide) ?_
 refine VD.to (fun _ _ h => h) ?_
 exact Ze
theorem Ct.mapX {P : Program} {f : FuncId} {args : List Value} {X Y : Type} {M : Mo} {E : Ow} {val : X → Value} {φ : X → Prop} {M2 : X → Mo} {E2 : X → Ow} {val' : Y → Value} {φ' : Y → Prop} {M2' : Y → Mo} {E2' : Y → Ow} (h : Ct P f args M E val φ M2 E2) (g : X → Y)
    (hv : ∀ x, val x = val' (g x)) (hφ : ∀ x, φ x → φ' (g x)) (hm : ∀ x h, (M2 x).on h → (M2' (g x)).on h) (hE : ∀ x e, E2 x e → E2' (g x) e) : Ct P f args M E val' φ' M2' E2' :=
  ⟨h.entry, fun w hp e m ee d l k => (h.calls w hp e m ee d l k).mono fun en w' ⟨r, h1, x, h2, h3, h4⟩ => ⟨r, h1, g x, h2.trans (hv x), hφ x h3, h4.mono (hm x) (hE x)⟩⟩
theorem repeat2_ct (r : Sv Int) (n : Int) {q : List Int} (hS : Sh.slices_Repeat0 r.l n = some q) : Ct Tryz.prog 262 [r.val, i64 n] r.ok Ow.emp (X := Sv Int) (fun x => x.val) (fun x => q = x.l) (fun _ => Mo.tt) (fun x => x.own 3) := by
 obtain ⟨⟨h1, h2, h3⟩, hS⟩ := gd_s hS
 cases hS
 exact (repeat_ct r (-1) n h1 h2 h3).weak (fun _ h => h) fun q hq => by rw [hq]
theorem common2_ct (a b : Sv Str) {r : List (List Int)} (hS : Sh.rectoref11_common a.l b.l = some r) : Ct Tryz.prog 269 [a.val, b.val] (a.ok.and b.ok) Ow.emp (X := Sv (Sv Int)) (fun x => x.val) (fun x => r = x.l.map Sv.l) (fun x => x.ok) (fun x => Ow.emp) := by
 obtain ⟨⟨h1, h2⟩, hS⟩ := gd_s hS
 cases hS
 exact (common_ct a b h1 h2).weak (fun _ h => h) fun q hq => hq.symm
open Go.Extern.Stop Go.Stop Go.Extern Go.RowKit in
section
end
namespace As
open Go.Extern Go.Extern.Stop
end As
theorem unicode_utf8_RuneCountInString_ct (s_0 : Str) {r : Int} (hS : Sh.unicode_utf8_RuneCountInString s_0 = some r) :
 Ct Tryz.prog 280 [str s_0] Mo.tt (Ow.emp) (X := Unit) (fun _ => i64 r) (fun _ => True) (fun _ => Mo.tt) (fun _ => Ow.emp) := by
 refine Ct.of Tryz.func280 rfl (by kernel_rfl) Tryz.ntmps280 (by simp) fun c => ?_
 unfold Sh.unicode_utf8_RuneCountInString at hS
 refine Zq (Zr ?_)
 refine Za ?_
 refine Zl ?_
 refine Zq (Zq (Zr ?_))
 refine Zm ?_
 cases hS
theorem unicode_utf8_decodeRuneInStringSlow_ct (s_0 : Str) {r : Int × Int} (hS : Sh.unicode_utf8_decodeRuneInStringSlow s_0 = some r) :
 Ct Tryz.prog 296 [str s_0] Mo.tt (Ow.emp) (X := Unit) (fun _ => .tuple #[.int .i32 r.1, i64 r.2]) (fun _ => True) (fun _ => Mo.tt) (fun _ => Ow.emp) := by
 refine Ct.of Tryz.func296 rfl (by kernel_rfl) Tryz.ntmps296 (by simp) fun c => ?_
 unfold Sh.unicode_utf8_decodeRuneInStringSlow at hS
 refine Zq (Zr ?_)
 refine Za ?_
 refine Za ?_
 refine Zl ?_
 refine Zq (Zr ?_)
 refine Zm ?_
 refine VL.q (q_slen Tryz.underlying9 rfl) (by decide) ?_
 refine Za ?_
 refine Zl ?_
 refine Zq (Zq (Zr ?_))
 refine Zm ?_
 refine VL.q (q_lss rfl rfl) (by decide) ?_
 refine Zl ?_
 refine VC.cond_dec rfl (fun h16 => ?_) (fun h16 => ?_)
 ·
  replace hS := it_t h16 hS
  refine Zq (Zr ?_)
  refine Za ?_
  refine Za ?_
  refine Zl ?_
  cases hS
  exact VC.ret (fin2 (.inr rfl) rfl rfl rfl () rfl trivial (fun _ _ => trivial) (fun _ _ => trivial))
 replace hS := it_f h16 hS
 refine Zk ?_
 refine Zq (Zr ?_)
 refine Zm ?_
 obtain ⟨z18_1, nz18_1, hz18_1, hS⟩ := at_s hS
 refine VL.q (q_sidx Tryz.underlying9 rfl rfl nz18_1 hz18_1) (by decide) ?_
 refine Za ?_
 refine Zl ?_
 refine VC.keep [0, 4, 5] rfl ?_
 refine Zq (Zr ?_)
 refine Zm ?_
 cases hS
theorem unicode_utf8_DecodeRuneInString_ct (s_0 : Str) {r : Int × Int} (hS : Sh.unicode_utf8_DecodeRuneInString s_0 = some r) :
 Ct Tryz.prog 281 [str s_0] Mo.tt (Ow.emp) (X := Unit) (fun _ => .tuple #[.int .i32 r.1, i64 r.2]) (fun _ => True) (fun _ => Mo.tt) (fun _ => Ow.emp) := by
 refine Ct.of Tryz.func281 rfl (by kernel_rfl) Tryz.ntmps281 (by simp) fun c => ?_
 unfold Sh.unicode_utf8_DecodeRuneInString at hS
 refine Zq (Zr ?_)
 refine Za ?_
 refine Za ?_
 refine Zl ?_
 refine Zq ?_
 refine VC.cutJ (S := Bool) (fun (x10_1 : Bool) => x10_1) (fun (x10_1 : Bool) => [(0, str s_0), (10, .bool x10_1)]) (fun (x10_1 : Bool) => Mo.tt) (fun (x10_1 : Bool) => Ow.emp) hS ?_ ?_
 ·
  clear hS
  intro k2 hS
  refine Zr ?_
  refine Zm ?_
  refine VL.q (q_sne rfl rfl) (by decide) ?_
  refine Zm ?_
  refine VL.split_ndec 6 rfl (fun h6 => ?_) (fun h6 => ?_)
  ·
   replace hS := it_f h6 hS
   refine Zg ?_
   obtain ⟨z8_3, nz8_3, hz8_3, hS⟩ := at_s hS
   refine VL.gy rfl rfl (q_sidx Tryz.underlying9 rfl rfl nz8_3 hz8_3) (by decide) ?_
   refine VL.gy rfl rfl (q_lss rfl rfl) (by decide) ?_
   refine Zt ?_
   refine VL.mt (decide ((z8_3.toNat : Int) < 128)) [0, 10] (fun _ _ h => h) hS rfl
  replace hS := it_t h6 hS
  refine Zn ?_
  refine Zn ?_
  refine Zn ?_
  refine Zf ?_
  refine VL.mt false [0, 10] (fun _ _ h => h) hS rfl
 clear hS
 rintro x10_1 hS
 show VC _ _ _ _ _ [(0, str s_0), (10, .bool x10_1)] (Mo.and Mo.tt _) (Ow.emp)
 refine VC.cond rfl (fun h10 => ?_) (fun h10 => ?_)
 ·
  replace hS := it_t h10 hS
  refine Zq (Zr ?_)
  refine Zm ?_
  obtain ⟨z12_4, nz12_4, hz12_4, hS⟩ := at_s hS
  refine VL.q (q_sidx Tryz.underlying9 rfl rfl nz12_4 hz12_4) (by decide) ?_
  refine VL.q (q_conv Tryz.underlying5 Tryz.underlying21 rfl (wr_i32 z12_4)) (by decide) ?_
  refine Za ?_
  refine Za ?_
  refine Zl ?_
  cases hS
  exact VC.ret (fin2 (.inr rfl) rfl rfl rfl () rfl trivial (fun _ _ => trivial) (fun _ _ => trivial))
 replace hS := it_b h10 hS
 refine Zr ?_
 refine Zm ?_
 obtain ⟨y16_5, ey16_5, hS⟩ := bd_s hS
 refine VL.q (q_call (unicode_utf8_decodeRuneInStringSlow_ct s_0 ey16_5) rfl (fun _ _ => rfl)) (by decide) ?_
 refine Zm ?_
 refine VL.q (q_extract rfl rfl) (by decide) ?_
 refine VL.q (q_extract rfl rfl) (by decide) ?_
 refine Za ?_
 refine Za ?_
 refine Zl ?_
 cases hS
 exact VC.ret (fin2 (.inr rfl) rfl rfl rfl () rfl trivial (fun _ _ => trivial) (fun _ _ => trivial))
theorem strings_explode_ct (s_0 : Str) (n_1 : Int) {r : List Str} (hS : Sh.strings_explode s_0 n_1 = some r) :
 Ct Tryz.prog 259 [str s_0, i64 n_1] Mo.tt (Ow.emp) (X := Sv Str) (fun x => x.val) (fun x => r = x.l) (fun x => Mo.tt) (fun x => Sv.own x 9) := by
 refine Ct.of Tryz.func259 rfl (by kernel_rfl) Tryz.ntmps259 (by simp) fun c => ?_
 unfold Sh.strings_explode at hS
 refine Zq (Zr ?_)
 refine Za ?_
 refine Zl ?_
 refine Zq (Zr ?_)
 refine Zm ?_
 obtain ⟨y11_1, ey11_1, hS⟩ := bd_s hS
 refine VL.q (q_call (unicode_utf8_RuneCountInString_ct s_0 ey11_1) rfl (fun _ _ => rfl)) (by decide) ?_
 refine Za ?_
 refine Zl ?_
 refine VC.cutJ (S := Int) (fun (n1_2 : Int) => n1_2) (fun (n1_2 : Int) => [(0, str s_0), (1, i64 n1_2)]) (fun (n1_2 : Int) => Mo.tt) (fun (n1_2 : Int) => Ow.emp) hS ?_ ?_
 ·
  clear hS
  intro k3 hS
  refine VC.cutJ (S := Bool) (fun (x18_4 : Bool) => x18_4) (fun (x18_4 : Bool) => [(0, str s_0), (1, i64 n_1), (5, i64 y11_1), (18, .bool x18_4)]) (fun (x18_4 : Bool) => Mo.tt) (fun (x18_4 : Bool) => Ow.emp) hS ?_ ?_
  ·
   clear hS
   intro k5 hS
   refine Zr ?_
   refine Zm ?_
   refine VL.q (q_lss rfl rfl) (by decide) ?_
   refine Zm ?_
   refine VL.split_dec 14 rfl (fun h14 => ?_) (fun h14 => ?_)
   ·
    replace hS := it_t h14 hS
    refine Zn ?_
    refine Zn ?_
    refine Zn ?_
    refine Zt ?_
    refine VL.mt true [0, 1, 5, 18] (fun _ _ h => h) hS rfl
   replace hS := it_f h14 hS
   refine Zg ?_
   refine Zg ?_
   refine VL.gy rfl rfl (q_gtr rfl rfl) (by decide) ?_
   refine Zf ?_
   refine VL.mt (decide (y11_1 < n_1)) [0, 1, 5, 18] (fun _ _ h => h) hS rfl
  clear hS
  rintro x18_4 hS
  show VC _ _ _ _ _ [(0, str s_0), (1, i64 n_1), (5, i64 y11_1), (18, .bool x18_4)] (Mo.and Mo.tt _) (Ow.emp)
  refine VC.cond rfl (fun h18 => ?_) (fun h18 => ?_)
  ·
   replace hS := it_t h18 hS
   refine Zr ?_
   refine Zm ?_
   refine Za ?_
   refine VL.mt y11_1 [0, 1] (fun _ _ h => h) hS rfl
  replace hS := it_b h18 hS
  refine VC.skip_mt n_1 [0, 1] (fun _ _ h => h) hS rfl
 clear hS
 rintro n1_2 hS
 show VC _ _ _ _ _ [(0, str s_0), (1, i64 n1_2)] (Mo.and Mo.tt _) (Ow.emp)
 refine Zq (Zr ?_)
 refine Zm ?_
 obtain ⟨b21, hS⟩ := gd_s hS
 refine VL.make (α := Str) (z := []) Tryz.underlying82 gmk9 (by decide) rfl rfl b21.1 (Int.le_refl _) (by omega) (by omega) (by decide) (fun s21_6 hs21_6 => ?_)
 replace hS := lt_to hs21_6 hS
 refine Za ?_
 refine Zl ?_
 refine Zq (Zq (Zr ?_))
 refine Za ?_
 refine Zl ?_
 refine Zb ?_
 refine VC.iter (S := Str × Sv Str × Int) (fun sg => (sg.1, sg.2.1.l, sg.2.2)) (fun sg => [(0, str sg.1), (1, i64 n1_2), (6, sg.2.1.val), (7, i64 sg.2.2)]) (fun sg => Mo.tt) (fun sg => Ow.star (Sv.own sg.2.1 9) (Ow.emp)) (s_0, s21_6, 0) [0, 1, 6, 7] hS rfl ?_
 clear hS
 rintro ⟨s0_8, a6_9, i7_10⟩ m1 y1 hS hK1
 show VC _ _ _ _ _ [(0, str s0_8), (1, i64 n1_2), (6, a6_9.val), (7, i64 i7_10)] (Mo.and Mo.tt _) (Ow.star (Sv.own a6_9 9) (Ow.emp))
 refine Zq (Zq (Zr ?_))
 refine Zm ?_
 refine Zm ?_
 obtain ⟨b24, hS⟩ := gd_s hS
 refine VL.q (q_sub rfl rfl b24) (by decide) ?_
 refine VL.q (q_lss rfl rfl) (by decide) ?_
 refine Zl ?_
 refine VC.cond_dec rfl (fun h25 => ?_) (fun h25 => ?_)
 ·
  replace hS := it_t h25 hS
  refine Zk ?_
  refine Zq (Zb (Zq (Zr ?_)))
  refine Zm ?_
  obtain ⟨y30_11, ey30_11, hS⟩ := bd_s hS
  refine VL.q (q_call (unicode_utf8_DecodeRuneInString_ct s0_8 ey30_11) rfl (fun _ _ => rfl)) (by decide) ?_
  refine Zm ?_
  refine VL.q (q_extract rfl rfl) (by decide) ?_
  refine VL.q (q_extract rfl rfl) (by decide) ?_
  refine Za ?_
  refine Za ?_
  refine Zl ?_
  refine VC.keep [0, 1, 6, 7, 9] rfl ?_
  refine Zq (Zr ?_)
  refine Zm ?_
  refine Zm ?_
  refine Zm ?_
  refine Zm ?_
  obtain ⟨b37, hS⟩ := gd_s hS
  obtain ⟨y37_12, ey37_12, hS⟩ := lt_s hS
  refine VL.q (q_stoE Tryz.underlying9 rfl rfl b37.1 b37.2 ey37_12) (by decide) ?_
  obtain ⟨z38_13, nz38_13, hz38_13, hS⟩ := at_s hS
  refine VL.q (q_ixo (s := a6_9) Tryz.underlying82 gsz9 rfl rfl nz38_13 (lt_of_get nz38_13 hz38_13)) (by decide) ?_
  refine VL.storeE (s := a6_9) (T := 9) (j := 0) (vc := [str y37_12]) (y37_12 : Str) (by decide) rfl rfl hz38_13 rfl gsz9 rfl rfl (Nat.le_of_ble_eq_true rfl) rfl (fun w14 hw14 haw14 hcw14 hvw14 hbw14 how14 => ?_)
  rw [← hvw14]
  replace hS := lt_to hw14 hS
  refine Zl ?_
  refine Zr ?_
  refine Zm ?_
  refine Zm ?_
  obtain ⟨b41, hS⟩ := gd_s hS
  obtain ⟨y41_16, ey41_16, hS⟩ := lt_s hS
  refine VL.q (q_sfromE Tryz.underlying9 rfl rfl b41.1 b41.2 ey41_16) (by decide) ?_
  refine Za ?_
  refine Zl ?_
  refine VC.keep [0, 1, 6, 7] rfl ?_
  refine Zr ?_
  refine Zm ?_
  obtain ⟨b27, hS⟩ := gd_s hS
  refine VL.q (q_add rfl rfl b27) (by decide) ?_
  refine Za ?_
  refine VL.rnd (y41_16, w14, (i7_10 + 1)) [0, 1, 6, 7] (fun _ _ h => h) (go2 hS hK1) rfl
 replace hS := it_f h25 hS
 replace hS := up2 hS hK1
 refine Zx ?_
 refine Zq (Zq (Zr ?_))
 refine Zm ?_
 refine VL.q (q_gtr rfl rfl) (by decide) ?_
 refine Zl ?_
 refine VC.cond_dec rfl (fun h43 => ?_) (fun h43 => ?_)
 ·
  replace hS := it_t h43 hS
  refine Zr ?_
  refine Zm ?_
  refine Zm ?_
  obtain ⟨b46, hS⟩ := gd_s hS
  refine VL.q (q_sub rfl rfl b46) (by decide) ?_
  refine Zm ?_
  obtain ⟨z48_17, nz48_17, hz48_17, hS⟩ := at_s hS
  refine VL.q (q_ixo (s := a6_9) Tryz.underlying82 gsz9 rfl rfl nz48_17 (lt_of_get nz48_17 hz48_17)) (by decide) ?_
  refine VL.storeE (s := a6_9) (T := 9) (j := 0) (vc := [str s0_8]) (s0_8 : Str) (by decide) rfl rfl hz48_17 rfl gsz9 rfl rfl (Nat.le_of_ble_eq_true rfl) rfl (fun w18 hw18 haw18 hcw18 hvw18 hbw18 how18 => ?_)
  rw [← hvw18]
  replace hS := lt_to hw18 hS
  refine Zl ?_
  refine VC.keep [6] rfl ?_
  refine Zq (Zr ?_)
  refine Zm ?_
  refine Za ?_
  refine Zl ?_
  cases hS
  exact VC.ret (fin1 (.inr rfl) rfl rfl w18 rfl rfl (by (try dsimp only); exact InM.out) (by (try dsimp only); exact EntO.out))
 replace hS := it_f h43 hS
 refine Zk ?_
 refine Zq (Zr ?_)
 refine Zm ?_
 refine Za ?_
 refine Zl ?_
 refine VC.keep [4] rfl ?_
 cases hS
 exact VC.ret (fin1 (.inr rfl) rfl rfl a6_9 rfl rfl (by (try dsimp only); exact InM.out) (by (try dsimp only); exact EntO.out))
theorem internal_stringslite_IndexByte_ct (s_0 : Str) (c_1 : Int) {r : Int} (hS : Sh.internal_stringslite_IndexByte s_0 c_1 = some r) :
 Ct Tryz.prog 288 [str s_0, .int .u8 c_1] Mo.tt (Ow.emp) (X := Unit) (fun _ => i64 r) (fun _ => True) (fun _ => Mo.tt) (fun _ => Ow.emp) := by
 refine Ct.of Tryz.func288 rfl (by kernel_rfl) Tryz.ntmps288 (by simp) fun c => ?_
 unfold Sh.internal_stringslite_IndexByte at hS
 refine Zq (Zr ?_)
 refine Za ?_
 refine Zl ?_
 refine Zq (Zr ?_)
 refine Zm ?_
 refine Zm ?_
 refine VL.q (q_extern Tryz.func303 rfl rfl (by kernel_rfl) (by kernel_rfl) rfl (fun w => x_ixS s_0 c_1 w)) (by decide) ?_
 refine Za ?_
 refine Zl ?_
 cases hS
 exact Ze
theorem internal_stringslite_Index_ct (s_0 : Str) (substr_1 : Str) {r : Int} (hS : Sh.internal_stringslite_Index s_0 substr_1 = some r) :
 Ct Tryz.prog 264 [str s_0, str substr_1] Mo.tt (Ow.emp) (X := Unit) (fun _ => i64 r) (fun _ => True) (fun _ => Mo.tt) (fun _ => Ow.emp) := by
 refine Ct.of Tryz.func264 rfl (by kernel_rfl) Tryz.ntmps264 (by simp) fun c => ?_
 unfold Sh.internal_stringslite_Index at hS
 refine Zq (Zr ?_)
 refine Za ?_
 refine Zl ?_
 refine Zq (Zr ?_)
 refine Zm ?_
 refine VL.q (q_slen Tryz.underlying9 rfl) (by decide) ?_
 refine Za ?_
 refine Zl ?_
 refine Zq (Zb ?_)
 refine VC.cutJ (S := Bool) (fun (x16_1 : Bool) => x16_1) (fun (x16_1 : Bool) => [(0, str s_0), (1, str substr_1), (5, i64 (substr_1.length : Int)), (16, .bool x16_1)]) (fun (x16_1 : Bool) => Mo.tt) (fun (x16_1 : Bool) => Ow.emp) hS ?_ ?_
 ·
  clear hS
  intro k2 hS
  refine Zr ?_
  refine Zm ?_
  refine VL.q (q_eql rfl rfl) (by decide) ?_
  refine Zm ?_
  refine VL.split_dec 19 rfl (fun h19 => ?_) (fun h19 => ?_)
  ·
   replace hS := it_t h19 hS
   refine Zn ?_
   refine Zn ?_
   refine Zn ?_
   refine Zt ?_
   refine Za ?_
   refine VL.mt true [0, 1, 5, 16] (fun _ _ h => h) hS rfl
  replace hS := it_f h19 hS
  refine Zg ?_
  refine Zg ?_
  refine VL.gy rfl rfl (q_seq rfl rfl) (by decide) ?_
  refine Zf ?_
  refine Za ?_
  refine VL.mt (decide (substr_1 = s_0)) [0, 1, 5, 16] (fun _ _ h => h) hS rfl
 clear hS
 rintro x16_1 hS
 show VC _ _ _ _ _ [(0, str s_0), (1, str substr_1), (5, i64 (substr_1.length : Int)), (16, .bool x16_1)] (Mo.and Mo.tt _) (Ow.emp)
 refine VC.cond rfl (fun h16 => ?_) (fun h16 => ?_)
 ·
  replace hS := it_t h16 hS
  refine Zq (Zr ?_)
  refine Za ?_
  refine Zl ?_
  cases hS
  exact Ze
 replace hS := it_b h16 hS
 refine Zq (Zr ?_)
 refine Zm ?_
 refine VL.q (q_eql rfl rfl) (by decide) ?_
 refine Za ?_
 refine Zl ?_
 refine VC.cond_dec rfl (fun h24 => ?_) (fun h24 => ?_)
 ·
  replace hS := it_t h24 hS
  refine Zq (Zr ?_)
  refine Zm ?_
  refine Zm ?_
  obtain ⟨z29_3, nz29_3, hz29_3, hS⟩ := at_s hS
  refine VL.q (q_sidx Tryz.underlying9 rfl rfl nz29_3 hz29_3) (by decide) ?_
  obtain ⟨y30_4, ey30_4, hS⟩ := bd_s hS
  refine VL.q (q_call (internal_stringslite_IndexByte_ct s_0 (z29_3.toNat : Int) ey30_4) rfl (fun _ _ => rfl)) (by decide) ?_
  refine Za ?_
  refine Zl ?_
  refine VC.keep [4] rfl ?_
  cases hS
  exact Ze
 replace hS := it_f h24 hS
 refine Zq (Zr ?_)
 refine Zm ?_
 refine Zm ?_
 refine VL.q (q_slen Tryz.underlying9 rfl) (by decide) ?_
 refine VL.q (q_geq rfl rfl) (by decide) ?_
 refine Za ?_
 refine Zl ?_
 refine VC.keep [0, 1, 5, 31] rfl ?_
 refine VC.cond_dec rfl (fun h31 => ?_) (fun h31 => ?_)
 ·
  replace hS := it_t h31 hS
  refine Zq (Zr ?_)
  refine Za ?_
  refine Zl ?_
  cases hS
  exact Ze
 replace hS := it_f h31 hS
 refine Zq (Zr ?_)
 refine Zm ?_
 cases hS
theorem strings_Index_ct (s_0 : Str) (substr_1 : Str) {r : Int} (hS : Sh.strings_Index s_0 substr_1 = some r) :
 Ct Tryz.prog 228 [str s_0, str substr_1] Mo.tt (Ow.emp) (X := Unit) (fun _ => i64 r) (fun _ => True) (fun _ => Mo.tt) (fun _ => Ow.emp) := by
 refine Ct.of Tryz.func228 rfl (by kernel_rfl) Tryz.ntmps228 (by simp) fun c => ?_
 unfold Sh.strings_Index at hS
 refine Zq (Zr ?_)
 refine Za ?_
 refine Zl ?_
 refine Zq (Zr ?_)
 refine Zm ?_
 refine Zm ?_
 obtain ⟨y7_1, ey7_1, hS⟩ := bd_s hS
 refine VL.q (q_call (internal_stringslite_Index_ct s_0 substr_1 ey7_1) rfl (fun _ _ => rfl)) (by decide) ?_
 refine Za ?_
 refine Zl ?_
 cases hS
 exact Ze
theorem strings_Count_ct (s_0 : Str) (substr_1 : Str) {r : Int} (hS : Sh.strings_Count s_0 substr_1 = some r) :
 Ct Tryz.prog 260 [str s_0, str substr_1] Mo.tt (Ow.emp) (X := Unit) (fun _ => i64 r) (fun _ => True) (fun _ => Mo.tt) (fun _ => Ow.emp) := by
 refine Ct.of Tryz.func260 rfl (by kernel_rfl) Tryz.ntmps260 (by simp) fun c => ?_
 unfold Sh.strings_Count at hS
 refine Zq (Zr ?_)
 refine Za ?_
 refine Zl ?_
 refine Zq (Zq (Zr ?_))
 refine Zm ?_
 refine VL.q (q_slen Tryz.underlying9 rfl) (by decide) ?_
 refine VL.q (q_eql rfl rfl) (by decide) ?_
 refine Zl ?_
 refine VC.cond_dec rfl (fun h9 => ?_) (fun h9 => ?_)
 ·
  replace hS := it_t h9 hS
  refine Zq (Zr ?_)
  refine Zm ?_
  obtain ⟨y11_1, ey11_1, hS⟩ := bd_s hS
  refine VL.q (q_call (unicode_utf8_RuneCountInString_ct s_0 ey11_1) rfl (fun _ _ => rfl)) (by decide) ?_
  obtain ⟨b12, hS⟩ := gd_s hS
  refine VL.q (q_add rfl rfl b12) (by decide) ?_
  refine Za ?_
  refine Zl ?_
  cases hS
  exact Ze
 replace hS := it_f h9 hS
 refine Zk ?_
 refine Zq (Zq (Zr ?_))
 refine Zm ?_
 refine VL.q (q_slen Tryz.underlying9 rfl) (by decide) ?_
 refine VL.q (q_eql rfl rfl) (by decide) ?_
 refine Zl ?_
 refine VC.cond_dec rfl (fun h15 => ?_) (fun h15 => ?_)
 ·
  replace hS := it_t h15 hS
  refine Zq (Zr ?_)
  refine Zm ?_
  refine Zm ?_
  obtain ⟨z18_2, nz18_2, hz18_2, hS⟩ := at_s hS
  refine VL.q (q_sidx Tryz.underlying9 rfl rfl nz18_2 hz18_2) (by decide) ?_
  refine VL.q (q_extern Tryz.func282 rfl rfl (by kernel_rfl) (by kernel_rfl) rfl (fun w => x_cntS s_0 (z18_2.toNat : Int) w)) (by decide) ?_
  refine Za ?_
  refine Zl ?_
  refine VC.keep [4] rfl ?_
  cases hS
  exact Ze
 replace hS := it_f h15 hS
 refine Zk ?_
 refine Zq (Zr ?_)
 refine Za ?_
 refine Zl ?_
 refine Zb ?_
 refine VC.iter (S := Str × Int) (fun sg => (sg.1, sg.2)) (fun sg => [(0, str sg.1), (1, str substr_1), (5, i64 sg.2)]) (fun sg => Mo.tt) (fun sg => Ow.emp) (s_0, 0) [0, 1, 5] hS rfl ?_
 clear hS
 rintro ⟨s0_3, n5_4⟩ m1 y1 hS hK1
 show VC _ _ _ _ _ [(0, str s0_3), (1, str substr_1), (5, i64 n5_4)] (Mo.and Mo.tt _) (Ow.emp)
 refine Zb (Zq (Zr ?_))
 refine Zm ?_
 refine Zm ?_
 obtain ⟨y22_5, ey22_5, hS⟩ := bd_s hS
 refine VL.q (q_call (strings_Index_ct s0_3 substr_1 ey22_5) rfl (fun _ _ => rfl)) (by decide) ?_
 refine Za ?_
 refine Zl ?_
 refine Zq (Zq (Zr ?_))
 refine Zm ?_
 refine VL.q (q_eql rfl rfl) (by decide) ?_
 refine Zl ?_
 refine VC.cond_dec rfl (fun h24 => ?_) (fun h24 => ?_)
 ·
  replace hS := it_t h24 hS
  refine Zq (Zr ?_)
  refine Zm ?_
  refine Za ?_
  refine Zl ?_
  refine VC.keep [4] rfl ?_
  replace hS := up2 hS hK1
  cases hS
  exact Ze
 replace hS := it_f h24 hS
 refine Zk ?_
 refine Zq (Zr ?_)
 refine Zm ?_
 obtain ⟨b27, hS⟩ := gd_s hS
 refine VL.q (q_add rfl rfl b27) (by decide) ?_
 refine Za ?_
 refine Zl ?_
 refine VC.keep [0, 1, 5, 6] rfl ?_
 refine Zr ?_
 refine Zm ?_
 refine Zm ?_
 refine Zm ?_
 refine VL.q (q_slen Tryz.underlying9 rfl) (by decide) ?_
 obtain ⟨b32, hS⟩ := gd_s hS
 refine VL.q (q_add rfl rfl b32) (by decide) ?_
 obtain ⟨b33, hS⟩ := gd_s hS
 obtain ⟨y33_6, ey33_6, hS⟩ := lt_s hS
 refine VL.q (q_sfromE Tryz.underlying9 rfl rfl b33.1 b33.2 ey33_6) (by decide) ?_
 refine Za ?_
 refine VL.rnd (y33_6, (n5_4 + 1)) [0, 1, 5] (fun _ _ h => h) (go2 hS hK1) rfl
theorem strings_genSplit_ct (s_0 : Str) (sep_1 : Str) (sepSave_2 : Int) (n_3 : Int) {r : List Str} (hS : Sh.strings_genSplit s_0 sep_1 sepSave_2 n_3 = some r) :
 Ct Tryz.prog 221 [str s_0, str sep_1, i64 sepSave_2, i64 n_3] Mo.tt (Ow.emp) (X := Sv Str) (fun x => x.val) (fun x => r = x.l) (fun x => x.ok) (fun x => Ow.emp) := by
 refine Ct.of Tryz.func221 rfl (by kernel_rfl) Tryz.ntmps221 (by simp) fun c => ?_
 unfold Sh.strings_genSplit at hS
 refine Zq (Zr ?_)
 refine Za ?_
 refine Zl ?_
 refine Zq (Zq (Zr ?_))
 refine Zm ?_
 refine VL.q (q_eql rfl rfl) (by decide) ?_
 refine Zl ?_
 refine VC.cond_dec rfl (fun h13 => ?_) (fun h13 => ?_)
 ·
  replace hS := it_t h13 hS
  refine Zq (Zr ?_)
  refine Za ?_
  refine Zl ?_
  cases hS
  exact VC.ret (fin1 (.inr rfl) rfl rfl ⟨none, 0, []⟩ rfl rfl (by (try dsimp only); exact InM.out) (fun _ _ => trivial))
 replace hS := it_f h13 hS
 refine Zk ?_
 refine Zq (Zq (Zr ?_))
 refine Zm ?_
 refine Zs ?_
 refine Zl ?_
 refine VC.cond_dec rfl (fun h15 => ?_) (fun h15 => ?_)
 ·
  replace hS := it_t h15 hS
  refine Zq (Zr ?_)
  refine Zm ?_
  refine Zm ?_
  obtain ⟨y18_1, ey18_1, hS⟩ := bd_s hS
  refine VL.callO (strings_explode_ct s_0 n_3 ey18_1) rfl (by decide) ?_
  rintro q18_1_0 rfl
  try dsimp only
  refine Za ?_
  refine Zl ?_
  refine VC.keep [8] rfl ?_
  refine VC.shut q18_1_0 9 (fun _ _ _ _ => trivial) ?_
  cases hS
  exact VC.ret (fin1 (.inr rfl) rfl rfl q18_1_0 rfl rfl (by (try dsimp only); exact InM.out) (fun _ _ => trivial))
 replace hS := it_f h15 hS
 refine Zk ?_
 refine VC.cutJ (S := Int) (fun (n3_2 : Int) => n3_2) (fun (n3_2 : Int) => [(0, str s_0), (1, str sep_1), (2, i64 sepSave_2), (3, i64 n3_2)]) (fun (n3_2 : Int) => Mo.tt) (fun (n3_2 : Int) => Ow.emp) hS ?_ ?_
 ·
  clear hS
  intro k3 hS
  refine Zq (Zr ?_)
  refine Zm ?_
  refine VL.q (q_lss rfl rfl) (by decide) ?_
  refine Zl ?_
  refine VC.cond_dec rfl (fun h20 => ?_) (fun h20 => ?_)
  ·
   replace hS := it_t h20 hS
   refine Zr ?_
   refine Zm ?_
   refine Zm ?_
   obtain ⟨y23_4, ey23_4, hS⟩ := bd_s hS
   refine VL.q (q_call (strings_Count_ct s_0 sep_1 ey23_4) rfl (fun _ _ => rfl)) (by decide) ?_
   obtain ⟨b24, hS⟩ := gd_s hS
   refine VL.q (q_add rfl rfl b24) (by decide) ?_
   refine Za ?_
   refine VL.mt (y23_4 + 1) [0, 1, 2, 3] (fun _ _ h => h) hS rfl
  replace hS := it_f h20 hS
  refine VC.skip_mt n_3 [0, 1, 2, 3] (fun _ _ h => h) hS rfl
 clear hS
 rintro n3_2 hS
 show VC _ _ _ _ _ [(0, str s_0), (1, str sep_1), (2, i64 sepSave_2), (3, i64 n3_2)] (Mo.and Mo.tt _) (Ow.emp)
 refine Zq (Zr ?_)
 refine Zm ?_
 refine Zm ?_
 refine VL.q (q_slen Tryz.underlying9 rfl) (by decide) ?_
 obtain ⟨b28, hS⟩ := gd_s hS
 refine VL.q (q_add rfl rfl b28) (by decide) ?_
 refine VL.q (q_min rfl) (by decide) ?_
 refine Za ?_
 refine Zl ?_
 refine Zq (Zr ?_)
 refine Zm ?_
 obtain ⟨b31, hS⟩ := gd_s hS
 refine VL.make (α := Str) (z := []) Tryz.underlying82 gmk9 (by decide) rfl rfl b31.1 (Int.le_refl _) (by omega) (by omega) (by decide) (fun s31_5 hs31_5 => ?_)
 replace hS := lt_to hs31_5 hS
 refine Za ?_
 refine Zl ?_
 refine VC.keep [0, 1, 2, 3, 9] rfl ?_
 refine Zq (Zr ?_)
 refine Zm ?_
 obtain ⟨b33, hS⟩ := gd_s hS
 refine VL.q (q_sub rfl rfl b33) (by decide) ?_
 refine Za ?_
 refine Zl ?_
 refine Zq (Zr ?_)
 refine Za ?_
 refine Zl ?_
 refine VC.cutJ (S := Str × Sv Str × Int) (fun sg => (sg.1, sg.2.1.l, sg.2.2)) (fun sg => [(0, str sg.1), (9, sg.2.1.val), (10, i64 sg.2.2)]) (fun sg => Mo.tt) (fun sg => Ow.star (Sv.own sg.2.1 9) (Ow.emp)) hS ?_ ?_
 ·
  clear hS
  intro k10 hS
  refine Zb ?_
  refine VC.iter (S := Str × Sv Str × Int) (fun sg => (sg.1, sg.2.1.l, sg.2.2)) (fun sg => [(0, str sg.1), (1, str sep_1), (2, i64 sepSave_2), (3, i64 ((min n3_2 ((s_0.length : Int) + 1)) - 1)), (9, sg.2.1.val), (10, i64 sg.2.2)]) (fun sg => Mo.tt) (fun sg => Ow.star (Sv.own sg.2.1 9) (Ow.emp)) (s_0, s31_5, 0) [0, 1, 2, 3, 9, 10] hS rfl ?_
  clear hS
  rintro ⟨s0_11, a9_12, i10_13⟩ m1 y1 hS hK1
  show VC _ _ _ _ _ [(0, str s0_11), (1, str sep_1), (2, i64 sepSave_2), (3, i64 ((min n3_2 ((s_0.length : Int) + 1)) - 1)), (9, a9_12.val), (10, i64 i10_13)] (Mo.and Mo.tt _) (Ow.star (Sv.own a9_12 9) (Ow.emp))
  refine Zq (Zq (Zr ?_))
  refine Zm ?_
  refine Zm ?_
  refine VL.q (q_lss rfl rfl) (by decide) ?_
  refine Zl ?_
  refine VC.cond_dec rfl (fun h36 => ?_) (fun h36 => ?_)
  ·
   replace hS := it_t h36 hS
   refine Zk ?_
   refine Zb (Zq (Zr ?_))
   refine Zm ?_
   refine Zm ?_
   obtain ⟨y39_14, ey39_14, hS⟩ := bd_s hS
   refine VL.q (q_call (strings_Index_ct s0_11 sep_1 ey39_14) rfl (fun _ _ => rfl)) (by decide) ?_
   refine Za ?_
   refine Zl ?_
   refine Zq (Zq (Zr ?_))
   refine Zm ?_
   refine VL.q (q_lss rfl rfl) (by decide) ?_
   refine Zl ?_
   refine VC.keep [0, 1, 2, 3, 9, 10, 11, 41] rfl ?_
   refine VC.cond_dec rfl (fun h41 => ?_) (fun h41 => ?_)
   ·
    replace hS := it_t h41 hS
    replace hS := up2 hS hK1
    refine VC.exit_mt (s0_11, a9_12, i10_13) [0, 9, 10] (fun _ _ h => h) hS rfl
   replace hS := it_f h41 hS
   refine Zk ?_
   refine Zq (Zr ?_)
   refine Zm ?_
   refine Zm ?_
   refine Zm ?_
   refine Zm ?_
   refine Zm ?_
   obtain ⟨b47, hS⟩ := gd_s hS
   refine VL.q (q_add rfl rfl b47) (by decide) ?_
   obtain ⟨b48, hS⟩ := gd_s hS
   obtain ⟨y48_15, ey48_15, hS⟩ := lt_s hS
   refine VL.q (q_stoE Tryz.underlying9 rfl rfl b48.1 b48.2 ey48_15) (by decide) ?_
   obtain ⟨z49_16, nz49_16, hz49_16, hS⟩ := at_s hS
   refine VL.q (q_ixo (s := a9_12) Tryz.underlying82 gsz9 rfl rfl nz49_16 (lt_of_get nz49_16 hz49_16)) (by decide) ?_
   refine VL.storeE (s := a9_12) (T := 9) (j := 0) (vc := [str y48_15]) (y48_15 : Str) (by decide) rfl rfl hz49_16 rfl gsz9 rfl rfl (Nat.le_of_ble_eq_true rfl) rfl (fun w17 hw17 haw17 hcw17 hvw17 hbw17 how17 => ?_)
   rw [← hvw17]
   replace hS := lt_to hw17 hS
   refine Zl ?_
   refine VC.keep [0, 1, 2, 3, 9, 10, 11] rfl ?_
   refine Zq (Zr ?_)
   refine Zm ?_
   refine Zm ?_
   refine Zm ?_
   refine VL.q (q_slen Tryz.underlying9 rfl) (by decide) ?_
   obtain ⟨b54, hS⟩ := gd_s hS
   refine VL.q (q_add rfl rfl b54) (by decide) ?_
   obtain ⟨b55, hS⟩ := gd_s hS
   obtain ⟨y55_19, ey55_19, hS⟩ := lt_s hS
   refine VL.q (q_sfromE Tryz.underlying9 rfl rfl b55.1 b55.2 ey55_19) (by decide) ?_
   refine Za ?_
   refine Zl ?_
   refine VC.keep [0, 1, 2, 3, 9, 10] rfl ?_
   refine Zr ?_
   refine Zm ?_
   obtain ⟨b57, hS⟩ := gd_s hS
   refine VL.q (q_add rfl rfl b57) (by decide) ?_
   refine Za ?_
   refine VL.rnd (y55_19, w17, (i10_13 + 1)) [0, 1, 2, 3, 9, 10] (fun _ _ h => h) (go2 hS hK1) rfl
  replace hS := it_f h36 hS
  replace hS := up2 hS hK1
  refine VC.exit_mt (s0_11, a9_12, i10_13) [0, 9, 10] (fun _ _ h => h) hS rfl
 clear hS
 rintro ⟨s0_7, a9_8, i10_9⟩ hS
 show VC _ _ _ _ _ [(0, str s0_7), (9, a9_8.val), (10, i64 i10_9)] (Mo.and Mo.tt _) (Ow.star (Sv.own a9_8 9) (Ow.emp))
 refine Zq (Zr ?_)
 refine Zm ?_
 refine Zm ?_
 refine Zm ?_
 obtain ⟨z61_20, nz61_20, hz61_20, hS⟩ := at_s hS
 refine VL.q (q_ixo (s := a9_8) Tryz.underlying82 gsz9 rfl rfl nz61_20 (lt_of_get nz61_20 hz61_20)) (by decide) ?_
 refine VL.storeE (s := a9_8) (T := 9) (j := 0) (vc := [str s0_7]) (s0_7 : Str) (by decide) rfl rfl hz61_20 rfl gsz9 rfl rfl (Nat.le_of_ble_eq_true rfl) rfl (fun w21 hw21 haw21 hcw21 hvw21 hbw21 how21 => ?_)
 rw [← hvw21]
 replace hS := lt_to hw21 hS
 refine Zl ?_
 refine Zq (Zr ?_)
 refine Zm ?_
 refine Zm ?_
 obtain ⟨b64, hS⟩ := gd_s hS
 refine VL.q (q_add rfl rfl b64) (by decide) ?_
 refine VL.shut w21 9 (fun _ _ _ _ => trivial) ?_
 obtain ⟨b65, hS⟩ := gd_s hS
 refine VL.sto Tryz.underlying82 gsz9 rfl rfl b65.1 (b65.2) (by decide) fun s65_23 hs65_23 => ?_
 replace hS := lt_to hs65_23 hS
 refine Za ?_
 refine Zl ?_
 refine VC.keep [8] rfl ?_
 cases hS
 exact VC.ret (fin1 (.inr rfl) rfl rfl s65_23 rfl rfl (by (try dsimp only); exact InM.out) (fun _ _ => trivial))
theorem strings_Split_ct (s_0 : Str) (sep_1 : Str) {r : List Str} (hS : Sh.strings_Split s_0 sep_1 = some r) :
 Ct Tryz.prog 177 [str s_0, str sep_1] Mo.tt (Ow.emp) (X := Sv Str) (fun x => x.val) (fun x => r = x.l) (fun x => x.ok) (fun x => Ow.emp) := by
 refine Ct.of Tryz.func177 rfl (by kernel_rfl) Tryz.ntmps177 (by simp) fun c => ?_
 unfold Sh.strings_Split at hS
 refine Zq (Zr ?_)
 refine Za ?_
 refine Zl ?_
 refine Zq (Zr ?_)
 refine Zm ?_
 refine Zm ?_
 obtain ⟨y7_1, ey7_1, hS⟩ := bd_s hS
 refine VL.callF (strings_genSplit_ct s_0 sep_1 0 (-1) ey7_1) rfl (by decide) ?_
 rintro q7_1_0 rfl
 try dsimp only
 refine Za ?_
 refine Zl ?_
 cases hS
 exact VC.ret (fin1 (.inr rfl) rfl rfl q7_1_0 rfl rfl (by (try dsimp only); exact InM.out) (fun _ _ => trivial))
theorem path_good_ct (c_0 : Int) {r : Bool} (hS : Sh.path_good c_0 = some r) :
 Ct Tryz.prog 222 [.int .u8 c_0] Mo.tt (Ow.emp) (X := Unit) (fun _ => .bool r) (fun _ => True) (fun _ => Mo.tt) (fun _ => Ow.emp) := by
 refine Ct.of Tryz.func222 rfl (by kernel_rfl) Tryz.ntmps222 (by simp) fun c => ?_
 unfold Sh.path_good at hS
 refine Zq (Zr ?_)
 refine Za ?_
 refine Zl ?_
 refine VC.cutJ (S := Unit) (fun (_ : Unit) => ()) (fun (_ : Unit) => [(0, .int .u8 c_0)]) (fun (_ : Unit) => Mo.tt) (fun (_ : Unit) => Ow.emp) hS ?_ ?_
 ·
  clear hS
  intro k1 hS
  refine Zq (Zr ?_)
  refine Zm ?_
  refine Zl ?_
  refine Zb ?_
  refine VC.cutJ (S := Unit) (fun (_ : Unit) => ()) (fun (_ : Unit) => []) (fun (_ : Unit) => Mo.tt) (fun (_ : Unit) => Ow.emp) hS ?_ ?_
  ·
   clear hS
   intro k2 hS
   refine Zb (Zb (Zb (Zq (Zq (Zq (Zr ?_))))))
   refine VL.q (q_eql rfl rfl) (by decide) ?_
   refine Za ?_
   refine Zl ?_
   refine VC.cond_dec rfl (fun h4 => ?_) (fun h4 => ?_)
   ·
    replace hS := it_t h4 hS
    refine VC.exit_mt () [] (fun _ _ h => h) hS rfl
   replace hS := it_f h4 hS
   refine Zk ?_
   refine Zq (Zq (Zr ?_))
   refine VL.q (q_eql rfl rfl) (by decide) ?_
   refine Za ?_
   refine Zl ?_
   refine VC.cond_dec rfl (fun h6 => ?_) (fun h6 => ?_)
   ·
    replace hS := it_t h6 hS
    refine VC.exit_mt () [] (fun _ _ h => h) hS rfl
   replace hS := it_f h6 hS
   refine Zk ?_
   refine Zq (Zr ?_)
   refine VL.q (q_eql rfl rfl) (by decide) ?_
   refine Za ?_
   refine Zl ?_
   refine VC.cond_dec rfl (fun h8 => ?_) (fun h8 => ?_)
   ·
    replace hS := it_t h8 hS
    refine VC.exit_mt () [] (fun _ _ h => h) hS rfl
   replace hS := it_f h8 hS
   refine Zk ?_
   refine VC.exit_mt () [0] (fun _ _ h => h) hS rfl
  clear hS
  rintro _ hS
  show VC _ _ _ _ _ [] (Mo.and Mo.tt _) (Ow.emp)
  refine Zq (Zq (Zr ?_))
  refine Za ?_
  refine Zl ?_
  cases hS
  exact Ze
 clear hS
 rintro _ hS
 show VC _ _ _ _ _ [(0, .int .u8 c_0)] (Mo.and Mo.tt _) (Ow.emp)
 refine Zq (Zr ?_)
 refine Zm ?_
 refine VL.q (q_geq rfl rfl) (by decide) ?_
 refine Zm ?_
 refine VL.split_dec 12 rfl (fun h12 => ?_) (fun h12 => ?_)
 ·
  replace hS := it_t h12 hS
  refine Zg ?_
  refine VL.gy rfl rfl (q_leq rfl rfl) (by decide) ?_
  refine Zt ?_
  refine Zm ?_
  refine VL.split_dec 16 rfl (fun h16 => ?_) (fun h16 => ?_)
  ·
   replace hS := it_t h16 hS
   refine Zn ?_
   refine Zn ?_
   refine Zn ?_
   refine VL.gu rfl rfl (by decide) ?_
   refine VL.gu rfl rfl (by decide) ?_
   refine Zn ?_
   refine Zt ?_
   refine Za ?_
   refine Zl ?_
   refine VC.keep [2] rfl ?_
   cases hS
   exact Ze
  replace hS := it_f h16 hS
  refine Zg ?_
  refine VL.gy rfl rfl (q_geq rfl rfl) (by decide) ?_
  refine Zg ?_
  refine VL.split_dec 19 rfl (fun h19 => ?_) (fun h19 => ?_)
  ·
   replace hS := it_t h19 hS
   refine Zg ?_
   refine VL.gy rfl rfl (q_leq rfl rfl) (by decide) ?_
   refine VL.gy rfl rfl (q_pick_t rfl rfl) (by decide) ?_
   refine Zf ?_
   refine Za ?_
   refine Zl ?_
   refine VC.keep [2] rfl ?_
   cases hS
   exact Ze
  replace hS := it_f h19 hS
  refine Zn ?_
  refine Zn ?_
  refine VL.gy rfl rfl (q_pick_f rfl rfl) (by decide) ?_
  refine Zf ?_
  refine Za ?_
  refine Zl ?_
  refine VC.keep [2] rfl ?_
  cases hS
  exact Ze
 replace hS := it_f h12 hS
 refine Zn ?_
 refine Zn ?_
 refine Zf ?_
 refine Zm ?_
 refine Zg ?_
 refine VL.gy rfl rfl (q_geq rfl rfl) (by decide) ?_
 refine Zg ?_
 refine VL.split_dec 19 rfl (fun h19 => ?_) (fun h19 => ?_)
 ·
  replace hS := it_t h19 hS
  refine Zg ?_
  refine VL.gy rfl rfl (q_leq rfl rfl) (by decide) ?_
  refine VL.gy rfl rfl (q_pick_t rfl rfl) (by decide) ?_
  refine Zf ?_
  refine Za ?_
  refine Zl ?_
  refine VC.keep [2] rfl ?_
  cases hS
  exact Ze
 replace hS := it_f h19 hS
 refine Zn ?_
 refine Zn ?_
 refine VL.gy rfl rfl (q_pick_f rfl rfl) (by decide) ?_
 refine Zf ?_
 refine Za ?_
 refine Zl ?_
 refine VC.keep [2] rfl ?_
 cases hS
 exact Ze
theorem path_part_ct (s_0 : Str) {r : Bool} (hS : Sh.path_part s_0 = some r) :
 Ct Tryz.prog 178 [str s_0] Mo.tt (Ow.emp) (X := Unit) (fun _ => .bool r) (fun _ => True) (fun _ => Mo.tt) (fun _ => Ow.emp) := by
 refine Ct.of Tryz.func178 rfl (by kernel_rfl) Tryz.ntmps178 (by simp) fun c => ?_
 unfold Sh.path_part at hS
 refine Zq (Zr ?_)
 refine Za ?_
 refine Zl ?_
 refine Zq ?_
 refine VC.cutJ (S := Bool) (fun (x14_1 : Bool) => x14_1) (fun (x14_1 : Bool) => [(0, str s_0), (14, .bool x14_1)]) (fun (x14_1 : Bool) => Mo.tt) (fun (x14_1 : Bool) => Ow.emp) hS ?_ ?_
 ·
  clear hS
  intro k2 hS
  refine Zr ?_
  refine Zm ?_
  refine Zs ?_
  refine Zm ?_
  refine VL.split_dec 7 rfl (fun h7 => ?_) (fun h7 => ?_)
  ·
   replace hS := it_t h7 hS
   refine Zn ?_
   refine Zn ?_
   refine Zt ?_
   refine Zm ?_
   refine Zn ?_
   refine Zn ?_
   refine Zt ?_
   refine VL.mt true [0, 14] (fun _ _ h => h) hS rfl
  replace hS := it_f h7 hS
  refine Zg ?_
  refine VL.gy rfl rfl (q_seq rfl rfl) (by decide) ?_
  refine Zf ?_
  refine Zm ?_
  refine VL.split_dec 11 rfl (fun h11 => ?_) (fun h11 => ?_)
  ·
   replace hS := it_t h11 hS
   refine Zn ?_
   refine Zn ?_
   refine Zt ?_
   refine VL.mt true [0, 14] (fun _ _ h => h) hS rfl
  replace hS := it_f h11 hS
  refine Zg ?_
  refine VL.gy rfl rfl (q_seq rfl rfl) (by decide) ?_
  refine Zf ?_
  refine VL.mt (decide (s_0 = [46, 46])) [0, 14] (fun _ _ h => h) hS rfl
 clear hS
 rintro x14_1 hS
 show VC _ _ _ _ _ [(0, str s_0), (14, .bool x14_1)] (Mo.and Mo.tt _) (Ow.emp)
 refine VC.cond rfl (fun h14 => ?_) (fun h14 => ?_)
 ·
  replace hS := it_t h14 hS
  refine Zq (Zr ?_)
  refine Za ?_
  refine Zl ?_
  cases hS
  exact Ze
 replace hS := it_b h14 hS
 refine Zk ?_
 refine Zq (Zq (Zr ?_))
 refine Zm ?_
 obtain ⟨b16, hS⟩ := gd_s hS
 refine VL.s2b Tryz.underlying9 Tryz.underlying27 Tryz.underlying5 rfl b16 (by decide) fun s16_3 hs16_3 => ?_
 replace hS := lt_to hs16_3 hS
 refine VL.q (q_ln (s := s16_3) Tryz.underlying27 rfl) (by decide) ?_
 refine Zm ?_
 refine Zl ?_
 refine Zb ?_
 refine VC.iter (S := Int) (fun (x18_5 : Int) => x18_5) (fun (x18_5 : Int) => [(16, s16_3.val), (17, i64 (s16_3.l.length : Int)), (18, i64 x18_5)]) (fun (x18_5 : Int) => Mo.tt) (fun (x18_5 : Int) => Ow.emp) 0 [16, 17, 18] hS rfl ?_
 clear hS
 rintro x18_5 m1 y1 hS hK1
 show VC _ _ _ _ _ [(16, s16_3.val), (17, i64 (s16_3.l.length : Int)), (18, i64 x18_5)] (Mo.and Mo.tt _) (Ow.emp)
 refine Zq (Zr ?_)
 refine VL.q (q_lss rfl rfl) (by decide) ?_
 refine Zl ?_
 refine Zq ?_
 refine VC.cond_dec rfl (fun h19 => ?_) (fun h19 => ?_)
 ·
  replace hS := it_t h19 hS
  refine Zk ?_
  refine Zq (Zb (Zq (Zr ?_)))
  obtain ⟨z20_6, nz20_6, hz20_6, hS⟩ := at_s hS
  refine VL.q (q_ixm (s := s16_3) Tryz.underlying27 gsz5 rfl rfl nz20_6 (lt_of_get nz20_6 hz20_6)) (by decide) ?_
  refine VL.q (q_el (s := s16_3) gone5 rfl hz20_6 rfl) (by decide) ?_
  refine Za ?_
  refine Zl ?_
  refine Zq (Zr ?_)
  refine Zm ?_
  obtain ⟨y23_7, ey23_7, hS⟩ := bd_s hS
  refine VL.q (q_call (path_good_ct (z20_6.toNat : Int) ey23_7) rfl (fun _ _ => rfl)) (by decide) ?_
  refine VL.q (q_not rfl) (by decide) ?_
  refine Zl ?_
  refine VC.cond rfl (fun h24 => ?_) (fun h24 => ?_)
  ·
   replace hS := it_t h24 hS
   refine Zq (Zr ?_)
   refine Za ?_
   refine Zl ?_
   refine VC.keep [2] rfl ?_
   replace hS := up2 hS hK1
   cases hS
   exact Ze
  replace hS := it_b h24 hS
  refine Zk ?_
  refine Zr ?_
  obtain ⟨b25, hS⟩ := gd_s hS
  refine VL.q (q_add rfl rfl b25) (by decide) ?_
  refine Zm ?_
  refine VL.rnd (x18_5 + 1) [16, 17, 18] (fun _ _ h => h) (go2 hS hK1) rfl
 replace hS := it_f h19 hS
 replace hS := up2 hS hK1
 refine Zx ?_
 refine Zq (Zr ?_)
 refine Za ?_
 refine Zl ?_
 cases hS
 exact Ze
theorem path_Check_ct (p_0 : Str) {r : Int} (hS : Sh.path_Check p_0 = some r) :
 Ct Tryz.prog 122 [str p_0] Mo.tt (Ow.emp) (X := Unit) (fun _ => i64 r) (fun _ => True) (fun _ => Mo.tt) (fun _ => Ow.emp) := by
 refine Ct.of Tryz.func122 rfl (by kernel_rfl) Tryz.ntmps122 (by simp) fun c => ?_
 unfold Sh.path_Check at hS
 refine Zq (Zr ?_)
 refine Za ?_
 refine Zl ?_
 refine Zq (Zq (Zr ?_))
 refine Zm ?_
 refine VL.q (q_slen Tryz.underlying9 rfl) (by decide) ?_
 refine VL.q (q_gtr rfl rfl) (by decide) ?_
 refine Zl ?_
 refine VC.cond_dec rfl (fun h7 => ?_) (fun h7 => ?_)
 ·
  replace hS := it_t h7 hS
  refine Zq (Zr ?_)
  refine Za ?_
  refine Zl ?_
  cases hS
  exact Ze
 replace hS := it_f h7 hS
 refine Zk ?_
 refine Zq (Zq (Zr ?_))
 refine Zm ?_
 obtain ⟨y9_1, ey9_1, hS⟩ := bd_s hS
 refine VL.callF (strings_Split_ct p_0 [47] ey9_1) rfl (by decide) ?_
 rintro q9_1_0 rfl
 try dsimp only
 refine VL.q (q_ln (s := q9_1_0) Tryz.underlying82 rfl) (by decide) ?_
 refine Zm ?_
 refine Zl ?_
 refine Zb ?_
 refine VC.iter (S := Int) (fun (x11_2 : Int) => x11_2) (fun (x11_2 : Int) => [(9, q9_1_0.val), (10, i64 (q9_1_0.l.length : Int)), (11, i64 x11_2)]) (fun (x11_2 : Int) => Mo.tt) (fun (x11_2 : Int) => Ow.emp) 0 [9, 10, 11] hS rfl ?_
 clear hS
 rintro x11_2 m1 y1 hS hK1
 show VC _ _ _ _ _ [(9, q9_1_0.val), (10, i64 (q9_1_0.l.length : Int)), (11, i64 x11_2)] (Mo.and Mo.tt _) (Ow.emp)
 refine Zq (Zr ?_)
 refine VL.q (q_lss rfl rfl) (by decide) ?_
 refine Zl ?_
 refine Zq ?_
 refine VC.cond_dec rfl (fun h12 => ?_) (fun h12 => ?_)
 ·
  replace hS := it_t h12 hS
  refine Zk ?_
  refine Zq (Zb (Zq (Zr ?_)))
  obtain ⟨z13_3, nz13_3, hz13_3, hS⟩ := at_s hS
  refine VL.q (q_ixm (s := q9_1_0) Tryz.underlying82 gsz9 rfl rfl nz13_3 (lt_of_get nz13_3 hz13_3)) (by decide) ?_
  refine VL.q (q_el (s := q9_1_0) gone9 rfl hz13_3 rfl) (by decide) ?_
  refine Za ?_
  refine Zl ?_
  refine Zq (Zr ?_)
  refine Zm ?_
  obtain ⟨y16_4, ey16_4, hS⟩ := bd_s hS
  refine VL.q (q_call (path_part_ct z13_3 ey16_4) rfl (fun _ _ => rfl)) (by decide) ?_
  refine VL.q (q_not rfl) (by decide) ?_
  refine Zl ?_
  refine VC.cond rfl (fun h17 => ?_) (fun h17 => ?_)
  ·
   replace hS := it_t h17 hS
   refine Zq (Zr ?_)
   refine Za ?_
   refine Zl ?_
   refine VC.keep [2] rfl ?_
   replace hS := up2 hS hK1
   cases hS
   exact Ze
  replace hS := it_b h17 hS
  refine Zk ?_
  refine Zr ?_
  obtain ⟨b18, hS⟩ := gd_s hS
  refine VL.q (q_add rfl rfl b18) (by decide) ?_
  refine Zm ?_
  refine VL.rnd (x11_2 + 1) [9, 10, 11] (fun _ _ h => h) (go2 hS hK1) rfl
 replace hS := it_f h12 hS
 replace hS := up2 hS hK1
 refine Zx ?_
 refine Zq (Zr ?_)
 refine Za ?_
 refine Zl ?_
 cases hS
 exact Ze
theorem cmp_isNaN_string_ct (x_0 : Str) {r : Bool} (hS : Sh.cmp_isNaN_string x_0 = some r) :
 Ct Tryz.prog 223 [str x_0] Mo.tt (Ow.emp) (X := Unit) (fun _ => .bool r) (fun _ => True) (fun _ => Mo.tt) (fun _ => Ow.emp) := by
 refine Ct.of Tryz.func223 rfl (by kernel_rfl) Tryz.ntmps223 (by simp) fun c => ?_
 unfold Sh.cmp_isNaN_string at hS
 refine Zq (Zr ?_)
 refine Za ?_
 refine Zl ?_
 refine Zq (Zr ?_)
 refine Zm ?_
 refine Zm ?_
 refine VL.q (q_sne rfl rfl) (by decide) ?_
 refine Za ?_
 refine Zl ?_
 cases hS
 exact Ze
theorem cmp_Compare_string_ct (x_0 : Str) (y_1 : Str) {r : Int} (hS : Sh.cmp_Compare_string x_0 y_1 = some r) :
 Ct Tryz.prog 179 [str x_0, str y_1] Mo.tt (Ow.emp) (X := Unit) (fun _ => i64 r) (fun _ => True) (fun _ => Mo.tt) (fun _ => Ow.emp) := by
 refine Ct.of Tryz.func179 rfl (by kernel_rfl) Tryz.ntmps179 (by simp) fun c => ?_
 unfold Sh.cmp_Compare_string at hS
 refine Zq (Zr ?_)
 refine Za ?_
 refine Zl ?_
 refine Zq (Zr ?_)
 refine Zm ?_
 obtain ⟨y8_1, ey8_1, hS⟩ := bd_s hS
 refine VL.q (q_call (cmp_isNaN_string_ct x_0 ey8_1) rfl (fun _ _ => rfl)) (by decide) ?_
 refine Za ?_
 refine Zl ?_
 refine Zq (Zr ?_)
 refine Zm ?_
 obtain ⟨y10_2, ey10_2, hS⟩ := bd_s hS
 refine VL.q (q_call (cmp_isNaN_string_ct y_1 ey10_2) rfl (fun _ _ => rfl)) (by decide) ?_
 refine Za ?_
 refine Zl ?_
 refine Zq (Zq (Zr ?_))
 refine Zm ?_
 refine Zl ?_
 refine VC.cond rfl (fun h11 => ?_) (fun h11 => ?_)
 ·
  replace hS := it_t h11 hS
  refine Zq (Zq (Zr ?_))
  refine Zm ?_
  refine Zl ?_
  refine VC.keep [12] rfl ?_
  refine VC.cond rfl (fun h12 => ?_) (fun h12 => ?_)
  ·
   replace hS := it_t h12 hS
   refine Zq (Zr ?_)
   refine Za ?_
   refine Zl ?_
   cases hS
   exact Ze
  replace hS := it_b h12 hS
  refine Zk ?_
  refine Zq (Zr ?_)
  refine Za ?_
  refine Zl ?_
  cases hS
  exact Ze
 replace hS := it_b h11 hS
 refine Zk ?_
 refine Zq (Zq (Zr ?_))
 refine Zm ?_
 refine Zl ?_
 refine VC.keep [0, 1, 13] rfl ?_
 refine VC.cond rfl (fun h13 => ?_) (fun h13 => ?_)
 ·
  replace hS := it_t h13 hS
  refine Zq (Zr ?_)
  refine Za ?_
  refine Zl ?_
  cases hS
  exact Ze
 replace hS := it_b h13 hS
 refine Zk ?_
 refine Zq (Zq (Zr ?_))
 refine Zm ?_
 refine Zm ?_
 refine VL.q (q_slss rfl rfl) (by decide) ?_
 refine Zl ?_
 refine VC.cond rfl (fun h16 => ?_) (fun h16 => ?_)
 ·
  replace hS := it_t h16 hS
  refine Zq (Zr ?_)
  refine Za ?_
  refine Zl ?_
  cases hS
  exact Ze
 replace hS := it_b h16 hS
 refine Zk ?_
 refine Zq (Zq (Zr ?_))
 refine Zm ?_
 refine Zm ?_
 refine VL.q (q_sgtr rfl rfl) (by decide) ?_
 refine Zl ?_
 refine VC.cond rfl (fun h19 => ?_) (fun h19 => ?_)
 ·
  replace hS := it_t h19 hS
  refine Zq (Zr ?_)
  refine Za ?_
  refine Zl ?_
  cases hS
  exact Ze
 replace hS := it_b h19 hS
 refine Zk ?_
 refine Zq (Zr ?_)
 refine Za ?_
 refine Zl ?_
 cases hS
 exact Ze
theorem path_Compare_ct (a_0 : Str) (b_1 : Str) {r : Int} (hS : Sh.path_Compare a_0 b_1 = some r) :
 Ct Tryz.prog 123 [str a_0, str b_1] Mo.tt (Ow.emp) (X := Unit) (fun _ => i64 r) (fun _ => True) (fun _ => Mo.tt) (fun _ => Ow.emp) := by
 refine Ct.of Tryz.func123 rfl (by kernel_rfl) Tryz.ntmps123 (by simp) fun c => ?_
 unfold Sh.path_Compare at hS
 refine Zq (Zr ?_)
 refine Za ?_
 refine Zl ?_
 refine Zq (Zr ?_)
 refine Zm ?_
 refine Zm ?_
 obtain ⟨y7_1, ey7_1, hS⟩ := bd_s hS
 refine VL.q (q_call (cmp_Compare_string_ct a_0 b_1 ey7_1) rfl (fun _ _ => rfl)) (by decide) ?_
 refine Za ?_
 refine Zl ?_
 cases hS
 exact Ze
theorem internal_stringslite_HasPrefix_ct (s_0 : Str) (prefix_1 : Str) {r : Bool} (hS : Sh.internal_stringslite_HasPrefix s_0 prefix_1 = some r) :
 Ct Tryz.prog 238 [str s_0, str prefix_1] Mo.tt (Ow.emp) (X := Unit) (fun _ => .bool r) (fun _ => True) (fun _ => Mo.tt) (fun _ => Ow.emp) := by
 refine Ct.of Tryz.func238 rfl (by kernel_rfl) Tryz.ntmps238 (by simp) fun c => ?_
 unfold Sh.internal_stringslite_HasPrefix at hS
 refine Zq (Zr ?_)
 refine Za ?_
 refine Zl ?_
 refine Zq (Zr ?_)
 refine Zm ?_
 refine VL.q (q_slen Tryz.underlying9 rfl) (by decide) ?_
 refine Zm ?_
 refine VL.q (q_slen Tryz.underlying9 rfl) (by decide) ?_
 refine VL.q (q_geq rfl rfl) (by decide) ?_
 refine Zm ?_
 refine VL.split_dec 10 rfl (fun h10 => ?_) (fun h10 => ?_)
 ·
  replace hS := it_t h10 hS
  refine Zg ?_
  refine Zg ?_
  refine VL.gy rfl rfl (q_slen Tryz.underlying9 rfl) (by decide) ?_
  obtain ⟨b14, hS⟩ := gd_s hS
  obtain ⟨y14_1, ey14_1, hS⟩ := lt_s hS
  refine VL.gy rfl rfl (q_stoE Tryz.underlying9 rfl rfl b14.1 b14.2 ey14_1) (by decide) ?_
  refine Zg ?_
  refine VL.gy rfl rfl (q_seq rfl rfl) (by decide) ?_
  refine Zt ?_
  refine Za ?_
  refine Zl ?_
  refine VC.keep [4] rfl ?_
  cases hS
  exact Ze
 replace hS := it_f h10 hS
 refine Zn ?_
 refine Zn ?_
 refine Zn ?_
 refine Zn ?_
 refine Zn ?_
 refine Zn ?_
 refine Zf ?_
 refine Za ?_
 refine Zl ?_
 refine VC.keep [4] rfl ?_
 cases hS
 exact Ze
theorem strings_HasPrefix_ct (s_0 : Str) (prefix_1 : Str) {r : Bool} (hS : Sh.strings_HasPrefix s_0 prefix_1 = some r) :
 Ct Tryz.prog 197 [str s_0, str prefix_1] Mo.tt (Ow.emp) (X := Unit) (fun _ => .bool r) (fun _ => True) (fun _ => Mo.tt) (fun _ => Ow.emp) := by
 refine Ct.of Tryz.func197 rfl (by kernel_rfl) Tryz.ntmps197 (by simp) fun c => ?_
 unfold Sh.strings_HasPrefix at hS
 refine Zq (Zr ?_)
 refine Za ?_
 refine Zl ?_
 refine Zq (Zr ?_)
 refine Zm ?_
 refine Zm ?_
 obtain ⟨y7_1, ey7_1, hS⟩ := bd_s hS
 refine VL.q (q_call (internal_stringslite_HasPrefix_ct s_0 prefix_1 ey7_1) rfl (fun _ _ => rfl)) (by decide) ?_
 refine Za ?_
 refine Zl ?_
 cases hS
 exact Ze
theorem path_Under_ct (p_0 : Str) (dir_1 : Str) {r : Bool} (hS : Sh.path_Under p_0 dir_1 = some r) :
 Ct Tryz.prog 149 [str p_0, str dir_1] Mo.tt (Ow.emp) (X := Unit) (fun _ => .bool r) (fun _ => True) (fun _ => Mo.tt) (fun _ => Ow.emp) := by
 refine Ct.of Tryz.func149 rfl (by kernel_rfl) Tryz.ntmps149 (by simp) fun c => ?_
 unfold Sh.path_Under at hS
 refine Zq (Zr ?_)
 refine Za ?_
 refine Zl ?_
 refine Zq (Zq (Zr ?_))
 refine Zm ?_
 refine Zs ?_
 refine Zl ?_
 refine VC.cond_dec rfl (fun h6 => ?_) (fun h6 => ?_)
 ·
  replace hS := it_t h6 hS
  refine Zq (Zr ?_)
  refine Zm ?_
  refine VL.q (q_sne rfl rfl) (by decide) ?_
  refine Za ?_
  refine Zl ?_
  cases hS
  exact Ze
 replace hS := it_f h6 hS
 refine Zk ?_
 refine Zq (Zr ?_)
 refine Zm ?_
 refine VL.q (q_slen Tryz.underlying9 rfl) (by decide) ?_
 refine Zm ?_
 refine VL.q (q_slen Tryz.underlying9 rfl) (by decide) ?_
 obtain ⟨b13, hS⟩ := gd_s hS
 refine VL.q (q_add rfl rfl b13) (by decide) ?_
 refine VL.q (q_gtr rfl rfl) (by decide) ?_
 refine Zm ?_
 refine VL.split_dec 15 rfl (fun h15 => ?_) (fun h15 => ?_)
 ·
  replace hS := it_t h15 hS
  refine Zg ?_
  refine Zg ?_
  obtain ⟨b18, hS⟩ := gd_s hS
  obtain ⟨y18_1, ey18_1, hS⟩ := lt_s hS
  refine VL.gy rfl rfl (q_catE rfl rfl b18 ey18_1) (by decide) ?_
  obtain ⟨y19_2, ey19_2, hS⟩ := bd_s hS
  refine VL.gy rfl rfl (q_call (strings_HasPrefix_ct p_0 y18_1 ey19_2) rfl (fun _ _ => rfl)) (by decide) ?_
  refine Zt ?_
  refine Za ?_
  refine Zl ?_
  refine VC.keep [4] rfl ?_
  cases hS
  exact Ze
 replace hS := it_f h15 hS
 refine Zn ?_
 refine Zn ?_
 refine Zn ?_
 refine Zn ?_
 refine Zf ?_
 refine Za ?_
 refine Zl ?_
 refine VC.keep [4] rfl ?_
 cases hS
 exact Ze
theorem path_Clash_ct (a_0 : Str) (b_1 : Str) {r : Bool} (hS : Sh.path_Clash a_0 b_1 = some r) :
 Ct Tryz.prog 80 [str a_0, str b_1] Mo.tt (Ow.emp) (X := Unit) (fun _ => .bool r) (fun _ => True) (fun _ => Mo.tt) (fun _ => Ow.emp) := by
 refine Ct.of Tryz.func80 rfl (by kernel_rfl) Tryz.ntmps80 (by simp) fun c => ?_
 unfold Sh.path_Clash at hS
 refine Zq (Zr ?_)
 refine Za ?_
 refine Zl ?_
 refine Zq (Zr ?_)
 refine Zm ?_
 refine VL.q (q_sne rfl rfl) (by decide) ?_
 refine Zm ?_
 refine VL.split_ndec 7 rfl (fun h7 => ?_) (fun h7 => ?_)
 ·
  replace hS := it_f h7 hS
  refine Zg ?_
  refine VL.gy rfl rfl (q_sne rfl rfl) (by decide) ?_
  refine Zt ?_
  refine Zm ?_
  refine VL.split_ndec 11 rfl (fun h11 => ?_) (fun h11 => ?_)
  ·
   replace hS := it_f h11 hS
   refine Zg ?_
   refine Zg ?_
   obtain ⟨y14_1, ey14_1, hS⟩ := bd_s hS
   refine VL.gy rfl rfl (q_call (path_Under_ct a_0 b_1 ey14_1) rfl (fun _ _ => rfl)) (by decide) ?_
   refine Zg ?_
   refine VL.split 15 rfl (fun h15 => ?_) (fun h15 => ?_)
   ·
    replace hS := it_t h15 hS
    refine Zn ?_
    refine Zn ?_
    refine Zn ?_
    refine VL.gy rfl rfl (q_pick_t rfl rfl) (by decide) ?_
    refine Zt ?_
    refine Za ?_
    refine Zl ?_
    refine VC.keep [4] rfl ?_
    cases hS
    exact Ze
   replace hS := it_b h15 hS
   refine Zg ?_
   refine Zg ?_
   obtain ⟨y18_2, ey18_2, hS⟩ := bd_s hS
   refine VL.gy rfl rfl (q_call (path_Under_ct b_1 a_0 ey18_2) rfl (fun _ _ => rfl)) (by decide) ?_
   refine VL.gy rfl rfl (q_pick_f rfl rfl) (by decide) ?_
   refine Zt ?_
   refine Za ?_
   refine Zl ?_
   refine VC.keep [4] rfl ?_
   cases hS
   exact Ze
  replace hS := it_t h11 hS
  refine Zn ?_
  refine Zn ?_
  refine Zn ?_
  refine Zn ?_
  refine VL.gu rfl rfl (by decide) ?_
  refine VL.gu rfl rfl (by decide) ?_
  refine VL.gu rfl rfl (by decide) ?_
  refine Zn ?_
  refine Zf ?_
  refine Za ?_
  refine Zl ?_
  refine VC.keep [4] rfl ?_
  cases hS
  exact Ze
 replace hS := it_t h7 hS
 refine Zn ?_
 refine Zn ?_
 refine Zf ?_
 refine Zm ?_
 refine Zn ?_
 refine Zn ?_
 refine Zn ?_
 refine Zn ?_
 refine VL.gu rfl rfl (by decide) ?_
 refine VL.gu rfl rfl (by decide) ?_
 refine VL.gu rfl rfl (by decide) ?_
 refine Zn ?_
 refine Zf ?_
 refine Za ?_
 refine Zl ?_
 refine VC.keep [4] rfl ?_
 cases hS
 exact Ze
theorem files_Row_wrong_1_ct (g_0 : FilesFile) (a_1_b : Nat) (a_1 : FilesFile) {r : Bool} (hS : Sh.files_Row_wrong_1 g_0 a_1 = some r) :
 Ct Tryz.prog 125 [.agg #[str g_0.path, i64 g_0.mode, str g_0.data], ptr a_1_b 0] (Cells a_1_b 0 [str a_1.path, i64 a_1.mode, str a_1.data]) (Ow.emp) (X := Unit) (fun _ => .bool r) (fun _ => True) (fun _ => Mo.tt) (fun _ => Ow.emp) := by
 refine Ct.of Tryz.func125 rfl (by kernel_rfl) Tryz.ntmps125 (by simp) fun c => ?_
 unfold Sh.files_Row_wrong_1 at hS
 refine Zq (Zr ?_)
 refine VL.box (cs := [str g_0.path, i64 g_0.mode, str g_0.data]) rfl rfl (by decide) fun b2_1 => ?_
 refine Za ?_
 refine Zl ?_
 refine Zq (Zr ?_)
 refine VL.q (q_field gfa42_0 rfl) (by decide) ?_
 refine VL.q (q_fe gone9 rfl rfl) (by decide) ?_
 refine VL.q (q_field gfa42_0 rfl) (by decide) ?_
 refine VL.q (q_fm gone9 rfl rfl) (by decide) ?_
 obtain ⟨y8_2, ey8_2, hS⟩ := bd_s hS
 refine VL.q (q_call (path_Clash_ct g_0.path a_1.path ey8_2) rfl (fun _ _ => rfl)) (by decide) ?_
 refine Za ?_
 refine Zl ?_
 cases hS
 exact Ze
theorem slices_IndexFunc_files_Row_files_File_ct (s_0 : Sv FilesFile) (f_1_0_b : Nat) (f_1_0 : FilesFile) {r : Int} (hS : Sh.slices_IndexFunc_files_Row_files_File s_0.l f_1_0 = some r) :
 Ct Tryz.prog 148 [s_0.val, .func (.func 125) #[] #[ptr f_1_0_b 0]] (s_0.ok.and (Cells f_1_0_b 0 [str f_1_0.path, i64 f_1_0.mode, str f_1_0.data])) (Ow.emp) (X := Unit) (fun _ => i64 r) (fun _ => True) (fun _ => Mo.tt) (fun _ => Ow.emp) := by
 refine Ct.of Tryz.func148 rfl (by kernel_rfl) Tryz.ntmps148 (by simp) fun c => ?_
 unfold Sh.slices_IndexFunc_files_Row_files_File at hS
 refine Zq (Zr ?_)
 refine Za ?_
 refine Zl ?_
 refine Zq (Zq (Zr ?_))
 refine Zm ?_
 refine VL.q (q_ln (s := s_0) Tryz.underlying38 rfl) (by decide) ?_
 refine Zm ?_
 refine Zl ?_
 refine Zb ?_
 refine VC.iter (S := Int) (fun (x8_1 : Int) => x8_1) (fun (x8_1 : Int) => [(0, s_0.val), (1, .func (.func 125) #[] #[ptr f_1_0_b 0]), (7, i64 (s_0.l.length : Int)), (8, i64 x8_1)]) (fun (x8_1 : Int) => Mo.tt) (fun (x8_1 : Int) => Ow.emp) 0 [0, 1, 7, 8] hS rfl ?_
 clear hS
 rintro x8_1 m1 y1 hS hK1
 show VC _ _ _ _ _ [(0, s_0.val), (1, .func (.func 125) #[] #[ptr f_1_0_b 0]), (7, i64 (s_0.l.length : Int)), (8, i64 x8_1)] (Mo.and Mo.tt _) (Ow.emp)
 refine Zq (Zr ?_)
 refine VL.q (q_lss rfl rfl) (by decide) ?_
 refine Zl ?_
 refine Zq ?_
 refine VC.cond_dec rfl (fun h9 => ?_) (fun h9 => ?_)
 ·
  replace hS := it_t h9 hS
  refine Zk ?_
  refine Zq (Zb (Zq (Zr ?_)))
  refine Zm ?_
  refine Za ?_
  refine Zl ?_
  refine Zq (Zr ?_)
  refine Zm ?_
  refine Zm ?_
  refine Zm ?_
  obtain ⟨z14_2, nz14_2, hz14_2, hS⟩ := at_s hS
  refine VL.q (q_ixm (s := s_0) Tryz.underlying38 gsz42 rfl rfl nz14_2 (lt_of_get nz14_2 hz14_2)) (by decide) ?_
  refine VL.q (q_els (s := s_0) gagg42 rfl rfl hz14_2) (by decide) ?_
  obtain ⟨y16_3, ey16_3, hS⟩ := bd_s hS
  refine VL.q (q_callVC (vs := [.agg #[str z14_2.path, i64 z14_2.mode, str z14_2.data]]) (caps := [ptr f_1_0_b 0]) (files_Row_wrong_1_ct z14_2 f_1_0_b f_1_0 ey16_3) rfl rfl (fun _ _ => rfl)) (by decide) ?_
  refine Zl ?_
  refine VC.keep [0, 1, 7, 8, 5, 16] rfl ?_
  refine VC.cond rfl (fun h16 => ?_) (fun h16 => ?_)
  ·
   replace hS := it_t h16 hS
   refine Zq (Zr ?_)
   refine Zm ?_
   refine Za ?_
   refine Zl ?_
   replace hS := up2 hS hK1
   cases hS
   exact Ze
  replace hS := it_b h16 hS
  refine Zk ?_
  refine Zr ?_
  obtain ⟨b18, hS⟩ := gd_s hS
  refine VL.q (q_add rfl rfl b18) (by decide) ?_
  refine Zm ?_
  refine VL.rnd (x8_1 + 1) [0, 1, 7, 8] (fun _ _ h => h) (go2 hS hK1) rfl
 replace hS := it_f h9 hS
 replace hS := up2 hS hK1
 refine Zx ?_
 refine Zq (Zr ?_)
 refine Za ?_
 refine Zl ?_
 cases hS
 exact Ze
theorem slices_ContainsFunc_files_Row_files_File_ct (s_0 : Sv FilesFile) (f_1_0_b : Nat) (f_1_0 : FilesFile) {r : Bool} (hS : Sh.slices_ContainsFunc_files_Row_files_File s_0.l f_1_0 = some r) :
 Ct Tryz.prog 124 [s_0.val, .func (.func 125) #[] #[ptr f_1_0_b 0]] (s_0.ok.and (Cells f_1_0_b 0 [str f_1_0.path, i64 f_1_0.mode, str f_1_0.data])) (Ow.emp) (X := Unit) (fun _ => .bool r) (fun _ => True) (fun _ => Mo.tt) (fun _ => Ow.emp) := by
 refine Ct.of Tryz.func124 rfl (by kernel_rfl) Tryz.ntmps124 (by simp) fun c => ?_
 unfold Sh.slices_ContainsFunc_files_Row_files_File at hS
 refine Zq (Zr ?_)
 refine Za ?_
 refine Zl ?_
 refine Zq (Zr ?_)
 refine Zm ?_
 refine Zm ?_
 obtain ⟨y7_1, ey7_1, hS⟩ := bd_s hS
 refine VL.q (q_callR (slices_IndexFunc_files_Row_files_File_ct s_0 f_1_0_b f_1_0 ey7_1) rfl (fun _ _ => rfl)) (by decide) ?_
 refine VL.q (q_geq rfl rfl) (by decide) ?_
 refine Za ?_
 refine Zl ?_
 cases hS
 exact Ze
theorem files_Row_wrong_ct (r_0 : Sv FilesFile) (i_1 : Int) {r : Int} (hS : Sh.files_Row_wrong r_0.l i_1 = some r) :
 Ct Tryz.prog 59 [r_0.val, i64 i_1] r_0.ok (Ow.emp) (X := Unit) (fun _ => i64 r) (fun _ => True) (fun _ => Mo.tt) (fun _ => Ow.emp) := by
 refine Ct.of Tryz.func59 rfl (by kernel_rfl) Tryz.ntmps59 (by simp) fun c => ?_
 unfold Sh.files_Row_wrong at hS
 refine Zq (Zr ?_)
 refine Za ?_
 refine Zl ?_
 refine Zq (Zr ?_)
 refine Zm ?_
 refine Zm ?_
 obtain ⟨z9_1, nz9_1, hz9_1, hS⟩ := at_s hS
 refine VL.q (q_ixm (s := r_0) Tryz.underlying38 gsz42 rfl rfl nz9_1 (lt_of_get nz9_1 hz9_1)) (by decide) ?_
 refine VL.q (q_els (s := r_0) gagg42 rfl rfl hz9_1) (by decide) ?_
 refine VL.alloc (cs := [str [], i64 0, str []]) (by kernel_rfl) (by decide) fun b5_2 => ?_
 refine VL.store (vc := [str z9_1.path, i64 z9_1.mode, str z9_1.data]) (cs' := [str z9_1.path, i64 z9_1.mode, str z9_1.data]) rfl rfl rfl gsz42 rfl rfl (Nat.le_of_ble_eq_true rfl) rfl ?_
 refine Zl ?_
 refine Zq (Zq (Zr ?_))
 refine VL.q (q_field gfa42_0 rfl) (by decide) ?_
 refine VL.q (q_fe gone9 rfl rfl) (by decide) ?_
 obtain ⟨y13_3, ey13_3, hS⟩ := bd_s hS
 refine VL.q (q_call (path_Check_ct z9_1.path ey13_3) rfl (fun _ _ => rfl)) (by decide) ?_
 refine Za ?_
 refine Zl ?_
 refine VC.keep [0, 1, 5, 6] rfl ?_
 refine Zq (Zr ?_)
 refine Zm ?_
 refine VL.q (q_neq rfl rfl) (by decide) ?_
 refine Zl ?_
 refine VC.cond_ndec rfl (fun h15 => ?_) (fun h15 => ?_)
 ·
  replace hS := it_f h15 hS
  refine Zq (Zr ?_)
  refine Zm ?_
  refine Za ?_
  refine Zl ?_
  cases hS
  exact Ze
 replace hS := it_t h15 hS
 refine Zk ?_
 refine Zq (Zb ?_)
 refine VC.cutJ (S := Bool) (fun (x17_4 : Bool) => x17_4) (fun (x17_4 : Bool) => [(0, r_0.val), (1, i64 i_1), (5, ptr b5_2 0), (17, .bool x17_4)]) (fun (x17_4 : Bool) => Mo.tt) (fun (x17_4 : Bool) => Ow.star (Blk b5_2 [str z9_1.path, i64 z9_1.mode, str z9_1.data] 42) (Ow.emp)) hS ?_ ?_
 ·
  clear hS
  intro k5 hS
  refine Zr ?_
  refine VL.q (q_field gfa42_1 rfl) (by decide) ?_
  refine VL.q (q_fe gone3 rfl rfl) (by decide) ?_
  refine VL.q (q_neq rfl rfl) (by decide) ?_
  refine Zm ?_
  refine VL.split_ndec 21 rfl (fun h21 => ?_) (fun h21 => ?_)
  ·
   replace hS := it_f h21 hS
   refine VL.gy rfl rfl (q_field gfa42_1 rfl) (by decide) ?_
   refine VL.gy rfl rfl (q_fe gone3 rfl rfl) (by decide) ?_
   refine VL.gy rfl rfl (q_neq rfl rfl) (by decide) ?_
   refine Zt ?_
   refine Za ?_
   refine VL.mt (!decide (z9_1.mode = 2)) [0, 1, 5, 17] (fun _ _ h => h) hS rfl
  replace hS := it_t h21 hS
  refine Zn ?_
  refine Zn ?_
  refine Zn ?_
  refine Zf ?_
  refine Za ?_
  refine VL.mt false [0, 1, 5, 17] (fun _ _ h => h) hS rfl
 clear hS
 rintro x17_4 hS
 show VC _ _ _ _ _ [(0, r_0.val), (1, i64 i_1), (5, ptr b5_2 0), (17, .bool x17_4)] (Mo.and Mo.tt _) (Ow.star (Blk b5_2 [str z9_1.path, i64 z9_1.mode, str z9_1.data] 42) (Ow.emp))
 refine VC.cond rfl (fun h17 => ?_) (fun h17 => ?_)
 ·
  replace hS := it_t h17 hS
  refine Zq (Zr ?_)
  refine Za ?_
  refine Zl ?_
  cases hS
  exact Ze
 replace hS := it_b h17 hS
 refine Zq (Zr ?_)
 refine VL.q (q_field gfa42_2 rfl) (by decide) ?_
 refine VL.q (q_fe gone9 rfl rfl) (by decide) ?_
 refine VL.q (q_slen Tryz.underlying9 rfl) (by decide) ?_
 refine VL.q (q_gtr rfl rfl) (by decide) ?_
 refine Za ?_
 refine Zl ?_
 refine VC.cond_dec rfl (fun h26 => ?_) (fun h26 => ?_)
 ·
  replace hS := it_t h26 hS
  refine Zq (Zr ?_)
  refine Za ?_
  refine Zl ?_
  cases hS
  exact Ze
 replace hS := it_f h26 hS
 refine VC.cutJ (S := Bool) (fun (x31_6 : Bool) => x31_6) (fun (x31_6 : Bool) => [(0, r_0.val), (1, i64 i_1), (5, ptr b5_2 0), (31, .bool x31_6)]) (fun (x31_6 : Bool) => Mo.tt) (fun (x31_6 : Bool) => Ow.star (Blk b5_2 [str z9_1.path, i64 z9_1.mode, str z9_1.data] 42) (Ow.emp)) hS ?_ ?_
 ·
  clear hS
  intro k7 hS
  refine VC.draw ((List.range 15).map fun k => (k, true)) mixed (by kernel_rfl) (by kernel_rfl) (by kernel_rfl) ?_
  refine VD.q rfl (q_move rfl) (by decide) ?_
  refine VD.q rfl (q_gtr rfl rfl) (by decide) ?_
  refine VD.q rfl (q_move rfl) (by decide) ?_
  refine VD.split_dec 34 rfl (fun h34 => ?_) (fun h34 => ?_)
  ·
   replace hS := it_t h34 hS
   refine VD.gy rfl rfl rfl (q_move rfl) (by decide) ?_
   refine VD.gy rfl rfl rfl (q_move rfl) (by decide) ?_
   obtain ⟨b37, hS⟩ := gd_s hS
   refine VD.gy rfl rfl rfl (q_sub rfl rfl b37) (by decide) ?_
   obtain ⟨z38_8, nz38_8, hz38_8, hS⟩ := at_s hS
   refine VD.gy rfl rfl rfl (q_ixm (s := r_0) Tryz.underlying38 gsz42 rfl rfl nz38_8 (lt_of_get nz38_8 hz38_8)) (by decide) ?_
   refine VD.gy rfl rfl rfl (q_field gfa42_0 rfl) (by decide) ?_
   refine VD.gy rfl rfl rfl (q_elf (s := r_0) gone9 rfl hz38_8 rfl) (by decide) ?_
   refine VD.gy rfl rfl rfl (q_field gfa42_0 rfl) (by decide) ?_
   refine VD.gy rfl rfl rfl (q_fe gone9 rfl rfl) (by decide) ?_
   obtain ⟨y43_9, ey43_9, hS⟩ := bd_s hS
   refine VD.gy rfl rfl rfl (q_call (path_Compare_ct z38_8.path z9_1.path ey43_9) rfl (fun _ _ => rfl)) (by decide) ?_
   refine VD.gy rfl rfl rfl (q_geq rfl rfl) (by decide) ?_
   refine VD.q rfl (q_pick_t rfl rfl) (by decide) ?_
   refine VD.q rfl (q_assign rfl) (by decide) ?_
   refine VD.mt (decide (0 ≤ y43_9)) [0, 1, 5, 31] (fun _ _ h => h) hS rfl
  replace hS := it_f h34 hS
  refine Zd ?_
  refine Zd ?_
  refine Zd ?_
  refine Zd ?_
  refine Zd ?_
  refine Zd ?_
  refine Zd ?_
  refine Zd ?_
  refine Zd ?_
  refine Zd ?_
  refine VD.q rfl (q_pick_f rfl rfl) (by decide) ?_
  refine VD.q rfl (q_assign rfl) (by decide) ?_
  refine VD.mt false [0, 1, 5, 31] (fun _ _ h => h) hS rfl
 clear hS
 rintro x31_6 hS
 show VC _ _ _ _ _ [(0, r_0.val), (1, i64 i_1), (5, ptr b5_2 0), (31, .bool x31_6)] (Mo.and Mo.tt _) (Ow.star (Blk b5_2 [str z9_1.path, i64 z9_1.mode, str z9_1.data] 42) (Ow.emp))
 refine VC.cond rfl (fun h31 => ?_) (fun h31 => ?_)
 ·
  replace hS := it_t h31 hS
  refine Zq (Zr ?_)
  refine Za ?_
  refine Zl ?_
  cases hS
  exact Ze
 replace hS := it_b h31 hS
 refine Zq (Zr ?_)
 refine Zm ?_
 refine Zm ?_
 obtain ⟨b49, hS⟩ := gd_s hS
 refine VL.sto Tryz.underlying38 gsz42 rfl rfl b49.1 (b49.2) (by decide) fun s49_10 hs49_10 => ?_
 replace hS := lt_to hs49_10 hS
 refine VL.q (q_mkfn rfl) (by decide) ?_
 obtain ⟨y51_12, ey51_12, hS⟩ := bd_s hS
 refine VL.q (q_callR (slices_ContainsFunc_files_Row_files_File_ct s49_10 b5_2 z9_1 ey51_12) rfl (fun _ _ => rfl)) (by decide) ?_
 refine Za ?_
 refine Zl ?_
 refine VC.cond rfl (fun h46 => ?_) (fun h46 => ?_)
 ·
  replace hS := it_t h46 hS
  refine Zq (Zr ?_)
  refine Za ?_
  refine Zl ?_
  refine VC.keep [4] rfl ?_
  cases hS
  exact Ze
 replace hS := it_b h46 hS
 refine Zk ?_
 refine Zq (Zr ?_)
 refine Za ?_
 refine Zl ?_
 refine VC.keep [4] rfl ?_
 cases hS
 exact Ze
theorem files_Row_Check_ct (r_0 : Sv FilesFile) {r : Err} (hS : Sh.files_Row_Check r_0.l = some r) :
 Ct Tryz.prog 15 [r_0.val] r_0.ok (Ow.emp) (X := Er) (fun x => x.val) (fun x => r = x.pl) (fun x => x.ok) (fun x => Ow.emp) := by
 refine Ct.of Tryz.func15 rfl (by kernel_rfl) Tryz.ntmps15 (by simp) fun c => ?_
 unfold Sh.files_Row_Check at hS
 refine Zq (Zr ?_)
 refine Za ?_
 refine Zl ?_
 refine Zq (Zq (Zr ?_))
 refine Zm ?_
 refine VL.q (q_ln (s := r_0) Tryz.underlying38 rfl) (by decide) ?_
 refine VL.q (q_gtr rfl rfl) (by decide) ?_
 refine Zl ?_
 refine VC.cond_dec rfl (fun h7 => ?_) (fun h7 => ?_)
 ·
  replace hS := it_t h7 hS
  refine Zq (Zr ?_)
  refine VL.q (q_mkif Tryz.underlying115 (fun _ h => by cases h) rfl) (by decide) ?_
  refine VL.q (q_build (vs := [(0, str [102, 105, 108, 101]), (1, i64 64), (2, (Er.no 4).val)]) (cs := #[str [102, 105, 108, 101], i64 64, (Er.no 4).val]) rfl (by kernel_rfl)) (by decide) ?_
  refine VL.box (cs := [str [102, 105, 108, 101], i64 64, (Er.no 4).val]) rfl rfl (by decide) fun b10_1 => ?_
  refine VL.shutB b10_1 ?_
  refine VL.q (q_mkif Tryz.underlying114 (fun _ h => by cases h) rfl) (by decide) ?_
  refine Za ?_
  refine Zl ?_
  cases hS
  exact VC.ret (fin1 (.inr rfl) rfl rfl (Er.fault b10_1 [102, 105, 108, 101] 64 (Er.no 4)) rfl rfl (by (try dsimp only); exact InM.out) (fun _ _ => trivial))
 replace hS := it_f h7 hS
 refine Zk ?_
 refine Zq (Zq (Zr ?_))
 refine Zm ?_
 refine VL.q (q_ln (s := r_0) Tryz.underlying38 rfl) (by decide) ?_
 refine Zm ?_
 refine Zl ?_
 refine Zb ?_
 refine VC.iter (S := Int) (fun (x14_2 : Int) => x14_2) (fun (x14_2 : Int) => [(0, r_0.val), (13, i64 (r_0.l.length : Int)), (14, i64 x14_2)]) (fun (x14_2 : Int) => Mo.tt) (fun (x14_2 : Int) => Ow.emp) 0 [0, 13, 14] hS rfl ?_
 clear hS
 rintro x14_2 m1 y1 hS hK1
 show VC _ _ _ _ _ [(0, r_0.val), (13, i64 (r_0.l.length : Int)), (14, i64 x14_2)] (Mo.and Mo.tt _) (Ow.emp)
 refine Zq (Zr ?_)
 refine VL.q (q_lss rfl rfl) (by decide) ?_
 refine Zl ?_
 refine Zq ?_
 refine VC.cond_dec rfl (fun h15 => ?_) (fun h15 => ?_)
 ·
  replace hS := it_t h15 hS
  refine Zk ?_
  refine Zq (Zb (Zq (Zr ?_)))
  refine Zm ?_
  refine Za ?_
  refine Zl ?_
  refine Zq (Zr ?_)
  refine Zm ?_
  refine Zm ?_
  obtain ⟨y19_3, ey19_3, hS⟩ := bd_s hS
  refine VL.q (q_call (files_Row_wrong_ct r_0 x14_2 ey19_3) rfl (fun _ _ => rfl)) (by decide) ?_
  refine Za ?_
  refine Zl ?_
  refine Zq (Zr ?_)
  refine Zm ?_
  refine VL.q (q_neq rfl rfl) (by decide) ?_
  refine Zl ?_
  refine VC.cond_ndec rfl (fun h21 => ?_) (fun h21 => ?_)
  ·
   replace hS := it_f h21 hS
   refine Zq (Zr ?_)
   refine Zm ?_
   refine Zm ?_
   refine VL.q (q_mkif Tryz.underlying115 (fun _ h => by cases h) rfl) (by decide) ?_
   refine VL.q (q_build (vs := [(0, str [102, 105, 108, 101]), (1, i64 x14_2), (2, (Er.no y19_3).val)]) (cs := #[str [102, 105, 108, 101], i64 x14_2, (Er.no y19_3).val]) rfl (by kernel_rfl)) (by decide) ?_
   refine VL.box (cs := [str [102, 105, 108, 101], i64 x14_2, (Er.no y19_3).val]) rfl rfl (by decide) fun b26_4 => ?_
   refine VL.shutB b26_4 ?_
   refine VL.q (q_mkif Tryz.underlying114 (fun _ h => by cases h) rfl) (by decide) ?_
   refine Za ?_
   refine Zl ?_
   refine VC.keep [2] rfl ?_
   replace hS := up2 hS hK1
   cases hS
   exact VC.ret (fin1 (.inr rfl) rfl rfl (Er.fault b26_4 [102, 105, 108, 101] x14_2 (Er.no y19_3)) rfl rfl (by (try dsimp only); exact InM.out) (fun _ _ => trivial))
  replace hS := it_t h21 hS
  refine Zk ?_
  refine VC.keep [0, 13, 14] rfl ?_
  refine Zr ?_
  obtain ⟨b28, hS⟩ := gd_s hS
  refine VL.q (q_add rfl rfl b28) (by decide) ?_
  refine Zm ?_
  refine VL.rnd (x14_2 + 1) [0, 13, 14] (fun _ _ h => h) (go2 hS hK1) rfl
 replace hS := it_f h15 hS
 replace hS := up2 hS hK1
 refine Zx ?_
 refine Zq (Zr ?_)
 refine Za ?_
 refine Zl ?_
 cases hS
 exact VC.ret (fin1 (.inr rfl) rfl rfl .nil rfl rfl (by (try dsimp only); exact InM.out) (fun _ _ => trivial))
theorem slices_Clip_string_string_ct (s_0 : Sv Str) {r : List Str} (hS : Sh.slices_Clip_string_string s_0.l = some r) :
 Ct Tryz.prog 103 [s_0.val] s_0.ok (Ow.emp) (X := Sv Str) (fun x => x.val) (fun x => r = x.l) (fun x => x.ok) (fun x => Ow.emp) := by
 refine Ct.of Tryz.func103 rfl (by kernel_rfl) Tryz.ntmps103 (by simp) fun c => ?_
 unfold Sh.slices_Clip_string_string at hS
 refine Zq (Zr ?_)
 refine Za ?_
 refine Zl ?_
 refine Zq (Zr ?_)
 refine Zm ?_
 refine Zm ?_
 refine VL.q (q_ln (s := s_0) Tryz.underlying82 rfl) (by decide) ?_
 refine Zm ?_
 refine VL.q (q_ln (s := s_0) Tryz.underlying82 rfl) (by decide) ?_
 obtain ⟨b8, hS⟩ := gd_s hS
 refine VL.stom Tryz.underlying82 gsz9 rfl rfl rfl b8.1 (b8.2) (by decide) fun s8_1 hs8_1 => ?_
 replace hS := lt_to hs8_1 hS
 refine Za ?_
 refine Zl ?_
 cases hS
 exact VC.ret (fin1 (.inr rfl) rfl rfl s8_1 rfl rfl (by (try dsimp only); exact InM.out) (fun _ _ => trivial))
theorem files_Paths_ct (l_0 : Sv (Sv FilesFile)) {r : List Str} (hS : Sh.files_Paths (l_0.l.map Sv.l) = some r) :
 Ct Tryz.prog 65 [l_0.val] l_0.ok (Ow.emp) (X := Sv Str) (fun x => x.val) (fun x => r = x.l) (fun x => x.ok) (fun x => Ow.emp) := by
 refine Ct.of Tryz.func65 rfl (by kernel_rfl) Tryz.ntmps65 (by simp) fun c => ?_
 unfold Sh.files_Paths at hS
 refine Zq (Zr ?_)
 refine Za ?_
 refine Zl ?_
 refine Zq (Zr ?_)
 refine VL.mkmap (k := 9) (e := 4) (by decide) fun b8_1 => ?_
 refine Za ?_
 refine Zl ?_
 refine Zq (Zq (Zr ?_))
 refine Zm ?_
 refine VL.q (q_lnm Sv.l (s := l_0) Tryz.underlying171 rfl) (by decide) ?_
 refine Zm ?_
 refine Zl ?_
 refine Zb ?_
 refine VC.iter (S := Int × List Str) (fun sg => (sg.1, sg.2)) (fun sg => [(3, .map (some b8_1)), (9, l_0.val), (10, i64 ((l_0.l.map Sv.l).length : Int)), (11, i64 sg.1)]) (fun sg => Mo.tt) (fun sg => Ow.star (MpK Tryz.prog 9 4 b8_1 sg.2) (Ow.emp)) (0, ([] : List Str)) [3, 9, 10, 11] hS rfl ?_
 clear hS
 rintro ⟨x11_2, acc_3⟩ m1 y1 hS hK1
 show VC _ _ _ _ _ [(3, .map (some b8_1)), (9, l_0.val), (10, i64 ((l_0.l.map Sv.l).length : Int)), (11, i64 x11_2)] (Mo.and Mo.tt _) (Ow.star (MpK Tryz.prog 9 4 b8_1 acc_3) (Ow.emp))
 refine Zq (Zr ?_)
 refine VL.q (q_lss rfl rfl) (by decide) ?_
 refine Zl ?_
 refine Zq ?_
 refine VC.cond_dec rfl (fun h12 => ?_) (fun h12 => ?_)
 ·
  replace hS := it_t h12 hS
  refine Zk ?_
  refine Zq (Zb (Zq (Zr ?_)))
  obtain ⟨z13_4, nz13_4, hz13_4, hS⟩ := atm_s hS
  refine VL.deep z13_4.ok hz13_4 (fun _ q => q) ?_
  refine VL.q (q_ixm (s := l_0) Tryz.underlying171 gsz38 rfl rfl nz13_4 (lt_of_get nz13_4 hz13_4)) (by decide) ?_
  refine VL.q (q_el (s := l_0) gone38 rfl hz13_4 rfl) (by decide) ?_
  refine Za ?_
  refine Zl ?_
  refine Zq (Zr ?_)
  refine Zm ?_
  refine VL.q (q_ln (s := z13_4) Tryz.underlying38 rfl) (by decide) ?_
  refine Zm ?_
  refine Zl ?_
  refine Zb ?_
  refine VC.iter (S := Int × List Str) (fun sg => (sg.1, sg.2)) (fun sg => [(3, .map (some b8_1)), (9, l_0.val), (10, i64 ((l_0.l.map Sv.l).length : Int)), (11, i64 x11_2), (15, z13_4.val), (16, i64 (z13_4.l.length : Int)), (17, i64 sg.1)]) (fun sg => Mo.tt) (fun sg => Ow.star (MpK Tryz.prog 9 4 b8_1 sg.2) (Ow.emp)) (0, acc_3) [3, 9, 10, 11, 15, 16, 17] hS rfl ?_
  clear hS
  rintro ⟨x17_5, acc_6⟩ m2 y2 hS hK2
  show VC _ _ _ _ _ [(3, .map (some b8_1)), (9, l_0.val), (10, i64 ((l_0.l.map Sv.l).length : Int)), (11, i64 x11_2), (15, z13_4.val), (16, i64 (z13_4.l.length : Int)), (17, i64 x17_5)] (Mo.and Mo.tt _) (Ow.star (MpK Tryz.prog 9 4 b8_1 acc_6) (Ow.emp))
  refine Zq (Zr ?_)
  refine VL.q (q_lss rfl rfl) (by decide) ?_
  refine Zl ?_
  refine Zq ?_
  refine VC.cond_dec rfl (fun h18 => ?_) (fun h18 => ?_)
  ·
   replace hS := it_t h18 hS
   refine Zk ?_
   refine Zq (Zb (Zq (Zr ?_)))
   obtain ⟨z19_7, nz19_7, hz19_7, hS⟩ := at_s hS
   refine VL.q (q_ixm (s := z13_4) Tryz.underlying38 gsz42 rfl rfl nz19_7 (lt_of_get nz19_7 hz19_7)) (by decide) ?_
   refine VL.q (q_els (s := z13_4) gagg42 rfl rfl hz19_7) (by decide) ?_
   refine VL.alloc (cs := [str [], i64 0, str []]) (by kernel_rfl) (by decide) fun b7_8 => ?_
   refine VL.store (vc := [str z19_7.path, i64 z19_7.mode, str z19_7.data]) (cs' := [str z19_7.path, i64 z19_7.mode, str z19_7.data]) rfl rfl rfl gsz42 rfl rfl (Nat.le_of_ble_eq_true rfl) rfl ?_
   refine Zl ?_
   refine Zr ?_
   refine Zm ?_
   refine VL.q (q_field gfa42_0 rfl) (by decide) ?_
   refine VL.q (q_fe gone9 rfl rfl) (by decide) ?_
   obtain ⟨bs3, hS⟩ := gd_s hS
   refine VL.mapset (b := b8_1) (l := acc_6) (s := z19_7.path) Tryz.underlying9 Tryz.underlying4 Tryz.underlying196 Fo.out rfl rfl rfl bs3 ?_
   obtain ⟨accs3_9, eaccs3_9, hS⟩ := lt_s hS
   rw [eaccs3_9]
   refine Zl ?_
   refine VC.keep [3, 9, 10, 11, 15, 16, 17] rfl ?_
   refine Zr ?_
   obtain ⟨b24, hS⟩ := gd_s hS
   refine VL.q (q_add rfl rfl b24) (by decide) ?_
   refine Zm ?_
   refine VL.rnd ((x17_5 + 1), accs3_9) [3, 9, 10, 11, 15, 16, 17] (fun _ _ h => h) (go2 hS hK2) rfl
  replace hS := it_f h18 hS
  replace hS := up2 hS hK2
  refine Zx ?_
  refine Zr ?_
  obtain ⟨b25, hS⟩ := gd_s hS
  refine VL.q (q_add rfl rfl b25) (by decide) ?_
  refine Zm ?_
  refine VL.rnd ((x11_2 + 1), acc_6) [3, 9, 10, 11] (fun _ _ h => h) (go2 hS hK1) rfl
 replace hS := it_f h12 hS
 replace hS := up2 hS hK1
 refine Zx ?_
 refine Zq (Zr ?_)
 refine Zm ?_
 refine VL.callO (Ct.mapKeys (b := b8_1) (entry_of Tryz.func131 rfl (by kernel_rfl)) Tryz.mapsKeys_131) rfl (by decide) ?_
 intro B27_10 _
 try dsimp only
 obtain ⟨b28, hS⟩ := gd_s hS
 refine VL.callO (Ct.sortedKeys (it := 191) (T := 196) (b := b8_1) (B := B27_10) (e := 4) (l := acc_3) (entry_of Tryz.func130 rfl (by kernel_rfl)) Tryz.underlying9 (fun D0 nn W h1 h2 h3 h4 h5 => Tryz.sortedKeys_130_131 B27_10 b8_1 nn D0 _ W h1 h2 h3 h4 h5) b28) rfl (by decide) ?_
 intro s28_11 hs28_11
 try dsimp only
 replace hS := lt_to hs28_11 hS
 refine VL.shut s28_11 9 (fun _ _ _ _ => trivial) ?_
 obtain ⟨y29_13, ey29_13, hS⟩ := bd_s hS
 refine VL.callF (slices_Clip_string_string_ct s28_11 ey29_13) rfl (by decide) ?_
 rintro q29_13_0 rfl
 try dsimp only
 refine Za ?_
 refine Zl ?_
 cases hS
 exact VC.ret (fin1 (.inr rfl) rfl rfl q29_13_0 rfl rfl (by (try dsimp only); exact InM.out) (fun _ _ => trivial))
theorem files_Row_find_1_ct (f_0 : FilesFile) (p_1 : Str) {r : Int} (hS : Sh.files_Row_find_1 f_0 p_1 = some r) :
 Ct Tryz.prog 145 [.agg #[str f_0.path, i64 f_0.mode, str f_0.data], str p_1] Mo.tt (Ow.emp) (X := Unit) (fun _ => i64 r) (fun _ => True) (fun _ => Mo.tt) (fun _ => Ow.emp) := by
 refine Ct.of Tryz.func145 rfl (by kernel_rfl) Tryz.ntmps145 (by simp) fun c => ?_
 unfold Sh.files_Row_find_1 at hS
 refine Zq (Zr ?_)
 refine VL.box (cs := [str f_0.path, i64 f_0.mode, str f_0.data]) rfl rfl (by decide) fun b2_1 => ?_
 refine Za ?_
 refine Zl ?_
 refine Zq (Zr ?_)
 refine VL.q (q_field gfa42_0 rfl) (by decide) ?_
 refine VL.q (q_fe gone9 rfl rfl) (by decide) ?_
 refine Zm ?_
 obtain ⟨y8_2, ey8_2, hS⟩ := bd_s hS
 refine VL.q (q_call (path_Compare_ct f_0.path p_1 ey8_2) rfl (fun _ _ => rfl)) (by decide) ?_
 refine Za ?_
 refine Zl ?_
 cases hS
 exact Ze
theorem slices_BinarySearchFunc_files_Row_files_File_string_ct (x_0 : Sv FilesFile) (target_1 : Str) {r : Int × Bool} (hS : Sh.slices_BinarySearchFunc_files_Row_files_File_string x_0.l target_1 = some r) :
 Ct Tryz.prog 144 [x_0.val, str target_1, .func (.func 145) #[] #[]] x_0.ok (Ow.emp) (X := Unit) (fun _ => .tuple #[i64 r.1, .bool r.2]) (fun _ => True) (fun _ => Mo.tt) (fun _ => Ow.emp) := by
 refine Ct.of Tryz.func144 rfl (by kernel_rfl) Tryz.ntmps144 (by simp) fun c => ?_
 unfold Sh.slices_BinarySearchFunc_files_Row_files_File_string at hS
 refine Zq (Zr ?_)
 refine Za ?_
 refine Za ?_
 refine Zl ?_
 refine Zq (Zr ?_)
 refine Zm ?_
 refine VL.q (q_ln (s := x_0) Tryz.underlying38 rfl) (by decide) ?_
 refine Za ?_
 refine Zl ?_
 refine Zq (Zr ?_)
 refine Zm ?_
 refine Za ?_
 refine Za ?_
 refine Zl ?_
 refine Zq (Zb ?_)
 refine VC.iter (S := Int × Int) (fun sg => (sg.1, sg.2)) (fun sg => [(0, x_0.val), (1, str target_1), (2, .func (.func 145) #[] #[]), (8, i64 (x_0.l.length : Int)), (9, i64 sg.1), (10, i64 sg.2)]) (fun sg => Mo.tt) (fun sg => Ow.emp) (0, (x_0.l.length : Int)) [0, 1, 2, 8, 9, 10] hS rfl ?_
 clear hS
 rintro ⟨i9_1, j10_2⟩ m1 y1 hS hK1
 show VC _ _ _ _ _ [(0, x_0.val), (1, str target_1), (2, .func (.func 145) #[] #[]), (8, i64 (x_0.l.length : Int)), (9, i64 i9_1), (10, i64 j10_2)] (Mo.and Mo.tt _) (Ow.emp)
 refine Zq (Zq (Zr ?_))
 refine Zm ?_
 refine Zm ?_
 refine VL.q (q_lss rfl rfl) (by decide) ?_
 refine Zl ?_
 refine VC.cond_dec rfl (fun h17 => ?_) (fun h17 => ?_)
 ·
  replace hS := it_t h17 hS
  refine Zk ?_
  refine Zb (Zq (Zr ?_))
  refine Zm ?_
  refine Zm ?_
  obtain ⟨b20, hS⟩ := gd_s hS
  refine VL.q (q_add rfl rfl b20) (by decide) ?_
  refine VL.q (q_convW Tryz.underlying3 Tryz.underlying232 rfl) (by decide) ?_
  refine VL.q (q_shr rfl rfl (by decide)) (by decide) ?_
  refine VL.q (q_convW Tryz.underlying232 Tryz.underlying3 rfl) (by decide) ?_
  refine Za ?_
  refine Zl ?_
  refine VC.keep [0, 1, 2, 8, 9, 10, 11] rfl ?_
  refine Zq (Zr ?_)
  refine Zm ?_
  refine Zm ?_
  refine Zm ?_
  obtain ⟨z27_3, nz27_3, hz27_3, hS⟩ := at_s hS
  refine VL.q (q_ixm (s := x_0) Tryz.underlying38 gsz42 rfl rfl nz27_3 (lt_of_get nz27_3 hz27_3)) (by decide) ?_
  refine VL.q (q_els (s := x_0) gagg42 rfl rfl hz27_3) (by decide) ?_
  refine Zm ?_
  obtain ⟨y30_4, ey30_4, hS⟩ := bd_s hS
  refine VL.q (q_callV (files_Row_find_1_ct z27_3 target_1 ey30_4) rfl rfl (fun _ _ => rfl)) (by decide) ?_
  refine VL.q (q_lss rfl rfl) (by decide) ?_
  refine Zl ?_
  refine VC.keep [0, 1, 2, 8, 9, 10, 11, 31] rfl ?_
  refine VC.cond_dec rfl (fun h31 => ?_) (fun h31 => ?_)
  ·
   replace hS := it_t h31 hS
   refine Zr ?_
   refine Zm ?_
   obtain ⟨b33, hS⟩ := gd_s hS
   refine VL.q (q_add rfl rfl b33) (by decide) ?_
   refine Za ?_
   refine VL.rnd (((IntKind.wrap .i64 (sHr .u64 (IntKind.wrap .u64 (i9_1 + j10_2)) 1)) + 1), j10_2) [0, 1, 2, 8, 9, 10] (fun _ _ h => h) (go2 hS hK1) rfl
  replace hS := it_f h31 hS
  refine Zr ?_
  refine Zm ?_
  refine Za ?_
  refine VL.rnd (i9_1, (IntKind.wrap .i64 (sHr .u64 (IntKind.wrap .u64 (i9_1 + j10_2)) 1))) [0, 1, 2, 8, 9, 10] (fun _ _ h => h) (go2 hS hK1) rfl
 replace hS := it_f h17 hS
 replace hS := up2 hS hK1
 refine Zx ?_
 refine Zq (Zr ?_)
 refine Zm ?_
 refine Zm ?_
 refine Zm ?_
 refine VL.q (q_lss rfl rfl) (by decide) ?_
 refine Zm ?_
 refine VL.split_dec 39 rfl (fun h39 => ?_) (fun h39 => ?_)
 ·
  replace hS := it_t h39 hS
  refine Zg ?_
  refine Zg ?_
  refine Zg ?_
  obtain ⟨z43_5, nz43_5, hz43_5, hS⟩ := at_s hS
  refine VL.gy rfl rfl (q_ixm (s := x_0) Tryz.underlying38 gsz42 rfl rfl nz43_5 (lt_of_get nz43_5 hz43_5)) (by decide) ?_
  refine VL.gy rfl rfl (q_els (s := x_0) gagg42 rfl rfl hz43_5) (by decide) ?_
  refine Zg ?_
  obtain ⟨y46_6, ey46_6, hS⟩ := bd_s hS
  refine VL.gy rfl rfl (q_callV (files_Row_find_1_ct z43_5 target_1 ey46_6) rfl rfl (fun _ _ => rfl)) (by decide) ?_
  refine VL.gy rfl rfl (q_eql rfl rfl) (by decide) ?_
  refine Zt ?_
  refine Za ?_
  refine Za ?_
  refine Zl ?_
  refine VC.keep [6, 7] rfl ?_
  cases hS
  exact VC.ret (fin2 (.inr rfl) rfl rfl rfl () rfl trivial (fun _ _ => trivial) (fun _ _ => trivial))
 replace hS := it_f h39 hS
 refine Zn ?_
 refine Zn ?_
 refine Zn ?_
 refine Zn ?_
 refine Zn ?_
 refine Zn ?_
 refine Zn ?_
 refine Zn ?_
 refine Zf ?_
 refine Za ?_
 refine Za ?_
 refine Zl ?_
 refine VC.keep [6, 7] rfl ?_
 cases hS
 exact VC.ret (fin2 (.inr rfl) rfl rfl rfl () rfl trivial (fun _ _ => trivial) (fun _ _ => trivial))
theorem files_Row_find_ct (r_0 : Sv FilesFile) (p_1 : Str) {r : Int × Bool} (hS : Sh.files_Row_find r_0.l p_1 = some r) :
 Ct Tryz.prog 73 [r_0.val, str p_1] r_0.ok (Ow.emp) (X := Unit) (fun _ => .tuple #[i64 r.1, .bool r.2]) (fun _ => True) (fun _ => Mo.tt) (fun _ => Ow.emp) := by
 refine Ct.of Tryz.func73 rfl (by kernel_rfl) Tryz.ntmps73 (by simp) fun c => ?_
 unfold Sh.files_Row_find at hS
 refine Zq (Zr ?_)
 refine Za ?_
 refine Za ?_
 refine Zl ?_
 refine Zq (Zr ?_)
 refine Zm ?_
 refine Zm ?_
 obtain ⟨y8_1, ey8_1, hS⟩ := bd_s hS
 refine VL.q (q_call (slices_BinarySearchFunc_files_Row_files_File_string_ct r_0 p_1 ey8_1) rfl (fun _ _ => rfl)) (by decide) ?_
 refine VL.q (q_extract rfl rfl) (by decide) ?_
 refine VL.q (q_extract rfl rfl) (by decide) ?_
 refine Za ?_
 refine Za ?_
 refine Zl ?_
 cases hS
 exact VC.ret (fin2 (.inr rfl) rfl rfl rfl () rfl trivial (fun _ _ => trivial) (fun _ _ => trivial))
theorem files_Row_Get_ct (r_0 : Sv FilesFile) (p_1 : Str) {r : FilesFile × Bool} (hS : Sh.files_Row_Get r_0.l p_1 = some r) :
 Ct Tryz.prog 23 [r_0.val, str p_1] r_0.ok (Ow.emp) (X := Unit) (fun _ => .tuple #[.agg #[str r.1.path, i64 r.1.mode, str r.1.data], .bool r.2]) (fun _ => True) (fun _ => Mo.tt) (fun _ => Ow.emp) := by
 refine Ct.of Tryz.func23 rfl (by kernel_rfl) Tryz.ntmps23 (by simp) fun c => ?_
 unfold Sh.files_Row_Get at hS
 refine Zq (Zr ?_)
 refine VL.alloc (cs := [str [], i64 0, str []]) (by kernel_rfl) (by decide) fun b4_1 => ?_
 refine Za ?_
 refine Zl ?_
 refine Zq (Zr ?_)
 refine Zm ?_
 refine Zm ?_
 obtain ⟨y11_2, ey11_2, hS⟩ := bd_s hS
 refine VL.q (q_call (files_Row_find_ct r_0 p_1 ey11_2) rfl (fun _ _ => rfl)) (by decide) ?_
 refine Zm ?_
 refine VL.q (q_extract rfl rfl) (by decide) ?_
 refine VL.q (q_extract rfl rfl) (by decide) ?_
 refine Za ?_
 refine Za ?_
 refine Zl ?_
 refine VC.keep [0, 4, 6, 7] rfl ?_
 refine Zq (Zq (Zr ?_))
 refine Zm ?_
 refine VL.q (q_not rfl) (by decide) ?_
 refine Zl ?_
 refine VC.cond rfl (fun h15 => ?_) (fun h15 => ?_)
 ·
  replace hS := it_t h15 hS
  refine Zq (Zr ?_)
  refine VL.q (q_build (vs := []) (cs := #[str [], i64 0, str []]) rfl (by kernel_rfl)) (by decide) ?_
  refine VL.store (vc := [str [], i64 0, str []]) (cs' := [str [], i64 0, str []]) rfl rfl rfl gsz42 rfl rfl (Nat.le_of_ble_eq_true rfl) rfl ?_
  refine Za ?_
  refine Zl ?_
  cases hS
  exact VC.ret (finG (vs := [.agg #[str [], i64 0, str []], .bool false]) (.inr rfl) rfl (RVs.cell gagg42 rfl rfl Rd.blk (RVs.tmp rfl (RVs.nil))) () rfl trivial (by (try dsimp only); exact InM.out) (fun _ _ => trivial))
 replace hS := it_b h15 hS
 refine Zk ?_
 refine Zq (Zr ?_)
 refine Zm ?_
 refine Zm ?_
 obtain ⟨z19_3, nz19_3, hz19_3, hS⟩ := at_s hS
 refine VL.q (q_ixm (s := r_0) Tryz.underlying38 gsz42 rfl rfl nz19_3 (lt_of_get nz19_3 hz19_3)) (by decide) ?_
 refine VL.q (q_els (s := r_0) gagg42 rfl rfl hz19_3) (by decide) ?_
 refine VL.store (vc := [str z19_3.path, i64 z19_3.mode, str z19_3.data]) (cs' := [str z19_3.path, i64 z19_3.mode, str z19_3.data]) rfl rfl rfl gsz42 rfl rfl (Nat.le_of_ble_eq_true rfl) rfl ?_
 refine Za ?_
 refine Zl ?_
 refine VC.keep [4, 5] rfl ?_
 cases hS
 exact VC.ret (finG (vs := [.agg #[str z19_3.path, i64 z19_3.mode, str z19_3.data], .bool true]) (.inr rfl) rfl (RVs.cell gagg42 rfl rfl Rd.blk (RVs.tmp rfl (RVs.nil))) () rfl trivial (by (try dsimp only); exact InM.out) (fun _ _ => trivial))
theorem tmerge_of_ct (r_0 : Sv FilesFile) (p_1 : Str) {r : TmergeOne} (hS : Sh.tmerge_of r_0.l p_1 = some r) :
 Ct Tryz.prog 60 [r_0.val, str p_1] r_0.ok (Ow.emp) (X := Unit) (fun _ => .agg #[str r.file_path, i64 r.file_mode, str r.file_data, .bool r.is]) (fun _ => True) (fun _ => Mo.tt) (fun _ => Ow.emp) := by
 refine Ct.of Tryz.func60 rfl (by kernel_rfl) Tryz.ntmps60 (by simp) fun c => ?_
 unfold Sh.tmerge_of at hS
 refine Zq (Zr ?_)
 refine VL.alloc (cs := [str [], i64 0, str [], .bool false]) (by kernel_rfl) (by decide) fun b4_1 => ?_
 refine Zl ?_
 refine Zq (Zr ?_)
 refine Zm ?_
 refine Zm ?_
 obtain ⟨y10_2, ey10_2, hS⟩ := bd_s hS
 refine VL.q (q_call (files_Row_Get_ct r_0 p_1 ey10_2) rfl (fun _ _ => rfl)) (by decide) ?_
 refine Zm ?_
 refine VL.q (q_extract rfl rfl) (by decide) ?_
 refine VL.q (q_extract rfl rfl) (by decide) ?_
 refine VL.alloc (cs := [str [], i64 0, str []]) (by kernel_rfl) (by decide) fun b5_3 => ?_
 refine VL.store (vc := [str y10_2.1.path, i64 y10_2.1.mode, str y10_2.1.data]) (cs' := [str y10_2.1.path, i64 y10_2.1.mode, str y10_2.1.data]) rfl rfl rfl gsz42 rfl rfl (Nat.le_of_ble_eq_true rfl) rfl ?_
 refine Za ?_
 refine Zl ?_
 refine VC.keep [4, 5, 6] rfl ?_
 refine Zq (Zr ?_)
 refine VL.q (q_fes gagg42 rfl rfl) (by decide) ?_
 refine Zm ?_
 refine VL.q (q_build (vs := [(0, .agg #[str y10_2.1.path, i64 y10_2.1.mode, str y10_2.1.data]), (1, .bool y10_2.2)]) (cs := #[str y10_2.1.path, i64 y10_2.1.mode, str y10_2.1.data, .bool y10_2.2]) rfl (by kernel_rfl)) (by decide) ?_
 refine VL.store (vc := [str y10_2.1.path, i64 y10_2.1.mode, str y10_2.1.data, .bool y10_2.2]) (cs' := [str y10_2.1.path, i64 y10_2.1.mode, str y10_2.1.data, .bool y10_2.2]) rfl rfl rfl gsz121 rfl rfl (Nat.le_of_ble_eq_true rfl) rfl ?_
 refine Zl ?_
 cases hS
 exact VC.ret (finG (vs := [.agg #[str y10_2.1.path, i64 y10_2.1.mode, str y10_2.1.data, .bool y10_2.2]]) (.inr rfl) rfl (RVs.cell gagg121 rfl rfl Rd.blk (RVs.nil)) () rfl trivial (by (try dsimp only); exact InM.out) (fun _ _ => trivial))
theorem tmerge_mode_ct (base_0 : TmergeOne) (ours_1 : TmergeOne) (theirs_2 : TmergeOne) {r : Int} (hS : Sh.tmerge_mode base_0 ours_1 theirs_2 = some r) :
 Ct Tryz.prog 126 [.agg #[str base_0.file_path, i64 base_0.file_mode, str base_0.file_data, .bool base_0.is], .agg #[str ours_1.file_path, i64 ours_1.file_mode, str ours_1.file_data, .bool ours_1.is], .agg #[str theirs_2.file_path, i64 theirs_2.file_mode, str theirs_2.file_data, .bool theirs_2.is]] Mo.tt (Ow.emp) (X := Unit) (fun _ => i64 r) (fun _ => True) (fun _ => Mo.tt) (fun _ => Ow.emp) := by
 refine Ct.of Tryz.func126 rfl (by kernel_rfl) Tryz.ntmps126 (by simp) fun c => ?_
 unfold Sh.tmerge_mode at hS
 refine Zq (Zr ?_)
 refine VL.box (cs := [str base_0.file_path, i64 base_0.file_mode, str base_0.file_data, .bool base_0.is]) rfl rfl (by decide) fun b3_1 => ?_
 refine VL.box (cs := [str ours_1.file_path, i64 ours_1.file_mode, str ours_1.file_data, .bool ours_1.is]) rfl rfl (by decide) fun b4_2 => ?_
 refine VL.box (cs := [str theirs_2.file_path, i64 theirs_2.file_mode, str theirs_2.file_data, .bool theirs_2.is]) rfl rfl (by decide) fun b5_3 => ?_
 refine Za ?_
 refine Zl ?_
 refine Zq ?_
 refine VC.cutJ (S := Bool) (fun (x17_4 : Bool) => x17_4) (fun (x17_4 : Bool) => [(4, ptr b4_2 0), (5, ptr b5_3 0), (17, .bool x17_4)]) (fun (x17_4 : Bool) => Mo.tt) (fun (x17_4 : Bool) => Ow.star (Blk b5_3 [str theirs_2.file_path, i64 theirs_2.file_mode, str theirs_2.file_data, .bool theirs_2.is] 121) (Ow.star (Blk b4_2 [str ours_1.file_path, i64 ours_1.file_mode, str ours_1.file_data, .bool ours_1.is] 121) (Ow.star (Blk b3_1 [str base_0.file_path, i64 base_0.file_mode, str base_0.file_data, .bool base_0.is] 121) (Ow.emp)))) hS ?_ ?_
 ·
  clear hS
  intro k5 hS
  refine Zr ?_
  refine VL.q (q_field gfa121_1 rfl) (by decide) ?_
  refine VL.q (q_fe gone4 rfl rfl) (by decide) ?_
  refine Zm ?_
  refine VL.split 9 rfl (fun h9 => ?_) (fun h9 => ?_)
  ·
   replace hS := it_t h9 hS
   refine VL.gy rfl rfl (q_field gfa121_0 rfl) (by decide) ?_
   refine VL.gy rfl rfl (q_field gfa42_1 rfl) (by decide) ?_
   refine VL.gy rfl rfl (q_fe gone3 rfl rfl) (by decide) ?_
   refine VL.gy rfl rfl (q_field gfa121_0 rfl) (by decide) ?_
   refine VL.gy rfl rfl (q_field gfa42_1 rfl) (by decide) ?_
   refine VL.gy rfl rfl (q_fe gone3 rfl rfl) (by decide) ?_
   refine VL.gy rfl rfl (q_eql rfl rfl) (by decide) ?_
   refine Zt ?_
   refine VL.mt (decide (base_0.file_mode = ours_1.file_mode)) [4, 5, 17] (fun _ _ h => h) hS rfl
  replace hS := it_b h9 hS
  refine Zn ?_
  refine Zn ?_
  refine Zn ?_
  refine Zn ?_
  refine Zn ?_
  refine Zn ?_
  refine Zn ?_
  refine Zf ?_
  refine VL.mt false [4, 5, 17] (fun _ _ h => h) hS rfl
 clear hS
 rintro x17_4 hS
 show VC _ _ _ _ _ [(4, ptr b4_2 0), (5, ptr b5_3 0), (17, .bool x17_4)] (Mo.and Mo.tt _) (Ow.star (Blk b5_3 [str theirs_2.file_path, i64 theirs_2.file_mode, str theirs_2.file_data, .bool theirs_2.is] 121) (Ow.star (Blk b4_2 [str ours_1.file_path, i64 ours_1.file_mode, str ours_1.file_data, .bool ours_1.is] 121) (Ow.star (Blk b3_1 [str base_0.file_path, i64 base_0.file_mode, str base_0.file_data, .bool base_0.is] 121) (Ow.emp))))
 refine VC.cond rfl (fun h17 => ?_) (fun h17 => ?_)
 ·
  replace hS := it_t h17 hS
  refine Zq (Zr ?_)
  refine VL.q (q_field gfa121_0 rfl) (by decide) ?_
  refine VL.q (q_field gfa42_1 rfl) (by decide) ?_
  refine VL.q (q_fe gone3 rfl rfl) (by decide) ?_
  refine Za ?_
  refine Zl ?_
  cases hS
  exact Ze
 replace hS := it_b h17 hS
 refine Zk ?_
 refine Zq (Zr ?_)
 refine VL.q (q_field gfa121_0 rfl) (by decide) ?_
 refine VL.q (q_field gfa42_1 rfl) (by decide) ?_
 refine VL.q (q_fe gone3 rfl rfl) (by decide) ?_
 refine Za ?_
 refine Zl ?_
 cases hS
 exact Ze
theorem lines_Split_ct (s_0 : Str) {r : List Str} (hS : Sh.lines_Split s_0 = some r) :
 Ct Tryz.prog 181 [str s_0] Mo.tt (Ow.emp) (X := Sv Str) (fun x => x.val) (fun x => r = x.l) (fun x => x.ok) (fun x => Ow.emp) := by
 refine Ct.of Tryz.func181 rfl (by kernel_rfl) Tryz.ntmps181 (by simp) fun c => ?_
 unfold Sh.lines_Split at hS
 refine Zq (Zr ?_)
 refine Za ?_
 refine Zl ?_
 refine Zq (Zr ?_)
 refine Za ?_
 refine Zl ?_
 refine Zq (Zb ?_)
 refine VC.nilO (⟨none, 0, []⟩ : Sv Str) 9 ⟨rfl, rfl⟩ ?_
 refine VC.iter (S := Str × Sv Str) (fun sg => (sg.1, sg.2.l)) (fun sg => [(0, str sg.1), (3, sg.2.val)]) (fun sg => Mo.tt) (fun sg => Ow.star (Sv.own sg.2 9) (Ow.emp)) (s_0, ⟨none, 0, []⟩) [0, 3] hS rfl ?_
 clear hS
 rintro ⟨s0_1, out3_2⟩ m1 y1 hS hK1
 show VC _ _ _ _ _ [(0, str s0_1), (3, out3_2.val)] (Mo.and Mo.tt _) (Ow.star (Sv.own out3_2 9) (Ow.emp))
 refine Zq (Zq (Zr ?_))
 refine Zm ?_
 refine VL.q (q_sne rfl rfl) (by decide) ?_
 refine Zl ?_
 refine VC.cond_ndec rfl (fun h6 => ?_) (fun h6 => ?_)
 ·
  replace hS := it_f h6 hS
  refine Zk ?_
  refine Zb (Zq (Zr ?_))
  refine Zm ?_
  obtain ⟨y8_3, ey8_3, hS⟩ := bd_s hS
  refine VL.q (q_call (strings_Index_ct s0_1 [10] ey8_3) rfl (fun _ _ => rfl)) (by decide) ?_
  refine Za ?_
  refine Zl ?_
  refine VC.cutJ (S := Int) (fun (i4_4 : Int) => i4_4) (fun (i4_4 : Int) => [(0, str s0_1), (3, out3_2.val), (4, i64 i4_4)]) (fun (i4_4 : Int) => Mo.tt) (fun (i4_4 : Int) => Ow.star (Sv.own out3_2 9) (Ow.emp)) hS ?_ ?_
  ·
   clear hS
   intro k5 hS
   refine Zq (Zr ?_)
   refine Zm ?_
   refine VL.q (q_lss rfl rfl) (by decide) ?_
   refine Zl ?_
   refine VC.cond_dec rfl (fun h10 => ?_) (fun h10 => ?_)
   ·
    replace hS := it_t h10 hS
    refine Zr ?_
    refine Zm ?_
    refine VL.q (q_slen Tryz.underlying9 rfl) (by decide) ?_
    obtain ⟨b13, hS⟩ := gd_s hS
    refine VL.q (q_sub rfl rfl b13) (by decide) ?_
    refine Za ?_
    refine VL.mt ((s0_1.length : Int) - 1) [0, 3, 4] (fun _ _ h => h) hS rfl
   replace hS := it_f h10 hS
   refine VC.skip_mt y8_3 [0, 3, 4] (fun _ _ h => h) hS rfl
  clear hS
  rintro i4_4 hS
  show VC _ _ _ _ _ [(0, str s0_1), (3, out3_2.val), (4, i64 i4_4)] (Mo.and Mo.tt _) (Ow.star (Sv.own out3_2 9) (Ow.emp))
  refine Zq (Zr ?_)
  refine Zm ?_
  refine Zm ?_
  refine Zm ?_
  obtain ⟨b17, hS⟩ := gd_s hS
  refine VL.q (q_add rfl rfl b17) (by decide) ?_
  obtain ⟨b18, hS⟩ := gd_s hS
  obtain ⟨y18_6, ey18_6, hS⟩ := lt_s hS
  refine VL.q (q_stoE Tryz.underlying9 rfl rfl b18.1 b18.2 ey18_6) (by decide) ?_
  refine VL.lit (α := Str) (xs := [.tmp 18]) (vs := [str y18_6]) [y18_6] Tryz.underlying82 glit9 (by decide) rfl rfl rfl rfl (by decide) (fun _ _ _ _ => trivial) (by decide) (fun s19_7 hs19_7 => ?_) (by decide)
  replace hS := lt_to hs19_7 hS
  obtain ⟨b20, hS⟩ := gd_s hS
  refine VL.app (s := out3_2) (r := s19_7) Tryz.underlying82 gapp9 (by decide) rfl Fo.out (ap1 b20) (ap2 b20 (by decide)) (by decide) (fun s20_9 hs20_9 => ?_)
  replace hS := lt_to hs20_9 hS
  refine Za ?_
  refine Zl ?_
  refine Zr ?_
  refine Zm ?_
  refine Zm ?_
  obtain ⟨b23, hS⟩ := gd_s hS
  refine VL.q (q_add rfl rfl b23) (by decide) ?_
  obtain ⟨b24, hS⟩ := gd_s hS
  obtain ⟨y24_11, ey24_11, hS⟩ := lt_s hS
  refine VL.q (q_sfromE Tryz.underlying9 rfl rfl b24.1 b24.2 ey24_11) (by decide) ?_
  refine Za ?_
  refine VL.rnd (y24_11, s20_9) [0, 3] (fun _ _ h => h) (go2 hS hK1) rfl
 replace hS := it_t h6 hS
 replace hS := up2 hS hK1
 refine Zx ?_
 refine Zq (Zr ?_)
 refine Zm ?_
 refine VL.shut out3_2 9 (fun _ _ _ _ => trivial) ?_
 obtain ⟨y26_12, ey26_12, hS⟩ := bd_s hS
 refine VL.callF (slices_Clip_string_string_ct out3_2 ey26_12) rfl (by decide) ?_
 rintro q26_12_0 rfl
 try dsimp only
 refine Za ?_
 refine Zl ?_
 cases hS
 exact VC.ret (fin1 (.inr rfl) rfl rfl q26_12_0 rfl rfl (by (try dsimp only); exact InM.out) (fun _ _ => trivial))
theorem diff_made_ct (a_0 : Sv Str) (a_1 : Sv Str) {r : (Unit × Err) ⊕ (DiffTableP × Unit)} (hS : Sh.diff_made a_0.l a_1.l = some r) :
 Ct Tryz.prog 297 [a_0.val, a_1.val] (a_0.ok.and a_1.ok) (Ow.emp) (X := (Er) ⊕ (Nat × DiffTable)) (fun x => match x with | .inl x => .tuple #[.pointer none, x.val] | .inr x => .tuple #[ptr x.1 0, .nilIface]) (fun x => match x with | .inl x => r = .inl ((), x.pl) | .inr x => r = .inr (x.2.pl, ())) (fun x => match x with | .inl x => x.ok | .inr x => (x.2.a.ok.and (x.2.b.ok.and x.2.n.ok))) (fun x => match x with | .inl x => Ow.emp | .inr x => Blk x.1 [x.2.a.val, x.2.b.val, x.2.n.val] 386) := by
 refine Ct.of Tryz.func297 rfl (by kernel_rfl) Tryz.ntmps297 (by simp) fun c => ?_
 unfold Sh.diff_made at hS
 refine Zq (Zr ?_)
 refine Za ?_
 refine Za ?_
 refine Zl ?_
 refine Zq (Zq (Zr ?_))
 refine Zm ?_
 refine VL.q (q_ln (s := a_0) Tryz.underlying82 rfl) (by decide) ?_
 refine VL.q (q_gtr rfl rfl) (by decide) ?_
 refine Zl ?_
 refine VC.cond_dec rfl (fun h12 => ?_) (fun h12 => ?_)
 ·
  replace hS := it_t h12 hS
  refine Zq (Zr ?_)
  refine VL.q (q_mkif Tryz.underlying115 (fun _ h => by cases h) rfl) (by decide) ?_
  refine VL.q (q_build (vs := [(0, str [108, 105, 110, 101, 115]), (1, i64 0), (2, (Er.no 4).val)]) (cs := #[str [108, 105, 110, 101, 115], i64 0, (Er.no 4).val]) rfl (by kernel_rfl)) (by decide) ?_
  refine VL.box (cs := [str [108, 105, 110, 101, 115], i64 0, (Er.no 4).val]) rfl rfl (by decide) fun b15_1 => ?_
  refine VL.shutB b15_1 ?_
  refine VL.q (q_mkif Tryz.underlying114 (fun _ h => by cases h) rfl) (by decide) ?_
  refine Za ?_
  refine Za ?_
  refine Zl ?_
  refine VC.keep [4, 5] rfl ?_
  cases hS
  exact VC.ret (fin2 (.inr rfl) rfl rfl rfl (.inl (Er.fault b15_1 [108, 105, 110, 101, 115] 0 (Er.no 4))) rfl rfl (by (try dsimp only); exact InM.out) (by (try dsimp only); exact EntO.out))
 replace hS := it_f h12 hS
 refine Zk ?_
 refine Zq (Zq (Zr ?_))
 refine Zm ?_
 refine VL.q (q_ln (s := a_1) Tryz.underlying82 rfl) (by decide) ?_
 refine VL.q (q_gtr rfl rfl) (by decide) ?_
 refine Zl ?_
 refine VC.cond_dec rfl (fun h19 => ?_) (fun h19 => ?_)
 ·
  replace hS := it_t h19 hS
  refine Zq (Zr ?_)
  refine VL.q (q_mkif Tryz.underlying115 (fun _ h => by cases h) rfl) (by decide) ?_
  refine VL.q (q_build (vs := [(0, str [108, 105, 110, 101, 115]), (1, i64 1), (2, (Er.no 4).val)]) (cs := #[str [108, 105, 110, 101, 115], i64 1, (Er.no 4).val]) rfl (by kernel_rfl)) (by decide) ?_
  refine VL.box (cs := [str [108, 105, 110, 101, 115], i64 1, (Er.no 4).val]) rfl rfl (by decide) fun b22_2 => ?_
  refine VL.shutB b22_2 ?_
  refine VL.q (q_mkif Tryz.underlying114 (fun _ h => by cases h) rfl) (by decide) ?_
  refine Za ?_
  refine Za ?_
  refine Zl ?_
  refine VC.keep [4, 5] rfl ?_
  cases hS
  exact VC.ret (fin2 (.inr rfl) rfl rfl rfl (.inl (Er.fault b22_2 [108, 105, 110, 101, 115] 1 (Er.no 4))) rfl rfl (by (try dsimp only); exact InM.out) (by (try dsimp only); exact EntO.out))
 replace hS := it_f h19 hS
 refine Zk ?_
 refine Zq (Zr ?_)
 refine Zm ?_
 refine Zm ?_
 refine Zm ?_
 refine VL.q (q_ln (s := a_0) Tryz.underlying82 rfl) (by decide) ?_
 obtain ⟨b28, hS⟩ := gd_s hS
 refine VL.q (q_add rfl rfl b28) (by decide) ?_
 refine Zm ?_
 refine VL.q (q_ln (s := a_1) Tryz.underlying82 rfl) (by decide) ?_
 obtain ⟨b31, hS⟩ := gd_s hS
 refine VL.q (q_add rfl rfl b31) (by decide) ?_
 obtain ⟨b32, hS⟩ := gd_s hS
 refine VL.q (q_mul rfl rfl b32) (by decide) ?_
 obtain ⟨b33, hS⟩ := gd_s hS
 refine VL.make (α := Int) (z := 0) Tryz.underlying26 gmk3 (by decide) rfl rfl b33.1 (Int.le_refl _) (by omega) (by omega) (by decide) (fun s33_3 hs33_3 => ?_)
 replace hS := lt_to hs33_3 hS
 refine VL.q (q_build (vs := [(0, a_0.val), (1, a_1.val), (2, s33_3.val)]) (cs := #[a_0.val, a_1.val, s33_3.val]) rfl (by kernel_rfl)) (by decide) ?_
 refine VL.box (cs := [a_0.val, a_1.val, s33_3.val]) rfl rfl (by decide) fun b35_5 => ?_
 refine Za ?_
 refine Zl ?_
 refine VC.keep [0, 1, 6] rfl ?_
 refine Zq (Zq (Zr ?_))
 refine Zm ?_
 refine VL.q (q_ln (s := a_0) Tryz.underlying82 rfl) (by decide) ?_
 obtain ⟨b38, hS⟩ := gd_s hS
 refine VL.q (q_sub rfl rfl b38) (by decide) ?_
 refine Za ?_
 refine Zl ?_
 refine Zb ?_
 refine VC.iter (S := Int) (fun (x7_6 : Int) => x7_6) (fun (x7_6 : Int) => [(0, a_0.val), (1, a_1.val), (6, ptr b35_5 0), (7, i64 x7_6)]) (fun (x7_6 : Int) => Mo.tt) (fun (x7_6 : Int) => Ow.star (Blk b35_5 [a_0.val, a_1.val, s33_3.val] 386) (Ow.star (Sv.own s33_3 3) (Ow.emp))) ((a_0.l.length : Int) - 1) [0, 1, 6, 7] hS rfl ?_
 clear hS
 rintro x7_6 m1 y1 hS hK1
 show VC _ _ _ _ _ [(0, a_0.val), (1, a_1.val), (6, ptr b35_5 0), (7, i64 x7_6)] (Mo.and Mo.tt _) (Ow.star (Blk b35_5 [a_0.val, a_1.val, s33_3.val] 386) (Ow.star (Sv.own s33_3 3) (Ow.emp)))
 refine Zq (Zq (Zr ?_))
 refine Zm ?_
 refine VL.q (q_geq rfl rfl) (by decide) ?_
 refine Zl ?_
 refine VC.cond_dec rfl (fun h40 => ?_) (fun h40 => ?_)
 ·
  replace hS := it_t h40 hS
  refine Zk ?_
  refine Zq (Zb (Zq (Zr ?_)))
  refine Zm ?_
  refine VL.q (q_ln (s := a_1) Tryz.underlying82 rfl) (by decide) ?_
  obtain ⟨b45, hS⟩ := gd_s hS
  refine VL.q (q_sub rfl rfl b45) (by decide) ?_
  refine Za ?_
  refine Zl ?_
  refine Zb ?_
  refine VC.iter (S := Unit) (fun (_ : Unit) => ()) (fun (_ : Unit) => [(0, a_0.val), (1, a_1.val), (6, ptr b35_5 0), (7, i64 x7_6), (8, i64 ((a_1.l.length : Int) - 1))]) (fun (_ : Unit) => Mo.tt) (fun (_ : Unit) => Ow.star (Blk b35_5 [a_0.val, a_1.val, s33_3.val] 386) (Ow.star (Sv.own s33_3 3) (Ow.emp))) () [0, 1, 6, 7, 8] hS rfl ?_
  clear hS
  rintro _ m2 y2 hS hK2
  show VC _ _ _ _ _ [(0, a_0.val), (1, a_1.val), (6, ptr b35_5 0), (7, i64 x7_6), (8, i64 ((a_1.l.length : Int) - 1))] (Mo.and Mo.tt _) (Ow.star (Blk b35_5 [a_0.val, a_1.val, s33_3.val] 386) (Ow.star (Sv.own s33_3 3) (Ow.emp)))
  refine Zq (Zq (Zr ?_))
  refine Zm ?_
  refine VL.q (q_geq rfl rfl) (by decide) ?_
  refine Zl ?_
  refine VC.cond_dec rfl (fun h47 => ?_) (fun h47 => ?_)
  ·
   replace hS := it_t h47 hS
   refine Zk ?_
   refine Zq (Zb (Zq (Zr ?_)))
   refine Zm ?_
   refine Zm ?_
   obtain ⟨b52, hS⟩ := gd_s hS
   refine VL.q (q_add rfl rfl b52) (by decide) ?_
   refine Zm ?_
   cases hS
  replace hS := it_f h47 hS
  replace hS := up2 hS hK2
  refine Zx ?_
  refine Zr ?_
  refine Zm ?_
  obtain ⟨b42, hS⟩ := gd_s hS
  refine VL.q (q_sub rfl rfl b42) (by decide) ?_
  refine Za ?_
  refine VL.rnd (x7_6 - 1) [0, 1, 6, 7] (fun _ _ h => h) (go2 hS hK1) rfl
 replace hS := it_f h40 hS
 replace hS := up2 hS hK1
 refine Zx ?_
 refine Zq (Zr ?_)
 refine Zm ?_
 refine Za ?_
 refine Za ?_
 refine Zl ?_
 refine VC.shut s33_3 3 (fun _ _ _ _ => trivial) ?_
 cases hS
 exact VC.ret (fin2 (.inr rfl) rfl rfl rfl (.inr (b35_5, ⟨a_0, a_1, s33_3⟩)) rfl rfl (by (try dsimp only); exact InM.out) (by (try dsimp only); exact EntO.out))
theorem slices_Clip_diff_Edit_diff_Edit_ct (s_0 : Sv DiffEdit) {r : List DiffEdit} (hS : Sh.slices_Clip_diff_Edit_diff_Edit s_0.l = some r) :
 Ct Tryz.prog 299 [s_0.val] s_0.ok (Ow.emp) (X := Sv DiffEdit) (fun x => x.val) (fun x => r = x.l) (fun x => x.ok) (fun x => Ow.emp) := by
 refine Ct.of Tryz.func299 rfl (by kernel_rfl) Tryz.ntmps299 (by simp) fun c => ?_
 unfold Sh.slices_Clip_diff_Edit_diff_Edit at hS
 refine Zq (Zr ?_)
 refine Za ?_
 refine Zl ?_
 refine Zq (Zr ?_)
 refine Zm ?_
 refine Zm ?_
 refine VL.q (q_ln (s := s_0) Tryz.underlying363 rfl) (by decide) ?_
 refine Zm ?_
 refine VL.q (q_ln (s := s_0) Tryz.underlying363 rfl) (by decide) ?_
 obtain ⟨b8, hS⟩ := gd_s hS
 refine VL.stom Tryz.underlying363 gsz366 rfl rfl rfl b8.1 (b8.2) (by decide) fun s8_1 hs8_1 => ?_
 replace hS := lt_to hs8_1 hS
 refine Za ?_
 refine Zl ?_
 cases hS
 exact VC.ret (fin1 (.inr rfl) rfl rfl s8_1 rfl rfl (by (try dsimp only); exact InM.out) (fun _ _ => trivial))
theorem diff_Lines_ct (a_0 : Sv Str) (a_1 : Sv Str) {r : List DiffEdit × Err} (hS : Sh.diff_Lines a_0.l a_1.l = some r) :
 Ct Tryz.prog 283 [a_0.val, a_1.val] (a_0.ok.and a_1.ok) (Ow.emp) (X := Sv DiffEdit × Er) (fun x => .tuple #[x.1.val, x.2.val]) (fun x => r = (x.1.l, x.2.pl)) (fun x => (x.1.ok.and x.2.ok)) (fun x => Ow.emp) := by
 refine Ct.of Tryz.func283 rfl (by kernel_rfl) Tryz.ntmps283 (by simp) fun c => ?_
 unfold Sh.diff_Lines at hS
 refine Zq (Zr ?_)
 refine Za ?_
 refine Za ?_
 refine Zl ?_
 refine Zq (Zr ?_)
 refine Zm ?_
 refine Zm ?_
 obtain ⟨y16_1, ey16_1, hS⟩ := bd_s hS
 refine VL.callO (diff_made_ct a_0 a_1 ey16_1) rfl (by decide) ?_
 rintro (q16_1_0 | ⟨q16_1_0, q16_1_1⟩) rfl
 ·
  try dsimp only at hS
  try dsimp only
  refine Zm ?_
  refine VL.q (q_extract rfl rfl) (by decide) ?_
  refine VL.q (q_extract rfl rfl) (by decide) ?_
  refine Za ?_
  refine Za ?_
  refine Zl ?_
  refine VC.keep [0, 1, 6, 7] rfl ?_
  refine Zq (Zq (Zr ?_))
  refine Zm ?_
  refine VL.q (q_erne Tryz.underlying29 rfl) (by decide) ?_
  refine Zl ?_
  refine VC.cond_ndec rfl (fun h20 => ?_) (fun h20 => ?_)
  ·
   replace hS := it_f h20 hS
   refine Zq (Zr ?_)
   refine Zm ?_
   refine Za ?_
   refine Za ?_
   refine Zl ?_
   cases hS
   exact VC.ret (fin2 (.inr rfl) rfl rfl rfl (⟨none, 0, []⟩, q16_1_0) rfl rfl (by (try dsimp only); exact InM.out) (fun _ _ => trivial))
  replace hS := it_t h20 hS
  refine Zk ?_
  refine Zq (Zr ?_)
  refine Za ?_
  refine Zl ?_
  refine VC.cutJ (S := Unit) (fun (_ : Unit) => ()) (fun (_ : Unit) => [(8, .slice none 0 0)]) (fun (_ : Unit) => Mo.tt) (fun (_ : Unit) => Ow.emp) hS ?_ ?_
  ·
   clear hS
   intro k2 hS
   refine Zq (Zr ?_)
   refine Za ?_
   refine Za ?_
   refine Zl ?_
   refine Zb ?_
   refine VC.iter (S := Unit) (fun (_ : Unit) => ()) (fun (_ : Unit) => [(0, a_0.val), (1, a_1.val), (6, .pointer none), (8, .slice none 0 0), (9, i64 0), (10, i64 0)]) (fun (_ : Unit) => Mo.tt) (fun (_ : Unit) => Ow.emp) () [0, 1, 6, 8, 9, 10] hS rfl ?_
   clear hS
   rintro _ m1 y1 hS hK1
   show VC _ _ _ _ _ [(0, a_0.val), (1, a_1.val), (6, .pointer none), (8, .slice none 0 0), (9, i64 0), (10, i64 0)] (Mo.and Mo.tt _) (Ow.emp)
   refine VC.cutJ (S := Unit) (fun (_ : Unit) => ()) (fun (_ : Unit) => [(0, a_0.val), (1, a_1.val), (6, .pointer none), (8, .slice none 0 0), (9, i64 0), (10, i64 0)]) (fun (_ : Unit) => Mo.tt) (fun (_ : Unit) => Ow.emp) hS ?_ ?_
   ·
    clear hS
    intro k3 hS
    refine Zq (Zr ?_)
    refine Zm ?_
    refine Zm ?_
    refine VL.q (q_ln (s := a_0) Tryz.underlying82 rfl) (by decide) ?_
    refine VL.q (q_lss rfl rfl) (by decide) ?_
    refine Zm ?_
    refine VL.split_dec 26 rfl (fun h26 => ?_) (fun h26 => ?_)
    ·
     replace hS := it_t h26 hS
     refine Zn ?_
     refine Zn ?_
     refine Zn ?_
     refine Zn ?_
     refine Zt ?_
     refine Zl ?_
     refine VC.keep [0, 1, 6, 8, 9, 10, 31] rfl ?_
     refine VC.cond_t rfl ?_
     refine VC.skip_mt () [0, 1, 6, 8, 9, 10] (fun _ _ h => h) hS rfl
    replace hS := it_f h26 hS
    refine Zg ?_
    refine Zg ?_
    refine VL.gy rfl rfl (q_ln (s := a_1) Tryz.underlying82 rfl) (by decide) ?_
    refine VL.gy rfl rfl (q_lss rfl rfl) (by decide) ?_
    refine Zf ?_
    refine Zl ?_
    refine VC.keep [0, 1, 6, 8, 9, 10, 31] rfl ?_
    refine VC.cond_dec rfl (fun h31 => ?_) (fun h31 => ?_)
    ·
     replace hS := it_t h31 hS
     refine VC.skip_mt () [0, 1, 6, 8, 9, 10] (fun _ _ h => h) hS rfl
    replace hS := it_f h31 hS
    replace hS := up2 hS hK1
    refine VC.exit_mt () [8] (fun _ _ h => h) hS rfl
   clear hS
   rintro _ hS
   show VC _ _ _ _ _ [(0, a_0.val), (1, a_1.val), (6, .pointer none), (8, .slice none 0 0), (9, i64 0), (10, i64 0)] (Mo.and Mo.tt _) (Ow.emp)
   refine Zb (Zq (Zr ?_))
   refine Zm ?_
   refine Zm ?_
   refine Zm ?_
   cases hS
  clear hS
  rintro _ hS
  show VC _ _ _ _ _ [(8, .slice none 0 0)] (Mo.and Mo.tt _) (Ow.emp)
  refine Zq (Zr ?_)
  refine Zm ?_
  obtain ⟨y64_4, ey64_4, hS⟩ := bd_s hS
  refine VL.callF (slices_Clip_diff_Edit_diff_Edit_ct ⟨none, 0, []⟩ ey64_4) rfl (by decide) ?_
  rintro q64_4_0 rfl
  try dsimp only
  refine Za ?_
  refine Za ?_
  refine Zl ?_
  cases hS
  exact VC.ret (fin2 (.inr rfl) rfl rfl rfl (q64_4_0, .nil) rfl rfl (by (try dsimp only); exact InM.out) (fun _ _ => trivial))
 try dsimp only at hS
 try dsimp only
 refine Zm ?_
 refine VL.q (q_extract rfl rfl) (by decide) ?_
 refine VL.q (q_extract rfl rfl) (by decide) ?_
 refine Za ?_
 refine Za ?_
 refine Zl ?_
 refine VC.keep [0, 1, 6, 7] rfl ?_
 refine Zq (Zq (Zr ?_))
 refine Zm ?_
 refine VL.q (q_nilne Tryz.underlying29 rfl) (by decide) ?_
 refine Zl ?_
 refine VC.cond_f rfl ?_
 refine Zk ?_
 refine Zq (Zr ?_)
 refine Za ?_
 refine Zl ?_
 refine VC.cutJ (S := Unit) (fun (_ : Unit) => ()) (fun (_ : Unit) => [(8, .slice none 0 0)]) (fun (_ : Unit) => Mo.tt) (fun (_ : Unit) => Ow.star (Blk q16_1_0 [q16_1_1.a.val, q16_1_1.b.val, q16_1_1.n.val] 386) (Ow.emp)) hS ?_ ?_
 ·
  clear hS
  intro k5 hS
  refine Zq (Zr ?_)
  refine Za ?_
  refine Za ?_
  refine Zl ?_
  refine Zb ?_
  refine VC.iter (S := Unit) (fun (_ : Unit) => ()) (fun (_ : Unit) => [(0, a_0.val), (1, a_1.val), (6, ptr q16_1_0 0), (8, .slice none 0 0), (9, i64 0), (10, i64 0)]) (fun (_ : Unit) => Mo.tt) (fun (_ : Unit) => Ow.star (Blk q16_1_0 [q16_1_1.a.val, q16_1_1.b.val, q16_1_1.n.val] 386) (Ow.emp)) () [0, 1, 6, 8, 9, 10] hS rfl ?_
  clear hS
  rintro _ m1 y1 hS hK1
  show VC _ _ _ _ _ [(0, a_0.val), (1, a_1.val), (6, ptr q16_1_0 0), (8, .slice none 0 0), (9, i64 0), (10, i64 0)] (Mo.and Mo.tt _) (Ow.star (Blk q16_1_0 [q16_1_1.a.val, q16_1_1.b.val, q16_1_1.n.val] 386) (Ow.emp))
  refine VC.cutJ (S := Unit) (fun (_ : Unit) => ()) (fun (_ : Unit) => [(0, a_0.val), (1, a_1.val), (6, ptr q16_1_0 0), (8, .slice none 0 0), (9, i64 0), (10, i64 0)]) (fun (_ : Unit) => Mo.tt) (fun (_ : Unit) => Ow.star (Blk q16_1_0 [q16_1_1.a.val, q16_1_1.b.val, q16_1_1.n.val] 386) (Ow.emp)) hS ?_ ?_
  ·
   clear hS
   intro k6 hS
   refine Zq (Zr ?_)
   refine Zm ?_
   refine Zm ?_
   refine VL.q (q_ln (s := a_0) Tryz.underlying82 rfl) (by decide) ?_
   refine VL.q (q_lss rfl rfl) (by decide) ?_
   refine Zm ?_
   refine VL.split_dec 26 rfl (fun h26 => ?_) (fun h26 => ?_)
   ·
    replace hS := it_t h26 hS
    refine Zn ?_
    refine Zn ?_
    refine Zn ?_
    refine Zn ?_
    refine Zt ?_
    refine Zl ?_
    refine VC.keep [0, 1, 6, 8, 9, 10, 31] rfl ?_
    refine VC.cond_t rfl ?_
    refine VC.skip_mt () [0, 1, 6, 8, 9, 10] (fun _ _ h => h) hS rfl
   replace hS := it_f h26 hS
   refine Zg ?_
   refine Zg ?_
   refine VL.gy rfl rfl (q_ln (s := a_1) Tryz.underlying82 rfl) (by decide) ?_
   refine VL.gy rfl rfl (q_lss rfl rfl) (by decide) ?_
   refine Zf ?_
   refine Zl ?_
   refine VC.keep [0, 1, 6, 8, 9, 10, 31] rfl ?_
   refine VC.cond_dec rfl (fun h31 => ?_) (fun h31 => ?_)
   ·
    replace hS := it_t h31 hS
    refine VC.skip_mt () [0, 1, 6, 8, 9, 10] (fun _ _ h => h) hS rfl
   replace hS := it_f h31 hS
   replace hS := up2 hS hK1
   refine VC.exit_mt () [8] (fun _ _ h => h) hS rfl
  clear hS
  rintro _ hS
  show VC _ _ _ _ _ [(0, a_0.val), (1, a_1.val), (6, ptr q16_1_0 0), (8, .slice none 0 0), (9, i64 0), (10, i64 0)] (Mo.and Mo.tt _) (Ow.star (Blk q16_1_0 [q16_1_1.a.val, q16_1_1.b.val, q16_1_1.n.val] 386) (Ow.emp))
  refine Zb (Zq (Zr ?_))
  refine Zm ?_
  refine Zm ?_
  refine Zm ?_
  cases hS
 clear hS
 rintro _ hS
 show VC _ _ _ _ _ [(8, .slice none 0 0)] (Mo.and Mo.tt _) (Ow.star (Blk q16_1_0 [q16_1_1.a.val, q16_1_1.b.val, q16_1_1.n.val] 386) (Ow.emp))
 refine Zq (Zr ?_)
 refine Zm ?_
 obtain ⟨y64_7, ey64_7, hS⟩ := bd_s hS
 refine VL.callF (slices_Clip_diff_Edit_diff_Edit_ct ⟨none, 0, []⟩ ey64_7) rfl (by decide) ?_
 rintro q64_7_0 rfl
 try dsimp only
 refine Za ?_
 refine Za ?_
 refine Zl ?_
 cases hS
 exact VC.ret (fin2 (.inr rfl) rfl rfl rfl (q64_7_0, .nil) rfl rfl (by (try dsimp only); exact InM.out) (fun _ _ => trivial))
theorem slices_Clip_diff_Match_diff_Match_ct (s_0 : Sv DiffMatch) {r : List DiffMatch} (hS : Sh.slices_Clip_diff_Match_diff_Match s_0.l = some r) :
 Ct Tryz.prog 284 [s_0.val] s_0.ok (Ow.emp) (X := Sv DiffMatch) (fun x => x.val) (fun x => r = x.l) (fun x => x.ok) (fun x => Ow.emp) := by
 refine Ct.of Tryz.func284 rfl (by kernel_rfl) Tryz.ntmps284 (by simp) fun c => ?_
 unfold Sh.slices_Clip_diff_Match_diff_Match at hS
 refine Zq (Zr ?_)
 refine Za ?_
 refine Zl ?_
 refine Zq (Zr ?_)
 refine Zm ?_
 refine Zm ?_
 refine VL.q (q_ln (s := s_0) Tryz.underlying337 rfl) (by decide) ?_
 refine Zm ?_
 refine VL.q (q_ln (s := s_0) Tryz.underlying337 rfl) (by decide) ?_
 obtain ⟨b8, hS⟩ := gd_s hS
 refine VL.stom Tryz.underlying337 gsz342 rfl rfl rfl b8.1 (b8.2) (by decide) fun s8_1 hs8_1 => ?_
 replace hS := lt_to hs8_1 hS
 refine Za ?_
 refine Zl ?_
 cases hS
 exact VC.ret (fin1 (.inr rfl) rfl rfl s8_1 rfl rfl (by (try dsimp only); exact InM.out) (fun _ _ => trivial))
theorem diff_Matches_ct (a_0 : Sv Str) (a_1 : Sv Str) {r : List DiffMatch × Err} (hS : Sh.diff_Matches a_0.l a_1.l = some r) :
 Ct Tryz.prog 261 [a_0.val, a_1.val] (a_0.ok.and a_1.ok) (Ow.emp) (X := Sv DiffMatch × Er) (fun x => .tuple #[x.1.val, x.2.val]) (fun x => r = (x.1.l, x.2.pl)) (fun x => (x.1.ok.and x.2.ok)) (fun x => Ow.emp) := by
 refine Ct.of Tryz.func261 rfl (by kernel_rfl) Tryz.ntmps261 (by simp) fun c => ?_
 unfold Sh.diff_Matches at hS
 refine Zq (Zr ?_)
 refine Za ?_
 refine Za ?_
 refine Zl ?_
 refine Zq (Zr ?_)
 refine Zm ?_
 refine Zm ?_
 obtain ⟨y17_1, ey17_1, hS⟩ := bd_s hS
 refine VL.callF (diff_Lines_ct a_0 a_1 ey17_1) rfl (by decide) ?_
 rintro ⟨q17_1_0, q17_1_1⟩ rfl
 try dsimp only
 refine Zm ?_
 refine VL.q (q_extract rfl rfl) (by decide) ?_
 refine VL.q (q_extract rfl rfl) (by decide) ?_
 refine Za ?_
 refine Za ?_
 refine Zl ?_
 refine VC.keep [6, 7] rfl ?_
 refine Zq (Zq (Zr ?_))
 refine Zm ?_
 refine VL.q (q_erne Tryz.underlying29 rfl) (by decide) ?_
 refine Zl ?_
 refine VC.cond_ndec rfl (fun h21 => ?_) (fun h21 => ?_)
 ·
  replace hS := it_f h21 hS
  refine Zq (Zr ?_)
  refine Zm ?_
  refine Za ?_
  refine Za ?_
  refine Zl ?_
  cases hS
  exact VC.ret (fin2 (.inr rfl) rfl rfl rfl (⟨none, 0, []⟩, q17_1_1) rfl rfl (by (try dsimp only); exact InM.out) (fun _ _ => trivial))
 replace hS := it_t h21 hS
 refine Zk ?_
 refine Zq (Zr ?_)
 refine Za ?_
 refine Zl ?_
 refine Zq (Zr ?_)
 refine Za ?_
 refine Za ?_
 refine Za ?_
 refine Zl ?_
 refine Zq (Zq (Zr ?_))
 refine Zm ?_
 refine VL.q (q_ln (s := q17_1_0) Tryz.underlying363 rfl) (by decide) ?_
 refine Zm ?_
 refine Zl ?_
 refine Zb ?_
 refine VC.nilO (⟨none, 0, []⟩ : Sv DiffMatch) 342 ⟨rfl, rfl⟩ ?_
 refine VC.iter (S := Sv DiffMatch × Int × Int × Bool × Int) (fun sg => (sg.1.l, sg.2.1, sg.2.2.1, sg.2.2.2.1, sg.2.2.2.2)) (fun sg => [(8, sg.1.val), (9, i64 sg.2.1), (10, i64 sg.2.2.1), (11, .bool sg.2.2.2.1), (23, q17_1_0.val), (24, i64 (q17_1_0.l.length : Int)), (25, i64 sg.2.2.2.2)]) (fun sg => Mo.tt) (fun sg => Ow.star (Sv.own sg.1 342) (Ow.emp)) (⟨none, 0, []⟩, 0, 0, false, 0) [8, 9, 10, 11, 23, 24, 25] hS rfl ?_
 clear hS
 rintro ⟨x8_2, x9_3, x10_4, x11_5, x25_6⟩ m1 y1 hS hK1
 show VC _ _ _ _ _ [(8, x8_2.val), (9, i64 x9_3), (10, i64 x10_4), (11, .bool x11_5), (23, q17_1_0.val), (24, i64 (q17_1_0.l.length : Int)), (25, i64 x25_6)] (Mo.and Mo.tt _) (Ow.star (Sv.own x8_2 342) (Ow.emp))
 refine Zq (Zr ?_)
 refine VL.q (q_lss rfl rfl) (by decide) ?_
 refine Zl ?_
 refine Zq ?_
 refine VC.cond_dec rfl (fun h26 => ?_) (fun h26 => ?_)
 ·
  replace hS := it_t h26 hS
  refine Zk ?_
  refine Zq (Zb (Zq (Zr ?_)))
  obtain ⟨z27_7, nz27_7, hz27_7, hS⟩ := at_s hS
  refine VL.q (q_ixm (s := q17_1_0) Tryz.underlying363 gsz366 rfl rfl nz27_7 (lt_of_get nz27_7 hz27_7)) (by decide) ?_
  refine VL.q (q_els (s := q17_1_0) gagg366 rfl rfl hz27_7) (by decide) ?_
  refine VL.alloc (cs := [i64 0, str []]) (by kernel_rfl) (by decide) fun b13_8 => ?_
  refine VL.store (vc := [i64 z27_7.op, str z27_7.line]) (cs' := [i64 z27_7.op, str z27_7.line]) rfl rfl rfl gsz366 rfl rfl (Nat.le_of_ble_eq_true rfl) rfl ?_
  refine Zl ?_
  refine VC.cutJ (S := Sv DiffMatch) (fun (x8_9 : Sv DiffMatch) => x8_9.l) (fun (x8_9 : Sv DiffMatch) => [(8, x8_9.val), (9, i64 x9_3), (10, i64 x10_4), (13, ptr b13_8 0), (23, q17_1_0.val), (24, i64 (q17_1_0.l.length : Int)), (25, i64 x25_6)]) (fun (x8_9 : Sv DiffMatch) => Mo.tt) (fun (x8_9 : Sv DiffMatch) => Ow.star (Blk b13_8 [i64 z27_7.op, str z27_7.line] 366) (Ow.star (Sv.own x8_9 342) (Ow.emp))) hS ?_ ?_
  ·
   clear hS
   intro k10 hS
   refine Zq (Zr ?_)
   refine VL.q (q_field gfa366_0 rfl) (by decide) ?_
   refine VL.q (q_fe gone3 rfl rfl) (by decide) ?_
   refine VL.q (q_eql rfl rfl) (by decide) ?_
   refine Zl ?_
   refine VC.cond_dec rfl (fun h31 => ?_) (fun h31 => ?_)
   ·
    replace hS := it_t h31 hS
    refine VC.cutJ (S := Sv DiffMatch) (fun (x8_11 : Sv DiffMatch) => x8_11.l) (fun (x8_11 : Sv DiffMatch) => [(8, x8_11.val), (9, i64 x9_3), (10, i64 x10_4), (13, ptr b13_8 0), (23, q17_1_0.val), (24, i64 (q17_1_0.l.length : Int)), (25, i64 x25_6)]) (fun (x8_11 : Sv DiffMatch) => Mo.tt) (fun (x8_11 : Sv DiffMatch) => Ow.star (Blk b13_8 [i64 z27_7.op, str z27_7.line] 366) (Ow.star (Sv.own x8_11 342) (Ow.emp))) hS ?_ ?_
    ·
     clear hS
     intro k12 hS
     refine Zq (Zr ?_)
     refine Zm ?_
     refine VL.q (q_not rfl) (by decide) ?_
     refine Zl ?_
     refine VC.keep [8, 9, 10, 23, 24, 25, 13, 33] rfl ?_
     refine VC.cond rfl (fun h33 => ?_) (fun h33 => ?_)
     ·
      replace hS := it_t h33 hS
      refine Zr ?_
      refine Zm ?_
      refine Zm ?_
      refine Zm ?_
      refine VL.q (q_build (vs := [(0, i64 x9_3), (1, i64 x10_4)]) (cs := #[i64 x9_3, i64 x10_4, i64 0]) rfl (by kernel_rfl)) (by decide) ?_
      refine VL.lit (α := DiffMatch) (xs := [.tmp 37]) (vs := [.agg #[i64 x9_3, i64 x10_4, i64 0]]) [⟨x9_3, x10_4, 0⟩] Tryz.underlying337 glit342 (by decide) rfl rfl rfl rfl (by decide) (fun _ _ _ _ => trivial) (by decide) (fun s38_13 hs38_13 => ?_) (by decide)
      replace hS := lt_to hs38_13 hS
      obtain ⟨b39, hS⟩ := gd_s hS
      refine VL.app (s := x8_2) (r := s38_13) Tryz.underlying337 gapp342 (by decide) rfl Fo.out (ap1 b39) (ap2 b39 (by decide)) (by decide) (fun s39_15 hs39_15 => ?_)
      replace hS := lt_to hs39_15 hS
      refine Za ?_
      refine VL.mt s39_15 [8, 9, 10, 13, 23, 24, 25] (fun _ _ h => h) hS rfl
     replace hS := it_b h33 hS
     refine VC.skip_mt x8_2 [8, 9, 10, 13, 23, 24, 25] (fun _ _ h => h) hS rfl
    clear hS
    rintro x8_11 hS
    show VC _ _ _ _ _ [(8, x8_11.val), (9, i64 x9_3), (10, i64 x10_4), (13, ptr b13_8 0), (23, q17_1_0.val), (24, i64 (q17_1_0.l.length : Int)), (25, i64 x25_6)] (Mo.and Mo.tt _) (Ow.star (Blk b13_8 [i64 z27_7.op, str z27_7.line] 366) (Ow.star (Sv.own x8_11 342) (Ow.emp)))
    refine Zr ?_
    refine Zm ?_
    refine Zm ?_
    refine VL.q (q_ln (s := x8_11) Tryz.underlying337 rfl) (by decide) ?_
    obtain ⟨b43, hS⟩ := gd_s hS
    refine VL.q (q_sub rfl rfl b43) (by decide) ?_
    obtain ⟨z44_17, nz44_17, hz44_17, hS⟩ := at_s hS
    refine VL.q (q_ixo (s := x8_11) Tryz.underlying337 gsz342 rfl rfl nz44_17 (lt_of_get nz44_17 hz44_17)) (by decide) ?_
    refine VL.q (q_field gfa342_2 rfl) (by decide) ?_
    refine VL.q (q_elfo (s := x8_11) gone3 rfl hz44_17 rfl) (by decide) ?_
    obtain ⟨b47, hS⟩ := gd_s hS
    refine VL.q (q_add rfl rfl b47) (by decide) ?_
    obtain ⟨z48_18, nz48_18, hz48_18, hS⟩ := at_s hS
    refine VL.q (q_ixo (s := x8_11) Tryz.underlying337 gsz342 rfl rfl nz48_18 (lt_of_get nz48_18 hz48_18)) (by decide) ?_
    refine VL.q (q_field gfa342_2 rfl) (by decide) ?_
    refine VL.storeE (s := x8_11) (T := 342) (j := 2) (vc := [i64 (z44_17.n + 1)]) (⟨z48_18.a, z48_18.b, (z44_17.n + 1)⟩ : DiffMatch) (by decide) rfl rfl hz48_18 rfl gsz3 rfl rfl (Nat.le_of_ble_eq_true rfl) rfl (fun w19 hw19 haw19 hcw19 hvw19 hbw19 how19 => ?_)
    rw [← hvw19]
    replace hS := lt_to hw19 hS
    refine VL.mt w19 [8, 9, 10, 13, 23, 24, 25] (fun _ _ h => h) hS rfl
   replace hS := it_f h31 hS
   refine VC.skip_mt x8_2 [8, 9, 10, 13, 23, 24, 25] (fun _ _ h => h) hS rfl
  clear hS
  rintro x8_9 hS
  show VC _ _ _ _ _ [(8, x8_9.val), (9, i64 x9_3), (10, i64 x10_4), (13, ptr b13_8 0), (23, q17_1_0.val), (24, i64 (q17_1_0.l.length : Int)), (25, i64 x25_6)] (Mo.and Mo.tt _) (Ow.star (Blk b13_8 [i64 z27_7.op, str z27_7.line] 366) (Ow.star (Sv.own x8_9 342) (Ow.emp)))
  refine Zq (Zr ?_)
  refine VL.q (q_field gfa366_0 rfl) (by decide) ?_
  refine VL.q (q_fe gone3 rfl rfl) (by decide) ?_
  refine VL.q (q_eql rfl rfl) (by decide) ?_
  refine Za ?_
  refine Zl ?_
  refine VC.cutJ (S := Int) (fun (x9_21 : Int) => x9_21) (fun (x9_21 : Int) => [(8, x8_9.val), (9, i64 x9_21), (10, i64 x10_4), (11, .bool (decide (z27_7.op = 1))), (13, ptr b13_8 0), (23, q17_1_0.val), (24, i64 (q17_1_0.l.length : Int)), (25, i64 x25_6)]) (fun (x9_21 : Int) => Mo.tt) (fun (x9_21 : Int) => Ow.star (Blk b13_8 [i64 z27_7.op, str z27_7.line] 366) (Ow.star (Sv.own x8_9 342) (Ow.emp))) hS ?_ ?_
  ·
   clear hS
   intro k22 hS
   refine Zq (Zr ?_)
   refine VL.q (q_field gfa366_0 rfl) (by decide) ?_
   refine VL.q (q_fe gone3 rfl rfl) (by decide) ?_
   refine VL.q (q_neq rfl rfl) (by decide) ?_
   refine Zl ?_
   refine VC.cond_ndec rfl (fun h55 => ?_) (fun h55 => ?_)
   ·
    replace hS := it_f h55 hS
    refine Zr ?_
    refine Zm ?_
    obtain ⟨b57, hS⟩ := gd_s hS
    refine VL.q (q_add rfl rfl b57) (by decide) ?_
    refine Za ?_
    refine VL.mt (x9_3 + 1) [8, 9, 10, 11, 13, 23, 24, 25] (fun _ _ h => h) hS rfl
   replace hS := it_t h55 hS
   refine VC.skip_mt x9_3 [8, 9, 10, 11, 13, 23, 24, 25] (fun _ _ h => h) hS rfl
  clear hS
  rintro x9_21 hS
  show VC _ _ _ _ _ [(8, x8_9.val), (9, i64 x9_21), (10, i64 x10_4), (11, .bool (decide (z27_7.op = 1))), (13, ptr b13_8 0), (23, q17_1_0.val), (24, i64 (q17_1_0.l.length : Int)), (25, i64 x25_6)] (Mo.and Mo.tt _) (Ow.star (Blk b13_8 [i64 z27_7.op, str z27_7.line] 366) (Ow.star (Sv.own x8_9 342) (Ow.emp)))
  refine Zq (Zr ?_)
  refine VL.q (q_field gfa366_0 rfl) (by decide) ?_
  refine VL.q (q_fe gone3 rfl rfl) (by decide) ?_
  refine VL.q (q_neq rfl rfl) (by decide) ?_
  refine Zl ?_
  refine VC.cond_ndec rfl (fun h60 => ?_) (fun h60 => ?_)
  ·
   replace hS := it_f h60 hS
   refine Zr ?_
   refine Zm ?_
   obtain ⟨b62, hS⟩ := gd_s hS
   refine VL.q (q_add rfl rfl b62) (by decide) ?_
   refine Za ?_
   refine Zl ?_
   refine Zr ?_
   obtain ⟨b63, hS⟩ := gd_s hS
   refine VL.q (q_add rfl rfl b63) (by decide) ?_
   refine Zm ?_
   refine VL.rnd (x8_9, x9_21, (x10_4 + 1), (decide (z27_7.op = 1)), (x25_6 + 1)) [8, 9, 10, 11, 23, 24, 25] (fun _ _ h => h) (go2 hS hK1) rfl
  replace hS := it_t h60 hS
  refine Zk ?_
  refine Zr ?_
  obtain ⟨b63, hS⟩ := gd_s hS
  refine VL.q (q_add rfl rfl b63) (by decide) ?_
  refine Zm ?_
  refine VL.rnd (x8_9, x9_21, x10_4, (decide (z27_7.op = 1)), (x25_6 + 1)) [8, 9, 10, 11, 23, 24, 25] (fun _ _ h => h) (go2 hS hK1) rfl
 replace hS := it_f h26 hS
 replace hS := up2 hS hK1
 refine Zx ?_
 refine Zq (Zr ?_)
 refine Zm ?_
 refine VL.shut x8_2 342 (fun _ _ _ _ => trivial) ?_
 obtain ⟨y65_23, ey65_23, hS⟩ := bd_s hS
 refine VL.callF (slices_Clip_diff_Match_diff_Match_ct x8_2 ey65_23) rfl (by decide) ?_
 rintro q65_23_0 rfl
 try dsimp only
 refine Za ?_
 refine Za ?_
 refine Zl ?_
 refine VC.keep [4, 5] rfl ?_
 cases hS
 exact VC.ret (fin2 (.inr rfl) rfl rfl rfl (q65_23_0, .nil) rfl rfl (by (try dsimp only); exact InM.out) (fun _ _ => trivial))
theorem merge_places0_ct (base_0 : Sv Str) (other_1 : Sv Str) {r : List Int × Err} (hS : Sh.merge_places0 base_0.l other_1.l = some r) :
 Ct Tryz.prog 224 [base_0.val, other_1.val] (base_0.ok.and other_1.ok) (Ow.emp) (X := Sv Int × Er) (fun x => .tuple #[x.1.val, x.2.val]) (fun x => r = (x.1.l, x.2.pl)) (fun x => (x.1.ok.and x.2.ok)) (fun x => Ow.emp) := by
 refine Ct.of Tryz.func224 rfl (by kernel_rfl) Tryz.ntmps224 (by simp) fun c => ?_
 unfold Sh.merge_places0 at hS
 refine Zq (Zr ?_)
 refine Za ?_
 refine Za ?_
 refine Zl ?_
 refine Zq (Zr ?_)
 refine Zm ?_
 refine Zm ?_
 obtain ⟨y15_1, ey15_1, hS⟩ := bd_s hS
 refine VL.callF (diff_Matches_ct base_0 other_1 ey15_1) rfl (by decide) ?_
 rintro ⟨q15_1_0, q15_1_1⟩ rfl
 try dsimp only
 refine Zm ?_
 refine VL.q (q_extract rfl rfl) (by decide) ?_
 refine VL.q (q_extract rfl rfl) (by decide) ?_
 refine Za ?_
 refine Za ?_
 refine Zl ?_
 refine VC.keep [0, 6, 7] rfl ?_
 refine Zq (Zq (Zr ?_))
 refine Zm ?_
 refine VL.q (q_erne Tryz.underlying29 rfl) (by decide) ?_
 refine Zl ?_
 refine VC.cond_ndec rfl (fun h19 => ?_) (fun h19 => ?_)
 ·
  replace hS := it_f h19 hS
  refine Zq (Zr ?_)
  refine Zm ?_
  refine Za ?_
  refine Za ?_
  refine Zl ?_
  cases hS
  exact VC.ret (fin2 (.inr rfl) rfl rfl rfl (⟨none, 0, []⟩, q15_1_1) rfl rfl (by (try dsimp only); exact InM.out) (fun _ _ => trivial))
 replace hS := it_t h19 hS
 refine Zk ?_
 refine Zq (Zr ?_)
 refine VL.lit (α := Int) (xs := [.const (i64 (-1))]) (vs := [i64 (-1)]) [(-1)] Tryz.underlying26 glit3 (by decide) rfl rfl rfl rfl (by decide) (fun _ _ _ _ => trivial) (by decide) (fun s21_2 hs21_2 => ?_) (by decide)
 replace hS := lt_to hs21_2 hS
 refine Zm ?_
 refine VL.q (q_ln (s := base_0) Tryz.underlying82 rfl) (by decide) ?_
 obtain ⟨y24_4, ey24_4, hS⟩ := bd_s hS
 refine VL.callO (repeat2_ct s21_2 (base_0.l.length : Int) ey24_4) rfl (by decide) ?_
 rintro q24_4_0 rfl
 try dsimp only
 refine Za ?_
 refine Zl ?_
 refine Zq (Zq (Zr ?_))
 refine Zm ?_
 refine VL.q (q_ln (s := q15_1_0) Tryz.underlying337 rfl) (by decide) ?_
 refine Zm ?_
 refine Zl ?_
 refine VC.keep [8, 25, 26, 27] rfl ?_
 refine Zb ?_
 refine VC.iter (S := Sv Int × Int) (fun sg => (sg.1.l, sg.2)) (fun sg => [(8, sg.1.val), (25, q15_1_0.val), (26, i64 (q15_1_0.l.length : Int)), (27, i64 sg.2)]) (fun sg => Mo.tt) (fun sg => Ow.star (Sv.own sg.1 3) (Ow.emp)) (q24_4_0, 0) [8, 25, 26, 27] hS rfl ?_
 clear hS
 rintro ⟨out8_5, x27_6⟩ m1 y1 hS hK1
 show VC _ _ _ _ _ [(8, out8_5.val), (25, q15_1_0.val), (26, i64 (q15_1_0.l.length : Int)), (27, i64 x27_6)] (Mo.and Mo.tt _) (Ow.star (Sv.own out8_5 3) (Ow.emp))
 refine Zq (Zr ?_)
 refine VL.q (q_lss rfl rfl) (by decide) ?_
 refine Zl ?_
 refine Zq ?_
 refine VC.cond_dec rfl (fun h28 => ?_) (fun h28 => ?_)
 ·
  replace hS := it_t h28 hS
  refine Zk ?_
  refine Zq (Zb (Zq (Zr ?_)))
  obtain ⟨z29_7, nz29_7, hz29_7, hS⟩ := at_s hS
  refine VL.q (q_ixm (s := q15_1_0) Tryz.underlying337 gsz342 rfl rfl nz29_7 (lt_of_get nz29_7 hz29_7)) (by decide) ?_
  refine VL.q (q_els (s := q15_1_0) gagg342 rfl rfl hz29_7) (by decide) ?_
  refine VL.alloc (cs := [i64 0, i64 0, i64 0]) (by kernel_rfl) (by decide) fun b10_8 => ?_
  refine VL.store (vc := [i64 z29_7.a, i64 z29_7.b, i64 z29_7.n]) (cs' := [i64 z29_7.a, i64 z29_7.b, i64 z29_7.n]) rfl rfl rfl gsz342 rfl rfl (Nat.le_of_ble_eq_true rfl) rfl ?_
  refine Zl ?_
  refine Zq (Zr ?_)
  refine VL.q (q_field gfa342_2 rfl) (by decide) ?_
  refine VL.q (q_fe gone3 rfl rfl) (by decide) ?_
  refine Zm ?_
  refine Zl ?_
  refine Zb ?_
  refine VC.iter (S := Sv Int × Int) (fun sg => (sg.1.l, sg.2)) (fun sg => [(8, sg.1.val), (10, ptr b10_8 0), (25, q15_1_0.val), (26, i64 (q15_1_0.l.length : Int)), (27, i64 x27_6), (32, i64 z29_7.n), (33, i64 sg.2)]) (fun sg => Mo.tt) (fun sg => Ow.star (Blk b10_8 [i64 z29_7.a, i64 z29_7.b, i64 z29_7.n] 342) (Ow.star (Sv.own sg.1 3) (Ow.emp))) (out8_5, 0) [8, 10, 25, 26, 27, 32, 33] hS rfl ?_
  clear hS
  rintro ⟨out8_9, x33_10⟩ m2 y2 hS hK2
  show VC _ _ _ _ _ [(8, out8_9.val), (10, ptr b10_8 0), (25, q15_1_0.val), (26, i64 (q15_1_0.l.length : Int)), (27, i64 x27_6), (32, i64 z29_7.n), (33, i64 x33_10)] (Mo.and Mo.tt _) (Ow.star (Blk b10_8 [i64 z29_7.a, i64 z29_7.b, i64 z29_7.n] 342) (Ow.star (Sv.own out8_9 3) (Ow.emp)))
  refine Zq (Zr ?_)
  refine VL.q (q_lss rfl rfl) (by decide) ?_
  refine Zl ?_
  refine Zq ?_
  refine VC.cond_dec rfl (fun h34 => ?_) (fun h34 => ?_)
  ·
   replace hS := it_t h34 hS
   refine Zk ?_
   refine Zq (Zb (Zq (Zr ?_)))
   refine Zm ?_
   refine Za ?_
   refine Zl ?_
   refine Zr ?_
   refine Zm ?_
   refine VL.q (q_field gfa342_0 rfl) (by decide) ?_
   refine VL.q (q_fe gone3 rfl rfl) (by decide) ?_
   refine Zm ?_
   obtain ⟨b40, hS⟩ := gd_s hS
   refine VL.q (q_add rfl rfl b40) (by decide) ?_
   refine VL.q (q_field gfa342_1 rfl) (by decide) ?_
   refine VL.q (q_fe gone3 rfl rfl) (by decide) ?_
   refine Zm ?_
   obtain ⟨b44, hS⟩ := gd_s hS
   refine VL.q (q_add rfl rfl b44) (by decide) ?_
   obtain ⟨z45_11, nz45_11, hz45_11, hS⟩ := at_s hS
   refine VL.q (q_ixo (s := out8_9) Tryz.underlying26 gsz3 rfl rfl nz45_11 (lt_of_get nz45_11 hz45_11)) (by decide) ?_
   refine VL.storeE (s := out8_9) (T := 3) (j := 0) (vc := [i64 (z29_7.b + x33_10)]) ((z29_7.b + x33_10) : Int) (by decide) rfl rfl hz45_11 rfl gsz3 rfl rfl (Nat.le_of_ble_eq_true rfl) rfl (fun w12 hw12 haw12 hcw12 hvw12 hbw12 how12 => ?_)
   rw [← hvw12]
   replace hS := lt_to hw12 hS
   refine Zl ?_
   refine VC.keep [8, 10, 25, 26, 27, 32, 33] rfl ?_
   refine Zr ?_
   obtain ⟨b46, hS⟩ := gd_s hS
   refine VL.q (q_add rfl rfl b46) (by decide) ?_
   refine Zm ?_
   refine VL.rnd (w12, (x33_10 + 1)) [8, 10, 25, 26, 27, 32, 33] (fun _ _ h => h) (go2 hS hK2) rfl
  replace hS := it_f h34 hS
  replace hS := up2 hS hK2
  refine Zx ?_
  refine Zr ?_
  obtain ⟨b47, hS⟩ := gd_s hS
  refine VL.q (q_add rfl rfl b47) (by decide) ?_
  refine Zm ?_
  refine VL.rnd (out8_9, (x27_6 + 1)) [8, 25, 26, 27] (fun _ _ h => h) (go2 hS hK1) rfl
 replace hS := it_f h28 hS
 replace hS := up2 hS hK1
 refine Zx ?_
 refine Zq (Zr ?_)
 refine Zm ?_
 refine Za ?_
 refine Za ?_
 refine Zl ?_
 refine VC.shut out8_5 3 (fun _ _ _ _ => trivial) ?_
 cases hS
 exact VC.ret (fin2 (.inr rfl) rfl rfl rfl (out8_5, .nil) rfl rfl (by (try dsimp only); exact InM.out) (fun _ _ => trivial))
theorem merge_places_ct (base_0 : Sv Str) (other_1 : Sv Str) {r : List Int × Err} (hS : Sh.merge_places base_0.l other_1.l = some r) :
 Ct Tryz.prog 224 [base_0.val, other_1.val] (base_0.ok.and other_1.ok) (Ow.emp) (X := Sv Int × Er) (fun x => .tuple #[x.1.val, x.2.val]) (fun x => r = (x.1.l, x.2.pl)) (fun x => (x.1.ok.and x.2.ok)) (fun x => Ow.emp) := by
 unfold Sh.merge_places at hS
 split at hS
 ·
  next h =>
  cases hS
  exact Ct.mapX (places_ct base_0 other_1 h.1 h.2) (fun q => (q, Er.nil)) (fun _ => rfl) (fun q hq => by rw [← hq]; rfl) (fun q hp m => ⟨m, trivial⟩) (fun _ _ e => e)
 exact merge_places0_ct base_0 other_1 hS
theorem merge_Chunks0_ct (a_0 : Sv Str) (a_1 : Sv Str) (a_2 : Sv Str) {r : List P.Chunk × Err} (hS : Sh.merge_Chunks0 a_0.l a_1.l a_2.l = some r) :
 Ct Tryz.prog 180 [a_0.val, a_1.val, a_2.val] (a_0.ok.and (a_1.ok.and a_2.ok)) (Ow.emp) (X := Sv Ck × Er) (fun x => .tuple #[x.1.val, x.2.val]) (fun x => r = ((x.1.l.map Ck.pl), x.2.pl)) (fun x => (x.1.ok.and x.2.ok)) (fun x => Ow.emp) := by
 refine Ct.of Tryz.func180 rfl (by kernel_rfl) Tryz.ntmps180 (by simp) fun c => ?_
 unfold Sh.merge_Chunks0 at hS
 refine Zq (Zr ?_)
 refine Za ?_
 refine Za ?_
 refine Zl ?_
 refine Zq (Zr ?_)
 refine Zm ?_
 refine Zm ?_
 obtain ⟨y18_1, ey18_1, hS⟩ := bd_s hS
 refine VL.callF (merge_places_ct a_0 a_1 ey18_1) rfl (by decide) ?_
 rintro ⟨q18_1_0, q18_1_1⟩ rfl
 try dsimp only
 refine Zm ?_
 refine VL.q (q_extract rfl rfl) (by decide) ?_
 refine VL.q (q_extract rfl rfl) (by decide) ?_
 refine Za ?_
 refine Za ?_
 refine Zl ?_
 refine VC.keep [0, 1, 2, 8, 9] rfl ?_
 refine Zq (Zq (Zr ?_))
 refine Zm ?_
 refine VL.q (q_erne Tryz.underlying29 rfl) (by decide) ?_
 refine Zl ?_
 refine VC.cond_ndec rfl (fun h22 => ?_) (fun h22 => ?_)
 ·
  replace hS := it_f h22 hS
  refine Zq (Zr ?_)
  refine Zm ?_
  refine Za ?_
  refine Za ?_
  refine Zl ?_
  cases hS
  exact VC.ret (fin2 (.inr rfl) rfl rfl rfl (⟨none, 0, []⟩, q18_1_1) rfl rfl (by (try dsimp only); exact InM.out) (fun _ _ => trivial))
 replace hS := it_t h22 hS
 refine Zk ?_
 refine Zq (Zr ?_)
 refine Zm ?_
 refine Zm ?_
 obtain ⟨y27_2, ey27_2, hS⟩ := bd_s hS
 refine VL.callF (merge_places_ct a_0 a_2 ey27_2) rfl (by decide) ?_
 rintro ⟨q27_2_0, q27_2_1⟩ rfl
 try dsimp only
 refine Zm ?_
 refine VL.q (q_extract rfl rfl) (by decide) ?_
 refine VL.q (q_extract rfl rfl) (by decide) ?_
 refine Za ?_
 refine Za ?_
 refine Zl ?_
 refine VC.keep [0, 1, 2, 8, 9, 10] rfl ?_
 refine Zq (Zq (Zr ?_))
 refine Zm ?_
 refine VL.q (q_erne Tryz.underlying29 rfl) (by decide) ?_
 refine Zl ?_
 refine VC.cond_ndec rfl (fun h31 => ?_) (fun h31 => ?_)
 ·
  replace hS := it_f h31 hS
  refine Zq (Zr ?_)
  refine Zm ?_
  refine Za ?_
  refine Za ?_
  refine Zl ?_
  refine VC.keep [6, 7] rfl ?_
  cases hS
  exact VC.ret (fin2 (.inr rfl) rfl rfl rfl (⟨none, 0, []⟩, q27_2_1) rfl rfl (by (try dsimp only); exact InM.out) (fun _ _ => trivial))
 replace hS := it_t h31 hS
 refine Zk ?_
 refine Zq (Zr ?_)
 refine Zm ?_
 refine Zm ?_
 refine Zm ?_
 refine VL.q (q_build (vs := [(0, a_0.val), (1, a_1.val), (2, a_2.val)]) (cs := #[a_0.val, a_1.val, a_2.val, i64 0, i64 0, i64 0, .slice none 0 0, .bool false]) rfl (by kernel_rfl)) (by decide) ?_
 refine VL.box (cs := [a_0.val, a_1.val, a_2.val, i64 0, i64 0, i64 0, .slice none 0 0, .bool false]) rfl rfl (by decide) fun b37_3 => ?_
 refine Za ?_
 refine Zl ?_
 refine VC.keep [0, 1, 2, 8, 10, 11] rfl ?_
 refine Zq (Zq (Zr ?_))
 refine Zm ?_
 refine VL.q (q_ln (s := a_0) Tryz.underlying82 rfl) (by decide) ?_
 refine Zm ?_
 refine Zl ?_
 refine Zb ?_
 refine VC.iter (S := Int) (fun (x40_4 : Int) => x40_4) (fun (x40_4 : Int) => [(0, a_0.val), (1, a_1.val), (2, a_2.val), (8, q18_1_0.val), (10, q27_2_0.val), (11, ptr b37_3 0), (39, i64 (a_0.l.length : Int)), (40, i64 x40_4)]) (fun (x40_4 : Int) => Mo.tt) (fun (x40_4 : Int) => Ow.star (Blk b37_3 [a_0.val, a_1.val, a_2.val, i64 0, i64 0, i64 0, .slice none 0 0, .bool false] 308) (Ow.emp)) 0 [0, 1, 2, 8, 10, 11, 39, 40] hS rfl ?_
 clear hS
 rintro x40_4 m1 y1 hS hK1
 show VC _ _ _ _ _ [(0, a_0.val), (1, a_1.val), (2, a_2.val), (8, q18_1_0.val), (10, q27_2_0.val), (11, ptr b37_3 0), (39, i64 (a_0.l.length : Int)), (40, i64 x40_4)] (Mo.and Mo.tt _) (Ow.star (Blk b37_3 [a_0.val, a_1.val, a_2.val, i64 0, i64 0, i64 0, .slice none 0 0, .bool false] 308) (Ow.emp))
 refine Zq (Zr ?_)
 refine VL.q (q_lss rfl rfl) (by decide) ?_
 refine Zl ?_
 refine Zq ?_
 refine VC.cond_dec rfl (fun h41 => ?_) (fun h41 => ?_)
 ·
  replace hS := it_t h41 hS
  refine Zk ?_
  refine Zq (Zb (Zq (Zr ?_)))
  refine Zm ?_
  refine Za ?_
  refine Zl ?_
  refine VC.cutJ (S := Bool) (fun (x54_5 : Bool) => x54_5) (fun (x54_5 : Bool) => [(0, a_0.val), (1, a_1.val), (2, a_2.val), (8, q18_1_0.val), (10, q27_2_0.val), (11, ptr b37_3 0), (12, i64 x40_4), (39, i64 (a_0.l.length : Int)), (40, i64 x40_4), (54, .bool x54_5)]) (fun (x54_5 : Bool) => Mo.tt) (fun (x54_5 : Bool) => Ow.star (Blk b37_3 [a_0.val, a_1.val, a_2.val, i64 0, i64 0, i64 0, .slice none 0 0, .bool false] 308) (Ow.emp)) hS ?_ ?_
  ·
   clear hS
   intro k6 hS
   refine Zr ?_
   refine Zm ?_
   refine Zm ?_
   obtain ⟨z45_7, nz45_7, hz45_7, hS⟩ := at_s hS
   refine VL.q (q_ixm (s := q18_1_0) Tryz.underlying26 gsz3 rfl rfl nz45_7 (lt_of_get nz45_7 hz45_7)) (by decide) ?_
   refine VL.q (q_el (s := q18_1_0) gone3 rfl hz45_7 rfl) (by decide) ?_
   refine VL.q (q_geq rfl rfl) (by decide) ?_
   refine Zm ?_
   refine VL.split_dec 48 rfl (fun h48 => ?_) (fun h48 => ?_)
   ·
    replace hS := it_t h48 hS
    refine Zg ?_
    refine Zg ?_
    obtain ⟨z51_8, nz51_8, hz51_8, hS⟩ := at_s hS
    refine VL.gy rfl rfl (q_ixm (s := q27_2_0) Tryz.underlying26 gsz3 rfl rfl nz51_8 (lt_of_get nz51_8 hz51_8)) (by decide) ?_
    refine VL.gy rfl rfl (q_el (s := q27_2_0) gone3 rfl hz51_8 rfl) (by decide) ?_
    refine VL.gy rfl rfl (q_geq rfl rfl) (by decide) ?_
    refine Zt ?_
    refine VL.mt (decide (0 ≤ z51_8)) [0, 1, 2, 8, 10, 11, 12, 39, 40, 54] (fun _ _ h => h) hS rfl
   replace hS := it_f h48 hS
   refine Zn ?_
   refine Zn ?_
   refine Zn ?_
   refine Zn ?_
   refine Zn ?_
   refine Zf ?_
   refine VL.mt false [0, 1, 2, 8, 10, 11, 12, 39, 40, 54] (fun _ _ h => h) hS rfl
  clear hS
  rintro x54_5 hS
  show VC _ _ _ _ _ [(0, a_0.val), (1, a_1.val), (2, a_2.val), (8, q18_1_0.val), (10, q27_2_0.val), (11, ptr b37_3 0), (12, i64 x40_4), (39, i64 (a_0.l.length : Int)), (40, i64 x40_4), (54, .bool x54_5)] (Mo.and Mo.tt _) (Ow.star (Blk b37_3 [a_0.val, a_1.val, a_2.val, i64 0, i64 0, i64 0, .slice none 0 0, .bool false] 308) (Ow.emp))
  refine VC.cond rfl (fun h54 => ?_) (fun h54 => ?_)
  ·
   replace hS := it_t h54 hS
   refine Zq ?_
   refine VC.draw ((List.range 11).map fun k => (k, true)) mixed (by kernel_rfl) (by kernel_rfl) (by kernel_rfl) ?_
   refine VD.q rfl (q_move rfl) (by decide) ?_
   refine VD.q rfl (q_move rfl) (by decide) ?_
   refine VD.q rfl (q_move rfl) (by decide) ?_
   refine VD.q rfl (q_move rfl) (by decide) ?_
   obtain ⟨z59_9, nz59_9, hz59_9, hS⟩ := at_s hS
   refine VD.q rfl (q_ixm (s := q18_1_0) Tryz.underlying26 gsz3 rfl rfl nz59_9 (lt_of_get nz59_9 hz59_9)) (by decide) ?_
   refine VD.q rfl (q_el (s := q18_1_0) gone3 rfl hz59_9 rfl) (by decide) ?_
   refine VD.q rfl (q_move rfl) (by decide) ?_
   refine VD.q rfl (q_move rfl) (by decide) ?_
   obtain ⟨z63_10, nz63_10, hz63_10, hS⟩ := at_s hS
   refine VD.q rfl (q_ixm (s := q27_2_0) Tryz.underlying26 gsz3 rfl rfl nz63_10 (lt_of_get nz63_10 hz63_10)) (by decide) ?_
   refine VD.q rfl (q_el (s := q27_2_0) gone3 rfl hz63_10 rfl) (by decide) ?_
   cases hS
  replace hS := it_b h54 hS
  refine Zk ?_
  refine Zr ?_
  obtain ⟨b68, hS⟩ := gd_s hS
  refine VL.q (q_add rfl rfl b68) (by decide) ?_
  refine Zm ?_
  refine VL.rnd (x40_4 + 1) [0, 1, 2, 8, 10, 11, 39, 40] (fun _ _ h => h) (go2 hS hK1) rfl
 replace hS := it_f h41 hS
 replace hS := up2 hS hK1
 refine Zx ?_
 refine Zq (Zr ?_)
 refine Zm ?_
 refine Zm ?_
 refine VL.q (q_ln (s := a_0) Tryz.underlying82 rfl) (by decide) ?_
 refine Zm ?_
 refine VL.q (q_ln (s := a_1) Tryz.underlying82 rfl) (by decide) ?_
 refine Zm ?_
 refine VL.q (q_ln (s := a_2) Tryz.underlying82 rfl) (by decide) ?_
 cases hS
theorem merge_Chunks_ct (a_0 : Sv Str) (a_1 : Sv Str) (a_2 : Sv Str) {r : List P.Chunk × Err} (hS : Sh.merge_Chunks a_0.l a_1.l a_2.l = some r) :
 Ct Tryz.prog 180 [a_0.val, a_1.val, a_2.val] (a_0.ok.and (a_1.ok.and a_2.ok)) (Ow.emp) (X := Sv Ck × Er) (fun x => .tuple #[x.1.val, x.2.val]) (fun x => r = ((x.1.l.map Ck.pl), x.2.pl)) (fun x => (x.1.ok.and x.2.ok)) (fun x => Ow.emp) := by
 unfold Sh.merge_Chunks at hS
 split at hS
 ·
  next h =>
  cases hS
  exact Ct.mapX (chunks_ct a_0 a_1 a_2 h.1 h.2.1 h.2.2) (fun q => (q, Er.nil)) (fun _ => rfl) (fun q hq => by rw [← hq]; rfl) (fun q hp m => ⟨m, trivial⟩) (fun _ _ e => e)
 exact merge_Chunks0_ct a_0 a_1 a_2 hS
theorem join_ct (s : Sv Str) (sep : Str) (hb : s.l.length ≤ 4294967296 ∧ (Go.S.joinS s.l sep).length ≤ 4294967296) : Ct Tryz.prog 231 [s.val, str sep] s.ok Ow.emp (X := Unit) (fun _ => str (Go.S.joinS s.l sep)) (fun _ => True) (fun _ => Mo.tt) (fun _ => Ow.emp) :=
  Ct.of_gr (entry_of Tryz.func231 rfl (by kernel_rfl)) fun w h m l => by
    by_cases hl : s.l = []
    · have := Tryz.strings_Join_none s.a s.c ⟨⟨sep⟩⟩ w
      have e1 : s.val = .slice s.a 0 s.c := by unfold Sv.val; rw [hl]; rfl
      rw [e1]
      exact this.mono fun e w' ⟨h1, h2⟩ => ⟨by rw [h1, hl]; rfl, h2 ▸ Gr.refl w⟩
    · obtain ⟨h1, _, h3, h4, _⟩ := m
      have ha := h3 hl
      have hx : (s.l.map fun z => (⟨⟨z⟩⟩ : ByteArray)).map (·.data.toList) = s.l := by rw [List.map_map]; exact (List.map_congr_left fun z _ => rfl).trans (List.map_id _)
      have hc : ∀ (j : Nat) x, (s.l.map fun z => (⟨⟨z⟩⟩ : ByteArray))[j]? = some x → w.cell? ⟨s.b, s.o + j, none⟩ = some (.string x) := fun j x hj => by
        rw [List.getElem?_map] at hj
        cases hz : s.l[j]? with
        | none => rw [hz] at hj; cases hj
        | some z =>
          rw [hz] at hj; cases hj
          have := h4 j z hz 0 (str z) rfl
          have hs : Dat.sz Str = 1 := rfl
          rw [hs, Nat.mul_one] at this
          exact cell_of_le l (by simpa using this)
      have hlt : s.b < w.heap.size := by
        have h0 : 0 < s.l.length := List.length_pos_iff.2 hl
        have := hc 0 ⟨⟨s.l[0]⟩⟩ (by simp [h0])
        rcases Nat.lt_or_ge s.b w.heap.size with q | q
        · exact q
        · simp [World.cell?, Array.getElem?_eq_none q] at this
      have := Tryz.strings_Join s.b s.o s.c (s.l.map fun z => ⟨⟨z⟩⟩) ⟨⟨sep⟩⟩ w hc hlt (by rw [List.length_map]; omega) (by rw [List.length_map]; exact h1) (by rw [hx]; have := hb.2; unfold Go.S.joinS at this; show (Lib.join s.l sep).length ≤ _; omega)
      rw [hx, List.length_map] at this
      have e1 : s.val = .slice (some ⟨s.b, s.o, none⟩) s.l.length s.c := by unfold Sv.val; rw [ha]
      rw [e1]
      exact this.mono fun e w' ⟨h1, h2⟩ => ⟨h1, Gr.of_below h2⟩
theorem lines_Join_ct (l_0 : Sv Str) {r : Str} (hS : Sh.lines_Join l_0.l = some r) :
 Ct Tryz.prog 184 [l_0.val] l_0.ok (Ow.emp) (X := Unit) (fun _ => str r) (fun _ => True) (fun _ => Mo.tt) (fun _ => Ow.emp) := by
 refine Ct.of Tryz.func184 rfl (by kernel_rfl) Tryz.ntmps184 (by simp) fun c => ?_
 unfold Sh.lines_Join at hS
 refine Zq (Zr ?_)
 refine Za ?_
 refine Zl ?_
 refine Zq (Zr ?_)
 refine Zm ?_
 obtain ⟨b4, hS⟩ := gd_s hS
 obtain ⟨y4_1, ey4_1, hS⟩ := lt_s hS
 refine VL.q (q_call (join_ct l_0 [] b4) rfl (fun _ _ => congrArg str ey4_1)) (by decide) ?_
 refine Za ?_
 refine Zl ?_
 cases hS
 exact Ze
theorem internal_stringslite_HasSuffix_ct (s_0 : Str) (suffix_1 : Str) {r : Bool} (hS : Sh.internal_stringslite_HasSuffix s_0 suffix_1 = some r) :
 Ct Tryz.prog 305 [str s_0, str suffix_1] Mo.tt (Ow.emp) (X := Unit) (fun _ => .bool r) (fun _ => True) (fun _ => Mo.tt) (fun _ => Ow.emp) := by
 refine Ct.of Tryz.func305 rfl (by kernel_rfl) Tryz.ntmps305 (by simp) fun c => ?_
 unfold Sh.internal_stringslite_HasSuffix at hS
 refine Zq (Zr ?_)
 refine Za ?_
 refine Zl ?_
 refine Zq (Zr ?_)
 refine Zm ?_
 refine VL.q (q_slen Tryz.underlying9 rfl) (by decide) ?_
 refine Zm ?_
 refine VL.q (q_slen Tryz.underlying9 rfl) (by decide) ?_
 refine VL.q (q_geq rfl rfl) (by decide) ?_
 refine Zm ?_
 refine VL.split_dec 10 rfl (fun h10 => ?_) (fun h10 => ?_)
 ·
  replace hS := it_t h10 hS
  refine Zg ?_
  refine Zg ?_
  refine VL.gy rfl rfl (q_slen Tryz.underlying9 rfl) (by decide) ?_
  refine Zg ?_
  refine VL.gy rfl rfl (q_slen Tryz.underlying9 rfl) (by decide) ?_
  obtain ⟨b16, hS⟩ := gd_s hS
  refine VL.gy rfl rfl (q_sub rfl rfl b16) (by decide) ?_
  obtain ⟨b17, hS⟩ := gd_s hS
  obtain ⟨y17_1, ey17_1, hS⟩ := lt_s hS
  refine VL.gy rfl rfl (q_sfromE Tryz.underlying9 rfl rfl b17.1 b17.2 ey17_1) (by decide) ?_
  refine Zg ?_
  refine VL.gy rfl rfl (q_seq rfl rfl) (by decide) ?_
  refine Zt ?_
  refine Za ?_
  refine Zl ?_
  refine VC.keep [4] rfl ?_
  cases hS
  exact Ze
 replace hS := it_f h10 hS
 refine Zn ?_
 refine Zn ?_
 refine Zn ?_
 refine Zn ?_
 refine Zn ?_
 refine Zn ?_
 refine Zn ?_
 refine Zn ?_
 refine Zn ?_
 refine Zf ?_
 refine Za ?_
 refine Zl ?_
 refine VC.keep [4] rfl ?_
 cases hS
 exact Ze
theorem strings_HasSuffix_ct (s_0 : Str) (suffix_1 : Str) {r : Bool} (hS : Sh.strings_HasSuffix s_0 suffix_1 = some r) :
 Ct Tryz.prog 292 [str s_0, str suffix_1] Mo.tt (Ow.emp) (X := Unit) (fun _ => .bool r) (fun _ => True) (fun _ => Mo.tt) (fun _ => Ow.emp) := by
 refine Ct.of Tryz.func292 rfl (by kernel_rfl) Tryz.ntmps292 (by simp) fun c => ?_
 unfold Sh.strings_HasSuffix at hS
 refine Zq (Zr ?_)
 refine Za ?_
 refine Zl ?_
 refine Zq (Zr ?_)
 refine Zm ?_
 refine Zm ?_
 obtain ⟨y7_1, ey7_1, hS⟩ := bd_s hS
 refine VL.q (q_call (internal_stringslite_HasSuffix_ct s_0 suffix_1 ey7_1) rfl (fun _ _ => rfl)) (by decide) ?_
 refine Za ?_
 refine Zl ?_
 cases hS
 exact Ze
theorem lines_Whole_ct (s_0 : Str) {r : Bool} (hS : Sh.lines_Whole s_0 = some r) :
 Ct Tryz.prog 266 [str s_0] Mo.tt (Ow.emp) (X := Unit) (fun _ => .bool r) (fun _ => True) (fun _ => Mo.tt) (fun _ => Ow.emp) := by
 refine Ct.of Tryz.func266 rfl (by kernel_rfl) Tryz.ntmps266 (by simp) fun c => ?_
 unfold Sh.lines_Whole at hS
 refine Zq (Zr ?_)
 refine Za ?_
 refine Zl ?_
 refine Zq (Zr ?_)
 refine Zm ?_
 refine Zs ?_
 refine Zm ?_
 refine VL.split_dec 5 rfl (fun h5 => ?_) (fun h5 => ?_)
 ·
  replace hS := it_t h5 hS
  refine Zn ?_
  refine Zn ?_
  refine Zt ?_
  refine Za ?_
  refine Zl ?_
  cases hS
  exact Ze
 replace hS := it_f h5 hS
 refine Zg ?_
 obtain ⟨y7_1, ey7_1, hS⟩ := bd_s hS
 refine VL.gy rfl rfl (q_call (strings_HasSuffix_ct s_0 [10] ey7_1) rfl (fun _ _ => rfl)) (by decide) ?_
 refine Zf ?_
 refine Za ?_
 refine Zl ?_
 cases hS
 exact Ze
theorem merge_closed_ct (l_0 : Sv Str) {r : Str} (hS : Sh.merge_closed l_0.l = some r) :
 Ct Tryz.prog 230 [l_0.val] l_0.ok (Ow.emp) (X := Unit) (fun _ => str r) (fun _ => True) (fun _ => Mo.tt) (fun _ => Ow.emp) := by
 refine Ct.of Tryz.func230 rfl (by kernel_rfl) Tryz.ntmps230 (by simp) fun c => ?_
 unfold Sh.merge_closed at hS
 refine Zq (Zr ?_)
 refine Za ?_
 refine Zl ?_
 refine Zq (Zr ?_)
 refine Zm ?_
 obtain ⟨y5_1, ey5_1, hS⟩ := bd_s hS
 refine VL.q (q_call (lines_Join_ct l_0 ey5_1) rfl (fun _ _ => rfl)) (by decide) ?_
 refine Za ?_
 refine Zl ?_
 refine Zq (Zq (Zr ?_))
 refine Zm ?_
 obtain ⟨y7_2, ey7_2, hS⟩ := bd_s hS
 refine VL.q (q_call (lines_Whole_ct y5_1 ey7_2) rfl (fun _ _ => rfl)) (by decide) ?_
 refine VL.q (q_not rfl) (by decide) ?_
 refine Zl ?_
 refine VC.cond rfl (fun h8 => ?_) (fun h8 => ?_)
 ·
  replace hS := it_t h8 hS
  refine Zr ?_
  refine Zm ?_
  obtain ⟨b10, hS⟩ := gd_s hS
  obtain ⟨y10_3, ey10_3, hS⟩ := lt_s hS
  refine VL.q (q_catE rfl rfl b10 ey10_3) (by decide) ?_
  refine Za ?_
  refine Zl ?_
  refine Zq (Zr ?_)
  refine Zm ?_
  refine Za ?_
  refine Zl ?_
  refine VC.keep [2] rfl ?_
  cases hS
  exact Ze
 replace hS := it_b h8 hS
 refine Zk ?_
 refine Zq (Zr ?_)
 refine Zm ?_
 refine Za ?_
 refine Zl ?_
 cases hS
 exact Ze
theorem merge_clash_ct (c_0 : Ck) (a_1 : Str) (b_2 : Str) {r : Str} (hS : Sh.merge_clash c_0.pl a_1 b_2 = some r) :
 Ct Tryz.prog 183 [.agg #[c_0.base.val, c_0.ours.val, c_0.theirs.val, .bool c_0.clash, c_0.out.val], str a_1, str b_2] (c_0.base.ok.and (c_0.ours.ok.and (c_0.theirs.ok.and c_0.out.ok))) (Ow.emp) (X := Unit) (fun _ => str r) (fun _ => True) (fun _ => Mo.tt) (fun _ => Ow.emp) := by
 refine Ct.of Tryz.func183 rfl (by kernel_rfl) Tryz.ntmps183 (by simp) fun c => ?_
 unfold Sh.merge_clash at hS
 refine Zq (Zr ?_)
 refine VL.box (cs := [c_0.base.val, c_0.ours.val, c_0.theirs.val, .bool c_0.clash, c_0.out.val]) rfl rfl (by decide) fun b3_1 => ?_
 refine Za ?_
 refine Zl ?_
 refine Zq ?_
 refine VC.draw ((List.range 17).map fun k => (k, true)) mixed (by kernel_rfl) (by kernel_rfl) (by kernel_rfl) ?_
 refine VD.q rfl (q_move rfl) (by decide) ?_
 obtain ⟨b8, hS⟩ := gd_s hS
 obtain ⟨y8_2, ey8_2, hS⟩ := lt_s hS
 refine VD.q rfl (q_catE rfl rfl b8 ey8_2) (by decide) ?_
 obtain ⟨b9, hS⟩ := gd_s hS
 obtain ⟨y9_3, ey9_3, hS⟩ := lt_s hS
 refine VD.q rfl (q_catE rfl rfl b9 ey9_3) (by decide) ?_
 refine VD.q rfl (q_field gfa261_1 rfl) (by decide) ?_
 refine VD.q rfl (q_fe gone82 rfl rfl) (by decide) ?_
 obtain ⟨y12_4, ey12_4, hS⟩ := bd_s hS
 refine VD.q rfl (q_call (merge_closed_ct c_0.ours ey12_4) rfl (fun _ _ => rfl)) (by decide) ?_
 obtain ⟨b13, hS⟩ := gd_s hS
 obtain ⟨y13_5, ey13_5, hS⟩ := lt_s hS
 refine VD.q rfl (q_catE rfl rfl b13 ey13_5) (by decide) ?_
 obtain ⟨b14, hS⟩ := gd_s hS
 obtain ⟨y14_6, ey14_6, hS⟩ := lt_s hS
 refine VD.q rfl (q_catE rfl rfl b14 ey14_6) (by decide) ?_
 refine VD.q rfl (q_field gfa261_2 rfl) (by decide) ?_
 refine VD.q rfl (q_fe gone82 rfl rfl) (by decide) ?_
 obtain ⟨y17_7, ey17_7, hS⟩ := bd_s hS
 refine VD.q rfl (q_call (merge_closed_ct c_0.theirs ey17_7) rfl (fun _ _ => rfl)) (by decide) ?_
 obtain ⟨b18, hS⟩ := gd_s hS
 obtain ⟨y18_8, ey18_8, hS⟩ := lt_s hS
 refine VD.q rfl (q_catE rfl rfl b18 ey18_8) (by decide) ?_
 obtain ⟨b19, hS⟩ := gd_s hS
 obtain ⟨y19_9, ey19_9, hS⟩ := lt_s hS
 refine VD.q rfl (q_catE rfl rfl b19 ey19_9) (by decide) ?_
 refine VD.q rfl (q_move rfl) (by decide) ?_
 obtain ⟨b21, hS⟩ := gd_s hS
 obtain ⟨y21_10, ey21_10, hS⟩ := lt_s hS
 refine VD.q rfl (q_catE rfl rfl b21 ey21_10) (by decide) ?_
 obtain ⟨b22, hS⟩ := gd_s hS
 obtain ⟨y22_11, ey22_11, hS⟩ := lt_s hS
 refine VD.q rfl (q_catE rfl rfl b22 ey22_11) (by decide) ?_
 refine VD.q rfl (q_assign rfl) (by decide) ?_
 refine VD.to (fun _ _ h => h) ?_
 refine VC.keep [6] rfl ?_
 cases hS
 exact Ze
end Go.Proofs.YtleokmhhloamaaaGreatDoor
end
