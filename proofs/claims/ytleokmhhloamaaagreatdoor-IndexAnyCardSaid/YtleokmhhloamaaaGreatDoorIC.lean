/- Part of the proofs of: On any entries of an index the program tells what the document tells: whether they may be, their stages, conflicts; as bytes, and back. -/
import Derived.Test.YtleokmhhloamaaaGreatDoorRows
import Derived.Test.YtleokmhhloamaaaGreatDoorIB
set_option linter.unusedVariables false
set_option linter.unusedSimpArgs false
set_option linter.unusedSectionVars false
section
set_option linter.unusedVariables false
namespace Go.Proofs.YtleokmhhloamaaaGreatDoor
set_option maxHeartbeats 4000000
set_option maxRecDepth 100000
open Go.RowKit Go.V
open Go.S hiding Str
theorem mixed : Tryz.prog.follows .mixedOrders = true := by kernel_rfl
theorem gone27 : OneCell Tryz.prog 27 := oneCell_of Tryz.underlying27 rfl
theorem gsz27 : (Tryz.prog.info? 27).map (·.size) = some 1 := by kernel_rfl
theorem gfa117_2 : FieldAt Tryz.prog 117 2 2 := fieldAt_sz (n := 0) (f := ⟨_, _, 2, _, _, _, _⟩) Tryz.underlying117 rfl (by kernel_rfl)
theorem gone29 : OneCell Tryz.prog 29 := oneCell_of Tryz.underlying29 rfl
theorem glit42 : ((Tryz.prog.info? 42).map fun i => (i.size, i.zero.isSome)) = some (3, true) := by kernel_rfl
theorem gsz42 : (Tryz.prog.info? 42).map (·.size) = some 3 := by kernel_rfl
theorem gagg42 : AggOf Tryz.prog 42 3 := aggOf_of Tryz.underlying42 rfl (by kernel_rfl)
theorem gfa42_0 : FieldAt Tryz.prog 42 0 0 := fieldAt_sz (n := 0) (f := ⟨_, _, 0, _, _, _, _⟩) Tryz.underlying42 rfl (by kernel_rfl)
theorem gone9 : OneCell Tryz.prog 9 := oneCell_of Tryz.underlying9 rfl
theorem gfa42_1 : FieldAt Tryz.prog 42 1 1 := fieldAt_sz (n := 0) (f := ⟨_, _, 1, _, _, _, _⟩) Tryz.underlying42 rfl (by kernel_rfl)
theorem gone3 : OneCell Tryz.prog 3 := oneCell_of Tryz.underlying3 rfl
theorem gfa42_2 : FieldAt Tryz.prog 42 2 2 := fieldAt_sz (n := 0) (f := ⟨_, _, 2, _, _, _, _⟩) Tryz.underlying42 rfl (by kernel_rfl)
theorem glit149 : ((Tryz.prog.info? 149).map fun i => (i.size, i.zero.isSome)) = some (6, true) := by kernel_rfl
theorem gapp149 : ((Tryz.prog.info? 149).map fun i => (i.size, i.bytes, (i.zero.map fun z => z.cells.size))) = some (6, 64, some 6) := by kernel_rfl
theorem gsz149 : (Tryz.prog.info? 149).map (·.size) = some 6 := by kernel_rfl
theorem ghas149 : ((Tryz.prog.info? 149).map (·.size)).isSome = true := by kernel_rfl
theorem gagg149 : AggOf Tryz.prog 149 6 := aggOf_of Tryz.underlying149 rfl (by kernel_rfl)
theorem gfa149_0 : FieldAt Tryz.prog 149 0 0 := fieldAt_sz (n := 0) (f := ⟨_, _, 0, _, _, _, _⟩) Tryz.underlying149 rfl (by kernel_rfl)
theorem gfa149_1 : FieldAt Tryz.prog 149 1 1 := fieldAt_sz (n := 0) (f := ⟨_, _, 1, _, _, _, _⟩) Tryz.underlying149 rfl (by kernel_rfl)
theorem gzv149 : ∀ w : World, (zeroValue 149).run Tryz.prog w = .ok (.agg #[str [], i64 0, i64 0, str [], i64 0, i64 0]) w := by intro w; kernel_rfl
theorem glit3 : ((Tryz.prog.info? 3).map fun i => (i.size, i.zero.isSome)) = some (1, true) := by kernel_rfl
theorem gsz3 : (Tryz.prog.info? 3).map (·.size) = some 1 := by kernel_rfl
theorem glit9 : ((Tryz.prog.info? 9).map fun i => (i.size, i.zero.isSome)) = some (1, true) := by kernel_rfl
theorem gapp9 : ((Tryz.prog.info? 9).map fun i => (i.size, i.bytes, (i.zero.map fun z => z.cells.size))) = some (1, 16, some 1) := by kernel_rfl
theorem gsz9 : (Tryz.prog.info? 9).map (·.size) = some 1 := by kernel_rfl
theorem gmk9 : ((Tryz.prog.info? 9).map fun i => (i.size, i.bytes, i.zero.map fun z => z.cells.toList)) = some (1, 16, some [str []]) := by kernel_rfl
theorem gsz5 : (Tryz.prog.info? 5).map (·.size) = some 1 := by kernel_rfl
theorem gone5 : OneCell Tryz.prog 5 := oneCell_of Tryz.underlying5 rfl
theorem gfa149_2 : FieldAt Tryz.prog 149 2 2 := fieldAt_sz (n := 0) (f := ⟨_, _, 2, _, _, _, _⟩) Tryz.underlying149 rfl (by kernel_rfl)
theorem gfa149_4 : FieldAt Tryz.prog 149 4 4 := fieldAt_sz (n := 0) (f := ⟨_, _, 4, _, _, _, _⟩) Tryz.underlying149 rfl (by kernel_rfl)
theorem gfa149_5 : FieldAt Tryz.prog 149 5 5 := fieldAt_sz (n := 0) (f := ⟨_, _, 5, _, _, _, _⟩) Tryz.underlying149 rfl (by kernel_rfl)
theorem gfa149_3 : FieldAt Tryz.prog 149 3 3 := fieldAt_sz (n := 0) (f := ⟨_, _, 3, _, _, _, _⟩) Tryz.underlying149 rfl (by kernel_rfl)
theorem gfa155_0 : FieldAt Tryz.prog 155 0 0 := fieldAt_sz (n := 0) (f := ⟨_, _, 0, _, _, _, _⟩) Tryz.underlying155 rfl (by kernel_rfl)
theorem glit5 : ((Tryz.prog.info? 5).map fun i => (i.size, i.zero.isSome)) = some (1, true) := by kernel_rfl
theorem gapp5 : ((Tryz.prog.info? 5).map fun i => (i.size, i.bytes, (i.zero.map fun z => z.cells.size))) = some (1, 1, some 1) := by kernel_rfl
theorem gapb5 : ((Tryz.prog.info? 5).map fun i => (i.size, i.bytes, i.zero)) = some (1, 1, some (.int .u8 0)) := by kernel_rfl
theorem ghas5 : ((Tryz.prog.info? 5).map (·.size)).isSome = true := by kernel_rfl
theorem glit27 : ((Tryz.prog.info? 27).map fun i => (i.size, i.zero.isSome)) = some (1, true) := by kernel_rfl
theorem gmk5 : ((Tryz.prog.info? 5).map fun i => (i.size, i.bytes, i.zero.map fun z => z.cells.toList)) = some (1, 1, some [.int .u8 0]) := by kernel_rfl
theorem gfa239_2 : FieldAt Tryz.prog 239 2 2 := fieldAt_sz (n := 0) (f := ⟨_, _, 2, _, _, _, _⟩) Tryz.underlying239 rfl (by kernel_rfl)
theorem gfa239_1 : FieldAt Tryz.prog 239 1 1 := fieldAt_sz (n := 0) (f := ⟨_, _, 1, _, _, _, _⟩) Tryz.underlying239 rfl (by kernel_rfl)
theorem gfa239_0 : FieldAt Tryz.prog 239 0 0 := fieldAt_sz (n := 0) (f := ⟨_, _, 0, _, _, _, _⟩) Tryz.underlying239 rfl (by kernel_rfl)
theorem gsz29 : (Tryz.prog.info? 29).map (·.size) = some 1 := by kernel_rfl
theorem gapp42 : ((Tryz.prog.info? 42).map fun i => (i.size, i.bytes, (i.zero.map fun z => z.cells.size))) = some (3, 40, some 3) := by kernel_rfl
theorem glit152 : ((Tryz.prog.info? 152).map fun i => (i.size, i.zero.isSome)) = some (6, true) := by kernel_rfl
theorem gapp152 : ((Tryz.prog.info? 152).map fun i => (i.size, i.bytes, (i.zero.map fun z => z.cells.size))) = some (6, 64, some 6) := by kernel_rfl
theorem glit137 : ((Tryz.prog.info? 137).map fun i => (i.size, i.zero.isSome)) = some (2, true) := by kernel_rfl
theorem gsz54 : (Tryz.prog.info? 54).map (·.size) = some 2 := by kernel_rfl
theorem gagg54 : AggOf Tryz.prog 54 2 := aggOf_of Tryz.underlying54 rfl (by kernel_rfl)
theorem gsz152 : (Tryz.prog.info? 152).map (·.size) = some 6 := by kernel_rfl
theorem gagg152 : AggOf Tryz.prog 152 6 := aggOf_of Tryz.underlying152 rfl (by kernel_rfl)
theorem gfa152_0 : FieldAt Tryz.prog 152 0 0 := fieldAt_sz (n := 0) (f := ⟨_, _, 0, _, _, _, _⟩) Tryz.underlying152 rfl (by kernel_rfl)
theorem gfa152_1 : FieldAt Tryz.prog 152 1 1 := fieldAt_sz (n := 0) (f := ⟨_, _, 1, _, _, _, _⟩) Tryz.underlying152 rfl (by kernel_rfl)
theorem gfa152_2 : FieldAt Tryz.prog 152 2 2 := fieldAt_sz (n := 0) (f := ⟨_, _, 2, _, _, _, _⟩) Tryz.underlying152 rfl (by kernel_rfl)
theorem gfa152_4 : FieldAt Tryz.prog 152 4 4 := fieldAt_sz (n := 0) (f := ⟨_, _, 4, _, _, _, _⟩) Tryz.underlying152 rfl (by kernel_rfl)
theorem gfa152_5 : FieldAt Tryz.prog 152 5 5 := fieldAt_sz (n := 0) (f := ⟨_, _, 5, _, _, _, _⟩) Tryz.underlying152 rfl (by kernel_rfl)
theorem gfa152_3 : FieldAt Tryz.prog 152 3 3 := fieldAt_sz (n := 0) (f := ⟨_, _, 3, _, _, _, _⟩) Tryz.underlying152 rfl (by kernel_rfl)
theorem gfa54_1 : FieldAt Tryz.prog 54 1 1 := fieldAt_sz (n := 0) (f := ⟨_, _, 1, _, _, _, _⟩) Tryz.underlying54 rfl (by kernel_rfl)
theorem gfa117_0 : FieldAt Tryz.prog 117 0 0 := fieldAt_sz (n := 0) (f := ⟨_, _, 0, _, _, _, _⟩) Tryz.underlying117 rfl (by kernel_rfl)
theorem gfa117_1 : FieldAt Tryz.prog 117 1 1 := fieldAt_sz (n := 0) (f := ⟨_, _, 1, _, _, _, _⟩) Tryz.underlying117 rfl (by kernel_rfl)
theorem gfa54_0 : FieldAt Tryz.prog 54 0 0 := fieldAt_sz (n := 0) (f := ⟨_, _, 0, _, _, _, _⟩) Tryz.underlying54 rfl (by kernel_rfl)
theorem gone52 : OneCell Tryz.prog 52 := oneCell_of Tryz.underlying52 rfl
theorem gsz137 : (Tryz.prog.info? 137).map (·.size) = some 2 := by kernel_rfl
theorem gfa137_0 : FieldAt Tryz.prog 137 0 0 := fieldAt_sz (n := 0) (f := ⟨_, _, 0, _, _, _, _⟩) Tryz.underlying137 rfl (by kernel_rfl)
theorem gfa137_1 : FieldAt Tryz.prog 137 1 1 := fieldAt_sz (n := 0) (f := ⟨_, _, 1, _, _, _, _⟩) Tryz.underlying137 rfl (by kernel_rfl)
theorem gone114 : OneCell Tryz.prog 114 := oneCell_of Tryz.underlying114 rfl
theorem glit45 : ((Tryz.prog.info? 45).map fun i => (i.size, i.zero.isSome)) = some (3, true) := by kernel_rfl
theorem gapp45 : ((Tryz.prog.info? 45).map fun i => (i.size, i.bytes, (i.zero.map fun z => z.cells.size))) = some (3, 40, some 3) := by kernel_rfl
theorem gsz45 : (Tryz.prog.info? 45).map (·.size) = some 3 := by kernel_rfl
theorem gagg45 : AggOf Tryz.prog 45 3 := aggOf_of Tryz.underlying45 rfl (by kernel_rfl)
theorem geqs45 : ∀ (x0 : List UInt8) (x1 : Int) (x2 : List UInt8) (y0 : List UInt8) (y1 : Int) (y2 : List UInt8) (w : World), (Op.equalIn 10000 45 (.agg #[str x0, i64 x1, str x2]) (.agg #[str y0, i64 y1, str y2])).run Tryz.prog w = .ok (decide (x0 = y0 ∧ x1 = y1 ∧ x2 = y2)) w := by
 intro x0 x1 x2 y0 y1 y2 w
 have hS : Tryz.prog.underlying 45 = some (.struct (Tryz.prog.fieldsOf 45)) := by kernel_rfl
 rw [show (10000 : Nat) = 9999 + 1 from rfl, run_equalIn_agg w 9999 45 _ _ hS (by kernel_rfl)]
 simp only [Program.fieldsOf, Tryz.underlying45]
 go_simp
 by_cases h0 : x0 = y0 <;> by_cases h1 : x1 = y1 <;> by_cases h2 : x2 = y2 <;> simp [h0, h1, h2]
theorem geqg45 : Tryz.prog.eqGuardType Tryz.prog.depth 45 = false := by kernel_rfl
theorem geqs152 : ∀ (x0 : List UInt8) (x1 : Int) (x2 : Int) (x3 : List UInt8) (x4 : Int) (x5 : Int) (y0 : List UInt8) (y1 : Int) (y2 : Int) (y3 : List UInt8) (y4 : Int) (y5 : Int) (w : World), (Op.equalIn 10000 152 (.agg #[str x0, i64 x1, i64 x2, str x3, i64 x4, i64 x5]) (.agg #[str y0, i64 y1, i64 y2, str y3, i64 y4, i64 y5])).run Tryz.prog w = .ok (decide (x0 = y0 ∧ x1 = y1 ∧ x2 = y2 ∧ x3 = y3 ∧ x4 = y4 ∧ x5 = y5)) w := by
 intro x0 x1 x2 x3 x4 x5 y0 y1 y2 y3 y4 y5 w
 have hS : Tryz.prog.underlying 152 = some (.struct (Tryz.prog.fieldsOf 152)) := by kernel_rfl
 rw [show (10000 : Nat) = 9999 + 1 from rfl, run_equalIn_agg w 9999 152 _ _ hS (by kernel_rfl)]
 simp only [Program.fieldsOf, Tryz.underlying152]
 go_simp
 by_cases h0 : x0 = y0 <;> by_cases h1 : x1 = y1 <;> by_cases h2 : x2 = y2 <;> by_cases h3 : x3 = y3 <;> by_cases h4 : x4 = y4 <;> by_cases h5 : x5 = y5 <;> simp [h0, h1, h2, h3, h4, h5]
theorem geqg152 : Tryz.prog.eqGuardType Tryz.prog.depth 152 = false := by kernel_rfl
theorem glit48 : ((Tryz.prog.info? 48).map fun i => (i.size, i.zero.isSome)) = some (1, true) := by kernel_rfl
theorem gsz48 : (Tryz.prog.info? 48).map (·.size) = some 1 := by kernel_rfl
theorem gone48 : OneCell Tryz.prog 48 := oneCell_of Tryz.underlying48 rfl
theorem gfa45_0 : FieldAt Tryz.prog 45 0 0 := fieldAt_sz (n := 0) (f := ⟨_, _, 0, _, _, _, _⟩) Tryz.underlying45 rfl (by kernel_rfl)
theorem unwrap_ct (b : Nat) (p : Str) (a : Int) (e : Er) : Ct Tryz.prog 326 [ptr b 0] (Cells b 0 [str p, i64 a, e.val]) Ow.emp (X := Unit) (fun _ => e.val) (fun _ => True) (fun _ => Mo.tt) (fun _ => Ow.emp) := by
 refine Ct.of Tryz.func326 rfl (by kernel_rfl) Tryz.ntmps326 (by simp) fun c => ?_
 refine Zq (Zr ?_)
 refine Za ?_
 refine Zl ?_
 refine Zq (Zr ?_)
 refine Zm ?_
 refine VL.q (q_nilCheck rfl) (by decide) ?_
 refine VL.q (q_field gfa117_2 rfl) (by decide) ?_
 refine VL.q (q_fm gone29 rfl rfl) (by decide) ?_
 refine Za ?_
 refine Zl ?_
 exact Ze
theorem unwrap_me (v : Value) : Meth Tryz.prog (.iface 114 v) "Unwrap" 326 v := Meth.of fun w => by kernel_rfl
theorem errorsis_ct (z0 : Er) (n : Int) (h0 : z0.pl.isNil = false) : Ct Tryz.prog 136 [z0.val, .iface 115 (i64 n), .bool true] z0.ok Ow.emp (X := Unit) (fun _ => .bool (decide (endNo z0.pl = some n))) (fun _ => True) (fun _ => Mo.tt) (fun _ => Ow.emp) := by
 refine Ct.of Tryz.func136 rfl (by kernel_rfl) Tryz.ntmps136 (by simp) fun c => ?_
 refine Zq (Zr ?_)
 refine Za ?_
 refine Zl ?_
 refine Zb ?_
 refine VC.loopM (S := Er) (fun z => endNo z.pl = endNo z0.pl ∧ z.pl.isNil = false) (fun z => [(0, z.val), (1, .iface 115 (i64 n)), (2, .bool true)]) (fun z => z.ok) (fun _ => Ow.emp) Er.dep z0 [0, 1, 2] ⟨rfl, h0⟩ rfl (fun _ m => m) (fun _ e => e) ?_
 rintro z ⟨hz, hn⟩
 cases z with
 | nil => cases hn
 | no m =>
   refine Zb (Zq (Zq (Zr ?_)))
   refine Zm ?_
   refine Zm ?_
   refine Zg ?_
   refine Zg ?_
   refine VL.gy rfl rfl (q_eqno (a := m) (b := n) Tryz.underlying29 Tryz.underlying115 (by kernel_rfl) rfl rfl) (by decide) ?_
   refine Zt ?_
   refine Zl ?_
   have hz' : some m = endNo z0.pl := hz
   refine VC.cond_dec rfl (fun h => ?_) (fun h => ?_)
   · refine VC.seq ?_
     refine Zr ?_
     refine Za ?_
     refine Zl ?_
     exact VC.ret (fin1 (.inr rfl) rfl rfl () (congrArg Value.bool (by rw [← hz', h]; simp)) trivial (fun _ _ => trivial) (fun _ _ => trivial))
   refine Zk ?_
   refine Zq (Zq (Zr ?_))
   refine Zm ?_
   refine VL.q (q_ta rfl fun w => run_typeAssert_lacksB (z := .nilIface) Tryz.underlying272 (by kernel_rfl) (by kernel_rfl) _ _ w) (by decide) ?_
   refine Zm ?_
   refine VL.q (q_extract rfl rfl) (by decide) ?_
   refine VL.q (q_extract rfl rfl) (by decide) ?_
   refine Za ?_
   refine Za ?_
   refine Zl ?_
   refine Zq (Zr ?_)
   refine Zm ?_
   refine Zm ?_
   refine Zn ?_
   refine Zn ?_
   refine Zn ?_
   refine Zf ?_
   refine Zl ?_
   refine VC.cond_f rfl ?_
   refine Zk ?_
   refine Zq (Zr ?_)
   refine Zm ?_
   refine Zl ?_
   refine Zb (Zq (Zr ?_))
   refine VL.q (q_ta rfl fun w => run_typeAssert_lacksB (z := .nilIface) Tryz.underlying275 (by kernel_rfl) (by kernel_rfl) _ _ w) (by decide) ?_
   refine VL.q (q_extract rfl rfl) (by decide) ?_
   refine VL.q (q_extract rfl rfl) (by decide) ?_
   refine Zl ?_
   refine VC.cond_f rfl ?_
   refine Zq (Zr ?_)
   refine VL.q (q_ta rfl fun w => run_typeAssert_lacksB (z := .nilIface) Tryz.underlying276 (by kernel_rfl) (by kernel_rfl) _ _ w) (by decide) ?_
   refine VL.q (q_extract rfl rfl) (by decide) ?_
   refine VL.q (q_extract rfl rfl) (by decide) ?_
   refine Zl ?_
   refine VC.cond_f rfl ?_
   refine Zq (Zr ?_)
   refine Za ?_
   refine Zl ?_
   refine Zq (Zr ?_)
   refine Za ?_
   refine Zl ?_
   exact VC.ret (fin1 (.inr rfl) rfl rfl () (congrArg Value.bool (by rw [← hz']; exact (decide_eq_false fun q => h (Option.some.inj q)).symm)) trivial (fun _ _ => trivial) (fun _ _ => trivial))
 | fault b p a e =>
   refine VC.addM (Cells b 0 [str p, i64 a, e.val]) (fun _ m => m.1) ?_
   refine VC.addM e.ok (fun _ m => m.2.2) ?_
   refine Zb (Zq (Zq (Zr ?_)))
   refine Zm ?_
   refine Zm ?_
   refine Zg ?_
   refine Zg ?_
   refine VL.gy rfl rfl (q_eqdt (t1 := 114) (t2 := 115) (a := ptr b 0) (b := i64 n) Tryz.underlying29 (by decide) rfl rfl) (by decide) ?_
   refine Zt ?_
   refine Zl ?_
   have hz' : endNo e.pl = endNo z0.pl := hz
   refine VC.cond_f rfl ?_
   refine Zk ?_
   refine Zq (Zq (Zr ?_))
   refine Zm ?_
   refine VL.q (q_ta rfl fun w => run_typeAssert_lacksB (z := .nilIface) Tryz.underlying272 (by kernel_rfl) (by kernel_rfl) _ _ w) (by decide) ?_
   refine Zm ?_
   refine VL.q (q_extract rfl rfl) (by decide) ?_
   refine VL.q (q_extract rfl rfl) (by decide) ?_
   refine Za ?_
   refine Za ?_
   refine Zl ?_
   refine Zq (Zr ?_)
   refine Zm ?_
   refine Zm ?_
   refine Zn ?_
   refine Zn ?_
   refine Zn ?_
   refine Zf ?_
   refine Zl ?_
   refine VC.cond_f rfl ?_
   refine Zk ?_
   refine Zq (Zr ?_)
   refine Zm ?_
   refine Zl ?_
   refine Zb (Zq (Zr ?_))
   refine VL.q (q_ta rfl fun w => run_typeAssert_hasB Tryz.underlying275 (by kernel_rfl) _ _ w) (by decide) ?_
   refine VL.q (q_extract rfl rfl) (by decide) ?_
   refine VL.q (q_extract rfl rfl) (by decide) ?_
   refine Zl ?_
   refine VC.cond_t rfl ?_
   refine Zq (Zr ?_)
   refine Za ?_
   refine Zl ?_
   refine Zq (Zr ?_)
   refine Zm ?_
   refine VL.q (q_inv rfl (unwrap_me (ptr b 0)) (unwrap_ct b p a e) (fun _ _ => rfl)) (by decide) ?_
   refine Za ?_
   refine Zl ?_
   refine Zq (Zr ?_)
   refine Zm ?_
   refine VL.q (q_ereq Tryz.underlying29 (z := e) rfl) (by decide) ?_
   refine Zl ?_
   refine VC.cond_dec rfl (fun h => ?_) (fun h => ?_)
   · refine VC.seq ?_
     refine Zr ?_
     refine Za ?_
     refine Zl ?_
     exact VC.ret (fin1 (.inr rfl) rfl rfl () (congrArg Value.bool (by
       rw [← hz']
       cases e with
       | nil => rfl
       | no m => cases h
       | fault _ _ _ _ => cases h)) trivial (fun _ _ => trivial) (fun _ _ => trivial))
   · exact VC.skip_any e [0, 1, 2] (fun _ _ h => h) ⟨⟨hz', by simpa using h⟩, Nat.lt_succ_self _⟩ rfl (fun _ m => m.1) (fun _ e => e)
theorem typeof_no (v : Value) (w : World) : (Extern.ReflectliteType.typeOf #[.iface 115 v]).run Tryz.prog w = .ok (.iface 270 (.agg #[.pointer (some ⟨7, 115, none⟩)])) w := by kernel_rfl
theorem comp_no (w : World) : (Extern.ReflectliteType.method (fun t => do Extern.Rtype.noPackHeld "Comparable" t; pure (.bool (← typeInfo t).comparable)) #[.agg #[.pointer (some ⟨7, 115, none⟩)]]).run Tryz.prog w = .ok (.bool true) w := by kernel_rfl
theorem comp_me (v : Value) : Meth Tryz.prog (.iface 270 v) "Comparable" 347 v := Meth.of fun w => by kernel_rfl
theorem is_ct (z0 : Er) (n : Int) : Ct Tryz.prog 68 [z0.val, .iface 115 (i64 n)] z0.ok Ow.emp (X := Unit) (fun _ => .bool (decide (endNo z0.pl = some n))) (fun _ => True) (fun _ => Mo.tt) (fun _ => Ow.emp) := by
 refine Ct.of Tryz.func68 rfl (by kernel_rfl) Tryz.ntmps68 (by simp) fun c => ?_
 have fin : z0.pl.isNil = false → ∀ Q : Exit → Act → World → Prop, Q = bodyPost Tryz.prog Tryz.f68 (fun en w' => ∃ r, en = .returned r ∧ Post (X := Unit) (fun _ => .bool (decide (endNo z0.pl = some n))) (fun _ => True) (fun _ => Mo.tt) (fun _ => Ow.emp) c r w') → True := fun _ _ _ => trivial
 refine Zq (Zr ?_)
 refine Za ?_
 refine Zl ?_
 refine Zq (Zq (Zr ?_))
 refine Zm ?_
 by_cases hn : z0 = .nil
 ·
  subst hn
  refine VL.q (q_nileq Tryz.underlying29 rfl) (by decide) ?_
  refine Zm ?_
  refine Zn ?_
  refine Zn ?_
  refine Zt ?_
  refine Zl ?_
  refine VC.cond_t rfl ?_
  refine Zq (Zr ?_)
  refine Zm ?_
  refine Zm ?_
  refine VL.q (q_eqnl (T := 115) (u := i64 n) Tryz.underlying29 rfl rfl) (by decide) ?_
  refine Za ?_
  refine Zl ?_
  exact Ze
 have hn' : z0.pl.isNil = false := by
   cases z0 with
   | nil => exact absurd rfl hn
   | no m => rfl
   | fault _ _ _ _ => rfl
 refine VL.q (v := .bool false) (by
   cases z0 with
   | nil => exact absurd rfl hn
   | no m => exact q_ifeq Tryz.underlying29 rfl
   | fault _ _ _ _ => exact q_ifeq Tryz.underlying29 rfl) (by decide) ?_
 refine Zm ?_
 refine Zg ?_
 refine VL.gy rfl rfl (q_ifeq Tryz.underlying29 rfl) (by decide) ?_
 refine Zf ?_
 refine Zl ?_
 refine VC.cond_f rfl ?_
 refine Zk ?_
 refine Zq (Zr ?_)
 refine Zm ?_
 refine VL.q (q_extern Tryz.func135 rfl rfl (by kernel_rfl) (by kernel_rfl) rfl (typeof_no _)) (by decide) ?_
 refine VL.q (q_invX rfl (comp_me _) Tryz.func347 rfl rfl (by kernel_rfl) (by kernel_rfl) comp_no) (by decide) ?_
 refine Za ?_
 refine Zl ?_
 refine Zq (Zr ?_)
 refine Zm ?_
 refine Zm ?_
 refine Zm ?_
 refine VL.q (q_call (errorsis_ct z0 n hn') rfl (fun _ _ => rfl)) (by decide) ?_
 refine Za ?_
 refine Zl ?_
 exact Ze
open Go.Extern.Stop Go.Stop Go.Extern Go.RowKit in
section
end
namespace As
open Go.Extern Go.Extern.Stop
theorem as_valueOf (t : Addr) (w : World) : (ReflectliteValue.unpack (.iface 135 (.pointer (some t)))).run Tryz.prog w
    = .ok (.agg #[.pointer (some ⟨7, 135, none⟩), .pointer (some ⟨w.heap.size, 0, none⟩), .int .u64 150]) (w.alloc (.cells #[.pointer (some t)] 135)) := by kernel_rfl
theorem as_type (a : Addr) (w : World) : (ReflectliteValue.methodAny (ReflectliteValue.valueError "reflectlite.Value.Type" 0) (fun t _ _ _ => ReflectliteType.toType t) #[.agg #[.pointer (some ⟨7, 135, none⟩), .pointer (some a), .int .u64 150]]).run Tryz.prog w
    = .ok (.iface 270 (.agg #[.pointer (some ⟨7, 135, none⟩)])) w := by kernel_rfl
theorem as_mKind (h : Value) (w : World) : (Go.method 523 270 (.agg #[h]) "Kind").run Tryz.prog w = .ok (322, h) w := by kernel_rfl
theorem as_kind1 (w : World) : ((ReflectliteType.abiMethod fun t => (fun a : Nat => Value.int IntKind.u8 (a : Int)) <$> Rtype.kind t) #[.pointer (some ⟨7, 135, none⟩)]).run Tryz.prog w = .ok (.int .u8 22) w := by kernel_rfl
theorem as_kind2 (w : World) : ((ReflectliteType.abiMethod fun t => (fun a : Nat => Value.int IntKind.u8 (a : Int)) <$> Rtype.kind t) #[.pointer (some ⟨7, 114, none⟩)]).run Tryz.prog w = .ok (.int .u8 22) w := by kernel_rfl
theorem as_rlm (z : Sem Value) (f : TypeId → Addr → Nat → Nat → Sem Value) (v : Value) :
    ReflectliteValue.method z f #[v] = (do match ← ReflectliteValue.parts v with | none => z | some (t, a, fl) => f t a fl (fl % 32)) := rfl
theorem as_parts1 (a : Addr) (w : World) : (ReflectliteValue.parts (.agg #[.pointer (some ⟨7, 135, none⟩), .pointer (some a), .int .u64 150])).run Tryz.prog w = .ok (some (135, a, 150)) w := by kernel_rfl
theorem as_isNil (a p : Addr) (W : World) (ha : W.cell? a = some (.pointer (some p))) :
 (ReflectliteValue.method (ReflectliteValue.valueError "reflectlite.Value.IsNil" 0) ReflectliteValue.isNil #[.agg #[.pointer (some ⟨7, 135, none⟩), .pointer (some a), .int .u64 150]]).run Tryz.prog W = .ok (.bool false) W := by
 rw [as_rlm]
 simp only [Sem.run_bind, as_parts1, Result.andThen]
 simp [ReflectliteValue.isNil, loadVar, isAgg, underlying, Tryz.underlying135, ha, Result.andThen]
theorem as_mElem (h : Value) (w : World) : (Go.method 523 270 (.agg #[h]) "Elem").run Tryz.prog w = .ok (348, .agg #[h]) w := by kernel_rfl
theorem as_mImpl (h : Value) (w : World) : (Go.method 523 270 (.agg #[h]) "Implements").run Tryz.prog w = .ok (349, .agg #[h]) w := by kernel_rfl
theorem as_mAssn (h : Value) (w : World) : (Go.method 523 270 (.agg #[h]) "AssignableTo").run Tryz.prog w = .ok (346, .agg #[h]) w := by kernel_rfl
theorem as_elem1 (w : World) : (ReflectliteType.method ReflectliteType.elem #[.agg #[.pointer (some ⟨7, 135, none⟩)]]).run Tryz.prog w = .ok (.iface 270 (.agg #[.pointer (some ⟨7, 114, none⟩)])) w := by kernel_rfl
theorem as_impl2 (w : World) : (ReflectliteType.relation "Implements" ReflectliteType.implements_ #[.agg #[.pointer (some ⟨7, 114, none⟩)], .iface 270 (.agg #[.pointer (some ⟨7, 29, none⟩)])]).run Tryz.prog w = .ok (.bool true) w := by kernel_rfl
theorem as_typeOf2 (v : Value) (w : World) : (ReflectliteType.typeOf #[.iface 114 v]).run Tryz.prog w = .ok (.iface 270 (.agg #[.pointer (some ⟨7, 114, none⟩)])) w := by kernel_rfl
theorem as_assn2 (w : World) : (ReflectliteType.relation "AssignableTo" ReflectliteType.assignableTo #[.agg #[.pointer (some ⟨7, 114, none⟩)], .iface 270 (.agg #[.pointer (some ⟨7, 114, none⟩)])]).run Tryz.prog w = .ok (.bool true) w := by kernel_rfl
theorem as_valueOf2 (e : Addr) (w : World) : (ReflectliteValue.unpack (.iface 114 (.pointer (some e)))).run Tryz.prog w
    = .ok (.agg #[.pointer (some ⟨7, 114, none⟩), .pointer (some ⟨w.heap.size, 0, none⟩), .int .u64 150]) (w.alloc (.cells #[.pointer (some e)] 114)) := by kernel_rfl
theorem as_elemOf1 (w : World) : (Rtype.elem? 135).run Tryz.prog w = .ok (some 114) w := by kernel_rfl
theorem as_mk2 (p : Addr) (w : World) : (ReflectliteValue.mk 114 p ReflectliteValue.flagAddr).run Tryz.prog w = .ok (.agg #[.pointer (some ⟨7, 114, none⟩), .pointer (some p), .int .u64 406]) w := by kernel_rfl
theorem as_elemV1 (a p : Addr) (W : World) (ha : W.cell? a = some (.pointer (some p))) :
 (ReflectliteValue.method (ReflectliteValue.valueError "reflectlite.Value.Elem" 0) ReflectliteValue.elem #[.agg #[.pointer (some ⟨7, 135, none⟩), .pointer (some a), .int .u64 150]]).run Tryz.prog W
 = .ok (.agg #[.pointer (some ⟨7, 114, none⟩), .pointer (some p), .int .u64 406]) W := by
 rw [as_rlm]
 simp only [Sem.run_bind, as_parts1, Result.andThen]
 simp [ReflectliteValue.elem, loadVar, isAgg, underlying, Tryz.underlying135, ha, Result.andThen, as_elemOf1, as_mk2]
theorem as_rls (v x : Value) : ReflectliteValue.set #[v, x] = (do
    let (some (dst, a, fl), some (src, b, _)) := (← ReflectliteValue.parts v, ← ReflectliteValue.parts x)
      | unsupported (.noEntry "extern/(internal/reflectlite.Value).Set.zeroValue")
    if fl / ReflectliteValue.flagAddr % 2 == 0 then unsupported (.noEntry "extern/(internal/reflectlite.Value).Set.unaddressable")
    let val ← loadVar src b
    if ← Rtype.directlyAssignable dst src then storeVar dst a val
    else if ← Rtype.implements dst src then
      if (← Rtype.kind src) == 20 then
        match val with
        | .nilIface => unsupported (.noEntry "extern/reflectlite: a nil value of one interface type handed on as a value of another")
        | _ => storeVar dst a val
      else storeVar dst a (.iface src val)
    else panicString ("reflectlite.Set: value of type " ++ (← Rtype.spelt src) ++ " is not assignable to type " ++ (← Rtype.spelt dst))
    pure (.tuple #[])) := rfl
theorem as_parts2a (a : Addr) (w : World) : (ReflectliteValue.parts (.agg #[.pointer (some ⟨7, 114, none⟩), .pointer (some a), .int .u64 406])).run Tryz.prog w = .ok (some (114, a, 406)) w := by kernel_rfl
theorem as_parts2 (a : Addr) (w : World) : (ReflectliteValue.parts (.agg #[.pointer (some ⟨7, 114, none⟩), .pointer (some a), .int .u64 150])).run Tryz.prog w = .ok (some (114, a, 150)) w := by kernel_rfl
theorem as_direct2 (w : World) : (Rtype.directlyAssignable 114 114).run Tryz.prog w = .ok true w := by kernel_rfl
theorem as_set2 (ta b e : Addr) (old : Value) (W : World) (hb : W.cell? b = some (.pointer (some e))) (ht : W.cell? ta = some old) (hf : W.frozen? ta = false) :
 (ReflectliteValue.set #[.agg #[.pointer (some ⟨7, 114, none⟩), .pointer (some ta), .int .u64 406], .agg #[.pointer (some ⟨7, 114, none⟩), .pointer (some b), .int .u64 150]]).run Tryz.prog W
 = .ok (.tuple #[]) (W.setCell ta (.pointer (some e))) := by
 rw [as_rls]
 simp only [Sem.run_bind, as_parts2a, as_parts2, Result.andThen]
 simp [ReflectliteValue.flagAddr, loadVar, isAgg, underlying, Tryz.underlying114, hb, Result.andThen, as_direct2, storeVar, Value.cells, storeCells, Addr.add]
 rw [run_store Tryz.prog W ta _ _ (by rfl)]
 simp [ht, hf]
theorem as_hit (e t : Addr) (old : Value) (w : World) (hg : w.cell? ⟨0, 0, none⟩ = some (.iface 270 (.agg #[.pointer (some ⟨7, 29, none⟩)]))) (ht0 : w.cell? t = some old) (hf0 : w.frozen? t = false) :
 Calls Tryz.prog 69 #[.iface 114 (.pointer (some e)), .iface 135 (.pointer (some t))] w fun ev w' => ev = .returned (.bool true) ∧ w' = ((((w.alloc (.cells #[.pointer (some t)] 135)).alloc (.cells #[.pointer (some ⟨7, 135, none⟩), .pointer (some ⟨w.heap.size, 0, none⟩), .int .u64 150] 210)).alloc (.cells #[.pointer (some ⟨7, 135, none⟩), .pointer (some ⟨w.heap.size, 0, none⟩), .int .u64 150] 210)).alloc (.cells #[.pointer (some e)] 114)).setCell t (.pointer (some e)) := by
 have h6 := @run_callFunc_extern Tryz.prog 137 _ (fun args => ReflectliteValue.unpack (args.getD 0 (.tuple #[]))) Tryz.func137 (by kernel_rfl) (by kernel_rfl) (by kernel_rfl) (by kernel_rfl)
 have h7 := @run_callFunc_extern Tryz.prog 138 _ (ReflectliteValue.methodAny (ReflectliteValue.valueError "reflectlite.Value.Type" 0) (fun t _ _ _ => ReflectliteType.toType t)) Tryz.func138 (by kernel_rfl) (by kernel_rfl) (by kernel_rfl) (by kernel_rfl)
 have h8 := @run_callFunc_extern Tryz.prog 139 _ (ReflectliteValue.method (ReflectliteValue.valueError "reflectlite.Value.IsNil" 0) ReflectliteValue.isNil) Tryz.func139 (by kernel_rfl) (by kernel_rfl) (by kernel_rfl) (by kernel_rfl)
 have h27 := @run_callFunc_extern Tryz.prog 322 _ (ReflectliteType.abiMethod fun t => do pure (.int .u8 (← Rtype.kind t))) Tryz.func322 (by kernel_rfl) (by kernel_rfl) (by kernel_rfl) (by kernel_rfl)
 have h37 := @run_callFunc_extern Tryz.prog 348 _ (ReflectliteType.method ReflectliteType.elem) Tryz.func348 (by kernel_rfl) (by kernel_rfl) (by kernel_rfl) (by kernel_rfl)
 have h38 := @run_callFunc_extern Tryz.prog 349 _ (ReflectliteType.relation "Implements" ReflectliteType.implements_) Tryz.func349 (by kernel_rfl) (by kernel_rfl) (by kernel_rfl) (by kernel_rfl)
 have h10 := @run_callFunc_extern Tryz.prog 135 _ ReflectliteType.typeOf Tryz.func135 (by kernel_rfl) (by kernel_rfl) (by kernel_rfl) (by kernel_rfl)
 have h35 := @run_callFunc_extern Tryz.prog 346 _ (ReflectliteType.relation "AssignableTo" ReflectliteType.assignableTo) Tryz.func346 (by kernel_rfl) (by kernel_rfl) (by kernel_rfl) (by kernel_rfl)
 have h11 := @run_callFunc_extern Tryz.prog 192 _ (ReflectliteValue.method (ReflectliteValue.valueError "reflectlite.Value.Elem" 0) ReflectliteValue.elem) Tryz.func192 (by kernel_rfl) (by kernel_rfl) (by kernel_rfl) (by kernel_rfl)
 have h12 := @run_callFunc_extern Tryz.prog 193 _ ReflectliteValue.set Tryz.func193 (by kernel_rfl) (by kernel_rfl) (by kernel_rfl) (by kernel_rfl)
 have tO := as_typeOf2
 have mA := as_mAssn
 have a25 := as_assn2
 have v25 := as_valueOf2
 have f6 := as_valueOf
 have f7 := as_type
 have mK := as_mKind
 have mE := as_mElem
 have mI := as_mImpl
 have k27 := as_kind1
 have k25 := as_kind2
 have e27 := as_elem1
 have i25 := as_impl2
 have n8 := as_isNil ⟨w.heap.size, 0, none⟩ t ((w.alloc (.cells #[.pointer (some t)] 135)).alloc (.cells #[.pointer (some ⟨7, 135, none⟩), .pointer (some ⟨w.heap.size, 0, none⟩), .int .u64 150] 210)) (by simp)
 have hlt : 0 < w.heap.size := by
   rcases Nat.lt_or_ge 0 w.heap.size with h | h
   · exact h
   · simp [World.cell?, Array.getElem?_eq_none h] at hg
 have hg2 : ((w.alloc (.cells #[.pointer (some t)] 135)).alloc (.cells #[.pointer (some ⟨7, 135, none⟩), .pointer (some ⟨w.heap.size, 0, none⟩), .int .u64 150] 210)).cell? ⟨0, 0, none⟩ = some (.iface 270 (.agg #[.pointer (some ⟨7, 29, none⟩)])) := by
   rw [World.cell?_alloc_lt _ _ ⟨0, 0, none⟩ (by first | (simp; done) | (simp; omega)), World.cell?_alloc_lt _ _ ⟨0, 0, none⟩ hlt]; exact hg
 have htl : t.block < w.heap.size := by
   rcases Nat.lt_or_ge t.block w.heap.size with h | h
   · exact h
   · simp [World.cell?, Array.getElem?_eq_none h] at ht0
 have el := as_elemV1 ⟨w.heap.size, 0, none⟩ t (((w.alloc (.cells #[.pointer (some t)] 135)).alloc (.cells #[.pointer (some ⟨7, 135, none⟩), .pointer (some ⟨w.heap.size, 0, none⟩), .int .u64 150] 210)).alloc (.cells #[.pointer (some ⟨7, 135, none⟩), .pointer (some ⟨w.heap.size, 0, none⟩), .int .u64 150] 210)) (by rw [World.cell?_alloc_lt _ _ ⟨w.heap.size, 0, none⟩ (by simp; omega)]; simp)
 have st := as_set2 t ⟨w.heap.size + 1 + 1 + 1, 0, none⟩ e old ((((w.alloc (.cells #[.pointer (some t)] 135)).alloc (.cells #[.pointer (some ⟨7, 135, none⟩), .pointer (some ⟨w.heap.size, 0, none⟩), .int .u64 150] 210)).alloc (.cells #[.pointer (some ⟨7, 135, none⟩), .pointer (some ⟨w.heap.size, 0, none⟩), .int .u64 150] 210)).alloc (.cells #[.pointer (some e)] 114))
   (by rw [World.cell?_alloc_at _ _ _ _ (by simp)]; rfl)
   (by rw [World.cell?_alloc_lt _ _ t (by simp; omega), World.cell?_alloc_lt _ _ t (by simp; omega), World.cell?_alloc_lt _ _ t (by simp; omega), World.cell?_alloc_lt _ _ t htl]; exact ht0)
   (by rw [World.frozen?_alloc_old _ _ t (by simp; omega), World.frozen?_alloc_old _ _ t (by simp; omega), World.frozen?_alloc_old _ _ t (by simp; omega), World.frozen?_alloc_old _ _ t (Nat.ne_of_lt htl)]; exact hf0)
 go_enter Tryz.func69, Tryz.ntmps69
 go_wp2
 refine wp_loop_rounds 1 ?_
 rw [rounds_succ]
 go_wp2
 go_ret
 exact ⟨rfl, rfl⟩
theorem as_ct (b t : Nat) : Ct Tryz.prog 69 [.iface 114 (ptr b 0), .iface 135 (ptr t 0)] (GBlk 0 #[.iface 270 (.agg #[.pointer (some ⟨7, 29, none⟩)])]) (Blk t [.pointer none] 114) (X := Unit) (fun _ => .bool true) (fun _ => True) (fun _ => Mo.tt) (fun _ => Blk t [ptr b 0] 114) :=
  ⟨entry_of Tryz.func69 rfl (by kernel_rfl), fun w hp z m ee d l k => by
    have hb : w.heap[t]? = some (.cells #[.pointer none] 114 (0, 0)) := k _ _ ee
    obtain ⟨t1, f1, m1⟩ := m
    have hg : w.heap[0]? = some (.cells #[.iface 270 (.agg #[.pointer (some ⟨7, 29, none⟩)])] t1 f1) := l _ _ m1
    have htl := (Array.getElem?_eq_some_iff.1 hb).1
    refine (as_hit ⟨b, 0, none⟩ ⟨t, 0, none⟩ (.pointer none) w (by simp [World.cell?, hg]) (by simp [World.cell?, hb]) (by simp [World.frozen?, hb])).mono fun en w' ⟨h1, h2⟩ => ⟨_, h1, (), rfl, trivial, ?_⟩
    have hgr : Gr w ((((w.alloc (.cells #[.pointer (some ⟨t, 0, none⟩)] 135)).alloc (.cells #[.pointer (some ⟨7, 135, none⟩), .pointer (some ⟨w.heap.size, 0, none⟩), .int .u64 150] 210)).alloc (.cells #[.pointer (some ⟨7, 135, none⟩), .pointer (some ⟨w.heap.size, 0, none⟩), .int .u64 150] 210)).alloc (.cells #[.pointer (some ⟨b, 0, none⟩)] 114)) := (((Gr.alloc w _).trans (Gr.alloc _ _)).trans (Gr.alloc _ _)).trans (Gr.alloc _ _)
    exact St.turned hb (show z t = _ from ee) d l hgr h2⟩
end As
theorem slices_Clip_index_Entry_index_Entry_ct (s_0 : Sv IndexEntry) {r : List IndexEntry} (hS : Sh.slices_Clip_index_Entry_index_Entry s_0.l = some r) :
 Ct Tryz.prog 100 [s_0.val] s_0.ok (Ow.emp) (X := Sv IndexEntry) (fun x => x.val) (fun x => r = x.l) (fun x => x.ok) (fun x => Ow.emp) := by
 refine Ct.of Tryz.func100 rfl (by kernel_rfl) Tryz.ntmps100 (by simp) fun c => ?_
 unfold Sh.slices_Clip_index_Entry_index_Entry at hS
 refine Zq (Zr ?_)
 refine Za ?_
 refine Zl ?_
 refine Zq (Zr ?_)
 refine Zm ?_
 refine Zm ?_
 refine VL.q (q_ln (s := s_0) Tryz.underlying66 rfl) (by decide) ?_
 refine Zm ?_
 refine VL.q (q_ln (s := s_0) Tryz.underlying66 rfl) (by decide) ?_
 obtain ⟨b8, hS⟩ := gd_s hS
 refine VL.stom Tryz.underlying66 gsz149 rfl rfl rfl b8.1 (b8.2) (by decide) fun s8_1 hs8_1 => ?_
 replace hS := lt_to hs8_1 hS
 refine Za ?_
 refine Zl ?_
 cases hS
 exact VC.ret (fin1 (.inr rfl) rfl rfl s8_1 rfl rfl (by (try dsimp only); exact InM.out) (fun _ _ => trivial))
theorem index_Of_ct (r_0 : Sv FilesFile) {r : List IndexEntry} (hS : Sh.index_Of r_0.l = some r) :
 Ct Tryz.prog 81 [r_0.val] r_0.ok (Ow.emp) (X := Sv IndexEntry) (fun x => x.val) (fun x => r = x.l) (fun x => x.ok) (fun x => Ow.emp) := by
 refine Ct.of Tryz.func81 rfl (by kernel_rfl) Tryz.ntmps81 (by simp) fun c => ?_
 unfold Sh.index_Of at hS
 refine Zq (Zr ?_)
 refine Za ?_
 refine Zl ?_
 refine Zq (Zr ?_)
 refine Za ?_
 refine Zl ?_
 refine Zq (Zq (Zr ?_))
 refine Zm ?_
 refine VL.q (q_ln (s := r_0) Tryz.underlying38 rfl) (by decide) ?_
 refine Zm ?_
 refine Zl ?_
 refine Zb ?_
 refine VC.nilO (⟨none, 0, []⟩ : Sv IndexEntry) 149 ⟨rfl, rfl⟩ ?_
 refine VC.iter (S := Sv IndexEntry × Int) (fun sg => (sg.1.l, sg.2)) (fun sg => [(3, sg.1.val), (6, r_0.val), (7, i64 (r_0.l.length : Int)), (8, i64 sg.2)]) (fun sg => Mo.tt) (fun sg => Ow.star (Sv.own sg.1 149) (Ow.emp)) (⟨none, 0, []⟩, 0) [3, 6, 7, 8] hS rfl ?_
 clear hS
 rintro ⟨out3_1, x8_2⟩ m1 y1 hS hK1
 show VC _ _ _ _ _ [(3, out3_1.val), (6, r_0.val), (7, i64 (r_0.l.length : Int)), (8, i64 x8_2)] (Mo.and Mo.tt _) (Ow.star (Sv.own out3_1 149) (Ow.emp))
 refine Zq (Zr ?_)
 refine VL.q (q_lss rfl rfl) (by decide) ?_
 refine Zl ?_
 refine Zq ?_
 refine VC.cond_dec rfl (fun h9 => ?_) (fun h9 => ?_)
 ·
  replace hS := it_t h9 hS
  refine Zk ?_
  refine Zq (Zb (Zq (Zr ?_)))
  obtain ⟨z10_3, nz10_3, hz10_3, hS⟩ := at_s hS
  refine VL.q (q_ixm (s := r_0) Tryz.underlying38 gsz42 rfl rfl nz10_3 (lt_of_get nz10_3 hz10_3)) (by decide) ?_
  refine VL.q (q_els (s := r_0) gagg42 rfl rfl hz10_3) (by decide) ?_
  refine VL.alloc (cs := [str [], i64 0, str []]) (by kernel_rfl) (by decide) fun b5_4 => ?_
  refine VL.store (vc := [str z10_3.path, i64 z10_3.mode, str z10_3.data]) (cs' := [str z10_3.path, i64 z10_3.mode, str z10_3.data]) rfl rfl rfl gsz42 rfl rfl (Nat.le_of_ble_eq_true rfl) rfl ?_
  refine Zl ?_
  refine Zr ?_
  refine Zm ?_
  refine VL.q (q_field gfa42_0 rfl) (by decide) ?_
  refine VL.q (q_fe gone9 rfl rfl) (by decide) ?_
  refine VL.q (q_field gfa42_1 rfl) (by decide) ?_
  refine VL.q (q_fe gone3 rfl rfl) (by decide) ?_
  refine VL.q (q_field gfa42_2 rfl) (by decide) ?_
  refine VL.q (q_fe gone9 rfl rfl) (by decide) ?_
  refine VL.q (q_build (vs := [(0, str z10_3.path), (2, i64 z10_3.mode), (3, str z10_3.data)]) (cs := #[str z10_3.path, i64 0, i64 z10_3.mode, str z10_3.data, i64 0, i64 0]) rfl (by kernel_rfl)) (by decide) ?_
  refine VL.lit (α := IndexEntry) (xs := [.tmp 19]) (vs := [.agg #[str z10_3.path, i64 0, i64 z10_3.mode, str z10_3.data, i64 0, i64 0]]) [⟨z10_3.path, 0, z10_3.mode, z10_3.data, 0, 0⟩] Tryz.underlying66 glit149 (by decide) rfl rfl rfl rfl (by decide) (fun _ _ _ _ => trivial) (by decide) (fun s20_5 hs20_5 => ?_) (by decide)
  replace hS := lt_to hs20_5 hS
  obtain ⟨b21, hS⟩ := gd_s hS
  refine VL.app (s := out3_1) (r := s20_5) Tryz.underlying66 gapp149 (by decide) rfl Fo.out (ap1 b21) (ap2 b21 (by decide)) (by decide) (fun s21_7 hs21_7 => ?_)
  replace hS := lt_to hs21_7 hS
  refine Za ?_
  refine Zl ?_
  refine VC.keep [3, 6, 7, 8] rfl ?_
  refine Zr ?_
  obtain ⟨b22, hS⟩ := gd_s hS
  refine VL.q (q_add rfl rfl b22) (by decide) ?_
  refine Zm ?_
  refine VL.rnd (s21_7, (x8_2 + 1)) [3, 6, 7, 8] (fun _ _ h => h) (go2 hS hK1) rfl
 replace hS := it_f h9 hS
 replace hS := up2 hS hK1
 refine Zx ?_
 refine Zq (Zr ?_)
 refine Zm ?_
 refine VL.shut out3_1 149 (fun _ _ _ _ => trivial) ?_
 obtain ⟨y24_9, ey24_9, hS⟩ := bd_s hS
 refine VL.callF (slices_Clip_index_Entry_index_Entry_ct out3_1 ey24_9) rfl (by decide) ?_
 rintro q24_9_0 rfl
 try dsimp only
 refine Za ?_
 refine Zl ?_
 cases hS
 exact VC.ret (fin1 (.inr rfl) rfl rfl q24_9_0 rfl rfl (by (try dsimp only); exact InM.out) (fun _ _ => trivial))
theorem slices_Clone_index_Entry_index_Entry_ct (s_0 : Sv IndexEntry) {r : List IndexEntry} (hS : Sh.slices_Clone_index_Entry_index_Entry s_0.l = some r) :
 Ct Tryz.prog 151 [s_0.val] s_0.ok (Ow.emp) (X := Sv IndexEntry) (fun x => x.val) (fun x => r = x.l) (fun x => Mo.tt) (fun x => Sv.own x 149) := by
 refine Ct.of Tryz.func151 rfl (by kernel_rfl) Tryz.ntmps151 (by simp) fun c => ?_
 unfold Sh.slices_Clone_index_Entry_index_Entry at hS
 refine Zq (Zr ?_)
 refine Za ?_
 refine Zl ?_
 refine Zq (Zq (Zr ?_))
 refine Zm ?_
 refine VL.q (q_slnil (s := s_0) Tryz.underlying66 rfl) (by decide) ?_
 refine Zl ?_
 refine VC.slnil (s := s_0) rfl (fun h4 => ?_) ?_
 ·
  have hS : (some []) = some r := by
    simp [lt, gd, h4] at hS ⊢
    try exact hS
  refine Zq (Zr ?_)
  refine Za ?_
  refine Zl ?_
  refine VC.nilO (⟨none, 0, []⟩ : Sv IndexEntry) 149 ⟨rfl, rfl⟩ ?_
  cases hS
  exact VC.ret (fin1 (.inr rfl) rfl rfl ⟨none, 0, []⟩ rfl rfl (by (try dsimp only); exact InM.out) (by (try dsimp only); exact EntO.out))
 refine Zk ?_
 refine Zq (Zr ?_)
 refine VL.lit0 (α := IndexEntry) Tryz.underlying66 ghas149 (by decide) (fun s5_1 hs5_1 hcs5_1 => ?_)
 refine VL.nilO s5_1 149 ⟨hcs5_1, hs5_1⟩ ?_
 replace hS := lt_to hs5_1 hS
 refine Zm ?_
 obtain ⟨b7, hS⟩ := gd_s hS
 refine VL.app (s := s5_1) (r := s_0) Tryz.underlying66 gapp149 (by decide) rfl Fo.out (ap1 b7) (ap2 b7 (by decide)) (by decide) (fun s7_3 hs7_3 => ?_)
 replace hS := lt_to hs7_3 hS
 refine Za ?_
 refine Zl ?_
 cases hS
 exact VC.ret (fin1 (.inr rfl) rfl rfl s7_3 rfl rfl (by (try dsimp only); exact InM.out) (by (try dsimp only); exact EntO.out))
theorem internal_stringslite_HasPrefix_ct (s_0 : Str) (prefix_1 : Str) {r : Bool} (hS : Sh.internal_stringslite_HasPrefix s_0 prefix_1 = some r) :
 Ct Tryz.prog 238 [str s_0, str prefix_1] Mo.tt (Ow.emp) (X := Unit) (fun _ => .bool r) (fun _ => True) (fun _ => Mo.tt) (fun _ => Ow.emp) := by
 refine Ct.of Tryz.func238 rfl (by kernel_rfl) Tryz.ntmps238 (by simp) fun c => ?_
 unfold Sh.internal_stringslite_HasPrefix at hS
 refine Zq (Zr ?_)
 refine Za ?_
 refine Zl ?_
 refine Zq (Zr ?_)
 refine Zm ?_
 refine VL.q (q_slen Tryz.underlying9 rfl) (by decide) ?_
 refine Zm ?_
 refine VL.q (q_slen Tryz.underlying9 rfl) (by decide) ?_
 refine VL.q (q_geq rfl rfl) (by decide) ?_
 refine Zm ?_
 refine VL.split_dec 10 rfl (fun h10 => ?_) (fun h10 => ?_)
 ·
  replace hS := it_t h10 hS
  refine Zg ?_
  refine Zg ?_
  refine VL.gy rfl rfl (q_slen Tryz.underlying9 rfl) (by decide) ?_
  obtain ⟨b14, hS⟩ := gd_s hS
  obtain ⟨y14_1, ey14_1, hS⟩ := lt_s hS
  refine VL.gy rfl rfl (q_stoE Tryz.underlying9 rfl rfl b14.1 b14.2 ey14_1) (by decide) ?_
  refine Zg ?_
  refine VL.gy rfl rfl (q_seq rfl rfl) (by decide) ?_
  refine Zt ?_
  refine Za ?_
  refine Zl ?_
  refine VC.keep [4] rfl ?_
  cases hS
  exact Ze
 replace hS := it_f h10 hS
 refine Zn ?_
 refine Zn ?_
 refine Zn ?_
 refine Zn ?_
 refine Zn ?_
 refine Zn ?_
 refine Zf ?_
 refine Za ?_
 refine Zl ?_
 refine VC.keep [4] rfl ?_
 cases hS
 exact Ze
theorem strings_HasPrefix_ct (s_0 : Str) (prefix_1 : Str) {r : Bool} (hS : Sh.strings_HasPrefix s_0 prefix_1 = some r) :
 Ct Tryz.prog 197 [str s_0, str prefix_1] Mo.tt (Ow.emp) (X := Unit) (fun _ => .bool r) (fun _ => True) (fun _ => Mo.tt) (fun _ => Ow.emp) := by
 refine Ct.of Tryz.func197 rfl (by kernel_rfl) Tryz.ntmps197 (by simp) fun c => ?_
 unfold Sh.strings_HasPrefix at hS
 refine Zq (Zr ?_)
 refine Za ?_
 refine Zl ?_
 refine Zq (Zr ?_)
 refine Zm ?_
 refine Zm ?_
 obtain ⟨y7_1, ey7_1, hS⟩ := bd_s hS
 refine VL.q (q_call (internal_stringslite_HasPrefix_ct s_0 prefix_1 ey7_1) rfl (fun _ _ => rfl)) (by decide) ?_
 refine Za ?_
 refine Zl ?_
 cases hS
 exact Ze
theorem path_Under_ct (p_0 : Str) (dir_1 : Str) {r : Bool} (hS : Sh.path_Under p_0 dir_1 = some r) :
 Ct Tryz.prog 149 [str p_0, str dir_1] Mo.tt (Ow.emp) (X := Unit) (fun _ => .bool r) (fun _ => True) (fun _ => Mo.tt) (fun _ => Ow.emp) := by
 refine Ct.of Tryz.func149 rfl (by kernel_rfl) Tryz.ntmps149 (by simp) fun c => ?_
 unfold Sh.path_Under at hS
 refine Zq (Zr ?_)
 refine Za ?_
 refine Zl ?_
 refine Zq (Zq (Zr ?_))
 refine Zm ?_
 refine Zs ?_
 refine Zl ?_
 refine VC.cond_dec rfl (fun h6 => ?_) (fun h6 => ?_)
 ·
  replace hS := it_t h6 hS
  refine Zq (Zr ?_)
  refine Zm ?_
  refine VL.q (q_sne rfl rfl) (by decide) ?_
  refine Za ?_
  refine Zl ?_
  cases hS
  exact Ze
 replace hS := it_f h6 hS
 refine Zk ?_
 refine Zq (Zr ?_)
 refine Zm ?_
 refine VL.q (q_slen Tryz.underlying9 rfl) (by decide) ?_
 refine Zm ?_
 refine VL.q (q_slen Tryz.underlying9 rfl) (by decide) ?_
 obtain ⟨b13, hS⟩ := gd_s hS
 refine VL.q (q_add rfl rfl b13) (by decide) ?_
 refine VL.q (q_gtr rfl rfl) (by decide) ?_
 refine Zm ?_
 refine VL.split_dec 15 rfl (fun h15 => ?_) (fun h15 => ?_)
 ·
  replace hS := it_t h15 hS
  refine Zg ?_
  refine Zg ?_
  obtain ⟨b18, hS⟩ := gd_s hS
  obtain ⟨y18_1, ey18_1, hS⟩ := lt_s hS
  refine VL.gy rfl rfl (q_catE rfl rfl b18 ey18_1) (by decide) ?_
  obtain ⟨y19_2, ey19_2, hS⟩ := bd_s hS
  refine VL.gy rfl rfl (q_call (strings_HasPrefix_ct p_0 y18_1 ey19_2) rfl (fun _ _ => rfl)) (by decide) ?_
  refine Zt ?_
  refine Za ?_
  refine Zl ?_
  refine VC.keep [4] rfl ?_
  cases hS
  exact Ze
 replace hS := it_f h15 hS
 refine Zn ?_
 refine Zn ?_
 refine Zn ?_
 refine Zn ?_
 refine Zf ?_
 refine Za ?_
 refine Zl ?_
 refine VC.keep [4] rfl ?_
 cases hS
 exact Ze
theorem path_Clash_ct (a_0 : Str) (b_1 : Str) {r : Bool} (hS : Sh.path_Clash a_0 b_1 = some r) :
 Ct Tryz.prog 80 [str a_0, str b_1] Mo.tt (Ow.emp) (X := Unit) (fun _ => .bool r) (fun _ => True) (fun _ => Mo.tt) (fun _ => Ow.emp) := by
 refine Ct.of Tryz.func80 rfl (by kernel_rfl) Tryz.ntmps80 (by simp) fun c => ?_
 unfold Sh.path_Clash at hS
 refine Zq (Zr ?_)
 refine Za ?_
 refine Zl ?_
 refine Zq (Zr ?_)
 refine Zm ?_
 refine VL.q (q_sne rfl rfl) (by decide) ?_
 refine Zm ?_
 refine VL.split_ndec 7 rfl (fun h7 => ?_) (fun h7 => ?_)
 ·
  replace hS := it_f h7 hS
  refine Zg ?_
  refine VL.gy rfl rfl (q_sne rfl rfl) (by decide) ?_
  refine Zt ?_
  refine Zm ?_
  refine VL.split_ndec 11 rfl (fun h11 => ?_) (fun h11 => ?_)
  ·
   replace hS := it_f h11 hS
   refine Zg ?_
   refine Zg ?_
   obtain ⟨y14_1, ey14_1, hS⟩ := bd_s hS
   refine VL.gy rfl rfl (q_call (path_Under_ct a_0 b_1 ey14_1) rfl (fun _ _ => rfl)) (by decide) ?_
   refine Zg ?_
   refine VL.split 15 rfl (fun h15 => ?_) (fun h15 => ?_)
   ·
    replace hS := it_t h15 hS
    refine Zn ?_
    refine Zn ?_
    refine Zn ?_
    refine VL.gy rfl rfl (q_pick_t rfl rfl) (by decide) ?_
    refine Zt ?_
    refine Za ?_
    refine Zl ?_
    refine VC.keep [4] rfl ?_
    cases hS
    exact Ze
   replace hS := it_b h15 hS
   refine Zg ?_
   refine Zg ?_
   obtain ⟨y18_2, ey18_2, hS⟩ := bd_s hS
   refine VL.gy rfl rfl (q_call (path_Under_ct b_1 a_0 ey18_2) rfl (fun _ _ => rfl)) (by decide) ?_
   refine VL.gy rfl rfl (q_pick_f rfl rfl) (by decide) ?_
   refine Zt ?_
   refine Za ?_
   refine Zl ?_
   refine VC.keep [4] rfl ?_
   cases hS
   exact Ze
  replace hS := it_t h11 hS
  refine Zn ?_
  refine Zn ?_
  refine Zn ?_
  refine Zn ?_
  refine VL.gu rfl rfl (by decide) ?_
  refine VL.gu rfl rfl (by decide) ?_
  refine VL.gu rfl rfl (by decide) ?_
  refine Zn ?_
  refine Zf ?_
  refine Za ?_
  refine Zl ?_
  refine VC.keep [4] rfl ?_
  cases hS
  exact Ze
 replace hS := it_t h7 hS
 refine Zn ?_
 refine Zn ?_
 refine Zf ?_
 refine Zm ?_
 refine Zn ?_
 refine Zn ?_
 refine Zn ?_
 refine Zn ?_
 refine VL.gu rfl rfl (by decide) ?_
 refine VL.gu rfl rfl (by decide) ?_
 refine VL.gu rfl rfl (by decide) ?_
 refine Zn ?_
 refine Zf ?_
 refine Za ?_
 refine Zl ?_
 refine VC.keep [4] rfl ?_
 cases hS
 exact Ze
theorem index_gives_ct (x_0 : IndexEntry) (e_1 : IndexEntry) {r : Bool} (hS : Sh.index_gives x_0 e_1 = some r) :
 Ct Tryz.prog 153 [.agg #[str x_0.path, i64 x_0.stage, i64 x_0.mode, str x_0.data, i64 x_0.time, i64 x_0.size], .agg #[str e_1.path, i64 e_1.stage, i64 e_1.mode, str e_1.data, i64 e_1.time, i64 e_1.size]] Mo.tt (Ow.emp) (X := Unit) (fun _ => .bool r) (fun _ => True) (fun _ => Mo.tt) (fun _ => Ow.emp) := by
 refine Ct.of Tryz.func153 rfl (by kernel_rfl) Tryz.ntmps153 (by simp) fun c => ?_
 unfold Sh.index_gives at hS
 refine Zq (Zr ?_)
 refine VL.box (cs := [str x_0.path, i64 x_0.stage, i64 x_0.mode, str x_0.data, i64 x_0.time, i64 x_0.size]) rfl rfl (by decide) fun b2_1 => ?_
 refine VL.box (cs := [str e_1.path, i64 e_1.stage, i64 e_1.mode, str e_1.data, i64 e_1.time, i64 e_1.size]) rfl rfl (by decide) fun b3_2 => ?_
 refine Za ?_
 refine Zl ?_
 refine Zq (Zb (Zq (Zr ?_)))
 refine VL.q (q_field gfa149_0 rfl) (by decide) ?_
 refine VL.q (q_fe gone9 rfl rfl) (by decide) ?_
 refine VL.q (q_field gfa149_0 rfl) (by decide) ?_
 refine VL.q (q_fe gone9 rfl rfl) (by decide) ?_
 obtain ⟨y10_3, ey10_3, hS⟩ := bd_s hS
 refine VL.q (q_call (path_Clash_ct x_0.path e_1.path ey10_3) rfl (fun _ _ => rfl)) (by decide) ?_
 refine Za ?_
 refine Zl ?_
 refine VC.keep [2, 3, 5] rfl ?_
 refine VC.cond rfl (fun h5 => ?_) (fun h5 => ?_)
 ·
  replace hS := it_t h5 hS
  refine Zq (Zr ?_)
  refine Za ?_
  refine Zl ?_
  cases hS
  exact Ze
 replace hS := it_b h5 hS
 refine Zq (Zr ?_)
 refine VL.q (q_field gfa149_0 rfl) (by decide) ?_
 refine VL.q (q_fe gone9 rfl rfl) (by decide) ?_
 refine VL.q (q_field gfa149_0 rfl) (by decide) ?_
 refine VL.q (q_fe gone9 rfl rfl) (by decide) ?_
 refine VL.q (q_sne rfl rfl) (by decide) ?_
 refine Za ?_
 refine Zl ?_
 refine VC.cond_ndec rfl (fun h11 => ?_) (fun h11 => ?_)
 ·
  replace hS := it_f h11 hS
  refine Zq (Zr ?_)
  refine Za ?_
  refine Zl ?_
  cases hS
  exact Ze
 replace hS := it_t h11 hS
 refine Zk ?_
 refine Zq (Zq (Zr ?_))
 refine VL.q (q_field gfa149_1 rfl) (by decide) ?_
 refine VL.q (q_fe gone3 rfl rfl) (by decide) ?_
 refine Zl ?_
 refine VC.keep [2, 3, 18] rfl ?_
 refine Zb ?_
 refine VC.cutJ (S := Unit) (fun (_ : Unit) => ()) (fun (_ : Unit) => [(2, ptr b2_1 0), (3, ptr b3_2 0)]) (fun (_ : Unit) => Mo.tt) (fun (_ : Unit) => Ow.star (Blk b3_2 [str e_1.path, i64 e_1.stage, i64 e_1.mode, str e_1.data, i64 e_1.time, i64 e_1.size] 149) (Ow.star (Blk b2_1 [str x_0.path, i64 x_0.stage, i64 x_0.mode, str x_0.data, i64 x_0.time, i64 x_0.size] 149) (Ow.emp))) hS ?_ ?_
 ·
  clear hS
  intro k4 hS
  refine Zb (Zb (Zb (Zq (Zq (Zq (Zr ?_))))))
  refine VL.q (q_eql rfl rfl) (by decide) ?_
  refine Za ?_
  refine Zl ?_
  refine VC.cond_dec rfl (fun h19 => ?_) (fun h19 => ?_)
  ·
   replace hS := it_t h19 hS
   refine VC.exit_mt () [2, 3] (fun _ _ h => h) hS rfl
  replace hS := it_f h19 hS
  refine Zk ?_
  refine Zq (Zq (Zr ?_))
  refine VL.q (q_eql rfl rfl) (by decide) ?_
  refine Za ?_
  refine Zl ?_
  refine VC.cond_dec rfl (fun h21 => ?_) (fun h21 => ?_)
  ·
   replace hS := it_t h21 hS
   refine VC.exit_mt () [2, 3] (fun _ _ h => h) hS rfl
  replace hS := it_f h21 hS
  refine Zk ?_
  refine Zq (Zr ?_)
  refine VL.q (q_eql rfl rfl) (by decide) ?_
  refine Za ?_
  refine Zl ?_
  refine VC.cond_dec rfl (fun h23 => ?_) (fun h23 => ?_)
  ·
   replace hS := it_t h23 hS
   refine VC.exit_mt () [2, 3] (fun _ _ h => h) hS rfl
  replace hS := it_f h23 hS
  refine Zk ?_
  refine Zx ?_
  refine Zq (Zr ?_)
  refine Za ?_
  refine Zl ?_
  cases hS
  exact Ze
 clear hS
 rintro _ hS
 show VC _ _ _ _ _ [(2, ptr b2_1 0), (3, ptr b3_2 0)] (Mo.and Mo.tt _) (Ow.star (Blk b3_2 [str e_1.path, i64 e_1.stage, i64 e_1.mode, str e_1.data, i64 e_1.time, i64 e_1.size] 149) (Ow.star (Blk b2_1 [str x_0.path, i64 x_0.stage, i64 x_0.mode, str x_0.data, i64 x_0.time, i64 x_0.size] 149) (Ow.emp)))
 refine Zq (Zq (Zr ?_))
 refine VL.q (q_field gfa149_1 rfl) (by decide) ?_
 refine VL.q (q_fe gone3 rfl rfl) (by decide) ?_
 refine VL.q (q_eql rfl rfl) (by decide) ?_
 refine Zm ?_
 refine VL.split_dec 28 rfl (fun h28 => ?_) (fun h28 => ?_)
 ·
  replace hS := it_t h28 hS
  refine Zn ?_
  refine Zn ?_
  refine Zn ?_
  refine Zn ?_
  refine Zn ?_
  refine Zt ?_
  refine Za ?_
  refine Zl ?_
  refine VC.keep [4] rfl ?_
  cases hS
  exact Ze
 replace hS := it_f h28 hS
 refine VL.gy rfl rfl (q_field gfa149_1 rfl) (by decide) ?_
 refine VL.gy rfl rfl (q_fe gone3 rfl rfl) (by decide) ?_
 refine VL.gy rfl rfl (q_field gfa149_1 rfl) (by decide) ?_
 refine VL.gy rfl rfl (q_fe gone3 rfl rfl) (by decide) ?_
 refine VL.gy rfl rfl (q_eql rfl rfl) (by decide) ?_
 refine Zf ?_
 refine Za ?_
 refine Zl ?_
 refine VC.keep [4] rfl ?_
 cases hS
 exact Ze
theorem index_Put_1_ct (x_0 : IndexEntry) (a_1_b : Nat) (a_1 : IndexEntry) {r : Bool} (hS : Sh.index_Put_1 x_0 a_1 = some r) :
 Ct Tryz.prog 152 [.agg #[str x_0.path, i64 x_0.stage, i64 x_0.mode, str x_0.data, i64 x_0.time, i64 x_0.size], ptr a_1_b 0] (Cells a_1_b 0 [str a_1.path, i64 a_1.stage, i64 a_1.mode, str a_1.data, i64 a_1.time, i64 a_1.size]) (Ow.emp) (X := Unit) (fun _ => .bool r) (fun _ => True) (fun _ => Mo.tt) (fun _ => Ow.emp) := by
 refine Ct.of Tryz.func152 rfl (by kernel_rfl) Tryz.ntmps152 (by simp) fun c => ?_
 unfold Sh.index_Put_1 at hS
 refine Zq (Zr ?_)
 refine VL.box (cs := [str x_0.path, i64 x_0.stage, i64 x_0.mode, str x_0.data, i64 x_0.time, i64 x_0.size]) rfl rfl (by decide) fun b2_1 => ?_
 refine Za ?_
 refine Zl ?_
 refine Zq (Zr ?_)
 refine VL.q (q_fes gagg149 rfl rfl) (by decide) ?_
 refine VL.q (q_fms gagg149 rfl rfl) (by decide) ?_
 obtain ⟨y6_2, ey6_2, hS⟩ := bd_s hS
 refine VL.q (q_call (index_gives_ct x_0 a_1 ey6_2) rfl (fun _ _ => rfl)) (by decide) ?_
 refine Za ?_
 refine Zl ?_
 cases hS
 exact Ze
theorem slices_IndexFunc_index_Entry_index_Entry_ct (s_0 : Sv IndexEntry) (f_1_0_b : Nat) (f_1_0 : IndexEntry) {r : Int} (hS : Sh.slices_IndexFunc_index_Entry_index_Entry s_0.l f_1_0 = some r) :
 Ct Tryz.prog 198 [s_0.val, .func (.func 152) #[] #[ptr f_1_0_b 0]] (s_0.ok.and (Cells f_1_0_b 0 [str f_1_0.path, i64 f_1_0.stage, i64 f_1_0.mode, str f_1_0.data, i64 f_1_0.time, i64 f_1_0.size])) (Ow.emp) (X := Unit) (fun _ => i64 r) (fun _ => True) (fun _ => Mo.tt) (fun _ => Ow.emp) := by
 refine Ct.of Tryz.func198 rfl (by kernel_rfl) Tryz.ntmps198 (by simp) fun c => ?_
 unfold Sh.slices_IndexFunc_index_Entry_index_Entry at hS
 refine Zq (Zr ?_)
 refine Za ?_
 refine Zl ?_
 refine Zq (Zq (Zr ?_))
 refine Zm ?_
 refine VL.q (q_ln (s := s_0) Tryz.underlying66 rfl) (by decide) ?_
 refine Zm ?_
 refine Zl ?_
 refine Zb ?_
 refine VC.iter (S := Int) (fun (x8_1 : Int) => x8_1) (fun (x8_1 : Int) => [(0, s_0.val), (1, .func (.func 152) #[] #[ptr f_1_0_b 0]), (7, i64 (s_0.l.length : Int)), (8, i64 x8_1)]) (fun (x8_1 : Int) => Mo.tt) (fun (x8_1 : Int) => Ow.emp) 0 [0, 1, 7, 8] hS rfl ?_
 clear hS
 rintro x8_1 m1 y1 hS hK1
 show VC _ _ _ _ _ [(0, s_0.val), (1, .func (.func 152) #[] #[ptr f_1_0_b 0]), (7, i64 (s_0.l.length : Int)), (8, i64 x8_1)] (Mo.and Mo.tt _) (Ow.emp)
 refine Zq (Zr ?_)
 refine VL.q (q_lss rfl rfl) (by decide) ?_
 refine Zl ?_
 refine Zq ?_
 refine VC.cond_dec rfl (fun h9 => ?_) (fun h9 => ?_)
 ·
  replace hS := it_t h9 hS
  refine Zk ?_
  refine Zq (Zb (Zq (Zr ?_)))
  refine Zm ?_
  refine Za ?_
  refine Zl ?_
  refine Zq (Zr ?_)
  refine Zm ?_
  refine Zm ?_
  refine Zm ?_
  obtain ⟨z14_2, nz14_2, hz14_2, hS⟩ := at_s hS
  refine VL.q (q_ixm (s := s_0) Tryz.underlying66 gsz149 rfl rfl nz14_2 (lt_of_get nz14_2 hz14_2)) (by decide) ?_
  refine VL.q (q_els (s := s_0) gagg149 rfl rfl hz14_2) (by decide) ?_
  obtain ⟨y16_3, ey16_3, hS⟩ := bd_s hS
  refine VL.q (q_callVC (vs := [.agg #[str z14_2.path, i64 z14_2.stage, i64 z14_2.mode, str z14_2.data, i64 z14_2.time, i64 z14_2.size]]) (caps := [ptr f_1_0_b 0]) (index_Put_1_ct z14_2 f_1_0_b f_1_0 ey16_3) rfl rfl (fun _ _ => rfl)) (by decide) ?_
  refine Zl ?_
  refine VC.keep [0, 1, 7, 8, 5, 16] rfl ?_
  refine VC.cond rfl (fun h16 => ?_) (fun h16 => ?_)
  ·
   replace hS := it_t h16 hS
   refine Zq (Zr ?_)
   refine Zm ?_
   refine Za ?_
   refine Zl ?_
   replace hS := up2 hS hK1
   cases hS
   exact Ze
  replace hS := it_b h16 hS
  refine Zk ?_
  refine Zr ?_
  obtain ⟨b18, hS⟩ := gd_s hS
  refine VL.q (q_add rfl rfl b18) (by decide) ?_
  refine Zm ?_
  refine VL.rnd (x8_1 + 1) [0, 1, 7, 8] (fun _ _ h => h) (go2 hS hK1) rfl
 replace hS := it_f h9 hS
 replace hS := up2 hS hK1
 refine Zx ?_
 refine Zq (Zr ?_)
 refine Za ?_
 refine Zl ?_
 cases hS
 exact Ze
theorem slices_DeleteFunc_index_Entry_index_Entry_ct (s_0 : Sv IndexEntry) (del_1_0_b : Nat) (del_1_0 : IndexEntry) {r : List IndexEntry} (hS : Sh.slices_DeleteFunc_index_Entry_index_Entry s_0.l del_1_0 = some r) :
 Ct Tryz.prog 150 [s_0.val, .func (.func 152) #[] #[ptr del_1_0_b 0]] Mo.tt (Ow.star (Sv.own s_0 149) (Blk del_1_0_b [str del_1_0.path, i64 del_1_0.stage, i64 del_1_0.mode, str del_1_0.data, i64 del_1_0.time, i64 del_1_0.size] 149)) (X := Sv IndexEntry) (fun x => x.val) (fun x => r = x.l) (fun x => Mo.tt) (fun x => Ow.star (Sv.own x 149) (Blk del_1_0_b [str del_1_0.path, i64 del_1_0.stage, i64 del_1_0.mode, str del_1_0.data, i64 del_1_0.time, i64 del_1_0.size] 149)) := by
 refine Ct.of Tryz.func150 rfl (by kernel_rfl) Tryz.ntmps150 (by simp) fun c => ?_
 unfold Sh.slices_DeleteFunc_index_Entry_index_Entry at hS
 refine Zq (Zr ?_)
 refine Za ?_
 refine Zl ?_
 refine Zq (Zr ?_)
 refine Zm ?_
 refine Zm ?_
 obtain ⟨y10_1, ey10_1, hS⟩ := bd_s hS
 refine VL.q (q_callR (slices_IndexFunc_index_Entry_index_Entry_ct s_0 del_1_0_b del_1_0 ey10_1) rfl (fun _ _ => rfl)) (by decide) ?_
 refine Za ?_
 refine Zl ?_
 refine Zq (Zq (Zr ?_))
 refine Zm ?_
 refine VL.q (q_eql rfl rfl) (by decide) ?_
 refine Zl ?_
 refine VC.cond_dec rfl (fun h12 => ?_) (fun h12 => ?_)
 ·
  replace hS := it_t h12 hS
  refine Zq (Zr ?_)
  refine Zm ?_
  refine Za ?_
  refine Zl ?_
  cases hS
  exact VC.ret (fin1 (.inr rfl) rfl rfl s_0 rfl rfl (by (try dsimp only); exact InM.out) (by (try dsimp only); exact EntO.out))
 replace hS := it_f h12 hS
 refine Zk ?_
 refine Zq (Zq (Zr ?_))
 refine Zm ?_
 obtain ⟨b15, hS⟩ := gd_s hS
 refine VL.q (q_add rfl rfl b15) (by decide) ?_
 refine Za ?_
 refine Zl ?_
 refine VC.keep [0, 1, 5, 6] rfl ?_
 refine Zb ?_
 refine VC.iter (S := Sv IndexEntry × Int × Int) (fun sg => (sg.1.l, sg.2.1, sg.2.2)) (fun sg => [(0, sg.1.val), (1, .func (.func 152) #[] #[ptr del_1_0_b 0]), (5, i64 sg.2.1), (6, i64 sg.2.2)]) (fun sg => Mo.tt) (fun sg => Ow.star (Blk del_1_0_b [str del_1_0.path, i64 del_1_0.stage, i64 del_1_0.mode, str del_1_0.data, i64 del_1_0.time, i64 del_1_0.size] 149) (Ow.star (Sv.own sg.1 149) (Ow.emp))) (s_0, y10_1, (y10_1 + 1)) [0, 1, 5, 6] hS rfl ?_
 clear hS
 rintro ⟨s0_2, i5_3, j6_4⟩ m1 y1 hS hK1
 show VC _ _ _ _ _ [(0, s0_2.val), (1, .func (.func 152) #[] #[ptr del_1_0_b 0]), (5, i64 i5_3), (6, i64 j6_4)] (Mo.and Mo.tt _) (Ow.star (Blk del_1_0_b [str del_1_0.path, i64 del_1_0.stage, i64 del_1_0.mode, str del_1_0.data, i64 del_1_0.time, i64 del_1_0.size] 149) (Ow.star (Sv.own s0_2 149) (Ow.emp)))
 refine Zq (Zq (Zr ?_))
 refine Zm ?_
 refine Zm ?_
 refine VL.q (q_ln (s := s0_2) Tryz.underlying66 rfl) (by decide) ?_
 refine VL.q (q_lss rfl rfl) (by decide) ?_
 refine Zl ?_
 refine VC.cond_dec rfl (fun h19 => ?_) (fun h19 => ?_)
 ·
  replace hS := it_t h19 hS
  refine Zk ?_
  refine VC.cutJ (S := Sv IndexEntry × Int) (fun sg => (sg.1.l, sg.2)) (fun sg => [(0, sg.1.val), (1, .func (.func 152) #[] #[ptr del_1_0_b 0]), (5, i64 sg.2), (6, i64 j6_4)]) (fun sg => Mo.tt) (fun sg => Ow.star (Blk del_1_0_b [str del_1_0.path, i64 del_1_0.stage, i64 del_1_0.mode, str del_1_0.data, i64 del_1_0.time, i64 del_1_0.size] 149) (Ow.star (Sv.own sg.1 149) (Ow.emp))) hS ?_ ?_
  ·
   clear hS
   intro k7 hS
   refine Zb (Zq (Zr ?_))
   refine Zm ?_
   refine Zm ?_
   obtain ⟨z24_8, nz24_8, hz24_8, hS⟩ := at_s hS
   refine VL.q (q_ixo (s := s0_2) Tryz.underlying66 gsz149 rfl rfl nz24_8 (lt_of_get nz24_8 hz24_8)) (by decide) ?_
   refine VL.q (q_elso (s := s0_2) gagg149 rfl rfl hz24_8) (by decide) ?_
   refine VL.alloc (cs := [str [], i64 0, i64 0, str [], i64 0, i64 0]) (by kernel_rfl) (by decide) fun b7_9 => ?_
   refine VL.store (vc := [str z24_8.path, i64 z24_8.stage, i64 z24_8.mode, str z24_8.data, i64 z24_8.time, i64 z24_8.size]) (cs' := [str z24_8.path, i64 z24_8.stage, i64 z24_8.mode, str z24_8.data, i64 z24_8.time, i64 z24_8.size]) rfl rfl rfl gsz149 rfl rfl (Nat.le_of_ble_eq_true rfl) rfl ?_
   refine Zl ?_
   refine VC.keep [0, 1, 5, 6, 7] rfl ?_
   refine Zq (Zr ?_)
   refine Zm ?_
   refine VL.q (q_fes gagg149 rfl rfl) (by decide) ?_
   obtain ⟨y28_10, ey28_10, hS⟩ := bd_s hS
   refine VL.q (q_callVC (vs := [.agg #[str z24_8.path, i64 z24_8.stage, i64 z24_8.mode, str z24_8.data, i64 z24_8.time, i64 z24_8.size]]) (caps := [ptr del_1_0_b 0]) (index_Put_1_ct z24_8 del_1_0_b del_1_0 ey28_10) rfl rfl (fun _ _ => rfl)) (by decide) ?_
   refine VL.q (q_not rfl) (by decide) ?_
   refine Zl ?_
   refine VC.cond rfl (fun h29 => ?_) (fun h29 => ?_)
   ·
    replace hS := it_t h29 hS
    refine Zq (Zr ?_)
    refine Zm ?_
    refine Zm ?_
    refine VL.q (q_fes gagg149 rfl rfl) (by decide) ?_
    obtain ⟨z33_11, nz33_11, hz33_11, hS⟩ := at_s hS
    refine VL.q (q_ixo (s := s0_2) Tryz.underlying66 gsz149 rfl rfl nz33_11 (lt_of_get nz33_11 hz33_11)) (by decide) ?_
    refine VL.storeE (s := s0_2) (T := 149) (j := 0) (vc := [str z24_8.path, i64 z24_8.stage, i64 z24_8.mode, str z24_8.data, i64 z24_8.time, i64 z24_8.size]) (⟨z24_8.path, z24_8.stage, z24_8.mode, z24_8.data, z24_8.time, z24_8.size⟩ : IndexEntry) (by decide) rfl rfl hz33_11 rfl gsz149 rfl rfl (Nat.le_of_ble_eq_true rfl) rfl (fun w12 hw12 haw12 hcw12 hvw12 hbw12 how12 => ?_)
    rw [← hvw12]
    replace hS := lt_to hw12 hS
    refine Zl ?_
    refine VC.keep [0, 1, 5, 6] rfl ?_
    refine Zr ?_
    refine Zm ?_
    obtain ⟨b35, hS⟩ := gd_s hS
    refine VL.q (q_add rfl rfl b35) (by decide) ?_
    refine Za ?_
    refine VL.mt (w12, (i5_3 + 1)) [0, 1, 5, 6] (fun _ _ h => h) hS rfl
   replace hS := it_b h29 hS
   refine VC.skip_mt (s0_2, i5_3) [0, 1, 5, 6] (fun _ _ h => h) hS rfl
  clear hS
  rintro ⟨s0_5, i5_6⟩ hS
  show VC _ _ _ _ _ [(0, s0_5.val), (1, .func (.func 152) #[] #[ptr del_1_0_b 0]), (5, i64 i5_6), (6, i64 j6_4)] (Mo.and Mo.tt _) (Ow.star (Blk del_1_0_b [str del_1_0.path, i64 del_1_0.stage, i64 del_1_0.mode, str del_1_0.data, i64 del_1_0.time, i64 del_1_0.size] 149) (Ow.star (Sv.own s0_5 149) (Ow.emp)))
  refine Zr ?_
  refine Zm ?_
  obtain ⟨b21, hS⟩ := gd_s hS
  refine VL.q (q_add rfl rfl b21) (by decide) ?_
  refine Za ?_
  refine VL.rnd (s0_5, i5_6, (j6_4 + 1)) [0, 1, 5, 6] (fun _ _ h => h) (go2 hS hK1) rfl
 replace hS := it_f h19 hS
 replace hS := up2 hS hK1
 refine Zx ?_
 refine Zq (Zr ?_)
 refine Zm ?_
 refine Zm ?_
 obtain ⟨b38, hS⟩ := gd_s hS
 refine VL.fits (s := s0_2) (e := 149) Fo.out fun f38_14 => ?_
 refine VL.q (q_subv (s := s0_2) Tryz.underlying66 gsz149 rfl rfl b38.1 b38.2 f38_14) (by decide) ?_
 refine VL.clrN (s := s0_2) (i := i5_3.toNat) (.agg #[str [], i64 0, i64 0, str [], i64 0, i64 0]) Tryz.underlying66 gzv149 rfl rfl rfl (by have := b38; dsimp only at this ⊢; omega) Fo.out fun ss3_15 hss3_15 vss3_15 => ?_
 replace hS := lt_to hss3_15 hS
 refine Zl ?_
 refine VC.keep [0, 5] rfl ?_
 refine Zq (Zr ?_)
 refine Zm ?_
 refine Zm ?_
 refine VL.q (q_cutO (s := s0_2) (q := ss3_15) Tryz.underlying66 gsz149 rfl rfl b38.1 b38.2 f38_14 vss3_15) (by decide) ?_
 refine Za ?_
 refine Zl ?_
 cases hS
 exact VC.ret (fin1 (.inr rfl) rfl rfl ss3_15 rfl rfl (by (try dsimp only); exact InM.out) (by (try dsimp only); exact EntO.out))
theorem cmp_isNaN_string_ct (x_0 : Str) {r : Bool} (hS : Sh.cmp_isNaN_string x_0 = some r) :
 Ct Tryz.prog 223 [str x_0] Mo.tt (Ow.emp) (X := Unit) (fun _ => .bool r) (fun _ => True) (fun _ => Mo.tt) (fun _ => Ow.emp) := by
 refine Ct.of Tryz.func223 rfl (by kernel_rfl) Tryz.ntmps223 (by simp) fun c => ?_
 unfold Sh.cmp_isNaN_string at hS
 refine Zq (Zr ?_)
 refine Za ?_
 refine Zl ?_
 refine Zq (Zr ?_)
 refine Zm ?_
 refine Zm ?_
 refine VL.q (q_sne rfl rfl) (by decide) ?_
 refine Za ?_
 refine Zl ?_
 cases hS
 exact Ze
theorem cmp_Compare_string_ct (x_0 : Str) (y_1 : Str) {r : Int} (hS : Sh.cmp_Compare_string x_0 y_1 = some r) :
 Ct Tryz.prog 179 [str x_0, str y_1] Mo.tt (Ow.emp) (X := Unit) (fun _ => i64 r) (fun _ => True) (fun _ => Mo.tt) (fun _ => Ow.emp) := by
 refine Ct.of Tryz.func179 rfl (by kernel_rfl) Tryz.ntmps179 (by simp) fun c => ?_
 unfold Sh.cmp_Compare_string at hS
 refine Zq (Zr ?_)
 refine Za ?_
 refine Zl ?_
 refine Zq (Zr ?_)
 refine Zm ?_
 obtain ⟨y8_1, ey8_1, hS⟩ := bd_s hS
 refine VL.q (q_call (cmp_isNaN_string_ct x_0 ey8_1) rfl (fun _ _ => rfl)) (by decide) ?_
 refine Za ?_
 refine Zl ?_
 refine Zq (Zr ?_)
 refine Zm ?_
 obtain ⟨y10_2, ey10_2, hS⟩ := bd_s hS
 refine VL.q (q_call (cmp_isNaN_string_ct y_1 ey10_2) rfl (fun _ _ => rfl)) (by decide) ?_
 refine Za ?_
 refine Zl ?_
 refine Zq (Zq (Zr ?_))
 refine Zm ?_
 refine Zl ?_
 refine VC.cond rfl (fun h11 => ?_) (fun h11 => ?_)
 ·
  replace hS := it_t h11 hS
  refine Zq (Zq (Zr ?_))
  refine Zm ?_
  refine Zl ?_
  refine VC.keep [12] rfl ?_
  refine VC.cond rfl (fun h12 => ?_) (fun h12 => ?_)
  ·
   replace hS := it_t h12 hS
   refine Zq (Zr ?_)
   refine Za ?_
   refine Zl ?_
   cases hS
   exact Ze
  replace hS := it_b h12 hS
  refine Zk ?_
  refine Zq (Zr ?_)
  refine Za ?_
  refine Zl ?_
  cases hS
  exact Ze
 replace hS := it_b h11 hS
 refine Zk ?_
 refine Zq (Zq (Zr ?_))
 refine Zm ?_
 refine Zl ?_
 refine VC.keep [0, 1, 13] rfl ?_
 refine VC.cond rfl (fun h13 => ?_) (fun h13 => ?_)
 ·
  replace hS := it_t h13 hS
  refine Zq (Zr ?_)
  refine Za ?_
  refine Zl ?_
  cases hS
  exact Ze
 replace hS := it_b h13 hS
 refine Zk ?_
 refine Zq (Zq (Zr ?_))
 refine Zm ?_
 refine Zm ?_
 refine VL.q (q_slss rfl rfl) (by decide) ?_
 refine Zl ?_
 refine VC.cond rfl (fun h16 => ?_) (fun h16 => ?_)
 ·
  replace hS := it_t h16 hS
  refine Zq (Zr ?_)
  refine Za ?_
  refine Zl ?_
  cases hS
  exact Ze
 replace hS := it_b h16 hS
 refine Zk ?_
 refine Zq (Zq (Zr ?_))
 refine Zm ?_
 refine Zm ?_
 refine VL.q (q_sgtr rfl rfl) (by decide) ?_
 refine Zl ?_
 refine VC.cond rfl (fun h19 => ?_) (fun h19 => ?_)
 ·
  replace hS := it_t h19 hS
  refine Zq (Zr ?_)
  refine Za ?_
  refine Zl ?_
  cases hS
  exact Ze
 replace hS := it_b h19 hS
 refine Zk ?_
 refine Zq (Zr ?_)
 refine Za ?_
 refine Zl ?_
 cases hS
 exact Ze
theorem path_Compare_ct (a_0 : Str) (b_1 : Str) {r : Int} (hS : Sh.path_Compare a_0 b_1 = some r) :
 Ct Tryz.prog 123 [str a_0, str b_1] Mo.tt (Ow.emp) (X := Unit) (fun _ => i64 r) (fun _ => True) (fun _ => Mo.tt) (fun _ => Ow.emp) := by
 refine Ct.of Tryz.func123 rfl (by kernel_rfl) Tryz.ntmps123 (by simp) fun c => ?_
 unfold Sh.path_Compare at hS
 refine Zq (Zr ?_)
 refine Za ?_
 refine Zl ?_
 refine Zq (Zr ?_)
 refine Zm ?_
 refine Zm ?_
 obtain ⟨y7_1, ey7_1, hS⟩ := bd_s hS
 refine VL.q (q_call (cmp_Compare_string_ct a_0 b_1 ey7_1) rfl (fun _ _ => rfl)) (by decide) ?_
 refine Za ?_
 refine Zl ?_
 cases hS
 exact Ze
theorem cmp_isNaN_int_ct (x_0 : Int) {r : Bool} (hS : Sh.cmp_isNaN_int x_0 = some r) :
 Ct Tryz.prog 239 [i64 x_0] Mo.tt (Ow.emp) (X := Unit) (fun _ => .bool r) (fun _ => True) (fun _ => Mo.tt) (fun _ => Ow.emp) := by
 refine Ct.of Tryz.func239 rfl (by kernel_rfl) Tryz.ntmps239 (by simp) fun c => ?_
 unfold Sh.cmp_isNaN_int at hS
 refine Zq (Zr ?_)
 refine Za ?_
 refine Zl ?_
 refine Zq (Zr ?_)
 refine Zm ?_
 refine Zm ?_
 refine VL.q (q_neq rfl rfl) (by decide) ?_
 refine Za ?_
 refine Zl ?_
 cases hS
 exact Ze
theorem cmp_Compare_int_ct (x_0 : Int) (y_1 : Int) {r : Int} (hS : Sh.cmp_Compare_int x_0 y_1 = some r) :
 Ct Tryz.prog 200 [i64 x_0, i64 y_1] Mo.tt (Ow.emp) (X := Unit) (fun _ => i64 r) (fun _ => True) (fun _ => Mo.tt) (fun _ => Ow.emp) := by
 refine Ct.of Tryz.func200 rfl (by kernel_rfl) Tryz.ntmps200 (by simp) fun c => ?_
 unfold Sh.cmp_Compare_int at hS
 refine Zq (Zr ?_)
 refine Za ?_
 refine Zl ?_
 refine Zq (Zr ?_)
 refine Zm ?_
 obtain ⟨y8_1, ey8_1, hS⟩ := bd_s hS
 refine VL.q (q_call (cmp_isNaN_int_ct x_0 ey8_1) rfl (fun _ _ => rfl)) (by decide) ?_
 refine Za ?_
 refine Zl ?_
 refine Zq (Zr ?_)
 refine Zm ?_
 obtain ⟨y10_2, ey10_2, hS⟩ := bd_s hS
 refine VL.q (q_call (cmp_isNaN_int_ct y_1 ey10_2) rfl (fun _ _ => rfl)) (by decide) ?_
 refine Za ?_
 refine Zl ?_
 refine Zq (Zq (Zr ?_))
 refine Zm ?_
 refine Zl ?_
 refine VC.cond rfl (fun h11 => ?_) (fun h11 => ?_)
 ·
  replace hS := it_t h11 hS
  refine Zq (Zq (Zr ?_))
  refine Zm ?_
  refine Zl ?_
  refine VC.keep [12] rfl ?_
  refine VC.cond rfl (fun h12 => ?_) (fun h12 => ?_)
  ·
   replace hS := it_t h12 hS
   refine Zq (Zr ?_)
   refine Za ?_
   refine Zl ?_
   cases hS
   exact Ze
  replace hS := it_b h12 hS
  refine Zk ?_
  refine Zq (Zr ?_)
  refine Za ?_
  refine Zl ?_
  cases hS
  exact Ze
 replace hS := it_b h11 hS
 refine Zk ?_
 refine Zq (Zq (Zr ?_))
 refine Zm ?_
 refine Zl ?_
 refine VC.keep [0, 1, 13] rfl ?_
 refine VC.cond rfl (fun h13 => ?_) (fun h13 => ?_)
 ·
  replace hS := it_t h13 hS
  refine Zq (Zr ?_)
  refine Za ?_
  refine Zl ?_
  cases hS
  exact Ze
 replace hS := it_b h13 hS
 refine Zk ?_
 refine Zq (Zq (Zr ?_))
 refine Zm ?_
 refine Zm ?_
 refine VL.q (q_lss rfl rfl) (by decide) ?_
 refine Zl ?_
 refine VC.cond_dec rfl (fun h16 => ?_) (fun h16 => ?_)
 ·
  replace hS := it_t h16 hS
  refine Zq (Zr ?_)
  refine Za ?_
  refine Zl ?_
  cases hS
  exact Ze
 replace hS := it_f h16 hS
 refine Zk ?_
 refine Zq (Zq (Zr ?_))
 refine Zm ?_
 refine Zm ?_
 refine VL.q (q_gtr rfl rfl) (by decide) ?_
 refine Zl ?_
 refine VC.cond_dec rfl (fun h19 => ?_) (fun h19 => ?_)
 ·
  replace hS := it_t h19 hS
  refine Zq (Zr ?_)
  refine Za ?_
  refine Zl ?_
  cases hS
  exact Ze
 replace hS := it_f h19 hS
 refine Zk ?_
 refine Zq (Zr ?_)
 refine Za ?_
 refine Zl ?_
 cases hS
 exact Ze
theorem cmp_Or_int_ct (vals_0 : Sv Int) {r : Int} (hS : Sh.cmp_Or_int vals_0.l = some r) :
 Ct Tryz.prog 199 [vals_0.val] vals_0.ok (Ow.emp) (X := Unit) (fun _ => i64 r) (fun _ => True) (fun _ => Mo.tt) (fun _ => Ow.emp) := by
 refine Ct.of Tryz.func199 rfl (by kernel_rfl) Tryz.ntmps199 (by simp) fun c => ?_
 unfold Sh.cmp_Or_int at hS
 refine Zq (Zr ?_)
 refine Za ?_
 refine Zl ?_
 refine Zq (Zr ?_)
 refine Za ?_
 refine Zl ?_
 refine Zq (Zq (Zr ?_))
 refine Zm ?_
 refine VL.q (q_ln (s := vals_0) Tryz.underlying26 rfl) (by decide) ?_
 refine Zm ?_
 refine Zl ?_
 refine Zb ?_
 refine VC.iter (S := Int) (fun (x8_1 : Int) => x8_1) (fun (x8_1 : Int) => [(3, i64 0), (6, vals_0.val), (7, i64 (vals_0.l.length : Int)), (8, i64 x8_1)]) (fun (x8_1 : Int) => Mo.tt) (fun (x8_1 : Int) => Ow.emp) 0 [3, 6, 7, 8] hS rfl ?_
 clear hS
 rintro x8_1 m1 y1 hS hK1
 show VC _ _ _ _ _ [(3, i64 0), (6, vals_0.val), (7, i64 (vals_0.l.length : Int)), (8, i64 x8_1)] (Mo.and Mo.tt _) (Ow.emp)
 refine Zq (Zr ?_)
 refine VL.q (q_lss rfl rfl) (by decide) ?_
 refine Zl ?_
 refine Zq ?_
 refine VC.cond_dec rfl (fun h9 => ?_) (fun h9 => ?_)
 ·
  replace hS := it_t h9 hS
  refine Zk ?_
  refine Zq (Zb (Zq (Zr ?_)))
  obtain ⟨z10_2, nz10_2, hz10_2, hS⟩ := at_s hS
  refine VL.q (q_ixm (s := vals_0) Tryz.underlying26 gsz3 rfl rfl nz10_2 (lt_of_get nz10_2 hz10_2)) (by decide) ?_
  refine VL.q (q_el (s := vals_0) gone3 rfl hz10_2 rfl) (by decide) ?_
  refine Za ?_
  refine Zl ?_
  refine Zq (Zr ?_)
  refine Zm ?_
  refine Zm ?_
  refine VL.q (q_neq rfl rfl) (by decide) ?_
  refine Zl ?_
  refine VC.cond_ndec rfl (fun h14 => ?_) (fun h14 => ?_)
  ·
   replace hS := it_f h14 hS
   refine Zq (Zr ?_)
   refine Zm ?_
   refine Za ?_
   refine Zl ?_
   refine VC.keep [2] rfl ?_
   replace hS := up2 hS hK1
   cases hS
   exact Ze
  replace hS := it_t h14 hS
  refine Zk ?_
  refine VC.keep [3, 6, 7, 8] rfl ?_
  refine Zr ?_
  obtain ⟨b16, hS⟩ := gd_s hS
  refine VL.q (q_add rfl rfl b16) (by decide) ?_
  refine Zm ?_
  refine VL.rnd (x8_1 + 1) [3, 6, 7, 8] (fun _ _ h => h) (go2 hS hK1) rfl
 replace hS := it_f h9 hS
 replace hS := up2 hS hK1
 refine Zx ?_
 refine Zq (Zr ?_)
 refine Zm ?_
 refine Za ?_
 refine Zl ?_
 cases hS
 exact Ze
theorem index_compare_ct (a_0 : IndexEntry) (b_1 : IndexEntry) {r : Int} (hS : Sh.index_compare a_0 b_1 = some r) :
 Ct Tryz.prog 154 [.agg #[str a_0.path, i64 a_0.stage, i64 a_0.mode, str a_0.data, i64 a_0.time, i64 a_0.size], .agg #[str b_1.path, i64 b_1.stage, i64 b_1.mode, str b_1.data, i64 b_1.time, i64 b_1.size]] Mo.tt (Ow.emp) (X := Unit) (fun _ => i64 r) (fun _ => True) (fun _ => Mo.tt) (fun _ => Ow.emp) := by
 refine Ct.of Tryz.func154 rfl (by kernel_rfl) Tryz.ntmps154 (by simp) fun c => ?_
 unfold Sh.index_compare at hS
 refine Zq (Zr ?_)
 refine VL.box (cs := [str a_0.path, i64 a_0.stage, i64 a_0.mode, str a_0.data, i64 a_0.time, i64 a_0.size]) rfl rfl (by decide) fun b2_1 => ?_
 refine VL.box (cs := [str b_1.path, i64 b_1.stage, i64 b_1.mode, str b_1.data, i64 b_1.time, i64 b_1.size]) rfl rfl (by decide) fun b3_2 => ?_
 refine Za ?_
 refine Zl ?_
 refine Zq ?_
 refine VC.draw [(0, true), (1, true), (2, true), (3, true), (4, true), (5, true), (6, true), (7, true), (8, true), (9, true), (10, false), (11, true), (12, true)] mixed (by kernel_rfl) (by kernel_rfl) (by kernel_rfl) ?_
 refine VD.q rfl (q_field gfa149_0 rfl) (by decide) ?_
 refine VD.q rfl (q_fe gone9 rfl rfl) (by decide) ?_
 refine VD.q rfl (q_field gfa149_0 rfl) (by decide) ?_
 refine VD.q rfl (q_fe gone9 rfl rfl) (by decide) ?_
 obtain ⟨y9_3, ey9_3, hS⟩ := bd_s hS
 refine VD.q rfl (q_call (path_Compare_ct a_0.path b_1.path ey9_3) rfl (fun _ _ => rfl)) (by decide) ?_
 refine VD.q rfl (q_field gfa149_1 rfl) (by decide) ?_
 refine VD.q rfl (q_fe gone3 rfl rfl) (by decide) ?_
 refine VD.q rfl (q_field gfa149_1 rfl) (by decide) ?_
 refine VD.q rfl (q_fe gone3 rfl rfl) (by decide) ?_
 obtain ⟨y14_4, ey14_4, hS⟩ := bd_s hS
 refine VD.q rfl (q_call (cmp_Compare_int_ct a_0.stage b_1.stage ey14_4) rfl (fun _ _ => rfl)) (by decide) ?_
 refine VD.one rfl ?_
 refine VL.lit (α := Int) (xs := [.tmp 9, .tmp 14]) (vs := [i64 y9_3, i64 y14_4]) [y9_3, y14_4] Tryz.underlying26 glit3 (by decide) rfl rfl rfl rfl (by decide) (fun _ _ _ _ => trivial) (by decide) (fun s15_5 hs15_5 => ?_) (by decide)
 replace hS := lt_to hs15_5 hS
 refine VL.back (D' := []) (by kernel_rfl) (Pend.nil) ?_
 obtain ⟨y16_7, ey16_7, hS⟩ := bd_s hS
 refine VD.q rfl (q_call (cmp_Or_int_ct s15_5 ey16_7) rfl (fun _ _ => rfl)) (by decide) ?_
 refine VD.q rfl (q_assign rfl) (by decide) ?_
 refine VD.to (fun _ _ h => h) ?_
 refine VC.keep [4] rfl ?_
 cases hS
 exact Ze
theorem insert149_ct (s v : Sv IndexEntry) (i : Int) (hi : 0 ≤ i ∧ i ≤ (s.l.length : Int)) (hv : v.l ≠ []) (hb : s.l.length + v.l.length ≤ 4294967296) : Ct Tryz.prog 155 [s.val, i64 i, v.val] Mo.tt (Ow.star (s.own 149) (v.own 149)) (X := Sv IndexEntry) (fun q => q.val) (fun q => q.l = s.l.take i.toNat ++ v.l ++ s.l.drop i.toNat) (fun _ => Mo.tt) (fun q => q.own 149) := by
 refine Ct.of Tryz.func155 rfl (by kernel_rfl) Tryz.ntmps155 (by simp) fun c => ?_
 have hvp : 0 < v.l.length := List.length_pos_iff.2 hv
 have hK : Dat.sz IndexEntry = 6 := rfl
 refine Zq (Zr ?_)
 refine Za ?_
 refine Zl ?_
 refine Zq (Zr ?_)
 refine Zm ?_
 refine Zm ?_
 refine VL.fits (s := s) (e := 149) Fo.out fun hf => ?_
 refine VL.q (q_subv (s := s) Tryz.underlying66 gsz149 rfl rfl hi.1 hi.2 hf) (by decide) ?_
 refine Zl ?_
 refine Zq (Zr ?_)
 refine Zm ?_
 refine VL.q (q_ln (s := v) Tryz.underlying66 rfl) (by decide) ?_
 refine Za ?_
 refine Zl ?_
 refine Zq (Zq (Zr ?_))
 refine Zm ?_
 refine VL.q (q_eql rfl rfl) (by decide) ?_
 refine Zl ?_
 refine VC.cond_dec rfl (fun h16 => absurd h16 (by omega)) (fun h16 => ?_)
 refine Zk ?_
 refine Zq (Zr ?_)
 refine Zm ?_
 refine VL.q (q_ln (s := s) Tryz.underlying66 rfl) (by decide) ?_
 refine Za ?_
 refine Zl ?_
 refine Zq (Zq (Zr ?_))
 refine Zm ?_
 refine Zm ?_
 refine VL.q (q_eql rfl rfl) (by decide) ?_
 refine Zl ?_
 refine VC.cond_dec rfl (fun h22 => ?_) (fun h22 => ?_)
 ·
  refine Zq (Zr ?_)
  refine Zm ?_
  refine Zm ?_
  refine VL.shut v 149 (fun _ _ _ _ => trivial) ?_
  refine VL.app2 (s := s) (r := v) Tryz.underlying66 Tryz.underlying66 gapp149 (by decide) rfl Fo.out (ap1 hb) (ap2 hb (by decide)) (by decide) (fun q hq => ?_)
  refine Za ?_
  refine Zl ?_
  have e1 : i.toNat = s.l.length := by omega
  exact VC.ret (fin1 (.inr rfl) rfl rfl q rfl (by rw [hq, e1, List.take_length, List.drop_length, List.append_nil]) (fun _ _ => trivial) EntO.out)
 have hin : i < (s.l.length : Int) := by omega
 have hne : s.l ≠ [] := fun h => by rw [h] at hin; simp at hin; omega
 have hkq : (s.l.length : Int) + (v.l.length : Int) - i = ((s.l.length + v.l.length - i.toNat : Nat) : Int) := by omega
 have hLn : (s.l.take i.toNat ++ v.l ++ s.l.drop i.toNat).length = s.l.length + v.l.length := by simp only [List.length_append, List.length_take, List.length_drop]; omega
 have hfl : (s.l.take i.toNat ++ v.l ++ s.l.drop i.toNat).flatMap Dat.enc = (s.l.take i.toNat).flatMap Dat.enc ++ v.l.flatMap Dat.enc ++ (s.l.drop i.toNat).flatMap Dat.enc := by rw [List.flatMap_append, List.flatMap_append]
 have lA : ((s.l.take i.toNat).flatMap Dat.enc).length = i.toNat * 6 := by rw [enc_len, List.length_take, hK, Nat.min_eq_left (by omega)]
 have lV : (v.l.flatMap Dat.enc).length = v.l.length * 6 := by rw [enc_len, hK]
 have lS : ((s.l.drop i.toNat).flatMap Dat.enc).length = (s.l.length - i.toNat) * 6 := by rw [enc_len, List.length_drop, hK]
 refine Zk ?_
 refine Zq (Zq (Zr ?_))
 refine Zm ?_
 refine Zm ?_
 refine VL.q (q_add rfl rfl ⟨by omega, by omega⟩) (by decide) ?_
 refine Zm ?_
 refine VL.q (q_capV (a0 := s.a) (L := s.l.length) (C := s.c) Tryz.underlying66 rfl) (by decide) ?_
 refine VL.q (q_gtr rfl rfl) (by decide) ?_
 refine Zl ?_
 refine VC.cond_dec rfl (fun h31 => ?_) (fun h31 => ?_)
 ·
  refine VC.shut s 149 (fun _ _ _ _ => trivial) ?_
  refine VC.shut v 149 (fun _ _ _ _ => trivial) ?_
  refine Zq (Zr ?_)
  refine VL.factM (φ := s.a = some ⟨s.b, s.o, none⟩) (fun h m => (InM.out (X := s.ok) h m).2.2.1 hne) fun hsa => ?_
  refine VL.factM (φ := v.a = some ⟨v.b, v.o, none⟩) (fun h m => (InM.out (X := v.ok) h m).2.2.1 hv) fun hva => ?_
  refine Zm ?_
  refine Zm ?_
  refine VL.q (q_toV (a0 := s.a) (L := s.l.length) (C := s.c) (K := 6) Tryz.underlying66 gsz149 rfl rfl hi.1 (by omega)) (by decide) ?_
  refine Zm ?_
  refine Zm ?_
  refine VL.q (q_add rfl rfl ⟨by omega, by omega⟩) (by decide) ?_
  refine Zm ?_
  refine VL.q (q_sub rfl rfl ⟨by omega, by omega⟩) (by decide) ?_
  refine VL.setv 39 rfl (congrArg (Value.int .i64) hkq) ?_
  refine VL.appZg (s := s) (L := i.toNat) (kq := s.l.length + v.l.length - i.toNat) Tryz.underlying66 Tryz.underlying3 gapp149 (by decide) rfl hne (by omega) (by omega) (by omega) (by omega) (by decide) (by decide) fun g cs cp hcl hcp hcm hct => ?_
  rw [hK] at hcl hct
  rw [show i.toNat + (s.l.length + v.l.length - i.toNat) = s.l.length + v.l.length by omega] at hcp ⊢
  have hfit : ((s.l.take i.toNat).flatMap Dat.enc).length + (v.l.flatMap Dat.enc).length + ((s.l.drop i.toNat).flatMap Dat.enc).length ≤ cs.length := by
    rw [lA, lV, lS, hcl, ← Nat.add_mul, ← Nat.add_mul]; exact Nat.mul_le_mul_right _ (by omega)
  have hic := ins_cells1 (V := v.l.flatMap Dat.enc) (S := (s.l.drop i.toNat).flatMap Dat.enc) (by rw [lA]; exact hct) hfit
  rw [← hfl, lA, lV, lS] at hic
  refine Za ?_
  refine Zl ?_
  refine Zq (Zr ?_)
  refine Zm ?_
  refine Zm ?_
  refine VL.q (q_fromV (b := g) (o := 0) (L := s.l.length + v.l.length) (C := cp) (K := 6) Tryz.underlying66 gsz149 rfl rfl hi.1 (by omega) hcp (by omega) rfl) (by decide) ?_
  refine Zm ?_
  refine VL.setv 44 rfl (show v.val = .slice (some ⟨v.b, v.o + 0 * Dat.sz IndexEntry, none⟩) v.l.length v.c by unfold Sv.val; rw [hva, Nat.zero_mul]; rfl) ?_
  refine VL.copyB (src := v.l.flatMap Dat.enc) Tryz.underlying66 gsz149 UpdB.out rfl (by rw [lV]; congr 1; exact (Nat.min_eq_left (by omega)).symm) (ok_src0 (r := v) (by decide) hv) (enc_one1 v.l) (by rw [lV, Nat.zero_add, hcl, ← Nat.add_mul]; exact Nat.mul_le_mul_right _ (by omega)) (by decide) ?_
  rw [Nat.zero_add, lV]
  refine Zl ?_
  refine Zq ?_
  refine VC.draw [(0, true), (1, true), (2, true), (3, true), (4, true), (5, true), (6, true), (7, true), (8, false)] mixed (by kernel_rfl) (by kernel_rfl) (by kernel_rfl) ?_
  refine VD.q rfl (q_move rfl) (by decide) ?_
  refine VD.q rfl (q_move rfl) (by decide) ?_
  refine VD.q rfl (q_move rfl) (by decide) ?_
  refine VD.q rfl (q_add rfl rfl ⟨by omega, by omega⟩) (by decide) ?_
  refine VD.q rfl (q_fromV (b := g) (o := 0) (L := s.l.length + v.l.length) (C := cp) (K := 6) Tryz.underlying66 gsz149 rfl rfl (by omega) (by omega) hcp (by omega) rfl) (by decide) ?_
  refine VD.q rfl (q_move rfl) (by decide) ?_
  refine VD.q rfl (q_move rfl) (by decide) ?_
  refine VD.q rfl (q_fromV (b := s.b) (o := s.o) (L := s.l.length) (C := s.c) (K := 6) Tryz.underlying66 gsz149 (show some s.val = _ by unfold Sv.val; rw [hsa]) rfl hi.1 (by omega) hf (by omega) rfl) (by decide) ?_
  refine VD.one rfl ?_
  rw [show (i + (v.l.length : Int)).toNat = i.toNat + v.l.length by omega]
  refine VL.copyB (src := (s.l.drop i.toNat).flatMap Dat.enc) Tryz.underlying66 gsz149 UpdB.out rfl (by rw [lS]; congr 1; exact (Nat.min_eq_left (by omega)).symm) (ok_srcK (r := s) (by decide) hne i.toNat) (enc_one1 _) (by rw [lS, Nat.zero_add, hic.1, hcl, ← Nat.add_mul]; exact Nat.mul_le_mul_right _ (by omega)) (by decide) ?_
  rw [Nat.zero_add, lS, Nat.add_mul]
  refine VL.back (D' := []) (by kernel_rfl) Pend.nil ?_
  refine VD.to (fun _ _ h => h) ?_
  refine Zq (Zr ?_)
  refine Zm ?_
  refine Za ?_
  refine Zl ?_
  have ho := fun F => own_blk (F := F) (e := 149) (b := g) (l' := s.l.take i.toNat ++ v.l ++ s.l.drop i.toNat) (hic.2.1.trans hcl) (by rw [enc_len] at hic; exact hic.2.2) hLn hcp hcm
  exact VC.ret (fin1 (.inr rfl) rfl rfl ⟨some ⟨g, 0, none⟩, cp, _⟩ (ho Ow.emp).1 rfl (fun _ _ => trivial) (ho _).2)
 refine Zk ?_
 refine Zq (Zr ?_)
 refine VL.open (s := s) (e := 149) Fo.out (by omega) fun b cs hsa hcl hct _ hcm => ?_
 rw [hK] at hcl hct
 have hctA : cs.take ((s.l.take i.toNat).flatMap Dat.enc).length = (s.l.take i.toNat).flatMap Dat.enc := by
   rw [lA]
   have : cs.take (i.toNat * 6) = (cs.take (s.l.length * 6)).take (i.toNat * 6) := by rw [List.take_take, Nat.min_eq_left (Nat.mul_le_mul_right _ (by omega))]
   rw [this, hct]
   exact flatMap_take s.l i.toNat
 have hfit : ((s.l.take i.toNat).flatMap Dat.enc).length + (v.l.flatMap Dat.enc).length + ((s.l.drop i.toNat).flatMap Dat.enc).length ≤ cs.length := by
   rw [lA, lV, lS, hcl, ← Nat.add_mul, ← Nat.add_mul]; exact Nat.mul_le_mul_right _ (by omega)
 have hic := ins_cells2 (V := v.l.flatMap Dat.enc) (S := (s.l.drop i.toNat).flatMap Dat.enc) hctA hfit
 rw [← hfl, lA, lV, lS] at hic
 refine Zm ?_
 refine Zm ?_
 refine Zm ?_
 refine VL.q (q_add rfl rfl ⟨by omega, by omega⟩) (by decide) ?_
 refine VL.q (q_toV (a0 := s.a) (L := s.l.length) (C := s.c) (K := 6) Tryz.underlying66 gsz149 rfl rfl (by omega) (by omega)) (by decide) ?_
 rw [show ((s.l.length : Int) + (v.l.length : Int)).toNat = s.l.length + v.l.length by omega, hsa]
 refine Za ?_
 refine Zl ?_
 refine Zq (Zq (Zr ?_))
 refine Zm ?_
 refine Zm ?_
 refine Zm ?_
 refine Zm ?_
 refine VL.q (q_add rfl rfl ⟨by omega, by omega⟩) (by decide) ?_
 refine VL.q (q_fromV (b := b) (o := 0) (L := s.l.length + v.l.length) (C := s.c) (K := 6) Tryz.underlying66 gsz149 rfl rfl (by omega) (by omega) (by omega) (by omega) rfl) (by decide) ?_
 refine VL.q (q_overlaps (tS := 66) (tR := 4) (s := v) (b := b) Tryz.func201 rfl rfl (by kernel_rfl) (by kernel_rfl) Tryz.underlying66 gsz149 rfl UpdB.out (fun h => by rw [h] at hcl; simp at hcl; omega) hv) (by decide) ?_
 refine VL.q (q_not rfl) (by decide) ?_
 refine Zl ?_
 refine VC.cond_t rfl ?_
 refine VC.shut v 149 (fun _ _ _ _ => trivial) ?_
 refine Zq ?_
 refine VC.draw [(0, true), (1, true), (2, true), (3, true), (4, true), (5, true), (6, true), (7, true), (8, false)] mixed (by kernel_rfl) (by kernel_rfl) (by kernel_rfl) ?_
 refine VD.q rfl (q_move rfl) (by decide) ?_
 refine VD.q rfl (q_move rfl) (by decide) ?_
 refine VD.q rfl (q_move rfl) (by decide) ?_
 refine VD.q rfl (q_add rfl rfl ⟨by omega, by omega⟩) (by decide) ?_
 refine VD.q rfl (q_fromV (b := b) (o := 0) (L := s.l.length + v.l.length) (C := s.c) (K := 6) Tryz.underlying66 gsz149 rfl rfl (by omega) (by omega) (by omega) (by omega) rfl) (by decide) ?_
 refine VD.q rfl (q_move rfl) (by decide) ?_
 refine VD.q rfl (q_move rfl) (by decide) ?_
 refine VD.q rfl (q_fromV (b := b) (o := 0) (L := s.l.length + v.l.length) (C := s.c) (K := 6) Tryz.underlying66 gsz149 rfl rfl hi.1 (by omega) (by omega) (by omega) rfl) (by decide) ?_
 refine VD.one rfl ?_
 rw [show (i + (v.l.length : Int)).toNat = i.toNat + v.l.length by omega, Nat.zero_add, Nat.zero_add]
 refine VL.copyB (src := (s.l.drop i.toNat).flatMap Dat.enc) Tryz.underlying66 gsz149 UpdB.out rfl (by rw [lS]; congr 1; simp only [Nat.min_def]; split <;> omega) (blk_src (n := s.l.length) hct rfl) (enc_one1 _) (by rw [lS, hcl, ← Nat.add_mul]; exact Nat.mul_le_mul_right _ (by omega)) (by decide) ?_
 rw [lS, Nat.add_mul]
 refine VL.back (D' := []) (by kernel_rfl) Pend.nil ?_
 refine VD.to (fun _ _ h => h) ?_
 refine Zq (Zr ?_)
 refine Zm ?_
 refine Zm ?_
 refine VL.q (q_fromV (b := b) (o := 0) (L := s.l.length + v.l.length) (C := s.c) (K := 6) Tryz.underlying66 gsz149 rfl rfl hi.1 (by omega) (by omega) (by omega) rfl) (by decide) ?_
 refine Zm ?_
 refine VL.factM (φ := v.a = some ⟨v.b, v.o, none⟩) (fun h m => (InM.out (X := v.ok) h m).2.2.1 hv) fun hva => ?_
 refine VL.setv 81 rfl (show v.val = .slice (some ⟨v.b, v.o + 0 * Dat.sz IndexEntry, none⟩) v.l.length v.c by unfold Sv.val; rw [hva, Nat.zero_mul]; rfl) ?_
 rw [Nat.zero_add]
 refine VL.copyB (src := v.l.flatMap Dat.enc) Tryz.underlying66 gsz149 UpdB.out rfl (by rw [lV]; congr 1; exact (Nat.min_eq_left (by omega)).symm) (ok_src0 (r := v) (by decide) hv) (enc_one1 v.l) (by rw [lV, hic.1, hcl, ← Nat.add_mul]; exact Nat.mul_le_mul_right _ (by omega)) (by decide) ?_
 rw [lV]
 refine Zl ?_
 refine Zq (Zr ?_)
 refine Zm ?_
 refine Za ?_
 refine Zl ?_
 have ho := fun F => own_blk (F := F) (e := 149) (b := b) (l' := s.l.take i.toNat ++ v.l ++ s.l.drop i.toNat) (hic.2.1.trans hcl) (by rw [enc_len] at hic; exact hic.2.2) hLn (by omega) hcm
 exact VC.ret (fin1 (.inr rfl) rfl rfl ⟨some ⟨b, 0, none⟩, s.c, _⟩ (ho Ow.emp).1 rfl (fun _ _ => trivial) (ho _).2)
theorem index_Put_ct (l_0 : Sv IndexEntry) (e_1 : IndexEntry) {r : List IndexEntry} (hS : Sh.index_Put l_0.l e_1 = some r) :
 Ct Tryz.prog 82 [l_0.val, .agg #[str e_1.path, i64 e_1.stage, i64 e_1.mode, str e_1.data, i64 e_1.time, i64 e_1.size]] l_0.ok (Ow.emp) (X := Sv IndexEntry) (fun x => x.val) (fun x => r = x.l) (fun x => x.ok) (fun x => Ow.emp) := by
 refine Ct.of Tryz.func82 rfl (by kernel_rfl) Tryz.ntmps82 (by simp) fun c => ?_
 unfold Sh.index_Put at hS
 refine Zq (Zr ?_)
 refine VL.box (cs := [str e_1.path, i64 e_1.stage, i64 e_1.mode, str e_1.data, i64 e_1.time, i64 e_1.size]) rfl rfl (by decide) fun b3_1 => ?_
 refine Za ?_
 refine Zl ?_
 refine Zq (Zr ?_)
 refine Zm ?_
 obtain ⟨y8_2, ey8_2, hS⟩ := bd_s hS
 refine VL.callO (slices_Clone_index_Entry_index_Entry_ct l_0 ey8_2) rfl (by decide) ?_
 rintro q8_2_0 rfl
 try dsimp only
 refine VL.q (q_mkfn rfl) (by decide) ?_
 obtain ⟨y10_3, ey10_3, hS⟩ := bd_s hS
 refine VL.callO (slices_DeleteFunc_index_Entry_index_Entry_ct q8_2_0 b3_1 e_1 ey10_3) rfl (by decide) ?_
 rintro q10_3_0 rfl
 try dsimp only
 refine Za ?_
 refine Zl ?_
 refine Zq (Zr ?_)
 refine Za ?_
 refine Zl ?_
 refine VC.cutJ (S := Int) (fun (i6_4 : Int) => i6_4) (fun (i6_4 : Int) => [(3, ptr b3_1 0), (5, q10_3_0.val), (6, i64 i6_4)]) (fun (i6_4 : Int) => Mo.tt) (fun (i6_4 : Int) => Ow.star (Blk b3_1 [str e_1.path, i64 e_1.stage, i64 e_1.mode, str e_1.data, i64 e_1.time, i64 e_1.size] 149) (Ow.star (Sv.own q10_3_0 149) (Ow.emp))) hS ?_ ?_
 ·
  clear hS
  intro k5 hS
  refine Zb ?_
  refine VC.iter (S := Int) (fun (i6_6 : Int) => i6_6) (fun (i6_6 : Int) => [(3, ptr b3_1 0), (5, q10_3_0.val), (6, i64 i6_6)]) (fun (i6_6 : Int) => Mo.tt) (fun (i6_6 : Int) => Ow.star (Blk b3_1 [str e_1.path, i64 e_1.stage, i64 e_1.mode, str e_1.data, i64 e_1.time, i64 e_1.size] 149) (Ow.star (Sv.own q10_3_0 149) (Ow.emp))) 0 [3, 5, 6] hS rfl ?_
  clear hS
  rintro i6_6 m1 y1 hS hK1
  show VC _ _ _ _ _ [(3, ptr b3_1 0), (5, q10_3_0.val), (6, i64 i6_6)] (Mo.and Mo.tt _) (Ow.star (Blk b3_1 [str e_1.path, i64 e_1.stage, i64 e_1.mode, str e_1.data, i64 e_1.time, i64 e_1.size] 149) (Ow.star (Sv.own q10_3_0 149) (Ow.emp)))
  refine Zq (Zq ?_)
  refine VC.draw ((List.range 13).map fun k => (k, true)) mixed (by kernel_rfl) (by kernel_rfl) (by kernel_rfl) ?_
  refine VD.q rfl (q_move rfl) (by decide) ?_
  refine VD.q rfl (q_move rfl) (by decide) ?_
  refine VD.q rfl (q_ln (s := q10_3_0) Tryz.underlying66 rfl) (by decide) ?_
  refine VD.q rfl (q_lss rfl rfl) (by decide) ?_
  refine VD.q rfl (q_move rfl) (by decide) ?_
  refine VD.split_dec 15 rfl (fun h15 => ?_) (fun h15 => ?_)
  ·
   replace hS := it_t h15 hS
   refine VD.gy rfl rfl rfl (q_move rfl) (by decide) ?_
   refine VD.gy rfl rfl rfl (q_move rfl) (by decide) ?_
   obtain ⟨z18_7, nz18_7, hz18_7, hS⟩ := at_s hS
   refine VD.gy rfl rfl rfl (q_ixo (s := q10_3_0) Tryz.underlying66 gsz149 rfl rfl nz18_7 (lt_of_get nz18_7 hz18_7)) (by decide) ?_
   refine VD.gy rfl rfl rfl (q_elso (s := q10_3_0) gagg149 rfl rfl hz18_7) (by decide) ?_
   refine VD.gy rfl rfl rfl (q_fes gagg149 rfl rfl) (by decide) ?_
   obtain ⟨y21_8, ey21_8, hS⟩ := bd_s hS
   refine VD.gy rfl rfl rfl (q_call (index_compare_ct z18_7 e_1 ey21_8) rfl (fun _ _ => rfl)) (by decide) ?_
   refine VD.gy rfl rfl rfl (q_lss rfl rfl) (by decide) ?_
   refine VD.q rfl (q_pick_t rfl rfl) (by decide) ?_
   refine VD.to (fun _ _ h => h) ?_
   refine VC.keep [3, 5, 6, 23] rfl ?_
   refine VC.cond_dec rfl (fun h23 => ?_) (fun h23 => ?_)
   ·
    replace hS := it_t h23 hS
    refine Zk ?_
    refine Zb (Zr ?_)
    refine Zm ?_
    obtain ⟨b25, hS⟩ := gd_s hS
    refine VL.q (q_add rfl rfl b25) (by decide) ?_
    refine Za ?_
    refine VL.rnd (i6_6 + 1) [3, 5, 6] (fun _ _ h => h) (go2 hS hK1) rfl
   replace hS := it_f h23 hS
   replace hS := up2 hS hK1
   refine VC.exit_mt i6_6 [3, 5, 6] (fun _ _ h => h) hS rfl
  replace hS := it_f h15 hS
  refine Zd ?_
  refine Zd ?_
  refine Zd ?_
  refine Zd ?_
  refine Zd ?_
  refine Zd ?_
  refine Zd ?_
  refine VD.q rfl (q_pick_f rfl rfl) (by decide) ?_
  refine VD.to (fun _ _ h => h) ?_
  refine VC.keep [3, 5, 6, 23] rfl ?_
  refine VC.cond_f rfl ?_
  replace hS := up2 hS hK1
  refine VC.exit_mt i6_6 [3, 5, 6] (fun _ _ h => h) hS rfl
 clear hS
 rintro i6_4 hS
 show VC _ _ _ _ _ [(3, ptr b3_1 0), (5, q10_3_0.val), (6, i64 i6_4)] (Mo.and Mo.tt _) (Ow.star (Blk b3_1 [str e_1.path, i64 e_1.stage, i64 e_1.mode, str e_1.data, i64 e_1.time, i64 e_1.size] 149) (Ow.star (Sv.own q10_3_0 149) (Ow.emp)))
 refine Zq (Zr ?_)
 refine Zm ?_
 refine Zm ?_
 refine VL.q (q_fes gagg149 rfl rfl) (by decide) ?_
 refine VL.litO (α := IndexEntry) (xs := [.tmp 28]) (vs := [.agg #[str e_1.path, i64 e_1.stage, i64 e_1.mode, str e_1.data, i64 e_1.time, i64 e_1.size]]) [⟨e_1.path, e_1.stage, e_1.mode, e_1.data, e_1.time, e_1.size⟩] Tryz.underlying66 glit149 (by decide) rfl rfl rfl rfl (by decide) (by decide) (fun s29_9 hs29_9 => ?_) (by decide)
 replace hS := lt_to hs29_9 hS
 obtain ⟨b30, hS⟩ := gd_s hS
 refine VL.callO (insert149_ct q10_3_0 s29_9 i6_4 b30.1 b30.2.1 b30.2.2) rfl (by decide) ?_
 intro s30_11 hs30_11
 replace hS := lt_to hs30_11 hS
 refine VL.shut s30_11 149 (fun _ _ _ _ => trivial) ?_
 obtain ⟨y31_13, ey31_13, hS⟩ := bd_s hS
 refine VL.callF (slices_Clip_index_Entry_index_Entry_ct s30_11 ey31_13) rfl (by decide) ?_
 rintro q31_13_0 rfl
 try dsimp only
 refine Za ?_
 refine Zl ?_
 cases hS
 exact VC.ret (fin1 (.inr rfl) rfl rfl q31_13_0 rfl rfl (by (try dsimp only); exact InM.out) (fun _ _ => trivial))
theorem sort102_ct (s : Sv Str) (hb : s.l.length ≤ 4294967296) : Ct Tryz.prog 102 [s.val] Mo.tt (s.own 9) (X := Sv Str) (fun _ => .tuple #[]) (fun q => q.l = Go.S.sortS s.l ∧ q.val = s.val) (fun _ => Mo.tt) (fun q => q.own 9) :=
  Ct.sort (entry_of Tryz.func102 rfl (by kernel_rfl)) (fun blk off cap ss w hH hb hs => Tryz.slices_Sort_string blk off cap ss w hH hb hs) (fun p cap w => Tryz.slices_Sort_string_none p cap w) s 9 hb
theorem compact104_ct (s : Sv Str) (hb : s.l.length ≤ 4294967296) : Ct Tryz.prog 104 [s.val] Mo.tt (s.own 9) (X := Sv Str) (fun q => q.val) (fun q => q.l = Go.S.compactS s.l) (fun _ => Mo.tt) (fun q => q.own 9) :=
  Ct.compact (entry_of Tryz.func104 rfl (by kernel_rfl)) (fun blk off cap ss w hH hb hs => Tryz.slices_Compact_string blk off cap ss w hH hb hs) (fun p cap w => Tryz.slices_Compact_string_empty p cap w) s 9 hb
theorem slices_Clip_string_string_ct (s_0 : Sv Str) {r : List Str} (hS : Sh.slices_Clip_string_string s_0.l = some r) :
 Ct Tryz.prog 103 [s_0.val] s_0.ok (Ow.emp) (X := Sv Str) (fun x => x.val) (fun x => r = x.l) (fun x => x.ok) (fun x => Ow.emp) := by
 refine Ct.of Tryz.func103 rfl (by kernel_rfl) Tryz.ntmps103 (by simp) fun c => ?_
 unfold Sh.slices_Clip_string_string at hS
 refine Zq (Zr ?_)
 refine Za ?_
 refine Zl ?_
 refine Zq (Zr ?_)
 refine Zm ?_
 refine Zm ?_
 refine VL.q (q_ln (s := s_0) Tryz.underlying82 rfl) (by decide) ?_
 refine Zm ?_
 refine VL.q (q_ln (s := s_0) Tryz.underlying82 rfl) (by decide) ?_
 obtain ⟨b8, hS⟩ := gd_s hS
 refine VL.stom Tryz.underlying82 gsz9 rfl rfl rfl b8.1 (b8.2) (by decide) fun s8_1 hs8_1 => ?_
 replace hS := lt_to hs8_1 hS
 refine Za ?_
 refine Zl ?_
 cases hS
 exact VC.ret (fin1 (.inr rfl) rfl rfl s8_1 rfl rfl (by (try dsimp only); exact InM.out) (fun _ _ => trivial))
theorem index_Conflicts_ct (l_0 : Sv IndexEntry) {r : List Str} (hS : Sh.index_Conflicts l_0.l = some r) :
 Ct Tryz.prog 44 [l_0.val] l_0.ok (Ow.emp) (X := Sv Str) (fun x => x.val) (fun x => r = x.l) (fun x => x.ok) (fun x => Ow.emp) := by
 refine Ct.of Tryz.func44 rfl (by kernel_rfl) Tryz.ntmps44 (by simp) fun c => ?_
 unfold Sh.index_Conflicts at hS
 refine Zq (Zr ?_)
 refine Za ?_
 refine Zl ?_
 refine Zq (Zr ?_)
 refine Za ?_
 refine Zl ?_
 refine Zq (Zq (Zr ?_))
 refine Zm ?_
 refine VL.q (q_ln (s := l_0) Tryz.underlying66 rfl) (by decide) ?_
 refine Zm ?_
 refine Zl ?_
 refine Zb ?_
 refine VC.nilO (⟨none, 0, []⟩ : Sv Str) 9 ⟨rfl, rfl⟩ ?_
 refine VC.iter (S := Sv Str × Int) (fun sg => (sg.1.l, sg.2)) (fun sg => [(3, sg.1.val), (6, l_0.val), (7, i64 (l_0.l.length : Int)), (8, i64 sg.2)]) (fun sg => Mo.tt) (fun sg => Ow.star (Sv.own sg.1 9) (Ow.emp)) (⟨none, 0, []⟩, 0) [3, 6, 7, 8] hS rfl ?_
 clear hS
 rintro ⟨out3_1, x8_2⟩ m1 y1 hS hK1
 show VC _ _ _ _ _ [(3, out3_1.val), (6, l_0.val), (7, i64 (l_0.l.length : Int)), (8, i64 x8_2)] (Mo.and Mo.tt _) (Ow.star (Sv.own out3_1 9) (Ow.emp))
 refine Zq (Zr ?_)
 refine VL.q (q_lss rfl rfl) (by decide) ?_
 refine Zl ?_
 refine Zq ?_
 refine VC.cond_dec rfl (fun h9 => ?_) (fun h9 => ?_)
 ·
  replace hS := it_t h9 hS
  refine Zk ?_
  refine Zq (Zb (Zq (Zr ?_)))
  obtain ⟨z10_3, nz10_3, hz10_3, hS⟩ := at_s hS
  refine VL.q (q_ixm (s := l_0) Tryz.underlying66 gsz149 rfl rfl nz10_3 (lt_of_get nz10_3 hz10_3)) (by decide) ?_
  refine VL.q (q_els (s := l_0) gagg149 rfl rfl hz10_3) (by decide) ?_
  refine VL.alloc (cs := [str [], i64 0, i64 0, str [], i64 0, i64 0]) (by kernel_rfl) (by decide) fun b5_4 => ?_
  refine VL.store (vc := [str z10_3.path, i64 z10_3.stage, i64 z10_3.mode, str z10_3.data, i64 z10_3.time, i64 z10_3.size]) (cs' := [str z10_3.path, i64 z10_3.stage, i64 z10_3.mode, str z10_3.data, i64 z10_3.time, i64 z10_3.size]) rfl rfl rfl gsz149 rfl rfl (Nat.le_of_ble_eq_true rfl) rfl ?_
  refine Zl ?_
  refine Zq (Zr ?_)
  refine VL.q (q_field gfa149_1 rfl) (by decide) ?_
  refine VL.q (q_fe gone3 rfl rfl) (by decide) ?_
  refine VL.q (q_neq rfl rfl) (by decide) ?_
  refine Zl ?_
  refine VC.cond_ndec rfl (fun h14 => ?_) (fun h14 => ?_)
  ·
   replace hS := it_f h14 hS
   refine Zr ?_
   refine Zm ?_
   refine VL.q (q_field gfa149_0 rfl) (by decide) ?_
   refine VL.q (q_fe gone9 rfl rfl) (by decide) ?_
   refine VL.lit (α := Str) (xs := [.tmp 17]) (vs := [str z10_3.path]) [z10_3.path] Tryz.underlying82 glit9 (by decide) rfl rfl rfl rfl (by decide) (fun _ _ _ _ => trivial) (by decide) (fun s18_5 hs18_5 => ?_) (by decide)
   replace hS := lt_to hs18_5 hS
   obtain ⟨b19, hS⟩ := gd_s hS
   refine VL.app (s := out3_1) (r := s18_5) Tryz.underlying82 gapp9 (by decide) rfl Fo.out (ap1 b19) (ap2 b19 (by decide)) (by decide) (fun s19_7 hs19_7 => ?_)
   replace hS := lt_to hs19_7 hS
   refine Za ?_
   refine Zl ?_
   refine VC.keep [3, 6, 7, 8] rfl ?_
   refine Zr ?_
   obtain ⟨b20, hS⟩ := gd_s hS
   refine VL.q (q_add rfl rfl b20) (by decide) ?_
   refine Zm ?_
   refine VL.rnd (s19_7, (x8_2 + 1)) [3, 6, 7, 8] (fun _ _ h => h) (go2 hS hK1) rfl
  replace hS := it_t h14 hS
  refine Zk ?_
  refine VC.keep [3, 6, 7, 8] rfl ?_
  refine Zr ?_
  obtain ⟨b20, hS⟩ := gd_s hS
  refine VL.q (q_add rfl rfl b20) (by decide) ?_
  refine Zm ?_
  refine VL.rnd (out3_1, (x8_2 + 1)) [3, 6, 7, 8] (fun _ _ h => h) (go2 hS hK1) rfl
 replace hS := it_f h9 hS
 replace hS := up2 hS hK1
 refine Zx ?_
 refine Zq (Zr ?_)
 refine Zm ?_
 obtain ⟨b22, hS⟩ := gd_s hS
 refine VL.callO (sort102_ct out3_1 b22) rfl (by decide) ?_
 rintro w22_9 ⟨hw22_9, vw22_9⟩
 try dsimp only
 rw [← vw22_9]
 replace hS := lt_to hw22_9 hS
 refine Zl ?_
 refine Zq (Zr ?_)
 refine Zm ?_
 obtain ⟨b24, hS⟩ := gd_s hS
 refine VL.callO (compact104_ct w22_9 b24) rfl (by decide) ?_
 rintro w24_11 hw24_11
 try dsimp only
 replace hS := lt_to hw24_11 hS
 refine VL.shut w24_11 9 (fun _ _ _ _ => trivial) ?_
 obtain ⟨y25_13, ey25_13, hS⟩ := bd_s hS
 refine VL.callF (slices_Clip_string_string_ct w24_11 ey25_13) rfl (by decide) ?_
 rintro q25_13_0 rfl
 try dsimp only
 refine Za ?_
 refine Zl ?_
 refine VC.keep [2] rfl ?_
 cases hS
 exact VC.ret (fin1 (.inr rfl) rfl rfl q25_13_0 rfl rfl (by (try dsimp only); exact InM.out) (fun _ _ => trivial))
theorem unicode_utf8_RuneCountInString_ct (s_0 : Str) {r : Int} (hS : Sh.unicode_utf8_RuneCountInString s_0 = some r) :
 Ct Tryz.prog 280 [str s_0] Mo.tt (Ow.emp) (X := Unit) (fun _ => i64 r) (fun _ => True) (fun _ => Mo.tt) (fun _ => Ow.emp) := by
 refine Ct.of Tryz.func280 rfl (by kernel_rfl) Tryz.ntmps280 (by simp) fun c => ?_
 unfold Sh.unicode_utf8_RuneCountInString at hS
 refine Zq (Zr ?_)
 refine Za ?_
 refine Zl ?_
 refine Zq (Zq (Zr ?_))
 refine Zm ?_
 cases hS
theorem unicode_utf8_decodeRuneInStringSlow_ct (s_0 : Str) {r : Int × Int} (hS : Sh.unicode_utf8_decodeRuneInStringSlow s_0 = some r) :
 Ct Tryz.prog 296 [str s_0] Mo.tt (Ow.emp) (X := Unit) (fun _ => .tuple #[.int .i32 r.1, i64 r.2]) (fun _ => True) (fun _ => Mo.tt) (fun _ => Ow.emp) := by
 refine Ct.of Tryz.func296 rfl (by kernel_rfl) Tryz.ntmps296 (by simp) fun c => ?_
 unfold Sh.unicode_utf8_decodeRuneInStringSlow at hS
 refine Zq (Zr ?_)
 refine Za ?_
 refine Za ?_
 refine Zl ?_
 refine Zq (Zr ?_)
 refine Zm ?_
 refine VL.q (q_slen Tryz.underlying9 rfl) (by decide) ?_
 refine Za ?_
 refine Zl ?_
 refine Zq (Zq (Zr ?_))
 refine Zm ?_
 refine VL.q (q_lss rfl rfl) (by decide) ?_
 refine Zl ?_
 refine VC.cond_dec rfl (fun h16 => ?_) (fun h16 => ?_)
 ·
  replace hS := it_t h16 hS
  refine Zq (Zr ?_)
  refine Za ?_
  refine Za ?_
  refine Zl ?_
  cases hS
  exact VC.ret (fin2 (.inr rfl) rfl rfl rfl () rfl trivial (fun _ _ => trivial) (fun _ _ => trivial))
 replace hS := it_f h16 hS
 refine Zk ?_
 refine Zq (Zr ?_)
 refine Zm ?_
 obtain ⟨z18_1, nz18_1, hz18_1, hS⟩ := at_s hS
 refine VL.q (q_sidx Tryz.underlying9 rfl rfl nz18_1 hz18_1) (by decide) ?_
 refine Za ?_
 refine Zl ?_
 refine VC.keep [0, 4, 5] rfl ?_
 refine Zq (Zr ?_)
 refine Zm ?_
 cases hS
theorem unicode_utf8_DecodeRuneInString_ct (s_0 : Str) {r : Int × Int} (hS : Sh.unicode_utf8_DecodeRuneInString s_0 = some r) :
 Ct Tryz.prog 281 [str s_0] Mo.tt (Ow.emp) (X := Unit) (fun _ => .tuple #[.int .i32 r.1, i64 r.2]) (fun _ => True) (fun _ => Mo.tt) (fun _ => Ow.emp) := by
 refine Ct.of Tryz.func281 rfl (by kernel_rfl) Tryz.ntmps281 (by simp) fun c => ?_
 unfold Sh.unicode_utf8_DecodeRuneInString at hS
 refine Zq (Zr ?_)
 refine Za ?_
 refine Za ?_
 refine Zl ?_
 refine Zq ?_
 refine VC.cutJ (S := Bool) (fun (x10_1 : Bool) => x10_1) (fun (x10_1 : Bool) => [(0, str s_0), (10, .bool x10_1)]) (fun (x10_1 : Bool) => Mo.tt) (fun (x10_1 : Bool) => Ow.emp) hS ?_ ?_
 ·
  clear hS
  intro k2 hS
  refine Zr ?_
  refine Zm ?_
  refine VL.q (q_sne rfl rfl) (by decide) ?_
  refine Zm ?_
  refine VL.split_ndec 6 rfl (fun h6 => ?_) (fun h6 => ?_)
  ·
   replace hS := it_f h6 hS
   refine Zg ?_
   obtain ⟨z8_3, nz8_3, hz8_3, hS⟩ := at_s hS
   refine VL.gy rfl rfl (q_sidx Tryz.underlying9 rfl rfl nz8_3 hz8_3) (by decide) ?_
   refine VL.gy rfl rfl (q_lss rfl rfl) (by decide) ?_
   refine Zt ?_
   refine VL.mt (decide ((z8_3.toNat : Int) < 128)) [0, 10] (fun _ _ h => h) hS rfl
  replace hS := it_t h6 hS
  refine Zn ?_
  refine Zn ?_
  refine Zn ?_
  refine Zf ?_
  refine VL.mt false [0, 10] (fun _ _ h => h) hS rfl
 clear hS
 rintro x10_1 hS
 show VC _ _ _ _ _ [(0, str s_0), (10, .bool x10_1)] (Mo.and Mo.tt _) (Ow.emp)
 refine VC.cond rfl (fun h10 => ?_) (fun h10 => ?_)
 ·
  replace hS := it_t h10 hS
  refine Zq (Zr ?_)
  refine Zm ?_
  obtain ⟨z12_4, nz12_4, hz12_4, hS⟩ := at_s hS
  refine VL.q (q_sidx Tryz.underlying9 rfl rfl nz12_4 hz12_4) (by decide) ?_
  refine VL.q (q_conv Tryz.underlying5 Tryz.underlying21 rfl (wr_i32 z12_4)) (by decide) ?_
  refine Za ?_
  refine Za ?_
  refine Zl ?_
  cases hS
  exact VC.ret (fin2 (.inr rfl) rfl rfl rfl () rfl trivial (fun _ _ => trivial) (fun _ _ => trivial))
 replace hS := it_b h10 hS
 refine Zr ?_
 refine Zm ?_
 obtain ⟨y16_5, ey16_5, hS⟩ := bd_s hS
 refine VL.q (q_call (unicode_utf8_decodeRuneInStringSlow_ct s_0 ey16_5) rfl (fun _ _ => rfl)) (by decide) ?_
 refine Zm ?_
 refine VL.q (q_extract rfl rfl) (by decide) ?_
 refine VL.q (q_extract rfl rfl) (by decide) ?_
 refine Za ?_
 refine Za ?_
 refine Zl ?_
 cases hS
 exact VC.ret (fin2 (.inr rfl) rfl rfl rfl () rfl trivial (fun _ _ => trivial) (fun _ _ => trivial))
theorem strings_explode_ct (s_0 : Str) (n_1 : Int) {r : List Str} (hS : Sh.strings_explode s_0 n_1 = some r) :
 Ct Tryz.prog 259 [str s_0, i64 n_1] Mo.tt (Ow.emp) (X := Sv Str) (fun x => x.val) (fun x => r = x.l) (fun x => Mo.tt) (fun x => Sv.own x 9) := by
 refine Ct.of Tryz.func259 rfl (by kernel_rfl) Tryz.ntmps259 (by simp) fun c => ?_
 unfold Sh.strings_explode at hS
 refine Zq (Zr ?_)
 refine Za ?_
 refine Zl ?_
 refine Zq (Zr ?_)
 refine Zm ?_
 obtain ⟨y11_1, ey11_1, hS⟩ := bd_s hS
 refine VL.q (q_call (unicode_utf8_RuneCountInString_ct s_0 ey11_1) rfl (fun _ _ => rfl)) (by decide) ?_
 refine Za ?_
 refine Zl ?_
 refine VC.cutJ (S := Int) (fun (n1_2 : Int) => n1_2) (fun (n1_2 : Int) => [(0, str s_0), (1, i64 n1_2)]) (fun (n1_2 : Int) => Mo.tt) (fun (n1_2 : Int) => Ow.emp) hS ?_ ?_
 ·
  clear hS
  intro k3 hS
  refine VC.cutJ (S := Bool) (fun (x18_4 : Bool) => x18_4) (fun (x18_4 : Bool) => [(0, str s_0), (1, i64 n_1), (5, i64 y11_1), (18, .bool x18_4)]) (fun (x18_4 : Bool) => Mo.tt) (fun (x18_4 : Bool) => Ow.emp) hS ?_ ?_
  ·
   clear hS
   intro k5 hS
   refine Zr ?_
   refine Zm ?_
   refine VL.q (q_lss rfl rfl) (by decide) ?_
   refine Zm ?_
   refine VL.split_dec 14 rfl (fun h14 => ?_) (fun h14 => ?_)
   ·
    replace hS := it_t h14 hS
    refine Zn ?_
    refine Zn ?_
    refine Zn ?_
    refine Zt ?_
    refine VL.mt true [0, 1, 5, 18] (fun _ _ h => h) hS rfl
   replace hS := it_f h14 hS
   refine Zg ?_
   refine Zg ?_
   refine VL.gy rfl rfl (q_gtr rfl rfl) (by decide) ?_
   refine Zf ?_
   refine VL.mt (decide (y11_1 < n_1)) [0, 1, 5, 18] (fun _ _ h => h) hS rfl
  clear hS
  rintro x18_4 hS
  show VC _ _ _ _ _ [(0, str s_0), (1, i64 n_1), (5, i64 y11_1), (18, .bool x18_4)] (Mo.and Mo.tt _) (Ow.emp)
  refine VC.cond rfl (fun h18 => ?_) (fun h18 => ?_)
  ·
   replace hS := it_t h18 hS
   refine Zr ?_
   refine Zm ?_
   refine Za ?_
   refine VL.mt y11_1 [0, 1] (fun _ _ h => h) hS rfl
  replace hS := it_b h18 hS
  refine VC.skip_mt n_1 [0, 1] (fun _ _ h => h) hS rfl
 clear hS
 rintro n1_2 hS
 show VC _ _ _ _ _ [(0, str s_0), (1, i64 n1_2)] (Mo.and Mo.tt _) (Ow.emp)
 refine Zq (Zr ?_)
 refine Zm ?_
 obtain ⟨b21, hS⟩ := gd_s hS
 refine VL.make (α := Str) (z := []) Tryz.underlying82 gmk9 (by decide) rfl rfl b21.1 (Int.le_refl _) (by omega) (by omega) (by decide) (fun s21_6 hs21_6 => ?_)
 replace hS := lt_to hs21_6 hS
 refine Za ?_
 refine Zl ?_
 refine Zq (Zq (Zr ?_))
 refine Za ?_
 refine Zl ?_
 refine Zb ?_
 refine VC.iter (S := Str × Sv Str × Int) (fun sg => (sg.1, sg.2.1.l, sg.2.2)) (fun sg => [(0, str sg.1), (1, i64 n1_2), (6, sg.2.1.val), (7, i64 sg.2.2)]) (fun sg => Mo.tt) (fun sg => Ow.star (Sv.own sg.2.1 9) (Ow.emp)) (s_0, s21_6, 0) [0, 1, 6, 7] hS rfl ?_
 clear hS
 rintro ⟨s0_8, a6_9, i7_10⟩ m1 y1 hS hK1
 show VC _ _ _ _ _ [(0, str s0_8), (1, i64 n1_2), (6, a6_9.val), (7, i64 i7_10)] (Mo.and Mo.tt _) (Ow.star (Sv.own a6_9 9) (Ow.emp))
 refine Zq (Zq (Zr ?_))
 refine Zm ?_
 refine Zm ?_
 obtain ⟨b24, hS⟩ := gd_s hS
 refine VL.q (q_sub rfl rfl b24) (by decide) ?_
 refine VL.q (q_lss rfl rfl) (by decide) ?_
 refine Zl ?_
 refine VC.cond_dec rfl (fun h25 => ?_) (fun h25 => ?_)
 ·
  replace hS := it_t h25 hS
  refine Zk ?_
  refine Zq (Zb (Zq (Zr ?_)))
  refine Zm ?_
  obtain ⟨y30_11, ey30_11, hS⟩ := bd_s hS
  refine VL.q (q_call (unicode_utf8_DecodeRuneInString_ct s0_8 ey30_11) rfl (fun _ _ => rfl)) (by decide) ?_
  refine Zm ?_
  refine VL.q (q_extract rfl rfl) (by decide) ?_
  refine VL.q (q_extract rfl rfl) (by decide) ?_
  refine Za ?_
  refine Za ?_
  refine Zl ?_
  refine VC.keep [0, 1, 6, 7, 9] rfl ?_
  refine Zq (Zr ?_)
  refine Zm ?_
  refine Zm ?_
  refine Zm ?_
  refine Zm ?_
  obtain ⟨b37, hS⟩ := gd_s hS
  obtain ⟨y37_12, ey37_12, hS⟩ := lt_s hS
  refine VL.q (q_stoE Tryz.underlying9 rfl rfl b37.1 b37.2 ey37_12) (by decide) ?_
  obtain ⟨z38_13, nz38_13, hz38_13, hS⟩ := at_s hS
  refine VL.q (q_ixo (s := a6_9) Tryz.underlying82 gsz9 rfl rfl nz38_13 (lt_of_get nz38_13 hz38_13)) (by decide) ?_
  refine VL.storeE (s := a6_9) (T := 9) (j := 0) (vc := [str y37_12]) (y37_12 : Str) (by decide) rfl rfl hz38_13 rfl gsz9 rfl rfl (Nat.le_of_ble_eq_true rfl) rfl (fun w14 hw14 haw14 hcw14 hvw14 hbw14 how14 => ?_)
  rw [← hvw14]
  replace hS := lt_to hw14 hS
  refine Zl ?_
  refine Zr ?_
  refine Zm ?_
  refine Zm ?_
  obtain ⟨b41, hS⟩ := gd_s hS
  obtain ⟨y41_16, ey41_16, hS⟩ := lt_s hS
  refine VL.q (q_sfromE Tryz.underlying9 rfl rfl b41.1 b41.2 ey41_16) (by decide) ?_
  refine Za ?_
  refine Zl ?_
  refine VC.keep [0, 1, 6, 7] rfl ?_
  refine Zr ?_
  refine Zm ?_
  obtain ⟨b27, hS⟩ := gd_s hS
  refine VL.q (q_add rfl rfl b27) (by decide) ?_
  refine Za ?_
  refine VL.rnd (y41_16, w14, (i7_10 + 1)) [0, 1, 6, 7] (fun _ _ h => h) (go2 hS hK1) rfl
 replace hS := it_f h25 hS
 replace hS := up2 hS hK1
 refine Zx ?_
 refine Zq (Zq (Zr ?_))
 refine Zm ?_
 refine VL.q (q_gtr rfl rfl) (by decide) ?_
 refine Zl ?_
 refine VC.cond_dec rfl (fun h43 => ?_) (fun h43 => ?_)
 ·
  replace hS := it_t h43 hS
  refine Zr ?_
  refine Zm ?_
  refine Zm ?_
  obtain ⟨b46, hS⟩ := gd_s hS
  refine VL.q (q_sub rfl rfl b46) (by decide) ?_
  refine Zm ?_
  obtain ⟨z48_17, nz48_17, hz48_17, hS⟩ := at_s hS
  refine VL.q (q_ixo (s := a6_9) Tryz.underlying82 gsz9 rfl rfl nz48_17 (lt_of_get nz48_17 hz48_17)) (by decide) ?_
  refine VL.storeE (s := a6_9) (T := 9) (j := 0) (vc := [str s0_8]) (s0_8 : Str) (by decide) rfl rfl hz48_17 rfl gsz9 rfl rfl (Nat.le_of_ble_eq_true rfl) rfl (fun w18 hw18 haw18 hcw18 hvw18 hbw18 how18 => ?_)
  rw [← hvw18]
  replace hS := lt_to hw18 hS
  refine Zl ?_
  refine VC.keep [6] rfl ?_
  refine Zq (Zr ?_)
  refine Zm ?_
  refine Za ?_
  refine Zl ?_
  cases hS
  exact VC.ret (fin1 (.inr rfl) rfl rfl w18 rfl rfl (by (try dsimp only); exact InM.out) (by (try dsimp only); exact EntO.out))
 replace hS := it_f h43 hS
 refine Zk ?_
 refine Zq (Zr ?_)
 refine Zm ?_
 refine Za ?_
 refine Zl ?_
 refine VC.keep [4] rfl ?_
 cases hS
 exact VC.ret (fin1 (.inr rfl) rfl rfl a6_9 rfl rfl (by (try dsimp only); exact InM.out) (by (try dsimp only); exact EntO.out))
theorem internal_stringslite_IndexByte_ct (s_0 : Str) (c_1 : Int) {r : Int} (hS : Sh.internal_stringslite_IndexByte s_0 c_1 = some r) :
 Ct Tryz.prog 288 [str s_0, .int .u8 c_1] Mo.tt (Ow.emp) (X := Unit) (fun _ => i64 r) (fun _ => True) (fun _ => Mo.tt) (fun _ => Ow.emp) := by
 refine Ct.of Tryz.func288 rfl (by kernel_rfl) Tryz.ntmps288 (by simp) fun c => ?_
 unfold Sh.internal_stringslite_IndexByte at hS
 refine Zq (Zr ?_)
 refine Za ?_
 refine Zl ?_
 refine Zq (Zr ?_)
 refine Zm ?_
 refine Zm ?_
 refine VL.q (q_extern Tryz.func303 rfl rfl (by kernel_rfl) (by kernel_rfl) rfl (fun w => x_ixS s_0 c_1 w)) (by decide) ?_
 refine Za ?_
 refine Zl ?_
 cases hS
 exact Ze
theorem internal_stringslite_Index_ct (s_0 : Str) (substr_1 : Str) {r : Int} (hS : Sh.internal_stringslite_Index s_0 substr_1 = some r) :
 Ct Tryz.prog 264 [str s_0, str substr_1] Mo.tt (Ow.emp) (X := Unit) (fun _ => i64 r) (fun _ => True) (fun _ => Mo.tt) (fun _ => Ow.emp) := by
 refine Ct.of Tryz.func264 rfl (by kernel_rfl) Tryz.ntmps264 (by simp) fun c => ?_
 unfold Sh.internal_stringslite_Index at hS
 refine Zq (Zr ?_)
 refine Za ?_
 refine Zl ?_
 refine Zq (Zr ?_)
 refine Zm ?_
 refine VL.q (q_slen Tryz.underlying9 rfl) (by decide) ?_
 refine Za ?_
 refine Zl ?_
 refine Zq (Zb ?_)
 refine VC.cutJ (S := Bool) (fun (x16_1 : Bool) => x16_1) (fun (x16_1 : Bool) => [(0, str s_0), (1, str substr_1), (5, i64 (substr_1.length : Int)), (16, .bool x16_1)]) (fun (x16_1 : Bool) => Mo.tt) (fun (x16_1 : Bool) => Ow.emp) hS ?_ ?_
 ·
  clear hS
  intro k2 hS
  refine Zr ?_
  refine Zm ?_
  refine VL.q (q_eql rfl rfl) (by decide) ?_
  refine Zm ?_
  refine VL.split_dec 19 rfl (fun h19 => ?_) (fun h19 => ?_)
  ·
   replace hS := it_t h19 hS
   refine Zn ?_
   refine Zn ?_
   refine Zn ?_
   refine Zt ?_
   refine Za ?_
   refine VL.mt true [0, 1, 5, 16] (fun _ _ h => h) hS rfl
  replace hS := it_f h19 hS
  refine Zg ?_
  refine Zg ?_
  refine VL.gy rfl rfl (q_seq rfl rfl) (by decide) ?_
  refine Zf ?_
  refine Za ?_
  refine VL.mt (decide (substr_1 = s_0)) [0, 1, 5, 16] (fun _ _ h => h) hS rfl
 clear hS
 rintro x16_1 hS
 show VC _ _ _ _ _ [(0, str s_0), (1, str substr_1), (5, i64 (substr_1.length : Int)), (16, .bool x16_1)] (Mo.and Mo.tt _) (Ow.emp)
 refine VC.cond rfl (fun h16 => ?_) (fun h16 => ?_)
 ·
  replace hS := it_t h16 hS
  refine Zq (Zr ?_)
  refine Za ?_
  refine Zl ?_
  cases hS
  exact Ze
 replace hS := it_b h16 hS
 refine Zq (Zr ?_)
 refine Zm ?_
 refine VL.q (q_eql rfl rfl) (by decide) ?_
 refine Za ?_
 refine Zl ?_
 refine VC.cond_dec rfl (fun h24 => ?_) (fun h24 => ?_)
 ·
  replace hS := it_t h24 hS
  refine Zq (Zr ?_)
  refine Zm ?_
  refine Zm ?_
  obtain ⟨z29_3, nz29_3, hz29_3, hS⟩ := at_s hS
  refine VL.q (q_sidx Tryz.underlying9 rfl rfl nz29_3 hz29_3) (by decide) ?_
  obtain ⟨y30_4, ey30_4, hS⟩ := bd_s hS
  refine VL.q (q_call (internal_stringslite_IndexByte_ct s_0 (z29_3.toNat : Int) ey30_4) rfl (fun _ _ => rfl)) (by decide) ?_
  refine Za ?_
  refine Zl ?_
  refine VC.keep [4] rfl ?_
  cases hS
  exact Ze
 replace hS := it_f h24 hS
 refine Zq (Zr ?_)
 refine Zm ?_
 refine Zm ?_
 refine VL.q (q_slen Tryz.underlying9 rfl) (by decide) ?_
 refine VL.q (q_geq rfl rfl) (by decide) ?_
 refine Za ?_
 refine Zl ?_
 refine VC.keep [0, 1, 5, 31] rfl ?_
 refine VC.cond_dec rfl (fun h31 => ?_) (fun h31 => ?_)
 ·
  replace hS := it_t h31 hS
  refine Zq (Zr ?_)
  refine Za ?_
  refine Zl ?_
  cases hS
  exact Ze
 replace hS := it_f h31 hS
 refine Zq (Zr ?_)
 refine Zm ?_
 cases hS
theorem strings_Index_ct (s_0 : Str) (substr_1 : Str) {r : Int} (hS : Sh.strings_Index s_0 substr_1 = some r) :
 Ct Tryz.prog 228 [str s_0, str substr_1] Mo.tt (Ow.emp) (X := Unit) (fun _ => i64 r) (fun _ => True) (fun _ => Mo.tt) (fun _ => Ow.emp) := by
 refine Ct.of Tryz.func228 rfl (by kernel_rfl) Tryz.ntmps228 (by simp) fun c => ?_
 unfold Sh.strings_Index at hS
 refine Zq (Zr ?_)
 refine Za ?_
 refine Zl ?_
 refine Zq (Zr ?_)
 refine Zm ?_
 refine Zm ?_
 obtain ⟨y7_1, ey7_1, hS⟩ := bd_s hS
 refine VL.q (q_call (internal_stringslite_Index_ct s_0 substr_1 ey7_1) rfl (fun _ _ => rfl)) (by decide) ?_
 refine Za ?_
 refine Zl ?_
 cases hS
 exact Ze
theorem strings_Count_ct (s_0 : Str) (substr_1 : Str) {r : Int} (hS : Sh.strings_Count s_0 substr_1 = some r) :
 Ct Tryz.prog 260 [str s_0, str substr_1] Mo.tt (Ow.emp) (X := Unit) (fun _ => i64 r) (fun _ => True) (fun _ => Mo.tt) (fun _ => Ow.emp) := by
 refine Ct.of Tryz.func260 rfl (by kernel_rfl) Tryz.ntmps260 (by simp) fun c => ?_
 unfold Sh.strings_Count at hS
 refine Zq (Zr ?_)
 refine Za ?_
 refine Zl ?_
 refine Zq (Zq (Zr ?_))
 refine Zm ?_
 refine VL.q (q_slen Tryz.underlying9 rfl) (by decide) ?_
 refine VL.q (q_eql rfl rfl) (by decide) ?_
 refine Zl ?_
 refine VC.cond_dec rfl (fun h9 => ?_) (fun h9 => ?_)
 ·
  replace hS := it_t h9 hS
  refine Zq (Zr ?_)
  refine Zm ?_
  obtain ⟨y11_1, ey11_1, hS⟩ := bd_s hS
  refine VL.q (q_call (unicode_utf8_RuneCountInString_ct s_0 ey11_1) rfl (fun _ _ => rfl)) (by decide) ?_
  obtain ⟨b12, hS⟩ := gd_s hS
  refine VL.q (q_add rfl rfl b12) (by decide) ?_
  refine Za ?_
  refine Zl ?_
  cases hS
  exact Ze
 replace hS := it_f h9 hS
 refine Zk ?_
 refine Zq (Zq (Zr ?_))
 refine Zm ?_
 refine VL.q (q_slen Tryz.underlying9 rfl) (by decide) ?_
 refine VL.q (q_eql rfl rfl) (by decide) ?_
 refine Zl ?_
 refine VC.cond_dec rfl (fun h15 => ?_) (fun h15 => ?_)
 ·
  replace hS := it_t h15 hS
  refine Zq (Zr ?_)
  refine Zm ?_
  refine Zm ?_
  obtain ⟨z18_2, nz18_2, hz18_2, hS⟩ := at_s hS
  refine VL.q (q_sidx Tryz.underlying9 rfl rfl nz18_2 hz18_2) (by decide) ?_
  refine VL.q (q_extern Tryz.func282 rfl rfl (by kernel_rfl) (by kernel_rfl) rfl (fun w => x_cntS s_0 (z18_2.toNat : Int) w)) (by decide) ?_
  refine Za ?_
  refine Zl ?_
  refine VC.keep [4] rfl ?_
  cases hS
  exact Ze
 replace hS := it_f h15 hS
 refine Zk ?_
 refine Zq (Zr ?_)
 refine Za ?_
 refine Zl ?_
 refine Zb ?_
 refine VC.iter (S := Str × Int) (fun sg => (sg.1, sg.2)) (fun sg => [(0, str sg.1), (1, str substr_1), (5, i64 sg.2)]) (fun sg => Mo.tt) (fun sg => Ow.emp) (s_0, 0) [0, 1, 5] hS rfl ?_
 clear hS
 rintro ⟨s0_3, n5_4⟩ m1 y1 hS hK1
 show VC _ _ _ _ _ [(0, str s0_3), (1, str substr_1), (5, i64 n5_4)] (Mo.and Mo.tt _) (Ow.emp)
 refine Zb (Zq (Zr ?_))
 refine Zm ?_
 refine Zm ?_
 obtain ⟨y22_5, ey22_5, hS⟩ := bd_s hS
 refine VL.q (q_call (strings_Index_ct s0_3 substr_1 ey22_5) rfl (fun _ _ => rfl)) (by decide) ?_
 refine Za ?_
 refine Zl ?_
 refine Zq (Zq (Zr ?_))
 refine Zm ?_
 refine VL.q (q_eql rfl rfl) (by decide) ?_
 refine Zl ?_
 refine VC.cond_dec rfl (fun h24 => ?_) (fun h24 => ?_)
 ·
  replace hS := it_t h24 hS
  refine Zq (Zr ?_)
  refine Zm ?_
  refine Za ?_
  refine Zl ?_
  refine VC.keep [4] rfl ?_
  replace hS := up2 hS hK1
  cases hS
  exact Ze
 replace hS := it_f h24 hS
 refine Zk ?_
 refine Zq (Zr ?_)
 refine Zm ?_
 obtain ⟨b27, hS⟩ := gd_s hS
 refine VL.q (q_add rfl rfl b27) (by decide) ?_
 refine Za ?_
 refine Zl ?_
 refine VC.keep [0, 1, 5, 6] rfl ?_
 refine Zr ?_
 refine Zm ?_
 refine Zm ?_
 refine Zm ?_
 refine VL.q (q_slen Tryz.underlying9 rfl) (by decide) ?_
 obtain ⟨b32, hS⟩ := gd_s hS
 refine VL.q (q_add rfl rfl b32) (by decide) ?_
 obtain ⟨b33, hS⟩ := gd_s hS
 obtain ⟨y33_6, ey33_6, hS⟩ := lt_s hS
 refine VL.q (q_sfromE Tryz.underlying9 rfl rfl b33.1 b33.2 ey33_6) (by decide) ?_
 refine Za ?_
 refine VL.rnd (y33_6, (n5_4 + 1)) [0, 1, 5] (fun _ _ h => h) (go2 hS hK1) rfl
theorem strings_genSplit_ct (s_0 : Str) (sep_1 : Str) (sepSave_2 : Int) (n_3 : Int) {r : List Str} (hS : Sh.strings_genSplit s_0 sep_1 sepSave_2 n_3 = some r) :
 Ct Tryz.prog 221 [str s_0, str sep_1, i64 sepSave_2, i64 n_3] Mo.tt (Ow.emp) (X := Sv Str) (fun x => x.val) (fun x => r = x.l) (fun x => x.ok) (fun x => Ow.emp) := by
 refine Ct.of Tryz.func221 rfl (by kernel_rfl) Tryz.ntmps221 (by simp) fun c => ?_
 unfold Sh.strings_genSplit at hS
 refine Zq (Zr ?_)
 refine Za ?_
 refine Zl ?_
 refine Zq (Zq (Zr ?_))
 refine Zm ?_
 refine VL.q (q_eql rfl rfl) (by decide) ?_
 refine Zl ?_
 refine VC.cond_dec rfl (fun h13 => ?_) (fun h13 => ?_)
 ·
  replace hS := it_t h13 hS
  refine Zq (Zr ?_)
  refine Za ?_
  refine Zl ?_
  cases hS
  exact VC.ret (fin1 (.inr rfl) rfl rfl ⟨none, 0, []⟩ rfl rfl (by (try dsimp only); exact InM.out) (fun _ _ => trivial))
 replace hS := it_f h13 hS
 refine Zk ?_
 refine Zq (Zq (Zr ?_))
 refine Zm ?_
 refine Zs ?_
 refine Zl ?_
 refine VC.cond_dec rfl (fun h15 => ?_) (fun h15 => ?_)
 ·
  replace hS := it_t h15 hS
  refine Zq (Zr ?_)
  refine Zm ?_
  refine Zm ?_
  obtain ⟨y18_1, ey18_1, hS⟩ := bd_s hS
  refine VL.callO (strings_explode_ct s_0 n_3 ey18_1) rfl (by decide) ?_
  rintro q18_1_0 rfl
  try dsimp only
  refine Za ?_
  refine Zl ?_
  refine VC.keep [8] rfl ?_
  refine VC.shut q18_1_0 9 (fun _ _ _ _ => trivial) ?_
  cases hS
  exact VC.ret (fin1 (.inr rfl) rfl rfl q18_1_0 rfl rfl (by (try dsimp only); exact InM.out) (fun _ _ => trivial))
 replace hS := it_f h15 hS
 refine Zk ?_
 refine VC.cutJ (S := Int) (fun (n3_2 : Int) => n3_2) (fun (n3_2 : Int) => [(0, str s_0), (1, str sep_1), (2, i64 sepSave_2), (3, i64 n3_2)]) (fun (n3_2 : Int) => Mo.tt) (fun (n3_2 : Int) => Ow.emp) hS ?_ ?_
 ·
  clear hS
  intro k3 hS
  refine Zq (Zr ?_)
  refine Zm ?_
  refine VL.q (q_lss rfl rfl) (by decide) ?_
  refine Zl ?_
  refine VC.cond_dec rfl (fun h20 => ?_) (fun h20 => ?_)
  ·
   replace hS := it_t h20 hS
   refine Zr ?_
   refine Zm ?_
   refine Zm ?_
   obtain ⟨y23_4, ey23_4, hS⟩ := bd_s hS
   refine VL.q (q_call (strings_Count_ct s_0 sep_1 ey23_4) rfl (fun _ _ => rfl)) (by decide) ?_
   obtain ⟨b24, hS⟩ := gd_s hS
   refine VL.q (q_add rfl rfl b24) (by decide) ?_
   refine Za ?_
   refine VL.mt (y23_4 + 1) [0, 1, 2, 3] (fun _ _ h => h) hS rfl
  replace hS := it_f h20 hS
  refine VC.skip_mt n_3 [0, 1, 2, 3] (fun _ _ h => h) hS rfl
 clear hS
 rintro n3_2 hS
 show VC _ _ _ _ _ [(0, str s_0), (1, str sep_1), (2, i64 sepSave_2), (3, i64 n3_2)] (Mo.and Mo.tt _) (Ow.emp)
 refine Zq (Zr ?_)
 refine Zm ?_
 refine Zm ?_
 refine VL.q (q_slen Tryz.underlying9 rfl) (by decide) ?_
 obtain ⟨b28, hS⟩ := gd_s hS
 refine VL.q (q_add rfl rfl b28) (by decide) ?_
 refine VL.q (q_min rfl) (by decide) ?_
 refine Za ?_
 refine Zl ?_
 refine Zq (Zr ?_)
 refine Zm ?_
 obtain ⟨b31, hS⟩ := gd_s hS
 refine VL.make (α := Str) (z := []) Tryz.underlying82 gmk9 (by decide) rfl rfl b31.1 (Int.le_refl _) (by omega) (by omega) (by decide) (fun s31_5 hs31_5 => ?_)
 replace hS := lt_to hs31_5 hS
 refine Za ?_
 refine Zl ?_
 refine VC.keep [0, 1, 2, 3, 9] rfl ?_
 refine Zq (Zr ?_)
 refine Zm ?_
 obtain ⟨b33, hS⟩ := gd_s hS
 refine VL.q (q_sub rfl rfl b33) (by decide) ?_
 refine Za ?_
 refine Zl ?_
 refine Zq (Zr ?_)
 refine Za ?_
 refine Zl ?_
 refine VC.cutJ (S := Str × Sv Str × Int) (fun sg => (sg.1, sg.2.1.l, sg.2.2)) (fun sg => [(0, str sg.1), (9, sg.2.1.val), (10, i64 sg.2.2)]) (fun sg => Mo.tt) (fun sg => Ow.star (Sv.own sg.2.1 9) (Ow.emp)) hS ?_ ?_
 ·
  clear hS
  intro k10 hS
  refine Zb ?_
  refine VC.iter (S := Str × Sv Str × Int) (fun sg => (sg.1, sg.2.1.l, sg.2.2)) (fun sg => [(0, str sg.1), (1, str sep_1), (2, i64 sepSave_2), (3, i64 ((min n3_2 ((s_0.length : Int) + 1)) - 1)), (9, sg.2.1.val), (10, i64 sg.2.2)]) (fun sg => Mo.tt) (fun sg => Ow.star (Sv.own sg.2.1 9) (Ow.emp)) (s_0, s31_5, 0) [0, 1, 2, 3, 9, 10] hS rfl ?_
  clear hS
  rintro ⟨s0_11, a9_12, i10_13⟩ m1 y1 hS hK1
  show VC _ _ _ _ _ [(0, str s0_11), (1, str sep_1), (2, i64 sepSave_2), (3, i64 ((min n3_2 ((s_0.length : Int) + 1)) - 1)), (9, a9_12.val), (10, i64 i10_13)] (Mo.and Mo.tt _) (Ow.star (Sv.own a9_12 9) (Ow.emp))
  refine Zq (Zq (Zr ?_))
  refine Zm ?_
  refine Zm ?_
  refine VL.q (q_lss rfl rfl) (by decide) ?_
  refine Zl ?_
  refine VC.cond_dec rfl (fun h36 => ?_) (fun h36 => ?_)
  ·
   replace hS := it_t h36 hS
   refine Zk ?_
   refine Zb (Zq (Zr ?_))
   refine Zm ?_
   refine Zm ?_
   obtain ⟨y39_14, ey39_14, hS⟩ := bd_s hS
   refine VL.q (q_call (strings_Index_ct s0_11 sep_1 ey39_14) rfl (fun _ _ => rfl)) (by decide) ?_
   refine Za ?_
   refine Zl ?_
   refine Zq (Zq (Zr ?_))
   refine Zm ?_
   refine VL.q (q_lss rfl rfl) (by decide) ?_
   refine Zl ?_
   refine VC.keep [0, 1, 2, 3, 9, 10, 11, 41] rfl ?_
   refine VC.cond_dec rfl (fun h41 => ?_) (fun h41 => ?_)
   ·
    replace hS := it_t h41 hS
    replace hS := up2 hS hK1
    refine VC.exit_mt (s0_11, a9_12, i10_13) [0, 9, 10] (fun _ _ h => h) hS rfl
   replace hS := it_f h41 hS
   refine Zk ?_
   refine Zq (Zr ?_)
   refine Zm ?_
   refine Zm ?_
   refine Zm ?_
   refine Zm ?_
   refine Zm ?_
   obtain ⟨b47, hS⟩ := gd_s hS
   refine VL.q (q_add rfl rfl b47) (by decide) ?_
   obtain ⟨b48, hS⟩ := gd_s hS
   obtain ⟨y48_15, ey48_15, hS⟩ := lt_s hS
   refine VL.q (q_stoE Tryz.underlying9 rfl rfl b48.1 b48.2 ey48_15) (by decide) ?_
   obtain ⟨z49_16, nz49_16, hz49_16, hS⟩ := at_s hS
   refine VL.q (q_ixo (s := a9_12) Tryz.underlying82 gsz9 rfl rfl nz49_16 (lt_of_get nz49_16 hz49_16)) (by decide) ?_
   refine VL.storeE (s := a9_12) (T := 9) (j := 0) (vc := [str y48_15]) (y48_15 : Str) (by decide) rfl rfl hz49_16 rfl gsz9 rfl rfl (Nat.le_of_ble_eq_true rfl) rfl (fun w17 hw17 haw17 hcw17 hvw17 hbw17 how17 => ?_)
   rw [← hvw17]
   replace hS := lt_to hw17 hS
   refine Zl ?_
   refine VC.keep [0, 1, 2, 3, 9, 10, 11] rfl ?_
   refine Zq (Zr ?_)
   refine Zm ?_
   refine Zm ?_
   refine Zm ?_
   refine VL.q (q_slen Tryz.underlying9 rfl) (by decide) ?_
   obtain ⟨b54, hS⟩ := gd_s hS
   refine VL.q (q_add rfl rfl b54) (by decide) ?_
   obtain ⟨b55, hS⟩ := gd_s hS
   obtain ⟨y55_19, ey55_19, hS⟩ := lt_s hS
   refine VL.q (q_sfromE Tryz.underlying9 rfl rfl b55.1 b55.2 ey55_19) (by decide) ?_
   refine Za ?_
   refine Zl ?_
   refine VC.keep [0, 1, 2, 3, 9, 10] rfl ?_
   refine Zr ?_
   refine Zm ?_
   obtain ⟨b57, hS⟩ := gd_s hS
   refine VL.q (q_add rfl rfl b57) (by decide) ?_
   refine Za ?_
   refine VL.rnd (y55_19, w17, (i10_13 + 1)) [0, 1, 2, 3, 9, 10] (fun _ _ h => h) (go2 hS hK1) rfl
  replace hS := it_f h36 hS
  replace hS := up2 hS hK1
  refine VC.exit_mt (s0_11, a9_12, i10_13) [0, 9, 10] (fun _ _ h => h) hS rfl
 clear hS
 rintro ⟨s0_7, a9_8, i10_9⟩ hS
 show VC _ _ _ _ _ [(0, str s0_7), (9, a9_8.val), (10, i64 i10_9)] (Mo.and Mo.tt _) (Ow.star (Sv.own a9_8 9) (Ow.emp))
 refine Zq (Zr ?_)
 refine Zm ?_
 refine Zm ?_
 refine Zm ?_
 obtain ⟨z61_20, nz61_20, hz61_20, hS⟩ := at_s hS
 refine VL.q (q_ixo (s := a9_8) Tryz.underlying82 gsz9 rfl rfl nz61_20 (lt_of_get nz61_20 hz61_20)) (by decide) ?_
 refine VL.storeE (s := a9_8) (T := 9) (j := 0) (vc := [str s0_7]) (s0_7 : Str) (by decide) rfl rfl hz61_20 rfl gsz9 rfl rfl (Nat.le_of_ble_eq_true rfl) rfl (fun w21 hw21 haw21 hcw21 hvw21 hbw21 how21 => ?_)
 rw [← hvw21]
 replace hS := lt_to hw21 hS
 refine Zl ?_
 refine Zq (Zr ?_)
 refine Zm ?_
 refine Zm ?_
 obtain ⟨b64, hS⟩ := gd_s hS
 refine VL.q (q_add rfl rfl b64) (by decide) ?_
 refine VL.shut w21 9 (fun _ _ _ _ => trivial) ?_
 obtain ⟨b65, hS⟩ := gd_s hS
 refine VL.sto Tryz.underlying82 gsz9 rfl rfl b65.1 (b65.2) (by decide) fun s65_23 hs65_23 => ?_
 replace hS := lt_to hs65_23 hS
 refine Za ?_
 refine Zl ?_
 refine VC.keep [8] rfl ?_
 cases hS
 exact VC.ret (fin1 (.inr rfl) rfl rfl s65_23 rfl rfl (by (try dsimp only); exact InM.out) (fun _ _ => trivial))
theorem strings_Split_ct (s_0 : Str) (sep_1 : Str) {r : List Str} (hS : Sh.strings_Split s_0 sep_1 = some r) :
 Ct Tryz.prog 177 [str s_0, str sep_1] Mo.tt (Ow.emp) (X := Sv Str) (fun x => x.val) (fun x => r = x.l) (fun x => x.ok) (fun x => Ow.emp) := by
 refine Ct.of Tryz.func177 rfl (by kernel_rfl) Tryz.ntmps177 (by simp) fun c => ?_
 unfold Sh.strings_Split at hS
 refine Zq (Zr ?_)
 refine Za ?_
 refine Zl ?_
 refine Zq (Zr ?_)
 refine Zm ?_
 refine Zm ?_
 obtain ⟨y7_1, ey7_1, hS⟩ := bd_s hS
 refine VL.callF (strings_genSplit_ct s_0 sep_1 0 (-1) ey7_1) rfl (by decide) ?_
 rintro q7_1_0 rfl
 try dsimp only
 refine Za ?_
 refine Zl ?_
 cases hS
 exact VC.ret (fin1 (.inr rfl) rfl rfl q7_1_0 rfl rfl (by (try dsimp only); exact InM.out) (fun _ _ => trivial))
theorem path_good_ct (c_0 : Int) {r : Bool} (hS : Sh.path_good c_0 = some r) :
 Ct Tryz.prog 222 [.int .u8 c_0] Mo.tt (Ow.emp) (X := Unit) (fun _ => .bool r) (fun _ => True) (fun _ => Mo.tt) (fun _ => Ow.emp) := by
 refine Ct.of Tryz.func222 rfl (by kernel_rfl) Tryz.ntmps222 (by simp) fun c => ?_
 unfold Sh.path_good at hS
 refine Zq (Zr ?_)
 refine Za ?_
 refine Zl ?_
 refine VC.cutJ (S := Unit) (fun (_ : Unit) => ()) (fun (_ : Unit) => [(0, .int .u8 c_0)]) (fun (_ : Unit) => Mo.tt) (fun (_ : Unit) => Ow.emp) hS ?_ ?_
 ·
  clear hS
  intro k1 hS
  refine Zq (Zr ?_)
  refine Zm ?_
  refine Zl ?_
  refine Zb ?_
  refine VC.cutJ (S := Unit) (fun (_ : Unit) => ()) (fun (_ : Unit) => []) (fun (_ : Unit) => Mo.tt) (fun (_ : Unit) => Ow.emp) hS ?_ ?_
  ·
   clear hS
   intro k2 hS
   refine Zb (Zb (Zb (Zq (Zq (Zq (Zr ?_))))))
   refine VL.q (q_eql rfl rfl) (by decide) ?_
   refine Za ?_
   refine Zl ?_
   refine VC.cond_dec rfl (fun h4 => ?_) (fun h4 => ?_)
   ·
    replace hS := it_t h4 hS
    refine VC.exit_mt () [] (fun _ _ h => h) hS rfl
   replace hS := it_f h4 hS
   refine Zk ?_
   refine Zq (Zq (Zr ?_))
   refine VL.q (q_eql rfl rfl) (by decide) ?_
   refine Za ?_
   refine Zl ?_
   refine VC.cond_dec rfl (fun h6 => ?_) (fun h6 => ?_)
   ·
    replace hS := it_t h6 hS
    refine VC.exit_mt () [] (fun _ _ h => h) hS rfl
   replace hS := it_f h6 hS
   refine Zk ?_
   refine Zq (Zr ?_)
   refine VL.q (q_eql rfl rfl) (by decide) ?_
   refine Za ?_
   refine Zl ?_
   refine VC.cond_dec rfl (fun h8 => ?_) (fun h8 => ?_)
   ·
    replace hS := it_t h8 hS
    refine VC.exit_mt () [] (fun _ _ h => h) hS rfl
   replace hS := it_f h8 hS
   refine Zk ?_
   refine VC.exit_mt () [0] (fun _ _ h => h) hS rfl
  clear hS
  rintro _ hS
  show VC _ _ _ _ _ [] (Mo.and Mo.tt _) (Ow.emp)
  refine Zq (Zq (Zr ?_))
  refine Za ?_
  refine Zl ?_
  cases hS
  exact Ze
 clear hS
 rintro _ hS
 show VC _ _ _ _ _ [(0, .int .u8 c_0)] (Mo.and Mo.tt _) (Ow.emp)
 refine Zq (Zr ?_)
 refine Zm ?_
 refine VL.q (q_geq rfl rfl) (by decide) ?_
 refine Zm ?_
 refine VL.split_dec 12 rfl (fun h12 => ?_) (fun h12 => ?_)
 ·
  replace hS := it_t h12 hS
  refine Zg ?_
  refine VL.gy rfl rfl (q_leq rfl rfl) (by decide) ?_
  refine Zt ?_
  refine Zm ?_
  refine VL.split_dec 16 rfl (fun h16 => ?_) (fun h16 => ?_)
  ·
   replace hS := it_t h16 hS
   refine Zn ?_
   refine Zn ?_
   refine Zn ?_
   refine VL.gu rfl rfl (by decide) ?_
   refine VL.gu rfl rfl (by decide) ?_
   refine Zn ?_
   refine Zt ?_
   refine Za ?_
   refine Zl ?_
   refine VC.keep [2] rfl ?_
   cases hS
   exact Ze
  replace hS := it_f h16 hS
  refine Zg ?_
  refine VL.gy rfl rfl (q_geq rfl rfl) (by decide) ?_
  refine Zg ?_
  refine VL.split_dec 19 rfl (fun h19 => ?_) (fun h19 => ?_)
  ·
   replace hS := it_t h19 hS
   refine Zg ?_
   refine VL.gy rfl rfl (q_leq rfl rfl) (by decide) ?_
   refine VL.gy rfl rfl (q_pick_t rfl rfl) (by decide) ?_
   refine Zf ?_
   refine Za ?_
   refine Zl ?_
   refine VC.keep [2] rfl ?_
   cases hS
   exact Ze
  replace hS := it_f h19 hS
  refine Zn ?_
  refine Zn ?_
  refine VL.gy rfl rfl (q_pick_f rfl rfl) (by decide) ?_
  refine Zf ?_
  refine Za ?_
  refine Zl ?_
  refine VC.keep [2] rfl ?_
  cases hS
  exact Ze
 replace hS := it_f h12 hS
 refine Zn ?_
 refine Zn ?_
 refine Zf ?_
 refine Zm ?_
 refine Zg ?_
 refine VL.gy rfl rfl (q_geq rfl rfl) (by decide) ?_
 refine Zg ?_
 refine VL.split_dec 19 rfl (fun h19 => ?_) (fun h19 => ?_)
 ·
  replace hS := it_t h19 hS
  refine Zg ?_
  refine VL.gy rfl rfl (q_leq rfl rfl) (by decide) ?_
  refine VL.gy rfl rfl (q_pick_t rfl rfl) (by decide) ?_
  refine Zf ?_
  refine Za ?_
  refine Zl ?_
  refine VC.keep [2] rfl ?_
  cases hS
  exact Ze
 replace hS := it_f h19 hS
 refine Zn ?_
 refine Zn ?_
 refine VL.gy rfl rfl (q_pick_f rfl rfl) (by decide) ?_
 refine Zf ?_
 refine Za ?_
 refine Zl ?_
 refine VC.keep [2] rfl ?_
 cases hS
 exact Ze
theorem path_part_ct (s_0 : Str) {r : Bool} (hS : Sh.path_part s_0 = some r) :
 Ct Tryz.prog 178 [str s_0] Mo.tt (Ow.emp) (X := Unit) (fun _ => .bool r) (fun _ => True) (fun _ => Mo.tt) (fun _ => Ow.emp) := by
 refine Ct.of Tryz.func178 rfl (by kernel_rfl) Tryz.ntmps178 (by simp) fun c => ?_
 unfold Sh.path_part at hS
 refine Zq (Zr ?_)
 refine Za ?_
 refine Zl ?_
 refine Zq ?_
 refine VC.cutJ (S := Bool) (fun (x14_1 : Bool) => x14_1) (fun (x14_1 : Bool) => [(0, str s_0), (14, .bool x14_1)]) (fun (x14_1 : Bool) => Mo.tt) (fun (x14_1 : Bool) => Ow.emp) hS ?_ ?_
 ·
  clear hS
  intro k2 hS
  refine Zr ?_
  refine Zm ?_
  refine Zs ?_
  refine Zm ?_
  refine VL.split_dec 7 rfl (fun h7 => ?_) (fun h7 => ?_)
  ·
   replace hS := it_t h7 hS
   refine Zn ?_
   refine Zn ?_
   refine Zt ?_
   refine Zm ?_
   refine Zn ?_
   refine Zn ?_
   refine Zt ?_
   refine VL.mt true [0, 14] (fun _ _ h => h) hS rfl
  replace hS := it_f h7 hS
  refine Zg ?_
  refine VL.gy rfl rfl (q_seq rfl rfl) (by decide) ?_
  refine Zf ?_
  refine Zm ?_
  refine VL.split_dec 11 rfl (fun h11 => ?_) (fun h11 => ?_)
  ·
   replace hS := it_t h11 hS
   refine Zn ?_
   refine Zn ?_
   refine Zt ?_
   refine VL.mt true [0, 14] (fun _ _ h => h) hS rfl
  replace hS := it_f h11 hS
  refine Zg ?_
  refine VL.gy rfl rfl (q_seq rfl rfl) (by decide) ?_
  refine Zf ?_
  refine VL.mt (decide (s_0 = [46, 46])) [0, 14] (fun _ _ h => h) hS rfl
 clear hS
 rintro x14_1 hS
 show VC _ _ _ _ _ [(0, str s_0), (14, .bool x14_1)] (Mo.and Mo.tt _) (Ow.emp)
 refine VC.cond rfl (fun h14 => ?_) (fun h14 => ?_)
 ·
  replace hS := it_t h14 hS
  refine Zq (Zr ?_)
  refine Za ?_
  refine Zl ?_
  cases hS
  exact Ze
 replace hS := it_b h14 hS
 refine Zk ?_
 refine Zq (Zq (Zr ?_))
 refine Zm ?_
 obtain ⟨b16, hS⟩ := gd_s hS
 refine VL.s2b Tryz.underlying9 Tryz.underlying27 Tryz.underlying5 rfl b16 (by decide) fun s16_3 hs16_3 => ?_
 replace hS := lt_to hs16_3 hS
 refine VL.q (q_ln (s := s16_3) Tryz.underlying27 rfl) (by decide) ?_
 refine Zm ?_
 refine Zl ?_
 refine Zb ?_
 refine VC.iter (S := Int) (fun (x18_5 : Int) => x18_5) (fun (x18_5 : Int) => [(16, s16_3.val), (17, i64 (s16_3.l.length : Int)), (18, i64 x18_5)]) (fun (x18_5 : Int) => Mo.tt) (fun (x18_5 : Int) => Ow.emp) 0 [16, 17, 18] hS rfl ?_
 clear hS
 rintro x18_5 m1 y1 hS hK1
 show VC _ _ _ _ _ [(16, s16_3.val), (17, i64 (s16_3.l.length : Int)), (18, i64 x18_5)] (Mo.and Mo.tt _) (Ow.emp)
 refine Zq (Zr ?_)
 refine VL.q (q_lss rfl rfl) (by decide) ?_
 refine Zl ?_
 refine Zq ?_
 refine VC.cond_dec rfl (fun h19 => ?_) (fun h19 => ?_)
 ·
  replace hS := it_t h19 hS
  refine Zk ?_
  refine Zq (Zb (Zq (Zr ?_)))
  obtain ⟨z20_6, nz20_6, hz20_6, hS⟩ := at_s hS
  refine VL.q (q_ixm (s := s16_3) Tryz.underlying27 gsz5 rfl rfl nz20_6 (lt_of_get nz20_6 hz20_6)) (by decide) ?_
  refine VL.q (q_el (s := s16_3) gone5 rfl hz20_6 rfl) (by decide) ?_
  refine Za ?_
  refine Zl ?_
  refine Zq (Zr ?_)
  refine Zm ?_
  obtain ⟨y23_7, ey23_7, hS⟩ := bd_s hS
  refine VL.q (q_call (path_good_ct (z20_6.toNat : Int) ey23_7) rfl (fun _ _ => rfl)) (by decide) ?_
  refine VL.q (q_not rfl) (by decide) ?_
  refine Zl ?_
  refine VC.cond rfl (fun h24 => ?_) (fun h24 => ?_)
  ·
   replace hS := it_t h24 hS
   refine Zq (Zr ?_)
   refine Za ?_
   refine Zl ?_
   refine VC.keep [2] rfl ?_
   replace hS := up2 hS hK1
   cases hS
   exact Ze
  replace hS := it_b h24 hS
  refine Zk ?_
  refine Zr ?_
  obtain ⟨b25, hS⟩ := gd_s hS
  refine VL.q (q_add rfl rfl b25) (by decide) ?_
  refine Zm ?_
  refine VL.rnd (x18_5 + 1) [16, 17, 18] (fun _ _ h => h) (go2 hS hK1) rfl
 replace hS := it_f h19 hS
 replace hS := up2 hS hK1
 refine Zx ?_
 refine Zq (Zr ?_)
 refine Za ?_
 refine Zl ?_
 cases hS
 exact Ze
theorem path_Check_ct (p_0 : Str) {r : Int} (hS : Sh.path_Check p_0 = some r) :
 Ct Tryz.prog 122 [str p_0] Mo.tt (Ow.emp) (X := Unit) (fun _ => i64 r) (fun _ => True) (fun _ => Mo.tt) (fun _ => Ow.emp) := by
 refine Ct.of Tryz.func122 rfl (by kernel_rfl) Tryz.ntmps122 (by simp) fun c => ?_
 unfold Sh.path_Check at hS
 refine Zq (Zr ?_)
 refine Za ?_
 refine Zl ?_
 refine Zq (Zq (Zr ?_))
 refine Zm ?_
 refine VL.q (q_slen Tryz.underlying9 rfl) (by decide) ?_
 refine VL.q (q_gtr rfl rfl) (by decide) ?_
 refine Zl ?_
 refine VC.cond_dec rfl (fun h7 => ?_) (fun h7 => ?_)
 ·
  replace hS := it_t h7 hS
  refine Zq (Zr ?_)
  refine Za ?_
  refine Zl ?_
  cases hS
  exact Ze
 replace hS := it_f h7 hS
 refine Zk ?_
 refine Zq (Zq (Zr ?_))
 refine Zm ?_
 obtain ⟨y9_1, ey9_1, hS⟩ := bd_s hS
 refine VL.callF (strings_Split_ct p_0 [47] ey9_1) rfl (by decide) ?_
 rintro q9_1_0 rfl
 try dsimp only
 refine VL.q (q_ln (s := q9_1_0) Tryz.underlying82 rfl) (by decide) ?_
 refine Zm ?_
 refine Zl ?_
 refine Zb ?_
 refine VC.iter (S := Int) (fun (x11_2 : Int) => x11_2) (fun (x11_2 : Int) => [(9, q9_1_0.val), (10, i64 (q9_1_0.l.length : Int)), (11, i64 x11_2)]) (fun (x11_2 : Int) => Mo.tt) (fun (x11_2 : Int) => Ow.emp) 0 [9, 10, 11] hS rfl ?_
 clear hS
 rintro x11_2 m1 y1 hS hK1
 show VC _ _ _ _ _ [(9, q9_1_0.val), (10, i64 (q9_1_0.l.length : Int)), (11, i64 x11_2)] (Mo.and Mo.tt _) (Ow.emp)
 refine Zq (Zr ?_)
 refine VL.q (q_lss rfl rfl) (by decide) ?_
 refine Zl ?_
 refine Zq ?_
 refine VC.cond_dec rfl (fun h12 => ?_) (fun h12 => ?_)
 ·
  replace hS := it_t h12 hS
  refine Zk ?_
  refine Zq (Zb (Zq (Zr ?_)))
  obtain ⟨z13_3, nz13_3, hz13_3, hS⟩ := at_s hS
  refine VL.q (q_ixm (s := q9_1_0) Tryz.underlying82 gsz9 rfl rfl nz13_3 (lt_of_get nz13_3 hz13_3)) (by decide) ?_
  refine VL.q (q_el (s := q9_1_0) gone9 rfl hz13_3 rfl) (by decide) ?_
  refine Za ?_
  refine Zl ?_
  refine Zq (Zr ?_)
  refine Zm ?_
  obtain ⟨y16_4, ey16_4, hS⟩ := bd_s hS
  refine VL.q (q_call (path_part_ct z13_3 ey16_4) rfl (fun _ _ => rfl)) (by decide) ?_
  refine VL.q (q_not rfl) (by decide) ?_
  refine Zl ?_
  refine VC.cond rfl (fun h17 => ?_) (fun h17 => ?_)
  ·
   replace hS := it_t h17 hS
   refine Zq (Zr ?_)
   refine Za ?_
   refine Zl ?_
   refine VC.keep [2] rfl ?_
   replace hS := up2 hS hK1
   cases hS
   exact Ze
  replace hS := it_b h17 hS
  refine Zk ?_
  refine Zr ?_
  obtain ⟨b18, hS⟩ := gd_s hS
  refine VL.q (q_add rfl rfl b18) (by decide) ?_
  refine Zm ?_
  refine VL.rnd (x11_2 + 1) [9, 10, 11] (fun _ _ h => h) (go2 hS hK1) rfl
 replace hS := it_f h12 hS
 replace hS := up2 hS hK1
 refine Zx ?_
 refine Zq (Zr ?_)
 refine Za ?_
 refine Zl ?_
 cases hS
 exact Ze
theorem index_beside_ct (a_0 : IndexEntry) (b_1 : IndexEntry) {r : Bool} (hS : Sh.index_beside a_0 b_1 = some r) :
 Ct Tryz.prog 164 [.agg #[str a_0.path, i64 a_0.stage, i64 a_0.mode, str a_0.data, i64 a_0.time, i64 a_0.size], .agg #[str b_1.path, i64 b_1.stage, i64 b_1.mode, str b_1.data, i64 b_1.time, i64 b_1.size]] Mo.tt (Ow.emp) (X := Unit) (fun _ => .bool r) (fun _ => True) (fun _ => Mo.tt) (fun _ => Ow.emp) := by
 refine Ct.of Tryz.func164 rfl (by kernel_rfl) Tryz.ntmps164 (by simp) fun c => ?_
 unfold Sh.index_beside at hS
 refine Zq (Zr ?_)
 refine VL.box (cs := [str a_0.path, i64 a_0.stage, i64 a_0.mode, str a_0.data, i64 a_0.time, i64 a_0.size]) rfl rfl (by decide) fun b2_1 => ?_
 refine VL.box (cs := [str b_1.path, i64 b_1.stage, i64 b_1.mode, str b_1.data, i64 b_1.time, i64 b_1.size]) rfl rfl (by decide) fun b3_2 => ?_
 refine Za ?_
 refine Zl ?_
 refine Zq (Zr ?_)
 refine VL.q (q_field gfa149_0 rfl) (by decide) ?_
 refine VL.q (q_fe gone9 rfl rfl) (by decide) ?_
 refine VL.q (q_field gfa149_0 rfl) (by decide) ?_
 refine VL.q (q_fe gone9 rfl rfl) (by decide) ?_
 refine Zs ?_
 refine Zm ?_
 refine VL.split_dec 10 rfl (fun h10 => ?_) (fun h10 => ?_)
 ·
  replace hS := it_t h10 hS
  refine VL.gy rfl rfl (q_field gfa149_1 rfl) (by decide) ?_
  refine VL.gy rfl rfl (q_fe gone3 rfl rfl) (by decide) ?_
  refine VL.gy rfl rfl (q_eql rfl rfl) (by decide) ?_
  refine Zg ?_
  refine VL.split_dec 14 rfl (fun h14 => ?_) (fun h14 => ?_)
  ·
   replace hS := it_t h14 hS
   refine Zn ?_
   refine Zn ?_
   refine Zn ?_
   refine VL.gy rfl rfl (q_pick_t rfl rfl) (by decide) ?_
   refine Zt ?_
   refine Za ?_
   refine Zl ?_
   refine VC.keep [4] rfl ?_
   cases hS
   exact Ze
  replace hS := it_f h14 hS
  refine VL.gy rfl rfl (q_field gfa149_1 rfl) (by decide) ?_
  refine VL.gy rfl rfl (q_fe gone3 rfl rfl) (by decide) ?_
  refine VL.gy rfl rfl (q_eql rfl rfl) (by decide) ?_
  refine VL.gy rfl rfl (q_pick_f rfl rfl) (by decide) ?_
  refine Zt ?_
  refine Za ?_
  refine Zl ?_
  refine VC.keep [4] rfl ?_
  cases hS
  exact Ze
 replace hS := it_f h10 hS
 refine Zn ?_
 refine Zn ?_
 refine Zn ?_
 refine Zn ?_
 refine VL.gu rfl rfl (by decide) ?_
 refine VL.gu rfl rfl (by decide) ?_
 refine VL.gu rfl rfl (by decide) ?_
 refine Zn ?_
 refine Zf ?_
 refine Za ?_
 refine Zl ?_
 refine VC.keep [4] rfl ?_
 cases hS
 exact Ze
theorem index_wrong_1_ct (x_0 : IndexEntry) (a_1_b : Nat) (a_1 : IndexEntry) {r : Bool} (hS : Sh.index_wrong_1 x_0 a_1 = some r) :
 Ct Tryz.prog 163 [.agg #[str x_0.path, i64 x_0.stage, i64 x_0.mode, str x_0.data, i64 x_0.time, i64 x_0.size], ptr a_1_b 0] (Cells a_1_b 0 [str a_1.path, i64 a_1.stage, i64 a_1.mode, str a_1.data, i64 a_1.time, i64 a_1.size]) (Ow.emp) (X := Unit) (fun _ => .bool r) (fun _ => True) (fun _ => Mo.tt) (fun _ => Ow.emp) := by
 refine Ct.of Tryz.func163 rfl (by kernel_rfl) Tryz.ntmps163 (by simp) fun c => ?_
 unfold Sh.index_wrong_1 at hS
 refine Zq (Zr ?_)
 refine VL.box (cs := [str x_0.path, i64 x_0.stage, i64 x_0.mode, str x_0.data, i64 x_0.time, i64 x_0.size]) rfl rfl (by decide) fun b2_1 => ?_
 refine Za ?_
 refine Zl ?_
 refine Zq (Zr ?_)
 refine VL.q (q_fes gagg149 rfl rfl) (by decide) ?_
 refine VL.q (q_fms gagg149 rfl rfl) (by decide) ?_
 obtain ⟨y6_2, ey6_2, hS⟩ := bd_s hS
 refine VL.q (q_call (index_beside_ct x_0 a_1 ey6_2) rfl (fun _ _ => rfl)) (by decide) ?_
 refine Za ?_
 refine Zl ?_
 cases hS
 exact Ze
theorem slices_IndexFunc_index_Entry_index_Entry_v2_ct (s_0 : Sv IndexEntry) (f_1_0_b : Nat) (f_1_0 : IndexEntry) {r : Int} (hS : Sh.slices_IndexFunc_index_Entry_index_Entry_v2 s_0.l f_1_0 = some r) :
 Ct Tryz.prog 198 [s_0.val, .func (.func 163) #[] #[ptr f_1_0_b 0]] (s_0.ok.and (Cells f_1_0_b 0 [str f_1_0.path, i64 f_1_0.stage, i64 f_1_0.mode, str f_1_0.data, i64 f_1_0.time, i64 f_1_0.size])) (Ow.emp) (X := Unit) (fun _ => i64 r) (fun _ => True) (fun _ => Mo.tt) (fun _ => Ow.emp) := by
 refine Ct.of Tryz.func198 rfl (by kernel_rfl) Tryz.ntmps198 (by simp) fun c => ?_
 unfold Sh.slices_IndexFunc_index_Entry_index_Entry_v2 at hS
 refine Zq (Zr ?_)
 refine Za ?_
 refine Zl ?_
 refine Zq (Zq (Zr ?_))
 refine Zm ?_
 refine VL.q (q_ln (s := s_0) Tryz.underlying66 rfl) (by decide) ?_
 refine Zm ?_
 refine Zl ?_
 refine Zb ?_
 refine VC.iter (S := Int) (fun (x8_1 : Int) => x8_1) (fun (x8_1 : Int) => [(0, s_0.val), (1, .func (.func 163) #[] #[ptr f_1_0_b 0]), (7, i64 (s_0.l.length : Int)), (8, i64 x8_1)]) (fun (x8_1 : Int) => Mo.tt) (fun (x8_1 : Int) => Ow.emp) 0 [0, 1, 7, 8] hS rfl ?_
 clear hS
 rintro x8_1 m1 y1 hS hK1
 show VC _ _ _ _ _ [(0, s_0.val), (1, .func (.func 163) #[] #[ptr f_1_0_b 0]), (7, i64 (s_0.l.length : Int)), (8, i64 x8_1)] (Mo.and Mo.tt _) (Ow.emp)
 refine Zq (Zr ?_)
 refine VL.q (q_lss rfl rfl) (by decide) ?_
 refine Zl ?_
 refine Zq ?_
 refine VC.cond_dec rfl (fun h9 => ?_) (fun h9 => ?_)
 ·
  replace hS := it_t h9 hS
  refine Zk ?_
  refine Zq (Zb (Zq (Zr ?_)))
  refine Zm ?_
  refine Za ?_
  refine Zl ?_
  refine Zq (Zr ?_)
  refine Zm ?_
  refine Zm ?_
  refine Zm ?_
  obtain ⟨z14_2, nz14_2, hz14_2, hS⟩ := at_s hS
  refine VL.q (q_ixm (s := s_0) Tryz.underlying66 gsz149 rfl rfl nz14_2 (lt_of_get nz14_2 hz14_2)) (by decide) ?_
  refine VL.q (q_els (s := s_0) gagg149 rfl rfl hz14_2) (by decide) ?_
  obtain ⟨y16_3, ey16_3, hS⟩ := bd_s hS
  refine VL.q (q_callVC (vs := [.agg #[str z14_2.path, i64 z14_2.stage, i64 z14_2.mode, str z14_2.data, i64 z14_2.time, i64 z14_2.size]]) (caps := [ptr f_1_0_b 0]) (index_wrong_1_ct z14_2 f_1_0_b f_1_0 ey16_3) rfl rfl (fun _ _ => rfl)) (by decide) ?_
  refine Zl ?_
  refine VC.keep [0, 1, 7, 8, 5, 16] rfl ?_
  refine VC.cond rfl (fun h16 => ?_) (fun h16 => ?_)
  ·
   replace hS := it_t h16 hS
   refine Zq (Zr ?_)
   refine Zm ?_
   refine Za ?_
   refine Zl ?_
   replace hS := up2 hS hK1
   cases hS
   exact Ze
  replace hS := it_b h16 hS
  refine Zk ?_
  refine Zr ?_
  obtain ⟨b18, hS⟩ := gd_s hS
  refine VL.q (q_add rfl rfl b18) (by decide) ?_
  refine Zm ?_
  refine VL.rnd (x8_1 + 1) [0, 1, 7, 8] (fun _ _ h => h) (go2 hS hK1) rfl
 replace hS := it_f h9 hS
 replace hS := up2 hS hK1
 refine Zx ?_
 refine Zq (Zr ?_)
 refine Za ?_
 refine Zl ?_
 cases hS
 exact Ze
theorem slices_ContainsFunc_index_Entry_index_Entry_ct (s_0 : Sv IndexEntry) (f_1_0_b : Nat) (f_1_0 : IndexEntry) {r : Bool} (hS : Sh.slices_ContainsFunc_index_Entry_index_Entry s_0.l f_1_0 = some r) :
 Ct Tryz.prog 162 [s_0.val, .func (.func 163) #[] #[ptr f_1_0_b 0]] (s_0.ok.and (Cells f_1_0_b 0 [str f_1_0.path, i64 f_1_0.stage, i64 f_1_0.mode, str f_1_0.data, i64 f_1_0.time, i64 f_1_0.size])) (Ow.emp) (X := Unit) (fun _ => .bool r) (fun _ => True) (fun _ => Mo.tt) (fun _ => Ow.emp) := by
 refine Ct.of Tryz.func162 rfl (by kernel_rfl) Tryz.ntmps162 (by simp) fun c => ?_
 unfold Sh.slices_ContainsFunc_index_Entry_index_Entry at hS
 refine Zq (Zr ?_)
 refine Za ?_
 refine Zl ?_
 refine Zq (Zr ?_)
 refine Zm ?_
 refine Zm ?_
 obtain ⟨y7_1, ey7_1, hS⟩ := bd_s hS
 refine VL.q (q_callR (slices_IndexFunc_index_Entry_index_Entry_v2_ct s_0 f_1_0_b f_1_0 ey7_1) rfl (fun _ _ => rfl)) (by decide) ?_
 refine VL.q (q_geq rfl rfl) (by decide) ?_
 refine Za ?_
 refine Zl ?_
 cases hS
 exact Ze
theorem index_wrong_2_ct (x_0 : IndexEntry) (a_1_b : Nat) (a_1 : IndexEntry) {r : Bool} (hS : Sh.index_wrong_2 x_0 a_1 = some r) :
 Ct Tryz.prog 165 [.agg #[str x_0.path, i64 x_0.stage, i64 x_0.mode, str x_0.data, i64 x_0.time, i64 x_0.size], ptr a_1_b 0] (Cells a_1_b 0 [str a_1.path, i64 a_1.stage, i64 a_1.mode, str a_1.data, i64 a_1.time, i64 a_1.size]) (Ow.emp) (X := Unit) (fun _ => .bool r) (fun _ => True) (fun _ => Mo.tt) (fun _ => Ow.emp) := by
 refine Ct.of Tryz.func165 rfl (by kernel_rfl) Tryz.ntmps165 (by simp) fun c => ?_
 unfold Sh.index_wrong_2 at hS
 refine Zq (Zr ?_)
 refine VL.box (cs := [str x_0.path, i64 x_0.stage, i64 x_0.mode, str x_0.data, i64 x_0.time, i64 x_0.size]) rfl rfl (by decide) fun b2_1 => ?_
 refine Za ?_
 refine Zl ?_
 refine Zq (Zr ?_)
 refine VL.q (q_field gfa149_0 rfl) (by decide) ?_
 refine VL.q (q_fe gone9 rfl rfl) (by decide) ?_
 refine VL.q (q_field gfa149_0 rfl) (by decide) ?_
 refine VL.q (q_fm gone9 rfl rfl) (by decide) ?_
 obtain ⟨y8_2, ey8_2, hS⟩ := bd_s hS
 refine VL.q (q_call (path_Clash_ct x_0.path a_1.path ey8_2) rfl (fun _ _ => rfl)) (by decide) ?_
 refine Za ?_
 refine Zl ?_
 cases hS
 exact Ze
theorem slices_IndexFunc_index_Entry_index_Entry_v3_ct (s_0 : Sv IndexEntry) (f_1_0_b : Nat) (f_1_0 : IndexEntry) {r : Int} (hS : Sh.slices_IndexFunc_index_Entry_index_Entry_v3 s_0.l f_1_0 = some r) :
 Ct Tryz.prog 198 [s_0.val, .func (.func 165) #[] #[ptr f_1_0_b 0]] (s_0.ok.and (Cells f_1_0_b 0 [str f_1_0.path, i64 f_1_0.stage, i64 f_1_0.mode, str f_1_0.data, i64 f_1_0.time, i64 f_1_0.size])) (Ow.emp) (X := Unit) (fun _ => i64 r) (fun _ => True) (fun _ => Mo.tt) (fun _ => Ow.emp) := by
 refine Ct.of Tryz.func198 rfl (by kernel_rfl) Tryz.ntmps198 (by simp) fun c => ?_
 unfold Sh.slices_IndexFunc_index_Entry_index_Entry_v3 at hS
 refine Zq (Zr ?_)
 refine Za ?_
 refine Zl ?_
 refine Zq (Zq (Zr ?_))
 refine Zm ?_
 refine VL.q (q_ln (s := s_0) Tryz.underlying66 rfl) (by decide) ?_
 refine Zm ?_
 refine Zl ?_
 refine Zb ?_
 refine VC.iter (S := Int) (fun (x8_1 : Int) => x8_1) (fun (x8_1 : Int) => [(0, s_0.val), (1, .func (.func 165) #[] #[ptr f_1_0_b 0]), (7, i64 (s_0.l.length : Int)), (8, i64 x8_1)]) (fun (x8_1 : Int) => Mo.tt) (fun (x8_1 : Int) => Ow.emp) 0 [0, 1, 7, 8] hS rfl ?_
 clear hS
 rintro x8_1 m1 y1 hS hK1
 show VC _ _ _ _ _ [(0, s_0.val), (1, .func (.func 165) #[] #[ptr f_1_0_b 0]), (7, i64 (s_0.l.length : Int)), (8, i64 x8_1)] (Mo.and Mo.tt _) (Ow.emp)
 refine Zq (Zr ?_)
 refine VL.q (q_lss rfl rfl) (by decide) ?_
 refine Zl ?_
 refine Zq ?_
 refine VC.cond_dec rfl (fun h9 => ?_) (fun h9 => ?_)
 ·
  replace hS := it_t h9 hS
  refine Zk ?_
  refine Zq (Zb (Zq (Zr ?_)))
  refine Zm ?_
  refine Za ?_
  refine Zl ?_
  refine Zq (Zr ?_)
  refine Zm ?_
  refine Zm ?_
  refine Zm ?_
  obtain ⟨z14_2, nz14_2, hz14_2, hS⟩ := at_s hS
  refine VL.q (q_ixm (s := s_0) Tryz.underlying66 gsz149 rfl rfl nz14_2 (lt_of_get nz14_2 hz14_2)) (by decide) ?_
  refine VL.q (q_els (s := s_0) gagg149 rfl rfl hz14_2) (by decide) ?_
  obtain ⟨y16_3, ey16_3, hS⟩ := bd_s hS
  refine VL.q (q_callVC (vs := [.agg #[str z14_2.path, i64 z14_2.stage, i64 z14_2.mode, str z14_2.data, i64 z14_2.time, i64 z14_2.size]]) (caps := [ptr f_1_0_b 0]) (index_wrong_2_ct z14_2 f_1_0_b f_1_0 ey16_3) rfl rfl (fun _ _ => rfl)) (by decide) ?_
  refine Zl ?_
  refine VC.keep [0, 1, 7, 8, 5, 16] rfl ?_
  refine VC.cond rfl (fun h16 => ?_) (fun h16 => ?_)
  ·
   replace hS := it_t h16 hS
   refine Zq (Zr ?_)
   refine Zm ?_
   refine Za ?_
   refine Zl ?_
   replace hS := up2 hS hK1
   cases hS
   exact Ze
  replace hS := it_b h16 hS
  refine Zk ?_
  refine Zr ?_
  obtain ⟨b18, hS⟩ := gd_s hS
  refine VL.q (q_add rfl rfl b18) (by decide) ?_
  refine Zm ?_
  refine VL.rnd (x8_1 + 1) [0, 1, 7, 8] (fun _ _ h => h) (go2 hS hK1) rfl
 replace hS := it_f h9 hS
 replace hS := up2 hS hK1
 refine Zx ?_
 refine Zq (Zr ?_)
 refine Za ?_
 refine Zl ?_
 cases hS
 exact Ze
theorem slices_ContainsFunc_index_Entry_index_Entry_v2_ct (s_0 : Sv IndexEntry) (f_1_0_b : Nat) (f_1_0 : IndexEntry) {r : Bool} (hS : Sh.slices_ContainsFunc_index_Entry_index_Entry_v2 s_0.l f_1_0 = some r) :
 Ct Tryz.prog 162 [s_0.val, .func (.func 165) #[] #[ptr f_1_0_b 0]] (s_0.ok.and (Cells f_1_0_b 0 [str f_1_0.path, i64 f_1_0.stage, i64 f_1_0.mode, str f_1_0.data, i64 f_1_0.time, i64 f_1_0.size])) (Ow.emp) (X := Unit) (fun _ => .bool r) (fun _ => True) (fun _ => Mo.tt) (fun _ => Ow.emp) := by
 refine Ct.of Tryz.func162 rfl (by kernel_rfl) Tryz.ntmps162 (by simp) fun c => ?_
 unfold Sh.slices_ContainsFunc_index_Entry_index_Entry_v2 at hS
 refine Zq (Zr ?_)
 refine Za ?_
 refine Zl ?_
 refine Zq (Zr ?_)
 refine Zm ?_
 refine Zm ?_
 obtain ⟨y7_1, ey7_1, hS⟩ := bd_s hS
 refine VL.q (q_callR (slices_IndexFunc_index_Entry_index_Entry_v3_ct s_0 f_1_0_b f_1_0 ey7_1) rfl (fun _ _ => rfl)) (by decide) ?_
 refine VL.q (q_geq rfl rfl) (by decide) ?_
 refine Za ?_
 refine Zl ?_
 cases hS
 exact Ze
theorem index_wrong_ct (l_0 : Sv IndexEntry) (i_1 : Int) {r : Int} (hS : Sh.index_wrong l_0.l i_1 = some r) :
 Ct Tryz.prog 93 [l_0.val, i64 i_1] l_0.ok (Ow.emp) (X := Unit) (fun _ => i64 r) (fun _ => True) (fun _ => Mo.tt) (fun _ => Ow.emp) := by
 refine Ct.of Tryz.func93 rfl (by kernel_rfl) Tryz.ntmps93 (by simp) fun c => ?_
 unfold Sh.index_wrong at hS
 refine Zq (Zr ?_)
 refine Za ?_
 refine Zl ?_
 refine Zq (Zr ?_)
 refine Zm ?_
 refine Zm ?_
 obtain ⟨z9_1, nz9_1, hz9_1, hS⟩ := at_s hS
 refine VL.q (q_ixm (s := l_0) Tryz.underlying66 gsz149 rfl rfl nz9_1 (lt_of_get nz9_1 hz9_1)) (by decide) ?_
 refine VL.q (q_els (s := l_0) gagg149 rfl rfl hz9_1) (by decide) ?_
 refine VL.alloc (cs := [str [], i64 0, i64 0, str [], i64 0, i64 0]) (by kernel_rfl) (by decide) fun b5_2 => ?_
 refine VL.store (vc := [str z9_1.path, i64 z9_1.stage, i64 z9_1.mode, str z9_1.data, i64 z9_1.time, i64 z9_1.size]) (cs' := [str z9_1.path, i64 z9_1.stage, i64 z9_1.mode, str z9_1.data, i64 z9_1.time, i64 z9_1.size]) rfl rfl rfl gsz149 rfl rfl (Nat.le_of_ble_eq_true rfl) rfl ?_
 refine Zl ?_
 refine Zq (Zq (Zr ?_))
 refine VL.q (q_field gfa149_0 rfl) (by decide) ?_
 refine VL.q (q_fe gone9 rfl rfl) (by decide) ?_
 obtain ⟨y13_3, ey13_3, hS⟩ := bd_s hS
 refine VL.q (q_call (path_Check_ct z9_1.path ey13_3) rfl (fun _ _ => rfl)) (by decide) ?_
 refine Za ?_
 refine Zl ?_
 refine VC.keep [0, 1, 5, 6] rfl ?_
 refine Zq (Zr ?_)
 refine Zm ?_
 refine VL.q (q_neq rfl rfl) (by decide) ?_
 refine Zl ?_
 refine VC.cond_ndec rfl (fun h15 => ?_) (fun h15 => ?_)
 ·
  replace hS := it_f h15 hS
  refine Zq (Zr ?_)
  refine Zm ?_
  refine Za ?_
  refine Zl ?_
  cases hS
  exact Ze
 replace hS := it_t h15 hS
 refine Zk ?_
 refine Zq (Zb ?_)
 refine VC.cutJ (S := Bool) (fun (x17_4 : Bool) => x17_4) (fun (x17_4 : Bool) => [(0, l_0.val), (1, i64 i_1), (5, ptr b5_2 0), (17, .bool x17_4)]) (fun (x17_4 : Bool) => Mo.tt) (fun (x17_4 : Bool) => Ow.star (Blk b5_2 [str z9_1.path, i64 z9_1.stage, i64 z9_1.mode, str z9_1.data, i64 z9_1.time, i64 z9_1.size] 149) (Ow.emp)) hS ?_ ?_
 ·
  clear hS
  intro k5 hS
  refine Zr ?_
  refine VL.q (q_field gfa149_1 rfl) (by decide) ?_
  refine VL.q (q_fe gone3 rfl rfl) (by decide) ?_
  refine VL.q (q_lss rfl rfl) (by decide) ?_
  refine Zm ?_
  refine VL.split_dec 21 rfl (fun h21 => ?_) (fun h21 => ?_)
  ·
   replace hS := it_t h21 hS
   refine Zn ?_
   refine Zn ?_
   refine Zn ?_
   refine Zt ?_
   refine Zm ?_
   refine Zn ?_
   refine Zn ?_
   refine Zn ?_
   refine Zn ?_
   refine VL.gu rfl rfl (by decide) ?_
   refine VL.gu rfl rfl (by decide) ?_
   refine VL.gu rfl rfl (by decide) ?_
   refine Zn ?_
   refine Zt ?_
   refine Zm ?_
   refine Zn ?_
   refine Zn ?_
   refine Zn ?_
   refine Zt ?_
   refine Zm ?_
   refine Zn ?_
   refine Zn ?_
   refine Zn ?_
   refine Zt ?_
   refine Za ?_
   refine VL.mt true [0, 1, 5, 17] (fun _ _ h => h) hS rfl
  replace hS := it_f h21 hS
  refine VL.gy rfl rfl (q_field gfa149_1 rfl) (by decide) ?_
  refine VL.gy rfl rfl (q_fe gone3 rfl rfl) (by decide) ?_
  refine VL.gy rfl rfl (q_gtr rfl rfl) (by decide) ?_
  refine Zf ?_
  refine Zm ?_
  refine VL.split_dec 26 rfl (fun h26 => ?_) (fun h26 => ?_)
  ·
   replace hS := it_t h26 hS
   refine Zn ?_
   refine Zn ?_
   refine Zn ?_
   refine Zn ?_
   refine VL.gu rfl rfl (by decide) ?_
   refine VL.gu rfl rfl (by decide) ?_
   refine VL.gu rfl rfl (by decide) ?_
   refine Zn ?_
   refine Zt ?_
   refine Zm ?_
   refine Zn ?_
   refine Zn ?_
   refine Zn ?_
   refine Zt ?_
   refine Zm ?_
   refine Zn ?_
   refine Zn ?_
   refine Zn ?_
   refine Zt ?_
   refine Za ?_
   refine VL.mt true [0, 1, 5, 17] (fun _ _ h => h) hS rfl
  replace hS := it_f h26 hS
  refine VL.gy rfl rfl (q_field gfa149_2 rfl) (by decide) ?_
  refine VL.gy rfl rfl (q_fe gone3 rfl rfl) (by decide) ?_
  refine VL.gy rfl rfl (q_neq rfl rfl) (by decide) ?_
  refine Zg ?_
  refine VL.split_ndec 30 rfl (fun h30 => ?_) (fun h30 => ?_)
  ·
   replace hS := it_f h30 hS
   refine VL.gy rfl rfl (q_field gfa149_2 rfl) (by decide) ?_
   refine VL.gy rfl rfl (q_fe gone3 rfl rfl) (by decide) ?_
   refine VL.gy rfl rfl (q_neq rfl rfl) (by decide) ?_
   refine VL.gy rfl rfl (q_pick_t rfl rfl) (by decide) ?_
   refine Zf ?_
   refine Zm ?_
   refine VL.split_ndec 36 rfl (fun h36 => ?_) (fun h36 => ?_)
   ·
    replace hS := it_f h36 hS
    refine Zn ?_
    refine Zn ?_
    refine Zn ?_
    refine Zt ?_
    refine Zm ?_
    refine Zn ?_
    refine Zn ?_
    refine Zn ?_
    refine Zt ?_
    refine Za ?_
    refine VL.mt true [0, 1, 5, 17] (fun _ _ h => h) hS rfl
   replace hS := it_t h36 hS
   refine VL.gy rfl rfl (q_field gfa149_4 rfl) (by decide) ?_
   refine VL.gy rfl rfl (q_fe gone3 rfl rfl) (by decide) ?_
   refine VL.gy rfl rfl (q_lss rfl rfl) (by decide) ?_
   refine Zf ?_
   refine Zm ?_
   refine VL.split_dec 41 rfl (fun h41 => ?_) (fun h41 => ?_)
   ·
    replace hS := it_t h41 hS
    refine Zn ?_
    refine Zn ?_
    refine Zn ?_
    refine Zt ?_
    refine Za ?_
    refine VL.mt true [0, 1, 5, 17] (fun _ _ h => h) hS rfl
   replace hS := it_f h41 hS
   refine VL.gy rfl rfl (q_field gfa149_5 rfl) (by decide) ?_
   refine VL.gy rfl rfl (q_fe gone3 rfl rfl) (by decide) ?_
   refine VL.gy rfl rfl (q_lss rfl rfl) (by decide) ?_
   refine Zf ?_
   refine Za ?_
   refine VL.mt (decide (z9_1.size < 0)) [0, 1, 5, 17] (fun _ _ h => h) hS rfl
  replace hS := it_t h30 hS
  refine Zn ?_
  refine Zn ?_
  refine Zn ?_
  refine VL.gy rfl rfl (q_pick_f rfl rfl) (by decide) ?_
  refine Zf ?_
  refine Zm ?_
  refine VL.gy rfl rfl (q_field gfa149_4 rfl) (by decide) ?_
  refine VL.gy rfl rfl (q_fe gone3 rfl rfl) (by decide) ?_
  refine VL.gy rfl rfl (q_lss rfl rfl) (by decide) ?_
  refine Zf ?_
  refine Zm ?_
  refine VL.split_dec 41 rfl (fun h41 => ?_) (fun h41 => ?_)
  ·
   replace hS := it_t h41 hS
   refine Zn ?_
   refine Zn ?_
   refine Zn ?_
   refine Zt ?_
   refine Za ?_
   refine VL.mt true [0, 1, 5, 17] (fun _ _ h => h) hS rfl
  replace hS := it_f h41 hS
  refine VL.gy rfl rfl (q_field gfa149_5 rfl) (by decide) ?_
  refine VL.gy rfl rfl (q_fe gone3 rfl rfl) (by decide) ?_
  refine VL.gy rfl rfl (q_lss rfl rfl) (by decide) ?_
  refine Zf ?_
  refine Za ?_
  refine VL.mt (decide (z9_1.size < 0)) [0, 1, 5, 17] (fun _ _ h => h) hS rfl
 clear hS
 rintro x17_4 hS
 show VC _ _ _ _ _ [(0, l_0.val), (1, i64 i_1), (5, ptr b5_2 0), (17, .bool x17_4)] (Mo.and Mo.tt _) (Ow.star (Blk b5_2 [str z9_1.path, i64 z9_1.stage, i64 z9_1.mode, str z9_1.data, i64 z9_1.time, i64 z9_1.size] 149) (Ow.emp))
 refine VC.cond rfl (fun h17 => ?_) (fun h17 => ?_)
 ·
  replace hS := it_t h17 hS
  refine Zq (Zr ?_)
  refine Za ?_
  refine Zl ?_
  cases hS
  exact Ze
 replace hS := it_b h17 hS
 refine Zq (Zr ?_)
 refine VL.q (q_field gfa149_3 rfl) (by decide) ?_
 refine VL.q (q_fe gone9 rfl rfl) (by decide) ?_
 refine VL.q (q_slen Tryz.underlying9 rfl) (by decide) ?_
 refine VL.q (q_gtr rfl rfl) (by decide) ?_
 refine Za ?_
 refine Zl ?_
 refine VC.cond_dec rfl (fun h46 => ?_) (fun h46 => ?_)
 ·
  replace hS := it_t h46 hS
  refine Zq (Zr ?_)
  refine Za ?_
  refine Zl ?_
  cases hS
  exact Ze
 replace hS := it_f h46 hS
 refine VC.cutJ (S := Bool) (fun (x51_6 : Bool) => x51_6) (fun (x51_6 : Bool) => [(0, l_0.val), (1, i64 i_1), (5, ptr b5_2 0), (51, .bool x51_6)]) (fun (x51_6 : Bool) => Mo.tt) (fun (x51_6 : Bool) => Ow.star (Blk b5_2 [str z9_1.path, i64 z9_1.stage, i64 z9_1.mode, str z9_1.data, i64 z9_1.time, i64 z9_1.size] 149) (Ow.emp)) hS ?_ ?_
 ·
  clear hS
  intro k7 hS
  refine VC.cutJ (S := Bool) (fun (x51_8 : Bool) => x51_8) (fun (x51_8 : Bool) => [(0, l_0.val), (1, i64 i_1), (5, ptr b5_2 0), (51, .bool x51_8)]) (fun (x51_8 : Bool) => Mo.tt) (fun (x51_8 : Bool) => Ow.star (Blk b5_2 [str z9_1.path, i64 z9_1.stage, i64 z9_1.mode, str z9_1.data, i64 z9_1.time, i64 z9_1.size] 149) (Ow.emp)) hS ?_ ?_
  ·
   clear hS
   intro k9 hS
   refine VC.draw ((List.range 13).map fun k => (k, true)) mixed (by kernel_rfl) (by kernel_rfl) (by kernel_rfl) ?_
   refine VD.q rfl (q_move rfl) (by decide) ?_
   refine VD.q rfl (q_gtr rfl rfl) (by decide) ?_
   refine VD.q rfl (q_move rfl) (by decide) ?_
   refine VD.split_dec 54 rfl (fun h54 => ?_) (fun h54 => ?_)
   ·
    replace hS := it_t h54 hS
    refine VD.gy rfl rfl rfl (q_move rfl) (by decide) ?_
    refine VD.gy rfl rfl rfl (q_move rfl) (by decide) ?_
    obtain ⟨b57, hS⟩ := gd_s hS
    refine VD.gy rfl rfl rfl (q_sub rfl rfl b57) (by decide) ?_
    obtain ⟨z58_10, nz58_10, hz58_10, hS⟩ := at_s hS
    refine VD.gy rfl rfl rfl (q_ixm (s := l_0) Tryz.underlying66 gsz149 rfl rfl nz58_10 (lt_of_get nz58_10 hz58_10)) (by decide) ?_
    refine VD.gy rfl rfl rfl (q_els (s := l_0) gagg149 rfl rfl hz58_10) (by decide) ?_
    refine VD.gy rfl rfl rfl (q_fes gagg149 rfl rfl) (by decide) ?_
    obtain ⟨y61_11, ey61_11, hS⟩ := bd_s hS
    refine VD.gy rfl rfl rfl (q_call (index_compare_ct z58_10 z9_1 ey61_11) rfl (fun _ _ => rfl)) (by decide) ?_
    refine VD.gy rfl rfl rfl (q_geq rfl rfl) (by decide) ?_
    refine VD.q rfl (q_pick_t rfl rfl) (by decide) ?_
    refine VD.q rfl (q_assign rfl) (by decide) ?_
    refine VD.mt (decide (0 ≤ y61_11)) [0, 1, 5, 51] (fun _ _ h => h) hS rfl
   replace hS := it_f h54 hS
   refine Zd ?_
   refine Zd ?_
   refine Zd ?_
   refine Zd ?_
   refine Zd ?_
   refine Zd ?_
   refine Zd ?_
   refine Zd ?_
   refine VD.q rfl (q_pick_f rfl rfl) (by decide) ?_
   refine VD.q rfl (q_assign rfl) (by decide) ?_
   refine VD.mt false [0, 1, 5, 51] (fun _ _ h => h) hS rfl
  clear hS
  rintro x51_8 hS
  show VC _ _ _ _ _ [(0, l_0.val), (1, i64 i_1), (5, ptr b5_2 0), (51, .bool x51_8)] (Mo.and Mo.tt _) (Ow.star (Blk b5_2 [str z9_1.path, i64 z9_1.stage, i64 z9_1.mode, str z9_1.data, i64 z9_1.time, i64 z9_1.size] 149) (Ow.emp))
  refine VC.cond rfl (fun h51 => ?_) (fun h51 => ?_)
  ·
   replace hS := it_t h51 hS
   refine VC.skip_mt x51_8 [0, 1, 5, 51] (fun _ _ h => h) hS rfl
  replace hS := it_b h51 hS
  refine Zr ?_
  refine Zm ?_
  refine Zm ?_
  obtain ⟨b66, hS⟩ := gd_s hS
  refine VL.sto Tryz.underlying66 gsz149 rfl rfl b66.1 (b66.2) (by decide) fun s66_12 hs66_12 => ?_
  replace hS := lt_to hs66_12 hS
  refine VL.q (q_mkfn rfl) (by decide) ?_
  obtain ⟨y68_14, ey68_14, hS⟩ := bd_s hS
  refine VL.q (q_callR (slices_ContainsFunc_index_Entry_index_Entry_ct s66_12 b5_2 z9_1 ey68_14) rfl (fun _ _ => rfl)) (by decide) ?_
  refine Za ?_
  refine VL.mt y68_14 [0, 1, 5, 51] (fun _ _ h => h) hS rfl
 clear hS
 rintro x51_6 hS
 show VC _ _ _ _ _ [(0, l_0.val), (1, i64 i_1), (5, ptr b5_2 0), (51, .bool x51_6)] (Mo.and Mo.tt _) (Ow.star (Blk b5_2 [str z9_1.path, i64 z9_1.stage, i64 z9_1.mode, str z9_1.data, i64 z9_1.time, i64 z9_1.size] 149) (Ow.emp))
 refine VC.cond rfl (fun h51 => ?_) (fun h51 => ?_)
 ·
  replace hS := it_t h51 hS
  refine Zq (Zr ?_)
  refine Za ?_
  refine Zl ?_
  cases hS
  exact Ze
 replace hS := it_b h51 hS
 refine Zq (Zr ?_)
 refine Zm ?_
 refine Zm ?_
 obtain ⟨b72, hS⟩ := gd_s hS
 refine VL.sto Tryz.underlying66 gsz149 rfl rfl b72.1 (b72.2) (by decide) fun s72_15 hs72_15 => ?_
 replace hS := lt_to hs72_15 hS
 refine VL.q (q_mkfn rfl) (by decide) ?_
 obtain ⟨y74_17, ey74_17, hS⟩ := bd_s hS
 refine VL.q (q_callR (slices_ContainsFunc_index_Entry_index_Entry_v2_ct s72_15 b5_2 z9_1 ey74_17) rfl (fun _ _ => rfl)) (by decide) ?_
 refine Za ?_
 refine Zl ?_
 refine VC.cond rfl (fun h69 => ?_) (fun h69 => ?_)
 ·
  replace hS := it_t h69 hS
  refine Zq (Zr ?_)
  refine Za ?_
  refine Zl ?_
  refine VC.keep [4] rfl ?_
  cases hS
  exact Ze
 replace hS := it_b h69 hS
 refine Zk ?_
 refine Zq (Zr ?_)
 refine Za ?_
 refine Zl ?_
 refine VC.keep [4] rfl ?_
 cases hS
 exact Ze
theorem index_Check_ct (l_0 : Sv IndexEntry) {r : Err} (hS : Sh.index_Check l_0.l = some r) :
 Ct Tryz.prog 38 [l_0.val] l_0.ok (Ow.emp) (X := Er) (fun x => x.val) (fun x => r = x.pl) (fun x => x.ok) (fun x => Ow.emp) := by
 refine Ct.of Tryz.func38 rfl (by kernel_rfl) Tryz.ntmps38 (by simp) fun c => ?_
 unfold Sh.index_Check at hS
 refine Zq (Zr ?_)
 refine Za ?_
 refine Zl ?_
 refine Zq (Zq (Zr ?_))
 refine Zm ?_
 refine VL.q (q_ln (s := l_0) Tryz.underlying66 rfl) (by decide) ?_
 refine VL.q (q_gtr rfl rfl) (by decide) ?_
 refine Zl ?_
 refine VC.cond_dec rfl (fun h7 => ?_) (fun h7 => ?_)
 ·
  replace hS := it_t h7 hS
  refine Zq (Zr ?_)
  refine VL.q (q_mkif Tryz.underlying115 (fun _ h => by cases h) rfl) (by decide) ?_
  refine VL.q (q_build (vs := [(0, str [101, 110, 116, 114, 121]), (1, i64 256), (2, (Er.no 4).val)]) (cs := #[str [101, 110, 116, 114, 121], i64 256, (Er.no 4).val]) rfl (by kernel_rfl)) (by decide) ?_
  refine VL.box (cs := [str [101, 110, 116, 114, 121], i64 256, (Er.no 4).val]) rfl rfl (by decide) fun b10_1 => ?_
  refine VL.shutB b10_1 ?_
  refine VL.q (q_mkif Tryz.underlying114 (fun _ h => by cases h) rfl) (by decide) ?_
  refine Za ?_
  refine Zl ?_
  cases hS
  exact VC.ret (fin1 (.inr rfl) rfl rfl (Er.fault b10_1 [101, 110, 116, 114, 121] 256 (Er.no 4)) rfl rfl (by (try dsimp only); exact InM.out) (fun _ _ => trivial))
 replace hS := it_f h7 hS
 refine Zk ?_
 refine Zq (Zq (Zr ?_))
 refine Zm ?_
 refine VL.q (q_ln (s := l_0) Tryz.underlying66 rfl) (by decide) ?_
 refine Zm ?_
 refine Zl ?_
 refine Zb ?_
 refine VC.iter (S := Int) (fun (x14_2 : Int) => x14_2) (fun (x14_2 : Int) => [(0, l_0.val), (13, i64 (l_0.l.length : Int)), (14, i64 x14_2)]) (fun (x14_2 : Int) => Mo.tt) (fun (x14_2 : Int) => Ow.emp) 0 [0, 13, 14] hS rfl ?_
 clear hS
 rintro x14_2 m1 y1 hS hK1
 show VC _ _ _ _ _ [(0, l_0.val), (13, i64 (l_0.l.length : Int)), (14, i64 x14_2)] (Mo.and Mo.tt _) (Ow.emp)
 refine Zq (Zr ?_)
 refine VL.q (q_lss rfl rfl) (by decide) ?_
 refine Zl ?_
 refine Zq ?_
 refine VC.cond_dec rfl (fun h15 => ?_) (fun h15 => ?_)
 ·
  replace hS := it_t h15 hS
  refine Zk ?_
  refine Zq (Zb (Zq (Zr ?_)))
  refine Zm ?_
  refine Za ?_
  refine Zl ?_
  refine Zq (Zr ?_)
  refine Zm ?_
  refine Zm ?_
  obtain ⟨y19_3, ey19_3, hS⟩ := bd_s hS
  refine VL.q (q_call (index_wrong_ct l_0 x14_2 ey19_3) rfl (fun _ _ => rfl)) (by decide) ?_
  refine Za ?_
  refine Zl ?_
  refine Zq (Zr ?_)
  refine Zm ?_
  refine VL.q (q_neq rfl rfl) (by decide) ?_
  refine Zl ?_
  refine VC.cond_ndec rfl (fun h21 => ?_) (fun h21 => ?_)
  ·
   replace hS := it_f h21 hS
   refine Zq (Zr ?_)
   refine Zm ?_
   refine Zm ?_
   refine VL.q (q_mkif Tryz.underlying115 (fun _ h => by cases h) rfl) (by decide) ?_
   refine VL.q (q_build (vs := [(0, str [101, 110, 116, 114, 121]), (1, i64 x14_2), (2, (Er.no y19_3).val)]) (cs := #[str [101, 110, 116, 114, 121], i64 x14_2, (Er.no y19_3).val]) rfl (by kernel_rfl)) (by decide) ?_
   refine VL.box (cs := [str [101, 110, 116, 114, 121], i64 x14_2, (Er.no y19_3).val]) rfl rfl (by decide) fun b26_4 => ?_
   refine VL.shutB b26_4 ?_
   refine VL.q (q_mkif Tryz.underlying114 (fun _ h => by cases h) rfl) (by decide) ?_
   refine Za ?_
   refine Zl ?_
   refine VC.keep [2] rfl ?_
   replace hS := up2 hS hK1
   cases hS
   exact VC.ret (fin1 (.inr rfl) rfl rfl (Er.fault b26_4 [101, 110, 116, 114, 121] x14_2 (Er.no y19_3)) rfl rfl (by (try dsimp only); exact InM.out) (fun _ _ => trivial))
  replace hS := it_t h21 hS
  refine Zk ?_
  refine VC.keep [0, 13, 14] rfl ?_
  refine Zr ?_
  obtain ⟨b28, hS⟩ := gd_s hS
  refine VL.q (q_add rfl rfl b28) (by decide) ?_
  refine Zm ?_
  refine VL.rnd (x14_2 + 1) [0, 13, 14] (fun _ _ h => h) (go2 hS hK1) rfl
 replace hS := it_f h15 hS
 replace hS := up2 hS hK1
 refine Zx ?_
 refine Zq (Zr ?_)
 refine Za ?_
 refine Zl ?_
 cases hS
 exact VC.ret (fin1 (.inr rfl) rfl rfl .nil rfl rfl (by (try dsimp only); exact InM.out) (fun _ _ => trivial))
theorem codec_Enc_Int_ct (e_0_b : Nat) (e_0 : CodecEnc) (l_1 : Sv Int) {r : CodecEncP} (hS : Sh.codec_Enc_Int e_0.pl l_1.l = some r) :
 Ct Tryz.prog 86 [ptr e_0_b 0, l_1.val] l_1.ok (Ow.star (Sv.own e_0.b 5) (Blk e_0_b [e_0.b.val] 155)) (X := CodecEnc) (fun x => .tuple #[]) (fun x => r = x.pl) (fun x => Mo.tt) (fun x => Ow.star (Blk e_0_b [x.b.val] 155) (Sv.own x.b 5)) := by
 refine Ct.of Tryz.func86 rfl (by kernel_rfl) Tryz.ntmps86 (by simp) fun c => ?_
 unfold Sh.codec_Enc_Int at hS
 refine Zq (Zr ?_)
 refine Zm ?_
 refine VL.q (q_ln (s := l_1) Tryz.underlying26 rfl) (by decide) ?_
 refine Zm ?_
 refine Zl ?_
 refine Zb ?_
 refine VC.iter (S := Int × Sv UInt8) (fun sg => (sg.1, sg.2.l)) (fun sg => [(0, ptr e_0_b 0), (7, l_1.val), (8, i64 (l_1.l.length : Int)), (9, i64 sg.1)]) (fun sg => Mo.tt) (fun sg => Ow.star (Blk e_0_b [sg.2.val] 155) (Ow.star (Sv.own sg.2 5) (Ow.emp))) (0, e_0.b) [0, 7, 8, 9] hS rfl ?_
 clear hS
 rintro ⟨x9_1, c0_2⟩ m1 y1 hS hK1
 show VC _ _ _ _ _ [(0, ptr e_0_b 0), (7, l_1.val), (8, i64 (l_1.l.length : Int)), (9, i64 x9_1)] (Mo.and Mo.tt _) (Ow.star (Blk e_0_b [c0_2.val] 155) (Ow.star (Sv.own c0_2 5) (Ow.emp)))
 refine Zq (Zr ?_)
 refine VL.q (q_lss rfl rfl) (by decide) ?_
 refine Zl ?_
 refine Zq ?_
 refine VC.cond_dec rfl (fun h10 => ?_) (fun h10 => ?_)
 ·
  replace hS := it_t h10 hS
  refine Zk ?_
  refine Zq (Zb (Zq (Zr ?_)))
  obtain ⟨z11_3, nz11_3, hz11_3, hS⟩ := at_s hS
  refine VL.q (q_ixm (s := l_1) Tryz.underlying26 gsz3 rfl rfl nz11_3 (lt_of_get nz11_3 hz11_3)) (by decide) ?_
  refine VL.q (q_el (s := l_1) gone3 rfl hz11_3 rfl) (by decide) ?_
  refine Za ?_
  refine Zl ?_
  refine Zq (Zr ?_)
  refine Zm ?_
  refine VL.q (q_convW Tryz.underlying3 Tryz.underlying231 rfl) (by decide) ?_
  refine VL.q (q_shl rfl rfl (by decide)) (by decide) ?_
  refine Zm ?_
  refine VL.q (q_shr rfl rfl (by decide)) (by decide) ?_
  refine VL.q (q_convW Tryz.underlying2 Tryz.underlying231 rfl) (by decide) ?_
  refine VL.q (q_xor rfl rfl) (by decide) ?_
  refine Za ?_
  refine Zl ?_
  refine VC.keep [0, 7, 8, 9, 6] rfl ?_
  refine Zq (Zb ?_)
  refine VC.iter (S := Int × Sv UInt8) (fun sg => (sg.1, sg.2.l)) (fun sg => [(0, ptr e_0_b 0), (6, .int .u64 sg.1), (7, l_1.val), (8, i64 (l_1.l.length : Int)), (9, i64 x9_1)]) (fun sg => Mo.tt) (fun sg => Ow.star (Blk e_0_b [sg.2.val] 155) (Ow.star (Sv.own sg.2 5) (Ow.emp))) ((bXor .u64 (sHl .u64 (IntKind.wrap .u64 z11_3) 1) (IntKind.wrap .u64 (sHr .i64 z11_3 63))), c0_2) [0, 6, 7, 8, 9] hS rfl ?_
  clear hS
  rintro ⟨v6_4, c0_5⟩ m2 y2 hS hK2
  show VC _ _ _ _ _ [(0, ptr e_0_b 0), (6, .int .u64 v6_4), (7, l_1.val), (8, i64 (l_1.l.length : Int)), (9, i64 x9_1)] (Mo.and Mo.tt _) (Ow.star (Blk e_0_b [c0_5.val] 155) (Ow.star (Sv.own c0_5 5) (Ow.emp)))
  refine Zq (Zq (Zr ?_))
  refine Zm ?_
  refine VL.q (q_geq rfl rfl) (by decide) ?_
  refine Zl ?_
  refine VC.cond_dec rfl (fun h21 => ?_) (fun h21 => ?_)
  ·
   replace hS := it_t h21 hS
   refine Zk ?_
   refine Zb (Zq (Zr ?_))
   refine Zm ?_
   refine Zm ?_
   refine VL.q (q_nilCheck rfl) (by decide) ?_
   refine VL.q (q_field gfa155_0 rfl) (by decide) ?_
   refine VL.q (q_fe gone27 rfl rfl) (by decide) ?_
   refine Zm ?_
   refine VL.q (q_and rfl rfl) (by decide) ?_
   refine VL.q (q_convW Tryz.underlying231 Tryz.underlying5 rfl) (by decide) ?_
   refine VL.q (q_or rfl rfl) (by decide) ?_
   obtain ⟨b31_30, hS⟩ := gd_s hS
   obtain ⟨u31_7, eu31_7, hS⟩ := lt_s hS
   refine VL.setv 30 rfl (congrArg (Value.int .u8) (u8_z b31_30 eu31_7)) ?_
   refine VL.lit (α := UInt8) (xs := [.tmp 30]) (vs := [.int .u8 (u31_7.toNat : Int)]) [u31_7] Tryz.underlying27 glit5 (by decide) rfl rfl rfl rfl (by decide) (fun _ _ _ _ => trivial) (by decide) (fun s31_6 hs31_6 => ?_) (by decide)
   replace hS := lt_to hs31_6 hS
   obtain ⟨b32, hS⟩ := gd_s hS
   refine VL.app (s := c0_5) (r := s31_6) Tryz.underlying27 gapp5 (by decide) rfl Fo.out (ap1 b32) (ap2 b32 (by decide)) (by decide) (fun s32_9 hs32_9 => ?_)
   replace hS := lt_to hs32_9 hS
   refine VL.q (q_nilCheck rfl) (by decide) ?_
   refine VL.q (q_field gfa155_0 rfl) (by decide) ?_
   refine VL.store (vc := [s32_9.val]) (cs' := [s32_9.val]) rfl rfl rfl gsz27 rfl rfl (Nat.le_of_ble_eq_true rfl) rfl ?_
   refine Zl ?_
   refine VC.keep [0, 6, 7, 8, 9] rfl ?_
   refine Zr ?_
   refine Zm ?_
   refine VL.q (q_shr rfl rfl (by decide)) (by decide) ?_
   refine Za ?_
   refine VL.rnd ((sHr .u64 v6_4 7), s32_9) [0, 6, 7, 8, 9] (fun _ _ h => h) (go2 hS hK2) rfl
  replace hS := it_f h21 hS
  replace hS := up2 hS hK2
  refine Zx ?_
  refine Zr ?_
  refine Zm ?_
  refine Zm ?_
  refine VL.q (q_nilCheck rfl) (by decide) ?_
  refine VL.q (q_field gfa155_0 rfl) (by decide) ?_
  refine VL.q (q_fe gone27 rfl rfl) (by decide) ?_
  refine Zm ?_
  refine VL.q (q_convW Tryz.underlying231 Tryz.underlying5 rfl) (by decide) ?_
  obtain ⟨b44_43, hS⟩ := gd_s hS
  obtain ⟨u44_12, eu44_12, hS⟩ := lt_s hS
  refine VL.setv 43 rfl (congrArg (Value.int .u8) (u8_z b44_43 eu44_12)) ?_
  refine VL.lit (α := UInt8) (xs := [.tmp 43]) (vs := [.int .u8 (u44_12.toNat : Int)]) [u44_12] Tryz.underlying27 glit5 (by decide) rfl rfl rfl rfl (by decide) (fun _ _ _ _ => trivial) (by decide) (fun s44_11 hs44_11 => ?_) (by decide)
  replace hS := lt_to hs44_11 hS
  obtain ⟨b45, hS⟩ := gd_s hS
  refine VL.app (s := c0_5) (r := s44_11) Tryz.underlying27 gapp5 (by decide) rfl Fo.out (ap1 b45) (ap2 b45 (by decide)) (by decide) (fun s45_14 hs45_14 => ?_)
  replace hS := lt_to hs45_14 hS
  refine VL.q (q_nilCheck rfl) (by decide) ?_
  refine VL.q (q_field gfa155_0 rfl) (by decide) ?_
  refine VL.store (vc := [s45_14.val]) (cs' := [s45_14.val]) rfl rfl rfl gsz27 rfl rfl (Nat.le_of_ble_eq_true rfl) rfl ?_
  refine Zl ?_
  refine VC.keep [0, 7, 8, 9] rfl ?_
  refine Zr ?_
  obtain ⟨b48, hS⟩ := gd_s hS
  refine VL.q (q_add rfl rfl b48) (by decide) ?_
  refine Zm ?_
  refine VL.rnd ((x9_1 + 1), s45_14) [0, 7, 8, 9] (fun _ _ h => h) (go2 hS hK1) rfl
 replace hS := it_f h10 hS
 replace hS := up2 hS hK1
 cases hS
 exact VC.exit (fin0 (.inl rfl) rfl ⟨c0_2⟩ rfl rfl (by (try dsimp only); exact InM.out) (by (try dsimp only); exact EntO.out))
theorem codec_Enc_Text_ct (e_0_b : Nat) (e_0 : CodecEnc) (l_1 : Sv Str) {r : CodecEncP} (hS : Sh.codec_Enc_Text e_0.pl l_1.l = some r) :
 Ct Tryz.prog 87 [ptr e_0_b 0, l_1.val] l_1.ok (Ow.star (Sv.own e_0.b 5) (Blk e_0_b [e_0.b.val] 155)) (X := CodecEnc) (fun x => .tuple #[]) (fun x => r = x.pl) (fun x => Mo.tt) (fun x => Ow.star (Blk e_0_b [x.b.val] 155) (Sv.own x.b 5)) := by
 refine Ct.of Tryz.func87 rfl (by kernel_rfl) Tryz.ntmps87 (by simp) fun c => ?_
 unfold Sh.codec_Enc_Text at hS
 refine Zq (Zr ?_)
 refine Zm ?_
 refine VL.q (q_ln (s := l_1) Tryz.underlying82 rfl) (by decide) ?_
 refine Zm ?_
 refine Zl ?_
 refine Zb ?_
 refine VC.iter (S := Int × Sv UInt8) (fun sg => (sg.1, sg.2.l)) (fun sg => [(0, ptr e_0_b 0), (6, l_1.val), (7, i64 (l_1.l.length : Int)), (8, i64 sg.1)]) (fun sg => Mo.tt) (fun sg => Ow.star (Blk e_0_b [sg.2.val] 155) (Ow.star (Sv.own sg.2 5) (Ow.emp))) (0, e_0.b) [0, 6, 7, 8] hS rfl ?_
 clear hS
 rintro ⟨x8_1, c0_2⟩ m1 y1 hS hK1
 show VC _ _ _ _ _ [(0, ptr e_0_b 0), (6, l_1.val), (7, i64 (l_1.l.length : Int)), (8, i64 x8_1)] (Mo.and Mo.tt _) (Ow.star (Blk e_0_b [c0_2.val] 155) (Ow.star (Sv.own c0_2 5) (Ow.emp)))
 refine Zq (Zr ?_)
 refine VL.q (q_lss rfl rfl) (by decide) ?_
 refine Zl ?_
 refine Zq ?_
 refine VC.cond_dec rfl (fun h9 => ?_) (fun h9 => ?_)
 ·
  replace hS := it_t h9 hS
  refine Zk ?_
  refine Zq (Zb (Zq (Zr ?_)))
  obtain ⟨z10_3, nz10_3, hz10_3, hS⟩ := at_s hS
  refine VL.q (q_ixm (s := l_1) Tryz.underlying82 gsz9 rfl rfl nz10_3 (lt_of_get nz10_3 hz10_3)) (by decide) ?_
  refine VL.q (q_el (s := l_1) gone9 rfl hz10_3 rfl) (by decide) ?_
  refine Za ?_
  refine Zl ?_
  refine Zq (Zr ?_)
  refine Zm ?_
  refine Zm ?_
  refine VL.q (q_slen Tryz.underlying9 rfl) (by decide) ?_
  refine VL.lit (α := Int) (xs := [.tmp 14]) (vs := [i64 (z10_3.length : Int)]) [(z10_3.length : Int)] Tryz.underlying26 glit3 (by decide) rfl rfl rfl rfl (by decide) (fun _ _ _ _ => trivial) (by decide) (fun s15_4 hs15_4 => ?_) (by decide)
  replace hS := lt_to hs15_4 hS
  obtain ⟨y16_6, ey16_6, hS⟩ := bd_s hS
  refine VL.callO (codec_Enc_Int_ct e_0_b (⟨c0_2⟩ : CodecEnc) s15_4 ey16_6) rfl (by decide) ?_
  rintro q16_6_0 rfl
  try dsimp only
  refine Zl ?_
  refine VC.keep [0, 6, 7, 8, 5] rfl ?_
  refine Zr ?_
  refine Zm ?_
  refine Zm ?_
  refine VL.q (q_nilCheck rfl) (by decide) ?_
  refine VL.q (q_field gfa155_0 rfl) (by decide) ?_
  refine VL.q (q_fe gone27 rfl rfl) (by decide) ?_
  refine Zm ?_
  obtain ⟨b23, hS⟩ := gd_s hS
  refine VL.appS (s := q16_6_0.b) (r := z10_3) Tryz.underlying27 Tryz.underlying9 gapb5 rfl Fo.out b23 (by decide) fun s23_7 hs23_7 _ => ?_
  replace hS := lt_to hs23_7 hS
  refine VL.q (q_nilCheck rfl) (by decide) ?_
  refine VL.q (q_field gfa155_0 rfl) (by decide) ?_
  refine VL.store (vc := [s23_7.val]) (cs' := [s23_7.val]) rfl rfl rfl gsz27 rfl rfl (Nat.le_of_ble_eq_true rfl) rfl ?_
  refine Zl ?_
  refine VC.keep [0, 6, 7, 8] rfl ?_
  refine Zr ?_
  obtain ⟨b26, hS⟩ := gd_s hS
  refine VL.q (q_add rfl rfl b26) (by decide) ?_
  refine Zm ?_
  refine VL.rnd ((x8_1 + 1), s23_7) [0, 6, 7, 8] (fun _ _ h => h) (go2 hS hK1) rfl
 replace hS := it_f h9 hS
 replace hS := up2 hS hK1
 cases hS
 exact VC.exit (fin0 (.inl rfl) rfl ⟨c0_2⟩ rfl rfl (by (try dsimp only); exact InM.out) (by (try dsimp only); exact EntO.out))
theorem slices_Clone_byte_byte_ct (s_0 : Sv UInt8) {r : List UInt8} (hS : Sh.slices_Clone_byte_byte s_0.l = some r) :
 Ct Tryz.prog 119 [s_0.val] s_0.ok (Ow.emp) (X := Sv UInt8) (fun x => x.val) (fun x => r = x.l) (fun x => Mo.tt) (fun x => Sv.own x 5) := by
 refine Ct.of Tryz.func119 rfl (by kernel_rfl) Tryz.ntmps119 (by simp) fun c => ?_
 unfold Sh.slices_Clone_byte_byte at hS
 refine Zq (Zr ?_)
 refine Za ?_
 refine Zl ?_
 refine Zq (Zq (Zr ?_))
 refine Zm ?_
 refine VL.q (q_slnil (s := s_0) Tryz.underlying27 rfl) (by decide) ?_
 refine Zl ?_
 refine VC.slnil (s := s_0) rfl (fun h4 => ?_) ?_
 ·
  have hS : (some []) = some r := by
    simp [lt, gd, h4] at hS ⊢
    try exact hS
  refine Zq (Zr ?_)
  refine Za ?_
  refine Zl ?_
  refine VC.nilO (⟨none, 0, []⟩ : Sv UInt8) 5 ⟨rfl, rfl⟩ ?_
  cases hS
  exact VC.ret (fin1 (.inr rfl) rfl rfl ⟨none, 0, []⟩ rfl rfl (by (try dsimp only); exact InM.out) (by (try dsimp only); exact EntO.out))
 refine Zk ?_
 refine Zq (Zr ?_)
 refine VL.lit0 (α := UInt8) Tryz.underlying27 ghas5 (by decide) (fun s5_1 hs5_1 hcs5_1 => ?_)
 refine VL.nilO s5_1 5 ⟨hcs5_1, hs5_1⟩ ?_
 replace hS := lt_to hs5_1 hS
 refine Zm ?_
 obtain ⟨b7, hS⟩ := gd_s hS
 refine VL.app (s := s5_1) (r := s_0) Tryz.underlying27 gapp5 (by decide) rfl Fo.out (ap1 b7) (ap2 b7 (by decide)) (by decide) (fun s7_3 hs7_3 => ?_)
 replace hS := lt_to hs7_3 hS
 refine Za ?_
 refine Zl ?_
 cases hS
 exact VC.ret (fin1 (.inr rfl) rfl rfl s7_3 rfl rfl (by (try dsimp only); exact InM.out) (by (try dsimp only); exact EntO.out))
theorem slices_Clip_byte_byte_ct (s_0 : Sv UInt8) {r : List UInt8} (hS : Sh.slices_Clip_byte_byte s_0.l = some r) :
 Ct Tryz.prog 118 [s_0.val] s_0.ok (Ow.emp) (X := Sv UInt8) (fun x => x.val) (fun x => r = x.l) (fun x => x.ok) (fun x => Ow.emp) := by
 refine Ct.of Tryz.func118 rfl (by kernel_rfl) Tryz.ntmps118 (by simp) fun c => ?_
 unfold Sh.slices_Clip_byte_byte at hS
 refine Zq (Zr ?_)
 refine Za ?_
 refine Zl ?_
 refine Zq (Zr ?_)
 refine Zm ?_
 refine Zm ?_
 refine VL.q (q_ln (s := s_0) Tryz.underlying27 rfl) (by decide) ?_
 refine Zm ?_
 refine VL.q (q_ln (s := s_0) Tryz.underlying27 rfl) (by decide) ?_
 obtain ⟨b8, hS⟩ := gd_s hS
 refine VL.stom Tryz.underlying27 gsz5 rfl rfl rfl b8.1 (b8.2) (by decide) fun s8_1 hs8_1 => ?_
 replace hS := lt_to hs8_1 hS
 refine Za ?_
 refine Zl ?_
 cases hS
 exact VC.ret (fin1 (.inr rfl) rfl rfl s8_1 rfl rfl (by (try dsimp only); exact InM.out) (fun _ _ => trivial))
theorem codec_Enc_Bytes_ct (e_0_b : Nat) (e_0 : CodecEnc) {r : List UInt8} (hS : Sh.codec_Enc_Bytes e_0.pl = some r) :
 Ct Tryz.prog 89 [ptr e_0_b 0] Mo.tt (Ow.star (Sv.own e_0.b 5) (Blk e_0_b [e_0.b.val] 155)) (X := Sv UInt8) (fun x => x.val) (fun x => r = x.l) (fun x => x.ok) (fun x => Ow.star (Blk e_0_b [e_0.b.val] 155) (Sv.own e_0.b 5)) := by
 refine Ct.of Tryz.func89 rfl (by kernel_rfl) Tryz.ntmps89 (by simp) fun c => ?_
 unfold Sh.codec_Enc_Bytes at hS
 refine Zq (Zr ?_)
 refine Za ?_
 refine Zl ?_
 refine Zq (Zr ?_)
 refine Zm ?_
 refine VL.q (q_nilCheck rfl) (by decide) ?_
 refine VL.q (q_field gfa155_0 rfl) (by decide) ?_
 refine VL.q (q_fe gone27 rfl rfl) (by decide) ?_
 obtain ⟨y7_1, ey7_1, hS⟩ := bd_s hS
 refine VL.callOR (slices_Clone_byte_byte_ct e_0.b ey7_1) rfl (by decide) ?_
 rintro q7_1_0 rfl
 try dsimp only
 refine VL.shut q7_1_0 5 (fun _ _ _ _ => trivial) ?_
 obtain ⟨y8_2, ey8_2, hS⟩ := bd_s hS
 refine VL.callF (slices_Clip_byte_byte_ct q7_1_0 ey8_2) rfl (by decide) ?_
 rintro q8_2_0 rfl
 try dsimp only
 refine Za ?_
 refine Zl ?_
 cases hS
 exact VC.ret (fin1 (.inr rfl) rfl rfl q8_2_0 rfl rfl (by (try dsimp only); exact InM.out) (by (try dsimp only); exact EntO.out))
end Go.Proofs.YtleokmhhloamaaaGreatDoor
end
