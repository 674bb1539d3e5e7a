/- Part of the proofs of: Bytes, files, words up to their ends; one more is too long: each number about an end, looked at by the kernel. -/
import Derived.Test.YtipnlckfohhkbaaGreatDoorRows
import Derived.Test.YtipnlckfohhkbaaGreatDoorOB
set_option linter.unusedVariables false
set_option linter.unusedSimpArgs false
set_option linter.unusedSectionVars false
section
set_option linter.unusedVariables false
namespace Go.Proofs.YtipnlckfohhkbaaGreatDoor
open Go.RowKit Go.V
open Go.S hiding Str
theorem mixed : Tryz.prog.follows .mixedOrders = true := by kernel_rfl
theorem gszb : (Tryz.prog.info? 224).map (·.size) = some 2 := by kernel_rfl
theorem gappb : ((Tryz.prog.info? 5).map fun i => (i.size, i.bytes, i.zero)) = some (1, 1, some (.int .u8 0)) := by kernel_rfl
theorem gfa224_0 : FieldAt Tryz.prog 224 0 0 := fieldAt_sz (n := 0) (f := ⟨_, _, 0, _, _, _, _⟩) Tryz.underlying224 rfl (by kernel_rfl)
theorem gfa224_1 : FieldAt Tryz.prog 224 1 1 := fieldAt_sz (n := 0) (f := ⟨_, _, 1, _, _, _, _⟩) Tryz.underlying224 rfl (by kernel_rfl)
theorem gone222 : OneCell Tryz.prog 222 := oneCell_of Tryz.underlying222 rfl
theorem gone23 : OneCell Tryz.prog 23 := oneCell_of Tryz.underlying23 rfl
theorem gsz222 : (Tryz.prog.info? 222).map (·.size) = some 1 := by kernel_rfl
theorem gsz23 : (Tryz.prog.info? 23).map (·.size) = some 1 := by kernel_rfl
theorem gfa104_2 : FieldAt Tryz.prog 104 2 2 := fieldAt_sz (n := 0) (f := ⟨_, _, 2, _, _, _, _⟩) Tryz.underlying104 rfl (by kernel_rfl)
theorem gone38 : OneCell Tryz.prog 38 := oneCell_of Tryz.underlying38 rfl
theorem glit29 : ((Tryz.prog.info? 29).map fun i => (i.size, i.zero.isSome)) = some (3, true) := by kernel_rfl
theorem gsz27 : (Tryz.prog.info? 27).map (·.size) = some 7 := by kernel_rfl
theorem gagg27 : AggOf Tryz.prog 27 7 := aggOf_of Tryz.underlying27 rfl (by kernel_rfl)
theorem gfa27_0 : FieldAt Tryz.prog 27 0 0 := fieldAt_sz (n := 0) (f := ⟨_, _, 0, _, _, _, _⟩) Tryz.underlying27 rfl (by kernel_rfl)
theorem gone3 : OneCell Tryz.prog 3 := oneCell_of Tryz.underlying3 rfl
theorem gfa27_1 : FieldAt Tryz.prog 27 1 1 := fieldAt_sz (n := 0) (f := ⟨_, _, 1, _, _, _, _⟩) Tryz.underlying27 rfl (by kernel_rfl)
theorem gfa27_2 : FieldAt Tryz.prog 27 2 2 := fieldAt_sz (n := 0) (f := ⟨_, _, 2, _, _, _, _⟩) Tryz.underlying27 rfl (by kernel_rfl)
theorem gone24 : OneCell Tryz.prog 24 := oneCell_of Tryz.underlying24 rfl
theorem gsz29 : (Tryz.prog.info? 29).map (·.size) = some 3 := by kernel_rfl
theorem gagg29 : AggOf Tryz.prog 29 3 := aggOf_of Tryz.underlying29 rfl (by kernel_rfl)
theorem gfa29_0 : FieldAt Tryz.prog 29 0 0 := fieldAt_sz (n := 0) (f := ⟨_, _, 0, _, _, _, _⟩) Tryz.underlying29 rfl (by kernel_rfl)
theorem gone9 : OneCell Tryz.prog 9 := oneCell_of Tryz.underlying9 rfl
theorem gmk9 : ((Tryz.prog.info? 9).map fun i => (i.size, i.bytes, i.zero.map fun z => z.cells.toList)) = some (1, 16, some [str []]) := by kernel_rfl
theorem gsz9 : (Tryz.prog.info? 9).map (·.size) = some 1 := by kernel_rfl
theorem gsz5 : (Tryz.prog.info? 5).map (·.size) = some 1 := by kernel_rfl
theorem gone5 : OneCell Tryz.prog 5 := oneCell_of Tryz.underlying5 rfl
theorem gfa29_1 : FieldAt Tryz.prog 29 1 1 := fieldAt_sz (n := 0) (f := ⟨_, _, 1, _, _, _, _⟩) Tryz.underlying29 rfl (by kernel_rfl)
theorem gfa29_2 : FieldAt Tryz.prog 29 2 2 := fieldAt_sz (n := 0) (f := ⟨_, _, 2, _, _, _, _⟩) Tryz.underlying29 rfl (by kernel_rfl)
theorem gfa27_4 : FieldAt Tryz.prog 27 4 4 := fieldAt_sz (n := 0) (f := ⟨_, _, 4, _, _, _, _⟩) Tryz.underlying27 rfl (by kernel_rfl)
theorem gone25 : OneCell Tryz.prog 25 := oneCell_of Tryz.underlying25 rfl
theorem gfa27_3 : FieldAt Tryz.prog 27 3 3 := fieldAt_sz (n := 0) (f := ⟨_, _, 3, _, _, _, _⟩) Tryz.underlying27 rfl (by kernel_rfl)
theorem gsz3 : (Tryz.prog.info? 3).map (·.size) = some 1 := by kernel_rfl
theorem gfa27_5 : FieldAt Tryz.prog 27 5 5 := fieldAt_sz (n := 0) (f := ⟨_, _, 5, _, _, _, _⟩) Tryz.underlying27 rfl (by kernel_rfl)
theorem gfa27_6 : FieldAt Tryz.prog 27 6 6 := fieldAt_sz (n := 0) (f := ⟨_, _, 6, _, _, _, _⟩) Tryz.underlying27 rfl (by kernel_rfl)
theorem glit3 : ((Tryz.prog.info? 3).map fun i => (i.size, i.zero.isSome)) = some (1, true) := by kernel_rfl
theorem gfa169_0 : FieldAt Tryz.prog 169 0 0 := fieldAt_sz (n := 0) (f := ⟨_, _, 0, _, _, _, _⟩) Tryz.underlying169 rfl (by kernel_rfl)
theorem glit5 : ((Tryz.prog.info? 5).map fun i => (i.size, i.zero.isSome)) = some (1, true) := by kernel_rfl
theorem gapp5 : ((Tryz.prog.info? 5).map fun i => (i.size, i.bytes, (i.zero.map fun z => z.cells.size))) = some (1, 1, some 1) := by kernel_rfl
theorem glit9 : ((Tryz.prog.info? 9).map fun i => (i.size, i.zero.isSome)) = some (1, true) := by kernel_rfl
theorem gapb5 : ((Tryz.prog.info? 5).map fun i => (i.size, i.bytes, i.zero)) = some (1, 1, some (.int .u8 0)) := by kernel_rfl
theorem ghas5 : ((Tryz.prog.info? 5).map (·.size)).isSome = true := by kernel_rfl
theorem glit23 : ((Tryz.prog.info? 23).map fun i => (i.size, i.zero.isSome)) = some (1, true) := by kernel_rfl
theorem gmk5 : ((Tryz.prog.info? 5).map fun i => (i.size, i.bytes, i.zero.map fun z => z.cells.toList)) = some (1, 1, some [.int .u8 0]) := by kernel_rfl
theorem gfa178_0 : FieldAt Tryz.prog 178 0 0 := fieldAt_sz (n := 0) (f := ⟨_, _, 0, _, _, _, _⟩) Tryz.underlying178 rfl (by kernel_rfl)
theorem gone175 : OneCell Tryz.prog 175 := oneCell_of Tryz.underlying175 rfl
theorem gfa244_2 : FieldAt Tryz.prog 244 2 2 := fieldAt_sz (n := 0) (f := ⟨_, _, 2, _, _, _, _⟩) Tryz.underlying244 rfl (by kernel_rfl)
theorem gfa244_1 : FieldAt Tryz.prog 244 1 1 := fieldAt_sz (n := 0) (f := ⟨_, _, 1, _, _, _, _⟩) Tryz.underlying244 rfl (by kernel_rfl)
theorem gfa244_0 : FieldAt Tryz.prog 244 0 0 := fieldAt_sz (n := 0) (f := ⟨_, _, 0, _, _, _, _⟩) Tryz.underlying244 rfl (by kernel_rfl)
theorem gsz38 : (Tryz.prog.info? 38).map (·.size) = some 1 := by kernel_rfl
theorem gfa178_1 : FieldAt Tryz.prog 178 1 1 := fieldAt_sz (n := 0) (f := ⟨_, _, 1, _, _, _, _⟩) Tryz.underlying178 rfl (by kernel_rfl)
theorem gsz4 : (Tryz.prog.info? 4).map (·.size) = some 1 := by kernel_rfl
theorem gapp29 : ((Tryz.prog.info? 29).map fun i => (i.size, i.bytes, (i.zero.map fun z => z.cells.size))) = some (3, 32, some 3) := by kernel_rfl
theorem gsz24 : (Tryz.prog.info? 24).map (·.size) = some 1 := by kernel_rfl
theorem gapp3 : ((Tryz.prog.info? 3).map fun i => (i.size, i.bytes, (i.zero.map fun z => z.cells.size))) = some (1, 8, some 1) := by kernel_rfl
theorem gsz25 : (Tryz.prog.info? 25).map (·.size) = some 1 := by kernel_rfl
theorem gone4 : OneCell Tryz.prog 4 := oneCell_of Tryz.underlying4 rfl
theorem geqs29 : ∀ (x0 : List UInt8) (x1 : Int) (x2 : Int) (y0 : List UInt8) (y1 : Int) (y2 : Int) (w : World), (Op.equalIn 10000 29 (.agg #[str x0, i64 x1, i64 x2]) (.agg #[str y0, i64 y1, i64 y2])).run Tryz.prog w = .ok (decide (x0 = y0 ∧ x1 = y1 ∧ x2 = y2)) w := by
  intro x0 x1 x2 y0 y1 y2 w
  have hS : Tryz.prog.underlying 29 = some (.struct (Tryz.prog.fieldsOf 29)) := by kernel_rfl
  rw [show (10000 : Nat) = 9999 + 1 from rfl, run_equalIn_agg w 9999 29 _ _ hS (by kernel_rfl)]
  simp only [Program.fieldsOf, Tryz.underlying29]
  go_simp
  by_cases h0 : x0 = y0 <;> by_cases h1 : x1 = y1 <;> by_cases h2 : x2 = y2 <;> simp [h0, h1, h2]
theorem geqg29 : Tryz.prog.eqGuardType Tryz.prog.depth 29 = false := by kernel_rfl
theorem glit27 : ((Tryz.prog.info? 27).map fun i => (i.size, i.zero.isSome)) = some (7, true) := by kernel_rfl
theorem glit4 : ((Tryz.prog.info? 4).map fun i => (i.size, i.zero.isSome)) = some (1, true) := by kernel_rfl
theorem gsz34 : (Tryz.prog.info? 34).map (·.size) = some 2 := by kernel_rfl
theorem glit95 : ((Tryz.prog.info? 95).map fun i => (i.size, i.zero.isSome)) = some (2, true) := by kernel_rfl
theorem gagg34 : AggOf Tryz.prog 34 2 := aggOf_of Tryz.underlying34 rfl (by kernel_rfl)
theorem gfa34_1 : FieldAt Tryz.prog 34 1 1 := fieldAt_sz (n := 0) (f := ⟨_, _, 1, _, _, _, _⟩) Tryz.underlying34 rfl (by kernel_rfl)
theorem gfa104_0 : FieldAt Tryz.prog 104 0 0 := fieldAt_sz (n := 0) (f := ⟨_, _, 0, _, _, _, _⟩) Tryz.underlying104 rfl (by kernel_rfl)
theorem gfa104_1 : FieldAt Tryz.prog 104 1 1 := fieldAt_sz (n := 0) (f := ⟨_, _, 1, _, _, _, _⟩) Tryz.underlying104 rfl (by kernel_rfl)
theorem gfa34_0 : FieldAt Tryz.prog 34 0 0 := fieldAt_sz (n := 0) (f := ⟨_, _, 0, _, _, _, _⟩) Tryz.underlying34 rfl (by kernel_rfl)
theorem gone32 : OneCell Tryz.prog 32 := oneCell_of Tryz.underlying32 rfl
theorem gsz95 : (Tryz.prog.info? 95).map (·.size) = some 2 := by kernel_rfl
theorem gfa95_0 : FieldAt Tryz.prog 95 0 0 := fieldAt_sz (n := 0) (f := ⟨_, _, 0, _, _, _, _⟩) Tryz.underlying95 rfl (by kernel_rfl)
theorem gfa95_1 : FieldAt Tryz.prog 95 1 1 := fieldAt_sz (n := 0) (f := ⟨_, _, 1, _, _, _, _⟩) Tryz.underlying95 rfl (by kernel_rfl)
theorem gone100 : OneCell Tryz.prog 100 := oneCell_of Tryz.underlying100 rfl
set_option maxRecDepth 100000 in
theorem copyCheck_ct (b : Nat) (p u : Value) (hp : p = .pointer none ∨ p = ptr b 0) (hu : u.oneCell' = true) : Ct Tryz.prog 210 [ptr b 0] Mo.tt (Blk b [p, u] 224) (X := Unit) (fun _ => .tuple #[]) (fun _ => True) (fun _ => Mo.tt) (fun _ => Blk b [ptr b 0, u] 224) := by
  refine Ct.of Tryz.func210 rfl (by kernel_rfl) Tryz.ntmps210 (by simp) fun c => ?_
  rcases hp with rfl | rfl
  · refine VC.seq ?_
    refine VC.region ?_
    refine VL.q (q_move rfl) (by decide) ?_
    refine VL.q (q_nilCheck rfl) (by decide) ?_
    refine VL.q (q_field gfa224_0 rfl) (by decide) ?_
    refine VL.q (q_fe gone222 rfl rfl) (by decide) ?_
    refine VL.q (q_peqn Tryz.underlying222 rfl) (by decide) ?_
    refine VL.to (fun _ _ h => h) ?_
    refine VC.cond_t rfl ?_
    refine VC.region ?_
    refine VL.q (q_move rfl) (by decide) ?_
    refine VL.q (q_move rfl) (by decide) ?_
    refine VL.q (q_tou (n := 1) Tryz.underlying222 Tryz.underlying188 gszb rfl (by simp)) (by decide) ?_
    refine VL.q (q_noEscape Tryz.func248 rfl rfl (by kernel_rfl) (by kernel_rfl) rfl) (by decide) ?_
    refine VL.q (q_fromu (n := 2) (cs := [.pointer none, u]) Tryz.underlying188 Tryz.underlying222 gszb rfl (by kernel_rfl)) (by decide) ?_
    refine VL.q (q_nilCheck rfl) (by decide) ?_
    refine VL.q (q_field gfa224_0 rfl) (by decide) ?_
    refine VL.store (vc := [ptr b 0]) (cs' := [ptr b 0, u]) rfl rfl rfl gsz222 rfl rfl (Nat.le_of_ble_eq_true rfl) rfl ?_
    exact VL.nil (fin0 (.inl rfl) rfl () rfl trivial (fun _ _ => trivial) (by exact EntO.out))
  · refine VC.seq ?_
    refine VC.region ?_
    refine VL.q (q_move rfl) (by decide) ?_
    refine VL.q (q_nilCheck rfl) (by decide) ?_
    refine VL.q (q_field gfa224_0 rfl) (by decide) ?_
    refine VL.q (q_fe gone222 rfl rfl) (by decide) ?_
    refine VL.q (q_peqn Tryz.underlying222 rfl) (by decide) ?_
    refine VL.to (fun _ _ h => h) ?_
    refine VC.cond_f rfl ?_
    refine VC.seq ?_
    refine VC.region ?_
    refine VL.q (q_move rfl) (by decide) ?_
    refine VL.q (q_nilCheck rfl) (by decide) ?_
    refine VL.q (q_field gfa224_0 rfl) (by decide) ?_
    refine VL.q (q_fe gone222 rfl rfl) (by decide) ?_
    refine VL.q (q_move rfl) (by decide) ?_
    refine VL.q (q_pne Tryz.underlying222 gszb rfl rfl) (by decide) ?_
    refine VL.to (fun _ _ h => h) ?_
    refine VC.cond_f rfl ?_
    exact VC.skip (fin0 (.inl rfl) rfl () rfl trivial (fun _ _ => trivial) (by exact EntO.out))

set_option maxRecDepth 100000 in
theorem writeString_ct (b : Nat) (l s : Str) (hb : l.length + s.length ≤ 4294967296) : Ct Tryz.prog 165 [ptr b 0, str s] Mo.tt (Bd 224 5 b l) (X := Unit) (fun _ => .tuple #[i64 s.length, .nilIface]) (fun _ => True) (fun _ => Mo.tt) (fun _ => Bd 224 5 b (l ++ s)) := by
  refine Ct.monoE (E1 := fun z => ∃ q : Value × Sv UInt8, ((q.1 = .pointer none ∨ q.1 = ptr b 0) ∧ q.2.l = l ∧ (q.2.c = 0 → q.2.a = none)) ∧ Ow.star (Blk b [q.1, q.2.val] 224) (q.2.own 5) z) (Ct.exE (entry_of Tryz.func165 rfl (by kernel_rfl)) ?_) (fun z ⟨p, q, h1, h2, h3, h4⟩ => ⟨(p, q), ⟨h1, h2, h3⟩, h4⟩)
  rintro ⟨p, q⟩ ⟨hp, hl, hc⟩
  dsimp only at hp hl hc ⊢
  refine Ct.of Tryz.func165 rfl (by kernel_rfl) Tryz.ntmps165 (by simp) fun c => ?_
  refine VC.seq ?_
  refine VC.region ?_
  refine VL.q (q_assign rfl) (by decide) ?_
  refine VL.q (q_assign rfl) (by decide) ?_
  refine VL.to (fun _ _ h => h) ?_
  refine VC.seq ?_
  refine VC.region ?_
  refine VL.q (q_move rfl) (by decide) ?_
  refine VL.callO (copyCheck_ct b p q.val hp rfl) rfl (by decide) ?_
  rintro _ _
  refine VL.to (fun _ _ h => h) ?_
  refine VC.seq ?_
  refine VC.region ?_
  refine VL.q (q_move rfl) (by decide) ?_
  refine VL.q (q_move rfl) (by decide) ?_
  refine VL.q (q_nilCheck rfl) (by decide) ?_
  refine VL.q (q_field gfa224_1 rfl) (by decide) ?_
  refine VL.q (q_fe gone23 rfl rfl) (by decide) ?_
  refine VL.q (q_move rfl) (by decide) ?_
  refine VL.appS (s := q) (r := s) Tryz.underlying23 Tryz.underlying9 gappb rfl Fo.out (by rw [hl]; exact hb) (by decide) fun q2 hq2 hc2 => ?_
  refine VL.q (q_nilCheck rfl) (by decide) ?_
  refine VL.q (q_field gfa224_1 rfl) (by decide) ?_
  refine VL.store (vc := [q2.val]) (cs' := [ptr b 0, q2.val]) rfl rfl rfl gsz23 rfl rfl (Nat.le_of_ble_eq_true rfl) rfl ?_
  refine VL.to (fun _ _ h => h) ?_
  refine VC.seq ?_
  refine VC.region ?_
  refine VL.q (q_move rfl) (by decide) ?_
  refine VL.q (q_slen Tryz.underlying9 rfl) (by decide) ?_
  refine VL.q (q_assign rfl) (by decide) ?_
  refine VL.q (q_assign rfl) (by decide) ?_
  refine VL.to (fun _ _ h => h) ?_
  exact VC.ret (fin2 (.inr rfl) rfl rfl rfl () rfl trivial (fun _ _ => trivial) (fun z hz => Bd.mk (p := ptr b 0) (s := q2) (.inr rfl) (by rw [hq2, hl]) (hc2 hc) ((EntO.out (E' := Ow.star (Blk b [ptr b 0, q2.val] 224) (q2.own 5))) z hz)))

set_option maxRecDepth 100000 in
theorem string_ct (b : Nat) (l : Str) : Ct Tryz.prog 166 [ptr b 0] Mo.tt (Bd 224 5 b l) (X := Unit) (fun _ => str l) (fun _ => True) (fun _ => Mo.tt) (fun _ => Ow.emp) := by
  refine Ct.monoE (E1 := fun z => ∃ q : Value × Sv UInt8, ((q.1 = .pointer none ∨ q.1 = ptr b 0) ∧ q.2.l = l ∧ (q.2.c = 0 → q.2.a = none)) ∧ Ow.star (Blk b [q.1, q.2.val] 224) (q.2.own 5) z) (Ct.exE (entry_of Tryz.func166 rfl (by kernel_rfl)) ?_) (fun z ⟨p, q, h1, h2, h3, h4⟩ => ⟨(p, q), ⟨h1, h2, h3⟩, h4⟩)
  rintro ⟨p, q⟩ ⟨hp, rfl, hc⟩
  dsimp only at hp hc ⊢
  refine Ct.of Tryz.func166 rfl (by kernel_rfl) Tryz.ntmps166 (by simp) fun c => ?_
  refine VC.seq ?_
  refine VC.region ?_
  refine VL.q (q_assign rfl) (by decide) ?_
  refine VL.to (fun _ _ h => h) ?_
  refine VC.seq ?_
  refine VC.draw [(0, true), (1, true), (2, true), (3, true), (4, true), (5, true), (6, true), (7, true), (8, true), (9, true), (10, false), (11, true)] mixed (by kernel_rfl) (by kernel_rfl) (by kernel_rfl) ?_
  refine VD.q rfl (q_move rfl) (by decide) ?_
  refine VD.q rfl (q_nilCheck rfl) (by decide) ?_
  refine VD.q rfl (q_field gfa224_1 rfl) (by decide) ?_
  refine VD.q rfl (q_fe gone23 rfl rfl) (by decide) ?_
  refine VD.q rfl (q_sdata (s := q) rfl hc) (by decide) ?_
  refine VD.q rfl (q_move rfl) (by decide) ?_
  refine VD.q rfl (q_nilCheck rfl) (by decide) ?_
  refine VD.q rfl (q_field gfa224_1 rfl) (by decide) ?_
  refine VD.q rfl (q_fe gone23 rfl rfl) (by decide) ?_
  refine VD.q rfl (q_ln (s := q) Tryz.underlying23 rfl) (by decide) ?_
  refine VD.one rfl ?_
  refine VL.ustr (s := q) (e := 5) rfl Fo.out (by decide) (fun w h z o l k m => St.ustr (e := 5) Tryz.underlying279 (by kernel_rfl) o l k m) ?_
  refine VL.back (D' := []) (by kernel_rfl) Pend.nil ?_
  refine VD.q rfl (q_assign rfl) (by decide) ?_
  refine VD.to (fun _ _ h => h) ?_
  exact VC.ret (fin1 (.inr rfl) rfl rfl () rfl trivial (fun _ _ => trivial) (fun _ _ => trivial))

set_option maxRecDepth 100000 in
theorem unwrap_ct (b : Nat) (p : Str) (a : Int) (e : Er) : Ct Tryz.prog 314 [ptr b 0] (Cells b 0 [str p, i64 a, e.val]) Ow.emp (X := Unit) (fun _ => e.val) (fun _ => True) (fun _ => Mo.tt) (fun _ => Ow.emp) := by
  refine Ct.of Tryz.func314 rfl (by kernel_rfl) Tryz.ntmps314 (by simp) fun c => ?_
  refine VC.seq ?_
  refine VC.region ?_
  refine VL.q (q_assign rfl) (by decide) ?_
  refine VL.to (fun _ _ h => h) ?_
  refine VC.seq ?_
  refine VC.region ?_
  refine VL.q (q_move rfl) (by decide) ?_
  refine VL.q (q_nilCheck rfl) (by decide) ?_
  refine VL.q (q_field gfa104_2 rfl) (by decide) ?_
  refine VL.q (q_fm gone38 rfl rfl) (by decide) ?_
  refine VL.q (q_assign rfl) (by decide) ?_
  refine VL.to (fun _ _ h => h) ?_
  exact VC.ret (fin1 (.inr rfl) rfl rfl () rfl trivial (fun _ _ => trivial) (fun _ _ => trivial))
theorem unwrap_me (v : Value) : Meth Tryz.prog (.iface 100 v) "Unwrap" 314 v := Meth.of fun w => by kernel_rfl
set_option maxRecDepth 100000 in
theorem errorsis_ct (z0 : Er) (n : Int) (h0 : z0.pl.isNil = false) : Ct Tryz.prog 118 [z0.val, .iface 99 (i64 n), .bool true] z0.ok Ow.emp (X := Unit) (fun _ => .bool (decide (endNo z0.pl = some n))) (fun _ => True) (fun _ => Mo.tt) (fun _ => Ow.emp) := by
  refine Ct.of Tryz.func118 rfl (by kernel_rfl) Tryz.ntmps118 (by simp) fun c => ?_
  refine VC.seq ?_
  refine VC.region ?_
  refine VL.q (q_assign rfl) (by decide) ?_
  refine VL.to (fun _ _ h => h) ?_
  refine VC.block ?_
  refine VC.loopM (S := Er) (fun z => endNo z.pl = endNo z0.pl ∧ z.pl.isNil = false) (fun z => [(0, z.val), (1, .iface 99 (i64 n)), (2, .bool true)]) (fun z => z.ok) (fun _ => Ow.emp) Er.dep z0 [0, 1, 2] ⟨rfl, h0⟩ rfl (fun _ m => m) (fun _ e => e) ?_
  rintro z ⟨hz, hn⟩
  cases z with
  | nil => cases hn
  | no m =>
    refine VC.block ?_
    refine VC.seq ?_
    refine VC.seq ?_
    refine VC.region ?_
    refine VL.q (q_move rfl) (by decide) ?_
    refine VL.q (q_move rfl) (by decide) ?_
    refine VL.gy rfl rfl (q_move rfl) (by decide) ?_
    refine VL.gy rfl rfl (q_move rfl) (by decide) ?_
    refine VL.gy rfl rfl (q_eqno (a := m) (b := n) Tryz.underlying38 Tryz.underlying99 (by kernel_rfl) rfl rfl) (by decide) ?_
    refine VL.q (q_pick_t rfl rfl) (by decide) ?_
    refine VL.to (fun _ _ h => h) ?_
    have hz' : some m = endNo z0.pl := hz
    refine VC.cond_dec rfl (fun h => ?_) (fun h => ?_)
    · refine VC.seq ?_
      refine VC.region ?_
      refine VL.q (q_assign rfl) (by decide) ?_
      refine VL.to (fun _ _ h => h) ?_
      exact VC.ret (fin1 (.inr rfl) rfl rfl () (congrArg Value.bool (by rw [← hz', h]; simp)) trivial (fun _ _ => trivial) (fun _ _ => trivial))
    refine VC.skip_to (fun _ _ h => h) ?_
    refine VC.seq ?_
    refine VC.seq ?_
    refine VC.region ?_
    refine VL.q (q_move rfl) (by decide) ?_
    refine VL.q (q_ta rfl fun w => run_typeAssert_lacksB (z := .nilIface) Tryz.underlying250 (by kernel_rfl) (by kernel_rfl) _ _ w) (by decide) ?_
    refine VL.q (q_move rfl) (by decide) ?_
    refine VL.q (q_extract rfl rfl) (by decide) ?_
    refine VL.q (q_extract rfl rfl) (by decide) ?_
    refine VL.q (q_assign rfl) (by decide) ?_
    refine VL.q (q_assign rfl) (by decide) ?_
    refine VL.to (fun _ _ h => h) ?_
    refine VC.seq ?_
    refine VC.region ?_
    refine VL.q (q_move rfl) (by decide) ?_
    refine VL.q (q_move rfl) (by decide) ?_
    refine VL.gn rfl rfl rfl (by decide) ?_
    refine VL.gn rfl rfl rfl (by decide) ?_
    refine VL.gn rfl rfl rfl (by decide) ?_
    refine VL.q (q_pick_f rfl rfl) (by decide) ?_
    refine VL.to (fun _ _ h => h) ?_
    refine VC.cond_f rfl ?_
    refine VC.skip_to (fun _ _ h => h) ?_
    refine VC.seq ?_
    refine VC.region ?_
    refine VL.q (q_move rfl) (by decide) ?_
    refine VL.to (fun _ _ h => h) ?_
    refine VC.block ?_
    refine VC.seq ?_
    refine VC.region ?_
    refine VL.q (q_ta rfl fun w => run_typeAssert_lacksB (z := .nilIface) Tryz.underlying253 (by kernel_rfl) (by kernel_rfl) _ _ w) (by decide) ?_
    refine VL.q (q_extract rfl rfl) (by decide) ?_
    refine VL.q (q_extract rfl rfl) (by decide) ?_
    refine VL.to (fun _ _ h => h) ?_
    refine VC.cond_f rfl ?_
    refine VC.seq ?_
    refine VC.region ?_
    refine VL.q (q_ta rfl fun w => run_typeAssert_lacksB (z := .nilIface) Tryz.underlying254 (by kernel_rfl) (by kernel_rfl) _ _ w) (by decide) ?_
    refine VL.q (q_extract rfl rfl) (by decide) ?_
    refine VL.q (q_extract rfl rfl) (by decide) ?_
    refine VL.to (fun _ _ h => h) ?_
    refine VC.cond_f rfl ?_
    refine VC.seq ?_
    refine VC.region ?_
    refine VL.q (q_assign rfl) (by decide) ?_
    refine VL.to (fun _ _ h => h) ?_
    refine VC.seq ?_
    refine VC.region ?_
    refine VL.q (q_assign rfl) (by decide) ?_
    refine VL.to (fun _ _ h => h) ?_
    exact VC.ret (fin1 (.inr rfl) rfl rfl () (congrArg Value.bool (by rw [← hz']; exact (decide_eq_false fun q => h (Option.some.inj q)).symm)) trivial (fun _ _ => trivial) (fun _ _ => trivial))
  | fault b p a e =>
    refine VC.addM (Cells b 0 [str p, i64 a, e.val]) (fun _ m => m.1) ?_
    refine VC.addM e.ok (fun _ m => m.2.2) ?_
    refine VC.block ?_
    refine VC.seq ?_
    refine VC.seq ?_
    refine VC.region ?_
    refine VL.q (q_move rfl) (by decide) ?_
    refine VL.q (q_move rfl) (by decide) ?_
    refine VL.gy rfl rfl (q_move rfl) (by decide) ?_
    refine VL.gy rfl rfl (q_move rfl) (by decide) ?_
    refine VL.gy rfl rfl (q_eqdt (t1 := 100) (t2 := 99) (a := ptr b 0) (b := i64 n) Tryz.underlying38 (by decide) rfl rfl) (by decide) ?_
    refine VL.q (q_pick_t rfl rfl) (by decide) ?_
    refine VL.to (fun _ _ h => h) ?_
    have hz' : endNo e.pl = endNo z0.pl := hz
    refine VC.cond_f rfl ?_
    refine VC.skip_to (fun _ _ h => h) ?_
    refine VC.seq ?_
    refine VC.seq ?_
    refine VC.region ?_
    refine VL.q (q_move rfl) (by decide) ?_
    refine VL.q (q_ta rfl fun w => run_typeAssert_lacksB (z := .nilIface) Tryz.underlying250 (by kernel_rfl) (by kernel_rfl) _ _ w) (by decide) ?_
    refine VL.q (q_move rfl) (by decide) ?_
    refine VL.q (q_extract rfl rfl) (by decide) ?_
    refine VL.q (q_extract rfl rfl) (by decide) ?_
    refine VL.q (q_assign rfl) (by decide) ?_
    refine VL.q (q_assign rfl) (by decide) ?_
    refine VL.to (fun _ _ h => h) ?_
    refine VC.seq ?_
    refine VC.region ?_
    refine VL.q (q_move rfl) (by decide) ?_
    refine VL.q (q_move rfl) (by decide) ?_
    refine VL.gn rfl rfl rfl (by decide) ?_
    refine VL.gn rfl rfl rfl (by decide) ?_
    refine VL.gn rfl rfl rfl (by decide) ?_
    refine VL.q (q_pick_f rfl rfl) (by decide) ?_
    refine VL.to (fun _ _ h => h) ?_
    refine VC.cond_f rfl ?_
    refine VC.skip_to (fun _ _ h => h) ?_
    refine VC.seq ?_
    refine VC.region ?_
    refine VL.q (q_move rfl) (by decide) ?_
    refine VL.to (fun _ _ h => h) ?_
    refine VC.block ?_
    refine VC.seq ?_
    refine VC.region ?_
    refine VL.q (q_ta rfl fun w => run_typeAssert_hasB Tryz.underlying253 (by kernel_rfl) _ _ w) (by decide) ?_
    refine VL.q (q_extract rfl rfl) (by decide) ?_
    refine VL.q (q_extract rfl rfl) (by decide) ?_
    refine VL.to (fun _ _ h => h) ?_
    refine VC.cond_t rfl ?_
    refine VC.seq ?_
    refine VC.region ?_
    refine VL.q (q_assign rfl) (by decide) ?_
    refine VL.to (fun _ _ h => h) ?_
    refine VC.seq ?_
    refine VC.region ?_
    refine VL.q (q_move rfl) (by decide) ?_
    refine VL.q (q_inv rfl (unwrap_me (ptr b 0)) (unwrap_ct b p a e) (fun _ _ => rfl)) (by decide) ?_
    refine VL.q (q_assign rfl) (by decide) ?_
    refine VL.to (fun _ _ h => h) ?_
    refine VC.seq ?_
    refine VC.region ?_
    refine VL.q (q_move rfl) (by decide) ?_
    refine VL.q (q_ereq Tryz.underlying38 (z := e) rfl) (by decide) ?_
    refine VL.to (fun _ _ h => h) ?_
    refine VC.cond_dec rfl (fun h => ?_) (fun h => ?_)
    · refine VC.seq ?_
      refine VC.region ?_
      refine VL.q (q_assign rfl) (by decide) ?_
      refine VL.to (fun _ _ h => h) ?_
      exact VC.ret (fin1 (.inr rfl) rfl rfl () (congrArg Value.bool (by
        rw [← hz']
        cases e with
        | nil => rfl
        | no m => cases h
        | fault _ _ _ _ => cases h)) trivial (fun _ _ => trivial) (fun _ _ => trivial))
    · exact VC.skip_any e [0, 1, 2] (fun _ _ h => h) ⟨⟨hz', by simpa using h⟩, Nat.lt_succ_self _⟩ rfl (fun _ m => m.1) (fun _ e => e)
theorem typeof_no (v : Value) (w : World) : (Extern.ReflectliteType.typeOf #[.iface 99 v]).run Tryz.prog w = .ok (.iface 248 (.agg #[.pointer (some ⟨7, 99, none⟩)])) w := by kernel_rfl
theorem comp_no (w : World) : (Extern.ReflectliteType.method (fun t => do Extern.Rtype.noPackHeld "Comparable" t; pure (.bool (← typeInfo t).comparable)) #[.agg #[.pointer (some ⟨7, 99, none⟩)]]).run Tryz.prog w = .ok (.bool true) w := by kernel_rfl
theorem comp_me (v : Value) : Meth Tryz.prog (.iface 248 v) "Comparable" 321 v := Meth.of fun w => by kernel_rfl
set_option maxRecDepth 100000 in
theorem is_ct (z0 : Er) (n : Int) : Ct Tryz.prog 45 [z0.val, .iface 99 (i64 n)] z0.ok Ow.emp (X := Unit) (fun _ => .bool (decide (endNo z0.pl = some n))) (fun _ => True) (fun _ => Mo.tt) (fun _ => Ow.emp) := by
  refine Ct.of Tryz.func45 rfl (by kernel_rfl) Tryz.ntmps45 (by simp) fun c => ?_
  have fin : z0.pl.isNil = false → ∀ Q : Exit → Act → World → Prop, Q = bodyPost Tryz.prog Tryz.f45 (fun en w' => ∃ r, en = .returned r ∧ Post (X := Unit) (fun _ => .bool (decide (endNo z0.pl = some n))) (fun _ => True) (fun _ => Mo.tt) (fun _ => Ow.emp) c r w') → True := fun _ _ _ => trivial
  refine VC.seq ?_
  refine VC.region ?_
  refine VL.q (q_assign rfl) (by decide) ?_
  refine VL.to (fun _ _ h => h) ?_
  refine VC.seq ?_
  refine VC.seq ?_
  refine VC.region ?_
  refine VL.q (q_move rfl) (by decide) ?_
  by_cases hn : z0 = .nil
  · subst hn
    refine VL.q (q_nileq Tryz.underlying38 rfl) (by decide) ?_
    refine VL.q (q_move rfl) (by decide) ?_
    refine VL.gn rfl rfl rfl (by decide) ?_
    refine VL.gn rfl rfl rfl (by decide) ?_
    refine VL.q (q_pick_t rfl rfl) (by decide) ?_
    refine VL.to (fun _ _ h => h) ?_
    refine VC.cond_t rfl ?_
    refine VC.seq ?_
    refine VC.region ?_
    refine VL.q (q_move rfl) (by decide) ?_
    refine VL.q (q_move rfl) (by decide) ?_
    refine VL.q (q_eqnl (T := 99) (u := i64 n) Tryz.underlying38 rfl rfl) (by decide) ?_
    refine VL.q (q_assign rfl) (by decide) ?_
    refine VL.to (fun _ _ h => h) ?_
    exact VC.ret (fin1 (.inr rfl) rfl rfl () rfl trivial (fun _ _ => trivial) (fun _ _ => trivial))
  have hn' : z0.pl.isNil = false := by
    cases z0 with
    | nil => exact absurd rfl hn
    | no m => rfl
    | fault _ _ _ _ => rfl
  refine VL.q (v := .bool false) (by
    cases z0 with
    | nil => exact absurd rfl hn
    | no m => exact q_ifeq Tryz.underlying38 rfl
    | fault _ _ _ _ => exact q_ifeq Tryz.underlying38 rfl) (by decide) ?_
  refine VL.q (q_move rfl) (by decide) ?_
  refine VL.gy rfl rfl (q_move rfl) (by decide) ?_
  refine VL.gy rfl rfl (q_ifeq Tryz.underlying38 rfl) (by decide) ?_
  refine VL.q (q_pick_f rfl rfl) (by decide) ?_
  refine VL.to (fun _ _ h => h) ?_
  refine VC.cond_f rfl ?_
  refine VC.skip_to (fun _ _ h => h) ?_
  refine VC.seq ?_
  refine VC.region ?_
  refine VL.q (q_move rfl) (by decide) ?_
  refine VL.q (q_extern Tryz.func117 rfl rfl (by kernel_rfl) (by kernel_rfl) rfl (typeof_no _)) (by decide) ?_
  refine VL.q (q_invX rfl (comp_me _) Tryz.func321 rfl rfl (by kernel_rfl) (by kernel_rfl) comp_no) (by decide) ?_
  refine VL.q (q_assign rfl) (by decide) ?_
  refine VL.to (fun _ _ h => h) ?_
  refine VC.seq ?_
  refine VC.region ?_
  refine VL.q (q_move rfl) (by decide) ?_
  refine VL.q (q_move rfl) (by decide) ?_
  refine VL.q (q_move rfl) (by decide) ?_
  refine VL.q (q_call (errorsis_ct z0 n hn') rfl (fun _ _ => rfl)) (by decide) ?_
  refine VL.q (q_assign rfl) (by decide) ?_
  refine VL.to (fun _ _ h => h) ?_
  exact VC.ret (fin1 (.inr rfl) rfl rfl () rfl trivial (fun _ _ => trivial) (fun _ _ => trivial))

open Go.Extern.Stop Go.Stop Go.Extern Go.RowKit in
section
end

namespace As
open Go.Extern Go.Extern.Stop
theorem as_valueOf (t : Addr) (w : World) : (ReflectliteValue.unpack (.iface 102 (.pointer (some t)))).run Tryz.prog w
    = .ok (.agg #[.pointer (some ⟨7, 102, none⟩), .pointer (some ⟨w.heap.size, 0, none⟩), .int .u64 150]) (w.alloc (.cells #[.pointer (some t)] 102)) := by kernel_rfl
theorem as_type (a : Addr) (w : World) : (ReflectliteValue.methodAny (ReflectliteValue.valueError "reflectlite.Value.Type" 0) (fun t _ _ _ => ReflectliteType.toType t) #[.agg #[.pointer (some ⟨7, 102, none⟩), .pointer (some a), .int .u64 150]]).run Tryz.prog w
    = .ok (.iface 248 (.agg #[.pointer (some ⟨7, 102, none⟩)])) w := by kernel_rfl
theorem as_mKind (h : Value) (w : World) : (Go.method 468 248 (.agg #[h]) "Kind").run Tryz.prog w = .ok (308, h) w := by kernel_rfl
theorem as_kind1 (w : World) : ((ReflectliteType.abiMethod fun t => (fun a : Nat => Value.int IntKind.u8 (a : Int)) <$> Rtype.kind t) #[.pointer (some ⟨7, 102, none⟩)]).run Tryz.prog w = .ok (.int .u8 22) w := by kernel_rfl
theorem as_kind2 (w : World) : ((ReflectliteType.abiMethod fun t => (fun a : Nat => Value.int IntKind.u8 (a : Int)) <$> Rtype.kind t) #[.pointer (some ⟨7, 100, none⟩)]).run Tryz.prog w = .ok (.int .u8 22) w := by kernel_rfl
theorem as_rlm (z : Sem Value) (f : TypeId → Addr → Nat → Nat → Sem Value) (v : Value) :
    ReflectliteValue.method z f #[v] = (do match ← ReflectliteValue.parts v with | none => z | some (t, a, fl) => f t a fl (fl % 32)) := rfl
theorem as_parts1 (a : Addr) (w : World) : (ReflectliteValue.parts (.agg #[.pointer (some ⟨7, 102, none⟩), .pointer (some a), .int .u64 150])).run Tryz.prog w = .ok (some (102, a, 150)) w := by kernel_rfl
theorem as_isNil (a p : Addr) (W : World) (ha : W.cell? a = some (.pointer (some p))) :
    (ReflectliteValue.method (ReflectliteValue.valueError "reflectlite.Value.IsNil" 0) ReflectliteValue.isNil #[.agg #[.pointer (some ⟨7, 102, none⟩), .pointer (some a), .int .u64 150]]).run Tryz.prog W = .ok (.bool false) W := by
  rw [as_rlm]
  simp only [Sem.run_bind, as_parts1, Result.andThen]
  simp [ReflectliteValue.isNil, loadVar, isAgg, underlying, Tryz.underlying102, ha, Result.andThen]
theorem as_mElem (h : Value) (w : World) : (Go.method 468 248 (.agg #[h]) "Elem").run Tryz.prog w = .ok (322, .agg #[h]) w := by kernel_rfl
theorem as_mImpl (h : Value) (w : World) : (Go.method 468 248 (.agg #[h]) "Implements").run Tryz.prog w = .ok (323, .agg #[h]) w := by kernel_rfl
theorem as_mAssn (h : Value) (w : World) : (Go.method 468 248 (.agg #[h]) "AssignableTo").run Tryz.prog w = .ok (320, .agg #[h]) w := by kernel_rfl
theorem as_elem1 (w : World) : (ReflectliteType.method ReflectliteType.elem #[.agg #[.pointer (some ⟨7, 102, none⟩)]]).run Tryz.prog w = .ok (.iface 248 (.agg #[.pointer (some ⟨7, 100, none⟩)])) w := by kernel_rfl
theorem as_impl2 (w : World) : (ReflectliteType.relation "Implements" ReflectliteType.implements_ #[.agg #[.pointer (some ⟨7, 100, none⟩)], .iface 248 (.agg #[.pointer (some ⟨7, 38, none⟩)])]).run Tryz.prog w = .ok (.bool true) w := by kernel_rfl
theorem as_typeOf2 (v : Value) (w : World) : (ReflectliteType.typeOf #[.iface 100 v]).run Tryz.prog w = .ok (.iface 248 (.agg #[.pointer (some ⟨7, 100, none⟩)])) w := by kernel_rfl
theorem as_assn2 (w : World) : (ReflectliteType.relation "AssignableTo" ReflectliteType.assignableTo #[.agg #[.pointer (some ⟨7, 100, none⟩)], .iface 248 (.agg #[.pointer (some ⟨7, 100, none⟩)])]).run Tryz.prog w = .ok (.bool true) w := by kernel_rfl
theorem as_valueOf2 (e : Addr) (w : World) : (ReflectliteValue.unpack (.iface 100 (.pointer (some e)))).run Tryz.prog w
    = .ok (.agg #[.pointer (some ⟨7, 100, none⟩), .pointer (some ⟨w.heap.size, 0, none⟩), .int .u64 150]) (w.alloc (.cells #[.pointer (some e)] 100)) := by kernel_rfl
theorem as_elemOf1 (w : World) : (Rtype.elem? 102).run Tryz.prog w = .ok (some 100) w := by kernel_rfl
theorem as_mk2 (p : Addr) (w : World) : (ReflectliteValue.mk 100 p ReflectliteValue.flagAddr).run Tryz.prog w = .ok (.agg #[.pointer (some ⟨7, 100, none⟩), .pointer (some p), .int .u64 406]) w := by kernel_rfl
theorem as_elemV1 (a p : Addr) (W : World) (ha : W.cell? a = some (.pointer (some p))) :
    (ReflectliteValue.method (ReflectliteValue.valueError "reflectlite.Value.Elem" 0) ReflectliteValue.elem #[.agg #[.pointer (some ⟨7, 102, none⟩), .pointer (some a), .int .u64 150]]).run Tryz.prog W
      = .ok (.agg #[.pointer (some ⟨7, 100, none⟩), .pointer (some p), .int .u64 406]) W := by
  rw [as_rlm]
  simp only [Sem.run_bind, as_parts1, Result.andThen]
  simp [ReflectliteValue.elem, loadVar, isAgg, underlying, Tryz.underlying102, ha, Result.andThen, as_elemOf1, as_mk2]
theorem as_rls (v x : Value) : ReflectliteValue.set #[v, x] = (do
    let (some (dst, a, fl), some (src, b, _)) := (← ReflectliteValue.parts v, ← ReflectliteValue.parts x)
      | unsupported (.noEntry "extern/(internal/reflectlite.Value).Set.zeroValue")
    if fl / ReflectliteValue.flagAddr % 2 == 0 then unsupported (.noEntry "extern/(internal/reflectlite.Value).Set.unaddressable")
    let val ← loadVar src b
    if ← Rtype.directlyAssignable dst src then storeVar dst a val
    else if ← Rtype.implements dst src then
      if (← Rtype.kind src) == 20 then
        match val with
        | .nilIface => unsupported (.noEntry "extern/reflectlite: a nil value of one interface type handed on as a value of another")
        | _ => storeVar dst a val
      else storeVar dst a (.iface src val)
    else panicString ("reflectlite.Set: value of type " ++ (← Rtype.spelt src) ++ " is not assignable to type " ++ (← Rtype.spelt dst))
    pure (.tuple #[])) := rfl
theorem as_parts2a (a : Addr) (w : World) : (ReflectliteValue.parts (.agg #[.pointer (some ⟨7, 100, none⟩), .pointer (some a), .int .u64 406])).run Tryz.prog w = .ok (some (100, a, 406)) w := by kernel_rfl
theorem as_parts2 (a : Addr) (w : World) : (ReflectliteValue.parts (.agg #[.pointer (some ⟨7, 100, none⟩), .pointer (some a), .int .u64 150])).run Tryz.prog w = .ok (some (100, a, 150)) w := by kernel_rfl
theorem as_direct2 (w : World) : (Rtype.directlyAssignable 100 100).run Tryz.prog w = .ok true w := by kernel_rfl
theorem as_set2 (ta b e : Addr) (old : Value) (W : World) (hb : W.cell? b = some (.pointer (some e))) (ht : W.cell? ta = some old) (hf : W.frozen? ta = false) :
    (ReflectliteValue.set #[.agg #[.pointer (some ⟨7, 100, none⟩), .pointer (some ta), .int .u64 406], .agg #[.pointer (some ⟨7, 100, none⟩), .pointer (some b), .int .u64 150]]).run Tryz.prog W
      = .ok (.tuple #[]) (W.setCell ta (.pointer (some e))) := by
  rw [as_rls]
  simp only [Sem.run_bind, as_parts2a, as_parts2, Result.andThen]
  simp [ReflectliteValue.flagAddr, loadVar, isAgg, underlying, Tryz.underlying100, hb, Result.andThen, as_direct2, storeVar, Value.cells, storeCells, Addr.add]
  rw [run_store Tryz.prog W ta _ _ (by rfl)]
  simp [ht, hf]
set_option maxHeartbeats 4000000 in
theorem as_hit (e t : Addr) (old : Value) (w : World) (hg : w.cell? ⟨0, 0, none⟩ = some (.iface 248 (.agg #[.pointer (some ⟨7, 38, none⟩)]))) (ht0 : w.cell? t = some old) (hf0 : w.frozen? t = false) :
    Calls Tryz.prog 46 #[.iface 100 (.pointer (some e)), .iface 102 (.pointer (some t))] w fun ev w' => ev = .returned (.bool true) ∧ w' = ((((w.alloc (.cells #[.pointer (some t)] 102)).alloc (.cells #[.pointer (some ⟨7, 102, none⟩), .pointer (some ⟨w.heap.size, 0, none⟩), .int .u64 150] 191)).alloc (.cells #[.pointer (some ⟨7, 102, none⟩), .pointer (some ⟨w.heap.size, 0, none⟩), .int .u64 150] 191)).alloc (.cells #[.pointer (some e)] 100)).setCell t (.pointer (some e)) := by
  have h6 := @run_callFunc_extern Tryz.prog 119 _ (fun args => ReflectliteValue.unpack (args.getD 0 (.tuple #[]))) Tryz.func119 (by kernel_rfl) (by kernel_rfl) (by kernel_rfl) (by kernel_rfl)
  have h7 := @run_callFunc_extern Tryz.prog 120 _ (ReflectliteValue.methodAny (ReflectliteValue.valueError "reflectlite.Value.Type" 0) (fun t _ _ _ => ReflectliteType.toType t)) Tryz.func120 (by kernel_rfl) (by kernel_rfl) (by kernel_rfl) (by kernel_rfl)
  have h8 := @run_callFunc_extern Tryz.prog 121 _ (ReflectliteValue.method (ReflectliteValue.valueError "reflectlite.Value.IsNil" 0) ReflectliteValue.isNil) Tryz.func121 (by kernel_rfl) (by kernel_rfl) (by kernel_rfl) (by kernel_rfl)
  have h27 := @run_callFunc_extern Tryz.prog 308 _ (ReflectliteType.abiMethod fun t => do pure (.int .u8 (← Rtype.kind t))) Tryz.func308 (by kernel_rfl) (by kernel_rfl) (by kernel_rfl) (by kernel_rfl)
  have h37 := @run_callFunc_extern Tryz.prog 322 _ (ReflectliteType.method ReflectliteType.elem) Tryz.func322 (by kernel_rfl) (by kernel_rfl) (by kernel_rfl) (by kernel_rfl)
  have h38 := @run_callFunc_extern Tryz.prog 323 _ (ReflectliteType.relation "Implements" ReflectliteType.implements_) Tryz.func323 (by kernel_rfl) (by kernel_rfl) (by kernel_rfl) (by kernel_rfl)
  have h10 := @run_callFunc_extern Tryz.prog 117 _ ReflectliteType.typeOf Tryz.func117 (by kernel_rfl) (by kernel_rfl) (by kernel_rfl) (by kernel_rfl)
  have h35 := @run_callFunc_extern Tryz.prog 320 _ (ReflectliteType.relation "AssignableTo" ReflectliteType.assignableTo) Tryz.func320 (by kernel_rfl) (by kernel_rfl) (by kernel_rfl) (by kernel_rfl)
  have h11 := @run_callFunc_extern Tryz.prog 180 _ (ReflectliteValue.method (ReflectliteValue.valueError "reflectlite.Value.Elem" 0) ReflectliteValue.elem) Tryz.func180 (by kernel_rfl) (by kernel_rfl) (by kernel_rfl) (by kernel_rfl)
  have h12 := @run_callFunc_extern Tryz.prog 181 _ ReflectliteValue.set Tryz.func181 (by kernel_rfl) (by kernel_rfl) (by kernel_rfl) (by kernel_rfl)
  have tO := as_typeOf2
  have mA := as_mAssn
  have a25 := as_assn2
  have v25 := as_valueOf2
  have f6 := as_valueOf
  have f7 := as_type
  have mK := as_mKind
  have mE := as_mElem
  have mI := as_mImpl
  have k27 := as_kind1
  have k25 := as_kind2
  have e27 := as_elem1
  have i25 := as_impl2
  have n8 := as_isNil ⟨w.heap.size, 0, none⟩ t ((w.alloc (.cells #[.pointer (some t)] 102)).alloc (.cells #[.pointer (some ⟨7, 102, none⟩), .pointer (some ⟨w.heap.size, 0, none⟩), .int .u64 150] 191)) (by simp)
  have hlt : 0 < w.heap.size := by
    rcases Nat.lt_or_ge 0 w.heap.size with h | h
    · exact h
    · simp [World.cell?, Array.getElem?_eq_none h] at hg
  have hg2 : ((w.alloc (.cells #[.pointer (some t)] 102)).alloc (.cells #[.pointer (some ⟨7, 102, none⟩), .pointer (some ⟨w.heap.size, 0, none⟩), .int .u64 150] 191)).cell? ⟨0, 0, none⟩ = some (.iface 248 (.agg #[.pointer (some ⟨7, 38, none⟩)])) := by
    rw [World.cell?_alloc_lt _ _ ⟨0, 0, none⟩ (by first | (simp; done) | (simp; omega)), World.cell?_alloc_lt _ _ ⟨0, 0, none⟩ hlt]; exact hg
  have htl : t.block < w.heap.size := by
    rcases Nat.lt_or_ge t.block w.heap.size with h | h
    · exact h
    · simp [World.cell?, Array.getElem?_eq_none h] at ht0
  have el := as_elemV1 ⟨w.heap.size, 0, none⟩ t (((w.alloc (.cells #[.pointer (some t)] 102)).alloc (.cells #[.pointer (some ⟨7, 102, none⟩), .pointer (some ⟨w.heap.size, 0, none⟩), .int .u64 150] 191)).alloc (.cells #[.pointer (some ⟨7, 102, none⟩), .pointer (some ⟨w.heap.size, 0, none⟩), .int .u64 150] 191)) (by rw [World.cell?_alloc_lt _ _ ⟨w.heap.size, 0, none⟩ (by simp; omega)]; simp)
  have st := as_set2 t ⟨w.heap.size + 1 + 1 + 1, 0, none⟩ e old ((((w.alloc (.cells #[.pointer (some t)] 102)).alloc (.cells #[.pointer (some ⟨7, 102, none⟩), .pointer (some ⟨w.heap.size, 0, none⟩), .int .u64 150] 191)).alloc (.cells #[.pointer (some ⟨7, 102, none⟩), .pointer (some ⟨w.heap.size, 0, none⟩), .int .u64 150] 191)).alloc (.cells #[.pointer (some e)] 100))
    (by rw [World.cell?_alloc_at _ _ _ _ (by simp)]; rfl)
    (by rw [World.cell?_alloc_lt _ _ t (by simp; omega), World.cell?_alloc_lt _ _ t (by simp; omega), World.cell?_alloc_lt _ _ t (by simp; omega), World.cell?_alloc_lt _ _ t htl]; exact ht0)
    (by rw [World.frozen?_alloc_old _ _ t (by simp; omega), World.frozen?_alloc_old _ _ t (by simp; omega), World.frozen?_alloc_old _ _ t (by simp; omega), World.frozen?_alloc_old _ _ t (Nat.ne_of_lt htl)]; exact hf0)
  go_enter Tryz.func46, Tryz.ntmps46
  go_wp2
  refine wp_loop_rounds 1 ?_
  rw [rounds_succ]
  go_wp2
  go_ret
  exact ⟨rfl, rfl⟩
theorem as_ct (b t : Nat) : Ct Tryz.prog 46 [.iface 100 (ptr b 0), .iface 102 (ptr t 0)] (GBlk 0 #[.iface 248 (.agg #[.pointer (some ⟨7, 38, none⟩)])]) (Blk t [.pointer none] 100) (X := Unit) (fun _ => .bool true) (fun _ => True) (fun _ => Mo.tt) (fun _ => Blk t [ptr b 0] 100) :=
  ⟨entry_of Tryz.func46 rfl (by kernel_rfl), fun w hp z m ee d l k => by
    have hb : w.heap[t]? = some (.cells #[.pointer none] 100 (0, 0)) := k _ _ ee
    obtain ⟨t1, f1, m1⟩ := m
    have hg : w.heap[0]? = some (.cells #[.iface 248 (.agg #[.pointer (some ⟨7, 38, none⟩)])] t1 f1) := l _ _ m1
    have htl := (Array.getElem?_eq_some_iff.1 hb).1
    refine (as_hit ⟨b, 0, none⟩ ⟨t, 0, none⟩ (.pointer none) w (by simp [World.cell?, hg]) (by simp [World.cell?, hb]) (by simp [World.frozen?, hb])).mono fun en w' ⟨h1, h2⟩ => ⟨_, h1, (), rfl, trivial, ?_⟩
    have hgr : Gr w ((((w.alloc (.cells #[.pointer (some ⟨t, 0, none⟩)] 102)).alloc (.cells #[.pointer (some ⟨7, 102, none⟩), .pointer (some ⟨w.heap.size, 0, none⟩), .int .u64 150] 191)).alloc (.cells #[.pointer (some ⟨7, 102, none⟩), .pointer (some ⟨w.heap.size, 0, none⟩), .int .u64 150] 191)).alloc (.cells #[.pointer (some ⟨b, 0, none⟩)] 100)) := (((Gr.alloc w _).trans (Gr.alloc _ _)).trans (Gr.alloc _ _)).trans (Gr.alloc _ _)
    exact St.turned hb (show z t = _ from ee) d l hgr h2⟩
end As

set_option maxHeartbeats 4000000 in
set_option maxRecDepth 100000 in
theorem unicode_utf8_RuneCountInString_ct (s_0 : Str) {r : Int} (hS : Sh.unicode_utf8_RuneCountInString s_0 = some r) :
    Ct Tryz.prog 280 [str s_0] Mo.tt (Ow.emp) (X := Unit) (fun _ => i64 r) (fun _ => True) (fun _ => Mo.tt) (fun _ => Ow.emp) := by
  refine Ct.of Tryz.func280 rfl (by kernel_rfl) Tryz.ntmps280 (by simp) fun c => ?_
  unfold Sh.unicode_utf8_RuneCountInString at hS
  refine VC.seq ?_
  refine VC.region ?_
  refine VL.q (q_assign rfl) (by decide) ?_
  refine VL.to (fun _ _ h => h) ?_
  refine VC.seq ?_
  refine VC.seq ?_
  refine VC.region ?_
  refine VL.q (q_move rfl) (by decide) ?_
  cases hS

set_option maxHeartbeats 4000000 in
set_option maxRecDepth 100000 in
theorem unicode_utf8_decodeRuneInStringSlow_ct (s_0 : Str) {r : Int × Int} (hS : Sh.unicode_utf8_decodeRuneInStringSlow s_0 = some r) :
    Ct Tryz.prog 282 [str s_0] Mo.tt (Ow.emp) (X := Unit) (fun _ => .tuple #[.int .i32 r.1, i64 r.2]) (fun _ => True) (fun _ => Mo.tt) (fun _ => Ow.emp) := by
  refine Ct.of Tryz.func282 rfl (by kernel_rfl) Tryz.ntmps282 (by simp) fun c => ?_
  unfold Sh.unicode_utf8_decodeRuneInStringSlow at hS
  refine VC.seq ?_
  refine VC.region ?_
  refine VL.q (q_assign rfl) (by decide) ?_
  refine VL.q (q_assign rfl) (by decide) ?_
  refine VL.to (fun _ _ h => h) ?_
  refine VC.seq ?_
  refine VC.region ?_
  refine VL.q (q_move rfl) (by decide) ?_
  refine VL.q (q_slen Tryz.underlying9 rfl) (by decide) ?_
  refine VL.q (q_assign rfl) (by decide) ?_
  refine VL.to (fun _ _ h => h) ?_
  refine VC.seq ?_
  refine VC.seq ?_
  refine VC.region ?_
  refine VL.q (q_move rfl) (by decide) ?_
  refine VL.q (q_lss rfl rfl) (by decide) ?_
  refine VL.to (fun _ _ h => h) ?_
  refine VC.cond_dec rfl (fun h16 => ?_) (fun h16 => ?_)
  ·
    replace hS := it_t h16 hS
    refine VC.seq ?_
    refine VC.region ?_
    refine VL.q (q_assign rfl) (by decide) ?_
    refine VL.q (q_assign rfl) (by decide) ?_
    refine VL.to (fun _ _ h => h) ?_
    cases hS
    exact VC.ret (fin2 (.inr rfl) rfl rfl rfl () rfl trivial (fun _ _ => trivial) (fun _ _ => trivial))
  ·
    replace hS := it_f h16 hS
    refine VC.skip_to (fun _ _ h => h) ?_
    refine VC.seq ?_
    refine VC.region ?_
    refine VL.q (q_move rfl) (by decide) ?_
    obtain ⟨z18_1, nz18_1, hz18_1, hS⟩ := at_s hS
    refine VL.q (q_sidx Tryz.underlying9 rfl rfl nz18_1 hz18_1) (by decide) ?_
    refine VL.q (q_assign rfl) (by decide) ?_
    refine VL.to (fun _ _ h => h) ?_
    refine VC.keep [0, 4, 5] rfl ?_
    refine VC.seq ?_
    refine VC.region ?_
    refine VL.q (q_move rfl) (by decide) ?_
    cases hS

set_option maxHeartbeats 4000000 in
set_option maxRecDepth 100000 in
theorem unicode_utf8_DecodeRuneInString_ct (s_0 : Str) {r : Int × Int} (hS : Sh.unicode_utf8_DecodeRuneInString s_0 = some r) :
    Ct Tryz.prog 257 [str s_0] Mo.tt (Ow.emp) (X := Unit) (fun _ => .tuple #[.int .i32 r.1, i64 r.2]) (fun _ => True) (fun _ => Mo.tt) (fun _ => Ow.emp) := by
  refine Ct.of Tryz.func257 rfl (by kernel_rfl) Tryz.ntmps257 (by simp) fun c => ?_
  unfold Sh.unicode_utf8_DecodeRuneInString at hS
  refine VC.seq ?_
  refine VC.region ?_
  refine VL.q (q_assign rfl) (by decide) ?_
  refine VL.q (q_assign rfl) (by decide) ?_
  refine VL.to (fun _ _ h => h) ?_
  refine VC.seq ?_
  refine VC.cutJ (S := Bool) (fun (x10_1 : Bool) => x10_1) (fun (x10_1 : Bool) => [(0, str s_0), (10, .bool x10_1)]) (fun (x10_1 : Bool) => Mo.tt) (fun (x10_1 : Bool) => Ow.emp) hS ?_ ?_
  · -- up to where ways meet
    clear hS
    intro k2 hS
    refine VC.region ?_
    refine VL.q (q_move rfl) (by decide) ?_
    refine VL.q (q_sne rfl rfl) (by decide) ?_
    refine VL.q (q_move rfl) (by decide) ?_
    refine VL.split_ndec 6 rfl (fun h6 => ?_) (fun h6 => ?_)
    ·
      replace hS := it_f h6 hS
      refine VL.gy rfl rfl (q_move rfl) (by decide) ?_
      obtain ⟨z8_3, nz8_3, hz8_3, hS⟩ := at_s hS
      refine VL.gy rfl rfl (q_sidx Tryz.underlying9 rfl rfl nz8_3 hz8_3) (by decide) ?_
      refine VL.gy rfl rfl (q_lss rfl rfl) (by decide) ?_
      refine VL.q (q_pick_t rfl rfl) (by decide) ?_
      refine VL.mt (decide ((z8_3.toNat : Int) < 128)) [0, 10] (fun _ _ h => h) hS rfl
    ·
      replace hS := it_t h6 hS
      refine VL.gn rfl rfl rfl (by decide) ?_
      refine VL.gn rfl rfl rfl (by decide) ?_
      refine VL.gn rfl rfl rfl (by decide) ?_
      refine VL.q (q_pick_f rfl rfl) (by decide) ?_
      refine VL.mt false [0, 10] (fun _ _ h => h) hS rfl
  · -- from there
    clear hS
    rintro x10_1 hS
    show VC _ _ _ _ _ [(0, str s_0), (10, .bool x10_1)] (Mo.and Mo.tt _) (Ow.emp)
    refine VC.cond rfl (fun h10 => ?_) (fun h10 => ?_)
    ·
      replace hS := it_t h10 hS
      refine VC.seq ?_
      refine VC.region ?_
      refine VL.q (q_move rfl) (by decide) ?_
      obtain ⟨z12_4, nz12_4, hz12_4, hS⟩ := at_s hS
      refine VL.q (q_sidx Tryz.underlying9 rfl rfl nz12_4 hz12_4) (by decide) ?_
      refine VL.q (q_conv Tryz.underlying5 Tryz.underlying21 rfl (wr_i32 z12_4)) (by decide) ?_
      refine VL.q (q_assign rfl) (by decide) ?_
      refine VL.q (q_assign rfl) (by decide) ?_
      refine VL.to (fun _ _ h => h) ?_
      cases hS
      exact VC.ret (fin2 (.inr rfl) rfl rfl rfl () rfl trivial (fun _ _ => trivial) (fun _ _ => trivial))
    ·
      replace hS := it_b h10 hS
      refine VC.region ?_
      refine VL.q (q_move rfl) (by decide) ?_
      obtain ⟨y16_5, ey16_5, hS⟩ := bd_s hS
      refine VL.q (q_call (unicode_utf8_decodeRuneInStringSlow_ct s_0 ey16_5) rfl (fun _ _ => rfl)) (by decide) ?_
      refine VL.q (q_move rfl) (by decide) ?_
      refine VL.q (q_extract rfl rfl) (by decide) ?_
      refine VL.q (q_extract rfl rfl) (by decide) ?_
      refine VL.q (q_assign rfl) (by decide) ?_
      refine VL.q (q_assign rfl) (by decide) ?_
      refine VL.to (fun _ _ h => h) ?_
      cases hS
      exact VC.ret (fin2 (.inr rfl) rfl rfl rfl () rfl trivial (fun _ _ => trivial) (fun _ _ => trivial))

set_option maxHeartbeats 4000000 in
set_option maxRecDepth 100000 in
theorem strings_explode_ct (s_0 : Str) (n_1 : Int) {r : List Str} (hS : Sh.strings_explode s_0 n_1 = some r) :
    Ct Tryz.prog 254 [str s_0, i64 n_1] Mo.tt (Ow.emp) (X := Sv Str) (fun x => x.val) (fun x => r = x.l) (fun x => Mo.tt) (fun x => Sv.own x 9) := by
  refine Ct.of Tryz.func254 rfl (by kernel_rfl) Tryz.ntmps254 (by simp) fun c => ?_
  unfold Sh.strings_explode at hS
  refine VC.seq ?_
  refine VC.region ?_
  refine VL.q (q_assign rfl) (by decide) ?_
  refine VL.to (fun _ _ h => h) ?_
  refine VC.seq ?_
  refine VC.region ?_
  refine VL.q (q_move rfl) (by decide) ?_
  obtain ⟨y11_1, ey11_1, hS⟩ := bd_s hS
  refine VL.q (q_call (unicode_utf8_RuneCountInString_ct s_0 ey11_1) rfl (fun _ _ => rfl)) (by decide) ?_
  refine VL.q (q_assign rfl) (by decide) ?_
  refine VL.to (fun _ _ h => h) ?_
  refine VC.cutJ (S := Int) (fun (n1_2 : Int) => n1_2) (fun (n1_2 : Int) => [(0, str s_0), (1, i64 n1_2)]) (fun (n1_2 : Int) => Mo.tt) (fun (n1_2 : Int) => Ow.emp) hS ?_ ?_
  · -- up to where ways meet
    clear hS
    intro k3 hS
    refine VC.cutJ (S := Bool) (fun (x18_4 : Bool) => x18_4) (fun (x18_4 : Bool) => [(0, str s_0), (1, i64 n_1), (5, i64 y11_1), (18, .bool x18_4)]) (fun (x18_4 : Bool) => Mo.tt) (fun (x18_4 : Bool) => Ow.emp) hS ?_ ?_
    · -- up to where ways meet
      clear hS
      intro k5 hS
      refine VC.region ?_
      refine VL.q (q_move rfl) (by decide) ?_
      refine VL.q (q_lss rfl rfl) (by decide) ?_
      refine VL.q (q_move rfl) (by decide) ?_
      refine VL.split_dec 14 rfl (fun h14 => ?_) (fun h14 => ?_)
      ·
        replace hS := it_t h14 hS
        refine VL.gn rfl rfl rfl (by decide) ?_
        refine VL.gn rfl rfl rfl (by decide) ?_
        refine VL.gn rfl rfl rfl (by decide) ?_
        refine VL.q (q_pick_t rfl rfl) (by decide) ?_
        refine VL.mt true [0, 1, 5, 18] (fun _ _ h => h) hS rfl
      ·
        replace hS := it_f h14 hS
        refine VL.gy rfl rfl (q_move rfl) (by decide) ?_
        refine VL.gy rfl rfl (q_move rfl) (by decide) ?_
        refine VL.gy rfl rfl (q_gtr rfl rfl) (by decide) ?_
        refine VL.q (q_pick_f rfl rfl) (by decide) ?_
        refine VL.mt (decide (y11_1 < n_1)) [0, 1, 5, 18] (fun _ _ h => h) hS rfl
    · -- from there
      clear hS
      rintro x18_4 hS
      show VC _ _ _ _ _ [(0, str s_0), (1, i64 n_1), (5, i64 y11_1), (18, .bool x18_4)] (Mo.and Mo.tt _) (Ow.emp)
      refine VC.cond rfl (fun h18 => ?_) (fun h18 => ?_)
      ·
        replace hS := it_t h18 hS
        refine VC.region ?_
        refine VL.q (q_move rfl) (by decide) ?_
        refine VL.q (q_assign rfl) (by decide) ?_
        refine VL.mt y11_1 [0, 1] (fun _ _ h => h) hS rfl
      ·
        replace hS := it_b h18 hS
        refine VC.skip_mt n_1 [0, 1] (fun _ _ h => h) hS rfl
  · -- from there
    clear hS
    rintro n1_2 hS
    show VC _ _ _ _ _ [(0, str s_0), (1, i64 n1_2)] (Mo.and Mo.tt _) (Ow.emp)
    refine VC.seq ?_
    refine VC.region ?_
    refine VL.q (q_move rfl) (by decide) ?_
    obtain ⟨b21, hS⟩ := gd_s hS
    refine VL.make (α := Str) (z := []) Tryz.underlying42 gmk9 (by decide) rfl rfl b21.1 (Int.le_refl _) (by omega) (by omega) (by decide) (fun s21_6 hs21_6 => ?_)
    replace hS := lt_to hs21_6 hS
    refine VL.q (q_assign rfl) (by decide) ?_
    refine VL.to (fun _ _ h => h) ?_
    refine VC.seq ?_
    refine VC.seq ?_
    refine VC.region ?_
    refine VL.q (q_assign rfl) (by decide) ?_
    refine VL.to (fun _ _ h => h) ?_
    refine VC.block ?_
    refine VC.iter (S := Str × Sv Str × Int) (fun sg => (sg.1, sg.2.1.l, sg.2.2)) (fun sg => [(0, str sg.1), (1, i64 n1_2), (6, sg.2.1.val), (7, i64 sg.2.2)]) (fun sg => Mo.tt) (fun sg => Ow.star (Sv.own sg.2.1 9) (Ow.emp)) (s_0, s21_6, 0) [0, 1, 6, 7] hS rfl ?_
    clear hS
    rintro ⟨s0_8, a6_9, i7_10⟩ m1 y1 hS hK1
    show VC _ _ _ _ _ [(0, str s0_8), (1, i64 n1_2), (6, a6_9.val), (7, i64 i7_10)] (Mo.and Mo.tt _) (Ow.star (Sv.own a6_9 9) (Ow.emp))
    refine VC.seq ?_
    refine VC.seq ?_
    refine VC.region ?_
    refine VL.q (q_move rfl) (by decide) ?_
    refine VL.q (q_move rfl) (by decide) ?_
    obtain ⟨b24, hS⟩ := gd_s hS
    refine VL.q (q_sub rfl rfl b24) (by decide) ?_
    refine VL.q (q_lss rfl rfl) (by decide) ?_
    refine VL.to (fun _ _ h => h) ?_
    refine VC.cond_dec rfl (fun h25 => ?_) (fun h25 => ?_)
    ·
      replace hS := it_t h25 hS
      refine VC.skip_to (fun _ _ h => h) ?_
      refine VC.seq ?_
      refine VC.block ?_
      refine VC.seq ?_
      refine VC.region ?_
      refine VL.q (q_move rfl) (by decide) ?_
      obtain ⟨y30_11, ey30_11, hS⟩ := bd_s hS
      refine VL.q (q_call (unicode_utf8_DecodeRuneInString_ct s0_8 ey30_11) rfl (fun _ _ => rfl)) (by decide) ?_
      refine VL.q (q_move rfl) (by decide) ?_
      refine VL.q (q_extract rfl rfl) (by decide) ?_
      refine VL.q (q_extract rfl rfl) (by decide) ?_
      refine VL.q (q_assign rfl) (by decide) ?_
      refine VL.q (q_assign rfl) (by decide) ?_
      refine VL.to (fun _ _ h => h) ?_
      refine VC.keep [0, 1, 6, 7, 9] rfl ?_
      refine VC.seq ?_
      refine VC.region ?_
      refine VL.q (q_move rfl) (by decide) ?_
      refine VL.q (q_move rfl) (by decide) ?_
      refine VL.q (q_move rfl) (by decide) ?_
      refine VL.q (q_move rfl) (by decide) ?_
      obtain ⟨b37, hS⟩ := gd_s hS
      obtain ⟨y37_12, ey37_12, hS⟩ := lt_s hS
      refine VL.q (q_stoE Tryz.underlying9 rfl rfl b37.1 b37.2 ey37_12) (by decide) ?_
      obtain ⟨z38_13, nz38_13, hz38_13, hS⟩ := at_s hS
      refine VL.q (q_ixo (s := a6_9) Tryz.underlying42 gsz9 rfl rfl nz38_13 (lt_of_get nz38_13 hz38_13)) (by decide) ?_
      refine VL.storeE (s := a6_9) (T := 9) (j := 0) (vc := [str y37_12]) (y37_12 : Str) (by decide) rfl rfl hz38_13 rfl gsz9 rfl rfl (Nat.le_of_ble_eq_true rfl) rfl (fun w14 hw14 haw14 hcw14 hvw14 hbw14 how14 => ?_)
      rw [← hvw14]
      replace hS := lt_to hw14 hS
      refine VL.to (fun _ _ h => h) ?_
      refine VC.region ?_
      refine VL.q (q_move rfl) (by decide) ?_
      refine VL.q (q_move rfl) (by decide) ?_
      obtain ⟨b41, hS⟩ := gd_s hS
      obtain ⟨y41_16, ey41_16, hS⟩ := lt_s hS
      refine VL.q (q_sfromE Tryz.underlying9 rfl rfl b41.1 b41.2 ey41_16) (by decide) ?_
      refine VL.q (q_assign rfl) (by decide) ?_
      refine VL.to (fun _ _ h => h) ?_
      refine VC.keep [0, 1, 6, 7] rfl ?_
      refine VC.region ?_
      refine VL.q (q_move rfl) (by decide) ?_
      obtain ⟨b27, hS⟩ := gd_s hS
      refine VL.q (q_add rfl rfl b27) (by decide) ?_
      refine VL.q (q_assign rfl) (by decide) ?_
      refine VL.rnd (y41_16, w14, (i7_10 + 1)) [0, 1, 6, 7] (fun _ _ h => h) (go2 hS hK1) rfl
    ·
      replace hS := it_f h25 hS
      replace hS := up2 hS hK1
      refine VC.exit_to (fun _ _ h => h) ?_
      refine VC.seq ?_
      refine VC.seq ?_
      refine VC.region ?_
      refine VL.q (q_move rfl) (by decide) ?_
      refine VL.q (q_gtr rfl rfl) (by decide) ?_
      refine VL.to (fun _ _ h => h) ?_
      refine VC.cond_dec rfl (fun h43 => ?_) (fun h43 => ?_)
      ·
        replace hS := it_t h43 hS
        refine VC.region ?_
        refine VL.q (q_move rfl) (by decide) ?_
        refine VL.q (q_move rfl) (by decide) ?_
        obtain ⟨b46, hS⟩ := gd_s hS
        refine VL.q (q_sub rfl rfl b46) (by decide) ?_
        refine VL.q (q_move rfl) (by decide) ?_
        obtain ⟨z48_17, nz48_17, hz48_17, hS⟩ := at_s hS
        refine VL.q (q_ixo (s := a6_9) Tryz.underlying42 gsz9 rfl rfl nz48_17 (lt_of_get nz48_17 hz48_17)) (by decide) ?_
        refine VL.storeE (s := a6_9) (T := 9) (j := 0) (vc := [str s0_8]) (s0_8 : Str) (by decide) rfl rfl hz48_17 rfl gsz9 rfl rfl (Nat.le_of_ble_eq_true rfl) rfl (fun w18 hw18 haw18 hcw18 hvw18 hbw18 how18 => ?_)
        rw [← hvw18]
        replace hS := lt_to hw18 hS
        refine VL.to (fun _ _ h => h) ?_
        refine VC.keep [6] rfl ?_
        refine VC.seq ?_
        refine VC.region ?_
        refine VL.q (q_move rfl) (by decide) ?_
        refine VL.q (q_assign rfl) (by decide) ?_
        refine VL.to (fun _ _ h => h) ?_
        cases hS
        exact VC.ret (fin1 (.inr rfl) rfl rfl w18 rfl rfl (by (try dsimp only); exact InM.out) (by (try dsimp only); exact EntO.out))
      ·
        replace hS := it_f h43 hS
        refine VC.skip_to (fun _ _ h => h) ?_
        refine VC.seq ?_
        refine VC.region ?_
        refine VL.q (q_move rfl) (by decide) ?_
        refine VL.q (q_assign rfl) (by decide) ?_
        refine VL.to (fun _ _ h => h) ?_
        refine VC.keep [4] rfl ?_
        cases hS
        exact VC.ret (fin1 (.inr rfl) rfl rfl a6_9 rfl rfl (by (try dsimp only); exact InM.out) (by (try dsimp only); exact EntO.out))

set_option maxHeartbeats 4000000 in
set_option maxRecDepth 100000 in
theorem internal_stringslite_IndexByte_ct (s_0 : Str) (c_1 : Int) {r : Int} (hS : Sh.internal_stringslite_IndexByte s_0 c_1 = some r) :
    Ct Tryz.prog 250 [str s_0, .int .u8 c_1] Mo.tt (Ow.emp) (X := Unit) (fun _ => i64 r) (fun _ => True) (fun _ => Mo.tt) (fun _ => Ow.emp) := by
  refine Ct.of Tryz.func250 rfl (by kernel_rfl) Tryz.ntmps250 (by simp) fun c => ?_
  unfold Sh.internal_stringslite_IndexByte at hS
  refine VC.seq ?_
  refine VC.region ?_
  refine VL.q (q_assign rfl) (by decide) ?_
  refine VL.to (fun _ _ h => h) ?_
  refine VC.seq ?_
  refine VC.region ?_
  refine VL.q (q_move rfl) (by decide) ?_
  refine VL.q (q_move rfl) (by decide) ?_
  refine VL.q (q_extern Tryz.func278 rfl rfl (by kernel_rfl) (by kernel_rfl) rfl (fun w => x_ixS s_0 c_1 w)) (by decide) ?_
  refine VL.q (q_assign rfl) (by decide) ?_
  refine VL.to (fun _ _ h => h) ?_
  cases hS
  exact VC.ret (fin1 (.inr rfl) rfl rfl () rfl trivial (fun _ _ => trivial) (fun _ _ => trivial))

set_option maxHeartbeats 4000000 in
set_option maxRecDepth 100000 in
theorem internal_stringslite_Index_ct (s_0 : Str) (substr_1 : Str) {r : Int} (hS : Sh.internal_stringslite_Index s_0 substr_1 = some r) :
    Ct Tryz.prog 212 [str s_0, str substr_1] Mo.tt (Ow.emp) (X := Unit) (fun _ => i64 r) (fun _ => True) (fun _ => Mo.tt) (fun _ => Ow.emp) := by
  refine Ct.of Tryz.func212 rfl (by kernel_rfl) Tryz.ntmps212 (by simp) fun c => ?_
  unfold Sh.internal_stringslite_Index at hS
  refine VC.seq ?_
  refine VC.region ?_
  refine VL.q (q_assign rfl) (by decide) ?_
  refine VL.to (fun _ _ h => h) ?_
  refine VC.seq ?_
  refine VC.region ?_
  refine VL.q (q_move rfl) (by decide) ?_
  refine VL.q (q_slen Tryz.underlying9 rfl) (by decide) ?_
  refine VL.q (q_assign rfl) (by decide) ?_
  refine VL.to (fun _ _ h => h) ?_
  refine VC.seq ?_
  refine VC.block ?_
  refine VC.cutJ (S := Bool) (fun (x16_1 : Bool) => x16_1) (fun (x16_1 : Bool) => [(0, str s_0), (1, str substr_1), (5, i64 (substr_1.length : Int)), (16, .bool x16_1)]) (fun (x16_1 : Bool) => Mo.tt) (fun (x16_1 : Bool) => Ow.emp) hS ?_ ?_
  · -- up to where ways meet
    clear hS
    intro k2 hS
    refine VC.region ?_
    refine VL.q (q_move rfl) (by decide) ?_
    refine VL.q (q_eql rfl rfl) (by decide) ?_
    refine VL.q (q_move rfl) (by decide) ?_
    refine VL.split_dec 19 rfl (fun h19 => ?_) (fun h19 => ?_)
    ·
      replace hS := it_t h19 hS
      refine VL.gn rfl rfl rfl (by decide) ?_
      refine VL.gn rfl rfl rfl (by decide) ?_
      refine VL.gn rfl rfl rfl (by decide) ?_
      refine VL.q (q_pick_t rfl rfl) (by decide) ?_
      refine VL.q (q_assign rfl) (by decide) ?_
      refine VL.mt true [0, 1, 5, 16] (fun _ _ h => h) hS rfl
    ·
      replace hS := it_f h19 hS
      refine VL.gy rfl rfl (q_move rfl) (by decide) ?_
      refine VL.gy rfl rfl (q_move rfl) (by decide) ?_
      refine VL.gy rfl rfl (q_seq rfl rfl) (by decide) ?_
      refine VL.q (q_pick_f rfl rfl) (by decide) ?_
      refine VL.q (q_assign rfl) (by decide) ?_
      refine VL.mt (decide (substr_1 = s_0)) [0, 1, 5, 16] (fun _ _ h => h) hS rfl
  · -- from there
    clear hS
    rintro x16_1 hS
    show VC _ _ _ _ _ [(0, str s_0), (1, str substr_1), (5, i64 (substr_1.length : Int)), (16, .bool x16_1)] (Mo.and Mo.tt _) (Ow.emp)
    refine VC.cond rfl (fun h16 => ?_) (fun h16 => ?_)
    ·
      replace hS := it_t h16 hS
      refine VC.seq ?_
      refine VC.region ?_
      refine VL.q (q_assign rfl) (by decide) ?_
      refine VL.to (fun _ _ h => h) ?_
      cases hS
      exact VC.ret (fin1 (.inr rfl) rfl rfl () rfl trivial (fun _ _ => trivial) (fun _ _ => trivial))
    ·
      replace hS := it_b h16 hS
      refine VC.seq ?_
      refine VC.region ?_
      refine VL.q (q_move rfl) (by decide) ?_
      refine VL.q (q_eql rfl rfl) (by decide) ?_
      refine VL.q (q_assign rfl) (by decide) ?_
      refine VL.to (fun _ _ h => h) ?_
      refine VC.cond_dec rfl (fun h24 => ?_) (fun h24 => ?_)
      ·
        replace hS := it_t h24 hS
        refine VC.seq ?_
        refine VC.region ?_
        refine VL.q (q_move rfl) (by decide) ?_
        refine VL.q (q_move rfl) (by decide) ?_
        obtain ⟨z29_3, nz29_3, hz29_3, hS⟩ := at_s hS
        refine VL.q (q_sidx Tryz.underlying9 rfl rfl nz29_3 hz29_3) (by decide) ?_
        obtain ⟨y30_4, ey30_4, hS⟩ := bd_s hS
        refine VL.q (q_call (internal_stringslite_IndexByte_ct s_0 (z29_3.toNat : Int) ey30_4) rfl (fun _ _ => rfl)) (by decide) ?_
        refine VL.q (q_assign rfl) (by decide) ?_
        refine VL.to (fun _ _ h => h) ?_
        refine VC.keep [4] rfl ?_
        cases hS
        exact VC.ret (fin1 (.inr rfl) rfl rfl () rfl trivial (fun _ _ => trivial) (fun _ _ => trivial))
      ·
        replace hS := it_f h24 hS
        refine VC.seq ?_
        refine VC.region ?_
        refine VL.q (q_move rfl) (by decide) ?_
        refine VL.q (q_move rfl) (by decide) ?_
        refine VL.q (q_slen Tryz.underlying9 rfl) (by decide) ?_
        refine VL.q (q_geq rfl rfl) (by decide) ?_
        refine VL.q (q_assign rfl) (by decide) ?_
        refine VL.to (fun _ _ h => h) ?_
        refine VC.keep [0, 1, 5, 31] rfl ?_
        refine VC.cond_dec rfl (fun h31 => ?_) (fun h31 => ?_)
        ·
          replace hS := it_t h31 hS
          refine VC.seq ?_
          refine VC.region ?_
          refine VL.q (q_assign rfl) (by decide) ?_
          refine VL.to (fun _ _ h => h) ?_
          cases hS
          exact VC.ret (fin1 (.inr rfl) rfl rfl () rfl trivial (fun _ _ => trivial) (fun _ _ => trivial))
        ·
          replace hS := it_f h31 hS
          refine VC.seq ?_
          refine VC.region ?_
          refine VL.q (q_move rfl) (by decide) ?_
          cases hS

set_option maxHeartbeats 4000000 in
set_option maxRecDepth 100000 in
theorem strings_Index_ct (s_0 : Str) (substr_1 : Str) {r : Int} (hS : Sh.strings_Index s_0 substr_1 = some r) :
    Ct Tryz.prog 243 [str s_0, str substr_1] Mo.tt (Ow.emp) (X := Unit) (fun _ => i64 r) (fun _ => True) (fun _ => Mo.tt) (fun _ => Ow.emp) := by
  refine Ct.of Tryz.func243 rfl (by kernel_rfl) Tryz.ntmps243 (by simp) fun c => ?_
  unfold Sh.strings_Index at hS
  refine VC.seq ?_
  refine VC.region ?_
  refine VL.q (q_assign rfl) (by decide) ?_
  refine VL.to (fun _ _ h => h) ?_
  refine VC.seq ?_
  refine VC.region ?_
  refine VL.q (q_move rfl) (by decide) ?_
  refine VL.q (q_move rfl) (by decide) ?_
  obtain ⟨y7_1, ey7_1, hS⟩ := bd_s hS
  refine VL.q (q_call (internal_stringslite_Index_ct s_0 substr_1 ey7_1) rfl (fun _ _ => rfl)) (by decide) ?_
  refine VL.q (q_assign rfl) (by decide) ?_
  refine VL.to (fun _ _ h => h) ?_
  cases hS
  exact VC.ret (fin1 (.inr rfl) rfl rfl () rfl trivial (fun _ _ => trivial) (fun _ _ => trivial))

set_option maxHeartbeats 4000000 in
set_option maxRecDepth 100000 in
theorem strings_Count_ct (s_0 : Str) (substr_1 : Str) {r : Int} (hS : Sh.strings_Count s_0 substr_1 = some r) :
    Ct Tryz.prog 255 [str s_0, str substr_1] Mo.tt (Ow.emp) (X := Unit) (fun _ => i64 r) (fun _ => True) (fun _ => Mo.tt) (fun _ => Ow.emp) := by
  refine Ct.of Tryz.func255 rfl (by kernel_rfl) Tryz.ntmps255 (by simp) fun c => ?_
  unfold Sh.strings_Count at hS
  refine VC.seq ?_
  refine VC.region ?_
  refine VL.q (q_assign rfl) (by decide) ?_
  refine VL.to (fun _ _ h => h) ?_
  refine VC.seq ?_
  refine VC.seq ?_
  refine VC.region ?_
  refine VL.q (q_move rfl) (by decide) ?_
  refine VL.q (q_slen Tryz.underlying9 rfl) (by decide) ?_
  refine VL.q (q_eql rfl rfl) (by decide) ?_
  refine VL.to (fun _ _ h => h) ?_
  refine VC.cond_dec rfl (fun h9 => ?_) (fun h9 => ?_)
  ·
    replace hS := it_t h9 hS
    refine VC.seq ?_
    refine VC.region ?_
    refine VL.q (q_move rfl) (by decide) ?_
    obtain ⟨y11_1, ey11_1, hS⟩ := bd_s hS
    refine VL.q (q_call (unicode_utf8_RuneCountInString_ct s_0 ey11_1) rfl (fun _ _ => rfl)) (by decide) ?_
    obtain ⟨b12, hS⟩ := gd_s hS
    refine VL.q (q_add rfl rfl b12) (by decide) ?_
    refine VL.q (q_assign rfl) (by decide) ?_
    refine VL.to (fun _ _ h => h) ?_
    cases hS
    exact VC.ret (fin1 (.inr rfl) rfl rfl () rfl trivial (fun _ _ => trivial) (fun _ _ => trivial))
  ·
    replace hS := it_f h9 hS
    refine VC.skip_to (fun _ _ h => h) ?_
    refine VC.seq ?_
    refine VC.seq ?_
    refine VC.region ?_
    refine VL.q (q_move rfl) (by decide) ?_
    refine VL.q (q_slen Tryz.underlying9 rfl) (by decide) ?_
    refine VL.q (q_eql rfl rfl) (by decide) ?_
    refine VL.to (fun _ _ h => h) ?_
    refine VC.cond_dec rfl (fun h15 => ?_) (fun h15 => ?_)
    ·
      replace hS := it_t h15 hS
      refine VC.seq ?_
      refine VC.region ?_
      refine VL.q (q_move rfl) (by decide) ?_
      refine VL.q (q_move rfl) (by decide) ?_
      obtain ⟨z18_2, nz18_2, hz18_2, hS⟩ := at_s hS
      refine VL.q (q_sidx Tryz.underlying9 rfl rfl nz18_2 hz18_2) (by decide) ?_
      refine VL.q (q_extern Tryz.func281 rfl rfl (by kernel_rfl) (by kernel_rfl) rfl (fun w => x_cntS s_0 (z18_2.toNat : Int) w)) (by decide) ?_
      refine VL.q (q_assign rfl) (by decide) ?_
      refine VL.to (fun _ _ h => h) ?_
      refine VC.keep [4] rfl ?_
      cases hS
      exact VC.ret (fin1 (.inr rfl) rfl rfl () rfl trivial (fun _ _ => trivial) (fun _ _ => trivial))
    ·
      replace hS := it_f h15 hS
      refine VC.skip_to (fun _ _ h => h) ?_
      refine VC.seq ?_
      refine VC.region ?_
      refine VL.q (q_assign rfl) (by decide) ?_
      refine VL.to (fun _ _ h => h) ?_
      refine VC.block ?_
      refine VC.iter (S := Str × Int) (fun sg => (sg.1, sg.2)) (fun sg => [(0, str sg.1), (1, str substr_1), (5, i64 sg.2)]) (fun sg => Mo.tt) (fun sg => Ow.emp) (s_0, 0) [0, 1, 5] hS rfl ?_
      clear hS
      rintro ⟨s0_3, n5_4⟩ m1 y1 hS hK1
      show VC _ _ _ _ _ [(0, str s0_3), (1, str substr_1), (5, i64 n5_4)] (Mo.and Mo.tt _) (Ow.emp)
      refine VC.block ?_
      refine VC.seq ?_
      refine VC.region ?_
      refine VL.q (q_move rfl) (by decide) ?_
      refine VL.q (q_move rfl) (by decide) ?_
      obtain ⟨y22_5, ey22_5, hS⟩ := bd_s hS
      refine VL.q (q_call (strings_Index_ct s0_3 substr_1 ey22_5) rfl (fun _ _ => rfl)) (by decide) ?_
      refine VL.q (q_assign rfl) (by decide) ?_
      refine VL.to (fun _ _ h => h) ?_
      refine VC.seq ?_
      refine VC.seq ?_
      refine VC.region ?_
      refine VL.q (q_move rfl) (by decide) ?_
      refine VL.q (q_eql rfl rfl) (by decide) ?_
      refine VL.to (fun _ _ h => h) ?_
      refine VC.cond_dec rfl (fun h24 => ?_) (fun h24 => ?_)
      ·
        replace hS := it_t h24 hS
        refine VC.seq ?_
        refine VC.region ?_
        refine VL.q (q_move rfl) (by decide) ?_
        refine VL.q (q_assign rfl) (by decide) ?_
        refine VL.to (fun _ _ h => h) ?_
        refine VC.keep [4] rfl ?_
        replace hS := up2 hS hK1
        cases hS
        exact VC.ret (fin1 (.inr rfl) rfl rfl () rfl trivial (fun _ _ => trivial) (fun _ _ => trivial))
      ·
        replace hS := it_f h24 hS
        refine VC.skip_to (fun _ _ h => h) ?_
        refine VC.seq ?_
        refine VC.region ?_
        refine VL.q (q_move rfl) (by decide) ?_
        obtain ⟨b27, hS⟩ := gd_s hS
        refine VL.q (q_add rfl rfl b27) (by decide) ?_
        refine VL.q (q_assign rfl) (by decide) ?_
        refine VL.to (fun _ _ h => h) ?_
        refine VC.keep [0, 1, 5, 6] rfl ?_
        refine VC.region ?_
        refine VL.q (q_move rfl) (by decide) ?_
        refine VL.q (q_move rfl) (by decide) ?_
        refine VL.q (q_move rfl) (by decide) ?_
        refine VL.q (q_slen Tryz.underlying9 rfl) (by decide) ?_
        obtain ⟨b32, hS⟩ := gd_s hS
        refine VL.q (q_add rfl rfl b32) (by decide) ?_
        obtain ⟨b33, hS⟩ := gd_s hS
        obtain ⟨y33_6, ey33_6, hS⟩ := lt_s hS
        refine VL.q (q_sfromE Tryz.underlying9 rfl rfl b33.1 b33.2 ey33_6) (by decide) ?_
        refine VL.q (q_assign rfl) (by decide) ?_
        refine VL.rnd (y33_6, (n5_4 + 1)) [0, 1, 5] (fun _ _ h => h) (go2 hS hK1) rfl

set_option maxHeartbeats 4000000 in
set_option maxRecDepth 100000 in
theorem strings_genSplit_ct (s_0 : Str) (sep_1 : Str) (sepSave_2 : Int) (n_3 : Int) {r : List Str} (hS : Sh.strings_genSplit s_0 sep_1 sepSave_2 n_3 = some r) :
    Ct Tryz.prog 213 [str s_0, str sep_1, i64 sepSave_2, i64 n_3] Mo.tt (Ow.emp) (X := Sv Str) (fun x => x.val) (fun x => r = x.l) (fun x => x.ok) (fun x => Ow.emp) := by
  refine Ct.of Tryz.func213 rfl (by kernel_rfl) Tryz.ntmps213 (by simp) fun c => ?_
  unfold Sh.strings_genSplit at hS
  refine VC.seq ?_
  refine VC.region ?_
  refine VL.q (q_assign rfl) (by decide) ?_
  refine VL.to (fun _ _ h => h) ?_
  refine VC.seq ?_
  refine VC.seq ?_
  refine VC.region ?_
  refine VL.q (q_move rfl) (by decide) ?_
  refine VL.q (q_eql rfl rfl) (by decide) ?_
  refine VL.to (fun _ _ h => h) ?_
  refine VC.cond_dec rfl (fun h13 => ?_) (fun h13 => ?_)
  ·
    replace hS := it_t h13 hS
    refine VC.seq ?_
    refine VC.region ?_
    refine VL.q (q_assign rfl) (by decide) ?_
    refine VL.to (fun _ _ h => h) ?_
    cases hS
    exact VC.ret (fin1 (.inr rfl) rfl rfl ⟨none, 0, []⟩ rfl rfl (by (try dsimp only); exact InM.out) (fun _ _ => trivial))
  ·
    replace hS := it_f h13 hS
    refine VC.skip_to (fun _ _ h => h) ?_
    refine VC.seq ?_
    refine VC.seq ?_
    refine VC.region ?_
    refine VL.q (q_move rfl) (by decide) ?_
    refine VL.q (q_seq rfl rfl) (by decide) ?_
    refine VL.to (fun _ _ h => h) ?_
    refine VC.cond_dec rfl (fun h15 => ?_) (fun h15 => ?_)
    ·
      replace hS := it_t h15 hS
      refine VC.seq ?_
      refine VC.region ?_
      refine VL.q (q_move rfl) (by decide) ?_
      refine VL.q (q_move rfl) (by decide) ?_
      obtain ⟨y18_1, ey18_1, hS⟩ := bd_s hS
      refine VL.callO (strings_explode_ct s_0 n_3 ey18_1) rfl (by decide) ?_
      rintro q18_1_0 rfl
      try dsimp only
      refine VL.q (q_assign rfl) (by decide) ?_
      refine VL.to (fun _ _ h => h) ?_
      refine VC.keep [8] rfl ?_
      refine VC.shut q18_1_0 9 (fun _ _ _ _ => trivial) ?_
      cases hS
      exact VC.ret (fin1 (.inr rfl) rfl rfl q18_1_0 rfl rfl (by (try dsimp only); exact InM.out) (fun _ _ => trivial))
    ·
      replace hS := it_f h15 hS
      refine VC.skip_to (fun _ _ h => h) ?_
      refine VC.cutJ (S := Int) (fun (n3_2 : Int) => n3_2) (fun (n3_2 : Int) => [(0, str s_0), (1, str sep_1), (2, i64 sepSave_2), (3, i64 n3_2)]) (fun (n3_2 : Int) => Mo.tt) (fun (n3_2 : Int) => Ow.emp) hS ?_ ?_
      · -- up to where ways meet
        clear hS
        intro k3 hS
        refine VC.seq ?_
        refine VC.region ?_
        refine VL.q (q_move rfl) (by decide) ?_
        refine VL.q (q_lss rfl rfl) (by decide) ?_
        refine VL.to (fun _ _ h => h) ?_
        refine VC.cond_dec rfl (fun h20 => ?_) (fun h20 => ?_)
        ·
          replace hS := it_t h20 hS
          refine VC.region ?_
          refine VL.q (q_move rfl) (by decide) ?_
          refine VL.q (q_move rfl) (by decide) ?_
          obtain ⟨y23_4, ey23_4, hS⟩ := bd_s hS
          refine VL.q (q_call (strings_Count_ct s_0 sep_1 ey23_4) rfl (fun _ _ => rfl)) (by decide) ?_
          obtain ⟨b24, hS⟩ := gd_s hS
          refine VL.q (q_add rfl rfl b24) (by decide) ?_
          refine VL.q (q_assign rfl) (by decide) ?_
          refine VL.mt (y23_4 + 1) [0, 1, 2, 3] (fun _ _ h => h) hS rfl
        ·
          replace hS := it_f h20 hS
          refine VC.skip_mt n_3 [0, 1, 2, 3] (fun _ _ h => h) hS rfl
      · -- from there
        clear hS
        rintro n3_2 hS
        show VC _ _ _ _ _ [(0, str s_0), (1, str sep_1), (2, i64 sepSave_2), (3, i64 n3_2)] (Mo.and Mo.tt _) (Ow.emp)
        refine VC.seq ?_
        refine VC.region ?_
        refine VL.q (q_move rfl) (by decide) ?_
        refine VL.q (q_move rfl) (by decide) ?_
        refine VL.q (q_slen Tryz.underlying9 rfl) (by decide) ?_
        obtain ⟨b28, hS⟩ := gd_s hS
        refine VL.q (q_add rfl rfl b28) (by decide) ?_
        refine VL.q (q_min rfl) (by decide) ?_
        refine VL.q (q_assign rfl) (by decide) ?_
        refine VL.to (fun _ _ h => h) ?_
        refine VC.seq ?_
        refine VC.region ?_
        refine VL.q (q_move rfl) (by decide) ?_
        obtain ⟨b31, hS⟩ := gd_s hS
        refine VL.make (α := Str) (z := []) Tryz.underlying42 gmk9 (by decide) rfl rfl b31.1 (Int.le_refl _) (by omega) (by omega) (by decide) (fun s31_5 hs31_5 => ?_)
        replace hS := lt_to hs31_5 hS
        refine VL.q (q_assign rfl) (by decide) ?_
        refine VL.to (fun _ _ h => h) ?_
        refine VC.keep [0, 1, 2, 3, 9] rfl ?_
        refine VC.seq ?_
        refine VC.region ?_
        refine VL.q (q_move rfl) (by decide) ?_
        obtain ⟨b33, hS⟩ := gd_s hS
        refine VL.q (q_sub rfl rfl b33) (by decide) ?_
        refine VL.q (q_assign rfl) (by decide) ?_
        refine VL.to (fun _ _ h => h) ?_
        refine VC.seq ?_
        refine VC.region ?_
        refine VL.q (q_assign rfl) (by decide) ?_
        refine VL.to (fun _ _ h => h) ?_
        refine VC.cutJ (S := Str × Sv Str × Int) (fun sg => (sg.1, sg.2.1.l, sg.2.2)) (fun sg => [(0, str sg.1), (9, sg.2.1.val), (10, i64 sg.2.2)]) (fun sg => Mo.tt) (fun sg => Ow.star (Sv.own sg.2.1 9) (Ow.emp)) hS ?_ ?_
        · -- up to where ways meet
          clear hS
          intro k10 hS
          refine VC.block ?_
          refine VC.iter (S := Str × Sv Str × Int) (fun sg => (sg.1, sg.2.1.l, sg.2.2)) (fun sg => [(0, str sg.1), (1, str sep_1), (2, i64 sepSave_2), (3, i64 ((min n3_2 ((s_0.length : Int) + 1)) - 1)), (9, sg.2.1.val), (10, i64 sg.2.2)]) (fun sg => Mo.tt) (fun sg => Ow.star (Sv.own sg.2.1 9) (Ow.emp)) (s_0, s31_5, 0) [0, 1, 2, 3, 9, 10] hS rfl ?_
          clear hS
          rintro ⟨s0_11, a9_12, i10_13⟩ m1 y1 hS hK1
          show VC _ _ _ _ _ [(0, str s0_11), (1, str sep_1), (2, i64 sepSave_2), (3, i64 ((min n3_2 ((s_0.length : Int) + 1)) - 1)), (9, a9_12.val), (10, i64 i10_13)] (Mo.and Mo.tt _) (Ow.star (Sv.own a9_12 9) (Ow.emp))
          refine VC.seq ?_
          refine VC.seq ?_
          refine VC.region ?_
          refine VL.q (q_move rfl) (by decide) ?_
          refine VL.q (q_move rfl) (by decide) ?_
          refine VL.q (q_lss rfl rfl) (by decide) ?_
          refine VL.to (fun _ _ h => h) ?_
          refine VC.cond_dec rfl (fun h36 => ?_) (fun h36 => ?_)
          ·
            replace hS := it_t h36 hS
            refine VC.skip_to (fun _ _ h => h) ?_
            refine VC.block ?_
            refine VC.seq ?_
            refine VC.region ?_
            refine VL.q (q_move rfl) (by decide) ?_
            refine VL.q (q_move rfl) (by decide) ?_
            obtain ⟨y39_14, ey39_14, hS⟩ := bd_s hS
            refine VL.q (q_call (strings_Index_ct s0_11 sep_1 ey39_14) rfl (fun _ _ => rfl)) (by decide) ?_
            refine VL.q (q_assign rfl) (by decide) ?_
            refine VL.to (fun _ _ h => h) ?_
            refine VC.seq ?_
            refine VC.seq ?_
            refine VC.region ?_
            refine VL.q (q_move rfl) (by decide) ?_
            refine VL.q (q_lss rfl rfl) (by decide) ?_
            refine VL.to (fun _ _ h => h) ?_
            refine VC.keep [0, 1, 2, 3, 9, 10, 11, 41] rfl ?_
            refine VC.cond_dec rfl (fun h41 => ?_) (fun h41 => ?_)
            ·
              replace hS := it_t h41 hS
              replace hS := up2 hS hK1
              refine VC.exit_mt (s0_11, a9_12, i10_13) [0, 9, 10] (fun _ _ h => h) hS rfl
            ·
              replace hS := it_f h41 hS
              refine VC.skip_to (fun _ _ h => h) ?_
              refine VC.seq ?_
              refine VC.region ?_
              refine VL.q (q_move rfl) (by decide) ?_
              refine VL.q (q_move rfl) (by decide) ?_
              refine VL.q (q_move rfl) (by decide) ?_
              refine VL.q (q_move rfl) (by decide) ?_
              refine VL.q (q_move rfl) (by decide) ?_
              obtain ⟨b47, hS⟩ := gd_s hS
              refine VL.q (q_add rfl rfl b47) (by decide) ?_
              obtain ⟨b48, hS⟩ := gd_s hS
              obtain ⟨y48_15, ey48_15, hS⟩ := lt_s hS
              refine VL.q (q_stoE Tryz.underlying9 rfl rfl b48.1 b48.2 ey48_15) (by decide) ?_
              obtain ⟨z49_16, nz49_16, hz49_16, hS⟩ := at_s hS
              refine VL.q (q_ixo (s := a9_12) Tryz.underlying42 gsz9 rfl rfl nz49_16 (lt_of_get nz49_16 hz49_16)) (by decide) ?_
              refine VL.storeE (s := a9_12) (T := 9) (j := 0) (vc := [str y48_15]) (y48_15 : Str) (by decide) rfl rfl hz49_16 rfl gsz9 rfl rfl (Nat.le_of_ble_eq_true rfl) rfl (fun w17 hw17 haw17 hcw17 hvw17 hbw17 how17 => ?_)
              rw [← hvw17]
              replace hS := lt_to hw17 hS
              refine VL.to (fun _ _ h => h) ?_
              refine VC.keep [0, 1, 2, 3, 9, 10, 11] rfl ?_
              refine VC.seq ?_
              refine VC.region ?_
              refine VL.q (q_move rfl) (by decide) ?_
              refine VL.q (q_move rfl) (by decide) ?_
              refine VL.q (q_move rfl) (by decide) ?_
              refine VL.q (q_slen Tryz.underlying9 rfl) (by decide) ?_
              obtain ⟨b54, hS⟩ := gd_s hS
              refine VL.q (q_add rfl rfl b54) (by decide) ?_
              obtain ⟨b55, hS⟩ := gd_s hS
              obtain ⟨y55_19, ey55_19, hS⟩ := lt_s hS
              refine VL.q (q_sfromE Tryz.underlying9 rfl rfl b55.1 b55.2 ey55_19) (by decide) ?_
              refine VL.q (q_assign rfl) (by decide) ?_
              refine VL.to (fun _ _ h => h) ?_
              refine VC.keep [0, 1, 2, 3, 9, 10] rfl ?_
              refine VC.region ?_
              refine VL.q (q_move rfl) (by decide) ?_
              obtain ⟨b57, hS⟩ := gd_s hS
              refine VL.q (q_add rfl rfl b57) (by decide) ?_
              refine VL.q (q_assign rfl) (by decide) ?_
              refine VL.rnd (y55_19, w17, (i10_13 + 1)) [0, 1, 2, 3, 9, 10] (fun _ _ h => h) (go2 hS hK1) rfl
          ·
            replace hS := it_f h36 hS
            replace hS := up2 hS hK1
            refine VC.exit_mt (s0_11, a9_12, i10_13) [0, 9, 10] (fun _ _ h => h) hS rfl
        · -- from there
          clear hS
          rintro ⟨s0_7, a9_8, i10_9⟩ hS
          show VC _ _ _ _ _ [(0, str s0_7), (9, a9_8.val), (10, i64 i10_9)] (Mo.and Mo.tt _) (Ow.star (Sv.own a9_8 9) (Ow.emp))
          refine VC.seq ?_
          refine VC.region ?_
          refine VL.q (q_move rfl) (by decide) ?_
          refine VL.q (q_move rfl) (by decide) ?_
          refine VL.q (q_move rfl) (by decide) ?_
          obtain ⟨z61_20, nz61_20, hz61_20, hS⟩ := at_s hS
          refine VL.q (q_ixo (s := a9_8) Tryz.underlying42 gsz9 rfl rfl nz61_20 (lt_of_get nz61_20 hz61_20)) (by decide) ?_
          refine VL.storeE (s := a9_8) (T := 9) (j := 0) (vc := [str s0_7]) (s0_7 : Str) (by decide) rfl rfl hz61_20 rfl gsz9 rfl rfl (Nat.le_of_ble_eq_true rfl) rfl (fun w21 hw21 haw21 hcw21 hvw21 hbw21 how21 => ?_)
          rw [← hvw21]
          replace hS := lt_to hw21 hS
          refine VL.to (fun _ _ h => h) ?_
          refine VC.seq ?_
          refine VC.region ?_
          refine VL.q (q_move rfl) (by decide) ?_
          refine VL.q (q_move rfl) (by decide) ?_
          obtain ⟨b64, hS⟩ := gd_s hS
          refine VL.q (q_add rfl rfl b64) (by decide) ?_
          refine VL.shut w21 9 (fun _ _ _ _ => trivial) ?_
          obtain ⟨b65, hS⟩ := gd_s hS
          refine VL.sto Tryz.underlying42 gsz9 rfl rfl b65.1 (b65.2) (by decide) fun s65_23 hs65_23 => ?_
          replace hS := lt_to hs65_23 hS
          refine VL.q (q_assign rfl) (by decide) ?_
          refine VL.to (fun _ _ h => h) ?_
          refine VC.keep [8] rfl ?_
          cases hS
          exact VC.ret (fin1 (.inr rfl) rfl rfl s65_23 rfl rfl (by (try dsimp only); exact InM.out) (fun _ _ => trivial))

set_option maxHeartbeats 4000000 in
set_option maxRecDepth 100000 in
theorem strings_Split_ct (s_0 : Str) (sep_1 : Str) {r : List Str} (hS : Sh.strings_Split s_0 sep_1 = some r) :
    Ct Tryz.prog 168 [str s_0, str sep_1] Mo.tt (Ow.emp) (X := Sv Str) (fun x => x.val) (fun x => r = x.l) (fun x => x.ok) (fun x => Ow.emp) := by
  refine Ct.of Tryz.func168 rfl (by kernel_rfl) Tryz.ntmps168 (by simp) fun c => ?_
  unfold Sh.strings_Split at hS
  refine VC.seq ?_
  refine VC.region ?_
  refine VL.q (q_assign rfl) (by decide) ?_
  refine VL.to (fun _ _ h => h) ?_
  refine VC.seq ?_
  refine VC.region ?_
  refine VL.q (q_move rfl) (by decide) ?_
  refine VL.q (q_move rfl) (by decide) ?_
  obtain ⟨y7_1, ey7_1, hS⟩ := bd_s hS
  refine VL.callF (strings_genSplit_ct s_0 sep_1 0 (-1) ey7_1) rfl (by decide) ?_
  rintro q7_1_0 rfl
  try dsimp only
  refine VL.q (q_assign rfl) (by decide) ?_
  refine VL.to (fun _ _ h => h) ?_
  cases hS
  exact VC.ret (fin1 (.inr rfl) rfl rfl q7_1_0 rfl rfl (by (try dsimp only); exact InM.out) (fun _ _ => trivial))

set_option maxHeartbeats 4000000 in
set_option maxRecDepth 100000 in
theorem path_good_ct (c_0 : Int) {r : Bool} (hS : Sh.path_good c_0 = some r) :
    Ct Tryz.prog 235 [.int .u8 c_0] Mo.tt (Ow.emp) (X := Unit) (fun _ => .bool r) (fun _ => True) (fun _ => Mo.tt) (fun _ => Ow.emp) := by
  refine Ct.of Tryz.func235 rfl (by kernel_rfl) Tryz.ntmps235 (by simp) fun c => ?_
  unfold Sh.path_good at hS
  refine VC.seq ?_
  refine VC.region ?_
  refine VL.q (q_assign rfl) (by decide) ?_
  refine VL.to (fun _ _ h => h) ?_
  refine VC.cutJ (S := Unit) (fun (_ : Unit) => ()) (fun (_ : Unit) => [(0, .int .u8 c_0)]) (fun (_ : Unit) => Mo.tt) (fun (_ : Unit) => Ow.emp) hS ?_ ?_
  · -- up to where ways meet
    clear hS
    intro k1 hS
    refine VC.seq ?_
    refine VC.region ?_
    refine VL.q (q_move rfl) (by decide) ?_
    refine VL.to (fun _ _ h => h) ?_
    refine VC.block ?_
    refine VC.cutJ (S := Unit) (fun (_ : Unit) => ()) (fun (_ : Unit) => []) (fun (_ : Unit) => Mo.tt) (fun (_ : Unit) => Ow.emp) hS ?_ ?_
    · -- up to where ways meet
      clear hS
      intro k2 hS
      refine VC.block ?_
      refine VC.block ?_
      refine VC.block ?_
      refine VC.seq ?_
      refine VC.seq ?_
      refine VC.seq ?_
      refine VC.region ?_
      refine VL.q (q_eql rfl rfl) (by decide) ?_
      refine VL.q (q_assign rfl) (by decide) ?_
      refine VL.to (fun _ _ h => h) ?_
      refine VC.cond_dec rfl (fun h4 => ?_) (fun h4 => ?_)
      ·
        replace hS := it_t h4 hS
        refine VC.exit_mt () [] (fun _ _ h => h) hS rfl
      ·
        replace hS := it_f h4 hS
        refine VC.skip_to (fun _ _ h => h) ?_
        refine VC.seq ?_
        refine VC.seq ?_
        refine VC.region ?_
        refine VL.q (q_eql rfl rfl) (by decide) ?_
        refine VL.q (q_assign rfl) (by decide) ?_
        refine VL.to (fun _ _ h => h) ?_
        refine VC.cond_dec rfl (fun h6 => ?_) (fun h6 => ?_)
        ·
          replace hS := it_t h6 hS
          refine VC.exit_mt () [] (fun _ _ h => h) hS rfl
        ·
          replace hS := it_f h6 hS
          refine VC.skip_to (fun _ _ h => h) ?_
          refine VC.seq ?_
          refine VC.region ?_
          refine VL.q (q_eql rfl rfl) (by decide) ?_
          refine VL.q (q_assign rfl) (by decide) ?_
          refine VL.to (fun _ _ h => h) ?_
          refine VC.cond_dec rfl (fun h8 => ?_) (fun h8 => ?_)
          ·
            replace hS := it_t h8 hS
            refine VC.exit_mt () [] (fun _ _ h => h) hS rfl
          ·
            replace hS := it_f h8 hS
            refine VC.skip_to (fun _ _ h => h) ?_
            refine VC.exit_mt () [0] (fun _ _ h => h) hS rfl
    · -- from there
      clear hS
      rintro _ hS
      show VC _ _ _ _ _ [] (Mo.and Mo.tt _) (Ow.emp)
      refine VC.seq ?_
      refine VC.seq ?_
      refine VC.region ?_
      refine VL.q (q_assign rfl) (by decide) ?_
      refine VL.to (fun _ _ h => h) ?_
      cases hS
      exact VC.ret (fin1 (.inr rfl) rfl rfl () rfl trivial (fun _ _ => trivial) (fun _ _ => trivial))
  · -- from there
    clear hS
    rintro _ hS
    show VC _ _ _ _ _ [(0, .int .u8 c_0)] (Mo.and Mo.tt _) (Ow.emp)
    refine VC.seq ?_
    refine VC.region ?_
    refine VL.q (q_move rfl) (by decide) ?_
    refine VL.q (q_geq rfl rfl) (by decide) ?_
    refine VL.q (q_move rfl) (by decide) ?_
    refine VL.split_dec 12 rfl (fun h12 => ?_) (fun h12 => ?_)
    ·
      replace hS := it_t h12 hS
      refine VL.gy rfl rfl (q_move rfl) (by decide) ?_
      refine VL.gy rfl rfl (q_leq rfl rfl) (by decide) ?_
      refine VL.q (q_pick_t rfl rfl) (by decide) ?_
      refine VL.q (q_move rfl) (by decide) ?_
      refine VL.split_dec 16 rfl (fun h16 => ?_) (fun h16 => ?_)
      ·
        replace hS := it_t h16 hS
        refine VL.gn rfl rfl rfl (by decide) ?_
        refine VL.gn rfl rfl rfl (by decide) ?_
        refine VL.gn rfl rfl rfl (by decide) ?_
        refine VL.gu rfl rfl (by decide) ?_
        refine VL.gu rfl rfl (by decide) ?_
        refine VL.gn rfl rfl rfl (by decide) ?_
        refine VL.q (q_pick_t rfl rfl) (by decide) ?_
        refine VL.q (q_assign rfl) (by decide) ?_
        refine VL.to (fun _ _ h => h) ?_
        refine VC.keep [2] rfl ?_
        cases hS
        exact VC.ret (fin1 (.inr rfl) rfl rfl () rfl trivial (fun _ _ => trivial) (fun _ _ => trivial))
      ·
        replace hS := it_f h16 hS
        refine VL.gy rfl rfl (q_move rfl) (by decide) ?_
        refine VL.gy rfl rfl (q_geq rfl rfl) (by decide) ?_
        refine VL.gy rfl rfl (q_move rfl) (by decide) ?_
        refine VL.split_dec 19 rfl (fun h19 => ?_) (fun h19 => ?_)
        ·
          replace hS := it_t h19 hS
          refine VL.gy rfl rfl (q_move rfl) (by decide) ?_
          refine VL.gy rfl rfl (q_leq rfl rfl) (by decide) ?_
          refine VL.gy rfl rfl (q_pick_t rfl rfl) (by decide) ?_
          refine VL.q (q_pick_f rfl rfl) (by decide) ?_
          refine VL.q (q_assign rfl) (by decide) ?_
          refine VL.to (fun _ _ h => h) ?_
          refine VC.keep [2] rfl ?_
          cases hS
          exact VC.ret (fin1 (.inr rfl) rfl rfl () rfl trivial (fun _ _ => trivial) (fun _ _ => trivial))
        ·
          replace hS := it_f h19 hS
          refine VL.gn rfl rfl rfl (by decide) ?_
          refine VL.gn rfl rfl rfl (by decide) ?_
          refine VL.gy rfl rfl (q_pick_f rfl rfl) (by decide) ?_
          refine VL.q (q_pick_f rfl rfl) (by decide) ?_
          refine VL.q (q_assign rfl) (by decide) ?_
          refine VL.to (fun _ _ h => h) ?_
          refine VC.keep [2] rfl ?_
          cases hS
          exact VC.ret (fin1 (.inr rfl) rfl rfl () rfl trivial (fun _ _ => trivial) (fun _ _ => trivial))
    ·
      replace hS := it_f h12 hS
      refine VL.gn rfl rfl rfl (by decide) ?_
      refine VL.gn rfl rfl rfl (by decide) ?_
      refine VL.q (q_pick_f rfl rfl) (by decide) ?_
      refine VL.q (q_move rfl) (by decide) ?_
      refine VL.gy rfl rfl (q_move rfl) (by decide) ?_
      refine VL.gy rfl rfl (q_geq rfl rfl) (by decide) ?_
      refine VL.gy rfl rfl (q_move rfl) (by decide) ?_
      refine VL.split_dec 19 rfl (fun h19 => ?_) (fun h19 => ?_)
      ·
        replace hS := it_t h19 hS
        refine VL.gy rfl rfl (q_move rfl) (by decide) ?_
        refine VL.gy rfl rfl (q_leq rfl rfl) (by decide) ?_
        refine VL.gy rfl rfl (q_pick_t rfl rfl) (by decide) ?_
        refine VL.q (q_pick_f rfl rfl) (by decide) ?_
        refine VL.q (q_assign rfl) (by decide) ?_
        refine VL.to (fun _ _ h => h) ?_
        refine VC.keep [2] rfl ?_
        cases hS
        exact VC.ret (fin1 (.inr rfl) rfl rfl () rfl trivial (fun _ _ => trivial) (fun _ _ => trivial))
      ·
        replace hS := it_f h19 hS
        refine VL.gn rfl rfl rfl (by decide) ?_
        refine VL.gn rfl rfl rfl (by decide) ?_
        refine VL.gy rfl rfl (q_pick_f rfl rfl) (by decide) ?_
        refine VL.q (q_pick_f rfl rfl) (by decide) ?_
        refine VL.q (q_assign rfl) (by decide) ?_
        refine VL.to (fun _ _ h => h) ?_
        refine VC.keep [2] rfl ?_
        cases hS
        exact VC.ret (fin1 (.inr rfl) rfl rfl () rfl trivial (fun _ _ => trivial) (fun _ _ => trivial))

set_option maxHeartbeats 4000000 in
set_option maxRecDepth 100000 in
theorem path_part_ct (s_0 : Str) {r : Bool} (hS : Sh.path_part s_0 = some r) :
    Ct Tryz.prog 193 [str s_0] Mo.tt (Ow.emp) (X := Unit) (fun _ => .bool r) (fun _ => True) (fun _ => Mo.tt) (fun _ => Ow.emp) := by
  refine Ct.of Tryz.func193 rfl (by kernel_rfl) Tryz.ntmps193 (by simp) fun c => ?_
  unfold Sh.path_part at hS
  refine VC.seq ?_
  refine VC.region ?_
  refine VL.q (q_assign rfl) (by decide) ?_
  refine VL.to (fun _ _ h => h) ?_
  refine VC.seq ?_
  refine VC.cutJ (S := Bool) (fun (x14_1 : Bool) => x14_1) (fun (x14_1 : Bool) => [(0, str s_0), (14, .bool x14_1)]) (fun (x14_1 : Bool) => Mo.tt) (fun (x14_1 : Bool) => Ow.emp) hS ?_ ?_
  · -- up to where ways meet
    clear hS
    intro k2 hS
    refine VC.region ?_
    refine VL.q (q_move rfl) (by decide) ?_
    refine VL.q (q_seq rfl rfl) (by decide) ?_
    refine VL.q (q_move rfl) (by decide) ?_
    refine VL.split_dec 7 rfl (fun h7 => ?_) (fun h7 => ?_)
    ·
      replace hS := it_t h7 hS
      refine VL.gn rfl rfl rfl (by decide) ?_
      refine VL.gn rfl rfl rfl (by decide) ?_
      refine VL.q (q_pick_t rfl rfl) (by decide) ?_
      refine VL.q (q_move rfl) (by decide) ?_
      refine VL.gn rfl rfl rfl (by decide) ?_
      refine VL.gn rfl rfl rfl (by decide) ?_
      refine VL.q (q_pick_t rfl rfl) (by decide) ?_
      refine VL.mt true [0, 14] (fun _ _ h => h) hS rfl
    ·
      replace hS := it_f h7 hS
      refine VL.gy rfl rfl (q_move rfl) (by decide) ?_
      refine VL.gy rfl rfl (q_seq rfl rfl) (by decide) ?_
      refine VL.q (q_pick_f rfl rfl) (by decide) ?_
      refine VL.q (q_move rfl) (by decide) ?_
      refine VL.split_dec 11 rfl (fun h11 => ?_) (fun h11 => ?_)
      ·
        replace hS := it_t h11 hS
        refine VL.gn rfl rfl rfl (by decide) ?_
        refine VL.gn rfl rfl rfl (by decide) ?_
        refine VL.q (q_pick_t rfl rfl) (by decide) ?_
        refine VL.mt true [0, 14] (fun _ _ h => h) hS rfl
      ·
        replace hS := it_f h11 hS
        refine VL.gy rfl rfl (q_move rfl) (by decide) ?_
        refine VL.gy rfl rfl (q_seq rfl rfl) (by decide) ?_
        refine VL.q (q_pick_f rfl rfl) (by decide) ?_
        refine VL.mt (decide (s_0 = [46, 46])) [0, 14] (fun _ _ h => h) hS rfl
  · -- from there
    clear hS
    rintro x14_1 hS
    show VC _ _ _ _ _ [(0, str s_0), (14, .bool x14_1)] (Mo.and Mo.tt _) (Ow.emp)
    refine VC.cond rfl (fun h14 => ?_) (fun h14 => ?_)
    ·
      replace hS := it_t h14 hS
      refine VC.seq ?_
      refine VC.region ?_
      refine VL.q (q_assign rfl) (by decide) ?_
      refine VL.to (fun _ _ h => h) ?_
      cases hS
      exact VC.ret (fin1 (.inr rfl) rfl rfl () rfl trivial (fun _ _ => trivial) (fun _ _ => trivial))
    ·
      replace hS := it_b h14 hS
      refine VC.skip_to (fun _ _ h => h) ?_
      refine VC.seq ?_
      refine VC.seq ?_
      refine VC.region ?_
      refine VL.q (q_move rfl) (by decide) ?_
      obtain ⟨b16, hS⟩ := gd_s hS
      refine VL.s2b Tryz.underlying9 Tryz.underlying23 Tryz.underlying5 rfl b16 (by decide) fun s16_3 hs16_3 => ?_
      replace hS := lt_to hs16_3 hS
      refine VL.q (q_ln (s := s16_3) Tryz.underlying23 rfl) (by decide) ?_
      refine VL.q (q_move rfl) (by decide) ?_
      refine VL.to (fun _ _ h => h) ?_
      refine VC.block ?_
      refine VC.iter (S := Int) (fun (x18_5 : Int) => x18_5) (fun (x18_5 : Int) => [(16, s16_3.val), (17, i64 (s16_3.l.length : Int)), (18, i64 x18_5)]) (fun (x18_5 : Int) => Mo.tt) (fun (x18_5 : Int) => Ow.emp) 0 [16, 17, 18] hS rfl ?_
      clear hS
      rintro x18_5 m1 y1 hS hK1
      show VC _ _ _ _ _ [(16, s16_3.val), (17, i64 (s16_3.l.length : Int)), (18, i64 x18_5)] (Mo.and Mo.tt _) (Ow.emp)
      refine VC.seq ?_
      refine VC.region ?_
      refine VL.q (q_lss rfl rfl) (by decide) ?_
      refine VL.to (fun _ _ h => h) ?_
      refine VC.seq ?_
      refine VC.cond_dec rfl (fun h19 => ?_) (fun h19 => ?_)
      ·
        replace hS := it_t h19 hS
        refine VC.skip_to (fun _ _ h => h) ?_
        refine VC.seq ?_
        refine VC.block ?_
        refine VC.seq ?_
        refine VC.region ?_
        obtain ⟨z20_6, nz20_6, hz20_6, hS⟩ := at_s hS
        refine VL.q (q_ixm (s := s16_3) Tryz.underlying23 gsz5 rfl rfl nz20_6 (lt_of_get nz20_6 hz20_6)) (by decide) ?_
        refine VL.q (q_el (s := s16_3) gone5 rfl hz20_6 rfl) (by decide) ?_
        refine VL.q (q_assign rfl) (by decide) ?_
        refine VL.to (fun _ _ h => h) ?_
        refine VC.seq ?_
        refine VC.region ?_
        refine VL.q (q_move rfl) (by decide) ?_
        obtain ⟨y23_7, ey23_7, hS⟩ := bd_s hS
        refine VL.q (q_call (path_good_ct (z20_6.toNat : Int) ey23_7) rfl (fun _ _ => rfl)) (by decide) ?_
        refine VL.q (q_not rfl) (by decide) ?_
        refine VL.to (fun _ _ h => h) ?_
        refine VC.cond rfl (fun h24 => ?_) (fun h24 => ?_)
        ·
          replace hS := it_t h24 hS
          refine VC.seq ?_
          refine VC.region ?_
          refine VL.q (q_assign rfl) (by decide) ?_
          refine VL.to (fun _ _ h => h) ?_
          refine VC.keep [2] rfl ?_
          replace hS := up2 hS hK1
          cases hS
          exact VC.ret (fin1 (.inr rfl) rfl rfl () rfl trivial (fun _ _ => trivial) (fun _ _ => trivial))
        ·
          replace hS := it_b h24 hS
          refine VC.skip_to (fun _ _ h => h) ?_
          refine VC.region ?_
          obtain ⟨b25, hS⟩ := gd_s hS
          refine VL.q (q_add rfl rfl b25) (by decide) ?_
          refine VL.q (q_move rfl) (by decide) ?_
          refine VL.rnd (x18_5 + 1) [16, 17, 18] (fun _ _ h => h) (go2 hS hK1) rfl
      ·
        replace hS := it_f h19 hS
        replace hS := up2 hS hK1
        refine VC.exit_to (fun _ _ h => h) ?_
        refine VC.seq ?_
        refine VC.region ?_
        refine VL.q (q_assign rfl) (by decide) ?_
        refine VL.to (fun _ _ h => h) ?_
        cases hS
        exact VC.ret (fin1 (.inr rfl) rfl rfl () rfl trivial (fun _ _ => trivial) (fun _ _ => trivial))

set_option maxHeartbeats 4000000 in
set_option maxRecDepth 100000 in
theorem path_Check_ct (p_0 : Str) {r : Int} (hS : Sh.path_Check p_0 = some r) :
    Ct Tryz.prog 139 [str p_0] Mo.tt (Ow.emp) (X := Unit) (fun _ => i64 r) (fun _ => True) (fun _ => Mo.tt) (fun _ => Ow.emp) := by
  refine Ct.of Tryz.func139 rfl (by kernel_rfl) Tryz.ntmps139 (by simp) fun c => ?_
  unfold Sh.path_Check at hS
  refine VC.seq ?_
  refine VC.region ?_
  refine VL.q (q_assign rfl) (by decide) ?_
  refine VL.to (fun _ _ h => h) ?_
  refine VC.seq ?_
  refine VC.seq ?_
  refine VC.region ?_
  refine VL.q (q_move rfl) (by decide) ?_
  refine VL.q (q_slen Tryz.underlying9 rfl) (by decide) ?_
  refine VL.q (q_gtr rfl rfl) (by decide) ?_
  refine VL.to (fun _ _ h => h) ?_
  refine VC.cond_dec rfl (fun h7 => ?_) (fun h7 => ?_)
  ·
    replace hS := it_t h7 hS
    refine VC.seq ?_
    refine VC.region ?_
    refine VL.q (q_assign rfl) (by decide) ?_
    refine VL.to (fun _ _ h => h) ?_
    cases hS
    exact VC.ret (fin1 (.inr rfl) rfl rfl () rfl trivial (fun _ _ => trivial) (fun _ _ => trivial))
  ·
    replace hS := it_f h7 hS
    refine VC.skip_to (fun _ _ h => h) ?_
    refine VC.seq ?_
    refine VC.seq ?_
    refine VC.region ?_
    refine VL.q (q_move rfl) (by decide) ?_
    obtain ⟨y9_1, ey9_1, hS⟩ := bd_s hS
    refine VL.callF (strings_Split_ct p_0 [47] ey9_1) rfl (by decide) ?_
    rintro q9_1_0 rfl
    try dsimp only
    refine VL.q (q_ln (s := q9_1_0) Tryz.underlying42 rfl) (by decide) ?_
    refine VL.q (q_move rfl) (by decide) ?_
    refine VL.to (fun _ _ h => h) ?_
    refine VC.block ?_
    refine VC.iter (S := Int) (fun (x11_2 : Int) => x11_2) (fun (x11_2 : Int) => [(9, q9_1_0.val), (10, i64 (q9_1_0.l.length : Int)), (11, i64 x11_2)]) (fun (x11_2 : Int) => Mo.tt) (fun (x11_2 : Int) => Ow.emp) 0 [9, 10, 11] hS rfl ?_
    clear hS
    rintro x11_2 m1 y1 hS hK1
    show VC _ _ _ _ _ [(9, q9_1_0.val), (10, i64 (q9_1_0.l.length : Int)), (11, i64 x11_2)] (Mo.and Mo.tt _) (Ow.emp)
    refine VC.seq ?_
    refine VC.region ?_
    refine VL.q (q_lss rfl rfl) (by decide) ?_
    refine VL.to (fun _ _ h => h) ?_
    refine VC.seq ?_
    refine VC.cond_dec rfl (fun h12 => ?_) (fun h12 => ?_)
    ·
      replace hS := it_t h12 hS
      refine VC.skip_to (fun _ _ h => h) ?_
      refine VC.seq ?_
      refine VC.block ?_
      refine VC.seq ?_
      refine VC.region ?_
      obtain ⟨z13_3, nz13_3, hz13_3, hS⟩ := at_s hS
      refine VL.q (q_ixm (s := q9_1_0) Tryz.underlying42 gsz9 rfl rfl nz13_3 (lt_of_get nz13_3 hz13_3)) (by decide) ?_
      refine VL.q (q_el (s := q9_1_0) gone9 rfl hz13_3 rfl) (by decide) ?_
      refine VL.q (q_assign rfl) (by decide) ?_
      refine VL.to (fun _ _ h => h) ?_
      refine VC.seq ?_
      refine VC.region ?_
      refine VL.q (q_move rfl) (by decide) ?_
      obtain ⟨y16_4, ey16_4, hS⟩ := bd_s hS
      refine VL.q (q_call (path_part_ct z13_3 ey16_4) rfl (fun _ _ => rfl)) (by decide) ?_
      refine VL.q (q_not rfl) (by decide) ?_
      refine VL.to (fun _ _ h => h) ?_
      refine VC.cond rfl (fun h17 => ?_) (fun h17 => ?_)
      ·
        replace hS := it_t h17 hS
        refine VC.seq ?_
        refine VC.region ?_
        refine VL.q (q_assign rfl) (by decide) ?_
        refine VL.to (fun _ _ h => h) ?_
        refine VC.keep [2] rfl ?_
        replace hS := up2 hS hK1
        cases hS
        exact VC.ret (fin1 (.inr rfl) rfl rfl () rfl trivial (fun _ _ => trivial) (fun _ _ => trivial))
      ·
        replace hS := it_b h17 hS
        refine VC.skip_to (fun _ _ h => h) ?_
        refine VC.region ?_
        obtain ⟨b18, hS⟩ := gd_s hS
        refine VL.q (q_add rfl rfl b18) (by decide) ?_
        refine VL.q (q_move rfl) (by decide) ?_
        refine VL.rnd (x11_2 + 1) [9, 10, 11] (fun _ _ h => h) (go2 hS hK1) rfl
    ·
      replace hS := it_f h12 hS
      replace hS := up2 hS hK1
      refine VC.exit_to (fun _ _ h => h) ?_
      refine VC.seq ?_
      refine VC.region ?_
      refine VL.q (q_assign rfl) (by decide) ?_
      refine VL.to (fun _ _ h => h) ?_
      cases hS
      exact VC.ret (fin1 (.inr rfl) rfl rfl () rfl trivial (fun _ _ => trivial) (fun _ _ => trivial))

set_option maxHeartbeats 4000000 in
set_option maxRecDepth 100000 in
theorem object_mode_ct (m_0 : Int) {r : Bool} (hS : Sh.object_mode m_0 = some r) :
    Ct Tryz.prog 228 [i64 m_0] Mo.tt (Ow.emp) (X := Unit) (fun _ => .bool r) (fun _ => True) (fun _ => Mo.tt) (fun _ => Ow.emp) := by
  refine Ct.of Tryz.func228 rfl (by kernel_rfl) Tryz.ntmps228 (by simp) fun c => ?_
  unfold Sh.object_mode at hS
  refine VC.seq ?_
  refine VC.region ?_
  refine VL.q (q_assign rfl) (by decide) ?_
  refine VL.to (fun _ _ h => h) ?_
  refine VC.seq ?_
  refine VC.seq ?_
  refine VC.region ?_
  refine VL.q (q_move rfl) (by decide) ?_
  refine VL.to (fun _ _ h => h) ?_
  refine VC.block ?_
  refine VC.cutJ (S := Unit) (fun (_ : Unit) => ()) (fun (_ : Unit) => []) (fun (_ : Unit) => Mo.tt) (fun (_ : Unit) => Ow.emp) hS ?_ ?_
  · -- up to where ways meet
    clear hS
    intro k1 hS
    refine VC.block ?_
    refine VC.block ?_
    refine VC.seq ?_
    refine VC.seq ?_
    refine VC.seq ?_
    refine VC.region ?_
    refine VL.q (q_eql rfl rfl) (by decide) ?_
    refine VL.q (q_assign rfl) (by decide) ?_
    refine VL.to (fun _ _ h => h) ?_
    refine VC.cond_dec rfl (fun h4 => ?_) (fun h4 => ?_)
    ·
      replace hS := it_t h4 hS
      refine VC.exit_mt () [] (fun _ _ h => h) hS rfl
    ·
      replace hS := it_f h4 hS
      refine VC.skip_to (fun _ _ h => h) ?_
      refine VC.seq ?_
      refine VC.region ?_
      refine VL.q (q_eql rfl rfl) (by decide) ?_
      refine VL.q (q_assign rfl) (by decide) ?_
      refine VL.to (fun _ _ h => h) ?_
      refine VC.cond_dec rfl (fun h6 => ?_) (fun h6 => ?_)
      ·
        replace hS := it_t h6 hS
        refine VC.exit_mt () [] (fun _ _ h => h) hS rfl
      ·
        replace hS := it_f h6 hS
        refine VC.skip_to (fun _ _ h => h) ?_
        refine VC.exit_to (fun _ _ h => h) ?_
        refine VC.seq ?_
        refine VC.region ?_
        refine VL.q (q_assign rfl) (by decide) ?_
        refine VL.to (fun _ _ h => h) ?_
        cases hS
        exact VC.ret (fin1 (.inr rfl) rfl rfl () rfl trivial (fun _ _ => trivial) (fun _ _ => trivial))
  · -- from there
    clear hS
    rintro _ hS
    show VC _ _ _ _ _ [] (Mo.and Mo.tt _) (Ow.emp)
    refine VC.seq ?_
    refine VC.seq ?_
    refine VC.region ?_
    refine VL.q (q_assign rfl) (by decide) ?_
    refine VL.to (fun _ _ h => h) ?_
    cases hS
    exact VC.ret (fin1 (.inr rfl) rfl rfl () rfl trivial (fun _ _ => trivial) (fun _ _ => trivial))

set_option maxHeartbeats 4000000 in
set_option maxRecDepth 100000 in
theorem cmp_isNaN_string_ct (x_0 : Str) {r : Bool} (hS : Sh.cmp_isNaN_string x_0 = some r) :
    Ct Tryz.prog 233 [str x_0] Mo.tt (Ow.emp) (X := Unit) (fun _ => .bool r) (fun _ => True) (fun _ => Mo.tt) (fun _ => Ow.emp) := by
  refine Ct.of Tryz.func233 rfl (by kernel_rfl) Tryz.ntmps233 (by simp) fun c => ?_
  unfold Sh.cmp_isNaN_string at hS
  refine VC.seq ?_
  refine VC.region ?_
  refine VL.q (q_assign rfl) (by decide) ?_
  refine VL.to (fun _ _ h => h) ?_
  refine VC.seq ?_
  refine VC.region ?_
  refine VL.q (q_move rfl) (by decide) ?_
  refine VL.q (q_move rfl) (by decide) ?_
  refine VL.q (q_sne rfl rfl) (by decide) ?_
  refine VL.q (q_assign rfl) (by decide) ?_
  refine VL.to (fun _ _ h => h) ?_
  cases hS
  exact VC.ret (fin1 (.inr rfl) rfl rfl () rfl trivial (fun _ _ => trivial) (fun _ _ => trivial))

set_option maxHeartbeats 4000000 in
set_option maxRecDepth 100000 in
theorem cmp_Compare_string_ct (x_0 : Str) (y_1 : Str) {r : Int} (hS : Sh.cmp_Compare_string x_0 y_1 = some r) :
    Ct Tryz.prog 190 [str x_0, str y_1] Mo.tt (Ow.emp) (X := Unit) (fun _ => i64 r) (fun _ => True) (fun _ => Mo.tt) (fun _ => Ow.emp) := by
  refine Ct.of Tryz.func190 rfl (by kernel_rfl) Tryz.ntmps190 (by simp) fun c => ?_
  unfold Sh.cmp_Compare_string at hS
  refine VC.seq ?_
  refine VC.region ?_
  refine VL.q (q_assign rfl) (by decide) ?_
  refine VL.to (fun _ _ h => h) ?_
  refine VC.seq ?_
  refine VC.region ?_
  refine VL.q (q_move rfl) (by decide) ?_
  obtain ⟨y8_1, ey8_1, hS⟩ := bd_s hS
  refine VL.q (q_call (cmp_isNaN_string_ct x_0 ey8_1) rfl (fun _ _ => rfl)) (by decide) ?_
  refine VL.q (q_assign rfl) (by decide) ?_
  refine VL.to (fun _ _ h => h) ?_
  refine VC.seq ?_
  refine VC.region ?_
  refine VL.q (q_move rfl) (by decide) ?_
  obtain ⟨y10_2, ey10_2, hS⟩ := bd_s hS
  refine VL.q (q_call (cmp_isNaN_string_ct y_1 ey10_2) rfl (fun _ _ => rfl)) (by decide) ?_
  refine VL.q (q_assign rfl) (by decide) ?_
  refine VL.to (fun _ _ h => h) ?_
  refine VC.seq ?_
  refine VC.seq ?_
  refine VC.region ?_
  refine VL.q (q_move rfl) (by decide) ?_
  refine VL.to (fun _ _ h => h) ?_
  refine VC.cond rfl (fun h11 => ?_) (fun h11 => ?_)
  ·
    replace hS := it_t h11 hS
    refine VC.seq ?_
    refine VC.seq ?_
    refine VC.region ?_
    refine VL.q (q_move rfl) (by decide) ?_
    refine VL.to (fun _ _ h => h) ?_
    refine VC.keep [12] rfl ?_
    refine VC.cond rfl (fun h12 => ?_) (fun h12 => ?_)
    ·
      replace hS := it_t h12 hS
      refine VC.seq ?_
      refine VC.region ?_
      refine VL.q (q_assign rfl) (by decide) ?_
      refine VL.to (fun _ _ h => h) ?_
      cases hS
      exact VC.ret (fin1 (.inr rfl) rfl rfl () rfl trivial (fun _ _ => trivial) (fun _ _ => trivial))
    ·
      replace hS := it_b h12 hS
      refine VC.skip_to (fun _ _ h => h) ?_
      refine VC.seq ?_
      refine VC.region ?_
      refine VL.q (q_assign rfl) (by decide) ?_
      refine VL.to (fun _ _ h => h) ?_
      cases hS
      exact VC.ret (fin1 (.inr rfl) rfl rfl () rfl trivial (fun _ _ => trivial) (fun _ _ => trivial))
  ·
    replace hS := it_b h11 hS
    refine VC.skip_to (fun _ _ h => h) ?_
    refine VC.seq ?_
    refine VC.seq ?_
    refine VC.region ?_
    refine VL.q (q_move rfl) (by decide) ?_
    refine VL.to (fun _ _ h => h) ?_
    refine VC.keep [0, 1, 13] rfl ?_
    refine VC.cond rfl (fun h13 => ?_) (fun h13 => ?_)
    ·
      replace hS := it_t h13 hS
      refine VC.seq ?_
      refine VC.region ?_
      refine VL.q (q_assign rfl) (by decide) ?_
      refine VL.to (fun _ _ h => h) ?_
      cases hS
      exact VC.ret (fin1 (.inr rfl) rfl rfl () rfl trivial (fun _ _ => trivial) (fun _ _ => trivial))
    ·
      replace hS := it_b h13 hS
      refine VC.skip_to (fun _ _ h => h) ?_
      refine VC.seq ?_
      refine VC.seq ?_
      refine VC.region ?_
      refine VL.q (q_move rfl) (by decide) ?_
      refine VL.q (q_move rfl) (by decide) ?_
      refine VL.q (q_slss rfl rfl) (by decide) ?_
      refine VL.to (fun _ _ h => h) ?_
      refine VC.cond rfl (fun h16 => ?_) (fun h16 => ?_)
      ·
        replace hS := it_t h16 hS
        refine VC.seq ?_
        refine VC.region ?_
        refine VL.q (q_assign rfl) (by decide) ?_
        refine VL.to (fun _ _ h => h) ?_
        cases hS
        exact VC.ret (fin1 (.inr rfl) rfl rfl () rfl trivial (fun _ _ => trivial) (fun _ _ => trivial))
      ·
        replace hS := it_b h16 hS
        refine VC.skip_to (fun _ _ h => h) ?_
        refine VC.seq ?_
        refine VC.seq ?_
        refine VC.region ?_
        refine VL.q (q_move rfl) (by decide) ?_
        refine VL.q (q_move rfl) (by decide) ?_
        refine VL.q (q_sgtr rfl rfl) (by decide) ?_
        refine VL.to (fun _ _ h => h) ?_
        refine VC.cond rfl (fun h19 => ?_) (fun h19 => ?_)
        ·
          replace hS := it_t h19 hS
          refine VC.seq ?_
          refine VC.region ?_
          refine VL.q (q_assign rfl) (by decide) ?_
          refine VL.to (fun _ _ h => h) ?_
          cases hS
          exact VC.ret (fin1 (.inr rfl) rfl rfl () rfl trivial (fun _ _ => trivial) (fun _ _ => trivial))
        ·
          replace hS := it_b h19 hS
          refine VC.skip_to (fun _ _ h => h) ?_
          refine VC.seq ?_
          refine VC.region ?_
          refine VL.q (q_assign rfl) (by decide) ?_
          refine VL.to (fun _ _ h => h) ?_
          cases hS
          exact VC.ret (fin1 (.inr rfl) rfl rfl () rfl trivial (fun _ _ => trivial) (fun _ _ => trivial))

set_option maxHeartbeats 4000000 in
set_option maxRecDepth 100000 in
theorem path_Compare_ct (a_0 : Str) (b_1 : Str) {r : Int} (hS : Sh.path_Compare a_0 b_1 = some r) :
    Ct Tryz.prog 134 [str a_0, str b_1] Mo.tt (Ow.emp) (X := Unit) (fun _ => i64 r) (fun _ => True) (fun _ => Mo.tt) (fun _ => Ow.emp) := by
  refine Ct.of Tryz.func134 rfl (by kernel_rfl) Tryz.ntmps134 (by simp) fun c => ?_
  unfold Sh.path_Compare at hS
  refine VC.seq ?_
  refine VC.region ?_
  refine VL.q (q_assign rfl) (by decide) ?_
  refine VL.to (fun _ _ h => h) ?_
  refine VC.seq ?_
  refine VC.region ?_
  refine VL.q (q_move rfl) (by decide) ?_
  refine VL.q (q_move rfl) (by decide) ?_
  obtain ⟨y7_1, ey7_1, hS⟩ := bd_s hS
  refine VL.q (q_call (cmp_Compare_string_ct a_0 b_1 ey7_1) rfl (fun _ _ => rfl)) (by decide) ?_
  refine VL.q (q_assign rfl) (by decide) ?_
  refine VL.to (fun _ _ h => h) ?_
  cases hS
  exact VC.ret (fin1 (.inr rfl) rfl rfl () rfl trivial (fun _ _ => trivial) (fun _ _ => trivial))

set_option maxHeartbeats 4000000 in
set_option maxRecDepth 100000 in
theorem internal_stringslite_HasPrefix_ct (s_0 : Str) (prefix_1 : Str) {r : Bool} (hS : Sh.internal_stringslite_HasPrefix s_0 prefix_1 = some r) :
    Ct Tryz.prog 263 [str s_0, str prefix_1] Mo.tt (Ow.emp) (X := Unit) (fun _ => .bool r) (fun _ => True) (fun _ => Mo.tt) (fun _ => Ow.emp) := by
  refine Ct.of Tryz.func263 rfl (by kernel_rfl) Tryz.ntmps263 (by simp) fun c => ?_
  unfold Sh.internal_stringslite_HasPrefix at hS
  refine VC.seq ?_
  refine VC.region ?_
  refine VL.q (q_assign rfl) (by decide) ?_
  refine VL.to (fun _ _ h => h) ?_
  refine VC.seq ?_
  refine VC.region ?_
  refine VL.q (q_move rfl) (by decide) ?_
  refine VL.q (q_slen Tryz.underlying9 rfl) (by decide) ?_
  refine VL.q (q_move rfl) (by decide) ?_
  refine VL.q (q_slen Tryz.underlying9 rfl) (by decide) ?_
  refine VL.q (q_geq rfl rfl) (by decide) ?_
  refine VL.q (q_move rfl) (by decide) ?_
  refine VL.split_dec 10 rfl (fun h10 => ?_) (fun h10 => ?_)
  ·
    replace hS := it_t h10 hS
    refine VL.gy rfl rfl (q_move rfl) (by decide) ?_
    refine VL.gy rfl rfl (q_move rfl) (by decide) ?_
    refine VL.gy rfl rfl (q_slen Tryz.underlying9 rfl) (by decide) ?_
    obtain ⟨b14, hS⟩ := gd_s hS
    obtain ⟨y14_1, ey14_1, hS⟩ := lt_s hS
    refine VL.gy rfl rfl (q_stoE Tryz.underlying9 rfl rfl b14.1 b14.2 ey14_1) (by decide) ?_
    refine VL.gy rfl rfl (q_move rfl) (by decide) ?_
    refine VL.gy rfl rfl (q_seq rfl rfl) (by decide) ?_
    refine VL.q (q_pick_t rfl rfl) (by decide) ?_
    refine VL.q (q_assign rfl) (by decide) ?_
    refine VL.to (fun _ _ h => h) ?_
    refine VC.keep [4] rfl ?_
    cases hS
    exact VC.ret (fin1 (.inr rfl) rfl rfl () rfl trivial (fun _ _ => trivial) (fun _ _ => trivial))
  ·
    replace hS := it_f h10 hS
    refine VL.gn rfl rfl rfl (by decide) ?_
    refine VL.gn rfl rfl rfl (by decide) ?_
    refine VL.gn rfl rfl rfl (by decide) ?_
    refine VL.gn rfl rfl rfl (by decide) ?_
    refine VL.gn rfl rfl rfl (by decide) ?_
    refine VL.gn rfl rfl rfl (by decide) ?_
    refine VL.q (q_pick_f rfl rfl) (by decide) ?_
    refine VL.q (q_assign rfl) (by decide) ?_
    refine VL.to (fun _ _ h => h) ?_
    refine VC.keep [4] rfl ?_
    cases hS
    exact VC.ret (fin1 (.inr rfl) rfl rfl () rfl trivial (fun _ _ => trivial) (fun _ _ => trivial))

set_option maxHeartbeats 4000000 in
set_option maxRecDepth 100000 in
theorem strings_HasPrefix_ct (s_0 : Str) (prefix_1 : Str) {r : Bool} (hS : Sh.strings_HasPrefix s_0 prefix_1 = some r) :
    Ct Tryz.prog 232 [str s_0, str prefix_1] Mo.tt (Ow.emp) (X := Unit) (fun _ => .bool r) (fun _ => True) (fun _ => Mo.tt) (fun _ => Ow.emp) := by
  refine Ct.of Tryz.func232 rfl (by kernel_rfl) Tryz.ntmps232 (by simp) fun c => ?_
  unfold Sh.strings_HasPrefix at hS
  refine VC.seq ?_
  refine VC.region ?_
  refine VL.q (q_assign rfl) (by decide) ?_
  refine VL.to (fun _ _ h => h) ?_
  refine VC.seq ?_
  refine VC.region ?_
  refine VL.q (q_move rfl) (by decide) ?_
  refine VL.q (q_move rfl) (by decide) ?_
  obtain ⟨y7_1, ey7_1, hS⟩ := bd_s hS
  refine VL.q (q_call (internal_stringslite_HasPrefix_ct s_0 prefix_1 ey7_1) rfl (fun _ _ => rfl)) (by decide) ?_
  refine VL.q (q_assign rfl) (by decide) ?_
  refine VL.to (fun _ _ h => h) ?_
  cases hS
  exact VC.ret (fin1 (.inr rfl) rfl rfl () rfl trivial (fun _ _ => trivial) (fun _ _ => trivial))

set_option maxHeartbeats 4000000 in
set_option maxRecDepth 100000 in
theorem path_Under_ct (p_0 : Str) (dir_1 : Str) {r : Bool} (hS : Sh.path_Under p_0 dir_1 = some r) :
    Ct Tryz.prog 189 [str p_0, str dir_1] Mo.tt (Ow.emp) (X := Unit) (fun _ => .bool r) (fun _ => True) (fun _ => Mo.tt) (fun _ => Ow.emp) := by
  refine Ct.of Tryz.func189 rfl (by kernel_rfl) Tryz.ntmps189 (by simp) fun c => ?_
  unfold Sh.path_Under at hS
  refine VC.seq ?_
  refine VC.region ?_
  refine VL.q (q_assign rfl) (by decide) ?_
  refine VL.to (fun _ _ h => h) ?_
  refine VC.seq ?_
  refine VC.seq ?_
  refine VC.region ?_
  refine VL.q (q_move rfl) (by decide) ?_
  refine VL.q (q_seq rfl rfl) (by decide) ?_
  refine VL.to (fun _ _ h => h) ?_
  refine VC.cond_dec rfl (fun h6 => ?_) (fun h6 => ?_)
  ·
    replace hS := it_t h6 hS
    refine VC.seq ?_
    refine VC.region ?_
    refine VL.q (q_move rfl) (by decide) ?_
    refine VL.q (q_sne rfl rfl) (by decide) ?_
    refine VL.q (q_assign rfl) (by decide) ?_
    refine VL.to (fun _ _ h => h) ?_
    cases hS
    exact VC.ret (fin1 (.inr rfl) rfl rfl () rfl trivial (fun _ _ => trivial) (fun _ _ => trivial))
  ·
    replace hS := it_f h6 hS
    refine VC.skip_to (fun _ _ h => h) ?_
    refine VC.seq ?_
    refine VC.region ?_
    refine VL.q (q_move rfl) (by decide) ?_
    refine VL.q (q_slen Tryz.underlying9 rfl) (by decide) ?_
    refine VL.q (q_move rfl) (by decide) ?_
    refine VL.q (q_slen Tryz.underlying9 rfl) (by decide) ?_
    obtain ⟨b13, hS⟩ := gd_s hS
    refine VL.q (q_add rfl rfl b13) (by decide) ?_
    refine VL.q (q_gtr rfl rfl) (by decide) ?_
    refine VL.q (q_move rfl) (by decide) ?_
    refine VL.split_dec 15 rfl (fun h15 => ?_) (fun h15 => ?_)
    ·
      replace hS := it_t h15 hS
      refine VL.gy rfl rfl (q_move rfl) (by decide) ?_
      refine VL.gy rfl rfl (q_move rfl) (by decide) ?_
      obtain ⟨b18, hS⟩ := gd_s hS
      obtain ⟨y18_1, ey18_1, hS⟩ := lt_s hS
      refine VL.gy rfl rfl (q_catE rfl rfl b18 ey18_1) (by decide) ?_
      obtain ⟨y19_2, ey19_2, hS⟩ := bd_s hS
      refine VL.gy rfl rfl (q_call (strings_HasPrefix_ct p_0 y18_1 ey19_2) rfl (fun _ _ => rfl)) (by decide) ?_
      refine VL.q (q_pick_t rfl rfl) (by decide) ?_
      refine VL.q (q_assign rfl) (by decide) ?_
      refine VL.to (fun _ _ h => h) ?_
      refine VC.keep [4] rfl ?_
      cases hS
      exact VC.ret (fin1 (.inr rfl) rfl rfl () rfl trivial (fun _ _ => trivial) (fun _ _ => trivial))
    ·
      replace hS := it_f h15 hS
      refine VL.gn rfl rfl rfl (by decide) ?_
      refine VL.gn rfl rfl rfl (by decide) ?_
      refine VL.gn rfl rfl rfl (by decide) ?_
      refine VL.gn rfl rfl rfl (by decide) ?_
      refine VL.q (q_pick_f rfl rfl) (by decide) ?_
      refine VL.q (q_assign rfl) (by decide) ?_
      refine VL.to (fun _ _ h => h) ?_
      refine VC.keep [4] rfl ?_
      cases hS
      exact VC.ret (fin1 (.inr rfl) rfl rfl () rfl trivial (fun _ _ => trivial) (fun _ _ => trivial))

set_option maxHeartbeats 4000000 in
set_option maxRecDepth 100000 in
theorem path_Clash_ct (a_0 : Str) (b_1 : Str) {r : Bool} (hS : Sh.path_Clash a_0 b_1 = some r) :
    Ct Tryz.prog 132 [str a_0, str b_1] Mo.tt (Ow.emp) (X := Unit) (fun _ => .bool r) (fun _ => True) (fun _ => Mo.tt) (fun _ => Ow.emp) := by
  refine Ct.of Tryz.func132 rfl (by kernel_rfl) Tryz.ntmps132 (by simp) fun c => ?_
  unfold Sh.path_Clash at hS
  refine VC.seq ?_
  refine VC.region ?_
  refine VL.q (q_assign rfl) (by decide) ?_
  refine VL.to (fun _ _ h => h) ?_
  refine VC.seq ?_
  refine VC.region ?_
  refine VL.q (q_move rfl) (by decide) ?_
  refine VL.q (q_sne rfl rfl) (by decide) ?_
  refine VL.q (q_move rfl) (by decide) ?_
  refine VL.split_ndec 7 rfl (fun h7 => ?_) (fun h7 => ?_)
  ·
    replace hS := it_f h7 hS
    refine VL.gy rfl rfl (q_move rfl) (by decide) ?_
    refine VL.gy rfl rfl (q_sne rfl rfl) (by decide) ?_
    refine VL.q (q_pick_t rfl rfl) (by decide) ?_
    refine VL.q (q_move rfl) (by decide) ?_
    refine VL.split_ndec 11 rfl (fun h11 => ?_) (fun h11 => ?_)
    ·
      replace hS := it_f h11 hS
      refine VL.gy rfl rfl (q_move rfl) (by decide) ?_
      refine VL.gy rfl rfl (q_move rfl) (by decide) ?_
      obtain ⟨y14_1, ey14_1, hS⟩ := bd_s hS
      refine VL.gy rfl rfl (q_call (path_Under_ct a_0 b_1 ey14_1) rfl (fun _ _ => rfl)) (by decide) ?_
      refine VL.gy rfl rfl (q_move rfl) (by decide) ?_
      refine VL.split 15 rfl (fun h15 => ?_) (fun h15 => ?_)
      ·
        replace hS := it_t h15 hS
        refine VL.gn rfl rfl rfl (by decide) ?_
        refine VL.gn rfl rfl rfl (by decide) ?_
        refine VL.gn rfl rfl rfl (by decide) ?_
        refine VL.gy rfl rfl (q_pick_t rfl rfl) (by decide) ?_
        refine VL.q (q_pick_t rfl rfl) (by decide) ?_
        refine VL.q (q_assign rfl) (by decide) ?_
        refine VL.to (fun _ _ h => h) ?_
        refine VC.keep [4] rfl ?_
        cases hS
        exact VC.ret (fin1 (.inr rfl) rfl rfl () rfl trivial (fun _ _ => trivial) (fun _ _ => trivial))
      ·
        replace hS := it_b h15 hS
        refine VL.gy rfl rfl (q_move rfl) (by decide) ?_
        refine VL.gy rfl rfl (q_move rfl) (by decide) ?_
        obtain ⟨y18_2, ey18_2, hS⟩ := bd_s hS
        refine VL.gy rfl rfl (q_call (path_Under_ct b_1 a_0 ey18_2) rfl (fun _ _ => rfl)) (by decide) ?_
        refine VL.gy rfl rfl (q_pick_f rfl rfl) (by decide) ?_
        refine VL.q (q_pick_t rfl rfl) (by decide) ?_
        refine VL.q (q_assign rfl) (by decide) ?_
        refine VL.to (fun _ _ h => h) ?_
        refine VC.keep [4] rfl ?_
        cases hS
        exact VC.ret (fin1 (.inr rfl) rfl rfl () rfl trivial (fun _ _ => trivial) (fun _ _ => trivial))
    ·
      replace hS := it_t h11 hS
      refine VL.gn rfl rfl rfl (by decide) ?_
      refine VL.gn rfl rfl rfl (by decide) ?_
      refine VL.gn rfl rfl rfl (by decide) ?_
      refine VL.gn rfl rfl rfl (by decide) ?_
      refine VL.gu rfl rfl (by decide) ?_
      refine VL.gu rfl rfl (by decide) ?_
      refine VL.gu rfl rfl (by decide) ?_
      refine VL.gn rfl rfl rfl (by decide) ?_
      refine VL.q (q_pick_f rfl rfl) (by decide) ?_
      refine VL.q (q_assign rfl) (by decide) ?_
      refine VL.to (fun _ _ h => h) ?_
      refine VC.keep [4] rfl ?_
      cases hS
      exact VC.ret (fin1 (.inr rfl) rfl rfl () rfl trivial (fun _ _ => trivial) (fun _ _ => trivial))
  ·
    replace hS := it_t h7 hS
    refine VL.gn rfl rfl rfl (by decide) ?_
    refine VL.gn rfl rfl rfl (by decide) ?_
    refine VL.q (q_pick_f rfl rfl) (by decide) ?_
    refine VL.q (q_move rfl) (by decide) ?_
    refine VL.gn rfl rfl rfl (by decide) ?_
    refine VL.gn rfl rfl rfl (by decide) ?_
    refine VL.gn rfl rfl rfl (by decide) ?_
    refine VL.gn rfl rfl rfl (by decide) ?_
    refine VL.gu rfl rfl (by decide) ?_
    refine VL.gu rfl rfl (by decide) ?_
    refine VL.gu rfl rfl (by decide) ?_
    refine VL.gn rfl rfl rfl (by decide) ?_
    refine VL.q (q_pick_f rfl rfl) (by decide) ?_
    refine VL.q (q_assign rfl) (by decide) ?_
    refine VL.to (fun _ _ h => h) ?_
    refine VC.keep [4] rfl ?_
    cases hS
    exact VC.ret (fin1 (.inr rfl) rfl rfl () rfl trivial (fun _ _ => trivial) (fun _ _ => trivial))

set_option maxHeartbeats 4000000 in
set_option maxRecDepth 100000 in
theorem object_item_1_ct (y_0 : ObjectItem) (a_1_b : Nat) (a_1 : ObjectItem) {r : Bool} (hS : Sh.object_item_1 y_0 a_1 = some r) :
    Ct Tryz.prog 230 [.agg #[str y_0.path, i64 y_0.mode, i64 y_0.blob], ptr a_1_b 0] (Cells a_1_b 0 [str a_1.path, i64 a_1.mode, i64 a_1.blob]) (Ow.emp) (X := Unit) (fun _ => .bool r) (fun _ => True) (fun _ => Mo.tt) (fun _ => Ow.emp) := by
  refine Ct.of Tryz.func230 rfl (by kernel_rfl) Tryz.ntmps230 (by simp) fun c => ?_
  unfold Sh.object_item_1 at hS
  refine VC.seq ?_
  refine VC.region ?_
  refine VL.box (cs := [str y_0.path, i64 y_0.mode, i64 y_0.blob]) rfl rfl (by decide) fun b2_1 => ?_
  refine VL.q (q_assign rfl) (by decide) ?_
  refine VL.to (fun _ _ h => h) ?_
  refine VC.seq ?_
  refine VC.region ?_
  refine VL.q (q_field gfa29_0 rfl) (by decide) ?_
  refine VL.q (q_fe gone9 rfl rfl) (by decide) ?_
  refine VL.q (q_field gfa29_0 rfl) (by decide) ?_
  refine VL.q (q_fm gone9 rfl rfl) (by decide) ?_
  obtain ⟨y8_2, ey8_2, hS⟩ := bd_s hS
  refine VL.q (q_call (path_Clash_ct y_0.path a_1.path ey8_2) rfl (fun _ _ => rfl)) (by decide) ?_
  refine VL.q (q_assign rfl) (by decide) ?_
  refine VL.to (fun _ _ h => h) ?_
  cases hS
  exact VC.ret (fin1 (.inr rfl) rfl rfl () rfl trivial (fun _ _ => trivial) (fun _ _ => trivial))

set_option maxHeartbeats 4000000 in
set_option maxRecDepth 100000 in
theorem slices_IndexFunc_object_Item_object_Item_ct (s_0 : Sv ObjectItem) (f_1_0_b : Nat) (f_1_0 : ObjectItem) {r : Int} (hS : Sh.slices_IndexFunc_object_Item_object_Item s_0.l f_1_0 = some r) :
    Ct Tryz.prog 262 [s_0.val, .func (.func 230) #[] #[ptr f_1_0_b 0]] (s_0.ok.and (Cells f_1_0_b 0 [str f_1_0.path, i64 f_1_0.mode, i64 f_1_0.blob])) (Ow.emp) (X := Unit) (fun _ => i64 r) (fun _ => True) (fun _ => Mo.tt) (fun _ => Ow.emp) := by
  refine Ct.of Tryz.func262 rfl (by kernel_rfl) Tryz.ntmps262 (by simp) fun c => ?_
  unfold Sh.slices_IndexFunc_object_Item_object_Item at hS
  refine VC.seq ?_
  refine VC.region ?_
  refine VL.q (q_assign rfl) (by decide) ?_
  refine VL.to (fun _ _ h => h) ?_
  refine VC.seq ?_
  refine VC.seq ?_
  refine VC.region ?_
  refine VL.q (q_move rfl) (by decide) ?_
  refine VL.q (q_ln (s := s_0) Tryz.underlying24 rfl) (by decide) ?_
  refine VL.q (q_move rfl) (by decide) ?_
  refine VL.to (fun _ _ h => h) ?_
  refine VC.block ?_
  refine VC.iter (S := Int) (fun (x8_1 : Int) => x8_1) (fun (x8_1 : Int) => [(0, s_0.val), (1, .func (.func 230) #[] #[ptr f_1_0_b 0]), (7, i64 (s_0.l.length : Int)), (8, i64 x8_1)]) (fun (x8_1 : Int) => Mo.tt) (fun (x8_1 : Int) => Ow.emp) 0 [0, 1, 7, 8] hS rfl ?_
  clear hS
  rintro x8_1 m1 y1 hS hK1
  show VC _ _ _ _ _ [(0, s_0.val), (1, .func (.func 230) #[] #[ptr f_1_0_b 0]), (7, i64 (s_0.l.length : Int)), (8, i64 x8_1)] (Mo.and Mo.tt _) (Ow.emp)
  refine VC.seq ?_
  refine VC.region ?_
  refine VL.q (q_lss rfl rfl) (by decide) ?_
  refine VL.to (fun _ _ h => h) ?_
  refine VC.seq ?_
  refine VC.cond_dec rfl (fun h9 => ?_) (fun h9 => ?_)
  ·
    replace hS := it_t h9 hS
    refine VC.skip_to (fun _ _ h => h) ?_
    refine VC.seq ?_
    refine VC.block ?_
    refine VC.seq ?_
    refine VC.region ?_
    refine VL.q (q_move rfl) (by decide) ?_
    refine VL.q (q_assign rfl) (by decide) ?_
    refine VL.to (fun _ _ h => h) ?_
    refine VC.seq ?_
    refine VC.region ?_
    refine VL.q (q_move rfl) (by decide) ?_
    refine VL.q (q_move rfl) (by decide) ?_
    refine VL.q (q_move rfl) (by decide) ?_
    obtain ⟨z14_2, nz14_2, hz14_2, hS⟩ := at_s hS
    refine VL.q (q_ixm (s := s_0) Tryz.underlying24 gsz29 rfl rfl nz14_2 (lt_of_get nz14_2 hz14_2)) (by decide) ?_
    refine VL.q (q_els (s := s_0) gagg29 rfl rfl hz14_2) (by decide) ?_
    obtain ⟨y16_3, ey16_3, hS⟩ := bd_s hS
    refine VL.q (q_callVC (vs := [.agg #[str z14_2.path, i64 z14_2.mode, i64 z14_2.blob]]) (caps := [ptr f_1_0_b 0]) (object_item_1_ct z14_2 f_1_0_b f_1_0 ey16_3) rfl rfl (fun _ _ => rfl)) (by decide) ?_
    refine VL.to (fun _ _ h => h) ?_
    refine VC.keep [0, 1, 7, 8, 5, 16] rfl ?_
    refine VC.cond rfl (fun h16 => ?_) (fun h16 => ?_)
    ·
      replace hS := it_t h16 hS
      refine VC.seq ?_
      refine VC.region ?_
      refine VL.q (q_move rfl) (by decide) ?_
      refine VL.q (q_assign rfl) (by decide) ?_
      refine VL.to (fun _ _ h => h) ?_
      replace hS := up2 hS hK1
      cases hS
      exact VC.ret (fin1 (.inr rfl) rfl rfl () rfl trivial (fun _ _ => trivial) (fun _ _ => trivial))
    ·
      replace hS := it_b h16 hS
      refine VC.skip_to (fun _ _ h => h) ?_
      refine VC.region ?_
      obtain ⟨b18, hS⟩ := gd_s hS
      refine VL.q (q_add rfl rfl b18) (by decide) ?_
      refine VL.q (q_move rfl) (by decide) ?_
      refine VL.rnd (x8_1 + 1) [0, 1, 7, 8] (fun _ _ h => h) (go2 hS hK1) rfl
  ·
    replace hS := it_f h9 hS
    replace hS := up2 hS hK1
    refine VC.exit_to (fun _ _ h => h) ?_
    refine VC.seq ?_
    refine VC.region ?_
    refine VL.q (q_assign rfl) (by decide) ?_
    refine VL.to (fun _ _ h => h) ?_
    cases hS
    exact VC.ret (fin1 (.inr rfl) rfl rfl () rfl trivial (fun _ _ => trivial) (fun _ _ => trivial))

set_option maxHeartbeats 4000000 in
set_option maxRecDepth 100000 in
theorem slices_ContainsFunc_object_Item_object_Item_ct (s_0 : Sv ObjectItem) (f_1_0_b : Nat) (f_1_0 : ObjectItem) {r : Bool} (hS : Sh.slices_ContainsFunc_object_Item_object_Item s_0.l f_1_0 = some r) :
    Ct Tryz.prog 229 [s_0.val, .func (.func 230) #[] #[ptr f_1_0_b 0]] (s_0.ok.and (Cells f_1_0_b 0 [str f_1_0.path, i64 f_1_0.mode, i64 f_1_0.blob])) (Ow.emp) (X := Unit) (fun _ => .bool r) (fun _ => True) (fun _ => Mo.tt) (fun _ => Ow.emp) := by
  refine Ct.of Tryz.func229 rfl (by kernel_rfl) Tryz.ntmps229 (by simp) fun c => ?_
  unfold Sh.slices_ContainsFunc_object_Item_object_Item at hS
  refine VC.seq ?_
  refine VC.region ?_
  refine VL.q (q_assign rfl) (by decide) ?_
  refine VL.to (fun _ _ h => h) ?_
  refine VC.seq ?_
  refine VC.region ?_
  refine VL.q (q_move rfl) (by decide) ?_
  refine VL.q (q_move rfl) (by decide) ?_
  obtain ⟨y7_1, ey7_1, hS⟩ := bd_s hS
  refine VL.q (q_callR (slices_IndexFunc_object_Item_object_Item_ct s_0 f_1_0_b f_1_0 ey7_1) rfl (fun _ _ => rfl)) (by decide) ?_
  refine VL.q (q_geq rfl rfl) (by decide) ?_
  refine VL.q (q_assign rfl) (by decide) ?_
  refine VL.to (fun _ _ h => h) ?_
  cases hS
  exact VC.ret (fin1 (.inr rfl) rfl rfl () rfl trivial (fun _ _ => trivial) (fun _ _ => trivial))

set_option maxHeartbeats 4000000 in
set_option maxRecDepth 100000 in
theorem object_item_ct (l_0 : Sv ObjectItem) (i_1 : Int) {r : Int} (hS : Sh.object_item l_0.l i_1 = some r) :
    Ct Tryz.prog 182 [l_0.val, i64 i_1] l_0.ok (Ow.emp) (X := Unit) (fun _ => i64 r) (fun _ => True) (fun _ => Mo.tt) (fun _ => Ow.emp) := by
  refine Ct.of Tryz.func182 rfl (by kernel_rfl) Tryz.ntmps182 (by simp) fun c => ?_
  unfold Sh.object_item at hS
  refine VC.seq ?_
  refine VC.region ?_
  refine VL.q (q_assign rfl) (by decide) ?_
  refine VL.to (fun _ _ h => h) ?_
  refine VC.seq ?_
  refine VC.region ?_
  refine VL.q (q_move rfl) (by decide) ?_
  refine VL.q (q_move rfl) (by decide) ?_
  obtain ⟨z9_1, nz9_1, hz9_1, hS⟩ := at_s hS
  refine VL.q (q_ixm (s := l_0) Tryz.underlying24 gsz29 rfl rfl nz9_1 (lt_of_get nz9_1 hz9_1)) (by decide) ?_
  refine VL.q (q_els (s := l_0) gagg29 rfl rfl hz9_1) (by decide) ?_
  refine VL.alloc (cs := [str [], i64 0, i64 0]) (by kernel_rfl) (by decide) fun b5_2 => ?_
  refine VL.store (vc := [str z9_1.path, i64 z9_1.mode, i64 z9_1.blob]) (cs' := [str z9_1.path, i64 z9_1.mode, i64 z9_1.blob]) rfl rfl rfl gsz29 rfl rfl (Nat.le_of_ble_eq_true rfl) rfl ?_
  refine VL.to (fun _ _ h => h) ?_
  refine VC.seq ?_
  refine VC.seq ?_
  refine VC.region ?_
  refine VL.q (q_field gfa29_0 rfl) (by decide) ?_
  refine VL.q (q_fe gone9 rfl rfl) (by decide) ?_
  obtain ⟨y13_3, ey13_3, hS⟩ := bd_s hS
  refine VL.q (q_call (path_Check_ct z9_1.path ey13_3) rfl (fun _ _ => rfl)) (by decide) ?_
  refine VL.q (q_assign rfl) (by decide) ?_
  refine VL.to (fun _ _ h => h) ?_
  refine VC.keep [0, 1, 5, 6] rfl ?_
  refine VC.seq ?_
  refine VC.region ?_
  refine VL.q (q_move rfl) (by decide) ?_
  refine VL.q (q_neq rfl rfl) (by decide) ?_
  refine VL.to (fun _ _ h => h) ?_
  refine VC.cond_ndec rfl (fun h15 => ?_) (fun h15 => ?_)
  ·
    replace hS := it_f h15 hS
    refine VC.seq ?_
    refine VC.region ?_
    refine VL.q (q_move rfl) (by decide) ?_
    refine VL.q (q_assign rfl) (by decide) ?_
    refine VL.to (fun _ _ h => h) ?_
    cases hS
    exact VC.ret (fin1 (.inr rfl) rfl rfl () rfl trivial (fun _ _ => trivial) (fun _ _ => trivial))
  ·
    replace hS := it_t h15 hS
    refine VC.skip_to (fun _ _ h => h) ?_
    refine VC.seq ?_
    refine VC.block ?_
    refine VC.cutJ (S := Bool) (fun (x17_4 : Bool) => x17_4) (fun (x17_4 : Bool) => [(0, l_0.val), (1, i64 i_1), (5, ptr b5_2 0), (17, .bool x17_4)]) (fun (x17_4 : Bool) => Mo.tt) (fun (x17_4 : Bool) => Ow.star (Blk b5_2 [str z9_1.path, i64 z9_1.mode, i64 z9_1.blob] 29) (Ow.emp)) hS ?_ ?_
    · -- up to where ways meet
      clear hS
      intro k5 hS
      refine VC.region ?_
      refine VL.q (q_field gfa29_1 rfl) (by decide) ?_
      refine VL.q (q_fe gone3 rfl rfl) (by decide) ?_
      obtain ⟨y20_6, ey20_6, hS⟩ := bd_s hS
      refine VL.q (q_call (object_mode_ct z9_1.mode ey20_6) rfl (fun _ _ => rfl)) (by decide) ?_
      refine VL.q (q_not rfl) (by decide) ?_
      refine VL.q (q_move rfl) (by decide) ?_
      refine VL.split 22 rfl (fun h22 => ?_) (fun h22 => ?_)
      ·
        replace hS := it_t h22 hS
        refine VL.gn rfl rfl rfl (by decide) ?_
        refine VL.gn rfl rfl rfl (by decide) ?_
        refine VL.gn rfl rfl rfl (by decide) ?_
        refine VL.q (q_pick_t rfl rfl) (by decide) ?_
        refine VL.q (q_assign rfl) (by decide) ?_
        refine VL.mt true [0, 1, 5, 17] (fun _ _ h => h) hS rfl
      ·
        replace hS := it_b h22 hS
        refine VL.gy rfl rfl (q_field gfa29_2 rfl) (by decide) ?_
        refine VL.gy rfl rfl (q_fe gone3 rfl rfl) (by decide) ?_
        refine VL.gy rfl rfl (q_lss rfl rfl) (by decide) ?_
        refine VL.q (q_pick_f rfl rfl) (by decide) ?_
        refine VL.q (q_assign rfl) (by decide) ?_
        refine VL.mt (decide (z9_1.blob < 1)) [0, 1, 5, 17] (fun _ _ h => h) hS rfl
    · -- from there
      clear hS
      rintro x17_4 hS
      show VC _ _ _ _ _ [(0, l_0.val), (1, i64 i_1), (5, ptr b5_2 0), (17, .bool x17_4)] (Mo.and Mo.tt _) (Ow.star (Blk b5_2 [str z9_1.path, i64 z9_1.mode, i64 z9_1.blob] 29) (Ow.emp))
      refine VC.cond rfl (fun h17 => ?_) (fun h17 => ?_)
      ·
        replace hS := it_t h17 hS
        refine VC.seq ?_
        refine VC.region ?_
        refine VL.q (q_assign rfl) (by decide) ?_
        refine VL.to (fun _ _ h => h) ?_
        cases hS
        exact VC.ret (fin1 (.inr rfl) rfl rfl () rfl trivial (fun _ _ => trivial) (fun _ _ => trivial))
      ·
        replace hS := it_b h17 hS
        refine VC.cutJ (S := Bool) (fun (x27_7 : Bool) => x27_7) (fun (x27_7 : Bool) => [(0, l_0.val), (1, i64 i_1), (5, ptr b5_2 0), (27, .bool x27_7)]) (fun (x27_7 : Bool) => Mo.tt) (fun (x27_7 : Bool) => Ow.star (Blk b5_2 [str z9_1.path, i64 z9_1.mode, i64 z9_1.blob] 29) (Ow.emp)) hS ?_ ?_
        · -- up to where ways meet
          clear hS
          intro k8 hS
          refine VC.draw ((List.range 15).map fun k => (k, true)) mixed (by kernel_rfl) (by kernel_rfl) (by kernel_rfl) ?_
          refine VD.q rfl (q_move rfl) (by decide) ?_
          refine VD.q rfl (q_gtr rfl rfl) (by decide) ?_
          refine VD.q rfl (q_move rfl) (by decide) ?_
          refine VD.split_dec 30 rfl (fun h30 => ?_) (fun h30 => ?_)
          ·
            replace hS := it_t h30 hS
            refine VD.gy rfl rfl rfl (q_move rfl) (by decide) ?_
            refine VD.gy rfl rfl rfl (q_move rfl) (by decide) ?_
            obtain ⟨b33, hS⟩ := gd_s hS
            refine VD.gy rfl rfl rfl (q_sub rfl rfl b33) (by decide) ?_
            obtain ⟨z34_9, nz34_9, hz34_9, hS⟩ := at_s hS
            refine VD.gy rfl rfl rfl (q_ixm (s := l_0) Tryz.underlying24 gsz29 rfl rfl nz34_9 (lt_of_get nz34_9 hz34_9)) (by decide) ?_
            refine VD.gy rfl rfl rfl (q_field gfa29_0 rfl) (by decide) ?_
            refine VD.gy rfl rfl rfl (q_elf (s := l_0) gone9 rfl hz34_9 rfl) (by decide) ?_
            refine VD.gy rfl rfl rfl (q_field gfa29_0 rfl) (by decide) ?_
            refine VD.gy rfl rfl rfl (q_fe gone9 rfl rfl) (by decide) ?_
            obtain ⟨y39_10, ey39_10, hS⟩ := bd_s hS
            refine VD.gy rfl rfl rfl (q_call (path_Compare_ct z34_9.path z9_1.path ey39_10) rfl (fun _ _ => rfl)) (by decide) ?_
            refine VD.gy rfl rfl rfl (q_geq rfl rfl) (by decide) ?_
            refine VD.q rfl (q_pick_t rfl rfl) (by decide) ?_
            refine VD.q rfl (q_assign rfl) (by decide) ?_
            refine VD.mt (decide (0 ≤ y39_10)) [0, 1, 5, 27] (fun _ _ h => h) hS rfl
          ·
            replace hS := it_f h30 hS
            refine VD.gn rfl rfl rfl rfl (by decide) ?_
            refine VD.gn rfl rfl rfl rfl (by decide) ?_
            refine VD.gn rfl rfl rfl rfl (by decide) ?_
            refine VD.gn rfl rfl rfl rfl (by decide) ?_
            refine VD.gn rfl rfl rfl rfl (by decide) ?_
            refine VD.gn rfl rfl rfl rfl (by decide) ?_
            refine VD.gn rfl rfl rfl rfl (by decide) ?_
            refine VD.gn rfl rfl rfl rfl (by decide) ?_
            refine VD.gn rfl rfl rfl rfl (by decide) ?_
            refine VD.gn rfl rfl rfl rfl (by decide) ?_
            refine VD.q rfl (q_pick_f rfl rfl) (by decide) ?_
            refine VD.q rfl (q_assign rfl) (by decide) ?_
            refine VD.mt false [0, 1, 5, 27] (fun _ _ h => h) hS rfl
        · -- from there
          clear hS
          rintro x27_7 hS
          show VC _ _ _ _ _ [(0, l_0.val), (1, i64 i_1), (5, ptr b5_2 0), (27, .bool x27_7)] (Mo.and Mo.tt _) (Ow.star (Blk b5_2 [str z9_1.path, i64 z9_1.mode, i64 z9_1.blob] 29) (Ow.emp))
          refine VC.cond rfl (fun h27 => ?_) (fun h27 => ?_)
          ·
            replace hS := it_t h27 hS
            refine VC.seq ?_
            refine VC.region ?_
            refine VL.q (q_assign rfl) (by decide) ?_
            refine VL.to (fun _ _ h => h) ?_
            cases hS
            exact VC.ret (fin1 (.inr rfl) rfl rfl () rfl trivial (fun _ _ => trivial) (fun _ _ => trivial))
          ·
            replace hS := it_b h27 hS
            refine VC.seq ?_
            refine VC.region ?_
            refine VL.q (q_move rfl) (by decide) ?_
            refine VL.q (q_move rfl) (by decide) ?_
            obtain ⟨b45, hS⟩ := gd_s hS
            refine VL.sto Tryz.underlying24 gsz29 rfl rfl b45.1 (b45.2) (by decide) fun s45_11 hs45_11 => ?_
            replace hS := lt_to hs45_11 hS
            refine VL.q (q_mkfn rfl) (by decide) ?_
            obtain ⟨y47_13, ey47_13, hS⟩ := bd_s hS
            refine VL.q (q_callR (slices_ContainsFunc_object_Item_object_Item_ct s45_11 b5_2 z9_1 ey47_13) rfl (fun _ _ => rfl)) (by decide) ?_
            refine VL.q (q_assign rfl) (by decide) ?_
            refine VL.to (fun _ _ h => h) ?_
            refine VC.cond rfl (fun h42 => ?_) (fun h42 => ?_)
            ·
              replace hS := it_t h42 hS
              refine VC.seq ?_
              refine VC.region ?_
              refine VL.q (q_assign rfl) (by decide) ?_
              refine VL.to (fun _ _ h => h) ?_
              refine VC.keep [4] rfl ?_
              cases hS
              exact VC.ret (fin1 (.inr rfl) rfl rfl () rfl trivial (fun _ _ => trivial) (fun _ _ => trivial))
            ·
              replace hS := it_b h42 hS
              refine VC.skip_to (fun _ _ h => h) ?_
              refine VC.seq ?_
              refine VC.region ?_
              refine VL.q (q_assign rfl) (by decide) ?_
              refine VL.to (fun _ _ h => h) ?_
              refine VC.keep [4] rfl ?_
              cases hS
              exact VC.ret (fin1 (.inr rfl) rfl rfl () rfl trivial (fun _ _ => trivial) (fun _ _ => trivial))

set_option maxHeartbeats 4000000 in
set_option maxRecDepth 100000 in
theorem object_tree_ct (o_0 : ObjectObject) {r : Err} (hS : Sh.object_tree o_0.pl = some r) :
    Ct Tryz.prog 123 [.agg #[i64 o_0.kind, o_0.data.val, o_0.items.val, i64 o_0.tree, o_0.parents.val, i64 o_0.time, str o_0.text]] (o_0.data.ok.and (o_0.items.ok.and o_0.parents.ok)) (Ow.emp) (X := Er) (fun x => x.val) (fun x => r = x.pl) (fun x => x.ok) (fun x => Ow.emp) := by
  refine Ct.of Tryz.func123 rfl (by kernel_rfl) Tryz.ntmps123 (by simp) fun c => ?_
  unfold Sh.object_tree at hS
  refine VC.seq ?_
  refine VC.region ?_
  refine VL.box (cs := [i64 o_0.kind, o_0.data.val, o_0.items.val, i64 o_0.tree, o_0.parents.val, i64 o_0.time, str o_0.text]) rfl rfl (by decide) fun b1_1 => ?_
  refine VL.q (q_assign rfl) (by decide) ?_
  refine VL.to (fun _ _ h => h) ?_
  refine VC.seq ?_
  refine VC.seq ?_
  refine VC.region ?_
  refine VL.q (q_field gfa27_2 rfl) (by decide) ?_
  refine VL.q (q_fe gone24 rfl rfl) (by decide) ?_
  refine VL.q (q_ln (s := o_0.items) Tryz.underlying24 rfl) (by decide) ?_
  refine VL.q (q_gtr rfl rfl) (by decide) ?_
  refine VL.to (fun _ _ h => h) ?_
  refine VC.cond_dec rfl (fun h8 => ?_) (fun h8 => ?_)
  ·
    replace hS := it_t h8 hS
    refine VC.seq ?_
    refine VC.region ?_
    refine VL.q (q_mkif Tryz.underlying99 (fun _ h => by cases h) rfl) (by decide) ?_
    refine VL.q (q_assign rfl) (by decide) ?_
    refine VL.to (fun _ _ h => h) ?_
    cases hS
    exact VC.ret (fin1 (.inr rfl) rfl rfl (Er.no 4) rfl rfl (by (try dsimp only); exact InM.out) (fun _ _ => trivial))
  ·
    replace hS := it_f h8 hS
    refine VC.skip_to (fun _ _ h => h) ?_
    refine VC.seq ?_
    refine VC.seq ?_
    refine VC.region ?_
    refine VL.q (q_field gfa27_2 rfl) (by decide) ?_
    refine VL.q (q_fe gone24 rfl rfl) (by decide) ?_
    refine VL.q (q_ln (s := o_0.items) Tryz.underlying24 rfl) (by decide) ?_
    refine VL.q (q_move rfl) (by decide) ?_
    refine VL.to (fun _ _ h => h) ?_
    refine VC.keep [1, 12, 13] rfl ?_
    refine VC.block ?_
    refine VC.iter (S := Int) (fun (x13_2 : Int) => x13_2) (fun (x13_2 : Int) => [(1, ptr b1_1 0), (12, i64 (o_0.items.l.length : Int)), (13, i64 x13_2)]) (fun (x13_2 : Int) => Mo.tt) (fun (x13_2 : Int) => Ow.star (Blk b1_1 [i64 o_0.kind, o_0.data.val, o_0.items.val, i64 o_0.tree, o_0.parents.val, i64 o_0.time, str o_0.text] 27) (Ow.emp)) 0 [1, 12, 13] hS rfl ?_
    clear hS
    rintro x13_2 m1 y1 hS hK1
    show VC _ _ _ _ _ [(1, ptr b1_1 0), (12, i64 (o_0.items.l.length : Int)), (13, i64 x13_2)] (Mo.and Mo.tt _) (Ow.star (Blk b1_1 [i64 o_0.kind, o_0.data.val, o_0.items.val, i64 o_0.tree, o_0.parents.val, i64 o_0.time, str o_0.text] 27) (Ow.emp))
    refine VC.seq ?_
    refine VC.region ?_
    refine VL.q (q_lss rfl rfl) (by decide) ?_
    refine VL.to (fun _ _ h => h) ?_
    refine VC.seq ?_
    refine VC.cond_dec rfl (fun h14 => ?_) (fun h14 => ?_)
    ·
      replace hS := it_t h14 hS
      refine VC.skip_to (fun _ _ h => h) ?_
      refine VC.seq ?_
      refine VC.block ?_
      refine VC.seq ?_
      refine VC.region ?_
      refine VL.q (q_move rfl) (by decide) ?_
      refine VL.q (q_assign rfl) (by decide) ?_
      refine VL.to (fun _ _ h => h) ?_
      refine VC.seq ?_
      refine VC.region ?_
      refine VL.q (q_field gfa27_2 rfl) (by decide) ?_
      refine VL.q (q_fe gone24 rfl rfl) (by decide) ?_
      refine VL.q (q_move rfl) (by decide) ?_
      obtain ⟨y19_3, ey19_3, hS⟩ := bd_s hS
      refine VL.q (q_call (object_item_ct o_0.items x13_2 ey19_3) rfl (fun _ _ => rfl)) (by decide) ?_
      refine VL.q (q_assign rfl) (by decide) ?_
      refine VL.to (fun _ _ h => h) ?_
      refine VC.seq ?_
      refine VC.region ?_
      refine VL.q (q_move rfl) (by decide) ?_
      refine VL.q (q_neq rfl rfl) (by decide) ?_
      refine VL.to (fun _ _ h => h) ?_
      refine VC.keep [1, 12, 13, 3, 4, 21] rfl ?_
      refine VC.cond_ndec rfl (fun h21 => ?_) (fun h21 => ?_)
      ·
        replace hS := it_f h21 hS
        refine VC.seq ?_
        refine VC.region ?_
        refine VL.q (q_move rfl) (by decide) ?_
        refine VL.q (q_move rfl) (by decide) ?_
        refine VL.q (q_mkif Tryz.underlying99 (fun _ h => by cases h) rfl) (by decide) ?_
        refine VL.q (q_build (vs := [(0, str [105, 116, 101, 109]), (1, i64 x13_2), (2, (Er.no y19_3).val)]) (cs := #[str [105, 116, 101, 109], i64 x13_2, (Er.no y19_3).val]) rfl (by kernel_rfl)) (by decide) ?_
        refine VL.box (cs := [str [105, 116, 101, 109], i64 x13_2, (Er.no y19_3).val]) rfl rfl (by decide) fun b26_4 => ?_
        refine VL.shutB b26_4 ?_
        refine VL.q (q_mkif Tryz.underlying100 (fun _ h => by cases h) rfl) (by decide) ?_
        refine VL.q (q_assign rfl) (by decide) ?_
        refine VL.to (fun _ _ h => h) ?_
        refine VC.keep [2] rfl ?_
        replace hS := up2 hS hK1
        cases hS
        exact VC.ret (fin1 (.inr rfl) rfl rfl (Er.fault b26_4 [105, 116, 101, 109] x13_2 (Er.no y19_3)) rfl rfl (by (try dsimp only); exact InM.out) (fun _ _ => trivial))
      ·
        replace hS := it_t h21 hS
        refine VC.skip_to (fun _ _ h => h) ?_
        refine VC.region ?_
        obtain ⟨b28, hS⟩ := gd_s hS
        refine VL.q (q_add rfl rfl b28) (by decide) ?_
        refine VL.q (q_move rfl) (by decide) ?_
        refine VL.rnd (x13_2 + 1) [1, 12, 13] (fun _ _ h => h) (go2 hS hK1) rfl
    ·
      replace hS := it_f h14 hS
      replace hS := up2 hS hK1
      refine VC.exit_to (fun _ _ h => h) ?_
      refine VC.seq ?_
      refine VC.region ?_
      refine VL.q (q_assign rfl) (by decide) ?_
      refine VL.to (fun _ _ h => h) ?_
      cases hS
      exact VC.ret (fin1 (.inr rfl) rfl rfl .nil rfl rfl (by (try dsimp only); exact InM.out) (fun _ _ => trivial))

set_option maxHeartbeats 4000000 in
set_option maxRecDepth 100000 in
theorem object_commit_1_ct (n_0 : Int) {r : Bool} (hS : Sh.object_commit_1 n_0 = some r) :
    Ct Tryz.prog 184 [i64 n_0] Mo.tt (Ow.emp) (X := Unit) (fun _ => .bool r) (fun _ => True) (fun _ => Mo.tt) (fun _ => Ow.emp) := by
  refine Ct.of Tryz.func184 rfl (by kernel_rfl) Tryz.ntmps184 (by simp) fun c => ?_
  unfold Sh.object_commit_1 at hS
  refine VC.seq ?_
  refine VC.region ?_
  refine VL.q (q_assign rfl) (by decide) ?_
  refine VL.to (fun _ _ h => h) ?_
  refine VC.seq ?_
  refine VC.region ?_
  refine VL.q (q_move rfl) (by decide) ?_
  refine VL.q (q_lss rfl rfl) (by decide) ?_
  refine VL.q (q_assign rfl) (by decide) ?_
  refine VL.to (fun _ _ h => h) ?_
  cases hS
  exact VC.ret (fin1 (.inr rfl) rfl rfl () rfl trivial (fun _ _ => trivial) (fun _ _ => trivial))

set_option maxHeartbeats 4000000 in
set_option maxRecDepth 100000 in
theorem slices_IndexFunc_int_int_ct (s_0 : Sv Int) {r : Int} (hS : Sh.slices_IndexFunc_int_int s_0.l = some r) :
    Ct Tryz.prog 231 [s_0.val, .func (.func 184) #[] #[]] s_0.ok (Ow.emp) (X := Unit) (fun _ => i64 r) (fun _ => True) (fun _ => Mo.tt) (fun _ => Ow.emp) := by
  refine Ct.of Tryz.func231 rfl (by kernel_rfl) Tryz.ntmps231 (by simp) fun c => ?_
  unfold Sh.slices_IndexFunc_int_int at hS
  refine VC.seq ?_
  refine VC.region ?_
  refine VL.q (q_assign rfl) (by decide) ?_
  refine VL.to (fun _ _ h => h) ?_
  refine VC.seq ?_
  refine VC.seq ?_
  refine VC.region ?_
  refine VL.q (q_move rfl) (by decide) ?_
  refine VL.q (q_ln (s := s_0) Tryz.underlying25 rfl) (by decide) ?_
  refine VL.q (q_move rfl) (by decide) ?_
  refine VL.to (fun _ _ h => h) ?_
  refine VC.block ?_
  refine VC.iter (S := Int) (fun (x8_1 : Int) => x8_1) (fun (x8_1 : Int) => [(0, s_0.val), (1, .func (.func 184) #[] #[]), (7, i64 (s_0.l.length : Int)), (8, i64 x8_1)]) (fun (x8_1 : Int) => Mo.tt) (fun (x8_1 : Int) => Ow.emp) 0 [0, 1, 7, 8] hS rfl ?_
  clear hS
  rintro x8_1 m1 y1 hS hK1
  show VC _ _ _ _ _ [(0, s_0.val), (1, .func (.func 184) #[] #[]), (7, i64 (s_0.l.length : Int)), (8, i64 x8_1)] (Mo.and Mo.tt _) (Ow.emp)
  refine VC.seq ?_
  refine VC.region ?_
  refine VL.q (q_lss rfl rfl) (by decide) ?_
  refine VL.to (fun _ _ h => h) ?_
  refine VC.seq ?_
  refine VC.cond_dec rfl (fun h9 => ?_) (fun h9 => ?_)
  ·
    replace hS := it_t h9 hS
    refine VC.skip_to (fun _ _ h => h) ?_
    refine VC.seq ?_
    refine VC.block ?_
    refine VC.seq ?_
    refine VC.region ?_
    refine VL.q (q_move rfl) (by decide) ?_
    refine VL.q (q_assign rfl) (by decide) ?_
    refine VL.to (fun _ _ h => h) ?_
    refine VC.seq ?_
    refine VC.region ?_
    refine VL.q (q_move rfl) (by decide) ?_
    refine VL.q (q_move rfl) (by decide) ?_
    refine VL.q (q_move rfl) (by decide) ?_
    obtain ⟨z14_2, nz14_2, hz14_2, hS⟩ := at_s hS
    refine VL.q (q_ixm (s := s_0) Tryz.underlying25 gsz3 rfl rfl nz14_2 (lt_of_get nz14_2 hz14_2)) (by decide) ?_
    refine VL.q (q_el (s := s_0) gone3 rfl hz14_2 rfl) (by decide) ?_
    obtain ⟨y16_3, ey16_3, hS⟩ := bd_s hS
    refine VL.q (q_callV (object_commit_1_ct z14_2 ey16_3) rfl rfl (fun _ _ => rfl)) (by decide) ?_
    refine VL.to (fun _ _ h => h) ?_
    refine VC.keep [0, 1, 7, 8, 5, 16] rfl ?_
    refine VC.cond rfl (fun h16 => ?_) (fun h16 => ?_)
    ·
      replace hS := it_t h16 hS
      refine VC.seq ?_
      refine VC.region ?_
      refine VL.q (q_move rfl) (by decide) ?_
      refine VL.q (q_assign rfl) (by decide) ?_
      refine VL.to (fun _ _ h => h) ?_
      replace hS := up2 hS hK1
      cases hS
      exact VC.ret (fin1 (.inr rfl) rfl rfl () rfl trivial (fun _ _ => trivial) (fun _ _ => trivial))
    ·
      replace hS := it_b h16 hS
      refine VC.skip_to (fun _ _ h => h) ?_
      refine VC.region ?_
      obtain ⟨b18, hS⟩ := gd_s hS
      refine VL.q (q_add rfl rfl b18) (by decide) ?_
      refine VL.q (q_move rfl) (by decide) ?_
      refine VL.rnd (x8_1 + 1) [0, 1, 7, 8] (fun _ _ h => h) (go2 hS hK1) rfl
  ·
    replace hS := it_f h9 hS
    replace hS := up2 hS hK1
    refine VC.exit_to (fun _ _ h => h) ?_
    refine VC.seq ?_
    refine VC.region ?_
    refine VL.q (q_assign rfl) (by decide) ?_
    refine VL.to (fun _ _ h => h) ?_
    cases hS
    exact VC.ret (fin1 (.inr rfl) rfl rfl () rfl trivial (fun _ _ => trivial) (fun _ _ => trivial))

set_option maxHeartbeats 4000000 in
set_option maxRecDepth 100000 in
theorem slices_ContainsFunc_int_int_ct (s_0 : Sv Int) {r : Bool} (hS : Sh.slices_ContainsFunc_int_int s_0.l = some r) :
    Ct Tryz.prog 183 [s_0.val, .func (.func 184) #[] #[]] s_0.ok (Ow.emp) (X := Unit) (fun _ => .bool r) (fun _ => True) (fun _ => Mo.tt) (fun _ => Ow.emp) := by
  refine Ct.of Tryz.func183 rfl (by kernel_rfl) Tryz.ntmps183 (by simp) fun c => ?_
  unfold Sh.slices_ContainsFunc_int_int at hS
  refine VC.seq ?_
  refine VC.region ?_
  refine VL.q (q_assign rfl) (by decide) ?_
  refine VL.to (fun _ _ h => h) ?_
  refine VC.seq ?_
  refine VC.region ?_
  refine VL.q (q_move rfl) (by decide) ?_
  refine VL.q (q_move rfl) (by decide) ?_
  obtain ⟨y7_1, ey7_1, hS⟩ := bd_s hS
  refine VL.q (q_call (slices_IndexFunc_int_int_ct s_0 ey7_1) rfl (fun _ _ => rfl)) (by decide) ?_
  refine VL.q (q_geq rfl rfl) (by decide) ?_
  refine VL.q (q_assign rfl) (by decide) ?_
  refine VL.to (fun _ _ h => h) ?_
  cases hS
  exact VC.ret (fin1 (.inr rfl) rfl rfl () rfl trivial (fun _ _ => trivial) (fun _ _ => trivial))

set_option maxHeartbeats 4000000 in
set_option maxRecDepth 100000 in
theorem object_commit_ct (o_0 : ObjectObject) {r : Err} (hS : Sh.object_commit o_0.pl = some r) :
    Ct Tryz.prog 124 [.agg #[i64 o_0.kind, o_0.data.val, o_0.items.val, i64 o_0.tree, o_0.parents.val, i64 o_0.time, str o_0.text]] (o_0.data.ok.and (o_0.items.ok.and o_0.parents.ok)) (Ow.emp) (X := Er) (fun x => x.val) (fun x => r = x.pl) (fun x => x.ok) (fun x => Ow.emp) := by
  refine Ct.of Tryz.func124 rfl (by kernel_rfl) Tryz.ntmps124 (by simp) fun c => ?_
  unfold Sh.object_commit at hS
  refine VC.seq ?_
  refine VC.region ?_
  refine VL.box (cs := [i64 o_0.kind, o_0.data.val, o_0.items.val, i64 o_0.tree, o_0.parents.val, i64 o_0.time, str o_0.text]) rfl rfl (by decide) fun b1_1 => ?_
  refine VL.q (q_assign rfl) (by decide) ?_
  refine VL.to (fun _ _ h => h) ?_
  refine VC.seq ?_
  refine VC.region ?_
  refine VL.q (q_field gfa27_4 rfl) (by decide) ?_
  refine VL.q (q_fe gone25 rfl rfl) (by decide) ?_
  refine VL.q (q_assign rfl) (by decide) ?_
  refine VL.to (fun _ _ h => h) ?_
  refine VC.seq ?_
  refine VC.block ?_
  refine VC.cutJ (S := Bool) (fun (x6_2 : Bool) => x6_2) (fun (x6_2 : Bool) => [(1, ptr b1_1 0), (3, o_0.parents.val), (6, .bool x6_2)]) (fun (x6_2 : Bool) => Mo.tt) (fun (x6_2 : Bool) => Ow.star (Blk b1_1 [i64 o_0.kind, o_0.data.val, o_0.items.val, i64 o_0.tree, o_0.parents.val, i64 o_0.time, str o_0.text] 27) (Ow.emp)) hS ?_ ?_
  · -- up to where ways meet
    clear hS
    intro k3 hS
    refine VC.region ?_
    refine VL.q (q_field gfa27_3 rfl) (by decide) ?_
    refine VL.q (q_fe gone3 rfl rfl) (by decide) ?_
    refine VL.q (q_lss rfl rfl) (by decide) ?_
    refine VL.q (q_move rfl) (by decide) ?_
    refine VL.split_dec 10 rfl (fun h10 => ?_) (fun h10 => ?_)
    ·
      replace hS := it_t h10 hS
      refine VL.gn rfl rfl rfl (by decide) ?_
      refine VL.gn rfl rfl rfl (by decide) ?_
      refine VL.gn rfl rfl rfl (by decide) ?_
      refine VL.q (q_pick_t rfl rfl) (by decide) ?_
      refine VL.q (q_move rfl) (by decide) ?_
      refine VL.gn rfl rfl rfl (by decide) ?_
      refine VL.gn rfl rfl rfl (by decide) ?_
      refine VL.q (q_pick_t rfl rfl) (by decide) ?_
      refine VL.q (q_move rfl) (by decide) ?_
      refine VL.gn rfl rfl rfl (by decide) ?_
      refine VL.gn rfl rfl rfl (by decide) ?_
      refine VL.gn rfl rfl rfl (by decide) ?_
      refine VL.q (q_pick_t rfl rfl) (by decide) ?_
      refine VL.q (q_assign rfl) (by decide) ?_
      refine VL.mt true [1, 3, 6] (fun _ _ h => h) hS rfl
    ·
      replace hS := it_f h10 hS
      refine VL.gy rfl rfl (q_move rfl) (by decide) ?_
      refine VL.gy rfl rfl (q_ln (s := o_0.parents) Tryz.underlying25 rfl) (by decide) ?_
      refine VL.gy rfl rfl (q_gtr rfl rfl) (by decide) ?_
      refine VL.q (q_pick_f rfl rfl) (by decide) ?_
      refine VL.q (q_move rfl) (by decide) ?_
      refine VL.split_dec 15 rfl (fun h15 => ?_) (fun h15 => ?_)
      ·
        replace hS := it_t h15 hS
        refine VL.gn rfl rfl rfl (by decide) ?_
        refine VL.gn rfl rfl rfl (by decide) ?_
        refine VL.q (q_pick_t rfl rfl) (by decide) ?_
        refine VL.q (q_move rfl) (by decide) ?_
        refine VL.gn rfl rfl rfl (by decide) ?_
        refine VL.gn rfl rfl rfl (by decide) ?_
        refine VL.gn rfl rfl rfl (by decide) ?_
        refine VL.q (q_pick_t rfl rfl) (by decide) ?_
        refine VL.q (q_assign rfl) (by decide) ?_
        refine VL.mt true [1, 3, 6] (fun _ _ h => h) hS rfl
      ·
        replace hS := it_f h15 hS
        refine VL.gy rfl rfl (q_move rfl) (by decide) ?_
        obtain ⟨y17_4, ey17_4, hS⟩ := bd_s hS
        refine VL.gy rfl rfl (q_call (slices_ContainsFunc_int_int_ct o_0.parents ey17_4) rfl (fun _ _ => rfl)) (by decide) ?_
        refine VL.q (q_pick_f rfl rfl) (by decide) ?_
        refine VL.q (q_move rfl) (by decide) ?_
        refine VL.split 19 rfl (fun h19 => ?_) (fun h19 => ?_)
        ·
          replace hS := it_t h19 hS
          refine VL.gn rfl rfl rfl (by decide) ?_
          refine VL.gn rfl rfl rfl (by decide) ?_
          refine VL.gn rfl rfl rfl (by decide) ?_
          refine VL.q (q_pick_t rfl rfl) (by decide) ?_
          refine VL.q (q_assign rfl) (by decide) ?_
          refine VL.mt true [1, 3, 6] (fun _ _ h => h) hS rfl
        ·
          replace hS := it_b h19 hS
          refine VL.gy rfl rfl (q_field gfa27_5 rfl) (by decide) ?_
          refine VL.gy rfl rfl (q_fe gone3 rfl rfl) (by decide) ?_
          refine VL.gy rfl rfl (q_lss rfl rfl) (by decide) ?_
          refine VL.q (q_pick_f rfl rfl) (by decide) ?_
          refine VL.q (q_assign rfl) (by decide) ?_
          refine VL.mt (decide (o_0.time < 0)) [1, 3, 6] (fun _ _ h => h) hS rfl
  · -- from there
    clear hS
    rintro x6_2 hS
    show VC _ _ _ _ _ [(1, ptr b1_1 0), (3, o_0.parents.val), (6, .bool x6_2)] (Mo.and Mo.tt _) (Ow.star (Blk b1_1 [i64 o_0.kind, o_0.data.val, o_0.items.val, i64 o_0.tree, o_0.parents.val, i64 o_0.time, str o_0.text] 27) (Ow.emp))
    refine VC.cond rfl (fun h6 => ?_) (fun h6 => ?_)
    ·
      replace hS := it_t h6 hS
      refine VC.seq ?_
      refine VC.region ?_
      refine VL.q (q_mkif Tryz.underlying99 (fun _ h => by cases h) rfl) (by decide) ?_
      refine VL.q (q_assign rfl) (by decide) ?_
      refine VL.to (fun _ _ h => h) ?_
      cases hS
      exact VC.ret (fin1 (.inr rfl) rfl rfl (Er.no 1) rfl rfl (by (try dsimp only); exact InM.out) (fun _ _ => trivial))
    ·
      replace hS := it_b h6 hS
      refine VC.cutJ (S := Bool) (fun (x25_5 : Bool) => x25_5) (fun (x25_5 : Bool) => [(1, ptr b1_1 0), (25, .bool x25_5)]) (fun (x25_5 : Bool) => Mo.tt) (fun (x25_5 : Bool) => Ow.star (Blk b1_1 [i64 o_0.kind, o_0.data.val, o_0.items.val, i64 o_0.tree, o_0.parents.val, i64 o_0.time, str o_0.text] 27) (Ow.emp)) hS ?_ ?_
      · -- up to where ways meet
        clear hS
        intro k6 hS
        refine VC.draw ((List.range 13).map fun k => (k, true)) mixed (by kernel_rfl) (by kernel_rfl) (by kernel_rfl) ?_
        refine VD.q rfl (q_move rfl) (by decide) ?_
        refine VD.q rfl (q_ln (s := o_0.parents) Tryz.underlying25 rfl) (by decide) ?_
        refine VD.q rfl (q_eql rfl rfl) (by decide) ?_
        refine VD.q rfl (q_move rfl) (by decide) ?_
        refine VD.split_dec 29 rfl (fun h29 => ?_) (fun h29 => ?_)
        ·
          replace hS := it_t h29 hS
          refine VD.gy rfl rfl rfl (q_move rfl) (by decide) ?_
          obtain ⟨z31_7, nz31_7, hz31_7, hS⟩ := at_s hS
          refine VD.gy rfl rfl rfl (q_ixm (s := o_0.parents) Tryz.underlying25 gsz3 rfl rfl nz31_7 (lt_of_get nz31_7 hz31_7)) (by decide) ?_
          refine VD.gy rfl rfl rfl (q_el (s := o_0.parents) gone3 rfl hz31_7 rfl) (by decide) ?_
          refine VD.gy rfl rfl rfl (q_move rfl) (by decide) ?_
          obtain ⟨z34_8, nz34_8, hz34_8, hS⟩ := at_s hS
          refine VD.gy rfl rfl rfl (q_ixm (s := o_0.parents) Tryz.underlying25 gsz3 rfl rfl nz34_8 (lt_of_get nz34_8 hz34_8)) (by decide) ?_
          refine VD.gy rfl rfl rfl (q_el (s := o_0.parents) gone3 rfl hz34_8 rfl) (by decide) ?_
          refine VD.gy rfl rfl rfl (q_eql rfl rfl) (by decide) ?_
          refine VD.q rfl (q_pick_t rfl rfl) (by decide) ?_
          refine VD.q rfl (q_assign rfl) (by decide) ?_
          refine VD.mt (decide (z31_7 = z34_8)) [1, 25] (fun _ _ h => h) hS rfl
        ·
          replace hS := it_f h29 hS
          refine VD.gn rfl rfl rfl rfl (by decide) ?_
          refine VD.gn rfl rfl rfl rfl (by decide) ?_
          refine VD.gn rfl rfl rfl rfl (by decide) ?_
          refine VD.gn rfl rfl rfl rfl (by decide) ?_
          refine VD.gn rfl rfl rfl rfl (by decide) ?_
          refine VD.gn rfl rfl rfl rfl (by decide) ?_
          refine VD.gn rfl rfl rfl rfl (by decide) ?_
          refine VD.q rfl (q_pick_f rfl rfl) (by decide) ?_
          refine VD.q rfl (q_assign rfl) (by decide) ?_
          refine VD.mt false [1, 25] (fun _ _ h => h) hS rfl
      · -- from there
        clear hS
        rintro x25_5 hS
        show VC _ _ _ _ _ [(1, ptr b1_1 0), (25, .bool x25_5)] (Mo.and Mo.tt _) (Ow.star (Blk b1_1 [i64 o_0.kind, o_0.data.val, o_0.items.val, i64 o_0.tree, o_0.parents.val, i64 o_0.time, str o_0.text] 27) (Ow.emp))
        refine VC.cond rfl (fun h25 => ?_) (fun h25 => ?_)
        ·
          replace hS := it_t h25 hS
          refine VC.seq ?_
          refine VC.region ?_
          refine VL.q (q_mkif Tryz.underlying99 (fun _ h => by cases h) rfl) (by decide) ?_
          refine VL.q (q_assign rfl) (by decide) ?_
          refine VL.to (fun _ _ h => h) ?_
          cases hS
          exact VC.ret (fin1 (.inr rfl) rfl rfl (Er.no 6) rfl rfl (by (try dsimp only); exact InM.out) (fun _ _ => trivial))
        ·
          replace hS := it_b h25 hS
          refine VC.seq ?_
          refine VC.region ?_
          refine VL.q (q_field gfa27_6 rfl) (by decide) ?_
          refine VL.q (q_fe gone9 rfl rfl) (by decide) ?_
          refine VL.q (q_slen Tryz.underlying9 rfl) (by decide) ?_
          refine VL.q (q_gtr rfl rfl) (by decide) ?_
          refine VL.q (q_assign rfl) (by decide) ?_
          refine VL.to (fun _ _ h => h) ?_
          refine VC.cond_dec rfl (fun h39 => ?_) (fun h39 => ?_)
          ·
            replace hS := it_t h39 hS
            refine VC.seq ?_
            refine VC.region ?_
            refine VL.q (q_mkif Tryz.underlying99 (fun _ h => by cases h) rfl) (by decide) ?_
            refine VL.q (q_assign rfl) (by decide) ?_
            refine VL.to (fun _ _ h => h) ?_
            cases hS
            exact VC.ret (fin1 (.inr rfl) rfl rfl (Er.no 4) rfl rfl (by (try dsimp only); exact InM.out) (fun _ _ => trivial))
          ·
            replace hS := it_f h39 hS
            refine VC.skip_to (fun _ _ h => h) ?_
            refine VC.seq ?_
            refine VC.region ?_
            refine VL.q (q_assign rfl) (by decide) ?_
            refine VL.to (fun _ _ h => h) ?_
            cases hS
            exact VC.ret (fin1 (.inr rfl) rfl rfl .nil rfl rfl (by (try dsimp only); exact InM.out) (fun _ _ => trivial))

set_option maxHeartbeats 4000000 in
set_option maxRecDepth 100000 in
theorem object_wrong_ct (o_0 : ObjectObject) {r : Err} (hS : Sh.object_wrong o_0.pl = some r) :
    Ct Tryz.prog 47 [.agg #[i64 o_0.kind, o_0.data.val, o_0.items.val, i64 o_0.tree, o_0.parents.val, i64 o_0.time, str o_0.text]] (o_0.data.ok.and (o_0.items.ok.and o_0.parents.ok)) (Ow.emp) (X := Er) (fun x => x.val) (fun x => r = x.pl) (fun x => x.ok) (fun x => Ow.emp) := by
  refine Ct.of Tryz.func47 rfl (by kernel_rfl) Tryz.ntmps47 (by simp) fun c => ?_
  unfold Sh.object_wrong at hS
  refine VC.seq ?_
  refine VC.region ?_
  refine VL.box (cs := [i64 o_0.kind, o_0.data.val, o_0.items.val, i64 o_0.tree, o_0.parents.val, i64 o_0.time, str o_0.text]) rfl rfl (by decide) fun b1_1 => ?_
  refine VL.q (q_assign rfl) (by decide) ?_
  refine VL.to (fun _ _ h => h) ?_
  refine VC.seq ?_
  refine VC.seq ?_
  refine VC.region ?_
  refine VL.q (q_field gfa27_0 rfl) (by decide) ?_
  refine VL.q (q_fe gone3 rfl rfl) (by decide) ?_
  refine VL.to (fun _ _ h => h) ?_
  refine VC.block ?_
  refine VC.seq ?_
  refine VC.region ?_
  refine VL.q (q_eql rfl rfl) (by decide) ?_
  refine VL.q (q_assign rfl) (by decide) ?_
  refine VL.to (fun _ _ h => h) ?_
  refine VC.cond_dec rfl (fun h5 => ?_) (fun h5 => ?_)
  ·
    replace hS := it_t h5 hS
    refine VC.seq ?_
    refine VC.seq ?_
    refine VC.region ?_
    refine VL.q (q_field gfa27_1 rfl) (by decide) ?_
    refine VL.q (q_fe gone23 rfl rfl) (by decide) ?_
    refine VL.q (q_ln (s := o_0.data) Tryz.underlying23 rfl) (by decide) ?_
    refine VL.q (q_gtr rfl rfl) (by decide) ?_
    refine VL.to (fun _ _ h => h) ?_
    refine VC.keep [10] rfl ?_
    refine VC.cond_dec rfl (fun h10 => ?_) (fun h10 => ?_)
    ·
      replace hS := it_t h10 hS
      refine VC.seq ?_
      refine VC.region ?_
      refine VL.q (q_mkif Tryz.underlying99 (fun _ h => by cases h) rfl) (by decide) ?_
      refine VL.q (q_assign rfl) (by decide) ?_
      refine VL.to (fun _ _ h => h) ?_
      cases hS
      exact VC.ret (fin1 (.inr rfl) rfl rfl (Er.no 4) rfl rfl (by (try dsimp only); exact InM.out) (fun _ _ => trivial))
    ·
      replace hS := it_f h10 hS
      refine VC.skip_to (fun _ _ h => h) ?_
      refine VC.seq ?_
      refine VC.region ?_
      refine VL.q (q_assign rfl) (by decide) ?_
      refine VL.to (fun _ _ h => h) ?_
      cases hS
      exact VC.ret (fin1 (.inr rfl) rfl rfl .nil rfl rfl (by (try dsimp only); exact InM.out) (fun _ _ => trivial))
  ·
    replace hS := it_f h5 hS
    refine VC.seq ?_
    refine VC.region ?_
    refine VL.q (q_eql rfl rfl) (by decide) ?_
    refine VL.q (q_assign rfl) (by decide) ?_
    refine VL.to (fun _ _ h => h) ?_
    refine VC.cond_dec rfl (fun h12 => ?_) (fun h12 => ?_)
    ·
      replace hS := it_t h12 hS
      refine VC.seq ?_
      refine VC.region ?_
      refine VL.q (q_fes gagg27 rfl rfl) (by decide) ?_
      obtain ⟨y15_2, ey15_2, hS⟩ := bd_s hS
      refine VL.callF (object_tree_ct o_0 ey15_2) rfl (by decide) ?_
      rintro q15_2_0 rfl
      try dsimp only
      refine VL.q (q_assign rfl) (by decide) ?_
      refine VL.to (fun _ _ h => h) ?_
      refine VC.keep [2] rfl ?_
      cases hS
      exact VC.ret (fin1 (.inr rfl) rfl rfl q15_2_0 rfl rfl (by (try dsimp only); exact InM.out) (fun _ _ => trivial))
    ·
      replace hS := it_f h12 hS
      refine VC.seq ?_
      refine VC.region ?_
      refine VL.q (q_eql rfl rfl) (by decide) ?_
      refine VL.q (q_assign rfl) (by decide) ?_
      refine VL.to (fun _ _ h => h) ?_
      refine VC.keep [1, 16] rfl ?_
      refine VC.cond_dec rfl (fun h16 => ?_) (fun h16 => ?_)
      ·
        replace hS := it_t h16 hS
        refine VC.seq ?_
        refine VC.region ?_
        refine VL.q (q_fes gagg27 rfl rfl) (by decide) ?_
        obtain ⟨y19_3, ey19_3, hS⟩ := bd_s hS
        refine VL.callF (object_commit_ct o_0 ey19_3) rfl (by decide) ?_
        rintro q19_3_0 rfl
        try dsimp only
        refine VL.q (q_assign rfl) (by decide) ?_
        refine VL.to (fun _ _ h => h) ?_
        cases hS
        exact VC.ret (fin1 (.inr rfl) rfl rfl q19_3_0 rfl rfl (by (try dsimp only); exact InM.out) (fun _ _ => trivial))
      ·
        replace hS := it_f h16 hS
        refine VC.skip_to (fun _ _ h => h) ?_
        refine VC.seq ?_
        refine VC.region ?_
        refine VL.q (q_mkif Tryz.underlying99 (fun _ h => by cases h) rfl) (by decide) ?_
        refine VL.q (q_assign rfl) (by decide) ?_
        refine VL.to (fun _ _ h => h) ?_
        cases hS
        exact VC.ret (fin1 (.inr rfl) rfl rfl (Er.no 1) rfl rfl (by (try dsimp only); exact InM.out) (fun _ _ => trivial))

set_option maxHeartbeats 4000000 in
set_option maxRecDepth 100000 in
theorem object_fault_ct (kind_0 : Int) (err_1 : Er) {r : Err} (hS : Sh.object_fault kind_0 err_1.pl = some r) :
    Ct Tryz.prog 48 [i64 kind_0, err_1.val] err_1.ok (Ow.emp) (X := Er) (fun x => x.val) (fun x => r = x.pl) (fun x => x.ok) (fun x => Ow.emp) := by
  refine Ct.of Tryz.func48 rfl (by kernel_rfl) Tryz.ntmps48 (by simp) fun c => ?_
  unfold Sh.object_fault at hS
  refine VC.seq ?_
  refine VC.region ?_
  refine VL.q (q_assign rfl) (by decide) ?_
  refine VL.to (fun _ _ h => h) ?_
  refine VC.seq ?_
  refine VC.region ?_
  refine VL.q (q_move rfl) (by decide) ?_
  refine VL.q (q_max rfl) (by decide) ?_
  refine VL.q (q_min rfl) (by decide) ?_
  refine VL.q (q_move rfl) (by decide) ?_
  refine VL.q (q_build (vs := [(0, str [111, 98, 106, 101, 99, 116]), (1, i64 (min (max kind_0 0) 255)), (2, err_1.val)]) (cs := #[str [111, 98, 106, 101, 99, 116], i64 (min (max kind_0 0) 255), err_1.val]) rfl (by generalize err_1 = z0; cases z0 <;> kernel_rfl)) (by decide) ?_
  refine VL.box (cs := [str [111, 98, 106, 101, 99, 116], i64 (min (max kind_0 0) 255), err_1.val]) rfl rfl (by decide) fun b10_1 => ?_
  refine VL.shutB b10_1 ?_
  refine VL.q (q_mkif Tryz.underlying100 (fun _ h => by cases h) rfl) (by decide) ?_
  refine VL.q (q_assign rfl) (by decide) ?_
  refine VL.to (fun _ _ h => h) ?_
  cases hS
  exact VC.ret (fin1 (.inr rfl) rfl rfl (Er.fault b10_1 [111, 98, 106, 101, 99, 116] (min (max kind_0 0) 255) err_1) rfl rfl (by (try dsimp only); exact InM.out) (fun _ _ => trivial))

set_option maxHeartbeats 4000000 in
set_option maxRecDepth 100000 in
theorem object_Check_ct (o_0 : ObjectObject) {r : Err} (hS : Sh.object_Check o_0.pl = some r) :
    Ct Tryz.prog 11 [.agg #[i64 o_0.kind, o_0.data.val, o_0.items.val, i64 o_0.tree, o_0.parents.val, i64 o_0.time, str o_0.text]] (o_0.data.ok.and (o_0.items.ok.and o_0.parents.ok)) (Ow.emp) (X := Er) (fun x => x.val) (fun x => r = x.pl) (fun x => x.ok) (fun x => Ow.emp) := by
  refine Ct.of Tryz.func11 rfl (by kernel_rfl) Tryz.ntmps11 (by simp) fun c => ?_
  unfold Sh.object_Check at hS
  refine VC.seq ?_
  refine VC.region ?_
  refine VL.box (cs := [i64 o_0.kind, o_0.data.val, o_0.items.val, i64 o_0.tree, o_0.parents.val, i64 o_0.time, str o_0.text]) rfl rfl (by decide) fun b1_1 => ?_
  refine VL.q (q_assign rfl) (by decide) ?_
  refine VL.to (fun _ _ h => h) ?_
  refine VC.seq ?_
  refine VC.seq ?_
  refine VC.region ?_
  refine VL.q (q_fes gagg27 rfl rfl) (by decide) ?_
  obtain ⟨y5_2, ey5_2, hS⟩ := bd_s hS
  refine VL.callF (object_wrong_ct o_0 ey5_2) rfl (by decide) ?_
  rintro q5_2_0 rfl
  try dsimp only
  refine VL.q (q_assign rfl) (by decide) ?_
  refine VL.to (fun _ _ h => h) ?_
  refine VC.seq ?_
  refine VC.region ?_
  refine VL.q (q_move rfl) (by decide) ?_
  refine VL.q (q_erne Tryz.underlying38 rfl) (by decide) ?_
  refine VL.to (fun _ _ h => h) ?_
  refine VC.cond_ndec rfl (fun h7 => ?_) (fun h7 => ?_)
  ·
    replace hS := it_f h7 hS
    refine VC.seq ?_
    refine VC.region ?_
    refine VL.q (q_field gfa27_0 rfl) (by decide) ?_
    refine VL.q (q_fe gone3 rfl rfl) (by decide) ?_
    refine VL.q (q_move rfl) (by decide) ?_
    obtain ⟨y11_3, ey11_3, hS⟩ := bd_s hS
    refine VL.callF (object_fault_ct o_0.kind q5_2_0 ey11_3) rfl (by decide) ?_
    rintro q11_3_0 rfl
    try dsimp only
    refine VL.q (q_assign rfl) (by decide) ?_
    refine VL.to (fun _ _ h => h) ?_
    refine VC.keep [2] rfl ?_
    cases hS
    exact VC.ret (fin1 (.inr rfl) rfl rfl q11_3_0 rfl rfl (by (try dsimp only); exact InM.out) (fun _ _ => trivial))
  ·
    replace hS := it_t h7 hS
    refine VC.skip_to (fun _ _ h => h) ?_
    refine VC.seq ?_
    refine VC.region ?_
    refine VL.q (q_assign rfl) (by decide) ?_
    refine VL.to (fun _ _ h => h) ?_
    cases hS
    exact VC.ret (fin1 (.inr rfl) rfl rfl .nil rfl rfl (by (try dsimp only); exact InM.out) (fun _ _ => trivial))

set_option maxHeartbeats 4000000 in
set_option maxRecDepth 100000 in
theorem codec_Enc_Int_ct (e_0_b : Nat) (e_0 : CodecEnc) (l_1 : Sv Int) {r : CodecEncP} (hS : Sh.codec_Enc_Int e_0.pl l_1.l = some r) :
    Ct Tryz.prog 104 [ptr e_0_b 0, l_1.val] l_1.ok (Ow.star (Sv.own e_0.b 5) (Blk e_0_b [e_0.b.val] 169)) (X := CodecEnc) (fun x => .tuple #[]) (fun x => r = x.pl) (fun x => Mo.tt) (fun x => Ow.star (Blk e_0_b [x.b.val] 169) (Sv.own x.b 5)) := by
  refine Ct.of Tryz.func104 rfl (by kernel_rfl) Tryz.ntmps104 (by simp) fun c => ?_
  unfold Sh.codec_Enc_Int at hS
  refine VC.seq ?_
  refine VC.region ?_
  refine VL.q (q_move rfl) (by decide) ?_
  refine VL.q (q_ln (s := l_1) Tryz.underlying25 rfl) (by decide) ?_
  refine VL.q (q_move rfl) (by decide) ?_
  refine VL.to (fun _ _ h => h) ?_
  refine VC.block ?_
  refine VC.iter (S := Int × Sv UInt8) (fun sg => (sg.1, sg.2.l)) (fun sg => [(0, ptr e_0_b 0), (7, l_1.val), (8, i64 (l_1.l.length : Int)), (9, i64 sg.1)]) (fun sg => Mo.tt) (fun sg => Ow.star (Blk e_0_b [sg.2.val] 169) (Ow.star (Sv.own sg.2 5) (Ow.emp))) (0, e_0.b) [0, 7, 8, 9] hS rfl ?_
  clear hS
  rintro ⟨x9_1, c0_2⟩ m1 y1 hS hK1
  show VC _ _ _ _ _ [(0, ptr e_0_b 0), (7, l_1.val), (8, i64 (l_1.l.length : Int)), (9, i64 x9_1)] (Mo.and Mo.tt _) (Ow.star (Blk e_0_b [c0_2.val] 169) (Ow.star (Sv.own c0_2 5) (Ow.emp)))
  refine VC.seq ?_
  refine VC.region ?_
  refine VL.q (q_lss rfl rfl) (by decide) ?_
  refine VL.to (fun _ _ h => h) ?_
  refine VC.seq ?_
  refine VC.cond_dec rfl (fun h10 => ?_) (fun h10 => ?_)
  ·
    replace hS := it_t h10 hS
    refine VC.skip_to (fun _ _ h => h) ?_
    refine VC.seq ?_
    refine VC.block ?_
    refine VC.seq ?_
    refine VC.region ?_
    obtain ⟨z11_3, nz11_3, hz11_3, hS⟩ := at_s hS
    refine VL.q (q_ixm (s := l_1) Tryz.underlying25 gsz3 rfl rfl nz11_3 (lt_of_get nz11_3 hz11_3)) (by decide) ?_
    refine VL.q (q_el (s := l_1) gone3 rfl hz11_3 rfl) (by decide) ?_
    refine VL.q (q_assign rfl) (by decide) ?_
    refine VL.to (fun _ _ h => h) ?_
    refine VC.seq ?_
    refine VC.region ?_
    refine VL.q (q_move rfl) (by decide) ?_
    refine VL.q (q_convW Tryz.underlying3 Tryz.underlying239 rfl) (by decide) ?_
    refine VL.q (q_shl rfl rfl (by decide)) (by decide) ?_
    refine VL.q (q_move rfl) (by decide) ?_
    refine VL.q (q_shr rfl rfl (by decide)) (by decide) ?_
    refine VL.q (q_convW Tryz.underlying2 Tryz.underlying239 rfl) (by decide) ?_
    refine VL.q (q_xor rfl rfl) (by decide) ?_
    refine VL.q (q_assign rfl) (by decide) ?_
    refine VL.to (fun _ _ h => h) ?_
    refine VC.keep [0, 7, 8, 9, 6] rfl ?_
    refine VC.seq ?_
    refine VC.block ?_
    refine VC.iter (S := Int × Sv UInt8) (fun sg => (sg.1, sg.2.l)) (fun sg => [(0, ptr e_0_b 0), (6, .int .u64 sg.1), (7, l_1.val), (8, i64 (l_1.l.length : Int)), (9, i64 x9_1)]) (fun sg => Mo.tt) (fun sg => Ow.star (Blk e_0_b [sg.2.val] 169) (Ow.star (Sv.own sg.2 5) (Ow.emp))) ((bXor .u64 (sHl .u64 (IntKind.wrap .u64 z11_3) 1) (IntKind.wrap .u64 (sHr .i64 z11_3 63))), c0_2) [0, 6, 7, 8, 9] hS rfl ?_
    clear hS
    rintro ⟨v6_4, c0_5⟩ m2 y2 hS hK2
    show VC _ _ _ _ _ [(0, ptr e_0_b 0), (6, .int .u64 v6_4), (7, l_1.val), (8, i64 (l_1.l.length : Int)), (9, i64 x9_1)] (Mo.and Mo.tt _) (Ow.star (Blk e_0_b [c0_5.val] 169) (Ow.star (Sv.own c0_5 5) (Ow.emp)))
    refine VC.seq ?_
    refine VC.seq ?_
    refine VC.region ?_
    refine VL.q (q_move rfl) (by decide) ?_
    refine VL.q (q_geq rfl rfl) (by decide) ?_
    refine VL.to (fun _ _ h => h) ?_
    refine VC.cond_dec rfl (fun h21 => ?_) (fun h21 => ?_)
    ·
      replace hS := it_t h21 hS
      refine VC.skip_to (fun _ _ h => h) ?_
      refine VC.block ?_
      refine VC.seq ?_
      refine VC.region ?_
      refine VL.q (q_move rfl) (by decide) ?_
      refine VL.q (q_move rfl) (by decide) ?_
      refine VL.q (q_nilCheck rfl) (by decide) ?_
      refine VL.q (q_field gfa169_0 rfl) (by decide) ?_
      refine VL.q (q_fe gone23 rfl rfl) (by decide) ?_
      refine VL.q (q_move rfl) (by decide) ?_
      refine VL.q (q_and rfl rfl) (by decide) ?_
      refine VL.q (q_convW Tryz.underlying239 Tryz.underlying5 rfl) (by decide) ?_
      refine VL.q (q_or rfl rfl) (by decide) ?_
      obtain ⟨b31_30, hS⟩ := gd_s hS
      obtain ⟨u31_7, eu31_7, hS⟩ := lt_s hS
      refine VL.setv 30 rfl (congrArg (Value.int .u8) (u8_z b31_30 eu31_7)) ?_
      refine VL.lit (α := UInt8) (xs := [.tmp 30]) (vs := [.int .u8 (u31_7.toNat : Int)]) [u31_7] Tryz.underlying23 glit5 (by decide) rfl rfl rfl rfl (by decide) (fun _ _ _ _ => trivial) (by decide) (fun s31_6 hs31_6 => ?_) (by decide)
      replace hS := lt_to hs31_6 hS
      obtain ⟨b32, hS⟩ := gd_s hS
      refine VL.app (s := c0_5) (r := s31_6) Tryz.underlying23 gapp5 (by decide) rfl Fo.out (ap1 b32) (ap2 b32 (by decide)) (by decide) (fun s32_9 hs32_9 => ?_)
      replace hS := lt_to hs32_9 hS
      refine VL.q (q_nilCheck rfl) (by decide) ?_
      refine VL.q (q_field gfa169_0 rfl) (by decide) ?_
      refine VL.store (vc := [s32_9.val]) (cs' := [s32_9.val]) rfl rfl rfl gsz23 rfl rfl (Nat.le_of_ble_eq_true rfl) rfl ?_
      refine VL.to (fun _ _ h => h) ?_
      refine VC.keep [0, 6, 7, 8, 9] rfl ?_
      refine VC.region ?_
      refine VL.q (q_move rfl) (by decide) ?_
      refine VL.q (q_shr rfl rfl (by decide)) (by decide) ?_
      refine VL.q (q_assign rfl) (by decide) ?_
      refine VL.rnd ((sHr .u64 v6_4 7), s32_9) [0, 6, 7, 8, 9] (fun _ _ h => h) (go2 hS hK2) rfl
    ·
      replace hS := it_f h21 hS
      replace hS := up2 hS hK2
      refine VC.exit_to (fun _ _ h => h) ?_
      refine VC.region ?_
      refine VL.q (q_move rfl) (by decide) ?_
      refine VL.q (q_move rfl) (by decide) ?_
      refine VL.q (q_nilCheck rfl) (by decide) ?_
      refine VL.q (q_field gfa169_0 rfl) (by decide) ?_
      refine VL.q (q_fe gone23 rfl rfl) (by decide) ?_
      refine VL.q (q_move rfl) (by decide) ?_
      refine VL.q (q_convW Tryz.underlying239 Tryz.underlying5 rfl) (by decide) ?_
      obtain ⟨b44_43, hS⟩ := gd_s hS
      obtain ⟨u44_12, eu44_12, hS⟩ := lt_s hS
      refine VL.setv 43 rfl (congrArg (Value.int .u8) (u8_z b44_43 eu44_12)) ?_
      refine VL.lit (α := UInt8) (xs := [.tmp 43]) (vs := [.int .u8 (u44_12.toNat : Int)]) [u44_12] Tryz.underlying23 glit5 (by decide) rfl rfl rfl rfl (by decide) (fun _ _ _ _ => trivial) (by decide) (fun s44_11 hs44_11 => ?_) (by decide)
      replace hS := lt_to hs44_11 hS
      obtain ⟨b45, hS⟩ := gd_s hS
      refine VL.app (s := c0_5) (r := s44_11) Tryz.underlying23 gapp5 (by decide) rfl Fo.out (ap1 b45) (ap2 b45 (by decide)) (by decide) (fun s45_14 hs45_14 => ?_)
      replace hS := lt_to hs45_14 hS
      refine VL.q (q_nilCheck rfl) (by decide) ?_
      refine VL.q (q_field gfa169_0 rfl) (by decide) ?_
      refine VL.store (vc := [s45_14.val]) (cs' := [s45_14.val]) rfl rfl rfl gsz23 rfl rfl (Nat.le_of_ble_eq_true rfl) rfl ?_
      refine VL.to (fun _ _ h => h) ?_
      refine VC.keep [0, 7, 8, 9] rfl ?_
      refine VC.region ?_
      obtain ⟨b48, hS⟩ := gd_s hS
      refine VL.q (q_add rfl rfl b48) (by decide) ?_
      refine VL.q (q_move rfl) (by decide) ?_
      refine VL.rnd ((x9_1 + 1), s45_14) [0, 7, 8, 9] (fun _ _ h => h) (go2 hS hK1) rfl
  ·
    replace hS := it_f h10 hS
    replace hS := up2 hS hK1
    cases hS
    exact VC.exit (fin0 (.inl rfl) rfl ⟨c0_2⟩ rfl rfl (by (try dsimp only); exact InM.out) (by (try dsimp only); exact EntO.out))

set_option maxHeartbeats 4000000 in
set_option maxRecDepth 100000 in
theorem codec_Enc_Text_ct (e_0_b : Nat) (e_0 : CodecEnc) (l_1 : Sv Str) {r : CodecEncP} (hS : Sh.codec_Enc_Text e_0.pl l_1.l = some r) :
    Ct Tryz.prog 105 [ptr e_0_b 0, l_1.val] l_1.ok (Ow.star (Sv.own e_0.b 5) (Blk e_0_b [e_0.b.val] 169)) (X := CodecEnc) (fun x => .tuple #[]) (fun x => r = x.pl) (fun x => Mo.tt) (fun x => Ow.star (Blk e_0_b [x.b.val] 169) (Sv.own x.b 5)) := by
  refine Ct.of Tryz.func105 rfl (by kernel_rfl) Tryz.ntmps105 (by simp) fun c => ?_
  unfold Sh.codec_Enc_Text at hS
  refine VC.seq ?_
  refine VC.region ?_
  refine VL.q (q_move rfl) (by decide) ?_
  refine VL.q (q_ln (s := l_1) Tryz.underlying42 rfl) (by decide) ?_
  refine VL.q (q_move rfl) (by decide) ?_
  refine VL.to (fun _ _ h => h) ?_
  refine VC.block ?_
  refine VC.iter (S := Int × Sv UInt8) (fun sg => (sg.1, sg.2.l)) (fun sg => [(0, ptr e_0_b 0), (6, l_1.val), (7, i64 (l_1.l.length : Int)), (8, i64 sg.1)]) (fun sg => Mo.tt) (fun sg => Ow.star (Blk e_0_b [sg.2.val] 169) (Ow.star (Sv.own sg.2 5) (Ow.emp))) (0, e_0.b) [0, 6, 7, 8] hS rfl ?_
  clear hS
  rintro ⟨x8_1, c0_2⟩ m1 y1 hS hK1
  show VC _ _ _ _ _ [(0, ptr e_0_b 0), (6, l_1.val), (7, i64 (l_1.l.length : Int)), (8, i64 x8_1)] (Mo.and Mo.tt _) (Ow.star (Blk e_0_b [c0_2.val] 169) (Ow.star (Sv.own c0_2 5) (Ow.emp)))
  refine VC.seq ?_
  refine VC.region ?_
  refine VL.q (q_lss rfl rfl) (by decide) ?_
  refine VL.to (fun _ _ h => h) ?_
  refine VC.seq ?_
  refine VC.cond_dec rfl (fun h9 => ?_) (fun h9 => ?_)
  ·
    replace hS := it_t h9 hS
    refine VC.skip_to (fun _ _ h => h) ?_
    refine VC.seq ?_
    refine VC.block ?_
    refine VC.seq ?_
    refine VC.region ?_
    obtain ⟨z10_3, nz10_3, hz10_3, hS⟩ := at_s hS
    refine VL.q (q_ixm (s := l_1) Tryz.underlying42 gsz9 rfl rfl nz10_3 (lt_of_get nz10_3 hz10_3)) (by decide) ?_
    refine VL.q (q_el (s := l_1) gone9 rfl hz10_3 rfl) (by decide) ?_
    refine VL.q (q_assign rfl) (by decide) ?_
    refine VL.to (fun _ _ h => h) ?_
    refine VC.seq ?_
    refine VC.region ?_
    refine VL.q (q_move rfl) (by decide) ?_
    refine VL.q (q_move rfl) (by decide) ?_
    refine VL.q (q_slen Tryz.underlying9 rfl) (by decide) ?_
    refine VL.lit (α := Int) (xs := [.tmp 14]) (vs := [i64 (z10_3.length : Int)]) [(z10_3.length : Int)] Tryz.underlying25 glit3 (by decide) rfl rfl rfl rfl (by decide) (fun _ _ _ _ => trivial) (by decide) (fun s15_4 hs15_4 => ?_) (by decide)
    replace hS := lt_to hs15_4 hS
    obtain ⟨y16_6, ey16_6, hS⟩ := bd_s hS
    refine VL.callO (codec_Enc_Int_ct e_0_b (⟨c0_2⟩ : CodecEnc) s15_4 ey16_6) rfl (by decide) ?_
    rintro q16_6_0 rfl
    try dsimp only
    refine VL.to (fun _ _ h => h) ?_
    refine VC.keep [0, 6, 7, 8, 5] rfl ?_
    refine VC.region ?_
    refine VL.q (q_move rfl) (by decide) ?_
    refine VL.q (q_move rfl) (by decide) ?_
    refine VL.q (q_nilCheck rfl) (by decide) ?_
    refine VL.q (q_field gfa169_0 rfl) (by decide) ?_
    refine VL.q (q_fe gone23 rfl rfl) (by decide) ?_
    refine VL.q (q_move rfl) (by decide) ?_
    obtain ⟨b23, hS⟩ := gd_s hS
    refine VL.appS (s := q16_6_0.b) (r := z10_3) Tryz.underlying23 Tryz.underlying9 gapb5 rfl Fo.out b23 (by decide) fun s23_7 hs23_7 _ => ?_
    replace hS := lt_to hs23_7 hS
    refine VL.q (q_nilCheck rfl) (by decide) ?_
    refine VL.q (q_field gfa169_0 rfl) (by decide) ?_
    refine VL.store (vc := [s23_7.val]) (cs' := [s23_7.val]) rfl rfl rfl gsz23 rfl rfl (Nat.le_of_ble_eq_true rfl) rfl ?_
    refine VL.to (fun _ _ h => h) ?_
    refine VC.keep [0, 6, 7, 8] rfl ?_
    refine VC.region ?_
    obtain ⟨b26, hS⟩ := gd_s hS
    refine VL.q (q_add rfl rfl b26) (by decide) ?_
    refine VL.q (q_move rfl) (by decide) ?_
    refine VL.rnd ((x8_1 + 1), s23_7) [0, 6, 7, 8] (fun _ _ h => h) (go2 hS hK1) rfl
  ·
    replace hS := it_f h9 hS
    replace hS := up2 hS hK1
    cases hS
    exact VC.exit (fin0 (.inl rfl) rfl ⟨c0_2⟩ rfl rfl (by (try dsimp only); exact InM.out) (by (try dsimp only); exact EntO.out))

set_option maxHeartbeats 4000000 in
set_option maxRecDepth 100000 in
theorem slices_Clone_byte_byte_ct (s_0 : Sv UInt8) {r : List UInt8} (hS : Sh.slices_Clone_byte_byte s_0.l = some r) :
    Ct Tryz.prog 152 [s_0.val] s_0.ok (Ow.emp) (X := Sv UInt8) (fun x => x.val) (fun x => r = x.l) (fun x => Mo.tt) (fun x => Sv.own x 5) := by
  refine Ct.of Tryz.func152 rfl (by kernel_rfl) Tryz.ntmps152 (by simp) fun c => ?_
  unfold Sh.slices_Clone_byte_byte at hS
  refine VC.seq ?_
  refine VC.region ?_
  refine VL.q (q_assign rfl) (by decide) ?_
  refine VL.to (fun _ _ h => h) ?_
  refine VC.seq ?_
  refine VC.seq ?_
  refine VC.region ?_
  refine VL.q (q_move rfl) (by decide) ?_
  refine VL.q (q_slnil (s := s_0) Tryz.underlying23 rfl) (by decide) ?_
  refine VL.to (fun _ _ h => h) ?_
  refine VC.slnil (s := s_0) rfl (fun h4 => ?_) ?_
  ·
    have hS : (some []) = some r := by
      simp [lt, gd, h4] at hS ⊢
      try exact hS
    refine VC.seq ?_
    refine VC.region ?_
    refine VL.q (q_assign rfl) (by decide) ?_
    refine VL.to (fun _ _ h => h) ?_
    refine VC.nilO (⟨none, 0, []⟩ : Sv UInt8) 5 ⟨rfl, rfl⟩ ?_
    cases hS
    exact VC.ret (fin1 (.inr rfl) rfl rfl ⟨none, 0, []⟩ rfl rfl (by (try dsimp only); exact InM.out) (by (try dsimp only); exact EntO.out))
  ·
    refine VC.skip_to (fun _ _ h => h) ?_
    refine VC.seq ?_
    refine VC.region ?_
    refine VL.lit0 (α := UInt8) Tryz.underlying23 ghas5 (by decide) (fun s5_1 hs5_1 hcs5_1 => ?_)
    refine VL.nilO s5_1 5 ⟨hcs5_1, hs5_1⟩ ?_
    replace hS := lt_to hs5_1 hS
    refine VL.q (q_move rfl) (by decide) ?_
    obtain ⟨b7, hS⟩ := gd_s hS
    refine VL.app (s := s5_1) (r := s_0) Tryz.underlying23 gapp5 (by decide) rfl Fo.out (ap1 b7) (ap2 b7 (by decide)) (by decide) (fun s7_3 hs7_3 => ?_)
    replace hS := lt_to hs7_3 hS
    refine VL.q (q_assign rfl) (by decide) ?_
    refine VL.to (fun _ _ h => h) ?_
    cases hS
    exact VC.ret (fin1 (.inr rfl) rfl rfl s7_3 rfl rfl (by (try dsimp only); exact InM.out) (by (try dsimp only); exact EntO.out))

set_option maxHeartbeats 4000000 in
set_option maxRecDepth 100000 in
theorem slices_Clip_byte_byte_ct (s_0 : Sv UInt8) {r : List UInt8} (hS : Sh.slices_Clip_byte_byte s_0.l = some r) :
    Ct Tryz.prog 151 [s_0.val] s_0.ok (Ow.emp) (X := Sv UInt8) (fun x => x.val) (fun x => r = x.l) (fun x => x.ok) (fun x => Ow.emp) := by
  refine Ct.of Tryz.func151 rfl (by kernel_rfl) Tryz.ntmps151 (by simp) fun c => ?_
  unfold Sh.slices_Clip_byte_byte at hS
  refine VC.seq ?_
  refine VC.region ?_
  refine VL.q (q_assign rfl) (by decide) ?_
  refine VL.to (fun _ _ h => h) ?_
  refine VC.seq ?_
  refine VC.region ?_
  refine VL.q (q_move rfl) (by decide) ?_
  refine VL.q (q_move rfl) (by decide) ?_
  refine VL.q (q_ln (s := s_0) Tryz.underlying23 rfl) (by decide) ?_
  refine VL.q (q_move rfl) (by decide) ?_
  refine VL.q (q_ln (s := s_0) Tryz.underlying23 rfl) (by decide) ?_
  obtain ⟨b8, hS⟩ := gd_s hS
  refine VL.stom Tryz.underlying23 gsz5 rfl rfl rfl b8.1 (b8.2) (by decide) fun s8_1 hs8_1 => ?_
  replace hS := lt_to hs8_1 hS
  refine VL.q (q_assign rfl) (by decide) ?_
  refine VL.to (fun _ _ h => h) ?_
  cases hS
  exact VC.ret (fin1 (.inr rfl) rfl rfl s8_1 rfl rfl (by (try dsimp only); exact InM.out) (fun _ _ => trivial))

set_option maxHeartbeats 4000000 in
set_option maxRecDepth 100000 in
theorem codec_Enc_Bytes_ct (e_0_b : Nat) (e_0 : CodecEnc) {r : List UInt8} (hS : Sh.codec_Enc_Bytes e_0.pl = some r) :
    Ct Tryz.prog 107 [ptr e_0_b 0] Mo.tt (Ow.star (Sv.own e_0.b 5) (Blk e_0_b [e_0.b.val] 169)) (X := Sv UInt8) (fun x => x.val) (fun x => r = x.l) (fun x => x.ok) (fun x => Ow.star (Blk e_0_b [e_0.b.val] 169) (Sv.own e_0.b 5)) := by
  refine Ct.of Tryz.func107 rfl (by kernel_rfl) Tryz.ntmps107 (by simp) fun c => ?_
  unfold Sh.codec_Enc_Bytes at hS
  refine VC.seq ?_
  refine VC.region ?_
  refine VL.q (q_assign rfl) (by decide) ?_
  refine VL.to (fun _ _ h => h) ?_
  refine VC.seq ?_
  refine VC.region ?_
  refine VL.q (q_move rfl) (by decide) ?_
  refine VL.q (q_nilCheck rfl) (by decide) ?_
  refine VL.q (q_field gfa169_0 rfl) (by decide) ?_
  refine VL.q (q_fe gone23 rfl rfl) (by decide) ?_
  obtain ⟨y7_1, ey7_1, hS⟩ := bd_s hS
  refine VL.callOR (slices_Clone_byte_byte_ct e_0.b ey7_1) rfl (by decide) ?_
  rintro q7_1_0 rfl
  try dsimp only
  refine VL.shut q7_1_0 5 (fun _ _ _ _ => trivial) ?_
  obtain ⟨y8_2, ey8_2, hS⟩ := bd_s hS
  refine VL.callF (slices_Clip_byte_byte_ct q7_1_0 ey8_2) rfl (by decide) ?_
  rintro q8_2_0 rfl
  try dsimp only
  refine VL.q (q_assign rfl) (by decide) ?_
  refine VL.to (fun _ _ h => h) ?_
  cases hS
  exact VC.ret (fin1 (.inr rfl) rfl rfl q8_2_0 rfl rfl (by (try dsimp only); exact InM.out) (by (try dsimp only); exact EntO.out))

set_option maxHeartbeats 4000000 in
set_option maxRecDepth 100000 in
theorem seal_Sum_ct (parts_0 : Sv (Sv UInt8)) {r : Int} (hS : Sh.seal_Sum (parts_0.l.map Sv.l) = some r) :
    Ct Tryz.prog 176 [parts_0.val] parts_0.ok (Ow.emp) (X := Unit) (fun _ => .int .u32 r) (fun _ => True) (fun _ => Mo.tt) (fun _ => Ow.emp) := by
  refine Ct.of Tryz.func176 rfl (by kernel_rfl) Tryz.ntmps176 (by simp) fun c => ?_
  unfold Sh.seal_Sum at hS
  refine VC.seq ?_
  refine VC.region ?_
  refine VL.q (q_assign rfl) (by decide) ?_
  refine VL.to (fun _ _ h => h) ?_
  refine VC.seq ?_
  refine VC.region ?_
  refine VL.q (q_assign rfl) (by decide) ?_
  refine VL.to (fun _ _ h => h) ?_
  refine VC.seq ?_
  refine VC.seq ?_
  refine VC.region ?_
  refine VL.q (q_move rfl) (by decide) ?_
  refine VL.q (q_lnm Sv.l (s := parts_0) Tryz.underlying63 rfl) (by decide) ?_
  refine VL.q (q_move rfl) (by decide) ?_
  refine VL.to (fun _ _ h => h) ?_
  refine VC.block ?_
  refine VC.iter (S := Int × Int) (fun sg => (sg.1, sg.2)) (fun sg => [(3, .int .u32 sg.1), (9, parts_0.val), (10, i64 ((parts_0.l.map Sv.l).length : Int)), (11, i64 sg.2)]) (fun sg => Mo.tt) (fun sg => Ow.emp) (4294967295, 0) [3, 9, 10, 11] hS rfl ?_
  clear hS
  rintro ⟨sum3_1, x11_2⟩ m1 y1 hS hK1
  show VC _ _ _ _ _ [(3, .int .u32 sum3_1), (9, parts_0.val), (10, i64 ((parts_0.l.map Sv.l).length : Int)), (11, i64 x11_2)] (Mo.and Mo.tt _) (Ow.emp)
  refine VC.seq ?_
  refine VC.region ?_
  refine VL.q (q_lss rfl rfl) (by decide) ?_
  refine VL.to (fun _ _ h => h) ?_
  refine VC.seq ?_
  refine VC.cond_dec rfl (fun h12 => ?_) (fun h12 => ?_)
  ·
    replace hS := it_t h12 hS
    refine VC.skip_to (fun _ _ h => h) ?_
    refine VC.seq ?_
    refine VC.block ?_
    refine VC.seq ?_
    refine VC.region ?_
    obtain ⟨z13_3, nz13_3, hz13_3, hS⟩ := atm_s hS
    refine VL.deep z13_3.ok hz13_3 (fun _ q => q) ?_
    refine VL.q (q_ixm (s := parts_0) Tryz.underlying63 gsz23 rfl rfl nz13_3 (lt_of_get nz13_3 hz13_3)) (by decide) ?_
    refine VL.q (q_el (s := parts_0) gone23 rfl hz13_3 rfl) (by decide) ?_
    refine VL.q (q_assign rfl) (by decide) ?_
    refine VL.to (fun _ _ h => h) ?_
    refine VC.seq ?_
    refine VC.region ?_
    refine VL.q (q_move rfl) (by decide) ?_
    refine VL.q (q_ln (s := z13_3) Tryz.underlying23 rfl) (by decide) ?_
    refine VL.q (q_move rfl) (by decide) ?_
    refine VL.to (fun _ _ h => h) ?_
    refine VC.block ?_
    refine VC.iter (S := Int × Int) (fun sg => (sg.1, sg.2)) (fun sg => [(3, .int .u32 sg.1), (9, parts_0.val), (10, i64 ((parts_0.l.map Sv.l).length : Int)), (11, i64 x11_2), (15, z13_3.val), (16, i64 (z13_3.l.length : Int)), (17, i64 sg.2)]) (fun sg => Mo.tt) (fun sg => Ow.emp) (sum3_1, 0) [3, 9, 10, 11, 15, 16, 17] hS rfl ?_
    clear hS
    rintro ⟨sum3_4, x17_5⟩ m2 y2 hS hK2
    show VC _ _ _ _ _ [(3, .int .u32 sum3_4), (9, parts_0.val), (10, i64 ((parts_0.l.map Sv.l).length : Int)), (11, i64 x11_2), (15, z13_3.val), (16, i64 (z13_3.l.length : Int)), (17, i64 x17_5)] (Mo.and Mo.tt _) (Ow.emp)
    refine VC.seq ?_
    refine VC.region ?_
    refine VL.q (q_lss rfl rfl) (by decide) ?_
    refine VL.to (fun _ _ h => h) ?_
    refine VC.seq ?_
    refine VC.cond_dec rfl (fun h18 => ?_) (fun h18 => ?_)
    ·
      replace hS := it_t h18 hS
      refine VC.skip_to (fun _ _ h => h) ?_
      refine VC.seq ?_
      refine VC.block ?_
      refine VC.seq ?_
      refine VC.region ?_
      obtain ⟨z19_6, nz19_6, hz19_6, hS⟩ := at_s hS
      refine VL.q (q_ixm (s := z13_3) Tryz.underlying23 gsz5 rfl rfl nz19_6 (lt_of_get nz19_6 hz19_6)) (by decide) ?_
      refine VL.q (q_el (s := z13_3) gone5 rfl hz19_6 rfl) (by decide) ?_
      refine VL.q (q_assign rfl) (by decide) ?_
      refine VL.to (fun _ _ h => h) ?_
      refine VC.seq ?_
      refine VC.region ?_
      refine VL.q (q_move rfl) (by decide) ?_
      refine VL.q (q_move rfl) (by decide) ?_
      refine VL.q (q_convW Tryz.underlying5 Tryz.underlying240 rfl) (by decide) ?_
      refine VL.q (q_xor rfl rfl) (by decide) ?_
      refine VL.q (q_assign rfl) (by decide) ?_
      refine VL.to (fun _ _ h => h) ?_
      refine VC.keep [3, 9, 10, 11, 15, 16, 17] rfl ?_
      refine VC.seq ?_
      refine VC.region ?_
      refine VL.q (q_move rfl) (by decide) ?_
      refine VL.to (fun _ _ h => h) ?_
      refine VC.block ?_
      refine VC.iter (S := Int × Int) (fun sg => (sg.1, sg.2)) (fun sg => [(3, .int .u32 sg.1), (9, parts_0.val), (10, i64 ((parts_0.l.map Sv.l).length : Int)), (11, i64 x11_2), (15, z13_3.val), (16, i64 (z13_3.l.length : Int)), (17, i64 x17_5), (25, i64 sg.2)]) (fun sg => Mo.tt) (fun sg => Ow.emp) ((bXor .u32 sum3_4 (IntKind.wrap .u32 (z19_6.toNat : Int))), 0) [3, 9, 10, 11, 15, 16, 17, 25] hS rfl ?_
      clear hS
      rintro ⟨sum3_7, x25_8⟩ m3 y3 hS hK3
      show VC _ _ _ _ _ [(3, .int .u32 sum3_7), (9, parts_0.val), (10, i64 ((parts_0.l.map Sv.l).length : Int)), (11, i64 x11_2), (15, z13_3.val), (16, i64 (z13_3.l.length : Int)), (17, i64 x17_5), (25, i64 x25_8)] (Mo.and Mo.tt _) (Ow.emp)
      refine VC.seq ?_
      refine VC.region ?_
      refine VL.q (q_lss rfl rfl) (by decide) ?_
      refine VL.to (fun _ _ h => h) ?_
      refine VC.seq ?_
      refine VC.cond_dec rfl (fun h26 => ?_) (fun h26 => ?_)
      ·
        replace hS := it_t h26 hS
        refine VC.skip_to (fun _ _ h => h) ?_
        refine VC.seq ?_
        refine VC.block ?_
        refine VC.seq ?_
        refine VC.region ?_
        refine VL.q (q_move rfl) (by decide) ?_
        refine VL.q (q_and rfl rfl) (by decide) ?_
        refine VL.q (q_assign rfl) (by decide) ?_
        refine VL.to (fun _ _ h => h) ?_
        refine VC.seq ?_
        refine VC.region ?_
        refine VL.q (q_move rfl) (by decide) ?_
        refine VL.q (q_shr rfl rfl (by decide)) (by decide) ?_
        refine VL.q (q_assign rfl) (by decide) ?_
        refine VL.to (fun _ _ h => h) ?_
        refine VC.seq ?_
        refine VC.region ?_
        refine VL.q (q_move rfl) (by decide) ?_
        refine VL.q (q_eql rfl rfl) (by decide) ?_
        refine VL.to (fun _ _ h => h) ?_
        refine VC.keep [3, 9, 10, 11, 15, 16, 17, 25, 32] rfl ?_
        refine VC.cond_dec rfl (fun h32 => ?_) (fun h32 => ?_)
        ·
          replace hS := it_t h32 hS
          refine VC.region ?_
          refine VL.q (q_move rfl) (by decide) ?_
          refine VL.q (q_xor rfl rfl) (by decide) ?_
          refine VL.q (q_assign rfl) (by decide) ?_
          refine VL.to (fun _ _ h => h) ?_
          refine VC.region ?_
          obtain ⟨b35, hS⟩ := gd_s hS
          refine VL.q (q_add rfl rfl b35) (by decide) ?_
          refine VL.q (q_move rfl) (by decide) ?_
          refine VL.rnd ((bXor .u32 (sHr .u32 sum3_7 1) 3988292384), (x25_8 + 1)) [3, 9, 10, 11, 15, 16, 17, 25] (fun _ _ h => h) (go2 hS hK3) rfl
        ·
          replace hS := it_f h32 hS
          refine VC.skip_to (fun _ _ h => h) ?_
          refine VC.region ?_
          obtain ⟨b35, hS⟩ := gd_s hS
          refine VL.q (q_add rfl rfl b35) (by decide) ?_
          refine VL.q (q_move rfl) (by decide) ?_
          refine VL.rnd ((sHr .u32 sum3_7 1), (x25_8 + 1)) [3, 9, 10, 11, 15, 16, 17, 25] (fun _ _ h => h) (go2 hS hK3) rfl
      ·
        replace hS := it_f h26 hS
        replace hS := up2 hS hK3
        refine VC.exit_to (fun _ _ h => h) ?_
        refine VC.region ?_
        obtain ⟨b36, hS⟩ := gd_s hS
        refine VL.q (q_add rfl rfl b36) (by decide) ?_
        refine VL.q (q_move rfl) (by decide) ?_
        refine VL.rnd (sum3_7, (x17_5 + 1)) [3, 9, 10, 11, 15, 16, 17] (fun _ _ h => h) (go2 hS hK2) rfl
    ·
      replace hS := it_f h18 hS
      replace hS := up2 hS hK2
      refine VC.exit_to (fun _ _ h => h) ?_
      refine VC.region ?_
      obtain ⟨b37, hS⟩ := gd_s hS
      refine VL.q (q_add rfl rfl b37) (by decide) ?_
      refine VL.q (q_move rfl) (by decide) ?_
      refine VL.rnd (sum3_4, (x11_2 + 1)) [3, 9, 10, 11] (fun _ _ h => h) (go2 hS hK1) rfl
  ·
    replace hS := it_f h12 hS
    replace hS := up2 hS hK1
    refine VC.exit_to (fun _ _ h => h) ?_
    refine VC.seq ?_
    refine VC.region ?_
    refine VL.q (q_move rfl) (by decide) ?_
    refine VL.q (q_inot rfl) (by decide) ?_
    refine VL.q (q_assign rfl) (by decide) ?_
    refine VL.to (fun _ _ h => h) ?_
    cases hS
    exact VC.ret (fin1 (.inr rfl) rfl rfl () rfl trivial (fun _ _ => trivial) (fun _ _ => trivial))

set_option maxHeartbeats 4000000 in
set_option maxRecDepth 100000 in
theorem slices_Grow_byte_byte_ct (n_1 : Int) {r : List UInt8} (hS : Sh.slices_Grow_byte_byte n_1 = some r) :
    Ct Tryz.prog 226 [.slice none 0 0, i64 n_1] Mo.tt (Ow.emp) (X := Sv UInt8) (fun x => x.val) (fun x => r = x.l) (fun x => Mo.tt) (fun x => Sv.own x 5) := by
  refine Ct.of Tryz.func226 rfl (by kernel_rfl) Tryz.ntmps226 (by simp) fun c => ?_
  unfold Sh.slices_Grow_byte_byte at hS
  refine VC.seq ?_
  refine VC.region ?_
  refine VL.q (q_assign rfl) (by decide) ?_
  refine VL.to (fun _ _ h => h) ?_
  refine VC.seq ?_
  refine VC.seq ?_
  refine VC.region ?_
  refine VL.q (q_move rfl) (by decide) ?_
  refine VL.q (q_lss rfl rfl) (by decide) ?_
  refine VL.to (fun _ _ h => h) ?_
  refine VC.cond_dec rfl (fun h6 => ?_) (fun h6 => ?_)
  ·
    replace hS := it_t h6 hS
    refine VC.region ?_
    refine VL.q (q_mkif Tryz.underlying9 (fun _ h => by cases h) rfl) (by decide) ?_
    cases hS
  ·
    replace hS := it_f h6 hS
    refine VC.skip_to (fun _ _ h => h) ?_
    refine VC.seq ?_
    refine VC.seq ?_
    refine VC.region ?_
    refine VL.q (q_move rfl) (by decide) ?_
    refine VL.q (q_move rfl) (by decide) ?_
    refine VL.q (q_cap0 Tryz.underlying23 rfl) (by decide) ?_
    refine VL.q (q_move rfl) (by decide) ?_
    refine VL.q (q_len Tryz.underlying23 rfl) (by decide) ?_
    obtain ⟨b13, hS⟩ := gd_s hS
    refine VL.q (q_sub rfl rfl b13) (by decide) ?_
    obtain ⟨b14, hS⟩ := gd_s hS
    refine VL.q (q_sub rfl rfl b14) (by decide) ?_
    refine VL.q (q_assign rfl) (by decide) ?_
    refine VL.to (fun _ _ h => h) ?_
    refine VC.keep [0, 1] rfl ?_
    refine VC.seq ?_
    refine VC.region ?_
    refine VL.q (q_move rfl) (by decide) ?_
    refine VL.q (q_gtr rfl rfl) (by decide) ?_
    refine VL.to (fun _ _ h => h) ?_
    refine VC.cond_dec rfl (fun h16 => ?_) (fun h16 => ?_)
    ·
      replace hS := it_t h16 hS
      refine VC.region ?_
      refine VL.q (q_move rfl) (by decide) ?_
      refine VL.q (q_move rfl) (by decide) ?_
      refine VL.q (q_cap0 Tryz.underlying23 rfl) (by decide) ?_
      refine VL.q (q_nil0 UInt8 Tryz.underlying23 gsz5 rfl rfl) (by decide) ?_
      refine VL.q (q_move rfl) (by decide) ?_
      obtain ⟨b22, hS⟩ := gd_s hS
      refine VL.appZ (α := UInt8) (z := (0 : UInt8)) Tryz.underlying23 Tryz.underlying3 gmk5 (by decide) rfl b22.1 b22.2 (by decide) (by decide) fun s22_1 hs22_1 => ?_
      replace hS := lt_to hs22_1 hS
      refine VL.q (q_move rfl) (by decide) ?_
      refine VL.q (q_len Tryz.underlying23 rfl) (by decide) ?_
      refine VL.own0 (s := s22_1) Tryz.underlying23 gsz5 rfl rfl Fo.out (by decide) fun s25_3 hs25_3 => ?_
      replace hS := lt_to hs25_3 hS
      refine VL.q (q_assign rfl) (by decide) ?_
      refine VL.to (fun _ _ h => h) ?_
      refine VC.keep [0] rfl ?_
      refine VC.seq ?_
      refine VC.region ?_
      refine VL.q (q_move rfl) (by decide) ?_
      refine VL.q (q_assign rfl) (by decide) ?_
      refine VL.to (fun _ _ h => h) ?_
      cases hS
      exact VC.ret (fin1 (.inr rfl) rfl rfl s25_3 rfl rfl (by (try dsimp only); exact InM.out) (by (try dsimp only); exact EntO.out))
    ·
      replace hS := it_f h16 hS
      refine VC.skip_to (fun _ _ h => h) ?_
      refine VC.seq ?_
      refine VC.region ?_
      refine VL.q (q_move rfl) (by decide) ?_
      refine VL.q (q_assign rfl) (by decide) ?_
      refine VL.to (fun _ _ h => h) ?_
      refine VC.nilO (⟨none, 0, []⟩ : Sv UInt8) 5 ⟨rfl, rfl⟩ ?_
      cases hS
      exact VC.ret (fin1 (.inr rfl) rfl rfl ⟨none, 0, []⟩ rfl rfl (by (try dsimp only); exact InM.out) (by (try dsimp only); exact EntO.out))

set_option maxHeartbeats 4000000 in
set_option maxRecDepth 100000 in
theorem slices_Concat_byte_byte_ct (slices_0 : Sv (Sv UInt8)) {r : List UInt8} (hS : Sh.slices_Concat_byte_byte (slices_0.l.map Sv.l) = some r) :
    Ct Tryz.prog 177 [slices_0.val] slices_0.ok (Ow.emp) (X := Sv UInt8) (fun x => x.val) (fun x => r = x.l) (fun x => Mo.tt) (fun x => Sv.own x 5) := by
  refine Ct.of Tryz.func177 rfl (by kernel_rfl) Tryz.ntmps177 (by simp) fun c => ?_
  unfold Sh.slices_Concat_byte_byte at hS
  refine VC.seq ?_
  refine VC.region ?_
  refine VL.q (q_assign rfl) (by decide) ?_
  refine VL.to (fun _ _ h => h) ?_
  refine VC.seq ?_
  refine VC.region ?_
  refine VL.q (q_assign rfl) (by decide) ?_
  refine VL.to (fun _ _ h => h) ?_
  refine VC.seq ?_
  refine VC.seq ?_
  refine VC.region ?_
  refine VL.q (q_move rfl) (by decide) ?_
  refine VL.q (q_lnm Sv.l (s := slices_0) Tryz.underlying63 rfl) (by decide) ?_
  refine VL.q (q_move rfl) (by decide) ?_
  refine VL.to (fun _ _ h => h) ?_
  refine VC.block ?_
  refine VC.iter (S := Int × Int) (fun sg => (sg.1, sg.2)) (fun sg => [(0, slices_0.val), (3, i64 sg.1), (9, slices_0.val), (10, i64 ((slices_0.l.map Sv.l).length : Int)), (11, i64 sg.2)]) (fun sg => Mo.tt) (fun sg => Ow.emp) (0, 0) [0, 3, 9, 10, 11] hS rfl ?_
  clear hS
  rintro ⟨size3_1, x11_2⟩ m1 y1 hS hK1
  show VC _ _ _ _ _ [(0, slices_0.val), (3, i64 size3_1), (9, slices_0.val), (10, i64 ((slices_0.l.map Sv.l).length : Int)), (11, i64 x11_2)] (Mo.and Mo.tt _) (Ow.emp)
  refine VC.seq ?_
  refine VC.region ?_
  refine VL.q (q_lss rfl rfl) (by decide) ?_
  refine VL.to (fun _ _ h => h) ?_
  refine VC.seq ?_
  refine VC.cond_dec rfl (fun h12 => ?_) (fun h12 => ?_)
  ·
    replace hS := it_t h12 hS
    refine VC.skip_to (fun _ _ h => h) ?_
    refine VC.seq ?_
    refine VC.block ?_
    refine VC.seq ?_
    refine VC.region ?_
    obtain ⟨z13_3, nz13_3, hz13_3, hS⟩ := atm_s hS
    refine VL.deep z13_3.ok hz13_3 (fun _ q => q) ?_
    refine VL.q (q_ixm (s := slices_0) Tryz.underlying63 gsz23 rfl rfl nz13_3 (lt_of_get nz13_3 hz13_3)) (by decide) ?_
    refine VL.q (q_el (s := slices_0) gone23 rfl hz13_3 rfl) (by decide) ?_
    refine VL.q (q_assign rfl) (by decide) ?_
    refine VL.to (fun _ _ h => h) ?_
    refine VC.seq ?_
    refine VC.region ?_
    refine VL.q (q_move rfl) (by decide) ?_
    refine VL.q (q_move rfl) (by decide) ?_
    refine VL.q (q_ln (s := z13_3) Tryz.underlying23 rfl) (by decide) ?_
    obtain ⟨b18, hS⟩ := gd_s hS
    refine VL.q (q_add rfl rfl b18) (by decide) ?_
    refine VL.q (q_assign rfl) (by decide) ?_
    refine VL.to (fun _ _ h => h) ?_
    refine VC.keep [0, 3, 9, 10, 11] rfl ?_
    refine VC.seq ?_
    refine VC.region ?_
    refine VL.q (q_move rfl) (by decide) ?_
    refine VL.q (q_lss rfl rfl) (by decide) ?_
    refine VL.to (fun _ _ h => h) ?_
    refine VC.cond_dec rfl (fun h20 => ?_) (fun h20 => ?_)
    ·
      replace hS := it_t h20 hS
      refine VC.region ?_
      refine VL.q (q_mkif Tryz.underlying9 (fun _ h => by cases h) rfl) (by decide) ?_
      cases hS
    ·
      replace hS := it_f h20 hS
      refine VC.skip_to (fun _ _ h => h) ?_
      refine VC.region ?_
      obtain ⟨b22, hS⟩ := gd_s hS
      refine VL.q (q_add rfl rfl b22) (by decide) ?_
      refine VL.q (q_move rfl) (by decide) ?_
      refine VL.rnd ((size3_1 + (z13_3.l.length : Int)), (x11_2 + 1)) [0, 3, 9, 10, 11] (fun _ _ h => h) (go2 hS hK1) rfl
  ·
    replace hS := it_f h12 hS
    replace hS := up2 hS hK1
    refine VC.exit_to (fun _ _ h => h) ?_
    refine VC.seq ?_
    refine VC.region ?_
    refine VL.q (q_move rfl) (by decide) ?_
    obtain ⟨y24_4, ey24_4, hS⟩ := bd_s hS
    refine VL.callO (slices_Grow_byte_byte_ct size3_1 ey24_4) rfl (by decide) ?_
    rintro q24_4_0 rfl
    try dsimp only
    refine VL.q (q_assign rfl) (by decide) ?_
    refine VL.to (fun _ _ h => h) ?_
    refine VC.seq ?_
    refine VC.seq ?_
    refine VC.region ?_
    refine VL.q (q_move rfl) (by decide) ?_
    refine VL.q (q_lnm Sv.l (s := slices_0) Tryz.underlying63 rfl) (by decide) ?_
    refine VL.q (q_move rfl) (by decide) ?_
    refine VL.to (fun _ _ h => h) ?_
    refine VC.keep [6, 25, 26, 27] rfl ?_
    refine VC.block ?_
    refine VC.iter (S := Sv UInt8 × Int) (fun sg => (sg.1.l, sg.2)) (fun sg => [(6, sg.1.val), (25, slices_0.val), (26, i64 ((slices_0.l.map Sv.l).length : Int)), (27, i64 sg.2)]) (fun sg => Mo.tt) (fun sg => Ow.star (Sv.own sg.1 5) (Ow.emp)) (q24_4_0, 0) [6, 25, 26, 27] hS rfl ?_
    clear hS
    rintro ⟨newslice6_5, x27_6⟩ m1 y1 hS hK1
    show VC _ _ _ _ _ [(6, newslice6_5.val), (25, slices_0.val), (26, i64 ((slices_0.l.map Sv.l).length : Int)), (27, i64 x27_6)] (Mo.and Mo.tt _) (Ow.star (Sv.own newslice6_5 5) (Ow.emp))
    refine VC.seq ?_
    refine VC.region ?_
    refine VL.q (q_lss rfl rfl) (by decide) ?_
    refine VL.to (fun _ _ h => h) ?_
    refine VC.seq ?_
    refine VC.cond_dec rfl (fun h28 => ?_) (fun h28 => ?_)
    ·
      replace hS := it_t h28 hS
      refine VC.skip_to (fun _ _ h => h) ?_
      refine VC.seq ?_
      refine VC.block ?_
      refine VC.seq ?_
      refine VC.region ?_
      obtain ⟨z29_7, nz29_7, hz29_7, hS⟩ := atm_s hS
      refine VL.deep z29_7.ok hz29_7 (fun _ q => q) ?_
      refine VL.q (q_ixm (s := slices_0) Tryz.underlying63 gsz23 rfl rfl nz29_7 (lt_of_get nz29_7 hz29_7)) (by decide) ?_
      refine VL.q (q_el (s := slices_0) gone23 rfl hz29_7 rfl) (by decide) ?_
      refine VL.q (q_assign rfl) (by decide) ?_
      refine VL.to (fun _ _ h => h) ?_
      refine VC.region ?_
      refine VL.q (q_move rfl) (by decide) ?_
      refine VL.q (q_move rfl) (by decide) ?_
      obtain ⟨b33, hS⟩ := gd_s hS
      refine VL.app (s := newslice6_5) (r := z29_7) Tryz.underlying23 gapp5 (by decide) rfl Fo.out (ap1 b33) (ap2 b33 (by decide)) (by decide) (fun s33_8 hs33_8 => ?_)
      replace hS := lt_to hs33_8 hS
      refine VL.q (q_assign rfl) (by decide) ?_
      refine VL.to (fun _ _ h => h) ?_
      refine VC.keep [6, 25, 26, 27] rfl ?_
      refine VC.region ?_
      obtain ⟨b34, hS⟩ := gd_s hS
      refine VL.q (q_add rfl rfl b34) (by decide) ?_
      refine VL.q (q_move rfl) (by decide) ?_
      refine VL.rnd (s33_8, (x27_6 + 1)) [6, 25, 26, 27] (fun _ _ h => h) (go2 hS hK1) rfl
    ·
      replace hS := it_f h28 hS
      replace hS := up2 hS hK1
      refine VC.exit_to (fun _ _ h => h) ?_
      refine VC.seq ?_
      refine VC.region ?_
      refine VL.q (q_move rfl) (by decide) ?_
      refine VL.q (q_assign rfl) (by decide) ?_
      refine VL.to (fun _ _ h => h) ?_
      cases hS
      exact VC.ret (fin1 (.inr rfl) rfl rfl newslice6_5 rfl rfl (by (try dsimp only); exact InM.out) (by (try dsimp only); exact EntO.out))

set_option maxHeartbeats 4000000 in
set_option maxRecDepth 100000 in
theorem seal_Put_ct (b_0 : Sv UInt8) {r : List UInt8} (hS : Sh.seal_Put b_0.l = some r) :
    Ct Tryz.prog 106 [b_0.val] b_0.ok (Ow.emp) (X := Sv UInt8) (fun x => x.val) (fun x => r = x.l) (fun x => Mo.tt) (fun x => Sv.own x 5) := by
  refine Ct.of Tryz.func106 rfl (by kernel_rfl) Tryz.ntmps106 (by simp) fun c => ?_
  unfold Sh.seal_Put at hS
  refine VC.seq ?_
  refine VC.region ?_
  refine VL.q (q_assign rfl) (by decide) ?_
  refine VL.to (fun _ _ h => h) ?_
  refine VC.seq ?_
  refine VC.region ?_
  refine VL.q (q_move rfl) (by decide) ?_
  refine VL.lit (α := Sv UInt8) (xs := [.tmp 4]) (vs := [b_0.val]) [b_0] Tryz.underlying63 glit23 (by decide) rfl rfl rfl rfl (by decide) (fun h m => List.forall_mem_cons.2 ⟨InM.out (X := b_0.ok) h m, fun _ h => by cases h⟩) (by decide) (fun s5_1 hs5_1 => ?_) (by decide)
  replace hS := lt_to (congrArg (List.map Sv.l) hs5_1) hS
  obtain ⟨y6_3, ey6_3, hS⟩ := bd_s hS
  refine VL.q (q_call (seal_Sum_ct s5_1 ey6_3) rfl (fun _ _ => rfl)) (by decide) ?_
  refine VL.q (q_assign rfl) (by decide) ?_
  refine VL.to (fun _ _ h => h) ?_
  refine VC.seq ?_
  refine VC.region ?_
  refine VL.q (q_move rfl) (by decide) ?_
  refine VL.q (q_move rfl) (by decide) ?_
  refine VL.q (q_convW Tryz.underlying240 Tryz.underlying5 rfl) (by decide) ?_
  refine VL.q (q_move rfl) (by decide) ?_
  refine VL.q (q_shr rfl rfl (by decide)) (by decide) ?_
  refine VL.q (q_convW Tryz.underlying240 Tryz.underlying5 rfl) (by decide) ?_
  refine VL.q (q_move rfl) (by decide) ?_
  refine VL.q (q_shr rfl rfl (by decide)) (by decide) ?_
  refine VL.q (q_convW Tryz.underlying240 Tryz.underlying5 rfl) (by decide) ?_
  refine VL.q (q_move rfl) (by decide) ?_
  refine VL.q (q_shr rfl rfl (by decide)) (by decide) ?_
  refine VL.q (q_convW Tryz.underlying240 Tryz.underlying5 rfl) (by decide) ?_
  obtain ⟨b19_9, hS⟩ := gd_s hS
  obtain ⟨u19_5, eu19_5, hS⟩ := lt_s hS
  refine VL.setv 9 rfl (congrArg (Value.int .u8) (u8_z b19_9 eu19_5)) ?_
  obtain ⟨b19_12, hS⟩ := gd_s hS
  obtain ⟨u19_6, eu19_6, hS⟩ := lt_s hS
  refine VL.setv 12 rfl (congrArg (Value.int .u8) (u8_z b19_12 eu19_6)) ?_
  obtain ⟨b19_15, hS⟩ := gd_s hS
  obtain ⟨u19_7, eu19_7, hS⟩ := lt_s hS
  refine VL.setv 15 rfl (congrArg (Value.int .u8) (u8_z b19_15 eu19_7)) ?_
  obtain ⟨b19_18, hS⟩ := gd_s hS
  obtain ⟨u19_8, eu19_8, hS⟩ := lt_s hS
  refine VL.setv 18 rfl (congrArg (Value.int .u8) (u8_z b19_18 eu19_8)) ?_
  refine VL.lit (α := UInt8) (xs := [.tmp 9, .tmp 12, .tmp 15, .tmp 18]) (vs := [.int .u8 (u19_5.toNat : Int), .int .u8 (u19_6.toNat : Int), .int .u8 (u19_7.toNat : Int), .int .u8 (u19_8.toNat : Int)]) [u19_5, u19_6, u19_7, u19_8] Tryz.underlying23 glit5 (by decide) rfl rfl rfl rfl (by decide) (fun _ _ _ _ => trivial) (by decide) (fun s19_4 hs19_4 => ?_) (by decide)
  replace hS := lt_to hs19_4 hS
  refine VL.lit (α := Sv UInt8) (xs := [.tmp 7, .tmp 19]) (vs := [b_0.val, s19_4.val]) [b_0, s19_4] Tryz.underlying63 glit23 (by decide) rfl rfl rfl rfl (by decide) (fun h m => List.forall_mem_cons.2 ⟨InM.out (X := b_0.ok) h m, List.forall_mem_cons.2 ⟨InM.out (X := s19_4.ok) h m, fun _ h => by cases h⟩⟩) (by decide) (fun s20_10 hs20_10 => ?_) (by decide)
  replace hS := lt_to (congrArg (List.map Sv.l) hs20_10) hS
  obtain ⟨y21_12, ey21_12, hS⟩ := bd_s hS
  refine VL.callO (slices_Concat_byte_byte_ct s20_10 ey21_12) rfl (by decide) ?_
  rintro q21_12_0 rfl
  try dsimp only
  refine VL.q (q_assign rfl) (by decide) ?_
  refine VL.to (fun _ _ h => h) ?_
  refine VC.keep [2] rfl ?_
  cases hS
  exact VC.ret (fin1 (.inr rfl) rfl rfl q21_12_0 rfl rfl (by (try dsimp only); exact InM.out) (by (try dsimp only); exact EntO.out))

set_option maxHeartbeats 4000000 in
set_option maxRecDepth 100000 in
theorem object_Encode_ct (o_0 : ObjectObject) {r : List UInt8 × Err} (hS : Sh.object_Encode o_0.pl = some r) :
    Ct Tryz.prog 41 [.agg #[i64 o_0.kind, o_0.data.val, o_0.items.val, i64 o_0.tree, o_0.parents.val, i64 o_0.time, str o_0.text]] (o_0.data.ok.and (o_0.items.ok.and o_0.parents.ok)) (Ow.emp) (X := Sv UInt8 × Er) (fun x => .tuple #[x.1.val, x.2.val]) (fun x => r = (x.1.l, x.2.pl)) (fun x => x.2.ok) (fun x => Sv.own x.1 5) := by
  refine Ct.of Tryz.func41 rfl (by kernel_rfl) Tryz.ntmps41 (by simp) fun c => ?_
  unfold Sh.object_Encode at hS
  refine VC.seq ?_
  refine VC.region ?_
  refine VL.box (cs := [i64 o_0.kind, o_0.data.val, o_0.items.val, i64 o_0.tree, o_0.parents.val, i64 o_0.time, str o_0.text]) rfl rfl (by decide) fun b1_1 => ?_
  refine VL.q (q_assign rfl) (by decide) ?_
  refine VL.q (q_assign rfl) (by decide) ?_
  refine VL.to (fun _ _ h => h) ?_
  refine VC.seq ?_
  refine VC.seq ?_
  refine VC.region ?_
  refine VL.q (q_fes gagg27 rfl rfl) (by decide) ?_
  obtain ⟨y9_2, ey9_2, hS⟩ := bd_s hS
  refine VL.callF (object_Check_ct o_0 ey9_2) rfl (by decide) ?_
  rintro q9_2_0 rfl
  try dsimp only
  refine VL.q (q_assign rfl) (by decide) ?_
  refine VL.to (fun _ _ h => h) ?_
  refine VC.seq ?_
  refine VC.region ?_
  refine VL.q (q_move rfl) (by decide) ?_
  refine VL.q (q_erne Tryz.underlying38 rfl) (by decide) ?_
  refine VL.to (fun _ _ h => h) ?_
  refine VC.cond_ndec rfl (fun h11 => ?_) (fun h11 => ?_)
  ·
    replace hS := it_f h11 hS
    refine VC.seq ?_
    refine VC.region ?_
    refine VL.q (q_move rfl) (by decide) ?_
    refine VL.q (q_assign rfl) (by decide) ?_
    refine VL.q (q_assign rfl) (by decide) ?_
    refine VL.to (fun _ _ h => h) ?_
    refine VC.nilO (⟨none, 0, []⟩ : Sv UInt8) 5 ⟨rfl, rfl⟩ ?_
    cases hS
    exact VC.ret (fin2 (.inr rfl) rfl rfl rfl (⟨none, 0, []⟩, q9_2_0) rfl rfl (by (try dsimp only); exact InM.out) (by (try dsimp only); exact EntO.out))
  ·
    replace hS := it_t h11 hS
    refine VC.skip_to (fun _ _ h => h) ?_
    refine VC.seq ?_
    refine VC.region ?_
    refine VL.alloc (cs := [.slice none 0 0]) (by kernel_rfl) (by decide) fun b5_3 => ?_
    refine VL.to (fun _ _ h => h) ?_
    refine VC.seq ?_
    refine VC.region ?_
    refine VL.q (q_field gfa27_0 rfl) (by decide) ?_
    refine VL.q (q_fe gone3 rfl rfl) (by decide) ?_
    refine VL.lit (α := Int) (xs := [.tmp 14]) (vs := [i64 o_0.kind]) [o_0.kind] Tryz.underlying25 glit3 (by decide) rfl rfl rfl rfl (by decide) (fun _ _ _ _ => trivial) (by decide) (fun s15_4 hs15_4 => ?_) (by decide)
    replace hS := lt_to hs15_4 hS
    refine VL.nilO (⟨none, 0, []⟩ : Sv UInt8) 5 ⟨rfl, rfl⟩ ?_
    refine VL.reB b5_3 (cs' := [(⟨none, 0, []⟩ : Sv UInt8).val]) rfl ?_
    obtain ⟨y16_6, ey16_6, hS⟩ := bd_s hS
    refine VL.callO (codec_Enc_Int_ct b5_3 (⟨(⟨none, 0, []⟩ : Sv UInt8)⟩ : CodecEnc) s15_4 ey16_6) rfl (by decide) ?_
    rintro q16_6_0 rfl
    try dsimp only
    refine VL.to (fun _ _ h => h) ?_
    refine VC.keep [1, 5] rfl ?_
    refine VC.cutJ (S := Sv UInt8) (fun (c0_7 : Sv UInt8) => c0_7.l) (fun (c0_7 : Sv UInt8) => [(5, ptr b5_3 0)]) (fun (c0_7 : Sv UInt8) => Mo.tt) (fun (c0_7 : Sv UInt8) => Ow.star (Blk b5_3 [c0_7.val] 169) (Ow.star (Blk b1_1 [i64 o_0.kind, o_0.data.val, o_0.items.val, i64 o_0.tree, o_0.parents.val, i64 o_0.time, str o_0.text] 27) (Ow.star (Sv.own c0_7 5) (Ow.emp)))) hS ?_ ?_
    · -- up to where ways meet
      clear hS
      intro k8 hS
      refine VC.seq ?_
      refine VC.region ?_
      refine VL.q (q_field gfa27_0 rfl) (by decide) ?_
      refine VL.q (q_fe gone3 rfl rfl) (by decide) ?_
      refine VL.to (fun _ _ h => h) ?_
      refine VC.block ?_
      refine VC.seq ?_
      refine VC.region ?_
      refine VL.q (q_eql rfl rfl) (by decide) ?_
      refine VL.q (q_assign rfl) (by decide) ?_
      refine VL.to (fun _ _ h => h) ?_
      refine VC.cond_dec rfl (fun h19 => ?_) (fun h19 => ?_)
      ·
        replace hS := it_t h19 hS
        refine VC.region ?_
        refine VL.q (q_field gfa27_1 rfl) (by decide) ?_
        refine VL.q (q_fe gone23 rfl rfl) (by decide) ?_
        refine VL.q (q_b2s (s := o_0.data) Tryz.underlying23 Tryz.underlying5 Tryz.underlying9 rfl) (by decide) ?_
        refine VL.lit (α := Str) (xs := [.tmp 23]) (vs := [str o_0.data.l]) [o_0.data.l] Tryz.underlying42 glit9 (by decide) rfl rfl rfl rfl (by decide) (fun _ _ _ _ => trivial) (by decide) (fun s24_9 hs24_9 => ?_) (by decide)
        replace hS := lt_to hs24_9 hS
        obtain ⟨y25_11, ey25_11, hS⟩ := bd_s hS
        refine VL.callO (codec_Enc_Text_ct b5_3 q16_6_0 s24_9 ey25_11) rfl (by decide) ?_
        rintro q25_11_0 rfl
        try dsimp only
        refine VL.mt q25_11_0.b [5] (fun _ _ h => h) hS rfl
      ·
        replace hS := it_f h19 hS
        refine VC.seq ?_
        refine VC.region ?_
        refine VL.q (q_eql rfl rfl) (by decide) ?_
        refine VL.q (q_assign rfl) (by decide) ?_
        refine VL.to (fun _ _ h => h) ?_
        refine VC.cond_dec rfl (fun h26 => ?_) (fun h26 => ?_)
        ·
          replace hS := it_t h26 hS
          refine VC.seq ?_
          refine VC.region ?_
          refine VL.q (q_field gfa27_2 rfl) (by decide) ?_
          refine VL.q (q_fe gone24 rfl rfl) (by decide) ?_
          refine VL.q (q_ln (s := o_0.items) Tryz.underlying24 rfl) (by decide) ?_
          refine VL.lit (α := Int) (xs := [.tmp 30]) (vs := [i64 (o_0.items.l.length : Int)]) [(o_0.items.l.length : Int)] Tryz.underlying25 glit3 (by decide) rfl rfl rfl rfl (by decide) (fun _ _ _ _ => trivial) (by decide) (fun s31_12 hs31_12 => ?_) (by decide)
          replace hS := lt_to hs31_12 hS
          obtain ⟨y32_14, ey32_14, hS⟩ := bd_s hS
          refine VL.callO (codec_Enc_Int_ct b5_3 q16_6_0 s31_12 ey32_14) rfl (by decide) ?_
          rintro q32_14_0 rfl
          try dsimp only
          refine VL.to (fun _ _ h => h) ?_
          refine VC.keep [1, 5] rfl ?_
          refine VC.seq ?_
          refine VC.region ?_
          refine VL.q (q_field gfa27_2 rfl) (by decide) ?_
          refine VL.q (q_fe gone24 rfl rfl) (by decide) ?_
          refine VL.q (q_ln (s := o_0.items) Tryz.underlying24 rfl) (by decide) ?_
          refine VL.q (q_move rfl) (by decide) ?_
          refine VL.to (fun _ _ h => h) ?_
          refine VC.block ?_
          refine VC.iter (S := Int × Sv UInt8) (fun sg => (sg.1, sg.2.l)) (fun sg => [(5, ptr b5_3 0), (34, o_0.items.val), (35, i64 (o_0.items.l.length : Int)), (36, i64 sg.1)]) (fun sg => Mo.tt) (fun sg => Ow.star (Blk b5_3 [sg.2.val] 169) (Ow.star (Blk b1_1 [i64 o_0.kind, o_0.data.val, o_0.items.val, i64 o_0.tree, o_0.parents.val, i64 o_0.time, str o_0.text] 27) (Ow.star (Sv.own sg.2 5) (Ow.emp)))) (0, q32_14_0.b) [5, 34, 35, 36] hS rfl ?_
          clear hS
          rintro ⟨x36_15, c0_16⟩ m1 y1 hS hK1
          show VC _ _ _ _ _ [(5, ptr b5_3 0), (34, o_0.items.val), (35, i64 (o_0.items.l.length : Int)), (36, i64 x36_15)] (Mo.and Mo.tt _) (Ow.star (Blk b5_3 [c0_16.val] 169) (Ow.star (Blk b1_1 [i64 o_0.kind, o_0.data.val, o_0.items.val, i64 o_0.tree, o_0.parents.val, i64 o_0.time, str o_0.text] 27) (Ow.star (Sv.own c0_16 5) (Ow.emp))))
          refine VC.seq ?_
          refine VC.region ?_
          refine VL.q (q_lss rfl rfl) (by decide) ?_
          refine VL.to (fun _ _ h => h) ?_
          refine VC.seq ?_
          refine VC.cond_dec rfl (fun h37 => ?_) (fun h37 => ?_)
          ·
            replace hS := it_t h37 hS
            refine VC.skip_to (fun _ _ h => h) ?_
            refine VC.seq ?_
            refine VC.block ?_
            refine VC.seq ?_
            refine VC.region ?_
            obtain ⟨z38_17, nz38_17, hz38_17, hS⟩ := at_s hS
            refine VL.q (q_ixm (s := o_0.items) Tryz.underlying24 gsz29 rfl rfl nz38_17 (lt_of_get nz38_17 hz38_17)) (by decide) ?_
            refine VL.q (q_els (s := o_0.items) gagg29 rfl rfl hz38_17) (by decide) ?_
            refine VL.alloc (cs := [str [], i64 0, i64 0]) (by kernel_rfl) (by decide) fun b7_18 => ?_
            refine VL.store (vc := [str z38_17.path, i64 z38_17.mode, i64 z38_17.blob]) (cs' := [str z38_17.path, i64 z38_17.mode, i64 z38_17.blob]) rfl rfl rfl gsz29 rfl rfl (Nat.le_of_ble_eq_true rfl) rfl ?_
            refine VL.to (fun _ _ h => h) ?_
            refine VC.seq ?_
            refine VC.region ?_
            refine VL.q (q_field gfa29_0 rfl) (by decide) ?_
            refine VL.q (q_fe gone9 rfl rfl) (by decide) ?_
            refine VL.lit (α := Str) (xs := [.tmp 41]) (vs := [str z38_17.path]) [z38_17.path] Tryz.underlying42 glit9 (by decide) rfl rfl rfl rfl (by decide) (fun _ _ _ _ => trivial) (by decide) (fun s42_19 hs42_19 => ?_) (by decide)
            replace hS := lt_to hs42_19 hS
            obtain ⟨y43_21, ey43_21, hS⟩ := bd_s hS
            refine VL.callO (codec_Enc_Text_ct b5_3 (⟨c0_16⟩ : CodecEnc) s42_19 ey43_21) rfl (by decide) ?_
            rintro q43_21_0 rfl
            try dsimp only
            refine VL.to (fun _ _ h => h) ?_
            refine VC.keep [5, 34, 35, 36, 7] rfl ?_
            refine VC.region ?_
            refine VL.q (q_field gfa29_1 rfl) (by decide) ?_
            refine VL.q (q_fe gone3 rfl rfl) (by decide) ?_
            refine VL.q (q_field gfa29_2 rfl) (by decide) ?_
            refine VL.q (q_fe gone3 rfl rfl) (by decide) ?_
            refine VL.lit (α := Int) (xs := [.tmp 45, .tmp 47]) (vs := [i64 z38_17.mode, i64 z38_17.blob]) [z38_17.mode, z38_17.blob] Tryz.underlying25 glit3 (by decide) rfl rfl rfl rfl (by decide) (fun _ _ _ _ => trivial) (by decide) (fun s48_22 hs48_22 => ?_) (by decide)
            replace hS := lt_to hs48_22 hS
            obtain ⟨y49_24, ey49_24, hS⟩ := bd_s hS
            refine VL.callO (codec_Enc_Int_ct b5_3 q43_21_0 s48_22 ey49_24) rfl (by decide) ?_
            rintro q49_24_0 rfl
            try dsimp only
            refine VL.to (fun _ _ h => h) ?_
            refine VC.keep [5, 34, 35, 36] rfl ?_
            refine VC.region ?_
            obtain ⟨b50, hS⟩ := gd_s hS
            refine VL.q (q_add rfl rfl b50) (by decide) ?_
            refine VL.q (q_move rfl) (by decide) ?_
            refine VL.rnd ((x36_15 + 1), q49_24_0.b) [5, 34, 35, 36] (fun _ _ h => h) (go2 hS hK1) rfl
          ·
            replace hS := it_f h37 hS
            replace hS := up2 hS hK1
            refine VC.exit_mt c0_16 [5] (fun _ _ h => h) hS rfl
        ·
          replace hS := it_f h26 hS
          refine VC.seq ?_
          refine VC.region ?_
          refine VL.q (q_eql rfl rfl) (by decide) ?_
          refine VL.q (q_assign rfl) (by decide) ?_
          refine VL.to (fun _ _ h => h) ?_
          refine VC.cond_dec rfl (fun h51 => ?_) (fun h51 => ?_)
          ·
            replace hS := it_t h51 hS
            refine VC.seq ?_
            refine VC.region ?_
            refine VL.q (q_field gfa27_3 rfl) (by decide) ?_
            refine VL.q (q_fe gone3 rfl rfl) (by decide) ?_
            refine VL.q (q_field gfa27_4 rfl) (by decide) ?_
            refine VL.q (q_fe gone25 rfl rfl) (by decide) ?_
            refine VL.q (q_ln (s := o_0.parents) Tryz.underlying25 rfl) (by decide) ?_
            refine VL.lit (α := Int) (xs := [.tmp 54, .tmp 57]) (vs := [i64 o_0.tree, i64 (o_0.parents.l.length : Int)]) [o_0.tree, (o_0.parents.l.length : Int)] Tryz.underlying25 glit3 (by decide) rfl rfl rfl rfl (by decide) (fun _ _ _ _ => trivial) (by decide) (fun s58_25 hs58_25 => ?_) (by decide)
            replace hS := lt_to hs58_25 hS
            obtain ⟨y59_27, ey59_27, hS⟩ := bd_s hS
            refine VL.callO (codec_Enc_Int_ct b5_3 q16_6_0 s58_25 ey59_27) rfl (by decide) ?_
            rintro q59_27_0 rfl
            try dsimp only
            refine VL.to (fun _ _ h => h) ?_
            refine VC.keep [1, 5] rfl ?_
            refine VC.seq ?_
            refine VC.region ?_
            refine VL.q (q_field gfa27_4 rfl) (by decide) ?_
            refine VL.q (q_fe gone25 rfl rfl) (by decide) ?_
            obtain ⟨y62_28, ey62_28, hS⟩ := bd_s hS
            refine VL.callO (codec_Enc_Int_ct b5_3 q59_27_0 o_0.parents ey62_28) rfl (by decide) ?_
            rintro q62_28_0 rfl
            try dsimp only
            refine VL.to (fun _ _ h => h) ?_
            refine VC.seq ?_
            refine VC.region ?_
            refine VL.q (q_field gfa27_5 rfl) (by decide) ?_
            refine VL.q (q_fe gone3 rfl rfl) (by decide) ?_
            refine VL.lit (α := Int) (xs := [.tmp 64]) (vs := [i64 o_0.time]) [o_0.time] Tryz.underlying25 glit3 (by decide) rfl rfl rfl rfl (by decide) (fun _ _ _ _ => trivial) (by decide) (fun s65_29 hs65_29 => ?_) (by decide)
            replace hS := lt_to hs65_29 hS
            obtain ⟨y66_31, ey66_31, hS⟩ := bd_s hS
            refine VL.callO (codec_Enc_Int_ct b5_3 q62_28_0 s65_29 ey66_31) rfl (by decide) ?_
            rintro q66_31_0 rfl
            try dsimp only
            refine VL.to (fun _ _ h => h) ?_
            refine VC.region ?_
            refine VL.q (q_field gfa27_6 rfl) (by decide) ?_
            refine VL.q (q_fe gone9 rfl rfl) (by decide) ?_
            refine VL.lit (α := Str) (xs := [.tmp 68]) (vs := [str o_0.text]) [o_0.text] Tryz.underlying42 glit9 (by decide) rfl rfl rfl rfl (by decide) (fun _ _ _ _ => trivial) (by decide) (fun s69_32 hs69_32 => ?_) (by decide)
            replace hS := lt_to hs69_32 hS
            obtain ⟨y70_34, ey70_34, hS⟩ := bd_s hS
            refine VL.callO (codec_Enc_Text_ct b5_3 q66_31_0 s69_32 ey70_34) rfl (by decide) ?_
            rintro q70_34_0 rfl
            try dsimp only
            refine VL.mt q70_34_0.b [5] (fun _ _ h => h) hS rfl
          ·
            replace hS := it_f h51 hS
            refine VC.skip_mt q16_6_0.b [5] (fun _ _ h => h) hS rfl
    · -- from there
      clear hS
      rintro c0_7 hS
      show VC _ _ _ _ _ [(5, ptr b5_3 0)] (Mo.and Mo.tt _) (Ow.star (Blk b5_3 [c0_7.val] 169) (Ow.star (Blk b1_1 [i64 o_0.kind, o_0.data.val, o_0.items.val, i64 o_0.tree, o_0.parents.val, i64 o_0.time, str o_0.text] 27) (Ow.star (Sv.own c0_7 5) (Ow.emp))))
      refine VC.seq ?_
      refine VC.region ?_
      obtain ⟨y71_35, ey71_35, hS⟩ := bd_s hS
      refine VL.callO (codec_Enc_Bytes_ct b5_3 (⟨c0_7⟩ : CodecEnc) ey71_35) rfl (by decide) ?_
      rintro q71_35_0 rfl
      try dsimp only
      obtain ⟨y72_36, ey72_36, hS⟩ := bd_s hS
      refine VL.callO (seal_Put_ct q71_35_0 ey72_36) rfl (by decide) ?_
      rintro q72_36_0 rfl
      try dsimp only
      refine VL.q (q_assign rfl) (by decide) ?_
      refine VL.q (q_assign rfl) (by decide) ?_
      refine VL.to (fun _ _ h => h) ?_
      cases hS
      exact VC.ret (fin2 (.inr rfl) rfl rfl rfl (q72_36_0, .nil) rfl rfl (by (try dsimp only); exact InM.out) (by (try dsimp only); exact EntO.out))

set_option maxHeartbeats 4000000 in
set_option maxRecDepth 100000 in
theorem bytes_Equal_ct (a_0 : Sv UInt8) (b_1 : Sv UInt8) {r : Bool} (hS : Sh.bytes_Equal a_0.l b_1.l = some r) :
    Ct Tryz.prog 113 [a_0.val, b_1.val] (a_0.ok.and b_1.ok) (Ow.emp) (X := Unit) (fun _ => .bool r) (fun _ => True) (fun _ => Mo.tt) (fun _ => Ow.emp) := by
  refine Ct.of Tryz.func113 rfl (by kernel_rfl) Tryz.ntmps113 (by simp) fun c => ?_
  unfold Sh.bytes_Equal at hS
  refine VC.seq ?_
  refine VC.region ?_
  refine VL.q (q_assign rfl) (by decide) ?_
  refine VL.to (fun _ _ h => h) ?_
  refine VC.seq ?_
  refine VC.region ?_
  refine VL.q (q_move rfl) (by decide) ?_
  refine VL.q (q_b2s (s := a_0) Tryz.underlying23 Tryz.underlying5 Tryz.underlying9 rfl) (by decide) ?_
  refine VL.q (q_move rfl) (by decide) ?_
  refine VL.q (q_b2s (s := b_1) Tryz.underlying23 Tryz.underlying5 Tryz.underlying9 rfl) (by decide) ?_
  refine VL.q (q_seq rfl rfl) (by decide) ?_
  refine VL.q (q_assign rfl) (by decide) ?_
  refine VL.to (fun _ _ h => h) ?_
  cases hS
  exact VC.ret (fin1 (.inr rfl) rfl rfl () rfl trivial (fun _ _ => trivial) (fun _ _ => trivial))

set_option maxHeartbeats 4000000 in
set_option maxRecDepth 100000 in
theorem seal_Open_ct (b_0 : Sv UInt8) {r : List UInt8 × Err} (hS : Sh.seal_Open b_0.l = some r) :
    Ct Tryz.prog 108 [b_0.val] b_0.ok (Ow.emp) (X := Sv UInt8 × Er) (fun x => .tuple #[x.1.val, x.2.val]) (fun x => r = (x.1.l, x.2.pl)) (fun x => (x.1.ok.and x.2.ok)) (fun x => Ow.emp) := by
  refine Ct.of Tryz.func108 rfl (by kernel_rfl) Tryz.ntmps108 (by simp) fun c => ?_
  unfold Sh.seal_Open at hS
  refine VC.seq ?_
  refine VC.region ?_
  refine VL.q (q_assign rfl) (by decide) ?_
  refine VL.q (q_assign rfl) (by decide) ?_
  refine VL.to (fun _ _ h => h) ?_
  refine VC.seq ?_
  refine VC.seq ?_
  refine VC.region ?_
  refine VL.q (q_move rfl) (by decide) ?_
  refine VL.q (q_ln (s := b_0) Tryz.underlying23 rfl) (by decide) ?_
  refine VL.q (q_lss rfl rfl) (by decide) ?_
  refine VL.to (fun _ _ h => h) ?_
  refine VC.cond_dec rfl (fun h7 => ?_) (fun h7 => ?_)
  ·
    replace hS := it_t h7 hS
    refine VC.seq ?_
    refine VC.region ?_
    refine VL.q (q_move rfl) (by decide) ?_
    refine VL.q (q_ln (s := b_0) Tryz.underlying23 rfl) (by decide) ?_
    refine VL.q (q_mkif Tryz.underlying99 (fun _ h => by cases h) rfl) (by decide) ?_
    refine VL.q (q_build (vs := [(0, str [115, 117, 109]), (1, i64 (b_0.l.length : Int)), (2, (Er.no 3).val)]) (cs := #[str [115, 117, 109], i64 (b_0.l.length : Int), (Er.no 3).val]) rfl (by kernel_rfl)) (by decide) ?_
    refine VL.box (cs := [str [115, 117, 109], i64 (b_0.l.length : Int), (Er.no 3).val]) rfl rfl (by decide) fun b12_1 => ?_
    refine VL.shutB b12_1 ?_
    refine VL.q (q_mkif Tryz.underlying100 (fun _ h => by cases h) rfl) (by decide) ?_
    refine VL.q (q_assign rfl) (by decide) ?_
    refine VL.q (q_assign rfl) (by decide) ?_
    refine VL.to (fun _ _ h => h) ?_
    refine VC.keep [2, 3] rfl ?_
    cases hS
    exact VC.ret (fin2 (.inr rfl) rfl rfl rfl (⟨none, 0, []⟩, (Er.fault b12_1 [115, 117, 109] (b_0.l.length : Int) (Er.no 3))) rfl rfl (by (try dsimp only); exact InM.out) (fun _ _ => trivial))
  ·
    replace hS := it_f h7 hS
    refine VC.skip_to (fun _ _ h => h) ?_
    refine VC.seq ?_
    refine VC.region ?_
    refine VL.q (q_move rfl) (by decide) ?_
    refine VL.q (q_move rfl) (by decide) ?_
    refine VL.q (q_ln (s := b_0) Tryz.underlying23 rfl) (by decide) ?_
    obtain ⟨b17, hS⟩ := gd_s hS
    refine VL.q (q_sub rfl rfl b17) (by decide) ?_
    obtain ⟨b18, hS⟩ := gd_s hS
    refine VL.sto Tryz.underlying23 gsz5 rfl rfl b18.1 (b18.2) (by decide) fun s18_2 hs18_2 => ?_
    replace hS := lt_to hs18_2 hS
    refine VL.q (q_assign rfl) (by decide) ?_
    refine VL.to (fun _ _ h => h) ?_
    refine VC.keep [0, 4] rfl ?_
    refine VC.seq ?_
    refine VC.seq ?_
    refine VC.region ?_
    refine VL.q (q_move rfl) (by decide) ?_
    obtain ⟨y20_4, ey20_4, hS⟩ := bd_s hS
    refine VL.callO (seal_Put_ct s18_2 ey20_4) rfl (by decide) ?_
    rintro q20_4_0 rfl
    try dsimp only
    refine VL.q (q_move rfl) (by decide) ?_
    obtain ⟨y22_5, ey22_5, hS⟩ := bd_s hS
    refine VL.q (q_callR (bytes_Equal_ct q20_4_0 b_0 ey22_5) rfl (fun _ _ => rfl)) (by decide) ?_
    refine VL.q (q_not rfl) (by decide) ?_
    refine VL.to (fun _ _ h => h) ?_
    refine VC.cond rfl (fun h23 => ?_) (fun h23 => ?_)
    ·
      replace hS := it_t h23 hS
      refine VC.seq ?_
      refine VC.region ?_
      refine VL.q (q_move rfl) (by decide) ?_
      refine VL.q (q_ln (s := b_0) Tryz.underlying23 rfl) (by decide) ?_
      refine VL.q (q_mkif Tryz.underlying99 (fun _ h => by cases h) rfl) (by decide) ?_
      refine VL.q (q_build (vs := [(0, str [115, 117, 109]), (1, i64 (b_0.l.length : Int)), (2, (Er.no 12).val)]) (cs := #[str [115, 117, 109], i64 (b_0.l.length : Int), (Er.no 12).val]) rfl (by kernel_rfl)) (by decide) ?_
      refine VL.box (cs := [str [115, 117, 109], i64 (b_0.l.length : Int), (Er.no 12).val]) rfl rfl (by decide) fun b28_6 => ?_
      refine VL.shutB b28_6 ?_
      refine VL.q (q_mkif Tryz.underlying100 (fun _ h => by cases h) rfl) (by decide) ?_
      refine VL.q (q_assign rfl) (by decide) ?_
      refine VL.q (q_assign rfl) (by decide) ?_
      refine VL.to (fun _ _ h => h) ?_
      refine VC.keep [2, 3] rfl ?_
      cases hS
      exact VC.ret (fin2 (.inr rfl) rfl rfl rfl (⟨none, 0, []⟩, (Er.fault b28_6 [115, 117, 109] (b_0.l.length : Int) (Er.no 12))) rfl rfl (by (try dsimp only); exact InM.out) (fun _ _ => trivial))
    ·
      replace hS := it_b h23 hS
      refine VC.skip_to (fun _ _ h => h) ?_
      refine VC.seq ?_
      refine VC.region ?_
      refine VL.q (q_move rfl) (by decide) ?_
      obtain ⟨y31_7, ey31_7, hS⟩ := bd_s hS
      refine VL.callO (slices_Clone_byte_byte_ct s18_2 ey31_7) rfl (by decide) ?_
      rintro q31_7_0 rfl
      try dsimp only
      refine VL.shut q31_7_0 5 (fun _ _ _ _ => trivial) ?_
      obtain ⟨y32_8, ey32_8, hS⟩ := bd_s hS
      refine VL.callF (slices_Clip_byte_byte_ct q31_7_0 ey32_8) rfl (by decide) ?_
      rintro q32_8_0 rfl
      try dsimp only
      refine VL.q (q_assign rfl) (by decide) ?_
      refine VL.q (q_assign rfl) (by decide) ?_
      refine VL.to (fun _ _ h => h) ?_
      refine VC.keep [2, 3] rfl ?_
      cases hS
      exact VC.ret (fin2 (.inr rfl) rfl rfl rfl (q32_8_0, .nil) rfl rfl (by (try dsimp only); exact InM.out) (fun _ _ => trivial))

set_option maxHeartbeats 4000000 in
set_option maxRecDepth 100000 in
theorem codec_Of_ct (b_0 : Sv UInt8) {r : CodecDecP} (hS : Sh.codec_Of b_0.l = some r) :
    Ct Tryz.prog 109 [b_0.val] b_0.ok (Ow.emp) (X := Nat × CodecDec) (fun x => ptr x.1 0) (fun x => r = x.2.pl) (fun x => (x.2.b.ok.and x.2.err.ok)) (fun x => Blk x.1 [x.2.b.val, i64 x.2.at_, x.2.err.val] 244) := by
  refine Ct.of Tryz.func109 rfl (by kernel_rfl) Tryz.ntmps109 (by simp) fun c => ?_
  unfold Sh.codec_Of at hS
  refine VC.seq ?_
  refine VC.region ?_
  refine VL.q (q_assign rfl) (by decide) ?_
  refine VL.to (fun _ _ h => h) ?_
  refine VC.seq ?_
  refine VC.region ?_
  refine VL.q (q_move rfl) (by decide) ?_
  obtain ⟨y4_1, ey4_1, hS⟩ := bd_s hS
  refine VL.callO (slices_Clone_byte_byte_ct b_0 ey4_1) rfl (by decide) ?_
  rintro q4_1_0 rfl
  try dsimp only
  refine VL.q (q_build (vs := [(0, q4_1_0.val)]) (cs := #[q4_1_0.val, i64 0, .nilIface]) rfl (by kernel_rfl)) (by decide) ?_
  refine VL.box (cs := [q4_1_0.val, i64 0, .nilIface]) rfl rfl (by decide) fun b6_2 => ?_
  refine VL.q (q_assign rfl) (by decide) ?_
  refine VL.to (fun _ _ h => h) ?_
  refine VC.shut q4_1_0 5 (fun _ _ _ _ => trivial) ?_
  refine VC.reB b6_2 (cs' := [q4_1_0.val, i64 0, (Er.nil).val]) rfl ?_
  cases hS
  exact VC.ret (fin1 (.inr rfl) rfl rfl (b6_2, ⟨q4_1_0, 0, (Er.nil)⟩) rfl rfl (by (try dsimp only); exact InM.out) (by (try dsimp only); exact EntO.out))

set_option maxHeartbeats 4000000 in
set_option maxRecDepth 100000 in
theorem codec_Dec_uint_ct (d_0_b : Nat) (d_0 : CodecDec) {r : Int × Int × CodecDecP} (hS : Sh.codec_Dec_uint d_0.pl = some r) :
    Ct Tryz.prog 185 [ptr d_0_b 0] (d_0.b.ok.and d_0.err.ok) (Blk d_0_b [d_0.b.val, i64 d_0.at_, d_0.err.val] 244) (X := Int × Int × CodecDec) (fun x => .tuple #[.int .u64 x.1, i64 x.2.1]) (fun x => r = (x.1, x.2.1, x.2.2.pl)) (fun x => (x.2.2.b.ok.and x.2.2.err.ok)) (fun x => Blk d_0_b [x.2.2.b.val, i64 x.2.2.at_, x.2.2.err.val] 244) := by
  refine Ct.of Tryz.func185 rfl (by kernel_rfl) Tryz.ntmps185 (by simp) fun c => ?_
  unfold Sh.codec_Dec_uint at hS
  refine VC.seq ?_
  refine VC.region ?_
  refine VL.q (q_assign rfl) (by decide) ?_
  refine VL.q (q_assign rfl) (by decide) ?_
  refine VL.to (fun _ _ h => h) ?_
  refine VC.seq ?_
  refine VC.region ?_
  refine VL.q (q_assign rfl) (by decide) ?_
  refine VL.to (fun _ _ h => h) ?_
  refine VC.seq ?_
  refine VC.seq ?_
  refine VC.region ?_
  refine VL.q (q_move rfl) (by decide) ?_
  refine VL.to (fun _ _ h => h) ?_
  refine VC.block ?_
  refine VC.iter (S := Int × Int) (fun sg => (sg.1, sg.2)) (fun sg => [(0, ptr d_0_b 0), (4, .int .u64 sg.1), (7, i64 sg.2)]) (fun sg => Mo.tt) (fun sg => Ow.star (Blk d_0_b [d_0.b.val, i64 d_0.at_, d_0.err.val] 244) (Ow.emp)) (0, 0) [0, 4, 7] hS rfl ?_
  clear hS
  rintro ⟨v4_1, x7_2⟩ m1 y1 hS hK1
  show VC _ _ _ _ _ [(0, ptr d_0_b 0), (4, .int .u64 v4_1), (7, i64 x7_2)] (Mo.and Mo.tt _) (Ow.star (Blk d_0_b [d_0.b.val, i64 d_0.at_, d_0.err.val] 244) (Ow.emp))
  refine VC.seq ?_
  refine VC.region ?_
  refine VL.q (q_lss rfl rfl) (by decide) ?_
  refine VL.to (fun _ _ h => h) ?_
  refine VC.seq ?_
  refine VC.cond_dec rfl (fun h8 => ?_) (fun h8 => ?_)
  ·
    replace hS := it_t h8 hS
    refine VC.skip_to (fun _ _ h => h) ?_
    refine VC.seq ?_
    refine VC.block ?_
    refine VC.seq ?_
    refine VC.region ?_
    refine VL.q (q_move rfl) (by decide) ?_
    refine VL.q (q_assign rfl) (by decide) ?_
    refine VL.to (fun _ _ h => h) ?_
    refine VC.seq ?_
    refine VC.seq ?_
    refine VC.draw ((List.range 12).map fun k => (k, true)) mixed (by kernel_rfl) (by kernel_rfl) (by kernel_rfl) ?_
    refine VD.q rfl (q_move rfl) (by decide) ?_
    refine VD.q rfl (q_nilCheck rfl) (by decide) ?_
    refine VD.q rfl (q_field gfa244_1 rfl) (by decide) ?_
    refine VD.q rfl (q_fe gone3 rfl rfl) (by decide) ?_
    refine VD.q rfl (q_move rfl) (by decide) ?_
    obtain ⟨b15, hS⟩ := gd_s hS
    refine VD.q rfl (q_add rfl rfl b15) (by decide) ?_
    refine VD.q rfl (q_move rfl) (by decide) ?_
    refine VD.q rfl (q_nilCheck rfl) (by decide) ?_
    refine VD.q rfl (q_field gfa244_0 rfl) (by decide) ?_
    refine VD.q rfl (q_fe gone23 rfl rfl) (by decide) ?_
    refine VD.q rfl (q_ln (s := d_0.b) Tryz.underlying23 rfl) (by decide) ?_
    refine VD.q rfl (q_geq rfl rfl) (by decide) ?_
    refine VD.to (fun _ _ h => h) ?_
    refine VC.keep [0, 4, 7, 5, 21] rfl ?_
    refine VC.cond_dec rfl (fun h21 => ?_) (fun h21 => ?_)
    ·
      replace hS := it_t h21 hS
      refine VC.seq ?_
      refine VC.region ?_
      refine VL.q (q_assign rfl) (by decide) ?_
      refine VL.q (q_assign rfl) (by decide) ?_
      refine VL.to (fun _ _ h => h) ?_
      replace hS := up2 hS hK1
      cases hS
      exact VC.ret (fin2 (.inr rfl) rfl rfl rfl (0, 3, ⟨d_0.b, d_0.at_, d_0.err⟩) rfl rfl (by (try dsimp only); exact InM.out) (by (try dsimp only); exact EntO.out))
    ·
      replace hS := it_f h21 hS
      refine VC.skip_to (fun _ _ h => h) ?_
      refine VC.seq ?_
      refine VC.draw ((List.range 13).map fun k => (k, true)) mixed (by kernel_rfl) (by kernel_rfl) (by kernel_rfl) ?_
      refine VD.q rfl (q_move rfl) (by decide) ?_
      refine VD.q rfl (q_nilCheck rfl) (by decide) ?_
      refine VD.q rfl (q_field gfa244_0 rfl) (by decide) ?_
      refine VD.q rfl (q_fe gone23 rfl rfl) (by decide) ?_
      refine VD.q rfl (q_move rfl) (by decide) ?_
      refine VD.q rfl (q_nilCheck rfl) (by decide) ?_
      refine VD.q rfl (q_field gfa244_1 rfl) (by decide) ?_
      refine VD.q rfl (q_fe gone3 rfl rfl) (by decide) ?_
      refine VD.q rfl (q_move rfl) (by decide) ?_
      obtain ⟨b31, hS⟩ := gd_s hS
      refine VD.q rfl (q_add rfl rfl b31) (by decide) ?_
      obtain ⟨z32_3, nz32_3, hz32_3, hS⟩ := at_s hS
      refine VD.q rfl (q_ixm (s := d_0.b) Tryz.underlying23 gsz5 rfl rfl nz32_3 (lt_of_get nz32_3 hz32_3)) (by decide) ?_
      refine VD.q rfl (q_el (s := d_0.b) gone5 rfl hz32_3 rfl) (by decide) ?_
      refine VD.q rfl (q_assign rfl) (by decide) ?_
      refine VD.to (fun _ _ h => h) ?_
      refine VC.keep [0, 4, 7, 5, 6] rfl ?_
      refine VC.cutJ (S := Unit) (fun (_ : Unit) => ()) (fun (_ : Unit) => [(0, ptr d_0_b 0), (4, .int .u64 v4_1), (5, i64 x7_2), (6, .int .u8 (z32_3.toNat : Int)), (7, i64 x7_2)]) (fun (_ : Unit) => Mo.tt) (fun (_ : Unit) => Ow.star (Blk d_0_b [d_0.b.val, i64 d_0.at_, d_0.err.val] 244) (Ow.emp)) hS ?_ ?_
      · -- up to where ways meet
        clear hS
        intro k4 hS
        refine VC.seq ?_
        refine VC.region ?_
        refine VL.q (q_move rfl) (by decide) ?_
        refine VL.q (q_eql rfl rfl) (by decide) ?_
        refine VL.q (q_move rfl) (by decide) ?_
        refine VL.split_dec 36 rfl (fun h36 => ?_) (fun h36 => ?_)
        ·
          replace hS := it_t h36 hS
          refine VL.gy rfl rfl (q_move rfl) (by decide) ?_
          refine VL.gy rfl rfl (q_gtr rfl rfl) (by decide) ?_
          refine VL.q (q_pick_t rfl rfl) (by decide) ?_
          refine VL.q (q_move rfl) (by decide) ?_
          refine VL.split_dec 40 rfl (fun h40 => ?_) (fun h40 => ?_)
          ·
            replace hS := it_t h40 hS
            refine VL.gn rfl rfl rfl (by decide) ?_
            refine VL.gn rfl rfl rfl (by decide) ?_
            refine VL.gn rfl rfl rfl (by decide) ?_
            refine VL.gu rfl rfl (by decide) ?_
            refine VL.gu rfl rfl (by decide) ?_
            refine VL.gn rfl rfl rfl (by decide) ?_
            refine VL.q (q_pick_t rfl rfl) (by decide) ?_
            refine VL.to (fun _ _ h => h) ?_
            refine VC.keep [0, 4, 7, 5, 6, 47] rfl ?_
            refine VC.cond_t rfl ?_
            replace hS := up2 hS hK1
            refine VC.exit_to (fun _ _ h => h) ?_
            refine VC.seq ?_
            refine VC.region ?_
            refine VL.q (q_assign rfl) (by decide) ?_
            refine VL.q (q_assign rfl) (by decide) ?_
            refine VL.to (fun _ _ h => h) ?_
            cases hS
            exact VC.ret (fin2 (.inr rfl) rfl rfl rfl (0, 2, ⟨d_0.b, d_0.at_, d_0.err⟩) rfl rfl (by (try dsimp only); exact InM.out) (by (try dsimp only); exact EntO.out))
          ·
            replace hS := it_f h40 hS
            refine VL.gy rfl rfl (q_move rfl) (by decide) ?_
            refine VL.gy rfl rfl (q_gtr rfl rfl) (by decide) ?_
            refine VL.gy rfl rfl (q_move rfl) (by decide) ?_
            refine VL.split_dec 43 rfl (fun h43 => ?_) (fun h43 => ?_)
            ·
              replace hS := it_t h43 hS
              refine VL.gy rfl rfl (q_move rfl) (by decide) ?_
              refine VL.gy rfl rfl (q_eql rfl rfl) (by decide) ?_
              refine VL.gy rfl rfl (q_pick_t rfl rfl) (by decide) ?_
              refine VL.q (q_pick_f rfl rfl) (by decide) ?_
              refine VL.to (fun _ _ h => h) ?_
              refine VC.keep [0, 4, 7, 5, 6, 47] rfl ?_
              refine VC.cond_dec rfl (fun h47 => ?_) (fun h47 => ?_)
              ·
                replace hS := it_t h47 hS
                replace hS := up2 hS hK1
                refine VC.exit_to (fun _ _ h => h) ?_
                refine VC.seq ?_
                refine VC.region ?_
                refine VL.q (q_assign rfl) (by decide) ?_
                refine VL.q (q_assign rfl) (by decide) ?_
                refine VL.to (fun _ _ h => h) ?_
                cases hS
                exact VC.ret (fin2 (.inr rfl) rfl rfl rfl (0, 2, ⟨d_0.b, d_0.at_, d_0.err⟩) rfl rfl (by (try dsimp only); exact InM.out) (by (try dsimp only); exact EntO.out))
              ·
                replace hS := it_f h47 hS
                refine VC.skip_mt () [0, 4, 5, 6, 7] (fun _ _ h => h) hS rfl
            ·
              replace hS := it_f h43 hS
              refine VL.gn rfl rfl rfl (by decide) ?_
              refine VL.gn rfl rfl rfl (by decide) ?_
              refine VL.gy rfl rfl (q_pick_f rfl rfl) (by decide) ?_
              refine VL.q (q_pick_f rfl rfl) (by decide) ?_
              refine VL.to (fun _ _ h => h) ?_
              refine VC.keep [0, 4, 7, 5, 6, 47] rfl ?_
              refine VC.cond_f rfl ?_
              refine VC.skip_mt () [0, 4, 5, 6, 7] (fun _ _ h => h) hS rfl
        ·
          replace hS := it_f h36 hS
          refine VL.gn rfl rfl rfl (by decide) ?_
          refine VL.gn rfl rfl rfl (by decide) ?_
          refine VL.q (q_pick_f rfl rfl) (by decide) ?_
          refine VL.q (q_move rfl) (by decide) ?_
          refine VL.gy rfl rfl (q_move rfl) (by decide) ?_
          refine VL.gy rfl rfl (q_gtr rfl rfl) (by decide) ?_
          refine VL.gy rfl rfl (q_move rfl) (by decide) ?_
          refine VL.split_dec 43 rfl (fun h43 => ?_) (fun h43 => ?_)
          ·
            replace hS := it_t h43 hS
            refine VL.gy rfl rfl (q_move rfl) (by decide) ?_
            refine VL.gy rfl rfl (q_eql rfl rfl) (by decide) ?_
            refine VL.gy rfl rfl (q_pick_t rfl rfl) (by decide) ?_
            refine VL.q (q_pick_f rfl rfl) (by decide) ?_
            refine VL.to (fun _ _ h => h) ?_
            refine VC.keep [0, 4, 7, 5, 6, 47] rfl ?_
            refine VC.cond_dec rfl (fun h47 => ?_) (fun h47 => ?_)
            ·
              replace hS := it_t h47 hS
              replace hS := up2 hS hK1
              refine VC.exit_to (fun _ _ h => h) ?_
              refine VC.seq ?_
              refine VC.region ?_
              refine VL.q (q_assign rfl) (by decide) ?_
              refine VL.q (q_assign rfl) (by decide) ?_
              refine VL.to (fun _ _ h => h) ?_
              cases hS
              exact VC.ret (fin2 (.inr rfl) rfl rfl rfl (0, 2, ⟨d_0.b, d_0.at_, d_0.err⟩) rfl rfl (by (try dsimp only); exact InM.out) (by (try dsimp only); exact EntO.out))
            ·
              replace hS := it_f h47 hS
              refine VC.skip_mt () [0, 4, 5, 6, 7] (fun _ _ h => h) hS rfl
          ·
            replace hS := it_f h43 hS
            refine VL.gn rfl rfl rfl (by decide) ?_
            refine VL.gn rfl rfl rfl (by decide) ?_
            refine VL.gy rfl rfl (q_pick_f rfl rfl) (by decide) ?_
            refine VL.q (q_pick_f rfl rfl) (by decide) ?_
            refine VL.to (fun _ _ h => h) ?_
            refine VC.keep [0, 4, 7, 5, 6, 47] rfl ?_
            refine VC.cond_f rfl ?_
            refine VC.skip_mt () [0, 4, 5, 6, 7] (fun _ _ h => h) hS rfl
      · -- from there
        clear hS
        rintro _ hS
        show VC _ _ _ _ _ [(0, ptr d_0_b 0), (4, .int .u64 v4_1), (5, i64 x7_2), (6, .int .u8 (z32_3.toNat : Int)), (7, i64 x7_2)] (Mo.and Mo.tt _) (Ow.star (Blk d_0_b [d_0.b.val, i64 d_0.at_, d_0.err.val] 244) (Ow.emp))
        refine VC.seq ?_
        refine VC.region ?_
        refine VL.q (q_move rfl) (by decide) ?_
        refine VL.q (q_move rfl) (by decide) ?_
        refine VL.q (q_and rfl rfl) (by decide) ?_
        refine VL.q (q_convW Tryz.underlying5 Tryz.underlying239 rfl) (by decide) ?_
        refine VL.q (q_move rfl) (by decide) ?_
        obtain ⟨b53, hS⟩ := gd_s hS
        refine VL.q (q_mul rfl rfl b53) (by decide) ?_
        obtain ⟨b54, hS⟩ := gd_s hS
        refine VL.q (q_shl rfl rfl b54) (by decide) ?_
        refine VL.q (q_or rfl rfl) (by decide) ?_
        refine VL.q (q_assign rfl) (by decide) ?_
        refine VL.to (fun _ _ h => h) ?_
        refine VC.keep [0, 4, 5, 6, 7] rfl ?_
        refine VC.seq ?_
        refine VC.region ?_
        refine VL.q (q_move rfl) (by decide) ?_
        refine VL.q (q_lss rfl rfl) (by decide) ?_
        refine VL.to (fun _ _ h => h) ?_
        refine VC.cond_dec rfl (fun h57 => ?_) (fun h57 => ?_)
        ·
          replace hS := it_t h57 hS
          refine VC.seq ?_
          refine VC.region ?_
          refine VL.q (q_move rfl) (by decide) ?_
          refine VL.q (q_nilCheck rfl) (by decide) ?_
          refine VL.q (q_field gfa244_1 rfl) (by decide) ?_
          refine VL.q (q_fe gone3 rfl rfl) (by decide) ?_
          refine VL.q (q_move rfl) (by decide) ?_
          obtain ⟨b63, hS⟩ := gd_s hS
          refine VL.q (q_add rfl rfl b63) (by decide) ?_
          obtain ⟨b64, hS⟩ := gd_s hS
          refine VL.q (q_add rfl rfl b64) (by decide) ?_
          refine VL.q (q_nilCheck rfl) (by decide) ?_
          refine VL.q (q_field gfa244_1 rfl) (by decide) ?_
          refine VL.store (vc := [i64 (d_0.at_ + (x7_2 + 1))]) (cs' := [d_0.b.val, i64 (d_0.at_ + (x7_2 + 1)), d_0.err.val]) rfl rfl rfl gsz3 rfl rfl (Nat.le_of_ble_eq_true rfl) rfl ?_
          refine VL.to (fun _ _ h => h) ?_
          refine VC.keep [4] rfl ?_
          refine VC.seq ?_
          refine VC.region ?_
          refine VL.q (q_move rfl) (by decide) ?_
          refine VL.q (q_assign rfl) (by decide) ?_
          refine VL.q (q_assign rfl) (by decide) ?_
          refine VL.to (fun _ _ h => h) ?_
          replace hS := up2 hS hK1
          cases hS
          exact VC.ret (fin2 (.inr rfl) rfl rfl rfl ((bOr .u64 v4_1 (sHl .u64 (IntKind.wrap .u64 (bAnd .u8 (z32_3.toNat : Int) 127)) (7 * x7_2))), 0, ⟨d_0.b, (d_0.at_ + (x7_2 + 1)), d_0.err⟩) rfl rfl (by (try dsimp only); exact InM.out) (by (try dsimp only); exact EntO.out))
        ·
          replace hS := it_f h57 hS
          refine VC.skip_to (fun _ _ h => h) ?_
          refine VC.region ?_
          obtain ⟨b68, hS⟩ := gd_s hS
          refine VL.q (q_add rfl rfl b68) (by decide) ?_
          refine VL.q (q_move rfl) (by decide) ?_
          refine VL.rnd ((bOr .u64 v4_1 (sHl .u64 (IntKind.wrap .u64 (bAnd .u8 (z32_3.toNat : Int) 127)) (7 * x7_2))), (x7_2 + 1)) [0, 4, 7] (fun _ _ h => h) (go2 hS hK1) rfl
  ·
    replace hS := it_f h8 hS
    replace hS := up2 hS hK1
    refine VC.exit_to (fun _ _ h => h) ?_
    refine VC.seq ?_
    refine VC.region ?_
    refine VL.q (q_assign rfl) (by decide) ?_
    refine VL.q (q_assign rfl) (by decide) ?_
    refine VL.to (fun _ _ h => h) ?_
    cases hS
    exact VC.ret (fin2 (.inr rfl) rfl rfl rfl (0, 2, ⟨d_0.b, d_0.at_, d_0.err⟩) rfl rfl (by (try dsimp only); exact InM.out) (by (try dsimp only); exact EntO.out))

set_option maxHeartbeats 4000000 in
set_option maxRecDepth 100000 in
theorem codec_Dec_fail_ct (d_0_b : Nat) (d_0 : CodecDec) (at_1 : Int) (e_2 : Int) {r : CodecDecP} (hS : Sh.codec_Dec_fail d_0.pl at_1 e_2 = some r) :
    Ct Tryz.prog 186 [ptr d_0_b 0, i64 at_1, i64 e_2] (d_0.b.ok.and d_0.err.ok) (Blk d_0_b [d_0.b.val, i64 d_0.at_, d_0.err.val] 244) (X := CodecDec) (fun x => .tuple #[]) (fun x => r = x.pl) (fun x => (x.b.ok.and x.err.ok)) (fun x => Blk d_0_b [x.b.val, i64 x.at_, x.err.val] 244) := by
  refine Ct.of Tryz.func186 rfl (by kernel_rfl) Tryz.ntmps186 (by simp) fun c => ?_
  unfold Sh.codec_Dec_fail at hS
  refine VC.region ?_
  refine VL.q (q_move rfl) (by decide) ?_
  refine VL.q (q_move rfl) (by decide) ?_
  refine VL.q (q_move rfl) (by decide) ?_
  refine VL.q (q_mkif Tryz.underlying99 (fun _ h => by cases h) rfl) (by decide) ?_
  refine VL.q (q_build (vs := [(0, str [98, 121, 116, 101]), (1, i64 at_1), (2, (Er.no e_2).val)]) (cs := #[str [98, 121, 116, 101], i64 at_1, (Er.no e_2).val]) rfl (by kernel_rfl)) (by decide) ?_
  refine VL.box (cs := [str [98, 121, 116, 101], i64 at_1, (Er.no e_2).val]) rfl rfl (by decide) fun b11_1 => ?_
  refine VL.shutB b11_1 ?_
  refine VL.q (q_mkif Tryz.underlying100 (fun _ h => by cases h) rfl) (by decide) ?_
  refine VL.q (q_nilCheck rfl) (by decide) ?_
  refine VL.q (q_field gfa244_2 rfl) (by decide) ?_
  refine VL.store (vc := [(Er.fault b11_1 [98, 121, 116, 101] at_1 (Er.no e_2)).val]) (cs' := [d_0.b.val, i64 d_0.at_, (Er.fault b11_1 [98, 121, 116, 101] at_1 (Er.no e_2)).val]) rfl rfl rfl gsz38 rfl rfl (Nat.le_of_ble_eq_true rfl) rfl ?_
  cases hS
  exact VL.nil (fin0 (.inl rfl) rfl ⟨d_0.b, d_0.at_, (Er.fault b11_1 [98, 121, 116, 101] at_1 (Er.no e_2))⟩ rfl rfl (by (try dsimp only); exact InM.out) (by (try dsimp only); exact EntO.out))

set_option maxHeartbeats 4000000 in
set_option maxRecDepth 100000 in
theorem codec_Dec_Int_ct (d_0_b : Nat) (d_0 : CodecDec) {r : Int × CodecDecP} (hS : Sh.codec_Dec_Int d_0.pl = some r) :
    Ct Tryz.prog 125 [ptr d_0_b 0] (d_0.b.ok.and d_0.err.ok) (Blk d_0_b [d_0.b.val, i64 d_0.at_, d_0.err.val] 244) (X := Int × CodecDec) (fun x => i64 x.1) (fun x => r = (x.1, x.2.pl)) (fun x => (x.2.b.ok.and x.2.err.ok)) (fun x => Blk d_0_b [x.2.b.val, i64 x.2.at_, x.2.err.val] 244) := by
  refine Ct.of Tryz.func125 rfl (by kernel_rfl) Tryz.ntmps125 (by simp) fun c => ?_
  unfold Sh.codec_Dec_Int at hS
  refine VC.seq ?_
  refine VC.region ?_
  refine VL.q (q_assign rfl) (by decide) ?_
  refine VL.to (fun _ _ h => h) ?_
  refine VC.seq ?_
  refine VC.seq ?_
  refine VC.region ?_
  refine VL.q (q_move rfl) (by decide) ?_
  refine VL.q (q_nilCheck rfl) (by decide) ?_
  refine VL.q (q_field gfa244_2 rfl) (by decide) ?_
  refine VL.q (q_fe gone38 rfl rfl) (by decide) ?_
  refine VL.q (q_erne Tryz.underlying38 rfl) (by decide) ?_
  refine VL.to (fun _ _ h => h) ?_
  refine VC.cond_ndec rfl (fun h10 => ?_) (fun h10 => ?_)
  ·
    replace hS := it_f h10 hS
    refine VC.seq ?_
    refine VC.region ?_
    refine VL.q (q_assign rfl) (by decide) ?_
    refine VL.to (fun _ _ h => h) ?_
    cases hS
    exact VC.ret (fin1 (.inr rfl) rfl rfl (0, ⟨d_0.b, d_0.at_, d_0.err⟩) rfl rfl (by (try dsimp only); exact InM.out) (by (try dsimp only); exact EntO.out))
  ·
    replace hS := it_t h10 hS
    refine VC.skip_to (fun _ _ h => h) ?_
    refine VC.seq ?_
    refine VC.region ?_
    refine VL.q (q_move rfl) (by decide) ?_
    refine VL.q (q_nilCheck rfl) (by decide) ?_
    refine VL.q (q_field gfa244_1 rfl) (by decide) ?_
    refine VL.q (q_fe gone3 rfl rfl) (by decide) ?_
    refine VL.q (q_assign rfl) (by decide) ?_
    refine VL.to (fun _ _ h => h) ?_
    refine VC.keep [0, 3] rfl ?_
    refine VC.seq ?_
    refine VC.region ?_
    refine VL.q (q_move rfl) (by decide) ?_
    obtain ⟨y17_1, ey17_1, hS⟩ := bd_s hS
    refine VL.callO (codec_Dec_uint_ct d_0_b d_0 ey17_1) rfl (by decide) ?_
    rintro ⟨q17_1_0, q17_1_1, q17_1_2⟩ rfl
    try dsimp only
    refine VL.q (q_move rfl) (by decide) ?_
    refine VL.q (q_extract rfl rfl) (by decide) ?_
    refine VL.q (q_extract rfl rfl) (by decide) ?_
    refine VL.q (q_assign rfl) (by decide) ?_
    refine VL.q (q_assign rfl) (by decide) ?_
    refine VL.to (fun _ _ h => h) ?_
    refine VC.seq ?_
    refine VC.seq ?_
    refine VC.region ?_
    refine VL.q (q_move rfl) (by decide) ?_
    refine VL.q (q_neq rfl rfl) (by decide) ?_
    refine VL.to (fun _ _ h => h) ?_
    refine VC.cond_ndec rfl (fun h21 => ?_) (fun h21 => ?_)
    ·
      replace hS := it_f h21 hS
      refine VC.seq ?_
      refine VC.region ?_
      refine VL.q (q_move rfl) (by decide) ?_
      refine VL.q (q_move rfl) (by decide) ?_
      refine VL.q (q_move rfl) (by decide) ?_
      obtain ⟨y25_2, ey25_2, hS⟩ := bd_s hS
      refine VL.callO (codec_Dec_fail_ct d_0_b q17_1_2 d_0.at_ q17_1_1 ey25_2) rfl (by decide) ?_
      rintro q25_2_0 rfl
      try dsimp only
      refine VL.to (fun _ _ h => h) ?_
      refine VC.keep [] rfl ?_
      refine VC.seq ?_
      refine VC.region ?_
      refine VL.q (q_assign rfl) (by decide) ?_
      refine VL.to (fun _ _ h => h) ?_
      cases hS
      exact VC.ret (fin1 (.inr rfl) rfl rfl (0, ⟨q25_2_0.b, q25_2_0.at_, q25_2_0.err⟩) rfl rfl (by (try dsimp only); exact InM.out) (by (try dsimp only); exact EntO.out))
    ·
      replace hS := it_t h21 hS
      refine VC.skip_to (fun _ _ h => h) ?_
      refine VC.keep [4] rfl ?_
      refine VC.seq ?_
      refine VC.region ?_
      refine VL.q (q_move rfl) (by decide) ?_
      refine VL.q (q_shr rfl rfl (by decide)) (by decide) ?_
      refine VL.q (q_convW Tryz.underlying239 Tryz.underlying2 rfl) (by decide) ?_
      refine VL.q (q_move rfl) (by decide) ?_
      refine VL.q (q_and rfl rfl) (by decide) ?_
      refine VL.q (q_convW Tryz.underlying239 Tryz.underlying2 rfl) (by decide) ?_
      refine VL.q (q_neg rfl) (by decide) ?_
      refine VL.q (q_xor rfl rfl) (by decide) ?_
      refine VL.q (q_assign rfl) (by decide) ?_
      refine VL.to (fun _ _ h => h) ?_
      cases hS
      exact VC.ret (fin1 (.inr rfl) rfl rfl ((bXor .i64 (IntKind.wrap .i64 (sHr .u64 q17_1_0 1)) (IntKind.wrap .i64 (0 - (IntKind.wrap .i64 (bAnd .u64 q17_1_0 1))))), ⟨q17_1_2.b, q17_1_2.at_, q17_1_2.err⟩) rfl rfl (by (try dsimp only); exact InM.out) (by (try dsimp only); exact EntO.out))

end Go.Proofs.YtipnlckfohhkbaaGreatDoor
end
