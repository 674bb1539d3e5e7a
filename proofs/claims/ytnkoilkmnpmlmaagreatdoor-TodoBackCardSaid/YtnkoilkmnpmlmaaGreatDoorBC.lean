/- Part of the proofs of: Any steps in words and back, and whether they can be done on any commits, and the first that can not: as the document has it, for any steps and any graph. -/
import Derived.Test.YtnkoilkmnpmlmaaGreatDoorRows
import Derived.Test.YtnkoilkmnpmlmaaGreatDoorBB
set_option linter.unusedVariables false
set_option linter.unusedSimpArgs false
set_option linter.unusedSectionVars false
section
set_option linter.unusedVariables false
namespace Go.Proofs.YtnkoilkmnpmlmaaGreatDoor
open Go.RowKit Go.V
open Go.S hiding Str
theorem mixed : Tryz.prog.follows .mixedOrders = true := by kernel_rfl
theorem gszb : (Tryz.prog.info? 125).map (·.size) = some 2 := by kernel_rfl
theorem gappb : ((Tryz.prog.info? 5).map fun i => (i.size, i.bytes, i.zero)) = some (1, 1, some (.int .u8 0)) := by kernel_rfl
theorem gfa125_0 : FieldAt Tryz.prog 125 0 0 := fieldAt_sz (n := 0) (f := ⟨_, _, 0, _, _, _, _⟩) Tryz.underlying125 rfl (by kernel_rfl)
theorem gfa125_1 : FieldAt Tryz.prog 125 1 1 := fieldAt_sz (n := 0) (f := ⟨_, _, 1, _, _, _, _⟩) Tryz.underlying125 rfl (by kernel_rfl)
theorem gone123 : OneCell Tryz.prog 123 := oneCell_of Tryz.underlying123 rfl
theorem gone51 : OneCell Tryz.prog 51 := oneCell_of Tryz.underlying51 rfl
theorem gsz123 : (Tryz.prog.info? 123).map (·.size) = some 1 := by kernel_rfl
theorem gsz51 : (Tryz.prog.info? 51).map (·.size) = some 1 := by kernel_rfl
theorem gfa107_2 : FieldAt Tryz.prog 107 2 2 := fieldAt_sz (n := 0) (f := ⟨_, _, 2, _, _, _, _⟩) Tryz.underlying107 rfl (by kernel_rfl)
theorem gone25 : OneCell Tryz.prog 25 := oneCell_of Tryz.underlying25 rfl
theorem gmk9 : ((Tryz.prog.info? 9).map fun i => (i.size, i.bytes, i.zero.map fun z => z.cells.toList)) = some (1, 16, some [str []]) := by kernel_rfl
theorem gsz9 : (Tryz.prog.info? 9).map (·.size) = some 1 := by kernel_rfl
theorem gone9 : OneCell Tryz.prog 9 := oneCell_of Tryz.underlying9 rfl
theorem gsz41 : (Tryz.prog.info? 41).map (·.size) = some 3 := by kernel_rfl
theorem gsz5 : (Tryz.prog.info? 5).map (·.size) = some 1 := by kernel_rfl
theorem gone5 : OneCell Tryz.prog 5 := oneCell_of Tryz.underlying5 rfl
theorem gagg41 : AggOf Tryz.prog 41 3 := aggOf_of Tryz.underlying41 rfl (by kernel_rfl)
theorem glit41 : ((Tryz.prog.info? 41).map fun i => (i.size, i.zero.isSome)) = some (3, true) := by kernel_rfl
theorem gapp41 : ((Tryz.prog.info? 41).map fun i => (i.size, i.bytes, (i.zero.map fun z => z.cells.size))) = some (3, 40, some 3) := by kernel_rfl
theorem glit3 : ((Tryz.prog.info? 3).map fun i => (i.size, i.zero.isSome)) = some (1, true) := by kernel_rfl
theorem glit53 : ((Tryz.prog.info? 53).map fun i => (i.size, i.zero.isSome)) = some (1, true) := by kernel_rfl
theorem gmk4 : ((Tryz.prog.info? 4).map fun i => (i.size, i.bytes, i.zero.map fun z => z.cells.toList)) = some (1, 1, some [.bool false]) := by kernel_rfl
theorem ghas3 : ((Tryz.prog.info? 3).map (·.size)).isSome = true := by kernel_rfl
theorem gapp3 : ((Tryz.prog.info? 3).map fun i => (i.size, i.bytes, (i.zero.map fun z => z.cells.size))) = some (1, 8, some 1) := by kernel_rfl
theorem gsz3 : (Tryz.prog.info? 3).map (·.size) = some 1 := by kernel_rfl
theorem gone3 : OneCell Tryz.prog 3 := oneCell_of Tryz.underlying3 rfl
theorem gsz4 : (Tryz.prog.info? 4).map (·.size) = some 1 := by kernel_rfl
theorem gone4 : OneCell Tryz.prog 4 := oneCell_of Tryz.underlying4 rfl
theorem gsz53 : (Tryz.prog.info? 53).map (·.size) = some 1 := by kernel_rfl
theorem gone53 : OneCell Tryz.prog 53 := oneCell_of Tryz.underlying53 rfl
theorem gfa41_2 : FieldAt Tryz.prog 41 2 2 := fieldAt_sz (n := 0) (f := ⟨_, _, 2, _, _, _, _⟩) Tryz.underlying41 rfl (by kernel_rfl)
theorem gfa41_0 : FieldAt Tryz.prog 41 0 0 := fieldAt_sz (n := 0) (f := ⟨_, _, 0, _, _, _, _⟩) Tryz.underlying41 rfl (by kernel_rfl)
theorem gfa41_1 : FieldAt Tryz.prog 41 1 1 := fieldAt_sz (n := 0) (f := ⟨_, _, 1, _, _, _, _⟩) Tryz.underlying41 rfl (by kernel_rfl)
theorem glit9 : ((Tryz.prog.info? 9).map fun i => (i.size, i.zero.isSome)) = some (1, true) := by kernel_rfl
theorem gapp9 : ((Tryz.prog.info? 9).map fun i => (i.size, i.bytes, (i.zero.map fun z => z.cells.size))) = some (1, 16, some 1) := by kernel_rfl
theorem gsz111 : (Tryz.prog.info? 111).map (·.size) = some 3 := by kernel_rfl
theorem gagg111 : AggOf Tryz.prog 111 3 := aggOf_of Tryz.underlying111 rfl (by kernel_rfl)
theorem glit120 : ((Tryz.prog.info? 120).map fun i => (i.size, i.zero.isSome)) = some (2, true) := by kernel_rfl
theorem gsz31 : (Tryz.prog.info? 31).map (·.size) = some 2 := by kernel_rfl
theorem gagg31 : AggOf Tryz.prog 31 2 := aggOf_of Tryz.underlying31 rfl (by kernel_rfl)
theorem glit111 : ((Tryz.prog.info? 111).map fun i => (i.size, i.zero.isSome)) = some (3, true) := by kernel_rfl
theorem gapp111 : ((Tryz.prog.info? 111).map fun i => (i.size, i.bytes, (i.zero.map fun z => z.cells.size))) = some (3, 40, some 3) := by kernel_rfl
theorem gfa31_1 : FieldAt Tryz.prog 31 1 1 := fieldAt_sz (n := 0) (f := ⟨_, _, 1, _, _, _, _⟩) Tryz.underlying31 rfl (by kernel_rfl)
theorem gfa107_0 : FieldAt Tryz.prog 107 0 0 := fieldAt_sz (n := 0) (f := ⟨_, _, 0, _, _, _, _⟩) Tryz.underlying107 rfl (by kernel_rfl)
theorem gfa107_1 : FieldAt Tryz.prog 107 1 1 := fieldAt_sz (n := 0) (f := ⟨_, _, 1, _, _, _, _⟩) Tryz.underlying107 rfl (by kernel_rfl)
theorem gfa31_0 : FieldAt Tryz.prog 31 0 0 := fieldAt_sz (n := 0) (f := ⟨_, _, 0, _, _, _, _⟩) Tryz.underlying31 rfl (by kernel_rfl)
theorem gone29 : OneCell Tryz.prog 29 := oneCell_of Tryz.underlying29 rfl
theorem gsz120 : (Tryz.prog.info? 120).map (·.size) = some 2 := by kernel_rfl
theorem gfa120_0 : FieldAt Tryz.prog 120 0 0 := fieldAt_sz (n := 0) (f := ⟨_, _, 0, _, _, _, _⟩) Tryz.underlying120 rfl (by kernel_rfl)
theorem gfa120_1 : FieldAt Tryz.prog 120 1 1 := fieldAt_sz (n := 0) (f := ⟨_, _, 1, _, _, _, _⟩) Tryz.underlying120 rfl (by kernel_rfl)
theorem glit5 : ((Tryz.prog.info? 5).map fun i => (i.size, i.zero.isSome)) = some (1, true) := by kernel_rfl
theorem gone105 : OneCell Tryz.prog 105 := oneCell_of Tryz.underlying105 rfl
theorem gfa111_0 : FieldAt Tryz.prog 111 0 0 := fieldAt_sz (n := 0) (f := ⟨_, _, 0, _, _, _, _⟩) Tryz.underlying111 rfl (by kernel_rfl)
theorem gfa111_1 : FieldAt Tryz.prog 111 1 1 := fieldAt_sz (n := 0) (f := ⟨_, _, 1, _, _, _, _⟩) Tryz.underlying111 rfl (by kernel_rfl)
theorem gfa111_2 : FieldAt Tryz.prog 111 2 2 := fieldAt_sz (n := 0) (f := ⟨_, _, 2, _, _, _, _⟩) Tryz.underlying111 rfl (by kernel_rfl)
set_option maxRecDepth 100000 in
theorem copyCheck_ct (b : Nat) (p u : Value) (hp : p = .pointer none ∨ p = ptr b 0) (hu : u.oneCell' = true) : Ct Tryz.prog 120 [ptr b 0] Mo.tt (Blk b [p, u] 125) (X := Unit) (fun _ => .tuple #[]) (fun _ => True) (fun _ => Mo.tt) (fun _ => Blk b [ptr b 0, u] 125) := by
  refine Ct.of Tryz.func120 rfl (by kernel_rfl) Tryz.ntmps120 (by simp) fun c => ?_
  rcases hp with rfl | rfl
  · refine VC.seq ?_
    refine VC.region ?_
    refine VL.q (q_move rfl) (by decide) ?_
    refine VL.q (q_nilCheck rfl) (by decide) ?_
    refine VL.q (q_field gfa125_0 rfl) (by decide) ?_
    refine VL.q (q_fe gone123 rfl rfl) (by decide) ?_
    refine VL.q (q_peqn Tryz.underlying123 rfl) (by decide) ?_
    refine VL.to (fun _ _ h => h) ?_
    refine VC.cond_t rfl ?_
    refine VC.region ?_
    refine VL.q (q_move rfl) (by decide) ?_
    refine VL.q (q_move rfl) (by decide) ?_
    refine VL.q (q_tou (n := 1) Tryz.underlying123 Tryz.underlying186 gszb rfl (by simp)) (by decide) ?_
    refine VL.q (q_noEscape Tryz.func168 rfl rfl (by kernel_rfl) (by kernel_rfl) rfl) (by decide) ?_
    refine VL.q (q_fromu (n := 2) (cs := [.pointer none, u]) Tryz.underlying186 Tryz.underlying123 gszb rfl (by kernel_rfl)) (by decide) ?_
    refine VL.q (q_nilCheck rfl) (by decide) ?_
    refine VL.q (q_field gfa125_0 rfl) (by decide) ?_
    refine VL.store (vc := [ptr b 0]) (cs' := [ptr b 0, u]) rfl rfl rfl gsz123 rfl rfl (Nat.le_of_ble_eq_true rfl) rfl ?_
    exact VL.nil (fin0 (.inl rfl) rfl () rfl trivial (fun _ _ => trivial) (by exact EntO.out))
  · refine VC.seq ?_
    refine VC.region ?_
    refine VL.q (q_move rfl) (by decide) ?_
    refine VL.q (q_nilCheck rfl) (by decide) ?_
    refine VL.q (q_field gfa125_0 rfl) (by decide) ?_
    refine VL.q (q_fe gone123 rfl rfl) (by decide) ?_
    refine VL.q (q_peqn Tryz.underlying123 rfl) (by decide) ?_
    refine VL.to (fun _ _ h => h) ?_
    refine VC.cond_f rfl ?_
    refine VC.seq ?_
    refine VC.region ?_
    refine VL.q (q_move rfl) (by decide) ?_
    refine VL.q (q_nilCheck rfl) (by decide) ?_
    refine VL.q (q_field gfa125_0 rfl) (by decide) ?_
    refine VL.q (q_fe gone123 rfl rfl) (by decide) ?_
    refine VL.q (q_move rfl) (by decide) ?_
    refine VL.q (q_pne Tryz.underlying123 gszb rfl rfl) (by decide) ?_
    refine VL.to (fun _ _ h => h) ?_
    refine VC.cond_f rfl ?_
    exact VC.skip (fin0 (.inl rfl) rfl () rfl trivial (fun _ _ => trivial) (by exact EntO.out))

set_option maxRecDepth 100000 in
theorem writeString_ct (b : Nat) (l s : Str) (hb : l.length + s.length ≤ 4294967296) : Ct Tryz.prog 60 [ptr b 0, str s] Mo.tt (Bd 125 5 b l) (X := Unit) (fun _ => .tuple #[i64 s.length, .nilIface]) (fun _ => True) (fun _ => Mo.tt) (fun _ => Bd 125 5 b (l ++ s)) := by
  refine Ct.monoE (E1 := fun z => ∃ q : Value × Sv UInt8, ((q.1 = .pointer none ∨ q.1 = ptr b 0) ∧ q.2.l = l ∧ (q.2.c = 0 → q.2.a = none)) ∧ Ow.star (Blk b [q.1, q.2.val] 125) (q.2.own 5) z) (Ct.exE (entry_of Tryz.func60 rfl (by kernel_rfl)) ?_) (fun z ⟨p, q, h1, h2, h3, h4⟩ => ⟨(p, q), ⟨h1, h2, h3⟩, h4⟩)
  rintro ⟨p, q⟩ ⟨hp, hl, hc⟩
  dsimp only at hp hl hc ⊢
  refine Ct.of Tryz.func60 rfl (by kernel_rfl) Tryz.ntmps60 (by simp) fun c => ?_
  refine VC.seq ?_
  refine VC.region ?_
  refine VL.q (q_assign rfl) (by decide) ?_
  refine VL.q (q_assign rfl) (by decide) ?_
  refine VL.to (fun _ _ h => h) ?_
  refine VC.seq ?_
  refine VC.region ?_
  refine VL.q (q_move rfl) (by decide) ?_
  refine VL.callO (copyCheck_ct b p q.val hp rfl) rfl (by decide) ?_
  rintro _ _
  refine VL.to (fun _ _ h => h) ?_
  refine VC.seq ?_
  refine VC.region ?_
  refine VL.q (q_move rfl) (by decide) ?_
  refine VL.q (q_move rfl) (by decide) ?_
  refine VL.q (q_nilCheck rfl) (by decide) ?_
  refine VL.q (q_field gfa125_1 rfl) (by decide) ?_
  refine VL.q (q_fe gone51 rfl rfl) (by decide) ?_
  refine VL.q (q_move rfl) (by decide) ?_
  refine VL.appS (s := q) (r := s) Tryz.underlying51 Tryz.underlying9 gappb rfl Fo.out (by rw [hl]; exact hb) (by decide) fun q2 hq2 hc2 => ?_
  refine VL.q (q_nilCheck rfl) (by decide) ?_
  refine VL.q (q_field gfa125_1 rfl) (by decide) ?_
  refine VL.store (vc := [q2.val]) (cs' := [ptr b 0, q2.val]) rfl rfl rfl gsz51 rfl rfl (Nat.le_of_ble_eq_true rfl) rfl ?_
  refine VL.to (fun _ _ h => h) ?_
  refine VC.seq ?_
  refine VC.region ?_
  refine VL.q (q_move rfl) (by decide) ?_
  refine VL.q (q_slen Tryz.underlying9 rfl) (by decide) ?_
  refine VL.q (q_assign rfl) (by decide) ?_
  refine VL.q (q_assign rfl) (by decide) ?_
  refine VL.to (fun _ _ h => h) ?_
  exact VC.ret (fin2 (.inr rfl) rfl rfl rfl () rfl trivial (fun _ _ => trivial) (fun z hz => Bd.mk (p := ptr b 0) (s := q2) (.inr rfl) (by rw [hq2, hl]) (hc2 hc) ((EntO.out (E' := Ow.star (Blk b [ptr b 0, q2.val] 125) (q2.own 5))) z hz)))

set_option maxRecDepth 100000 in
theorem string_ct (b : Nat) (l : Str) : Ct Tryz.prog 62 [ptr b 0] Mo.tt (Bd 125 5 b l) (X := Unit) (fun _ => str l) (fun _ => True) (fun _ => Mo.tt) (fun _ => Ow.emp) := by
  refine Ct.monoE (E1 := fun z => ∃ q : Value × Sv UInt8, ((q.1 = .pointer none ∨ q.1 = ptr b 0) ∧ q.2.l = l ∧ (q.2.c = 0 → q.2.a = none)) ∧ Ow.star (Blk b [q.1, q.2.val] 125) (q.2.own 5) z) (Ct.exE (entry_of Tryz.func62 rfl (by kernel_rfl)) ?_) (fun z ⟨p, q, h1, h2, h3, h4⟩ => ⟨(p, q), ⟨h1, h2, h3⟩, h4⟩)
  rintro ⟨p, q⟩ ⟨hp, rfl, hc⟩
  dsimp only at hp hc ⊢
  refine Ct.of Tryz.func62 rfl (by kernel_rfl) Tryz.ntmps62 (by simp) fun c => ?_
  refine VC.seq ?_
  refine VC.region ?_
  refine VL.q (q_assign rfl) (by decide) ?_
  refine VL.to (fun _ _ h => h) ?_
  refine VC.seq ?_
  refine VC.draw [(0, true), (1, true), (2, true), (3, true), (4, true), (5, true), (6, true), (7, true), (8, true), (9, true), (10, false), (11, true)] mixed (by kernel_rfl) (by kernel_rfl) (by kernel_rfl) ?_
  refine VD.q rfl (q_move rfl) (by decide) ?_
  refine VD.q rfl (q_nilCheck rfl) (by decide) ?_
  refine VD.q rfl (q_field gfa125_1 rfl) (by decide) ?_
  refine VD.q rfl (q_fe gone51 rfl rfl) (by decide) ?_
  refine VD.q rfl (q_sdata (s := q) rfl hc) (by decide) ?_
  refine VD.q rfl (q_move rfl) (by decide) ?_
  refine VD.q rfl (q_nilCheck rfl) (by decide) ?_
  refine VD.q rfl (q_field gfa125_1 rfl) (by decide) ?_
  refine VD.q rfl (q_fe gone51 rfl rfl) (by decide) ?_
  refine VD.q rfl (q_ln (s := q) Tryz.underlying51 rfl) (by decide) ?_
  refine VD.one rfl ?_
  refine VL.ustr (s := q) (e := 5) rfl Fo.out (by decide) (fun w h z o l k m => St.ustr (e := 5) Tryz.underlying196 (by kernel_rfl) o l k m) ?_
  refine VL.back (D' := []) (by kernel_rfl) Pend.nil ?_
  refine VD.q rfl (q_assign rfl) (by decide) ?_
  refine VD.to (fun _ _ h => h) ?_
  exact VC.ret (fin1 (.inr rfl) rfl rfl () rfl trivial (fun _ _ => trivial) (fun _ _ => trivial))

theorem itoa_ct (n : Int) (b : Go.S.I64 n) : Ct Tryz.prog 61 [i64 n] Gl Ow.emp (X := Unit) (fun _ => str (Go.S.itoaS n)) (fun _ => True) (fun _ => Mo.tt) (fun _ => Ow.emp) :=
  Ct.of_gr (entry_of Tryz.func61 rfl (by kernel_rfl)) fun w h m l => (Tryz.strconv_Itoa n b.1 b.2 w (GBlk.var (by kernel_rfl) (InM.out (X := GBlk 4 _) h m) l)).mono fun e w' ⟨h1, k, os, h2⟩ => ⟨by rw [h1, itoaS_eq b], h2 ▸ Gr.grown w k os⟩

set_option maxRecDepth 100000 in
theorem unwrap_ct (b : Nat) (p : Str) (a : Int) (e : Er) : Ct Tryz.prog 264 [ptr b 0] (Cells b 0 [str p, i64 a, e.val]) Ow.emp (X := Unit) (fun _ => e.val) (fun _ => True) (fun _ => Mo.tt) (fun _ => Ow.emp) := by
  refine Ct.of Tryz.func264 rfl (by kernel_rfl) Tryz.ntmps264 (by simp) fun c => ?_
  refine VC.seq ?_
  refine VC.region ?_
  refine VL.q (q_assign rfl) (by decide) ?_
  refine VL.to (fun _ _ h => h) ?_
  refine VC.seq ?_
  refine VC.region ?_
  refine VL.q (q_move rfl) (by decide) ?_
  refine VL.q (q_nilCheck rfl) (by decide) ?_
  refine VL.q (q_field gfa107_2 rfl) (by decide) ?_
  refine VL.q (q_fm gone25 rfl rfl) (by decide) ?_
  refine VL.q (q_assign rfl) (by decide) ?_
  refine VL.to (fun _ _ h => h) ?_
  exact VC.ret (fin1 (.inr rfl) rfl rfl () rfl trivial (fun _ _ => trivial) (fun _ _ => trivial))
theorem unwrap_me (v : Value) : Meth Tryz.prog (.iface 105 v) "Unwrap" 264 v := Meth.of fun w => by kernel_rfl
set_option maxRecDepth 100000 in
theorem errorsis_ct (z0 : Er) (n : Int) (h0 : z0.pl.isNil = false) : Ct Tryz.prog 115 [z0.val, .iface 102 (i64 n), .bool true] z0.ok Ow.emp (X := Unit) (fun _ => .bool (decide (endNo z0.pl = some n))) (fun _ => True) (fun _ => Mo.tt) (fun _ => Ow.emp) := by
  refine Ct.of Tryz.func115 rfl (by kernel_rfl) Tryz.ntmps115 (by simp) fun c => ?_
  refine VC.seq ?_
  refine VC.region ?_
  refine VL.q (q_assign rfl) (by decide) ?_
  refine VL.to (fun _ _ h => h) ?_
  refine VC.block ?_
  refine VC.loopM (S := Er) (fun z => endNo z.pl = endNo z0.pl ∧ z.pl.isNil = false) (fun z => [(0, z.val), (1, .iface 102 (i64 n)), (2, .bool true)]) (fun z => z.ok) (fun _ => Ow.emp) Er.dep z0 [0, 1, 2] ⟨rfl, h0⟩ rfl (fun _ m => m) (fun _ e => e) ?_
  rintro z ⟨hz, hn⟩
  cases z with
  | nil => cases hn
  | no m =>
    refine VC.block ?_
    refine VC.seq ?_
    refine VC.seq ?_
    refine VC.region ?_
    refine VL.q (q_move rfl) (by decide) ?_
    refine VL.q (q_move rfl) (by decide) ?_
    refine VL.gy rfl rfl (q_move rfl) (by decide) ?_
    refine VL.gy rfl rfl (q_move rfl) (by decide) ?_
    refine VL.gy rfl rfl (q_eqno (a := m) (b := n) Tryz.underlying25 Tryz.underlying102 (by kernel_rfl) rfl rfl) (by decide) ?_
    refine VL.q (q_pick_t rfl rfl) (by decide) ?_
    refine VL.to (fun _ _ h => h) ?_
    have hz' : some m = endNo z0.pl := hz
    refine VC.cond_dec rfl (fun h => ?_) (fun h => ?_)
    · refine VC.seq ?_
      refine VC.region ?_
      refine VL.q (q_assign rfl) (by decide) ?_
      refine VL.to (fun _ _ h => h) ?_
      exact VC.ret (fin1 (.inr rfl) rfl rfl () (congrArg Value.bool (by rw [← hz', h]; simp)) trivial (fun _ _ => trivial) (fun _ _ => trivial))
    refine VC.skip_to (fun _ _ h => h) ?_
    refine VC.seq ?_
    refine VC.seq ?_
    refine VC.region ?_
    refine VL.q (q_move rfl) (by decide) ?_
    refine VL.q (q_ta rfl fun w => run_typeAssert_lacksB (z := .nilIface) Tryz.underlying239 (by kernel_rfl) (by kernel_rfl) _ _ w) (by decide) ?_
    refine VL.q (q_move rfl) (by decide) ?_
    refine VL.q (q_extract rfl rfl) (by decide) ?_
    refine VL.q (q_extract rfl rfl) (by decide) ?_
    refine VL.q (q_assign rfl) (by decide) ?_
    refine VL.q (q_assign rfl) (by decide) ?_
    refine VL.to (fun _ _ h => h) ?_
    refine VC.seq ?_
    refine VC.region ?_
    refine VL.q (q_move rfl) (by decide) ?_
    refine VL.q (q_move rfl) (by decide) ?_
    refine VL.gn rfl rfl rfl (by decide) ?_
    refine VL.gn rfl rfl rfl (by decide) ?_
    refine VL.gn rfl rfl rfl (by decide) ?_
    refine VL.q (q_pick_f rfl rfl) (by decide) ?_
    refine VL.to (fun _ _ h => h) ?_
    refine VC.cond_f rfl ?_
    refine VC.skip_to (fun _ _ h => h) ?_
    refine VC.seq ?_
    refine VC.region ?_
    refine VL.q (q_move rfl) (by decide) ?_
    refine VL.to (fun _ _ h => h) ?_
    refine VC.block ?_
    refine VC.seq ?_
    refine VC.region ?_
    refine VL.q (q_ta rfl fun w => run_typeAssert_lacksB (z := .nilIface) Tryz.underlying242 (by kernel_rfl) (by kernel_rfl) _ _ w) (by decide) ?_
    refine VL.q (q_extract rfl rfl) (by decide) ?_
    refine VL.q (q_extract rfl rfl) (by decide) ?_
    refine VL.to (fun _ _ h => h) ?_
    refine VC.cond_f rfl ?_
    refine VC.seq ?_
    refine VC.region ?_
    refine VL.q (q_ta rfl fun w => run_typeAssert_lacksB (z := .nilIface) Tryz.underlying243 (by kernel_rfl) (by kernel_rfl) _ _ w) (by decide) ?_
    refine VL.q (q_extract rfl rfl) (by decide) ?_
    refine VL.q (q_extract rfl rfl) (by decide) ?_
    refine VL.to (fun _ _ h => h) ?_
    refine VC.cond_f rfl ?_
    refine VC.seq ?_
    refine VC.region ?_
    refine VL.q (q_assign rfl) (by decide) ?_
    refine VL.to (fun _ _ h => h) ?_
    refine VC.seq ?_
    refine VC.region ?_
    refine VL.q (q_assign rfl) (by decide) ?_
    refine VL.to (fun _ _ h => h) ?_
    exact VC.ret (fin1 (.inr rfl) rfl rfl () (congrArg Value.bool (by rw [← hz']; exact (decide_eq_false fun q => h (Option.some.inj q)).symm)) trivial (fun _ _ => trivial) (fun _ _ => trivial))
  | fault b p a e =>
    refine VC.addM (Cells b 0 [str p, i64 a, e.val]) (fun _ m => m.1) ?_
    refine VC.addM e.ok (fun _ m => m.2.2) ?_
    refine VC.block ?_
    refine VC.seq ?_
    refine VC.seq ?_
    refine VC.region ?_
    refine VL.q (q_move rfl) (by decide) ?_
    refine VL.q (q_move rfl) (by decide) ?_
    refine VL.gy rfl rfl (q_move rfl) (by decide) ?_
    refine VL.gy rfl rfl (q_move rfl) (by decide) ?_
    refine VL.gy rfl rfl (q_eqdt (t1 := 105) (t2 := 102) (a := ptr b 0) (b := i64 n) Tryz.underlying25 (by decide) rfl rfl) (by decide) ?_
    refine VL.q (q_pick_t rfl rfl) (by decide) ?_
    refine VL.to (fun _ _ h => h) ?_
    have hz' : endNo e.pl = endNo z0.pl := hz
    refine VC.cond_f rfl ?_
    refine VC.skip_to (fun _ _ h => h) ?_
    refine VC.seq ?_
    refine VC.seq ?_
    refine VC.region ?_
    refine VL.q (q_move rfl) (by decide) ?_
    refine VL.q (q_ta rfl fun w => run_typeAssert_lacksB (z := .nilIface) Tryz.underlying239 (by kernel_rfl) (by kernel_rfl) _ _ w) (by decide) ?_
    refine VL.q (q_move rfl) (by decide) ?_
    refine VL.q (q_extract rfl rfl) (by decide) ?_
    refine VL.q (q_extract rfl rfl) (by decide) ?_
    refine VL.q (q_assign rfl) (by decide) ?_
    refine VL.q (q_assign rfl) (by decide) ?_
    refine VL.to (fun _ _ h => h) ?_
    refine VC.seq ?_
    refine VC.region ?_
    refine VL.q (q_move rfl) (by decide) ?_
    refine VL.q (q_move rfl) (by decide) ?_
    refine VL.gn rfl rfl rfl (by decide) ?_
    refine VL.gn rfl rfl rfl (by decide) ?_
    refine VL.gn rfl rfl rfl (by decide) ?_
    refine VL.q (q_pick_f rfl rfl) (by decide) ?_
    refine VL.to (fun _ _ h => h) ?_
    refine VC.cond_f rfl ?_
    refine VC.skip_to (fun _ _ h => h) ?_
    refine VC.seq ?_
    refine VC.region ?_
    refine VL.q (q_move rfl) (by decide) ?_
    refine VL.to (fun _ _ h => h) ?_
    refine VC.block ?_
    refine VC.seq ?_
    refine VC.region ?_
    refine VL.q (q_ta rfl fun w => run_typeAssert_hasB Tryz.underlying242 (by kernel_rfl) _ _ w) (by decide) ?_
    refine VL.q (q_extract rfl rfl) (by decide) ?_
    refine VL.q (q_extract rfl rfl) (by decide) ?_
    refine VL.to (fun _ _ h => h) ?_
    refine VC.cond_t rfl ?_
    refine VC.seq ?_
    refine VC.region ?_
    refine VL.q (q_assign rfl) (by decide) ?_
    refine VL.to (fun _ _ h => h) ?_
    refine VC.seq ?_
    refine VC.region ?_
    refine VL.q (q_move rfl) (by decide) ?_
    refine VL.q (q_inv rfl (unwrap_me (ptr b 0)) (unwrap_ct b p a e) (fun _ _ => rfl)) (by decide) ?_
    refine VL.q (q_assign rfl) (by decide) ?_
    refine VL.to (fun _ _ h => h) ?_
    refine VC.seq ?_
    refine VC.region ?_
    refine VL.q (q_move rfl) (by decide) ?_
    refine VL.q (q_ereq Tryz.underlying25 (z := e) rfl) (by decide) ?_
    refine VL.to (fun _ _ h => h) ?_
    refine VC.cond_dec rfl (fun h => ?_) (fun h => ?_)
    · refine VC.seq ?_
      refine VC.region ?_
      refine VL.q (q_assign rfl) (by decide) ?_
      refine VL.to (fun _ _ h => h) ?_
      exact VC.ret (fin1 (.inr rfl) rfl rfl () (congrArg Value.bool (by
        rw [← hz']
        cases e with
        | nil => rfl
        | no m => cases h
        | fault _ _ _ _ => cases h)) trivial (fun _ _ => trivial) (fun _ _ => trivial))
    · exact VC.skip_any e [0, 1, 2] (fun _ _ h => h) ⟨⟨hz', by simpa using h⟩, Nat.lt_succ_self _⟩ rfl (fun _ m => m.1) (fun _ e => e)
theorem typeof_no (v : Value) (w : World) : (Extern.ReflectliteType.typeOf #[.iface 102 v]).run Tryz.prog w = .ok (.iface 237 (.agg #[.pointer (some ⟨7, 102, none⟩)])) w := by kernel_rfl
theorem comp_no (w : World) : (Extern.ReflectliteType.method (fun t => do Extern.Rtype.noPackHeld "Comparable" t; pure (.bool (← typeInfo t).comparable)) #[.agg #[.pointer (some ⟨7, 102, none⟩)]]).run Tryz.prog w = .ok (.bool true) w := by kernel_rfl
theorem comp_me (v : Value) : Meth Tryz.prog (.iface 237 v) "Comparable" 271 v := Meth.of fun w => by kernel_rfl
set_option maxRecDepth 100000 in
theorem is_ct (z0 : Er) (n : Int) : Ct Tryz.prog 56 [z0.val, .iface 102 (i64 n)] z0.ok Ow.emp (X := Unit) (fun _ => .bool (decide (endNo z0.pl = some n))) (fun _ => True) (fun _ => Mo.tt) (fun _ => Ow.emp) := by
  refine Ct.of Tryz.func56 rfl (by kernel_rfl) Tryz.ntmps56 (by simp) fun c => ?_
  have fin : z0.pl.isNil = false → ∀ Q : Exit → Act → World → Prop, Q = bodyPost Tryz.prog Tryz.f56 (fun en w' => ∃ r, en = .returned r ∧ Post (X := Unit) (fun _ => .bool (decide (endNo z0.pl = some n))) (fun _ => True) (fun _ => Mo.tt) (fun _ => Ow.emp) c r w') → True := fun _ _ _ => trivial
  refine VC.seq ?_
  refine VC.region ?_
  refine VL.q (q_assign rfl) (by decide) ?_
  refine VL.to (fun _ _ h => h) ?_
  refine VC.seq ?_
  refine VC.seq ?_
  refine VC.region ?_
  refine VL.q (q_move rfl) (by decide) ?_
  by_cases hn : z0 = .nil
  · subst hn
    refine VL.q (q_nileq Tryz.underlying25 rfl) (by decide) ?_
    refine VL.q (q_move rfl) (by decide) ?_
    refine VL.gn rfl rfl rfl (by decide) ?_
    refine VL.gn rfl rfl rfl (by decide) ?_
    refine VL.q (q_pick_t rfl rfl) (by decide) ?_
    refine VL.to (fun _ _ h => h) ?_
    refine VC.cond_t rfl ?_
    refine VC.seq ?_
    refine VC.region ?_
    refine VL.q (q_move rfl) (by decide) ?_
    refine VL.q (q_move rfl) (by decide) ?_
    refine VL.q (q_eqnl (T := 102) (u := i64 n) Tryz.underlying25 rfl rfl) (by decide) ?_
    refine VL.q (q_assign rfl) (by decide) ?_
    refine VL.to (fun _ _ h => h) ?_
    exact VC.ret (fin1 (.inr rfl) rfl rfl () rfl trivial (fun _ _ => trivial) (fun _ _ => trivial))
  have hn' : z0.pl.isNil = false := by
    cases z0 with
    | nil => exact absurd rfl hn
    | no m => rfl
    | fault _ _ _ _ => rfl
  refine VL.q (v := .bool false) (by
    cases z0 with
    | nil => exact absurd rfl hn
    | no m => exact q_ifeq Tryz.underlying25 rfl
    | fault _ _ _ _ => exact q_ifeq Tryz.underlying25 rfl) (by decide) ?_
  refine VL.q (q_move rfl) (by decide) ?_
  refine VL.gy rfl rfl (q_move rfl) (by decide) ?_
  refine VL.gy rfl rfl (q_ifeq Tryz.underlying25 rfl) (by decide) ?_
  refine VL.q (q_pick_f rfl rfl) (by decide) ?_
  refine VL.to (fun _ _ h => h) ?_
  refine VC.cond_f rfl ?_
  refine VC.skip_to (fun _ _ h => h) ?_
  refine VC.seq ?_
  refine VC.region ?_
  refine VL.q (q_move rfl) (by decide) ?_
  refine VL.q (q_extern Tryz.func114 rfl rfl (by kernel_rfl) (by kernel_rfl) rfl (typeof_no _)) (by decide) ?_
  refine VL.q (q_invX rfl (comp_me _) Tryz.func271 rfl rfl (by kernel_rfl) (by kernel_rfl) comp_no) (by decide) ?_
  refine VL.q (q_assign rfl) (by decide) ?_
  refine VL.to (fun _ _ h => h) ?_
  refine VC.seq ?_
  refine VC.region ?_
  refine VL.q (q_move rfl) (by decide) ?_
  refine VL.q (q_move rfl) (by decide) ?_
  refine VL.q (q_move rfl) (by decide) ?_
  refine VL.q (q_call (errorsis_ct z0 n hn') rfl (fun _ _ => rfl)) (by decide) ?_
  refine VL.q (q_assign rfl) (by decide) ?_
  refine VL.to (fun _ _ h => h) ?_
  exact VC.ret (fin1 (.inr rfl) rfl rfl () rfl trivial (fun _ _ => trivial) (fun _ _ => trivial))

open Go.Extern.Stop Go.Stop Go.Extern Go.RowKit in
section
end

namespace As
open Go.Extern Go.Extern.Stop
theorem as_valueOf (t : Addr) (w : World) : (ReflectliteValue.unpack (.iface 118 (.pointer (some t)))).run Tryz.prog w
    = .ok (.agg #[.pointer (some ⟨7, 118, none⟩), .pointer (some ⟨w.heap.size, 0, none⟩), .int .u64 150]) (w.alloc (.cells #[.pointer (some t)] 118)) := by kernel_rfl
theorem as_type (a : Addr) (w : World) : (ReflectliteValue.methodAny (ReflectliteValue.valueError "reflectlite.Value.Type" 0) (fun t _ _ _ => ReflectliteType.toType t) #[.agg #[.pointer (some ⟨7, 118, none⟩), .pointer (some a), .int .u64 150]]).run Tryz.prog w
    = .ok (.iface 237 (.agg #[.pointer (some ⟨7, 118, none⟩)])) w := by kernel_rfl
theorem as_mKind (h : Value) (w : World) : (Go.method 435 237 (.agg #[h]) "Kind").run Tryz.prog w = .ok (257, h) w := by kernel_rfl
theorem as_kind1 (w : World) : ((ReflectliteType.abiMethod fun t => (fun a : Nat => Value.int IntKind.u8 (a : Int)) <$> Rtype.kind t) #[.pointer (some ⟨7, 118, none⟩)]).run Tryz.prog w = .ok (.int .u8 22) w := by kernel_rfl
theorem as_kind2 (w : World) : ((ReflectliteType.abiMethod fun t => (fun a : Nat => Value.int IntKind.u8 (a : Int)) <$> Rtype.kind t) #[.pointer (some ⟨7, 105, none⟩)]).run Tryz.prog w = .ok (.int .u8 22) w := by kernel_rfl
theorem as_rlm (z : Sem Value) (f : TypeId → Addr → Nat → Nat → Sem Value) (v : Value) :
    ReflectliteValue.method z f #[v] = (do match ← ReflectliteValue.parts v with | none => z | some (t, a, fl) => f t a fl (fl % 32)) := rfl
theorem as_parts1 (a : Addr) (w : World) : (ReflectliteValue.parts (.agg #[.pointer (some ⟨7, 118, none⟩), .pointer (some a), .int .u64 150])).run Tryz.prog w = .ok (some (118, a, 150)) w := by kernel_rfl
theorem as_isNil (a p : Addr) (W : World) (ha : W.cell? a = some (.pointer (some p))) :
    (ReflectliteValue.method (ReflectliteValue.valueError "reflectlite.Value.IsNil" 0) ReflectliteValue.isNil #[.agg #[.pointer (some ⟨7, 118, none⟩), .pointer (some a), .int .u64 150]]).run Tryz.prog W = .ok (.bool false) W := by
  rw [as_rlm]
  simp only [Sem.run_bind, as_parts1, Result.andThen]
  simp [ReflectliteValue.isNil, loadVar, isAgg, underlying, Tryz.underlying118, ha, Result.andThen]
theorem as_mElem (h : Value) (w : World) : (Go.method 435 237 (.agg #[h]) "Elem").run Tryz.prog w = .ok (272, .agg #[h]) w := by kernel_rfl
theorem as_mImpl (h : Value) (w : World) : (Go.method 435 237 (.agg #[h]) "Implements").run Tryz.prog w = .ok (273, .agg #[h]) w := by kernel_rfl
theorem as_mAssn (h : Value) (w : World) : (Go.method 435 237 (.agg #[h]) "AssignableTo").run Tryz.prog w = .ok (270, .agg #[h]) w := by kernel_rfl
theorem as_elem1 (w : World) : (ReflectliteType.method ReflectliteType.elem #[.agg #[.pointer (some ⟨7, 118, none⟩)]]).run Tryz.prog w = .ok (.iface 237 (.agg #[.pointer (some ⟨7, 105, none⟩)])) w := by kernel_rfl
theorem as_impl2 (w : World) : (ReflectliteType.relation "Implements" ReflectliteType.implements_ #[.agg #[.pointer (some ⟨7, 105, none⟩)], .iface 237 (.agg #[.pointer (some ⟨7, 25, none⟩)])]).run Tryz.prog w = .ok (.bool true) w := by kernel_rfl
theorem as_typeOf2 (v : Value) (w : World) : (ReflectliteType.typeOf #[.iface 105 v]).run Tryz.prog w = .ok (.iface 237 (.agg #[.pointer (some ⟨7, 105, none⟩)])) w := by kernel_rfl
theorem as_assn2 (w : World) : (ReflectliteType.relation "AssignableTo" ReflectliteType.assignableTo #[.agg #[.pointer (some ⟨7, 105, none⟩)], .iface 237 (.agg #[.pointer (some ⟨7, 105, none⟩)])]).run Tryz.prog w = .ok (.bool true) w := by kernel_rfl
theorem as_valueOf2 (e : Addr) (w : World) : (ReflectliteValue.unpack (.iface 105 (.pointer (some e)))).run Tryz.prog w
    = .ok (.agg #[.pointer (some ⟨7, 105, none⟩), .pointer (some ⟨w.heap.size, 0, none⟩), .int .u64 150]) (w.alloc (.cells #[.pointer (some e)] 105)) := by kernel_rfl
theorem as_elemOf1 (w : World) : (Rtype.elem? 118).run Tryz.prog w = .ok (some 105) w := by kernel_rfl
theorem as_mk2 (p : Addr) (w : World) : (ReflectliteValue.mk 105 p ReflectliteValue.flagAddr).run Tryz.prog w = .ok (.agg #[.pointer (some ⟨7, 105, none⟩), .pointer (some p), .int .u64 406]) w := by kernel_rfl
theorem as_elemV1 (a p : Addr) (W : World) (ha : W.cell? a = some (.pointer (some p))) :
    (ReflectliteValue.method (ReflectliteValue.valueError "reflectlite.Value.Elem" 0) ReflectliteValue.elem #[.agg #[.pointer (some ⟨7, 118, none⟩), .pointer (some a), .int .u64 150]]).run Tryz.prog W
      = .ok (.agg #[.pointer (some ⟨7, 105, none⟩), .pointer (some p), .int .u64 406]) W := by
  rw [as_rlm]
  simp only [Sem.run_bind, as_parts1, Result.andThen]
  simp [ReflectliteValue.elem, loadVar, isAgg, underlying, Tryz.underlying118, ha, Result.andThen, as_elemOf1, as_mk2]
theorem as_rls (v x : Value) : ReflectliteValue.set #[v, x] = (do
    let (some (dst, a, fl), some (src, b, _)) := (← ReflectliteValue.parts v, ← ReflectliteValue.parts x)
      | unsupported (.noEntry "extern/(internal/reflectlite.Value).Set.zeroValue")
    if fl / ReflectliteValue.flagAddr % 2 == 0 then unsupported (.noEntry "extern/(internal/reflectlite.Value).Set.unaddressable")
    let val ← loadVar src b
    if ← Rtype.directlyAssignable dst src then storeVar dst a val
    else if ← Rtype.implements dst src then
      if (← Rtype.kind src) == 20 then
        match val with
        | .nilIface => unsupported (.noEntry "extern/reflectlite: a nil value of one interface type handed on as a value of another")
        | _ => storeVar dst a val
      else storeVar dst a (.iface src val)
    else panicString ("reflectlite.Set: value of type " ++ (← Rtype.spelt src) ++ " is not assignable to type " ++ (← Rtype.spelt dst))
    pure (.tuple #[])) := rfl
theorem as_parts2a (a : Addr) (w : World) : (ReflectliteValue.parts (.agg #[.pointer (some ⟨7, 105, none⟩), .pointer (some a), .int .u64 406])).run Tryz.prog w = .ok (some (105, a, 406)) w := by kernel_rfl
theorem as_parts2 (a : Addr) (w : World) : (ReflectliteValue.parts (.agg #[.pointer (some ⟨7, 105, none⟩), .pointer (some a), .int .u64 150])).run Tryz.prog w = .ok (some (105, a, 150)) w := by kernel_rfl
theorem as_direct2 (w : World) : (Rtype.directlyAssignable 105 105).run Tryz.prog w = .ok true w := by kernel_rfl
theorem as_set2 (ta b e : Addr) (old : Value) (W : World) (hb : W.cell? b = some (.pointer (some e))) (ht : W.cell? ta = some old) (hf : W.frozen? ta = false) :
    (ReflectliteValue.set #[.agg #[.pointer (some ⟨7, 105, none⟩), .pointer (some ta), .int .u64 406], .agg #[.pointer (some ⟨7, 105, none⟩), .pointer (some b), .int .u64 150]]).run Tryz.prog W
      = .ok (.tuple #[]) (W.setCell ta (.pointer (some e))) := by
  rw [as_rls]
  simp only [Sem.run_bind, as_parts2a, as_parts2, Result.andThen]
  simp [ReflectliteValue.flagAddr, loadVar, isAgg, underlying, Tryz.underlying105, hb, Result.andThen, as_direct2, storeVar, Value.cells, storeCells, Addr.add]
  rw [run_store Tryz.prog W ta _ _ (by rfl)]
  simp [ht, hf]
set_option maxHeartbeats 4000000 in
theorem as_hit (e t : Addr) (old : Value) (w : World) (hg : w.cell? ⟨0, 0, none⟩ = some (.iface 237 (.agg #[.pointer (some ⟨7, 25, none⟩)]))) (ht0 : w.cell? t = some old) (hf0 : w.frozen? t = false) :
    Calls Tryz.prog 57 #[.iface 105 (.pointer (some e)), .iface 118 (.pointer (some t))] w fun ev w' => ev = .returned (.bool true) ∧ w' = ((((w.alloc (.cells #[.pointer (some t)] 118)).alloc (.cells #[.pointer (some ⟨7, 118, none⟩), .pointer (some ⟨w.heap.size, 0, none⟩), .int .u64 150] 189)).alloc (.cells #[.pointer (some ⟨7, 118, none⟩), .pointer (some ⟨w.heap.size, 0, none⟩), .int .u64 150] 189)).alloc (.cells #[.pointer (some e)] 105)).setCell t (.pointer (some e)) := by
  have h6 := @run_callFunc_extern Tryz.prog 116 _ (fun args => ReflectliteValue.unpack (args.getD 0 (.tuple #[]))) Tryz.func116 (by kernel_rfl) (by kernel_rfl) (by kernel_rfl) (by kernel_rfl)
  have h7 := @run_callFunc_extern Tryz.prog 117 _ (ReflectliteValue.methodAny (ReflectliteValue.valueError "reflectlite.Value.Type" 0) (fun t _ _ _ => ReflectliteType.toType t)) Tryz.func117 (by kernel_rfl) (by kernel_rfl) (by kernel_rfl) (by kernel_rfl)
  have h8 := @run_callFunc_extern Tryz.prog 118 _ (ReflectliteValue.method (ReflectliteValue.valueError "reflectlite.Value.IsNil" 0) ReflectliteValue.isNil) Tryz.func118 (by kernel_rfl) (by kernel_rfl) (by kernel_rfl) (by kernel_rfl)
  have h27 := @run_callFunc_extern Tryz.prog 257 _ (ReflectliteType.abiMethod fun t => do pure (.int .u8 (← Rtype.kind t))) Tryz.func257 (by kernel_rfl) (by kernel_rfl) (by kernel_rfl) (by kernel_rfl)
  have h37 := @run_callFunc_extern Tryz.prog 272 _ (ReflectliteType.method ReflectliteType.elem) Tryz.func272 (by kernel_rfl) (by kernel_rfl) (by kernel_rfl) (by kernel_rfl)
  have h38 := @run_callFunc_extern Tryz.prog 273 _ (ReflectliteType.relation "Implements" ReflectliteType.implements_) Tryz.func273 (by kernel_rfl) (by kernel_rfl) (by kernel_rfl) (by kernel_rfl)
  have h10 := @run_callFunc_extern Tryz.prog 114 _ ReflectliteType.typeOf Tryz.func114 (by kernel_rfl) (by kernel_rfl) (by kernel_rfl) (by kernel_rfl)
  have h35 := @run_callFunc_extern Tryz.prog 270 _ (ReflectliteType.relation "AssignableTo" ReflectliteType.assignableTo) Tryz.func270 (by kernel_rfl) (by kernel_rfl) (by kernel_rfl) (by kernel_rfl)
  have h11 := @run_callFunc_extern Tryz.prog 166 _ (ReflectliteValue.method (ReflectliteValue.valueError "reflectlite.Value.Elem" 0) ReflectliteValue.elem) Tryz.func166 (by kernel_rfl) (by kernel_rfl) (by kernel_rfl) (by kernel_rfl)
  have h12 := @run_callFunc_extern Tryz.prog 167 _ ReflectliteValue.set Tryz.func167 (by kernel_rfl) (by kernel_rfl) (by kernel_rfl) (by kernel_rfl)
  have tO := as_typeOf2
  have mA := as_mAssn
  have a25 := as_assn2
  have v25 := as_valueOf2
  have f6 := as_valueOf
  have f7 := as_type
  have mK := as_mKind
  have mE := as_mElem
  have mI := as_mImpl
  have k27 := as_kind1
  have k25 := as_kind2
  have e27 := as_elem1
  have i25 := as_impl2
  have n8 := as_isNil ⟨w.heap.size, 0, none⟩ t ((w.alloc (.cells #[.pointer (some t)] 118)).alloc (.cells #[.pointer (some ⟨7, 118, none⟩), .pointer (some ⟨w.heap.size, 0, none⟩), .int .u64 150] 189)) (by simp)
  have hlt : 0 < w.heap.size := by
    rcases Nat.lt_or_ge 0 w.heap.size with h | h
    · exact h
    · simp [World.cell?, Array.getElem?_eq_none h] at hg
  have hg2 : ((w.alloc (.cells #[.pointer (some t)] 118)).alloc (.cells #[.pointer (some ⟨7, 118, none⟩), .pointer (some ⟨w.heap.size, 0, none⟩), .int .u64 150] 189)).cell? ⟨0, 0, none⟩ = some (.iface 237 (.agg #[.pointer (some ⟨7, 25, none⟩)])) := by
    rw [World.cell?_alloc_lt _ _ ⟨0, 0, none⟩ (by first | (simp; done) | (simp; omega)), World.cell?_alloc_lt _ _ ⟨0, 0, none⟩ hlt]; exact hg
  have htl : t.block < w.heap.size := by
    rcases Nat.lt_or_ge t.block w.heap.size with h | h
    · exact h
    · simp [World.cell?, Array.getElem?_eq_none h] at ht0
  have el := as_elemV1 ⟨w.heap.size, 0, none⟩ t (((w.alloc (.cells #[.pointer (some t)] 118)).alloc (.cells #[.pointer (some ⟨7, 118, none⟩), .pointer (some ⟨w.heap.size, 0, none⟩), .int .u64 150] 189)).alloc (.cells #[.pointer (some ⟨7, 118, none⟩), .pointer (some ⟨w.heap.size, 0, none⟩), .int .u64 150] 189)) (by rw [World.cell?_alloc_lt _ _ ⟨w.heap.size, 0, none⟩ (by simp; omega)]; simp)
  have st := as_set2 t ⟨w.heap.size + 1 + 1 + 1, 0, none⟩ e old ((((w.alloc (.cells #[.pointer (some t)] 118)).alloc (.cells #[.pointer (some ⟨7, 118, none⟩), .pointer (some ⟨w.heap.size, 0, none⟩), .int .u64 150] 189)).alloc (.cells #[.pointer (some ⟨7, 118, none⟩), .pointer (some ⟨w.heap.size, 0, none⟩), .int .u64 150] 189)).alloc (.cells #[.pointer (some e)] 105))
    (by rw [World.cell?_alloc_at _ _ _ _ (by simp)]; rfl)
    (by rw [World.cell?_alloc_lt _ _ t (by simp; omega), World.cell?_alloc_lt _ _ t (by simp; omega), World.cell?_alloc_lt _ _ t (by simp; omega), World.cell?_alloc_lt _ _ t htl]; exact ht0)
    (by rw [World.frozen?_alloc_old _ _ t (by simp; omega), World.frozen?_alloc_old _ _ t (by simp; omega), World.frozen?_alloc_old _ _ t (by simp; omega), World.frozen?_alloc_old _ _ t (Nat.ne_of_lt htl)]; exact hf0)
  go_enter Tryz.func57, Tryz.ntmps57
  go_wp2
  refine wp_loop_rounds 1 ?_
  rw [rounds_succ]
  go_wp2
  go_ret
  exact ⟨rfl, rfl⟩
theorem as_ct (b t : Nat) : Ct Tryz.prog 57 [.iface 105 (ptr b 0), .iface 118 (ptr t 0)] (GBlk 0 #[.iface 237 (.agg #[.pointer (some ⟨7, 25, none⟩)])]) (Blk t [.pointer none] 105) (X := Unit) (fun _ => .bool true) (fun _ => True) (fun _ => Mo.tt) (fun _ => Blk t [ptr b 0] 105) :=
  ⟨entry_of Tryz.func57 rfl (by kernel_rfl), fun w hp z m ee d l k => by
    have hb : w.heap[t]? = some (.cells #[.pointer none] 105 (0, 0)) := k _ _ ee
    obtain ⟨t1, f1, m1⟩ := m
    have hg : w.heap[0]? = some (.cells #[.iface 237 (.agg #[.pointer (some ⟨7, 25, none⟩)])] t1 f1) := l _ _ m1
    have htl := (Array.getElem?_eq_some_iff.1 hb).1
    refine (as_hit ⟨b, 0, none⟩ ⟨t, 0, none⟩ (.pointer none) w (by simp [World.cell?, hg]) (by simp [World.cell?, hb]) (by simp [World.frozen?, hb])).mono fun en w' ⟨h1, h2⟩ => ⟨_, h1, (), rfl, trivial, ?_⟩
    have hgr : Gr w ((((w.alloc (.cells #[.pointer (some ⟨t, 0, none⟩)] 118)).alloc (.cells #[.pointer (some ⟨7, 118, none⟩), .pointer (some ⟨w.heap.size, 0, none⟩), .int .u64 150] 189)).alloc (.cells #[.pointer (some ⟨7, 118, none⟩), .pointer (some ⟨w.heap.size, 0, none⟩), .int .u64 150] 189)).alloc (.cells #[.pointer (some ⟨b, 0, none⟩)] 105)) := (((Gr.alloc w _).trans (Gr.alloc _ _)).trans (Gr.alloc _ _)).trans (Gr.alloc _ _)
    exact St.turned hb (show z t = _ from ee) d l hgr h2⟩
end As

set_option maxHeartbeats 4000000 in
set_option maxRecDepth 100000 in
theorem unicode_utf8_RuneCountInString_ct (s_0 : Str) {r : Int} (hS : Sh.unicode_utf8_RuneCountInString s_0 = some r) :
    Ct Tryz.prog 189 [str s_0] Mo.tt (Ow.emp) (X := Unit) (fun _ => i64 r) (fun _ => True) (fun _ => Mo.tt) (fun _ => Ow.emp) := by
  refine Ct.of Tryz.func189 rfl (by kernel_rfl) Tryz.ntmps189 (by simp) fun c => ?_
  unfold Sh.unicode_utf8_RuneCountInString at hS
  refine VC.seq ?_
  refine VC.region ?_
  refine VL.q (q_assign rfl) (by decide) ?_
  refine VL.to (fun _ _ h => h) ?_
  refine VC.seq ?_
  refine VC.seq ?_
  refine VC.region ?_
  refine VL.q (q_move rfl) (by decide) ?_
  cases hS

set_option maxHeartbeats 4000000 in
set_option maxRecDepth 100000 in
theorem unicode_utf8_decodeRuneInStringSlow_ct (a_0 : Str) {r : Int × Int} (hS : Sh.unicode_utf8_decodeRuneInStringSlow a_0 = some r) :
    Ct Tryz.prog 192 [str a_0] Mo.tt (Ow.emp) (X := Unit) (fun _ => .tuple #[.int .i32 r.1, i64 r.2]) (fun _ => True) (fun _ => Mo.tt) (fun _ => Ow.emp) := by
  refine Ct.of Tryz.func192 rfl (by kernel_rfl) Tryz.ntmps192 (by simp) fun c => ?_
  unfold Sh.unicode_utf8_decodeRuneInStringSlow at hS
  refine VC.seq ?_
  refine VC.region ?_
  refine VL.q (q_assign rfl) (by decide) ?_
  refine VL.q (q_assign rfl) (by decide) ?_
  refine VL.to (fun _ _ h => h) ?_
  refine VC.seq ?_
  refine VC.region ?_
  refine VL.q (q_move rfl) (by decide) ?_
  refine VL.q (q_slen Tryz.underlying9 rfl) (by decide) ?_
  refine VL.q (q_assign rfl) (by decide) ?_
  refine VL.to (fun _ _ h => h) ?_
  refine VC.seq ?_
  refine VC.seq ?_
  refine VC.region ?_
  refine VL.q (q_move rfl) (by decide) ?_
  refine VL.q (q_lss rfl rfl) (by decide) ?_
  refine VL.to (fun _ _ h => h) ?_
  refine VC.cond_dec rfl (fun h16 => ?_) (fun h16 => ?_)
  ·
    replace hS := it_t h16 hS
    refine VC.seq ?_
    refine VC.region ?_
    refine VL.q (q_assign rfl) (by decide) ?_
    refine VL.q (q_assign rfl) (by decide) ?_
    refine VL.to (fun _ _ h => h) ?_
    cases hS
    exact VC.ret (fin2 (.inr rfl) rfl rfl rfl () rfl trivial (fun _ _ => trivial) (fun _ _ => trivial))
  ·
    replace hS := it_f h16 hS
    refine VC.skip_to (fun _ _ h => h) ?_
    refine VC.seq ?_
    refine VC.region ?_
    refine VL.q (q_move rfl) (by decide) ?_
    obtain ⟨z18_1, nz18_1, hz18_1, hS⟩ := at_s hS
    refine VL.q (q_sidx Tryz.underlying9 rfl rfl nz18_1 hz18_1) (by decide) ?_
    refine VL.q (q_assign rfl) (by decide) ?_
    refine VL.to (fun _ _ h => h) ?_
    refine VC.keep [0, 4, 5] rfl ?_
    refine VC.seq ?_
    refine VC.region ?_
    refine VL.q (q_move rfl) (by decide) ?_
    cases hS

set_option maxHeartbeats 4000000 in
set_option maxRecDepth 100000 in
theorem unicode_utf8_DecodeRuneInString_ct (s_0 : Str) {r : Int × Int} (hS : Sh.unicode_utf8_DecodeRuneInString s_0 = some r) :
    Ct Tryz.prog 160 [str s_0] Mo.tt (Ow.emp) (X := Unit) (fun _ => .tuple #[.int .i32 r.1, i64 r.2]) (fun _ => True) (fun _ => Mo.tt) (fun _ => Ow.emp) := by
  refine Ct.of Tryz.func160 rfl (by kernel_rfl) Tryz.ntmps160 (by simp) fun c => ?_
  unfold Sh.unicode_utf8_DecodeRuneInString at hS
  refine VC.seq ?_
  refine VC.region ?_
  refine VL.q (q_assign rfl) (by decide) ?_
  refine VL.q (q_assign rfl) (by decide) ?_
  refine VL.to (fun _ _ h => h) ?_
  refine VC.seq ?_
  refine VC.cutJ (S := Bool) (fun (x10_1 : Bool) => x10_1) (fun (x10_1 : Bool) => [(0, str s_0), (10, .bool x10_1)]) (fun (x10_1 : Bool) => Mo.tt) (fun (x10_1 : Bool) => Ow.emp) hS ?_ ?_
  · -- up to where ways meet
    clear hS
    intro k2 hS
    refine VC.region ?_
    refine VL.q (q_move rfl) (by decide) ?_
    refine VL.q (q_sne rfl rfl) (by decide) ?_
    refine VL.q (q_move rfl) (by decide) ?_
    refine VL.split_ndec 6 rfl (fun h6 => ?_) (fun h6 => ?_)
    ·
      replace hS := it_f h6 hS
      refine VL.gy rfl rfl (q_move rfl) (by decide) ?_
      obtain ⟨z8_3, nz8_3, hz8_3, hS⟩ := at_s hS
      refine VL.gy rfl rfl (q_sidx Tryz.underlying9 rfl rfl nz8_3 hz8_3) (by decide) ?_
      refine VL.gy rfl rfl (q_lss rfl rfl) (by decide) ?_
      refine VL.q (q_pick_t rfl rfl) (by decide) ?_
      refine VL.mt (decide ((z8_3.toNat : Int) < 128)) [0, 10] (fun _ _ h => h) hS rfl
    ·
      replace hS := it_t h6 hS
      refine VL.gn rfl rfl rfl (by decide) ?_
      refine VL.gn rfl rfl rfl (by decide) ?_
      refine VL.gn rfl rfl rfl (by decide) ?_
      refine VL.q (q_pick_f rfl rfl) (by decide) ?_
      refine VL.mt false [0, 10] (fun _ _ h => h) hS rfl
  · -- from there
    clear hS
    rintro x10_1 hS
    show VC _ _ _ _ _ [(0, str s_0), (10, .bool x10_1)] (Mo.and Mo.tt _) (Ow.emp)
    refine VC.cond rfl (fun h10 => ?_) (fun h10 => ?_)
    ·
      replace hS := it_t h10 hS
      refine VC.seq ?_
      refine VC.region ?_
      refine VL.q (q_move rfl) (by decide) ?_
      obtain ⟨z12_4, nz12_4, hz12_4, hS⟩ := at_s hS
      refine VL.q (q_sidx Tryz.underlying9 rfl rfl nz12_4 hz12_4) (by decide) ?_
      refine VL.q (q_conv Tryz.underlying5 Tryz.underlying21 rfl (wr_i32 z12_4)) (by decide) ?_
      refine VL.q (q_assign rfl) (by decide) ?_
      refine VL.q (q_assign rfl) (by decide) ?_
      refine VL.to (fun _ _ h => h) ?_
      cases hS
      exact VC.ret (fin2 (.inr rfl) rfl rfl rfl () rfl trivial (fun _ _ => trivial) (fun _ _ => trivial))
    ·
      replace hS := it_b h10 hS
      refine VC.region ?_
      refine VL.q (q_move rfl) (by decide) ?_
      obtain ⟨y16_5, ey16_5, hS⟩ := bd_s hS
      refine VL.q (q_call (unicode_utf8_decodeRuneInStringSlow_ct s_0 ey16_5) rfl (fun _ _ => rfl)) (by decide) ?_
      refine VL.q (q_move rfl) (by decide) ?_
      refine VL.q (q_extract rfl rfl) (by decide) ?_
      refine VL.q (q_extract rfl rfl) (by decide) ?_
      refine VL.q (q_assign rfl) (by decide) ?_
      refine VL.q (q_assign rfl) (by decide) ?_
      refine VL.to (fun _ _ h => h) ?_
      cases hS
      exact VC.ret (fin2 (.inr rfl) rfl rfl rfl () rfl trivial (fun _ _ => trivial) (fun _ _ => trivial))

set_option maxHeartbeats 4000000 in
set_option maxRecDepth 100000 in
theorem strings_explode_ct (s_0 : Str) (n_1 : Int) {r : List Str} (hS : Sh.strings_explode s_0 n_1 = some r) :
    Ct Tryz.prog 156 [str s_0, i64 n_1] Mo.tt (Ow.emp) (X := Sv Str) (fun x => x.val) (fun x => r = x.l) (fun x => Mo.tt) (fun x => Sv.own x 9) := by
  refine Ct.of Tryz.func156 rfl (by kernel_rfl) Tryz.ntmps156 (by simp) fun c => ?_
  unfold Sh.strings_explode at hS
  refine VC.seq ?_
  refine VC.region ?_
  refine VL.q (q_assign rfl) (by decide) ?_
  refine VL.to (fun _ _ h => h) ?_
  refine VC.seq ?_
  refine VC.region ?_
  refine VL.q (q_move rfl) (by decide) ?_
  obtain ⟨y11_1, ey11_1, hS⟩ := bd_s hS
  refine VL.q (q_call (unicode_utf8_RuneCountInString_ct s_0 ey11_1) rfl (fun _ _ => rfl)) (by decide) ?_
  refine VL.q (q_assign rfl) (by decide) ?_
  refine VL.to (fun _ _ h => h) ?_
  refine VC.cutJ (S := Int) (fun (n1_2 : Int) => n1_2) (fun (n1_2 : Int) => [(0, str s_0), (1, i64 n1_2)]) (fun (n1_2 : Int) => Mo.tt) (fun (n1_2 : Int) => Ow.emp) hS ?_ ?_
  · -- up to where ways meet
    clear hS
    intro k3 hS
    refine VC.cutJ (S := Bool) (fun (x18_4 : Bool) => x18_4) (fun (x18_4 : Bool) => [(0, str s_0), (1, i64 n_1), (5, i64 y11_1), (18, .bool x18_4)]) (fun (x18_4 : Bool) => Mo.tt) (fun (x18_4 : Bool) => Ow.emp) hS ?_ ?_
    · -- up to where ways meet
      clear hS
      intro k5 hS
      refine VC.region ?_
      refine VL.q (q_move rfl) (by decide) ?_
      refine VL.q (q_lss rfl rfl) (by decide) ?_
      refine VL.q (q_move rfl) (by decide) ?_
      refine VL.split_dec 14 rfl (fun h14 => ?_) (fun h14 => ?_)
      ·
        replace hS := it_t h14 hS
        refine VL.gn rfl rfl rfl (by decide) ?_
        refine VL.gn rfl rfl rfl (by decide) ?_
        refine VL.gn rfl rfl rfl (by decide) ?_
        refine VL.q (q_pick_t rfl rfl) (by decide) ?_
        refine VL.mt true [0, 1, 5, 18] (fun _ _ h => h) hS rfl
      ·
        replace hS := it_f h14 hS
        refine VL.gy rfl rfl (q_move rfl) (by decide) ?_
        refine VL.gy rfl rfl (q_move rfl) (by decide) ?_
        refine VL.gy rfl rfl (q_gtr rfl rfl) (by decide) ?_
        refine VL.q (q_pick_f rfl rfl) (by decide) ?_
        refine VL.mt (decide (y11_1 < n_1)) [0, 1, 5, 18] (fun _ _ h => h) hS rfl
    · -- from there
      clear hS
      rintro x18_4 hS
      show VC _ _ _ _ _ [(0, str s_0), (1, i64 n_1), (5, i64 y11_1), (18, .bool x18_4)] (Mo.and Mo.tt _) (Ow.emp)
      refine VC.cond rfl (fun h18 => ?_) (fun h18 => ?_)
      ·
        replace hS := it_t h18 hS
        refine VC.region ?_
        refine VL.q (q_move rfl) (by decide) ?_
        refine VL.q (q_assign rfl) (by decide) ?_
        refine VL.mt y11_1 [0, 1] (fun _ _ h => h) hS rfl
      ·
        replace hS := it_b h18 hS
        refine VC.skip_mt n_1 [0, 1] (fun _ _ h => h) hS rfl
  · -- from there
    clear hS
    rintro n1_2 hS
    show VC _ _ _ _ _ [(0, str s_0), (1, i64 n1_2)] (Mo.and Mo.tt _) (Ow.emp)
    refine VC.seq ?_
    refine VC.region ?_
    refine VL.q (q_move rfl) (by decide) ?_
    obtain ⟨b21, hS⟩ := gd_s hS
    refine VL.make (α := Str) (z := []) Tryz.underlying43 gmk9 (by decide) rfl rfl b21.1 (Int.le_refl _) (by omega) (by omega) (by decide) (fun s21_6 hs21_6 => ?_)
    replace hS := lt_to hs21_6 hS
    refine VL.q (q_assign rfl) (by decide) ?_
    refine VL.to (fun _ _ h => h) ?_
    refine VC.seq ?_
    refine VC.seq ?_
    refine VC.region ?_
    refine VL.q (q_assign rfl) (by decide) ?_
    refine VL.to (fun _ _ h => h) ?_
    refine VC.block ?_
    refine VC.iter (S := Str × Sv Str × Int) (fun sg => (sg.1, sg.2.1.l, sg.2.2)) (fun sg => [(0, str sg.1), (1, i64 n1_2), (6, sg.2.1.val), (7, i64 sg.2.2)]) (fun sg => Mo.tt) (fun sg => Ow.star (Sv.own sg.2.1 9) (Ow.emp)) (s_0, s21_6, 0) [0, 1, 6, 7] hS rfl ?_
    clear hS
    rintro ⟨s0_8, a6_9, i7_10⟩ m1 y1 hS hK1
    show VC _ _ _ _ _ [(0, str s0_8), (1, i64 n1_2), (6, a6_9.val), (7, i64 i7_10)] (Mo.and Mo.tt _) (Ow.star (Sv.own a6_9 9) (Ow.emp))
    refine VC.seq ?_
    refine VC.seq ?_
    refine VC.region ?_
    refine VL.q (q_move rfl) (by decide) ?_
    refine VL.q (q_move rfl) (by decide) ?_
    obtain ⟨b24, hS⟩ := gd_s hS
    refine VL.q (q_sub rfl rfl b24) (by decide) ?_
    refine VL.q (q_lss rfl rfl) (by decide) ?_
    refine VL.to (fun _ _ h => h) ?_
    refine VC.cond_dec rfl (fun h25 => ?_) (fun h25 => ?_)
    ·
      replace hS := it_t h25 hS
      refine VC.skip_to (fun _ _ h => h) ?_
      refine VC.seq ?_
      refine VC.block ?_
      refine VC.seq ?_
      refine VC.region ?_
      refine VL.q (q_move rfl) (by decide) ?_
      obtain ⟨y30_11, ey30_11, hS⟩ := bd_s hS
      refine VL.q (q_call (unicode_utf8_DecodeRuneInString_ct s0_8 ey30_11) rfl (fun _ _ => rfl)) (by decide) ?_
      refine VL.q (q_move rfl) (by decide) ?_
      refine VL.q (q_extract rfl rfl) (by decide) ?_
      refine VL.q (q_extract rfl rfl) (by decide) ?_
      refine VL.q (q_assign rfl) (by decide) ?_
      refine VL.q (q_assign rfl) (by decide) ?_
      refine VL.to (fun _ _ h => h) ?_
      refine VC.keep [0, 1, 6, 7, 9] rfl ?_
      refine VC.seq ?_
      refine VC.region ?_
      refine VL.q (q_move rfl) (by decide) ?_
      refine VL.q (q_move rfl) (by decide) ?_
      refine VL.q (q_move rfl) (by decide) ?_
      refine VL.q (q_move rfl) (by decide) ?_
      obtain ⟨b37, hS⟩ := gd_s hS
      obtain ⟨y37_12, ey37_12, hS⟩ := lt_s hS
      refine VL.q (q_stoE Tryz.underlying9 rfl rfl b37.1 b37.2 ey37_12) (by decide) ?_
      obtain ⟨z38_13, nz38_13, hz38_13, hS⟩ := at_s hS
      refine VL.q (q_ixo (s := a6_9) Tryz.underlying43 gsz9 rfl rfl nz38_13 (lt_of_get nz38_13 hz38_13)) (by decide) ?_
      refine VL.storeE (s := a6_9) (T := 9) (j := 0) (vc := [str y37_12]) (y37_12 : Str) (by decide) rfl rfl hz38_13 rfl gsz9 rfl rfl (Nat.le_of_ble_eq_true rfl) rfl (fun w14 hw14 haw14 hcw14 hvw14 hbw14 how14 => ?_)
      rw [← hvw14]
      replace hS := lt_to hw14 hS
      refine VL.to (fun _ _ h => h) ?_
      refine VC.region ?_
      refine VL.q (q_move rfl) (by decide) ?_
      refine VL.q (q_move rfl) (by decide) ?_
      obtain ⟨b41, hS⟩ := gd_s hS
      obtain ⟨y41_16, ey41_16, hS⟩ := lt_s hS
      refine VL.q (q_sfromE Tryz.underlying9 rfl rfl b41.1 b41.2 ey41_16) (by decide) ?_
      refine VL.q (q_assign rfl) (by decide) ?_
      refine VL.to (fun _ _ h => h) ?_
      refine VC.keep [0, 1, 6, 7] rfl ?_
      refine VC.region ?_
      refine VL.q (q_move rfl) (by decide) ?_
      obtain ⟨b27, hS⟩ := gd_s hS
      refine VL.q (q_add rfl rfl b27) (by decide) ?_
      refine VL.q (q_assign rfl) (by decide) ?_
      refine VL.rnd (y41_16, w14, (i7_10 + 1)) [0, 1, 6, 7] (fun _ _ h => h) (go2 hS hK1) rfl
    ·
      replace hS := it_f h25 hS
      replace hS := up2 hS hK1
      refine VC.exit_to (fun _ _ h => h) ?_
      refine VC.seq ?_
      refine VC.seq ?_
      refine VC.region ?_
      refine VL.q (q_move rfl) (by decide) ?_
      refine VL.q (q_gtr rfl rfl) (by decide) ?_
      refine VL.to (fun _ _ h => h) ?_
      refine VC.cond_dec rfl (fun h43 => ?_) (fun h43 => ?_)
      ·
        replace hS := it_t h43 hS
        refine VC.region ?_
        refine VL.q (q_move rfl) (by decide) ?_
        refine VL.q (q_move rfl) (by decide) ?_
        obtain ⟨b46, hS⟩ := gd_s hS
        refine VL.q (q_sub rfl rfl b46) (by decide) ?_
        refine VL.q (q_move rfl) (by decide) ?_
        obtain ⟨z48_17, nz48_17, hz48_17, hS⟩ := at_s hS
        refine VL.q (q_ixo (s := a6_9) Tryz.underlying43 gsz9 rfl rfl nz48_17 (lt_of_get nz48_17 hz48_17)) (by decide) ?_
        refine VL.storeE (s := a6_9) (T := 9) (j := 0) (vc := [str s0_8]) (s0_8 : Str) (by decide) rfl rfl hz48_17 rfl gsz9 rfl rfl (Nat.le_of_ble_eq_true rfl) rfl (fun w18 hw18 haw18 hcw18 hvw18 hbw18 how18 => ?_)
        rw [← hvw18]
        replace hS := lt_to hw18 hS
        refine VL.to (fun _ _ h => h) ?_
        refine VC.keep [6] rfl ?_
        refine VC.seq ?_
        refine VC.region ?_
        refine VL.q (q_move rfl) (by decide) ?_
        refine VL.q (q_assign rfl) (by decide) ?_
        refine VL.to (fun _ _ h => h) ?_
        cases hS
        exact VC.ret (fin1 (.inr rfl) rfl rfl w18 rfl rfl (by (try dsimp only); exact InM.out) (by (try dsimp only); exact EntO.out))
      ·
        replace hS := it_f h43 hS
        refine VC.skip_to (fun _ _ h => h) ?_
        refine VC.seq ?_
        refine VC.region ?_
        refine VL.q (q_move rfl) (by decide) ?_
        refine VL.q (q_assign rfl) (by decide) ?_
        refine VL.to (fun _ _ h => h) ?_
        refine VC.keep [4] rfl ?_
        cases hS
        exact VC.ret (fin1 (.inr rfl) rfl rfl a6_9 rfl rfl (by (try dsimp only); exact InM.out) (by (try dsimp only); exact EntO.out))

set_option maxHeartbeats 4000000 in
set_option maxRecDepth 100000 in
theorem internal_stringslite_IndexByte_ct (s_0 : Str) (c_1 : Int) {r : Int} (hS : Sh.internal_stringslite_IndexByte s_0 c_1 = some r) :
    Ct Tryz.prog 210 [str s_0, .int .u8 c_1] Mo.tt (Ow.emp) (X := Unit) (fun _ => i64 r) (fun _ => True) (fun _ => Mo.tt) (fun _ => Ow.emp) := by
  refine Ct.of Tryz.func210 rfl (by kernel_rfl) Tryz.ntmps210 (by simp) fun c => ?_
  unfold Sh.internal_stringslite_IndexByte at hS
  refine VC.seq ?_
  refine VC.region ?_
  refine VL.q (q_assign rfl) (by decide) ?_
  refine VL.to (fun _ _ h => h) ?_
  refine VC.seq ?_
  refine VC.region ?_
  refine VL.q (q_move rfl) (by decide) ?_
  refine VL.q (q_move rfl) (by decide) ?_
  refine VL.q (q_extern Tryz.func233 rfl rfl (by kernel_rfl) (by kernel_rfl) rfl (fun w => x_ixS s_0 c_1 w)) (by decide) ?_
  refine VL.q (q_assign rfl) (by decide) ?_
  refine VL.to (fun _ _ h => h) ?_
  cases hS
  exact VC.ret (fin1 (.inr rfl) rfl rfl () rfl trivial (fun _ _ => trivial) (fun _ _ => trivial))

set_option maxHeartbeats 4000000 in
set_option maxRecDepth 100000 in
theorem internal_stringslite_Index_ct (a_0 : Str) (a_1 : Str) {r : Int} (hS : Sh.internal_stringslite_Index a_0 a_1 = some r) :
    Ct Tryz.prog 191 [str a_0, str a_1] Mo.tt (Ow.emp) (X := Unit) (fun _ => i64 r) (fun _ => True) (fun _ => Mo.tt) (fun _ => Ow.emp) := by
  refine Ct.of Tryz.func191 rfl (by kernel_rfl) Tryz.ntmps191 (by simp) fun c => ?_
  unfold Sh.internal_stringslite_Index at hS
  refine VC.seq ?_
  refine VC.region ?_
  refine VL.q (q_assign rfl) (by decide) ?_
  refine VL.to (fun _ _ h => h) ?_
  refine VC.seq ?_
  refine VC.region ?_
  refine VL.q (q_move rfl) (by decide) ?_
  refine VL.q (q_slen Tryz.underlying9 rfl) (by decide) ?_
  refine VL.q (q_assign rfl) (by decide) ?_
  refine VL.to (fun _ _ h => h) ?_
  refine VC.seq ?_
  refine VC.block ?_
  refine VC.cutJ (S := Bool) (fun (x16_1 : Bool) => x16_1) (fun (x16_1 : Bool) => [(0, str a_0), (1, str a_1), (5, i64 (a_1.length : Int)), (16, .bool x16_1)]) (fun (x16_1 : Bool) => Mo.tt) (fun (x16_1 : Bool) => Ow.emp) hS ?_ ?_
  · -- up to where ways meet
    clear hS
    intro k2 hS
    refine VC.region ?_
    refine VL.q (q_move rfl) (by decide) ?_
    refine VL.q (q_eql rfl rfl) (by decide) ?_
    refine VL.q (q_move rfl) (by decide) ?_
    refine VL.split_dec 19 rfl (fun h19 => ?_) (fun h19 => ?_)
    ·
      replace hS := it_t h19 hS
      refine VL.gn rfl rfl rfl (by decide) ?_
      refine VL.gn rfl rfl rfl (by decide) ?_
      refine VL.gn rfl rfl rfl (by decide) ?_
      refine VL.q (q_pick_t rfl rfl) (by decide) ?_
      refine VL.q (q_assign rfl) (by decide) ?_
      refine VL.mt true [0, 1, 5, 16] (fun _ _ h => h) hS rfl
    ·
      replace hS := it_f h19 hS
      refine VL.gy rfl rfl (q_move rfl) (by decide) ?_
      refine VL.gy rfl rfl (q_move rfl) (by decide) ?_
      refine VL.gy rfl rfl (q_seq rfl rfl) (by decide) ?_
      refine VL.q (q_pick_f rfl rfl) (by decide) ?_
      refine VL.q (q_assign rfl) (by decide) ?_
      refine VL.mt (decide (a_1 = a_0)) [0, 1, 5, 16] (fun _ _ h => h) hS rfl
  · -- from there
    clear hS
    rintro x16_1 hS
    show VC _ _ _ _ _ [(0, str a_0), (1, str a_1), (5, i64 (a_1.length : Int)), (16, .bool x16_1)] (Mo.and Mo.tt _) (Ow.emp)
    refine VC.cond rfl (fun h16 => ?_) (fun h16 => ?_)
    ·
      replace hS := it_t h16 hS
      refine VC.seq ?_
      refine VC.region ?_
      refine VL.q (q_assign rfl) (by decide) ?_
      refine VL.to (fun _ _ h => h) ?_
      cases hS
      exact VC.ret (fin1 (.inr rfl) rfl rfl () rfl trivial (fun _ _ => trivial) (fun _ _ => trivial))
    ·
      replace hS := it_b h16 hS
      refine VC.seq ?_
      refine VC.region ?_
      refine VL.q (q_move rfl) (by decide) ?_
      refine VL.q (q_eql rfl rfl) (by decide) ?_
      refine VL.q (q_assign rfl) (by decide) ?_
      refine VL.to (fun _ _ h => h) ?_
      refine VC.cond_dec rfl (fun h24 => ?_) (fun h24 => ?_)
      ·
        replace hS := it_t h24 hS
        refine VC.seq ?_
        refine VC.region ?_
        refine VL.q (q_move rfl) (by decide) ?_
        refine VL.q (q_move rfl) (by decide) ?_
        obtain ⟨z29_3, nz29_3, hz29_3, hS⟩ := at_s hS
        refine VL.q (q_sidx Tryz.underlying9 rfl rfl nz29_3 hz29_3) (by decide) ?_
        obtain ⟨y30_4, ey30_4, hS⟩ := bd_s hS
        refine VL.q (q_call (internal_stringslite_IndexByte_ct a_0 (z29_3.toNat : Int) ey30_4) rfl (fun _ _ => rfl)) (by decide) ?_
        refine VL.q (q_assign rfl) (by decide) ?_
        refine VL.to (fun _ _ h => h) ?_
        refine VC.keep [4] rfl ?_
        cases hS
        exact VC.ret (fin1 (.inr rfl) rfl rfl () rfl trivial (fun _ _ => trivial) (fun _ _ => trivial))
      ·
        replace hS := it_f h24 hS
        refine VC.seq ?_
        refine VC.region ?_
        refine VL.q (q_move rfl) (by decide) ?_
        refine VL.q (q_move rfl) (by decide) ?_
        refine VL.q (q_slen Tryz.underlying9 rfl) (by decide) ?_
        refine VL.q (q_geq rfl rfl) (by decide) ?_
        refine VL.q (q_assign rfl) (by decide) ?_
        refine VL.to (fun _ _ h => h) ?_
        refine VC.keep [0, 1, 5, 31] rfl ?_
        refine VC.cond_dec rfl (fun h31 => ?_) (fun h31 => ?_)
        ·
          replace hS := it_t h31 hS
          refine VC.seq ?_
          refine VC.region ?_
          refine VL.q (q_assign rfl) (by decide) ?_
          refine VL.to (fun _ _ h => h) ?_
          cases hS
          exact VC.ret (fin1 (.inr rfl) rfl rfl () rfl trivial (fun _ _ => trivial) (fun _ _ => trivial))
        ·
          replace hS := it_f h31 hS
          refine VC.seq ?_
          refine VC.region ?_
          refine VL.q (q_move rfl) (by decide) ?_
          cases hS

set_option maxHeartbeats 4000000 in
set_option maxRecDepth 100000 in
theorem strings_Index_ct (s_0 : Str) (substr_1 : Str) {r : Int} (hS : Sh.strings_Index s_0 substr_1 = some r) :
    Ct Tryz.prog 158 [str s_0, str substr_1] Mo.tt (Ow.emp) (X := Unit) (fun _ => i64 r) (fun _ => True) (fun _ => Mo.tt) (fun _ => Ow.emp) := by
  refine Ct.of Tryz.func158 rfl (by kernel_rfl) Tryz.ntmps158 (by simp) fun c => ?_
  unfold Sh.strings_Index at hS
  refine VC.seq ?_
  refine VC.region ?_
  refine VL.q (q_assign rfl) (by decide) ?_
  refine VL.to (fun _ _ h => h) ?_
  refine VC.seq ?_
  refine VC.region ?_
  refine VL.q (q_move rfl) (by decide) ?_
  refine VL.q (q_move rfl) (by decide) ?_
  obtain ⟨y7_1, ey7_1, hS⟩ := bd_s hS
  refine VL.q (q_call (internal_stringslite_Index_ct s_0 substr_1 ey7_1) rfl (fun _ _ => rfl)) (by decide) ?_
  refine VL.q (q_assign rfl) (by decide) ?_
  refine VL.to (fun _ _ h => h) ?_
  cases hS
  exact VC.ret (fin1 (.inr rfl) rfl rfl () rfl trivial (fun _ _ => trivial) (fun _ _ => trivial))

set_option maxHeartbeats 4000000 in
set_option maxRecDepth 100000 in
theorem strings_Count_ct (s_0 : Str) (substr_1 : Str) {r : Int} (hS : Sh.strings_Count s_0 substr_1 = some r) :
    Ct Tryz.prog 157 [str s_0, str substr_1] Mo.tt (Ow.emp) (X := Unit) (fun _ => i64 r) (fun _ => True) (fun _ => Mo.tt) (fun _ => Ow.emp) := by
  refine Ct.of Tryz.func157 rfl (by kernel_rfl) Tryz.ntmps157 (by simp) fun c => ?_
  unfold Sh.strings_Count at hS
  refine VC.seq ?_
  refine VC.region ?_
  refine VL.q (q_assign rfl) (by decide) ?_
  refine VL.to (fun _ _ h => h) ?_
  refine VC.seq ?_
  refine VC.seq ?_
  refine VC.region ?_
  refine VL.q (q_move rfl) (by decide) ?_
  refine VL.q (q_slen Tryz.underlying9 rfl) (by decide) ?_
  refine VL.q (q_eql rfl rfl) (by decide) ?_
  refine VL.to (fun _ _ h => h) ?_
  refine VC.cond_dec rfl (fun h9 => ?_) (fun h9 => ?_)
  ·
    replace hS := it_t h9 hS
    refine VC.seq ?_
    refine VC.region ?_
    refine VL.q (q_move rfl) (by decide) ?_
    obtain ⟨y11_1, ey11_1, hS⟩ := bd_s hS
    refine VL.q (q_call (unicode_utf8_RuneCountInString_ct s_0 ey11_1) rfl (fun _ _ => rfl)) (by decide) ?_
    obtain ⟨b12, hS⟩ := gd_s hS
    refine VL.q (q_add rfl rfl b12) (by decide) ?_
    refine VL.q (q_assign rfl) (by decide) ?_
    refine VL.to (fun _ _ h => h) ?_
    cases hS
    exact VC.ret (fin1 (.inr rfl) rfl rfl () rfl trivial (fun _ _ => trivial) (fun _ _ => trivial))
  ·
    replace hS := it_f h9 hS
    refine VC.skip_to (fun _ _ h => h) ?_
    refine VC.seq ?_
    refine VC.seq ?_
    refine VC.region ?_
    refine VL.q (q_move rfl) (by decide) ?_
    refine VL.q (q_slen Tryz.underlying9 rfl) (by decide) ?_
    refine VL.q (q_eql rfl rfl) (by decide) ?_
    refine VL.to (fun _ _ h => h) ?_
    refine VC.cond_dec rfl (fun h15 => ?_) (fun h15 => ?_)
    ·
      replace hS := it_t h15 hS
      refine VC.seq ?_
      refine VC.region ?_
      refine VL.q (q_move rfl) (by decide) ?_
      refine VL.q (q_move rfl) (by decide) ?_
      obtain ⟨z18_2, nz18_2, hz18_2, hS⟩ := at_s hS
      refine VL.q (q_sidx Tryz.underlying9 rfl rfl nz18_2 hz18_2) (by decide) ?_
      refine VL.q (q_extern Tryz.func190 rfl rfl (by kernel_rfl) (by kernel_rfl) rfl (fun w => x_cntS s_0 (z18_2.toNat : Int) w)) (by decide) ?_
      refine VL.q (q_assign rfl) (by decide) ?_
      refine VL.to (fun _ _ h => h) ?_
      refine VC.keep [4] rfl ?_
      cases hS
      exact VC.ret (fin1 (.inr rfl) rfl rfl () rfl trivial (fun _ _ => trivial) (fun _ _ => trivial))
    ·
      replace hS := it_f h15 hS
      refine VC.skip_to (fun _ _ h => h) ?_
      refine VC.seq ?_
      refine VC.region ?_
      refine VL.q (q_assign rfl) (by decide) ?_
      refine VL.to (fun _ _ h => h) ?_
      refine VC.block ?_
      refine VC.iter (S := Str × Int) (fun sg => (sg.1, sg.2)) (fun sg => [(0, str sg.1), (1, str substr_1), (5, i64 sg.2)]) (fun sg => Mo.tt) (fun sg => Ow.emp) (s_0, 0) [0, 1, 5] hS rfl ?_
      clear hS
      rintro ⟨s0_3, n5_4⟩ m1 y1 hS hK1
      show VC _ _ _ _ _ [(0, str s0_3), (1, str substr_1), (5, i64 n5_4)] (Mo.and Mo.tt _) (Ow.emp)
      refine VC.block ?_
      refine VC.seq ?_
      refine VC.region ?_
      refine VL.q (q_move rfl) (by decide) ?_
      refine VL.q (q_move rfl) (by decide) ?_
      obtain ⟨y22_5, ey22_5, hS⟩ := bd_s hS
      refine VL.q (q_call (strings_Index_ct s0_3 substr_1 ey22_5) rfl (fun _ _ => rfl)) (by decide) ?_
      refine VL.q (q_assign rfl) (by decide) ?_
      refine VL.to (fun _ _ h => h) ?_
      refine VC.seq ?_
      refine VC.seq ?_
      refine VC.region ?_
      refine VL.q (q_move rfl) (by decide) ?_
      refine VL.q (q_eql rfl rfl) (by decide) ?_
      refine VL.to (fun _ _ h => h) ?_
      refine VC.cond_dec rfl (fun h24 => ?_) (fun h24 => ?_)
      ·
        replace hS := it_t h24 hS
        refine VC.seq ?_
        refine VC.region ?_
        refine VL.q (q_move rfl) (by decide) ?_
        refine VL.q (q_assign rfl) (by decide) ?_
        refine VL.to (fun _ _ h => h) ?_
        refine VC.keep [4] rfl ?_
        replace hS := up2 hS hK1
        cases hS
        exact VC.ret (fin1 (.inr rfl) rfl rfl () rfl trivial (fun _ _ => trivial) (fun _ _ => trivial))
      ·
        replace hS := it_f h24 hS
        refine VC.skip_to (fun _ _ h => h) ?_
        refine VC.seq ?_
        refine VC.region ?_
        refine VL.q (q_move rfl) (by decide) ?_
        obtain ⟨b27, hS⟩ := gd_s hS
        refine VL.q (q_add rfl rfl b27) (by decide) ?_
        refine VL.q (q_assign rfl) (by decide) ?_
        refine VL.to (fun _ _ h => h) ?_
        refine VC.keep [0, 1, 5, 6] rfl ?_
        refine VC.region ?_
        refine VL.q (q_move rfl) (by decide) ?_
        refine VL.q (q_move rfl) (by decide) ?_
        refine VL.q (q_move rfl) (by decide) ?_
        refine VL.q (q_slen Tryz.underlying9 rfl) (by decide) ?_
        obtain ⟨b32, hS⟩ := gd_s hS
        refine VL.q (q_add rfl rfl b32) (by decide) ?_
        obtain ⟨b33, hS⟩ := gd_s hS
        obtain ⟨y33_6, ey33_6, hS⟩ := lt_s hS
        refine VL.q (q_sfromE Tryz.underlying9 rfl rfl b33.1 b33.2 ey33_6) (by decide) ?_
        refine VL.q (q_assign rfl) (by decide) ?_
        refine VL.rnd (y33_6, (n5_4 + 1)) [0, 1, 5] (fun _ _ h => h) (go2 hS hK1) rfl

set_option maxHeartbeats 4000000 in
set_option maxRecDepth 100000 in
theorem strings_genSplit_ct (a_0 : Str) (a_1 : Str) (a_2 : Int) (a_3 : Int) {r : List Str} (hS : Sh.strings_genSplit a_0 a_1 a_2 a_3 = some r) :
    Ct Tryz.prog 101 [str a_0, str a_1, i64 a_2, i64 a_3] Mo.tt (Ow.emp) (X := Sv Str) (fun x => x.val) (fun x => r = x.l) (fun x => x.ok) (fun x => Ow.emp) := by
  refine Ct.of Tryz.func101 rfl (by kernel_rfl) Tryz.ntmps101 (by simp) fun c => ?_
  unfold Sh.strings_genSplit at hS
  refine VC.seq ?_
  refine VC.region ?_
  refine VL.q (q_assign rfl) (by decide) ?_
  refine VL.to (fun _ _ h => h) ?_
  refine VC.seq ?_
  refine VC.seq ?_
  refine VC.region ?_
  refine VL.q (q_move rfl) (by decide) ?_
  refine VL.q (q_eql rfl rfl) (by decide) ?_
  refine VL.to (fun _ _ h => h) ?_
  refine VC.cond_dec rfl (fun h13 => ?_) (fun h13 => ?_)
  ·
    replace hS := it_t h13 hS
    refine VC.seq ?_
    refine VC.region ?_
    refine VL.q (q_assign rfl) (by decide) ?_
    refine VL.to (fun _ _ h => h) ?_
    cases hS
    exact VC.ret (fin1 (.inr rfl) rfl rfl ⟨none, 0, []⟩ rfl rfl (by (try dsimp only); exact InM.out) (fun _ _ => trivial))
  ·
    replace hS := it_f h13 hS
    refine VC.skip_to (fun _ _ h => h) ?_
    refine VC.seq ?_
    refine VC.seq ?_
    refine VC.region ?_
    refine VL.q (q_move rfl) (by decide) ?_
    refine VL.q (q_seq rfl rfl) (by decide) ?_
    refine VL.to (fun _ _ h => h) ?_
    refine VC.cond_dec rfl (fun h15 => ?_) (fun h15 => ?_)
    ·
      replace hS := it_t h15 hS
      refine VC.seq ?_
      refine VC.region ?_
      refine VL.q (q_move rfl) (by decide) ?_
      refine VL.q (q_move rfl) (by decide) ?_
      obtain ⟨y18_1, ey18_1, hS⟩ := bd_s hS
      refine VL.callO (strings_explode_ct a_0 a_3 ey18_1) rfl (by decide) ?_
      rintro q18_1_0 rfl
      try dsimp only
      refine VL.q (q_assign rfl) (by decide) ?_
      refine VL.to (fun _ _ h => h) ?_
      refine VC.keep [8] rfl ?_
      refine VC.shut q18_1_0 9 (fun _ _ _ _ => trivial) ?_
      cases hS
      exact VC.ret (fin1 (.inr rfl) rfl rfl q18_1_0 rfl rfl (by (try dsimp only); exact InM.out) (fun _ _ => trivial))
    ·
      replace hS := it_f h15 hS
      refine VC.skip_to (fun _ _ h => h) ?_
      refine VC.cutJ (S := Int) (fun (x3_2 : Int) => x3_2) (fun (x3_2 : Int) => [(0, str a_0), (1, str a_1), (2, i64 a_2), (3, i64 x3_2)]) (fun (x3_2 : Int) => Mo.tt) (fun (x3_2 : Int) => Ow.emp) hS ?_ ?_
      · -- up to where ways meet
        clear hS
        intro k3 hS
        refine VC.seq ?_
        refine VC.region ?_
        refine VL.q (q_move rfl) (by decide) ?_
        refine VL.q (q_lss rfl rfl) (by decide) ?_
        refine VL.to (fun _ _ h => h) ?_
        refine VC.cond_dec rfl (fun h20 => ?_) (fun h20 => ?_)
        ·
          replace hS := it_t h20 hS
          refine VC.region ?_
          refine VL.q (q_move rfl) (by decide) ?_
          refine VL.q (q_move rfl) (by decide) ?_
          obtain ⟨y23_4, ey23_4, hS⟩ := bd_s hS
          refine VL.q (q_call (strings_Count_ct a_0 a_1 ey23_4) rfl (fun _ _ => rfl)) (by decide) ?_
          obtain ⟨b24, hS⟩ := gd_s hS
          refine VL.q (q_add rfl rfl b24) (by decide) ?_
          refine VL.q (q_assign rfl) (by decide) ?_
          refine VL.mt (y23_4 + 1) [0, 1, 2, 3] (fun _ _ h => h) hS rfl
        ·
          replace hS := it_f h20 hS
          refine VC.skip_mt a_3 [0, 1, 2, 3] (fun _ _ h => h) hS rfl
      · -- from there
        clear hS
        rintro x3_2 hS
        show VC _ _ _ _ _ [(0, str a_0), (1, str a_1), (2, i64 a_2), (3, i64 x3_2)] (Mo.and Mo.tt _) (Ow.emp)
        refine VC.seq ?_
        refine VC.region ?_
        refine VL.q (q_move rfl) (by decide) ?_
        refine VL.q (q_move rfl) (by decide) ?_
        refine VL.q (q_slen Tryz.underlying9 rfl) (by decide) ?_
        obtain ⟨b28, hS⟩ := gd_s hS
        refine VL.q (q_add rfl rfl b28) (by decide) ?_
        refine VL.q (q_min rfl) (by decide) ?_
        refine VL.q (q_assign rfl) (by decide) ?_
        refine VL.to (fun _ _ h => h) ?_
        refine VC.seq ?_
        refine VC.region ?_
        refine VL.q (q_move rfl) (by decide) ?_
        obtain ⟨b31, hS⟩ := gd_s hS
        refine VL.make (α := Str) (z := []) Tryz.underlying43 gmk9 (by decide) rfl rfl b31.1 (Int.le_refl _) (by omega) (by omega) (by decide) (fun s31_5 hs31_5 => ?_)
        replace hS := lt_to hs31_5 hS
        refine VL.q (q_assign rfl) (by decide) ?_
        refine VL.to (fun _ _ h => h) ?_
        refine VC.keep [0, 1, 2, 3, 9] rfl ?_
        refine VC.seq ?_
        refine VC.region ?_
        refine VL.q (q_move rfl) (by decide) ?_
        obtain ⟨b33, hS⟩ := gd_s hS
        refine VL.q (q_sub rfl rfl b33) (by decide) ?_
        refine VL.q (q_assign rfl) (by decide) ?_
        refine VL.to (fun _ _ h => h) ?_
        refine VC.seq ?_
        refine VC.region ?_
        refine VL.q (q_assign rfl) (by decide) ?_
        refine VL.to (fun _ _ h => h) ?_
        refine VC.cutJ (S := Str × Sv Str × Int) (fun sg => (sg.1, sg.2.1.l, sg.2.2)) (fun sg => [(0, str sg.1), (9, sg.2.1.val), (10, i64 sg.2.2)]) (fun sg => Mo.tt) (fun sg => Ow.star (Sv.own sg.2.1 9) (Ow.emp)) hS ?_ ?_
        · -- up to where ways meet
          clear hS
          intro k10 hS
          refine VC.block ?_
          refine VC.iter (S := Str × Sv Str × Int) (fun sg => (sg.1, sg.2.1.l, sg.2.2)) (fun sg => [(0, str sg.1), (1, str a_1), (2, i64 a_2), (3, i64 ((min x3_2 ((a_0.length : Int) + 1)) - 1)), (9, sg.2.1.val), (10, i64 sg.2.2)]) (fun sg => Mo.tt) (fun sg => Ow.star (Sv.own sg.2.1 9) (Ow.emp)) (a_0, s31_5, 0) [0, 1, 2, 3, 9, 10] hS rfl ?_
          clear hS
          rintro ⟨x0_11, x9_12, x10_13⟩ m1 y1 hS hK1
          show VC _ _ _ _ _ [(0, str x0_11), (1, str a_1), (2, i64 a_2), (3, i64 ((min x3_2 ((a_0.length : Int) + 1)) - 1)), (9, x9_12.val), (10, i64 x10_13)] (Mo.and Mo.tt _) (Ow.star (Sv.own x9_12 9) (Ow.emp))
          refine VC.seq ?_
          refine VC.seq ?_
          refine VC.region ?_
          refine VL.q (q_move rfl) (by decide) ?_
          refine VL.q (q_move rfl) (by decide) ?_
          refine VL.q (q_lss rfl rfl) (by decide) ?_
          refine VL.to (fun _ _ h => h) ?_
          refine VC.cond_dec rfl (fun h36 => ?_) (fun h36 => ?_)
          ·
            replace hS := it_t h36 hS
            refine VC.skip_to (fun _ _ h => h) ?_
            refine VC.block ?_
            refine VC.seq ?_
            refine VC.region ?_
            refine VL.q (q_move rfl) (by decide) ?_
            refine VL.q (q_move rfl) (by decide) ?_
            obtain ⟨y39_14, ey39_14, hS⟩ := bd_s hS
            refine VL.q (q_call (strings_Index_ct x0_11 a_1 ey39_14) rfl (fun _ _ => rfl)) (by decide) ?_
            refine VL.q (q_assign rfl) (by decide) ?_
            refine VL.to (fun _ _ h => h) ?_
            refine VC.seq ?_
            refine VC.seq ?_
            refine VC.region ?_
            refine VL.q (q_move rfl) (by decide) ?_
            refine VL.q (q_lss rfl rfl) (by decide) ?_
            refine VL.to (fun _ _ h => h) ?_
            refine VC.keep [0, 1, 2, 3, 9, 10, 11, 41] rfl ?_
            refine VC.cond_dec rfl (fun h41 => ?_) (fun h41 => ?_)
            ·
              replace hS := it_t h41 hS
              replace hS := up2 hS hK1
              refine VC.exit_mt (x0_11, x9_12, x10_13) [0, 9, 10] (fun _ _ h => h) hS rfl
            ·
              replace hS := it_f h41 hS
              refine VC.skip_to (fun _ _ h => h) ?_
              refine VC.seq ?_
              refine VC.region ?_
              refine VL.q (q_move rfl) (by decide) ?_
              refine VL.q (q_move rfl) (by decide) ?_
              refine VL.q (q_move rfl) (by decide) ?_
              refine VL.q (q_move rfl) (by decide) ?_
              refine VL.q (q_move rfl) (by decide) ?_
              obtain ⟨b47, hS⟩ := gd_s hS
              refine VL.q (q_add rfl rfl b47) (by decide) ?_
              obtain ⟨b48, hS⟩ := gd_s hS
              obtain ⟨y48_15, ey48_15, hS⟩ := lt_s hS
              refine VL.q (q_stoE Tryz.underlying9 rfl rfl b48.1 b48.2 ey48_15) (by decide) ?_
              obtain ⟨z49_16, nz49_16, hz49_16, hS⟩ := at_s hS
              refine VL.q (q_ixo (s := x9_12) Tryz.underlying43 gsz9 rfl rfl nz49_16 (lt_of_get nz49_16 hz49_16)) (by decide) ?_
              refine VL.storeE (s := x9_12) (T := 9) (j := 0) (vc := [str y48_15]) (y48_15 : Str) (by decide) rfl rfl hz49_16 rfl gsz9 rfl rfl (Nat.le_of_ble_eq_true rfl) rfl (fun w17 hw17 haw17 hcw17 hvw17 hbw17 how17 => ?_)
              rw [← hvw17]
              replace hS := lt_to hw17 hS
              refine VL.to (fun _ _ h => h) ?_
              refine VC.keep [0, 1, 2, 3, 9, 10, 11] rfl ?_
              refine VC.seq ?_
              refine VC.region ?_
              refine VL.q (q_move rfl) (by decide) ?_
              refine VL.q (q_move rfl) (by decide) ?_
              refine VL.q (q_move rfl) (by decide) ?_
              refine VL.q (q_slen Tryz.underlying9 rfl) (by decide) ?_
              obtain ⟨b54, hS⟩ := gd_s hS
              refine VL.q (q_add rfl rfl b54) (by decide) ?_
              obtain ⟨b55, hS⟩ := gd_s hS
              obtain ⟨y55_19, ey55_19, hS⟩ := lt_s hS
              refine VL.q (q_sfromE Tryz.underlying9 rfl rfl b55.1 b55.2 ey55_19) (by decide) ?_
              refine VL.q (q_assign rfl) (by decide) ?_
              refine VL.to (fun _ _ h => h) ?_
              refine VC.keep [0, 1, 2, 3, 9, 10] rfl ?_
              refine VC.region ?_
              refine VL.q (q_move rfl) (by decide) ?_
              obtain ⟨b57, hS⟩ := gd_s hS
              refine VL.q (q_add rfl rfl b57) (by decide) ?_
              refine VL.q (q_assign rfl) (by decide) ?_
              refine VL.rnd (y55_19, w17, (x10_13 + 1)) [0, 1, 2, 3, 9, 10] (fun _ _ h => h) (go2 hS hK1) rfl
          ·
            replace hS := it_f h36 hS
            replace hS := up2 hS hK1
            refine VC.exit_mt (x0_11, x9_12, x10_13) [0, 9, 10] (fun _ _ h => h) hS rfl
        · -- from there
          clear hS
          rintro ⟨x0_7, x9_8, x10_9⟩ hS
          show VC _ _ _ _ _ [(0, str x0_7), (9, x9_8.val), (10, i64 x10_9)] (Mo.and Mo.tt _) (Ow.star (Sv.own x9_8 9) (Ow.emp))
          refine VC.seq ?_
          refine VC.region ?_
          refine VL.q (q_move rfl) (by decide) ?_
          refine VL.q (q_move rfl) (by decide) ?_
          refine VL.q (q_move rfl) (by decide) ?_
          obtain ⟨z61_20, nz61_20, hz61_20, hS⟩ := at_s hS
          refine VL.q (q_ixo (s := x9_8) Tryz.underlying43 gsz9 rfl rfl nz61_20 (lt_of_get nz61_20 hz61_20)) (by decide) ?_
          refine VL.storeE (s := x9_8) (T := 9) (j := 0) (vc := [str x0_7]) (x0_7 : Str) (by decide) rfl rfl hz61_20 rfl gsz9 rfl rfl (Nat.le_of_ble_eq_true rfl) rfl (fun w21 hw21 haw21 hcw21 hvw21 hbw21 how21 => ?_)
          rw [← hvw21]
          replace hS := lt_to hw21 hS
          refine VL.to (fun _ _ h => h) ?_
          refine VC.seq ?_
          refine VC.region ?_
          refine VL.q (q_move rfl) (by decide) ?_
          refine VL.q (q_move rfl) (by decide) ?_
          obtain ⟨b64, hS⟩ := gd_s hS
          refine VL.q (q_add rfl rfl b64) (by decide) ?_
          refine VL.shut w21 9 (fun _ _ _ _ => trivial) ?_
          obtain ⟨b65, hS⟩ := gd_s hS
          refine VL.sto Tryz.underlying43 gsz9 rfl rfl b65.1 (b65.2) (by decide) fun s65_23 hs65_23 => ?_
          replace hS := lt_to hs65_23 hS
          refine VL.q (q_assign rfl) (by decide) ?_
          refine VL.to (fun _ _ h => h) ?_
          refine VC.keep [8] rfl ?_
          cases hS
          exact VC.ret (fin1 (.inr rfl) rfl rfl s65_23 rfl rfl (by (try dsimp only); exact InM.out) (fun _ _ => trivial))

set_option maxHeartbeats 4000000 in
set_option maxRecDepth 100000 in
theorem strings_Split_ct (s_0 : Str) (sep_1 : Str) {r : List Str} (hS : Sh.strings_Split s_0 sep_1 = some r) :
    Ct Tryz.prog 49 [str s_0, str sep_1] Mo.tt (Ow.emp) (X := Sv Str) (fun x => x.val) (fun x => r = x.l) (fun x => x.ok) (fun x => Ow.emp) := by
  refine Ct.of Tryz.func49 rfl (by kernel_rfl) Tryz.ntmps49 (by simp) fun c => ?_
  unfold Sh.strings_Split at hS
  refine VC.seq ?_
  refine VC.region ?_
  refine VL.q (q_assign rfl) (by decide) ?_
  refine VL.to (fun _ _ h => h) ?_
  refine VC.seq ?_
  refine VC.region ?_
  refine VL.q (q_move rfl) (by decide) ?_
  refine VL.q (q_move rfl) (by decide) ?_
  obtain ⟨y7_1, ey7_1, hS⟩ := bd_s hS
  refine VL.callF (strings_genSplit_ct s_0 sep_1 0 (-1) ey7_1) rfl (by decide) ?_
  rintro q7_1_0 rfl
  try dsimp only
  refine VL.q (q_assign rfl) (by decide) ?_
  refine VL.to (fun _ _ h => h) ?_
  cases hS
  exact VC.ret (fin1 (.inr rfl) rfl rfl q7_1_0 rfl rfl (by (try dsimp only); exact InM.out) (fun _ _ => trivial))

set_option maxHeartbeats 4000000 in
set_option maxRecDepth 100000 in
theorem strings_trimLeftByte_ct (s_0 : Str) (c_1 : Int) {r : Str} (hS : Sh.strings_trimLeftByte s_0 c_1 = some r) :
    Ct Tryz.prog 102 [str s_0, .int .u8 c_1] Mo.tt (Ow.emp) (X := Unit) (fun _ => str r) (fun _ => True) (fun _ => Mo.tt) (fun _ => Ow.emp) := by
  refine Ct.of Tryz.func102 rfl (by kernel_rfl) Tryz.ntmps102 (by simp) fun c => ?_
  unfold Sh.strings_trimLeftByte at hS
  refine VC.seq ?_
  refine VC.region ?_
  refine VL.q (q_assign rfl) (by decide) ?_
  refine VL.to (fun _ _ h => h) ?_
  refine VC.seq ?_
  refine VC.block ?_
  refine VC.iter (S := Str) (fun (s0_1 : Str) => s0_1) (fun (s0_1 : Str) => [(0, str s0_1), (1, .int .u8 c_1)]) (fun (s0_1 : Str) => Mo.tt) (fun (s0_1 : Str) => Ow.emp) s_0 [0, 1] hS rfl ?_
  clear hS
  rintro s0_1 m1 y1 hS hK1
  show VC _ _ _ _ _ [(0, str s0_1), (1, .int .u8 c_1)] (Mo.and Mo.tt _) (Ow.emp)
  refine VC.seq ?_
  refine VC.seq ?_
  refine VC.region ?_
  refine VL.q (q_move rfl) (by decide) ?_
  refine VL.q (q_slen Tryz.underlying9 rfl) (by decide) ?_
  refine VL.q (q_gtr rfl rfl) (by decide) ?_
  refine VL.q (q_move rfl) (by decide) ?_
  refine VL.split_dec 8 rfl (fun h8 => ?_) (fun h8 => ?_)
  ·
    replace hS := it_t h8 hS
    refine VL.gy rfl rfl (q_move rfl) (by decide) ?_
    obtain ⟨z10_2, nz10_2, hz10_2, hS⟩ := at_s hS
    refine VL.gy rfl rfl (q_sidx Tryz.underlying9 rfl rfl nz10_2 hz10_2) (by decide) ?_
    refine VL.gy rfl rfl (q_move rfl) (by decide) ?_
    refine VL.gy rfl rfl (q_eql rfl rfl) (by decide) ?_
    refine VL.q (q_pick_t rfl rfl) (by decide) ?_
    refine VL.to (fun _ _ h => h) ?_
    refine VC.keep [0, 1, 13] rfl ?_
    refine VC.cond_dec rfl (fun h13 => ?_) (fun h13 => ?_)
    ·
      replace hS := it_t h13 hS
      refine VC.skip_to (fun _ _ h => h) ?_
      refine VC.block ?_
      refine VC.region ?_
      refine VL.q (q_move rfl) (by decide) ?_
      obtain ⟨b15, hS⟩ := gd_s hS
      obtain ⟨y15_3, ey15_3, hS⟩ := lt_s hS
      refine VL.q (q_sfromE Tryz.underlying9 rfl rfl b15.1 b15.2 ey15_3) (by decide) ?_
      refine VL.q (q_assign rfl) (by decide) ?_
      refine VL.rnd y15_3 [0, 1] (fun _ _ h => h) (go2 hS hK1) rfl
    ·
      replace hS := it_f h13 hS
      replace hS := up2 hS hK1
      refine VC.exit_to (fun _ _ h => h) ?_
      refine VC.seq ?_
      refine VC.region ?_
      refine VL.q (q_move rfl) (by decide) ?_
      refine VL.q (q_assign rfl) (by decide) ?_
      refine VL.to (fun _ _ h => h) ?_
      cases hS
      exact VC.ret (fin1 (.inr rfl) rfl rfl () rfl trivial (fun _ _ => trivial) (fun _ _ => trivial))
  ·
    replace hS := it_f h8 hS
    refine VL.gn rfl rfl rfl (by decide) ?_
    refine VL.gn rfl rfl rfl (by decide) ?_
    refine VL.gn rfl rfl rfl (by decide) ?_
    refine VL.gn rfl rfl rfl (by decide) ?_
    refine VL.q (q_pick_f rfl rfl) (by decide) ?_
    refine VL.to (fun _ _ h => h) ?_
    refine VC.keep [0, 1, 13] rfl ?_
    refine VC.cond_f rfl ?_
    replace hS := up2 hS hK1
    refine VC.exit_to (fun _ _ h => h) ?_
    refine VC.seq ?_
    refine VC.region ?_
    refine VL.q (q_move rfl) (by decide) ?_
    refine VL.q (q_assign rfl) (by decide) ?_
    refine VL.to (fun _ _ h => h) ?_
    cases hS
    exact VC.ret (fin1 (.inr rfl) rfl rfl () rfl trivial (fun _ _ => trivial) (fun _ _ => trivial))

set_option maxHeartbeats 4000000 in
set_option maxRecDepth 100000 in
theorem strings_TrimLeft_ct (s_0 : Str) (cutset_1 : Str) {r : Str} (hS : Sh.strings_TrimLeft s_0 cutset_1 = some r) :
    Ct Tryz.prog 50 [str s_0, str cutset_1] Mo.tt (Ow.emp) (X := Unit) (fun _ => str r) (fun _ => True) (fun _ => Mo.tt) (fun _ => Ow.emp) := by
  refine Ct.of Tryz.func50 rfl (by kernel_rfl) Tryz.ntmps50 (by simp) fun c => ?_
  unfold Sh.strings_TrimLeft at hS
  refine VC.seq ?_
  refine VC.region ?_
  refine VL.q (q_assign rfl) (by decide) ?_
  refine VL.to (fun _ _ h => h) ?_
  refine VC.seq ?_
  refine VC.cutJ (S := Bool) (fun (x12_1 : Bool) => x12_1) (fun (x12_1 : Bool) => [(0, str s_0), (1, str cutset_1), (12, .bool x12_1)]) (fun (x12_1 : Bool) => Mo.tt) (fun (x12_1 : Bool) => Ow.emp) hS ?_ ?_
  · -- up to where ways meet
    clear hS
    intro k2 hS
    refine VC.region ?_
    refine VL.q (q_move rfl) (by decide) ?_
    refine VL.q (q_seq rfl rfl) (by decide) ?_
    refine VL.q (q_move rfl) (by decide) ?_
    refine VL.split_dec 9 rfl (fun h9 => ?_) (fun h9 => ?_)
    ·
      replace hS := it_t h9 hS
      refine VL.gn rfl rfl rfl (by decide) ?_
      refine VL.gn rfl rfl rfl (by decide) ?_
      refine VL.q (q_pick_t rfl rfl) (by decide) ?_
      refine VL.mt true [0, 1, 12] (fun _ _ h => h) hS rfl
    ·
      replace hS := it_f h9 hS
      refine VL.gy rfl rfl (q_move rfl) (by decide) ?_
      refine VL.gy rfl rfl (q_seq rfl rfl) (by decide) ?_
      refine VL.q (q_pick_f rfl rfl) (by decide) ?_
      refine VL.mt (decide (cutset_1 = [])) [0, 1, 12] (fun _ _ h => h) hS rfl
  · -- from there
    clear hS
    rintro x12_1 hS
    show VC _ _ _ _ _ [(0, str s_0), (1, str cutset_1), (12, .bool x12_1)] (Mo.and Mo.tt _) (Ow.emp)
    refine VC.cond rfl (fun h12 => ?_) (fun h12 => ?_)
    ·
      replace hS := it_t h12 hS
      refine VC.seq ?_
      refine VC.region ?_
      refine VL.q (q_move rfl) (by decide) ?_
      refine VL.q (q_assign rfl) (by decide) ?_
      refine VL.to (fun _ _ h => h) ?_
      cases hS
      exact VC.ret (fin1 (.inr rfl) rfl rfl () rfl trivial (fun _ _ => trivial) (fun _ _ => trivial))
    ·
      replace hS := it_b h12 hS
      refine VC.skip_to (fun _ _ h => h) ?_
      refine VC.seq ?_
      refine VC.cutJ (S := Bool) (fun (x21_3 : Bool) => x21_3) (fun (x21_3 : Bool) => [(0, str s_0), (1, str cutset_1), (21, .bool x21_3)]) (fun (x21_3 : Bool) => Mo.tt) (fun (x21_3 : Bool) => Ow.emp) hS ?_ ?_
      · -- up to where ways meet
        clear hS
        intro k4 hS
        refine VC.region ?_
        refine VL.q (q_move rfl) (by decide) ?_
        refine VL.q (q_slen Tryz.underlying9 rfl) (by decide) ?_
        refine VL.q (q_eql rfl rfl) (by decide) ?_
        refine VL.q (q_move rfl) (by decide) ?_
        refine VL.split_dec 17 rfl (fun h17 => ?_) (fun h17 => ?_)
        ·
          replace hS := it_t h17 hS
          refine VL.gy rfl rfl (q_move rfl) (by decide) ?_
          obtain ⟨z19_5, nz19_5, hz19_5, hS⟩ := at_s hS
          refine VL.gy rfl rfl (q_sidx Tryz.underlying9 rfl rfl nz19_5 hz19_5) (by decide) ?_
          refine VL.gy rfl rfl (q_lss rfl rfl) (by decide) ?_
          refine VL.q (q_pick_t rfl rfl) (by decide) ?_
          refine VL.mt (decide ((z19_5.toNat : Int) < 128)) [0, 1, 21] (fun _ _ h => h) hS rfl
        ·
          replace hS := it_f h17 hS
          refine VL.gn rfl rfl rfl (by decide) ?_
          refine VL.gn rfl rfl rfl (by decide) ?_
          refine VL.gn rfl rfl rfl (by decide) ?_
          refine VL.q (q_pick_f rfl rfl) (by decide) ?_
          refine VL.mt false [0, 1, 21] (fun _ _ h => h) hS rfl
      · -- from there
        clear hS
        rintro x21_3 hS
        show VC _ _ _ _ _ [(0, str s_0), (1, str cutset_1), (21, .bool x21_3)] (Mo.and Mo.tt _) (Ow.emp)
        refine VC.cond rfl (fun h21 => ?_) (fun h21 => ?_)
        ·
          replace hS := it_t h21 hS
          refine VC.seq ?_
          refine VC.region ?_
          refine VL.q (q_move rfl) (by decide) ?_
          refine VL.q (q_move rfl) (by decide) ?_
          obtain ⟨z24_6, nz24_6, hz24_6, hS⟩ := at_s hS
          refine VL.q (q_sidx Tryz.underlying9 rfl rfl nz24_6 hz24_6) (by decide) ?_
          obtain ⟨y25_7, ey25_7, hS⟩ := bd_s hS
          refine VL.q (q_call (strings_trimLeftByte_ct s_0 (z24_6.toNat : Int) ey25_7) rfl (fun _ _ => rfl)) (by decide) ?_
          refine VL.q (q_assign rfl) (by decide) ?_
          refine VL.to (fun _ _ h => h) ?_
          cases hS
          exact VC.ret (fin1 (.inr rfl) rfl rfl () rfl trivial (fun _ _ => trivial) (fun _ _ => trivial))
        ·
          replace hS := it_b h21 hS
          refine VC.skip_to (fun _ _ h => h) ?_
          refine VC.seq ?_
          refine VC.seq ?_
          refine VC.region ?_
          refine VL.q (q_move rfl) (by decide) ?_
          cases hS

set_option maxHeartbeats 4000000 in
set_option maxRecDepth 100000 in
theorem todo_cut_ct (s_0 : Str) {r : Str × Str} (hS : Sh.todo_cut s_0 = some r) :
    Ct Tryz.prog 106 [str s_0] Mo.tt (Ow.emp) (X := Unit) (fun _ => .tuple #[str r.1, str r.2]) (fun _ => True) (fun _ => Mo.tt) (fun _ => Ow.emp) := by
  refine Ct.of Tryz.func106 rfl (by kernel_rfl) Tryz.ntmps106 (by simp) fun c => ?_
  unfold Sh.todo_cut at hS
  refine VC.seq ?_
  refine VC.region ?_
  refine VL.q (q_assign rfl) (by decide) ?_
  refine VL.q (q_assign rfl) (by decide) ?_
  refine VL.to (fun _ _ h => h) ?_
  refine VC.seq ?_
  refine VC.region ?_
  refine VL.q (q_move rfl) (by decide) ?_
  obtain ⟨y6_1, ey6_1, hS⟩ := bd_s hS
  refine VL.q (q_call (strings_Index_ct s_0 [32] ey6_1) rfl (fun _ _ => rfl)) (by decide) ?_
  refine VL.q (q_assign rfl) (by decide) ?_
  refine VL.to (fun _ _ h => h) ?_
  refine VC.seq ?_
  refine VC.seq ?_
  refine VC.region ?_
  refine VL.q (q_move rfl) (by decide) ?_
  refine VL.q (q_lss rfl rfl) (by decide) ?_
  refine VL.to (fun _ _ h => h) ?_
  refine VC.cond_dec rfl (fun h8 => ?_) (fun h8 => ?_)
  ·
    replace hS := it_t h8 hS
    refine VC.seq ?_
    refine VC.region ?_
    refine VL.q (q_move rfl) (by decide) ?_
    refine VL.q (q_assign rfl) (by decide) ?_
    refine VL.q (q_assign rfl) (by decide) ?_
    refine VL.to (fun _ _ h => h) ?_
    cases hS
    exact VC.ret (fin2 (.inr rfl) rfl rfl rfl () rfl trivial (fun _ _ => trivial) (fun _ _ => trivial))
  ·
    replace hS := it_f h8 hS
    refine VC.skip_to (fun _ _ h => h) ?_
    refine VC.seq ?_
    refine VC.draw ((List.range 9).map fun k => (k, true)) mixed (by kernel_rfl) (by kernel_rfl) (by kernel_rfl) ?_
    refine VD.q rfl (q_move rfl) (by decide) ?_
    refine VD.q rfl (q_move rfl) (by decide) ?_
    obtain ⟨b12, hS⟩ := gd_s hS
    obtain ⟨y12_2, ey12_2, hS⟩ := lt_s hS
    refine VD.q rfl (q_stoE Tryz.underlying9 rfl rfl b12.1 b12.2 ey12_2) (by decide) ?_
    refine VD.q rfl (q_move rfl) (by decide) ?_
    refine VD.q rfl (q_move rfl) (by decide) ?_
    obtain ⟨b15, hS⟩ := gd_s hS
    obtain ⟨y15_3, ey15_3, hS⟩ := lt_s hS
    refine VD.q rfl (q_sfromE Tryz.underlying9 rfl rfl b15.1 b15.2 ey15_3) (by decide) ?_
    obtain ⟨y16_4, ey16_4, hS⟩ := bd_s hS
    refine VD.q rfl (q_call (strings_TrimLeft_ct y15_3 [32] ey16_4) rfl (fun _ _ => rfl)) (by decide) ?_
    refine VD.q rfl (q_assign rfl) (by decide) ?_
    refine VD.q rfl (q_assign rfl) (by decide) ?_
    refine VD.to (fun _ _ h => h) ?_
    refine VC.keep [2, 3] rfl ?_
    cases hS
    exact VC.ret (fin2 (.inr rfl) rfl rfl rfl () rfl trivial (fun _ _ => trivial) (fun _ _ => trivial))

set_option maxHeartbeats 4000000 in
set_option maxRecDepth 100000 in
theorem strings_trimRightByte_ct (s_0 : Str) (c_1 : Int) {r : Str} (hS : Sh.strings_trimRightByte s_0 c_1 = some r) :
    Ct Tryz.prog 162 [str s_0, .int .u8 c_1] Mo.tt (Ow.emp) (X := Unit) (fun _ => str r) (fun _ => True) (fun _ => Mo.tt) (fun _ => Ow.emp) := by
  refine Ct.of Tryz.func162 rfl (by kernel_rfl) Tryz.ntmps162 (by simp) fun c => ?_
  unfold Sh.strings_trimRightByte at hS
  refine VC.seq ?_
  refine VC.region ?_
  refine VL.q (q_assign rfl) (by decide) ?_
  refine VL.to (fun _ _ h => h) ?_
  refine VC.seq ?_
  refine VC.block ?_
  refine VC.iter (S := Str) (fun (s0_1 : Str) => s0_1) (fun (s0_1 : Str) => [(0, str s0_1), (1, .int .u8 c_1)]) (fun (s0_1 : Str) => Mo.tt) (fun (s0_1 : Str) => Ow.emp) s_0 [0, 1] hS rfl ?_
  clear hS
  rintro s0_1 m1 y1 hS hK1
  show VC _ _ _ _ _ [(0, str s0_1), (1, .int .u8 c_1)] (Mo.and Mo.tt _) (Ow.emp)
  refine VC.seq ?_
  refine VC.seq ?_
  refine VC.region ?_
  refine VL.q (q_move rfl) (by decide) ?_
  refine VL.q (q_slen Tryz.underlying9 rfl) (by decide) ?_
  refine VL.q (q_gtr rfl rfl) (by decide) ?_
  refine VL.q (q_move rfl) (by decide) ?_
  refine VL.split_dec 8 rfl (fun h8 => ?_) (fun h8 => ?_)
  ·
    replace hS := it_t h8 hS
    refine VL.gy rfl rfl (q_move rfl) (by decide) ?_
    refine VL.gy rfl rfl (q_move rfl) (by decide) ?_
    refine VL.gy rfl rfl (q_slen Tryz.underlying9 rfl) (by decide) ?_
    obtain ⟨b12, hS⟩ := gd_s hS
    refine VL.gy rfl rfl (q_sub rfl rfl b12) (by decide) ?_
    obtain ⟨z13_2, nz13_2, hz13_2, hS⟩ := at_s hS
    refine VL.gy rfl rfl (q_sidx Tryz.underlying9 rfl rfl nz13_2 hz13_2) (by decide) ?_
    refine VL.gy rfl rfl (q_move rfl) (by decide) ?_
    refine VL.gy rfl rfl (q_eql rfl rfl) (by decide) ?_
    refine VL.q (q_pick_t rfl rfl) (by decide) ?_
    refine VL.to (fun _ _ h => h) ?_
    refine VC.keep [0, 1, 16] rfl ?_
    refine VC.cond_dec rfl (fun h16 => ?_) (fun h16 => ?_)
    ·
      replace hS := it_t h16 hS
      refine VC.skip_to (fun _ _ h => h) ?_
      refine VC.block ?_
      refine VC.region ?_
      refine VL.q (q_move rfl) (by decide) ?_
      refine VL.q (q_move rfl) (by decide) ?_
      refine VL.q (q_slen Tryz.underlying9 rfl) (by decide) ?_
      obtain ⟨b20, hS⟩ := gd_s hS
      refine VL.q (q_sub rfl rfl b20) (by decide) ?_
      obtain ⟨b21, hS⟩ := gd_s hS
      obtain ⟨y21_3, ey21_3, hS⟩ := lt_s hS
      refine VL.q (q_stoE Tryz.underlying9 rfl rfl b21.1 b21.2 ey21_3) (by decide) ?_
      refine VL.q (q_assign rfl) (by decide) ?_
      refine VL.rnd y21_3 [0, 1] (fun _ _ h => h) (go2 hS hK1) rfl
    ·
      replace hS := it_f h16 hS
      replace hS := up2 hS hK1
      refine VC.exit_to (fun _ _ h => h) ?_
      refine VC.seq ?_
      refine VC.region ?_
      refine VL.q (q_move rfl) (by decide) ?_
      refine VL.q (q_assign rfl) (by decide) ?_
      refine VL.to (fun _ _ h => h) ?_
      cases hS
      exact VC.ret (fin1 (.inr rfl) rfl rfl () rfl trivial (fun _ _ => trivial) (fun _ _ => trivial))
  ·
    replace hS := it_f h8 hS
    refine VL.gn rfl rfl rfl (by decide) ?_
    refine VL.gn rfl rfl rfl (by decide) ?_
    refine VL.gn rfl rfl rfl (by decide) ?_
    refine VL.gn rfl rfl rfl (by decide) ?_
    refine VL.gn rfl rfl rfl (by decide) ?_
    refine VL.gn rfl rfl rfl (by decide) ?_
    refine VL.gn rfl rfl rfl (by decide) ?_
    refine VL.q (q_pick_f rfl rfl) (by decide) ?_
    refine VL.to (fun _ _ h => h) ?_
    refine VC.keep [0, 1, 16] rfl ?_
    refine VC.cond_f rfl ?_
    replace hS := up2 hS hK1
    refine VC.exit_to (fun _ _ h => h) ?_
    refine VC.seq ?_
    refine VC.region ?_
    refine VL.q (q_move rfl) (by decide) ?_
    refine VL.q (q_assign rfl) (by decide) ?_
    refine VL.to (fun _ _ h => h) ?_
    cases hS
    exact VC.ret (fin1 (.inr rfl) rfl rfl () rfl trivial (fun _ _ => trivial) (fun _ _ => trivial))

set_option maxHeartbeats 4000000 in
set_option maxRecDepth 100000 in
theorem strings_Trim_ct (s_0 : Str) (cutset_1 : Str) {r : Str} (hS : Sh.strings_Trim s_0 cutset_1 = some r) :
    Ct Tryz.prog 107 [str s_0, str cutset_1] Mo.tt (Ow.emp) (X := Unit) (fun _ => str r) (fun _ => True) (fun _ => Mo.tt) (fun _ => Ow.emp) := by
  refine Ct.of Tryz.func107 rfl (by kernel_rfl) Tryz.ntmps107 (by simp) fun c => ?_
  unfold Sh.strings_Trim at hS
  refine VC.seq ?_
  refine VC.region ?_
  refine VL.q (q_assign rfl) (by decide) ?_
  refine VL.to (fun _ _ h => h) ?_
  refine VC.seq ?_
  refine VC.cutJ (S := Bool) (fun (x12_1 : Bool) => x12_1) (fun (x12_1 : Bool) => [(0, str s_0), (1, str cutset_1), (12, .bool x12_1)]) (fun (x12_1 : Bool) => Mo.tt) (fun (x12_1 : Bool) => Ow.emp) hS ?_ ?_
  · -- up to where ways meet
    clear hS
    intro k2 hS
    refine VC.region ?_
    refine VL.q (q_move rfl) (by decide) ?_
    refine VL.q (q_seq rfl rfl) (by decide) ?_
    refine VL.q (q_move rfl) (by decide) ?_
    refine VL.split_dec 9 rfl (fun h9 => ?_) (fun h9 => ?_)
    ·
      replace hS := it_t h9 hS
      refine VL.gn rfl rfl rfl (by decide) ?_
      refine VL.gn rfl rfl rfl (by decide) ?_
      refine VL.q (q_pick_t rfl rfl) (by decide) ?_
      refine VL.mt true [0, 1, 12] (fun _ _ h => h) hS rfl
    ·
      replace hS := it_f h9 hS
      refine VL.gy rfl rfl (q_move rfl) (by decide) ?_
      refine VL.gy rfl rfl (q_seq rfl rfl) (by decide) ?_
      refine VL.q (q_pick_f rfl rfl) (by decide) ?_
      refine VL.mt (decide (cutset_1 = [])) [0, 1, 12] (fun _ _ h => h) hS rfl
  · -- from there
    clear hS
    rintro x12_1 hS
    show VC _ _ _ _ _ [(0, str s_0), (1, str cutset_1), (12, .bool x12_1)] (Mo.and Mo.tt _) (Ow.emp)
    refine VC.cond rfl (fun h12 => ?_) (fun h12 => ?_)
    ·
      replace hS := it_t h12 hS
      refine VC.seq ?_
      refine VC.region ?_
      refine VL.q (q_move rfl) (by decide) ?_
      refine VL.q (q_assign rfl) (by decide) ?_
      refine VL.to (fun _ _ h => h) ?_
      cases hS
      exact VC.ret (fin1 (.inr rfl) rfl rfl () rfl trivial (fun _ _ => trivial) (fun _ _ => trivial))
    ·
      replace hS := it_b h12 hS
      refine VC.skip_to (fun _ _ h => h) ?_
      refine VC.seq ?_
      refine VC.cutJ (S := Bool) (fun (x21_3 : Bool) => x21_3) (fun (x21_3 : Bool) => [(0, str s_0), (1, str cutset_1), (21, .bool x21_3)]) (fun (x21_3 : Bool) => Mo.tt) (fun (x21_3 : Bool) => Ow.emp) hS ?_ ?_
      · -- up to where ways meet
        clear hS
        intro k4 hS
        refine VC.region ?_
        refine VL.q (q_move rfl) (by decide) ?_
        refine VL.q (q_slen Tryz.underlying9 rfl) (by decide) ?_
        refine VL.q (q_eql rfl rfl) (by decide) ?_
        refine VL.q (q_move rfl) (by decide) ?_
        refine VL.split_dec 17 rfl (fun h17 => ?_) (fun h17 => ?_)
        ·
          replace hS := it_t h17 hS
          refine VL.gy rfl rfl (q_move rfl) (by decide) ?_
          obtain ⟨z19_5, nz19_5, hz19_5, hS⟩ := at_s hS
          refine VL.gy rfl rfl (q_sidx Tryz.underlying9 rfl rfl nz19_5 hz19_5) (by decide) ?_
          refine VL.gy rfl rfl (q_lss rfl rfl) (by decide) ?_
          refine VL.q (q_pick_t rfl rfl) (by decide) ?_
          refine VL.mt (decide ((z19_5.toNat : Int) < 128)) [0, 1, 21] (fun _ _ h => h) hS rfl
        ·
          replace hS := it_f h17 hS
          refine VL.gn rfl rfl rfl (by decide) ?_
          refine VL.gn rfl rfl rfl (by decide) ?_
          refine VL.gn rfl rfl rfl (by decide) ?_
          refine VL.q (q_pick_f rfl rfl) (by decide) ?_
          refine VL.mt false [0, 1, 21] (fun _ _ h => h) hS rfl
      · -- from there
        clear hS
        rintro x21_3 hS
        show VC _ _ _ _ _ [(0, str s_0), (1, str cutset_1), (21, .bool x21_3)] (Mo.and Mo.tt _) (Ow.emp)
        refine VC.cond rfl (fun h21 => ?_) (fun h21 => ?_)
        ·
          replace hS := it_t h21 hS
          refine VC.seq ?_
          refine VC.draw ((List.range 8).map fun k => (k, true)) mixed (by kernel_rfl) (by kernel_rfl) (by kernel_rfl) ?_
          refine VD.q rfl (q_move rfl) (by decide) ?_
          refine VD.q rfl (q_move rfl) (by decide) ?_
          obtain ⟨z24_6, nz24_6, hz24_6, hS⟩ := at_s hS
          refine VD.q rfl (q_sidx Tryz.underlying9 rfl rfl nz24_6 hz24_6) (by decide) ?_
          obtain ⟨y25_7, ey25_7, hS⟩ := bd_s hS
          refine VD.q rfl (q_call (strings_trimRightByte_ct s_0 (z24_6.toNat : Int) ey25_7) rfl (fun _ _ => rfl)) (by decide) ?_
          refine VD.q rfl (q_move rfl) (by decide) ?_
          obtain ⟨z27_8, nz27_8, hz27_8, hS⟩ := at_s hS
          refine VD.q rfl (q_sidx Tryz.underlying9 rfl rfl nz27_8 hz27_8) (by decide) ?_
          obtain ⟨y28_9, ey28_9, hS⟩ := bd_s hS
          refine VD.q rfl (q_call (strings_trimLeftByte_ct y25_7 (z27_8.toNat : Int) ey28_9) rfl (fun _ _ => rfl)) (by decide) ?_
          refine VD.q rfl (q_assign rfl) (by decide) ?_
          refine VD.to (fun _ _ h => h) ?_
          refine VC.keep [4] rfl ?_
          cases hS
          exact VC.ret (fin1 (.inr rfl) rfl rfl () rfl trivial (fun _ _ => trivial) (fun _ _ => trivial))
        ·
          replace hS := it_b h21 hS
          refine VC.skip_to (fun _ _ h => h) ?_
          refine VC.seq ?_
          refine VC.seq ?_
          refine VC.region ?_
          refine VL.q (q_move rfl) (by decide) ?_
          cases hS

set_option maxHeartbeats 4000000 in
set_option maxRecDepth 100000 in
theorem todo_verb_ct (s_0 : Str) {r : Bool × Bool} (hS : Sh.todo_verb s_0 = some r) :
    Ct Tryz.prog 108 [str s_0] Mo.tt (Ow.emp) (X := Unit) (fun _ => .tuple #[.bool r.1, .bool r.2]) (fun _ => True) (fun _ => Mo.tt) (fun _ => Ow.emp) := by
  refine Ct.of Tryz.func108 rfl (by kernel_rfl) Tryz.ntmps108 (by simp) fun c => ?_
  unfold Sh.todo_verb at hS
  refine VC.seq ?_
  refine VC.region ?_
  refine VL.q (q_assign rfl) (by decide) ?_
  refine VL.q (q_assign rfl) (by decide) ?_
  refine VL.to (fun _ _ h => h) ?_
  refine VC.seq ?_
  refine VC.seq ?_
  refine VC.region ?_
  refine VL.q (q_move rfl) (by decide) ?_
  refine VL.to (fun _ _ h => h) ?_
  refine VC.block ?_
  refine VC.cutJ (S := Unit) (fun (_ : Unit) => ()) (fun (_ : Unit) => []) (fun (_ : Unit) => Mo.tt) (fun (_ : Unit) => Ow.emp) hS ?_ ?_
  · -- up to where ways meet
    clear hS
    intro k1 hS
    refine VC.block ?_
    refine VC.block ?_
    refine VC.block ?_
    refine VC.block ?_
    refine VC.cutJ (S := Unit) (fun (_ : Unit) => ()) (fun (_ : Unit) => []) (fun (_ : Unit) => Mo.tt) (fun (_ : Unit) => Ow.emp) hS ?_ ?_
    · -- up to where ways meet
      clear hS
      intro k2 hS
      refine VC.block ?_
      refine VC.block ?_
      refine VC.seq ?_
      refine VC.seq ?_
      refine VC.seq ?_
      refine VC.region ?_
      refine VL.q (q_seq rfl rfl) (by decide) ?_
      refine VL.q (q_assign rfl) (by decide) ?_
      refine VL.to (fun _ _ h => h) ?_
      refine VC.cond_dec rfl (fun h5 => ?_) (fun h5 => ?_)
      ·
        replace hS := it_t h5 hS
        refine VC.exit_mt () [] (fun _ _ h => h) hS rfl
      ·
        replace hS := it_f h5 hS
        refine VC.skip_to (fun _ _ h => h) ?_
        refine VC.seq ?_
        refine VC.seq ?_
        refine VC.region ?_
        refine VL.q (q_seq rfl rfl) (by decide) ?_
        refine VL.q (q_assign rfl) (by decide) ?_
        refine VL.to (fun _ _ h => h) ?_
        refine VC.cond_dec rfl (fun h7 => ?_) (fun h7 => ?_)
        ·
          replace hS := it_t h7 hS
          refine VC.exit_mt () [] (fun _ _ h => h) hS rfl
        ·
          replace hS := it_f h7 hS
          refine VC.skip_to (fun _ _ h => h) ?_
          refine VC.seq ?_
          refine VC.seq ?_
          refine VC.region ?_
          refine VL.q (q_seq rfl rfl) (by decide) ?_
          refine VL.q (q_assign rfl) (by decide) ?_
          refine VL.to (fun _ _ h => h) ?_
          refine VC.cond_dec rfl (fun h9 => ?_) (fun h9 => ?_)
          ·
            replace hS := it_t h9 hS
            refine VC.exit_mt () [] (fun _ _ h => h) hS rfl
          ·
            replace hS := it_f h9 hS
            refine VC.skip_to (fun _ _ h => h) ?_
            refine VC.seq ?_
            refine VC.seq ?_
            refine VC.region ?_
            refine VL.q (q_seq rfl rfl) (by decide) ?_
            refine VL.q (q_assign rfl) (by decide) ?_
            refine VL.to (fun _ _ h => h) ?_
            refine VC.keep [4, 11] rfl ?_
            refine VC.cond_dec rfl (fun h11 => ?_) (fun h11 => ?_)
            ·
              replace hS := it_t h11 hS
              refine VC.exit_mt () [] (fun _ _ h => h) hS rfl
            ·
              replace hS := it_f h11 hS
              refine VC.skip_to (fun _ _ h => h) ?_
              refine VC.seq ?_
              refine VC.seq ?_
              refine VC.region ?_
              refine VL.q (q_seq rfl rfl) (by decide) ?_
              refine VL.q (q_assign rfl) (by decide) ?_
              refine VL.to (fun _ _ h => h) ?_
              refine VC.cond_dec rfl (fun h13 => ?_) (fun h13 => ?_)
              ·
                replace hS := it_t h13 hS
                refine VC.exit_mt () [] (fun _ _ h => h) hS rfl
              ·
                replace hS := it_f h13 hS
                refine VC.skip_to (fun _ _ h => h) ?_
                refine VC.seq ?_
                refine VC.region ?_
                refine VL.q (q_seq rfl rfl) (by decide) ?_
                refine VL.q (q_assign rfl) (by decide) ?_
                refine VL.to (fun _ _ h => h) ?_
                refine VC.cond_dec rfl (fun h15 => ?_) (fun h15 => ?_)
                ·
                  replace hS := it_t h15 hS
                  refine VC.exit_mt () [] (fun _ _ h => h) hS rfl
                ·
                  replace hS := it_f h15 hS
                  refine VC.skip_to (fun _ _ h => h) ?_
                  refine VC.exit_to (fun _ _ h => h) ?_
                  refine VC.seq ?_
                  refine VC.region ?_
                  refine VL.q (q_assign rfl) (by decide) ?_
                  refine VL.q (q_assign rfl) (by decide) ?_
                  refine VL.to (fun _ _ h => h) ?_
                  cases hS
                  exact VC.ret (fin2 (.inr rfl) rfl rfl rfl () rfl trivial (fun _ _ => trivial) (fun _ _ => trivial))
    · -- from there
      clear hS
      rintro _ hS
      show VC _ _ _ _ _ [] (Mo.and Mo.tt _) (Ow.emp)
      refine VC.seq ?_
      refine VC.seq ?_
      refine VC.region ?_
      refine VL.q (q_assign rfl) (by decide) ?_
      refine VL.q (q_assign rfl) (by decide) ?_
      refine VL.to (fun _ _ h => h) ?_
      cases hS
      exact VC.ret (fin2 (.inr rfl) rfl rfl rfl () rfl trivial (fun _ _ => trivial) (fun _ _ => trivial))
  · -- from there
    clear hS
    rintro _ hS
    show VC _ _ _ _ _ [] (Mo.and Mo.tt _) (Ow.emp)
    refine VC.seq ?_
    refine VC.seq ?_
    refine VC.region ?_
    refine VL.q (q_assign rfl) (by decide) ?_
    refine VL.q (q_assign rfl) (by decide) ?_
    refine VL.to (fun _ _ h => h) ?_
    cases hS
    exact VC.ret (fin2 (.inr rfl) rfl rfl rfl () rfl trivial (fun _ _ => trivial) (fun _ _ => trivial))

set_option maxHeartbeats 4000000 in
set_option maxRecDepth 100000 in
theorem internal_stringslite_Cut_ct (s_0 : Str) (sep_1 : Str) {r : Str × Str × Bool} (hS : Sh.internal_stringslite_Cut s_0 sep_1 = some r) :
    Ct Tryz.prog 165 [str s_0, str sep_1] Mo.tt (Ow.emp) (X := Unit) (fun _ => .tuple #[str r.1, str r.2.1, .bool r.2.2]) (fun _ => True) (fun _ => Mo.tt) (fun _ => Ow.emp) := by
  refine Ct.of Tryz.func165 rfl (by kernel_rfl) Tryz.ntmps165 (by simp) fun c => ?_
  unfold Sh.internal_stringslite_Cut at hS
  refine VC.seq ?_
  refine VC.region ?_
  refine VL.q (q_assign rfl) (by decide) ?_
  refine VL.q (q_assign rfl) (by decide) ?_
  refine VL.q (q_assign rfl) (by decide) ?_
  refine VL.to (fun _ _ h => h) ?_
  refine VC.seq ?_
  refine VC.seq ?_
  refine VC.region ?_
  refine VL.q (q_move rfl) (by decide) ?_
  refine VL.q (q_move rfl) (by decide) ?_
  obtain ⟨y10_1, ey10_1, hS⟩ := bd_s hS
  refine VL.q (q_call (internal_stringslite_Index_ct s_0 sep_1 ey10_1) rfl (fun _ _ => rfl)) (by decide) ?_
  refine VL.q (q_assign rfl) (by decide) ?_
  refine VL.to (fun _ _ h => h) ?_
  refine VC.seq ?_
  refine VC.region ?_
  refine VL.q (q_move rfl) (by decide) ?_
  refine VL.q (q_geq rfl rfl) (by decide) ?_
  refine VL.to (fun _ _ h => h) ?_
  refine VC.keep [0, 1, 7, 12] rfl ?_
  refine VC.cond_dec rfl (fun h12 => ?_) (fun h12 => ?_)
  ·
    replace hS := it_t h12 hS
    refine VC.seq ?_
    refine VC.draw ((List.range 12).map fun k => (k, true)) mixed (by kernel_rfl) (by kernel_rfl) (by kernel_rfl) ?_
    refine VD.q rfl (q_move rfl) (by decide) ?_
    refine VD.q rfl (q_move rfl) (by decide) ?_
    obtain ⟨b15, hS⟩ := gd_s hS
    obtain ⟨y15_2, ey15_2, hS⟩ := lt_s hS
    refine VD.q rfl (q_stoE Tryz.underlying9 rfl rfl b15.1 b15.2 ey15_2) (by decide) ?_
    refine VD.q rfl (q_move rfl) (by decide) ?_
    refine VD.q rfl (q_move rfl) (by decide) ?_
    refine VD.q rfl (q_move rfl) (by decide) ?_
    refine VD.q rfl (q_slen Tryz.underlying9 rfl) (by decide) ?_
    obtain ⟨b20, hS⟩ := gd_s hS
    refine VD.q rfl (q_add rfl rfl b20) (by decide) ?_
    obtain ⟨b21, hS⟩ := gd_s hS
    obtain ⟨y21_3, ey21_3, hS⟩ := lt_s hS
    refine VD.q rfl (q_sfromE Tryz.underlying9 rfl rfl b21.1 b21.2 ey21_3) (by decide) ?_
    refine VD.q rfl (q_assign rfl) (by decide) ?_
    refine VD.q rfl (q_assign rfl) (by decide) ?_
    refine VD.q rfl (q_assign rfl) (by decide) ?_
    refine VD.to (fun _ _ h => h) ?_
    refine VC.keep [4, 5, 6] rfl ?_
    cases hS
    exact VC.ret (fin3 (.inr rfl) rfl rfl rfl rfl () rfl trivial (fun _ _ => trivial) (fun _ _ => trivial))
  ·
    replace hS := it_f h12 hS
    refine VC.skip_to (fun _ _ h => h) ?_
    refine VC.seq ?_
    refine VC.region ?_
    refine VL.q (q_move rfl) (by decide) ?_
    refine VL.q (q_assign rfl) (by decide) ?_
    refine VL.q (q_assign rfl) (by decide) ?_
    refine VL.q (q_assign rfl) (by decide) ?_
    refine VL.to (fun _ _ h => h) ?_
    cases hS
    exact VC.ret (fin3 (.inr rfl) rfl rfl rfl rfl () rfl trivial (fun _ _ => trivial) (fun _ _ => trivial))

set_option maxHeartbeats 4000000 in
set_option maxRecDepth 100000 in
theorem strings_Cut_ct (s_0 : Str) (sep_1 : Str) {r : Str × Str × Bool} (hS : Sh.strings_Cut s_0 sep_1 = some r) :
    Ct Tryz.prog 109 [str s_0, str sep_1] Mo.tt (Ow.emp) (X := Unit) (fun _ => .tuple #[str r.1, str r.2.1, .bool r.2.2]) (fun _ => True) (fun _ => Mo.tt) (fun _ => Ow.emp) := by
  refine Ct.of Tryz.func109 rfl (by kernel_rfl) Tryz.ntmps109 (by simp) fun c => ?_
  unfold Sh.strings_Cut at hS
  refine VC.seq ?_
  refine VC.region ?_
  refine VL.q (q_assign rfl) (by decide) ?_
  refine VL.q (q_assign rfl) (by decide) ?_
  refine VL.q (q_assign rfl) (by decide) ?_
  refine VL.to (fun _ _ h => h) ?_
  refine VC.seq ?_
  refine VC.region ?_
  refine VL.q (q_move rfl) (by decide) ?_
  refine VL.q (q_move rfl) (by decide) ?_
  obtain ⟨y9_1, ey9_1, hS⟩ := bd_s hS
  refine VL.q (q_call (internal_stringslite_Cut_ct s_0 sep_1 ey9_1) rfl (fun _ _ => rfl)) (by decide) ?_
  refine VL.q (q_extract rfl rfl) (by decide) ?_
  refine VL.q (q_extract rfl rfl) (by decide) ?_
  refine VL.q (q_extract rfl rfl) (by decide) ?_
  refine VL.q (q_assign rfl) (by decide) ?_
  refine VL.q (q_assign rfl) (by decide) ?_
  refine VL.q (q_assign rfl) (by decide) ?_
  refine VL.to (fun _ _ h => h) ?_
  refine VC.keep [4, 5, 6] rfl ?_
  cases hS
  exact VC.ret (fin3 (.inr rfl) rfl rfl rfl rfl () rfl trivial (fun _ _ => trivial) (fun _ _ => trivial))

set_option maxHeartbeats 4000000 in
set_option maxRecDepth 100000 in
theorem todo_number_ct (s_0 : Str) {r : Int × Bool} (hS : Sh.todo_number s_0 = some r) :
    Ct Tryz.prog 110 [str s_0] Mo.tt (Ow.emp) (X := Unit) (fun _ => .tuple #[i64 r.1, .bool r.2]) (fun _ => True) (fun _ => Mo.tt) (fun _ => Ow.emp) := by
  refine Ct.of Tryz.func110 rfl (by kernel_rfl) Tryz.ntmps110 (by simp) fun c => ?_
  unfold Sh.todo_number at hS
  refine VC.seq ?_
  refine VC.region ?_
  refine VL.q (q_assign rfl) (by decide) ?_
  refine VL.q (q_assign rfl) (by decide) ?_
  refine VL.to (fun _ _ h => h) ?_
  refine VC.seq ?_
  refine VC.cutJ (S := Bool) (fun (x18_1 : Bool) => x18_1) (fun (x18_1 : Bool) => [(0, str s_0), (18, .bool x18_1)]) (fun (x18_1 : Bool) => Mo.tt) (fun (x18_1 : Bool) => Ow.emp) hS ?_ ?_
  · -- up to where ways meet
    clear hS
    intro k2 hS
    refine VC.region ?_
    refine VL.q (q_move rfl) (by decide) ?_
    refine VL.q (q_seq rfl rfl) (by decide) ?_
    refine VL.q (q_move rfl) (by decide) ?_
    refine VL.split_dec 9 rfl (fun h9 => ?_) (fun h9 => ?_)
    ·
      replace hS := it_t h9 hS
      refine VL.gn rfl rfl rfl (by decide) ?_
      refine VL.gn rfl rfl rfl (by decide) ?_
      refine VL.gn rfl rfl rfl (by decide) ?_
      refine VL.q (q_pick_t rfl rfl) (by decide) ?_
      refine VL.q (q_move rfl) (by decide) ?_
      refine VL.gn rfl rfl rfl (by decide) ?_
      refine VL.gn rfl rfl rfl (by decide) ?_
      refine VL.gn rfl rfl rfl (by decide) ?_
      refine VL.q (q_pick_t rfl rfl) (by decide) ?_
      refine VL.mt true [0, 18] (fun _ _ h => h) hS rfl
    ·
      replace hS := it_f h9 hS
      refine VL.gy rfl rfl (q_move rfl) (by decide) ?_
      refine VL.gy rfl rfl (q_slen Tryz.underlying9 rfl) (by decide) ?_
      refine VL.gy rfl rfl (q_gtr rfl rfl) (by decide) ?_
      refine VL.q (q_pick_f rfl rfl) (by decide) ?_
      refine VL.q (q_move rfl) (by decide) ?_
      refine VL.split_dec 14 rfl (fun h14 => ?_) (fun h14 => ?_)
      ·
        replace hS := it_t h14 hS
        refine VL.gn rfl rfl rfl (by decide) ?_
        refine VL.gn rfl rfl rfl (by decide) ?_
        refine VL.gn rfl rfl rfl (by decide) ?_
        refine VL.q (q_pick_t rfl rfl) (by decide) ?_
        refine VL.mt true [0, 18] (fun _ _ h => h) hS rfl
      ·
        replace hS := it_f h14 hS
        refine VL.gy rfl rfl (q_move rfl) (by decide) ?_
        obtain ⟨z16_3, nz16_3, hz16_3, hS⟩ := at_s hS
        refine VL.gy rfl rfl (q_sidx Tryz.underlying9 rfl rfl nz16_3 hz16_3) (by decide) ?_
        refine VL.gy rfl rfl (q_eql rfl rfl) (by decide) ?_
        refine VL.q (q_pick_f rfl rfl) (by decide) ?_
        refine VL.mt (decide ((z16_3.toNat : Int) = 48)) [0, 18] (fun _ _ h => h) hS rfl
  · -- from there
    clear hS
    rintro x18_1 hS
    show VC _ _ _ _ _ [(0, str s_0), (18, .bool x18_1)] (Mo.and Mo.tt _) (Ow.emp)
    refine VC.cond rfl (fun h18 => ?_) (fun h18 => ?_)
    ·
      replace hS := it_t h18 hS
      refine VC.seq ?_
      refine VC.region ?_
      refine VL.q (q_assign rfl) (by decide) ?_
      refine VL.q (q_assign rfl) (by decide) ?_
      refine VL.to (fun _ _ h => h) ?_
      cases hS
      exact VC.ret (fin2 (.inr rfl) rfl rfl rfl () rfl trivial (fun _ _ => trivial) (fun _ _ => trivial))
    ·
      replace hS := it_b h18 hS
      refine VC.skip_to (fun _ _ h => h) ?_
      refine VC.seq ?_
      refine VC.region ?_
      refine VL.q (q_assign rfl) (by decide) ?_
      refine VL.to (fun _ _ h => h) ?_
      refine VC.seq ?_
      refine VC.seq ?_
      refine VC.region ?_
      refine VL.q (q_move rfl) (by decide) ?_
      obtain ⟨b20, hS⟩ := gd_s hS
      refine VL.s2b Tryz.underlying9 Tryz.underlying51 Tryz.underlying5 rfl b20 (by decide) fun s20_4 hs20_4 => ?_
      replace hS := lt_to hs20_4 hS
      refine VL.q (q_ln (s := s20_4) Tryz.underlying51 rfl) (by decide) ?_
      refine VL.q (q_move rfl) (by decide) ?_
      refine VL.to (fun _ _ h => h) ?_
      refine VC.block ?_
      refine VC.iter (S := Int × Int) (fun sg => (sg.1, sg.2)) (fun sg => [(4, i64 sg.1), (20, s20_4.val), (21, i64 (s20_4.l.length : Int)), (22, i64 sg.2)]) (fun sg => Mo.tt) (fun sg => Ow.emp) (0, 0) [4, 20, 21, 22] hS rfl ?_
      clear hS
      rintro ⟨n4_6, x22_7⟩ m1 y1 hS hK1
      show VC _ _ _ _ _ [(4, i64 n4_6), (20, s20_4.val), (21, i64 (s20_4.l.length : Int)), (22, i64 x22_7)] (Mo.and Mo.tt _) (Ow.emp)
      refine VC.seq ?_
      refine VC.region ?_
      refine VL.q (q_lss rfl rfl) (by decide) ?_
      refine VL.to (fun _ _ h => h) ?_
      refine VC.seq ?_
      refine VC.cond_dec rfl (fun h23 => ?_) (fun h23 => ?_)
      ·
        replace hS := it_t h23 hS
        refine VC.skip_to (fun _ _ h => h) ?_
        refine VC.seq ?_
        refine VC.block ?_
        refine VC.seq ?_
        refine VC.region ?_
        obtain ⟨z24_8, nz24_8, hz24_8, hS⟩ := at_s hS
        refine VL.q (q_ixm (s := s20_4) Tryz.underlying51 gsz5 rfl rfl nz24_8 (lt_of_get nz24_8 hz24_8)) (by decide) ?_
        refine VL.q (q_el (s := s20_4) gone5 rfl hz24_8 rfl) (by decide) ?_
        refine VL.q (q_assign rfl) (by decide) ?_
        refine VL.to (fun _ _ h => h) ?_
        refine VC.seq ?_
        refine VC.cutJ (S := Bool) (fun (x31_9 : Bool) => x31_9) (fun (x31_9 : Bool) => [(4, i64 n4_6), (6, .int .u8 (z24_8.toNat : Int)), (20, s20_4.val), (21, i64 (s20_4.l.length : Int)), (22, i64 x22_7), (31, .bool x31_9)]) (fun (x31_9 : Bool) => Mo.tt) (fun (x31_9 : Bool) => Ow.emp) hS ?_ ?_
        · -- up to where ways meet
          clear hS
          intro k10 hS
          refine VC.region ?_
          refine VL.q (q_move rfl) (by decide) ?_
          refine VL.q (q_lss rfl rfl) (by decide) ?_
          refine VL.q (q_move rfl) (by decide) ?_
          refine VL.split_dec 28 rfl (fun h28 => ?_) (fun h28 => ?_)
          ·
            replace hS := it_t h28 hS
            refine VL.gn rfl rfl rfl (by decide) ?_
            refine VL.gn rfl rfl rfl (by decide) ?_
            refine VL.q (q_pick_t rfl rfl) (by decide) ?_
            refine VL.mt true [4, 6, 20, 21, 22, 31] (fun _ _ h => h) hS rfl
          ·
            replace hS := it_f h28 hS
            refine VL.gy rfl rfl (q_move rfl) (by decide) ?_
            refine VL.gy rfl rfl (q_gtr rfl rfl) (by decide) ?_
            refine VL.q (q_pick_f rfl rfl) (by decide) ?_
            refine VL.mt (decide (57 < (z24_8.toNat : Int))) [4, 6, 20, 21, 22, 31] (fun _ _ h => h) hS rfl
        · -- from there
          clear hS
          rintro x31_9 hS
          show VC _ _ _ _ _ [(4, i64 n4_6), (6, .int .u8 (z24_8.toNat : Int)), (20, s20_4.val), (21, i64 (s20_4.l.length : Int)), (22, i64 x22_7), (31, .bool x31_9)] (Mo.and Mo.tt _) (Ow.emp)
          refine VC.cond rfl (fun h31 => ?_) (fun h31 => ?_)
          ·
            replace hS := it_t h31 hS
            refine VC.seq ?_
            refine VC.region ?_
            refine VL.q (q_assign rfl) (by decide) ?_
            refine VL.q (q_assign rfl) (by decide) ?_
            refine VL.to (fun _ _ h => h) ?_
            replace hS := up2 hS hK1
            cases hS
            exact VC.ret (fin2 (.inr rfl) rfl rfl rfl () rfl trivial (fun _ _ => trivial) (fun _ _ => trivial))
          ·
            replace hS := it_b h31 hS
            refine VC.skip_to (fun _ _ h => h) ?_
            refine VC.region ?_
            refine VL.q (q_move rfl) (by decide) ?_
            obtain ⟨b33, hS⟩ := gd_s hS
            refine VL.q (q_mul rfl rfl b33) (by decide) ?_
            refine VL.q (q_move rfl) (by decide) ?_
            obtain ⟨b35, hS⟩ := gd_s hS
            refine VL.q (q_subW rfl rfl (wu8_in b35)) (by decide) ?_
            refine VL.q (q_convW Tryz.underlying5 Tryz.underlying3 rfl) (by decide) ?_
            obtain ⟨b37, hS⟩ := gd_s hS
            refine VL.q (q_add rfl rfl b37) (by decide) ?_
            refine VL.q (q_assign rfl) (by decide) ?_
            refine VL.to (fun _ _ h => h) ?_
            refine VC.keep [4, 20, 21, 22] rfl ?_
            refine VC.region ?_
            obtain ⟨b38, hS⟩ := gd_s hS
            refine VL.q (q_add rfl rfl b38) (by decide) ?_
            refine VL.q (q_move rfl) (by decide) ?_
            refine VL.rnd (((10 * n4_6) + (IntKind.wrap .i64 ((z24_8.toNat : Int) - 48))), (x22_7 + 1)) [4, 20, 21, 22] (fun _ _ h => h) (go2 hS hK1) rfl
      ·
        replace hS := it_f h23 hS
        replace hS := up2 hS hK1
        refine VC.exit_to (fun _ _ h => h) ?_
        refine VC.seq ?_
        refine VC.region ?_
        refine VL.q (q_move rfl) (by decide) ?_
        refine VL.q (q_move rfl) (by decide) ?_
        refine VL.q (q_leq rfl rfl) (by decide) ?_
        refine VL.q (q_assign rfl) (by decide) ?_
        refine VL.q (q_assign rfl) (by decide) ?_
        refine VL.to (fun _ _ h => h) ?_
        cases hS
        exact VC.ret (fin2 (.inr rfl) rfl rfl rfl () rfl trivial (fun _ _ => trivial) (fun _ _ => trivial))

set_option maxHeartbeats 4000000 in
set_option maxRecDepth 100000 in
theorem todo_line_ct (a_0 : Str) {r : TodoStep × Int} (hS : Sh.todo_line a_0 = some r) :
    Ct Tryz.prog 51 [str a_0] Mo.tt (Ow.emp) (X := Unit) (fun _ => .tuple #[.agg #[str r.1.verb, i64 r.1.commit, str r.1.text], i64 r.2]) (fun _ => True) (fun _ => Mo.tt) (fun _ => Ow.emp) := by
  refine Ct.of Tryz.func51 rfl (by kernel_rfl) Tryz.ntmps51 (by simp) fun c => ?_
  unfold Sh.todo_line at hS
  refine VC.seq ?_
  refine VC.region ?_
  refine VL.alloc (cs := [str [], i64 0, str []]) (by kernel_rfl) (by decide) fun b2_1 => ?_
  refine VL.q (q_assign rfl) (by decide) ?_
  refine VL.to (fun _ _ h => h) ?_
  refine VC.seq ?_
  refine VC.region ?_
  refine VL.q (q_move rfl) (by decide) ?_
  obtain ⟨y15_2, ey15_2, hS⟩ := bd_s hS
  refine VL.q (q_call (todo_cut_ct a_0 ey15_2) rfl (fun _ _ => rfl)) (by decide) ?_
  refine VL.q (q_move rfl) (by decide) ?_
  refine VL.q (q_extract rfl rfl) (by decide) ?_
  refine VL.q (q_extract rfl rfl) (by decide) ?_
  refine VL.q (q_assign rfl) (by decide) ?_
  refine VL.q (q_assign rfl) (by decide) ?_
  refine VL.to (fun _ _ h => h) ?_
  refine VC.seq ?_
  refine VC.seq ?_
  refine VC.region ?_
  refine VL.q (q_move rfl) (by decide) ?_
  obtain ⟨y19_3, ey19_3, hS⟩ := bd_s hS
  refine VL.q (q_call (strings_Trim_ct y15_2.2 [32] ey19_3) rfl (fun _ _ => rfl)) (by decide) ?_
  refine VL.q (q_seq rfl rfl) (by decide) ?_
  refine VL.to (fun _ _ h => h) ?_
  refine VC.keep [2, 4, 5, 20] rfl ?_
  refine VC.cond_dec rfl (fun h20 => ?_) (fun h20 => ?_)
  ·
    replace hS := it_t h20 hS
    refine VC.seq ?_
    refine VC.region ?_
    refine VL.q (q_build (vs := []) (cs := #[str [], i64 0, str []]) rfl (by kernel_rfl)) (by decide) ?_
    refine VL.store (vc := [str [], i64 0, str []]) (cs' := [str [], i64 0, str []]) rfl rfl rfl gsz41 rfl rfl (Nat.le_of_ble_eq_true rfl) rfl ?_
    refine VL.q (q_assign rfl) (by decide) ?_
    refine VL.to (fun _ _ h => h) ?_
    cases hS
    exact VC.ret (finG (vs := [.agg #[str [], i64 0, str []], i64 2]) (.inr rfl) rfl (RVs.cell gagg41 rfl rfl Rd.blk (RVs.tmp rfl (RVs.nil))) () rfl trivial (by (try dsimp only); exact InM.out) (fun _ _ => trivial))
  ·
    replace hS := it_f h20 hS
    refine VC.skip_to (fun _ _ h => h) ?_
    refine VC.seq ?_
    refine VC.seq ?_
    refine VC.region ?_
    refine VL.q (q_move rfl) (by decide) ?_
    obtain ⟨y24_4, ey24_4, hS⟩ := bd_s hS
    refine VL.q (q_call (todo_verb_ct y15_2.1 ey24_4) rfl (fun _ _ => rfl)) (by decide) ?_
    refine VL.q (q_move rfl) (by decide) ?_
    refine VL.q (q_extract rfl rfl) (by decide) ?_
    refine VL.q (q_extract rfl rfl) (by decide) ?_
    refine VL.q (q_assign rfl) (by decide) ?_
    refine VL.q (q_assign rfl) (by decide) ?_
    refine VL.to (fun _ _ h => h) ?_
    refine VC.keep [2, 4, 5, 6] rfl ?_
    refine VC.seq ?_
    refine VC.region ?_
    refine VL.q (q_move rfl) (by decide) ?_
    refine VL.q (q_not rfl) (by decide) ?_
    refine VL.to (fun _ _ h => h) ?_
    refine VC.cond rfl (fun h28 => ?_) (fun h28 => ?_)
    ·
      replace hS := it_t h28 hS
      refine VC.seq ?_
      refine VC.region ?_
      refine VL.q (q_build (vs := []) (cs := #[str [], i64 0, str []]) rfl (by kernel_rfl)) (by decide) ?_
      refine VL.store (vc := [str [], i64 0, str []]) (cs' := [str [], i64 0, str []]) rfl rfl rfl gsz41 rfl rfl (Nat.le_of_ble_eq_true rfl) rfl ?_
      refine VL.q (q_assign rfl) (by decide) ?_
      refine VL.to (fun _ _ h => h) ?_
      cases hS
      exact VC.ret (finG (vs := [.agg #[str [], i64 0, str []], i64 5]) (.inr rfl) rfl (RVs.cell gagg41 rfl rfl Rd.blk (RVs.tmp rfl (RVs.nil))) () rfl trivial (by (try dsimp only); exact InM.out) (fun _ _ => trivial))
    ·
      replace hS := it_b h28 hS
      refine VC.skip_to (fun _ _ h => h) ?_
      refine VC.seq ?_
      refine VC.region ?_
      refine VL.q (q_move rfl) (by decide) ?_
      obtain ⟨y32_5, ey32_5, hS⟩ := bd_s hS
      refine VL.q (q_call (strings_Cut_ct y15_2.2 [32] ey32_5) rfl (fun _ _ => rfl)) (by decide) ?_
      refine VL.q (q_move rfl) (by decide) ?_
      refine VL.q (q_extract rfl rfl) (by decide) ?_
      refine VL.q (q_extract rfl rfl) (by decide) ?_
      refine VL.q (q_extract rfl rfl) (by decide) ?_
      refine VL.q (q_assign rfl) (by decide) ?_
      refine VL.q (q_assign rfl) (by decide) ?_
      refine VL.q (q_assign rfl) (by decide) ?_
      refine VL.to (fun _ _ h => h) ?_
      refine VC.keep [2, 4, 8, 9, 10] rfl ?_
      refine VC.seq ?_
      refine VC.region ?_
      refine VL.q (q_move rfl) (by decide) ?_
      obtain ⟨y38_6, ey38_6, hS⟩ := bd_s hS
      refine VL.q (q_call (todo_number_ct y32_5.1 ey38_6) rfl (fun _ _ => rfl)) (by decide) ?_
      refine VL.q (q_move rfl) (by decide) ?_
      refine VL.q (q_extract rfl rfl) (by decide) ?_
      refine VL.q (q_extract rfl rfl) (by decide) ?_
      refine VL.q (q_assign rfl) (by decide) ?_
      refine VL.q (q_assign rfl) (by decide) ?_
      refine VL.to (fun _ _ h => h) ?_
      refine VC.seq ?_
      refine VC.seq ?_
      refine VC.region ?_
      refine VL.q (q_move rfl) (by decide) ?_
      refine VL.q (q_not rfl) (by decide) ?_
      refine VL.to (fun _ _ h => h) ?_
      refine VC.keep [2, 4, 9, 10, 11, 42] rfl ?_
      refine VC.cond rfl (fun h42 => ?_) (fun h42 => ?_)
      ·
        replace hS := it_t h42 hS
        refine VC.seq ?_
        refine VC.region ?_
        refine VL.q (q_build (vs := []) (cs := #[str [], i64 0, str []]) rfl (by kernel_rfl)) (by decide) ?_
        refine VL.store (vc := [str [], i64 0, str []]) (cs' := [str [], i64 0, str []]) rfl rfl rfl gsz41 rfl rfl (Nat.le_of_ble_eq_true rfl) rfl ?_
        refine VL.q (q_assign rfl) (by decide) ?_
        refine VL.to (fun _ _ h => h) ?_
        cases hS
        exact VC.ret (finG (vs := [.agg #[str [], i64 0, str []], i64 1]) (.inr rfl) rfl (RVs.cell gagg41 rfl rfl Rd.blk (RVs.tmp rfl (RVs.nil))) () rfl trivial (by (try dsimp only); exact InM.out) (fun _ _ => trivial))
      ·
        replace hS := it_b h42 hS
        refine VC.skip_to (fun _ _ h => h) ?_
        refine VC.cutJ (S := Str) (fun (x9_7 : Str) => x9_7) (fun (x9_7 : Str) => [(2, ptr b2_1 0), (4, str y15_2.1), (9, str x9_7), (11, i64 y38_6.1)]) (fun (x9_7 : Str) => Mo.tt) (fun (x9_7 : Str) => Ow.star (Blk b2_1 [str [], i64 0, str []] 41) (Ow.emp)) hS ?_ ?_
        · -- up to where ways meet
          clear hS
          intro k8 hS
          refine VC.seq ?_
          refine VC.region ?_
          refine VL.q (q_move rfl) (by decide) ?_
          refine VL.to (fun _ _ h => h) ?_
          refine VC.block ?_
          refine VC.seq ?_
          refine VC.region ?_
          refine VL.q (q_seq rfl rfl) (by decide) ?_
          refine VL.q (q_assign rfl) (by decide) ?_
          refine VL.to (fun _ _ h => h) ?_
          refine VC.cond_dec rfl (fun h49 => ?_) (fun h49 => ?_)
          ·
            replace hS := it_t h49 hS
            refine VC.seq ?_
            refine VC.cutJ (S := Bool) (fun (x56_9 : Bool) => x56_9) (fun (x56_9 : Bool) => [(2, ptr b2_1 0), (4, str y15_2.1), (9, str y32_5.2.1), (11, i64 y38_6.1), (56, .bool x56_9)]) (fun (x56_9 : Bool) => Mo.tt) (fun (x56_9 : Bool) => Ow.star (Blk b2_1 [str [], i64 0, str []] 41) (Ow.emp)) hS ?_ ?_
            · -- up to where ways meet
              clear hS
              intro k10 hS
              refine VC.region ?_
              refine VL.q (q_move rfl) (by decide) ?_
              refine VL.q (q_not rfl) (by decide) ?_
              refine VL.q (q_move rfl) (by decide) ?_
              refine VL.split 53 rfl (fun h53 => ?_) (fun h53 => ?_)
              ·
                replace hS := it_t h53 hS
                refine VL.gn rfl rfl rfl (by decide) ?_
                refine VL.gn rfl rfl rfl (by decide) ?_
                refine VL.q (q_pick_t rfl rfl) (by decide) ?_
                refine VL.mt true [2, 4, 9, 11, 56] (fun _ _ h => h) hS rfl
              ·
                replace hS := it_b h53 hS
                refine VL.gy rfl rfl (q_move rfl) (by decide) ?_
                refine VL.gy rfl rfl (q_seq rfl rfl) (by decide) ?_
                refine VL.q (q_pick_f rfl rfl) (by decide) ?_
                refine VL.mt (decide (y32_5.2.1 = [])) [2, 4, 9, 11, 56] (fun _ _ h => h) hS rfl
            · -- from there
              clear hS
              rintro x56_9 hS
              show VC _ _ _ _ _ [(2, ptr b2_1 0), (4, str y15_2.1), (9, str y32_5.2.1), (11, i64 y38_6.1), (56, .bool x56_9)] (Mo.and Mo.tt _) (Ow.star (Blk b2_1 [str [], i64 0, str []] 41) (Ow.emp))
              refine VC.cond rfl (fun h56 => ?_) (fun h56 => ?_)
              ·
                replace hS := it_t h56 hS
                refine VC.seq ?_
                refine VC.region ?_
                refine VL.q (q_build (vs := []) (cs := #[str [], i64 0, str []]) rfl (by kernel_rfl)) (by decide) ?_
                refine VL.store (vc := [str [], i64 0, str []]) (cs' := [str [], i64 0, str []]) rfl rfl rfl gsz41 rfl rfl (Nat.le_of_ble_eq_true rfl) rfl ?_
                refine VL.q (q_assign rfl) (by decide) ?_
                refine VL.to (fun _ _ h => h) ?_
                cases hS
                exact VC.ret (finG (vs := [.agg #[str [], i64 0, str []], i64 2]) (.inr rfl) rfl (RVs.cell gagg41 rfl rfl Rd.blk (RVs.tmp rfl (RVs.nil))) () rfl trivial (by (try dsimp only); exact InM.out) (fun _ _ => trivial))
              ·
                replace hS := it_b h56 hS
                refine VC.skip_to (fun _ _ h => h) ?_
                refine VC.seq ?_
                refine VC.region ?_
                refine VL.q (q_move rfl) (by decide) ?_
                refine VL.q (q_slen Tryz.underlying9 rfl) (by decide) ?_
                refine VL.q (q_gtr rfl rfl) (by decide) ?_
                refine VL.to (fun _ _ h => h) ?_
                refine VC.cond_dec rfl (fun h60 => ?_) (fun h60 => ?_)
                ·
                  replace hS := it_t h60 hS
                  refine VC.seq ?_
                  refine VC.region ?_
                  refine VL.q (q_build (vs := []) (cs := #[str [], i64 0, str []]) rfl (by kernel_rfl)) (by decide) ?_
                  refine VL.store (vc := [str [], i64 0, str []]) (cs' := [str [], i64 0, str []]) rfl rfl rfl gsz41 rfl rfl (Nat.le_of_ble_eq_true rfl) rfl ?_
                  refine VL.q (q_assign rfl) (by decide) ?_
                  refine VL.to (fun _ _ h => h) ?_
                  cases hS
                  exact VC.ret (finG (vs := [.agg #[str [], i64 0, str []], i64 4]) (.inr rfl) rfl (RVs.cell gagg41 rfl rfl Rd.blk (RVs.tmp rfl (RVs.nil))) () rfl trivial (by (try dsimp only); exact InM.out) (fun _ _ => trivial))
                ·
                  replace hS := it_f h60 hS
                  refine VC.skip_mt y32_5.2.1 [2, 4, 9, 11] (fun _ _ h => h) hS rfl
          ·
            replace hS := it_f h49 hS
            refine VC.seq ?_
            refine VC.seq ?_
            refine VC.region ?_
            refine VL.q (q_move rfl) (by decide) ?_
            obtain ⟨y46_11, ey46_11, hS⟩ := bd_s hS
            refine VL.q (q_call (strings_Trim_ct y32_5.2.1 [32] ey46_11) rfl (fun _ _ => rfl)) (by decide) ?_
            refine VL.q (q_sne rfl rfl) (by decide) ?_
            refine VL.to (fun _ _ h => h) ?_
            refine VC.keep [2, 4, 11, 47] rfl ?_
            refine VC.cond_ndec rfl (fun h47 => ?_) (fun h47 => ?_)
            ·
              replace hS := it_f h47 hS
              refine VC.seq ?_
              refine VC.region ?_
              refine VL.q (q_build (vs := []) (cs := #[str [], i64 0, str []]) rfl (by kernel_rfl)) (by decide) ?_
              refine VL.store (vc := [str [], i64 0, str []]) (cs' := [str [], i64 0, str []]) rfl rfl rfl gsz41 rfl rfl (Nat.le_of_ble_eq_true rfl) rfl ?_
              refine VL.q (q_assign rfl) (by decide) ?_
              refine VL.to (fun _ _ h => h) ?_
              cases hS
              exact VC.ret (finG (vs := [.agg #[str [], i64 0, str []], i64 2]) (.inr rfl) rfl (RVs.cell gagg41 rfl rfl Rd.blk (RVs.tmp rfl (RVs.nil))) () rfl trivial (by (try dsimp only); exact InM.out) (fun _ _ => trivial))
            ·
              replace hS := it_t h47 hS
              refine VC.skip_to (fun _ _ h => h) ?_
              refine VC.region ?_
              refine VL.q (q_assign rfl) (by decide) ?_
              refine VL.mt [] [2, 4, 9, 11] (fun _ _ h => h) hS rfl
        · -- from there
          clear hS
          rintro x9_7 hS
          show VC _ _ _ _ _ [(2, ptr b2_1 0), (4, str y15_2.1), (9, str x9_7), (11, i64 y38_6.1)] (Mo.and Mo.tt _) (Ow.star (Blk b2_1 [str [], i64 0, str []] 41) (Ow.emp))
          refine VC.seq ?_
          refine VC.region ?_
          refine VL.q (q_move rfl) (by decide) ?_
          refine VL.q (q_move rfl) (by decide) ?_
          refine VL.q (q_move rfl) (by decide) ?_
          refine VL.q (q_build (vs := [(0, str y15_2.1), (1, i64 y38_6.1), (2, str x9_7)]) (cs := #[str y15_2.1, i64 y38_6.1, str x9_7]) rfl (by kernel_rfl)) (by decide) ?_
          refine VL.store (vc := [str y15_2.1, i64 y38_6.1, str x9_7]) (cs' := [str y15_2.1, i64 y38_6.1, str x9_7]) rfl rfl rfl gsz41 rfl rfl (Nat.le_of_ble_eq_true rfl) rfl ?_
          refine VL.q (q_assign rfl) (by decide) ?_
          refine VL.to (fun _ _ h => h) ?_
          cases hS
          exact VC.ret (finG (vs := [.agg #[str y15_2.1, i64 y38_6.1, str x9_7], i64 0]) (.inr rfl) rfl (RVs.cell gagg41 rfl rfl Rd.blk (RVs.tmp rfl (RVs.nil))) () rfl trivial (by (try dsimp only); exact InM.out) (fun _ _ => trivial))

set_option maxHeartbeats 4000000 in
set_option maxRecDepth 100000 in
theorem slices_Clip_todo_Step_todo_Step_ct (s_0 : Sv TodoStep) {r : List TodoStep} (hS : Sh.slices_Clip_todo_Step_todo_Step s_0.l = some r) :
    Ct Tryz.prog 52 [s_0.val] s_0.ok (Ow.emp) (X := Sv TodoStep) (fun x => x.val) (fun x => r = x.l) (fun x => x.ok) (fun x => Ow.emp) := by
  refine Ct.of Tryz.func52 rfl (by kernel_rfl) Tryz.ntmps52 (by simp) fun c => ?_
  unfold Sh.slices_Clip_todo_Step_todo_Step at hS
  refine VC.seq ?_
  refine VC.region ?_
  refine VL.q (q_assign rfl) (by decide) ?_
  refine VL.to (fun _ _ h => h) ?_
  refine VC.seq ?_
  refine VC.region ?_
  refine VL.q (q_move rfl) (by decide) ?_
  refine VL.q (q_move rfl) (by decide) ?_
  refine VL.q (q_ln (s := s_0) Tryz.underlying23 rfl) (by decide) ?_
  refine VL.q (q_move rfl) (by decide) ?_
  refine VL.q (q_ln (s := s_0) Tryz.underlying23 rfl) (by decide) ?_
  obtain ⟨b8, hS⟩ := gd_s hS
  refine VL.stom Tryz.underlying23 gsz41 rfl rfl rfl b8.1 (b8.2) (by decide) fun s8_1 hs8_1 => ?_
  replace hS := lt_to hs8_1 hS
  refine VL.q (q_assign rfl) (by decide) ?_
  refine VL.to (fun _ _ h => h) ?_
  cases hS
  exact VC.ret (fin1 (.inr rfl) rfl rfl s8_1 rfl rfl (by (try dsimp only); exact InM.out) (fun _ _ => trivial))

set_option maxHeartbeats 4000000 in
set_option maxRecDepth 100000 in
theorem todo_Parse_ct (s_0 : Str) {r : List TodoStep × Err} (hS : Sh.todo_Parse s_0 = some r) :
    Ct Tryz.prog 10 [str s_0] Mo.tt (Ow.emp) (X := Sv TodoStep × Er) (fun x => .tuple #[x.1.val, x.2.val]) (fun x => r = (x.1.l, x.2.pl)) (fun x => (x.1.ok.and x.2.ok)) (fun x => Ow.emp) := by
  refine Ct.of Tryz.func10 rfl (by kernel_rfl) Tryz.ntmps10 (by simp) fun c => ?_
  unfold Sh.todo_Parse at hS
  refine VC.seq ?_
  refine VC.region ?_
  refine VL.q (q_assign rfl) (by decide) ?_
  refine VL.q (q_assign rfl) (by decide) ?_
  refine VL.to (fun _ _ h => h) ?_
  refine VC.seq ?_
  refine VC.region ?_
  refine VL.q (q_assign rfl) (by decide) ?_
  refine VL.to (fun _ _ h => h) ?_
  refine VC.seq ?_
  refine VC.seq ?_
  refine VC.region ?_
  refine VL.q (q_move rfl) (by decide) ?_
  obtain ⟨y10_1, ey10_1, hS⟩ := bd_s hS
  refine VL.callF (strings_Split_ct s_0 [10] ey10_1) rfl (by decide) ?_
  rintro q10_1_0 rfl
  try dsimp only
  refine VL.q (q_ln (s := q10_1_0) Tryz.underlying43 rfl) (by decide) ?_
  refine VL.q (q_move rfl) (by decide) ?_
  refine VL.to (fun _ _ h => h) ?_
  refine VC.block ?_
  refine VC.nilO (⟨none, 0, []⟩ : Sv TodoStep) 41 ⟨rfl, rfl⟩ ?_
  refine VC.iter (S := Sv TodoStep × Int) (fun sg => (sg.1.l, sg.2)) (fun sg => [(4, sg.1.val), (10, q10_1_0.val), (11, i64 (q10_1_0.l.length : Int)), (12, i64 sg.2)]) (fun sg => Mo.tt) (fun sg => Ow.star (Sv.own sg.1 41) (Ow.emp)) (⟨none, 0, []⟩, 0) [4, 10, 11, 12] hS rfl ?_
  clear hS
  rintro ⟨out4_2, x12_3⟩ m1 y1 hS hK1
  show VC _ _ _ _ _ [(4, out4_2.val), (10, q10_1_0.val), (11, i64 (q10_1_0.l.length : Int)), (12, i64 x12_3)] (Mo.and Mo.tt _) (Ow.star (Sv.own out4_2 41) (Ow.emp))
  refine VC.seq ?_
  refine VC.region ?_
  refine VL.q (q_lss rfl rfl) (by decide) ?_
  refine VL.to (fun _ _ h => h) ?_
  refine VC.seq ?_
  refine VC.cond_dec rfl (fun h13 => ?_) (fun h13 => ?_)
  ·
    replace hS := it_t h13 hS
    refine VC.skip_to (fun _ _ h => h) ?_
    refine VC.seq ?_
    refine VC.block ?_
    refine VC.seq ?_
    refine VC.region ?_
    refine VL.q (q_move rfl) (by decide) ?_
    obtain ⟨z15_4, nz15_4, hz15_4, hS⟩ := at_s hS
    refine VL.q (q_ixm (s := q10_1_0) Tryz.underlying43 gsz9 rfl rfl nz15_4 (lt_of_get nz15_4 hz15_4)) (by decide) ?_
    refine VL.q (q_el (s := q10_1_0) gone9 rfl hz15_4 rfl) (by decide) ?_
    refine VL.q (q_assign rfl) (by decide) ?_
    refine VL.q (q_assign rfl) (by decide) ?_
    refine VL.to (fun _ _ h => h) ?_
    refine VC.seq ?_
    refine VC.region ?_
    refine VL.q (q_move rfl) (by decide) ?_
    obtain ⟨y18_5, ey18_5, hS⟩ := bd_s hS
    refine VL.q (q_call (strings_TrimLeft_ct z15_4 [32] ey18_5) rfl (fun _ _ => rfl)) (by decide) ?_
    refine VL.q (q_assign rfl) (by decide) ?_
    refine VL.to (fun _ _ h => h) ?_
    refine VC.seq ?_
    refine VC.seq ?_
    refine VC.region ?_
    refine VL.q (q_move rfl) (by decide) ?_
    refine VL.q (q_seq rfl rfl) (by decide) ?_
    refine VL.q (q_move rfl) (by decide) ?_
    refine VL.split_dec 21 rfl (fun h21 => ?_) (fun h21 => ?_)
    ·
      replace hS := it_t h21 hS
      refine VL.gn rfl rfl rfl (by decide) ?_
      refine VL.gn rfl rfl rfl (by decide) ?_
      refine VL.gn rfl rfl rfl (by decide) ?_
      refine VL.q (q_pick_t rfl rfl) (by decide) ?_
      refine VL.to (fun _ _ h => h) ?_
      refine VC.keep [4, 10, 11, 12, 5, 6, 25] rfl ?_
      refine VC.cond_t rfl ?_
      refine VC.exit_to (fun _ _ h => h) ?_
      refine VC.region ?_
      obtain ⟨b50, hS⟩ := gd_s hS
      refine VL.q (q_add rfl rfl b50) (by decide) ?_
      refine VL.q (q_move rfl) (by decide) ?_
      refine VL.rnd (out4_2, (x12_3 + 1)) [4, 10, 11, 12] (fun _ _ h => h) (go2 hS hK1) rfl
    ·
      replace hS := it_f h21 hS
      refine VL.gy rfl rfl (q_move rfl) (by decide) ?_
      obtain ⟨z23_6, nz23_6, hz23_6, hS⟩ := at_s hS
      refine VL.gy rfl rfl (q_sidx Tryz.underlying9 rfl rfl nz23_6 hz23_6) (by decide) ?_
      refine VL.gy rfl rfl (q_eql rfl rfl) (by decide) ?_
      refine VL.q (q_pick_f rfl rfl) (by decide) ?_
      refine VL.to (fun _ _ h => h) ?_
      refine VC.keep [4, 10, 11, 12, 5, 6, 25] rfl ?_
      refine VC.cond_dec rfl (fun h25 => ?_) (fun h25 => ?_)
      ·
        replace hS := it_t h25 hS
        refine VC.exit_to (fun _ _ h => h) ?_
        refine VC.region ?_
        obtain ⟨b50, hS⟩ := gd_s hS
        refine VL.q (q_add rfl rfl b50) (by decide) ?_
        refine VL.q (q_move rfl) (by decide) ?_
        refine VL.rnd (out4_2, (x12_3 + 1)) [4, 10, 11, 12] (fun _ _ h => h) (go2 hS hK1) rfl
      ·
        replace hS := it_f h25 hS
        refine VC.skip_to (fun _ _ h => h) ?_
        refine VC.seq ?_
        refine VC.region ?_
        refine VL.q (q_move rfl) (by decide) ?_
        obtain ⟨y28_7, ey28_7, hS⟩ := bd_s hS
        refine VL.q (q_call (todo_line_ct y18_5 ey28_7) rfl (fun _ _ => rfl)) (by decide) ?_
        refine VL.q (q_move rfl) (by decide) ?_
        refine VL.q (q_extract rfl rfl) (by decide) ?_
        refine VL.q (q_extract rfl rfl) (by decide) ?_
        refine VL.alloc (cs := [str [], i64 0, str []]) (by kernel_rfl) (by decide) fun b7_8 => ?_
        refine VL.store (vc := [str y28_7.1.verb, i64 y28_7.1.commit, str y28_7.1.text]) (cs' := [str y28_7.1.verb, i64 y28_7.1.commit, str y28_7.1.text]) rfl rfl rfl gsz41 rfl rfl (Nat.le_of_ble_eq_true rfl) rfl ?_
        refine VL.q (q_assign rfl) (by decide) ?_
        refine VL.to (fun _ _ h => h) ?_
        refine VC.keep [4, 10, 11, 12, 5, 7, 8] rfl ?_
        refine VC.seq ?_
        refine VC.seq ?_
        refine VC.region ?_
        refine VL.q (q_move rfl) (by decide) ?_
        refine VL.q (q_neq rfl rfl) (by decide) ?_
        refine VL.to (fun _ _ h => h) ?_
        refine VC.cond_ndec rfl (fun h32 => ?_) (fun h32 => ?_)
        ·
          replace hS := it_f h32 hS
          refine VC.seq ?_
          refine VC.region ?_
          refine VL.q (q_move rfl) (by decide) ?_
          refine VL.q (q_move rfl) (by decide) ?_
          refine VL.q (q_mkif Tryz.underlying102 (fun _ h => by cases h) rfl) (by decide) ?_
          refine VL.q (q_build (vs := [(0, str [108, 105, 110, 101]), (1, i64 x12_3), (2, (Er.no y28_7.2).val)]) (cs := #[str [108, 105, 110, 101], i64 x12_3, (Er.no y28_7.2).val]) rfl (by kernel_rfl)) (by decide) ?_
          refine VL.box (cs := [str [108, 105, 110, 101], i64 x12_3, (Er.no y28_7.2).val]) rfl rfl (by decide) fun b37_9 => ?_
          refine VL.shutB b37_9 ?_
          refine VL.q (q_mkif Tryz.underlying105 (fun _ h => by cases h) rfl) (by decide) ?_
          refine VL.q (q_assign rfl) (by decide) ?_
          refine VL.q (q_assign rfl) (by decide) ?_
          refine VL.to (fun _ _ h => h) ?_
          refine VC.keep [2, 3] rfl ?_
          replace hS := up2 hS hK1
          cases hS
          exact VC.ret (fin2 (.inr rfl) rfl rfl rfl (⟨none, 0, []⟩, (Er.fault b37_9 [108, 105, 110, 101] x12_3 (Er.no y28_7.2))) rfl rfl (by (try dsimp only); exact InM.out) (fun _ _ => trivial))
        ·
          replace hS := it_t h32 hS
          refine VC.skip_to (fun _ _ h => h) ?_
          refine VC.seq ?_
          refine VC.seq ?_
          refine VC.region ?_
          refine VL.q (q_move rfl) (by decide) ?_
          refine VL.q (q_ln (s := out4_2) Tryz.underlying23 rfl) (by decide) ?_
          refine VL.q (q_eql rfl rfl) (by decide) ?_
          refine VL.to (fun _ _ h => h) ?_
          refine VC.cond_dec rfl (fun h41 => ?_) (fun h41 => ?_)
          ·
            replace hS := it_t h41 hS
            refine VC.seq ?_
            refine VC.region ?_
            refine VL.q (q_mkif Tryz.underlying102 (fun _ h => by cases h) rfl) (by decide) ?_
            refine VL.q (q_build (vs := [(0, str [108, 105, 110, 101]), (1, i64 32), (2, (Er.no 4).val)]) (cs := #[str [108, 105, 110, 101], i64 32, (Er.no 4).val]) rfl (by kernel_rfl)) (by decide) ?_
            refine VL.box (cs := [str [108, 105, 110, 101], i64 32, (Er.no 4).val]) rfl rfl (by decide) fun b44_10 => ?_
            refine VL.shutB b44_10 ?_
            refine VL.q (q_mkif Tryz.underlying105 (fun _ h => by cases h) rfl) (by decide) ?_
            refine VL.q (q_assign rfl) (by decide) ?_
            refine VL.q (q_assign rfl) (by decide) ?_
            refine VL.to (fun _ _ h => h) ?_
            refine VC.keep [2, 3] rfl ?_
            replace hS := up2 hS hK1
            cases hS
            exact VC.ret (fin2 (.inr rfl) rfl rfl rfl (⟨none, 0, []⟩, (Er.fault b44_10 [108, 105, 110, 101] 32 (Er.no 4))) rfl rfl (by (try dsimp only); exact InM.out) (fun _ _ => trivial))
          ·
            replace hS := it_f h41 hS
            refine VC.skip_to (fun _ _ h => h) ?_
            refine VC.keep [4, 10, 11, 12, 7] rfl ?_
            refine VC.region ?_
            refine VL.q (q_move rfl) (by decide) ?_
            refine VL.q (q_fes gagg41 rfl rfl) (by decide) ?_
            refine VL.lit (α := TodoStep) (xs := [.tmp 47]) (vs := [.agg #[str y28_7.1.verb, i64 y28_7.1.commit, str y28_7.1.text]]) [⟨y28_7.1.verb, y28_7.1.commit, y28_7.1.text⟩] Tryz.underlying23 glit41 (by decide) rfl rfl rfl rfl (by decide) (fun _ _ _ _ => trivial) (by decide) (fun s48_11 hs48_11 => ?_) (by decide)
            replace hS := lt_to hs48_11 hS
            obtain ⟨b49, hS⟩ := gd_s hS
            refine VL.app (s := out4_2) (r := s48_11) Tryz.underlying23 gapp41 (by decide) rfl Fo.out (ap1 b49) (ap2 b49 (by decide)) (by decide) (fun s49_13 hs49_13 => ?_)
            replace hS := lt_to hs49_13 hS
            refine VL.q (q_assign rfl) (by decide) ?_
            refine VL.to (fun _ _ h => h) ?_
            refine VC.region ?_
            obtain ⟨b50, hS⟩ := gd_s hS
            refine VL.q (q_add rfl rfl b50) (by decide) ?_
            refine VL.q (q_move rfl) (by decide) ?_
            refine VL.rnd (s49_13, (x12_3 + 1)) [4, 10, 11, 12] (fun _ _ h => h) (go2 hS hK1) rfl
  ·
    replace hS := it_f h13 hS
    replace hS := up2 hS hK1
    refine VC.exit_to (fun _ _ h => h) ?_
    refine VC.seq ?_
    refine VC.region ?_
    refine VL.q (q_move rfl) (by decide) ?_
    refine VL.shut out4_2 41 (fun _ _ _ _ => trivial) ?_
    obtain ⟨y52_15, ey52_15, hS⟩ := bd_s hS
    refine VL.callF (slices_Clip_todo_Step_todo_Step_ct out4_2 ey52_15) rfl (by decide) ?_
    rintro q52_15_0 rfl
    try dsimp only
    refine VL.q (q_assign rfl) (by decide) ?_
    refine VL.q (q_assign rfl) (by decide) ?_
    refine VL.to (fun _ _ h => h) ?_
    cases hS
    exact VC.ret (fin2 (.inr rfl) rfl rfl rfl (q52_15_0, .nil) rfl rfl (by (try dsimp only); exact InM.out) (fun _ _ => trivial))

set_option maxHeartbeats 4000000 in
set_option maxRecDepth 100000 in
theorem slices_Clone_int_int_ct (s_0 : Sv Int) {r : List Int} (hS : Sh.slices_Clone_int_int s_0.l = some r) :
    Ct Tryz.prog 188 [s_0.val] s_0.ok (Ow.emp) (X := Sv Int) (fun x => x.val) (fun x => r = x.l) (fun x => Mo.tt) (fun x => Sv.own x 3) := by
  refine Ct.of Tryz.func188 rfl (by kernel_rfl) Tryz.ntmps188 (by simp) fun c => ?_
  unfold Sh.slices_Clone_int_int at hS
  refine VC.seq ?_
  refine VC.region ?_
  refine VL.q (q_assign rfl) (by decide) ?_
  refine VL.to (fun _ _ h => h) ?_
  refine VC.seq ?_
  refine VC.seq ?_
  refine VC.region ?_
  refine VL.q (q_move rfl) (by decide) ?_
  refine VL.q (q_slnil (s := s_0) Tryz.underlying53 rfl) (by decide) ?_
  refine VL.to (fun _ _ h => h) ?_
  refine VC.slnil (s := s_0) rfl (fun h4 => ?_) ?_
  ·
    have hS : (some []) = some r := by
      simp [lt, gd, h4] at hS ⊢
      try exact hS
    refine VC.seq ?_
    refine VC.region ?_
    refine VL.q (q_assign rfl) (by decide) ?_
    refine VL.to (fun _ _ h => h) ?_
    refine VC.nilO (⟨none, 0, []⟩ : Sv Int) 3 ⟨rfl, rfl⟩ ?_
    cases hS
    exact VC.ret (fin1 (.inr rfl) rfl rfl ⟨none, 0, []⟩ rfl rfl (by (try dsimp only); exact InM.out) (by (try dsimp only); exact EntO.out))
  ·
    refine VC.skip_to (fun _ _ h => h) ?_
    refine VC.seq ?_
    refine VC.region ?_
    refine VL.lit0 (α := Int) Tryz.underlying53 ghas3 (by decide) (fun s5_1 hs5_1 hcs5_1 => ?_)
    refine VL.nilO s5_1 3 ⟨hcs5_1, hs5_1⟩ ?_
    replace hS := lt_to hs5_1 hS
    refine VL.q (q_move rfl) (by decide) ?_
    obtain ⟨b7, hS⟩ := gd_s hS
    refine VL.app (s := s5_1) (r := s_0) Tryz.underlying53 gapp3 (by decide) rfl Fo.out (ap1 b7) (ap2 b7 (by decide)) (by decide) (fun s7_3 hs7_3 => ?_)
    replace hS := lt_to hs7_3 hS
    refine VL.q (q_assign rfl) (by decide) ?_
    refine VL.to (fun _ _ h => h) ?_
    cases hS
    exact VC.ret (fin1 (.inr rfl) rfl rfl s7_3 rfl rfl (by (try dsimp only); exact InM.out) (by (try dsimp only); exact EntO.out))

set_option maxHeartbeats 4000000 in
set_option maxRecDepth 100000 in
theorem graph_Graph_seen_ct (g_0 : Sv (Sv Int)) (c_1 : Sv Int) {r : List Bool} (hS : Sh.graph_Graph_seen (g_0.l.map Sv.l) c_1.l = some r) :
    Ct Tryz.prog 154 [g_0.val, c_1.val] (g_0.ok.and c_1.ok) (Ow.emp) (X := Sv Bool) (fun x => x.val) (fun x => r = x.l) (fun x => Mo.tt) (fun x => Sv.own x 4) := by
  refine Ct.of Tryz.func154 rfl (by kernel_rfl) Tryz.ntmps154 (by simp) fun c => ?_
  unfold Sh.graph_Graph_seen at hS
  refine VC.seq ?_
  refine VC.region ?_
  refine VL.q (q_assign rfl) (by decide) ?_
  refine VL.to (fun _ _ h => h) ?_
  refine VC.seq ?_
  refine VC.region ?_
  refine VL.q (q_move rfl) (by decide) ?_
  refine VL.q (q_lnm Sv.l (s := g_0) Tryz.underlying38 rfl) (by decide) ?_
  obtain ⟨b10, hS⟩ := gd_s hS
  refine VL.q (q_add rfl rfl b10) (by decide) ?_
  obtain ⟨b11, hS⟩ := gd_s hS
  refine VL.make (α := Bool) (z := false) Tryz.underlying76 gmk4 (by decide) rfl rfl b11.1 (Int.le_refl _) (by omega) (by omega) (by decide) (fun s11_1 hs11_1 => ?_)
  replace hS := lt_to hs11_1 hS
  refine VL.q (q_assign rfl) (by decide) ?_
  refine VL.to (fun _ _ h => h) ?_
  refine VC.seq ?_
  refine VC.region ?_
  refine VL.q (q_move rfl) (by decide) ?_
  obtain ⟨y13_3, ey13_3, hS⟩ := bd_s hS
  refine VL.callO (slices_Clone_int_int_ct c_1 ey13_3) rfl (by decide) ?_
  rintro q13_3_0 rfl
  try dsimp only
  refine VL.q (q_assign rfl) (by decide) ?_
  refine VL.to (fun _ _ h => h) ?_
  refine VC.keep [0, 5, 6] rfl ?_
  refine VC.seq ?_
  refine VC.block ?_
  refine VC.iter (S := Sv Bool × Sv Int) (fun sg => (sg.1.l, sg.2.l)) (fun sg => [(0, g_0.val), (5, sg.1.val), (6, sg.2.val)]) (fun sg => Mo.tt) (fun sg => Ow.star (Sv.own sg.1 4) (Ow.star (Sv.own sg.2 3) (Ow.emp))) (s11_1, q13_3_0) [0, 5, 6] hS rfl ?_
  clear hS
  rintro ⟨out5_4, wait6_5⟩ m1 y1 hS hK1
  show VC _ _ _ _ _ [(0, g_0.val), (5, out5_4.val), (6, wait6_5.val)] (Mo.and Mo.tt _) (Ow.star (Sv.own out5_4 4) (Ow.star (Sv.own wait6_5 3) (Ow.emp)))
  refine VC.seq ?_
  refine VC.seq ?_
  refine VC.region ?_
  refine VL.q (q_move rfl) (by decide) ?_
  refine VL.q (q_ln (s := wait6_5) Tryz.underlying53 rfl) (by decide) ?_
  refine VL.q (q_gtr rfl rfl) (by decide) ?_
  refine VL.to (fun _ _ h => h) ?_
  refine VC.cond_dec rfl (fun h16 => ?_) (fun h16 => ?_)
  ·
    replace hS := it_t h16 hS
    refine VC.skip_to (fun _ _ h => h) ?_
    refine VC.block ?_
    refine VC.seq ?_
    refine VC.region ?_
    refine VL.q (q_move rfl) (by decide) ?_
    refine VL.q (q_move rfl) (by decide) ?_
    refine VL.q (q_ln (s := wait6_5) Tryz.underlying53 rfl) (by decide) ?_
    obtain ⟨b20, hS⟩ := gd_s hS
    refine VL.q (q_sub rfl rfl b20) (by decide) ?_
    obtain ⟨z21_6, nz21_6, hz21_6, hS⟩ := at_s hS
    refine VL.q (q_ixo (s := wait6_5) Tryz.underlying53 gsz3 rfl rfl nz21_6 (lt_of_get nz21_6 hz21_6)) (by decide) ?_
    refine VL.q (q_elo (s := wait6_5) 3 gone3 rfl hz21_6 rfl) (by decide) ?_
    refine VL.q (q_assign rfl) (by decide) ?_
    refine VL.to (fun _ _ h => h) ?_
    refine VC.keep [0, 5, 6, 7] rfl ?_
    refine VC.seq ?_
    refine VC.region ?_
    refine VL.q (q_move rfl) (by decide) ?_
    refine VL.q (q_move rfl) (by decide) ?_
    refine VL.q (q_ln (s := wait6_5) Tryz.underlying53 rfl) (by decide) ?_
    obtain ⟨b26, hS⟩ := gd_s hS
    refine VL.q (q_sub rfl rfl b26) (by decide) ?_
    obtain ⟨b27, hS⟩ := gd_s hS
    refine VL.ownT (s := wait6_5) Tryz.underlying53 gsz3 rfl rfl b27.1 b27.2 Fo.out (by decide) fun s27_7 hs27_7 => ?_
    replace hS := lt_to hs27_7 hS
    refine VL.q (q_assign rfl) (by decide) ?_
    refine VL.to (fun _ _ h => h) ?_
    refine VC.seq ?_
    refine VC.seq ?_
    refine VC.region ?_
    refine VL.q (q_move rfl) (by decide) ?_
    refine VL.q (q_lss rfl rfl) (by decide) ?_
    refine VL.q (q_move rfl) (by decide) ?_
    refine VL.split_dec 30 rfl (fun h30 => ?_) (fun h30 => ?_)
    ·
      replace hS := it_t h30 hS
      refine VL.gn rfl rfl rfl (by decide) ?_
      refine VL.gn rfl rfl rfl (by decide) ?_
      refine VL.gn rfl rfl rfl (by decide) ?_
      refine VL.gn rfl rfl rfl (by decide) ?_
      refine VL.q (q_pick_t rfl rfl) (by decide) ?_
      refine VL.q (q_move rfl) (by decide) ?_
      refine VL.gn rfl rfl rfl (by decide) ?_
      refine VL.gn rfl rfl rfl (by decide) ?_
      refine VL.gn rfl rfl rfl (by decide) ?_
      refine VL.gn rfl rfl rfl (by decide) ?_
      refine VL.q (q_pick_t rfl rfl) (by decide) ?_
      refine VL.to (fun _ _ h => h) ?_
      refine VC.keep [0, 5, 6, 7, 41] rfl ?_
      refine VC.cond_t rfl ?_
      refine VC.exit_rnd (out5_4, s27_7) [0, 5, 6] (fun _ _ h => h) (go2 hS hK1) rfl
    ·
      replace hS := it_f h30 hS
      refine VL.gy rfl rfl (q_move rfl) (by decide) ?_
      refine VL.gy rfl rfl (q_move rfl) (by decide) ?_
      refine VL.gy rfl rfl (q_lnm Sv.l (s := g_0) Tryz.underlying38 rfl) (by decide) ?_
      refine VL.gy rfl rfl (q_gtr rfl rfl) (by decide) ?_
      refine VL.q (q_pick_f rfl rfl) (by decide) ?_
      refine VL.q (q_move rfl) (by decide) ?_
      refine VL.split_dec 36 rfl (fun h36 => ?_) (fun h36 => ?_)
      ·
        replace hS := it_t h36 hS
        refine VL.gn rfl rfl rfl (by decide) ?_
        refine VL.gn rfl rfl rfl (by decide) ?_
        refine VL.gn rfl rfl rfl (by decide) ?_
        refine VL.gn rfl rfl rfl (by decide) ?_
        refine VL.q (q_pick_t rfl rfl) (by decide) ?_
        refine VL.to (fun _ _ h => h) ?_
        refine VC.keep [0, 5, 6, 7, 41] rfl ?_
        refine VC.cond_t rfl ?_
        refine VC.exit_rnd (out5_4, s27_7) [0, 5, 6] (fun _ _ h => h) (go2 hS hK1) rfl
      ·
        replace hS := it_f h36 hS
        refine VL.gy rfl rfl (q_move rfl) (by decide) ?_
        refine VL.gy rfl rfl (q_move rfl) (by decide) ?_
        obtain ⟨z39_9, nz39_9, hz39_9, hS⟩ := at_s hS
        refine VL.gy rfl rfl (q_ixo (s := out5_4) Tryz.underlying76 gsz4 rfl rfl nz39_9 (lt_of_get nz39_9 hz39_9)) (by decide) ?_
        refine VL.gy rfl rfl (q_elo (s := out5_4) 4 gone4 rfl hz39_9 rfl) (by decide) ?_
        refine VL.q (q_pick_f rfl rfl) (by decide) ?_
        refine VL.to (fun _ _ h => h) ?_
        refine VC.keep [0, 5, 6, 7, 41] rfl ?_
        refine VC.cond rfl (fun h41 => ?_) (fun h41 => ?_)
        ·
          replace hS := it_t h41 hS
          refine VC.exit_rnd (out5_4, s27_7) [0, 5, 6] (fun _ _ h => h) (go2 hS hK1) rfl
        ·
          replace hS := it_b h41 hS
          refine VC.skip_to (fun _ _ h => h) ?_
          refine VC.seq ?_
          refine VC.region ?_
          refine VL.q (q_move rfl) (by decide) ?_
          refine VL.q (q_move rfl) (by decide) ?_
          obtain ⟨z44_10, nz44_10, hz44_10, hS⟩ := at_s hS
          refine VL.q (q_ixo (s := out5_4) Tryz.underlying76 gsz4 rfl rfl nz44_10 (lt_of_get nz44_10 hz44_10)) (by decide) ?_
          refine VL.storeE (s := out5_4) (T := 4) (j := 0) (vc := [.bool true]) (true : Bool) (by decide) rfl rfl hz44_10 rfl gsz4 rfl rfl (Nat.le_of_ble_eq_true rfl) rfl (fun w11 hw11 haw11 hcw11 hvw11 hbw11 how11 => ?_)
          rw [← hvw11]
          replace hS := lt_to hw11 hS
          refine VL.to (fun _ _ h => h) ?_
          refine VC.region ?_
          refine VL.q (q_move rfl) (by decide) ?_
          refine VL.q (q_move rfl) (by decide) ?_
          refine VL.q (q_move rfl) (by decide) ?_
          obtain ⟨b48, hS⟩ := gd_s hS
          refine VL.q (q_sub rfl rfl b48) (by decide) ?_
          obtain ⟨z49_13, nz49_13, hz49_13, hS⟩ := atm_s hS
          refine VL.deep z49_13.ok hz49_13 (fun _ q => q) ?_
          refine VL.q (q_ixm (s := g_0) Tryz.underlying38 gsz53 rfl rfl nz49_13 (lt_of_get nz49_13 hz49_13)) (by decide) ?_
          refine VL.q (q_el (s := g_0) gone53 rfl hz49_13 rfl) (by decide) ?_
          obtain ⟨b51, hS⟩ := gd_s hS
          refine VL.app (s := s27_7) (r := z49_13) Tryz.underlying53 gapp3 (by decide) rfl Fo.out (ap1 b51) (ap2 b51 (by decide)) (by decide) (fun s51_14 hs51_14 => ?_)
          replace hS := lt_to hs51_14 hS
          refine VL.q (q_assign rfl) (by decide) ?_
          refine VL.rnd (w11, s51_14) [0, 5, 6] (fun _ _ h => h) (go2 hS hK1) rfl
  ·
    replace hS := it_f h16 hS
    replace hS := up2 hS hK1
    refine VC.exit_to (fun _ _ h => h) ?_
    refine VC.seq ?_
    refine VC.region ?_
    refine VL.q (q_move rfl) (by decide) ?_
    refine VL.q (q_assign rfl) (by decide) ?_
    refine VL.to (fun _ _ h => h) ?_
    cases hS
    exact VC.ret (fin1 (.inr rfl) rfl rfl out5_4 rfl rfl (by (try dsimp only); exact InM.out) (by (try dsimp only); exact EntO.out))

set_option maxHeartbeats 4000000 in
set_option maxRecDepth 100000 in
theorem slices_Clip_int_int_ct (s_0 : Sv Int) {r : List Int} (hS : Sh.slices_Clip_int_int s_0.l = some r) :
    Ct Tryz.prog 178 [s_0.val] s_0.ok (Ow.emp) (X := Sv Int) (fun x => x.val) (fun x => r = x.l) (fun x => x.ok) (fun x => Ow.emp) := by
  refine Ct.of Tryz.func178 rfl (by kernel_rfl) Tryz.ntmps178 (by simp) fun c => ?_
  unfold Sh.slices_Clip_int_int at hS
  refine VC.seq ?_
  refine VC.region ?_
  refine VL.q (q_assign rfl) (by decide) ?_
  refine VL.to (fun _ _ h => h) ?_
  refine VC.seq ?_
  refine VC.region ?_
  refine VL.q (q_move rfl) (by decide) ?_
  refine VL.q (q_move rfl) (by decide) ?_
  refine VL.q (q_ln (s := s_0) Tryz.underlying53 rfl) (by decide) ?_
  refine VL.q (q_move rfl) (by decide) ?_
  refine VL.q (q_ln (s := s_0) Tryz.underlying53 rfl) (by decide) ?_
  obtain ⟨b8, hS⟩ := gd_s hS
  refine VL.stom Tryz.underlying53 gsz3 rfl rfl rfl b8.1 (b8.2) (by decide) fun s8_1 hs8_1 => ?_
  replace hS := lt_to hs8_1 hS
  refine VL.q (q_assign rfl) (by decide) ?_
  refine VL.to (fun _ _ h => h) ?_
  cases hS
  exact VC.ret (fin1 (.inr rfl) rfl rfl s8_1 rfl rfl (by (try dsimp only); exact InM.out) (fun _ _ => trivial))

set_option maxHeartbeats 4000000 in
set_option maxRecDepth 100000 in
theorem graph_row_ct (l_0 : Sv Bool) {r : List Int} (hS : Sh.graph_row l_0.l = some r) :
    Ct Tryz.prog 155 [l_0.val] l_0.ok (Ow.emp) (X := Sv Int) (fun x => x.val) (fun x => r = x.l) (fun x => x.ok) (fun x => Ow.emp) := by
  refine Ct.of Tryz.func155 rfl (by kernel_rfl) Tryz.ntmps155 (by simp) fun c => ?_
  unfold Sh.graph_row at hS
  refine VC.seq ?_
  refine VC.region ?_
  refine VL.q (q_assign rfl) (by decide) ?_
  refine VL.to (fun _ _ h => h) ?_
  refine VC.seq ?_
  refine VC.region ?_
  refine VL.q (q_assign rfl) (by decide) ?_
  refine VL.to (fun _ _ h => h) ?_
  refine VC.seq ?_
  refine VC.seq ?_
  refine VC.region ?_
  refine VL.q (q_move rfl) (by decide) ?_
  refine VL.q (q_ln (s := l_0) Tryz.underlying76 rfl) (by decide) ?_
  refine VL.q (q_move rfl) (by decide) ?_
  refine VL.to (fun _ _ h => h) ?_
  refine VC.block ?_
  refine VC.nilO (⟨none, 0, []⟩ : Sv Int) 3 ⟨rfl, rfl⟩ ?_
  refine VC.iter (S := Sv Int × Int) (fun sg => (sg.1.l, sg.2)) (fun sg => [(3, sg.1.val), (6, l_0.val), (7, i64 (l_0.l.length : Int)), (8, i64 sg.2)]) (fun sg => Mo.tt) (fun sg => Ow.star (Sv.own sg.1 3) (Ow.emp)) (⟨none, 0, []⟩, 0) [3, 6, 7, 8] hS rfl ?_
  clear hS
  rintro ⟨out3_1, x8_2⟩ m1 y1 hS hK1
  show VC _ _ _ _ _ [(3, out3_1.val), (6, l_0.val), (7, i64 (l_0.l.length : Int)), (8, i64 x8_2)] (Mo.and Mo.tt _) (Ow.star (Sv.own out3_1 3) (Ow.emp))
  refine VC.seq ?_
  refine VC.region ?_
  refine VL.q (q_lss rfl rfl) (by decide) ?_
  refine VL.to (fun _ _ h => h) ?_
  refine VC.seq ?_
  refine VC.cond_dec rfl (fun h9 => ?_) (fun h9 => ?_)
  ·
    replace hS := it_t h9 hS
    refine VC.skip_to (fun _ _ h => h) ?_
    refine VC.seq ?_
    refine VC.block ?_
    refine VC.seq ?_
    refine VC.region ?_
    refine VL.q (q_move rfl) (by decide) ?_
    obtain ⟨z11_3, nz11_3, hz11_3, hS⟩ := at_s hS
    refine VL.q (q_ixm (s := l_0) Tryz.underlying76 gsz4 rfl rfl nz11_3 (lt_of_get nz11_3 hz11_3)) (by decide) ?_
    refine VL.q (q_el (s := l_0) gone4 rfl hz11_3 rfl) (by decide) ?_
    refine VL.q (q_assign rfl) (by decide) ?_
    refine VL.q (q_assign rfl) (by decide) ?_
    refine VL.to (fun _ _ h => h) ?_
    refine VC.seq ?_
    refine VC.region ?_
    refine VL.q (q_move rfl) (by decide) ?_
    refine VL.to (fun _ _ h => h) ?_
    refine VC.cond rfl (fun h13 => ?_) (fun h13 => ?_)
    ·
      replace hS := it_t h13 hS
      refine VC.region ?_
      refine VL.q (q_move rfl) (by decide) ?_
      refine VL.q (q_move rfl) (by decide) ?_
      refine VL.lit (α := Int) (xs := [.tmp 15]) (vs := [i64 x8_2]) [x8_2] Tryz.underlying53 glit3 (by decide) rfl rfl rfl rfl (by decide) (fun _ _ _ _ => trivial) (by decide) (fun s16_4 hs16_4 => ?_) (by decide)
      replace hS := lt_to hs16_4 hS
      obtain ⟨b17, hS⟩ := gd_s hS
      refine VL.app (s := out3_1) (r := s16_4) Tryz.underlying53 gapp3 (by decide) rfl Fo.out (ap1 b17) (ap2 b17 (by decide)) (by decide) (fun s17_6 hs17_6 => ?_)
      replace hS := lt_to hs17_6 hS
      refine VL.q (q_assign rfl) (by decide) ?_
      refine VL.to (fun _ _ h => h) ?_
      refine VC.keep [3, 6, 7, 8] rfl ?_
      refine VC.region ?_
      obtain ⟨b18, hS⟩ := gd_s hS
      refine VL.q (q_add rfl rfl b18) (by decide) ?_
      refine VL.q (q_move rfl) (by decide) ?_
      refine VL.rnd (s17_6, (x8_2 + 1)) [3, 6, 7, 8] (fun _ _ h => h) (go2 hS hK1) rfl
    ·
      replace hS := it_b h13 hS
      refine VC.skip_to (fun _ _ h => h) ?_
      refine VC.keep [3, 6, 7, 8] rfl ?_
      refine VC.region ?_
      obtain ⟨b18, hS⟩ := gd_s hS
      refine VL.q (q_add rfl rfl b18) (by decide) ?_
      refine VL.q (q_move rfl) (by decide) ?_
      refine VL.rnd (out3_1, (x8_2 + 1)) [3, 6, 7, 8] (fun _ _ h => h) (go2 hS hK1) rfl
  ·
    replace hS := it_f h9 hS
    replace hS := up2 hS hK1
    refine VC.exit_to (fun _ _ h => h) ?_
    refine VC.seq ?_
    refine VC.region ?_
    refine VL.q (q_move rfl) (by decide) ?_
    refine VL.shut out3_1 3 (fun _ _ _ _ => trivial) ?_
    obtain ⟨y20_8, ey20_8, hS⟩ := bd_s hS
    refine VL.callF (slices_Clip_int_int_ct out3_1 ey20_8) rfl (by decide) ?_
    rintro q20_8_0 rfl
    try dsimp only
    refine VL.q (q_assign rfl) (by decide) ?_
    refine VL.to (fun _ _ h => h) ?_
    cases hS
    exact VC.ret (fin1 (.inr rfl) rfl rfl q20_8_0 rfl rfl (by (try dsimp only); exact InM.out) (fun _ _ => trivial))

set_option maxHeartbeats 4000000 in
set_option maxRecDepth 100000 in
theorem graph_Graph_Only_ct (g_0 : Sv (Sv Int)) (a_1 : Int) (b_2 : Int) {r : List Int} (hS : Sh.graph_Graph_Only (g_0.l.map Sv.l) a_1 b_2 = some r) :
    Ct Tryz.prog 100 [g_0.val, i64 a_1, i64 b_2] g_0.ok (Ow.emp) (X := Sv Int) (fun x => x.val) (fun x => r = x.l) (fun x => x.ok) (fun x => Ow.emp) := by
  refine Ct.of Tryz.func100 rfl (by kernel_rfl) Tryz.ntmps100 (by simp) fun c => ?_
  unfold Sh.graph_Graph_Only at hS
  refine VC.seq ?_
  refine VC.region ?_
  refine VL.q (q_assign rfl) (by decide) ?_
  refine VL.to (fun _ _ h => h) ?_
  refine VC.seq ?_
  refine VC.region ?_
  refine VL.q (q_move rfl) (by decide) ?_
  refine VL.q (q_move rfl) (by decide) ?_
  refine VL.lit (α := Int) (xs := [.tmp 11]) (vs := [i64 a_1]) [a_1] Tryz.underlying53 glit3 (by decide) rfl rfl rfl rfl (by decide) (fun _ _ _ _ => trivial) (by decide) (fun s12_1 hs12_1 => ?_) (by decide)
  replace hS := lt_to hs12_1 hS
  obtain ⟨y13_3, ey13_3, hS⟩ := bd_s hS
  refine VL.callO (graph_Graph_seen_ct g_0 s12_1 ey13_3) rfl (by decide) ?_
  rintro q13_3_0 rfl
  try dsimp only
  refine VL.q (q_move rfl) (by decide) ?_
  refine VL.q (q_move rfl) (by decide) ?_
  refine VL.lit (α := Int) (xs := [.tmp 15]) (vs := [i64 b_2]) [b_2] Tryz.underlying53 glit3 (by decide) rfl rfl rfl rfl (by decide) (fun _ _ _ _ => trivial) (by decide) (fun s16_4 hs16_4 => ?_) (by decide)
  replace hS := lt_to hs16_4 hS
  obtain ⟨y17_6, ey17_6, hS⟩ := bd_s hS
  refine VL.callO (graph_Graph_seen_ct g_0 s16_4 ey17_6) rfl (by decide) ?_
  rintro q17_6_0 rfl
  try dsimp only
  refine VL.q (q_assign rfl) (by decide) ?_
  refine VL.q (q_assign rfl) (by decide) ?_
  refine VL.to (fun _ _ h => h) ?_
  refine VC.keep [7, 8] rfl ?_
  refine VC.seq ?_
  refine VC.seq ?_
  refine VC.region ?_
  refine VL.q (q_move rfl) (by decide) ?_
  refine VL.q (q_ln (s := q13_3_0) Tryz.underlying76 rfl) (by decide) ?_
  refine VL.q (q_move rfl) (by decide) ?_
  refine VL.to (fun _ _ h => h) ?_
  refine VC.block ?_
  refine VC.iter (S := Sv Bool × Int) (fun sg => (sg.1.l, sg.2)) (fun sg => [(7, sg.1.val), (8, q17_6_0.val), (19, i64 (q13_3_0.l.length : Int)), (20, i64 sg.2)]) (fun sg => Mo.tt) (fun sg => Ow.star (Sv.own q17_6_0 4) (Ow.star (Sv.own sg.1 4) (Ow.emp))) (q13_3_0, 0) [7, 8, 19, 20] hS rfl ?_
  clear hS
  rintro ⟨x7_7, x20_8⟩ m1 y1 hS hK1
  show VC _ _ _ _ _ [(7, x7_7.val), (8, q17_6_0.val), (19, i64 (q13_3_0.l.length : Int)), (20, i64 x20_8)] (Mo.and Mo.tt _) (Ow.star (Sv.own q17_6_0 4) (Ow.star (Sv.own x7_7 4) (Ow.emp)))
  refine VC.seq ?_
  refine VC.region ?_
  refine VL.q (q_lss rfl rfl) (by decide) ?_
  refine VL.to (fun _ _ h => h) ?_
  refine VC.seq ?_
  refine VC.cond_dec rfl (fun h21 => ?_) (fun h21 => ?_)
  ·
    replace hS := it_t h21 hS
    refine VC.skip_to (fun _ _ h => h) ?_
    refine VC.seq ?_
    refine VC.block ?_
    refine VC.seq ?_
    refine VC.region ?_
    refine VL.q (q_move rfl) (by decide) ?_
    refine VL.q (q_assign rfl) (by decide) ?_
    refine VL.to (fun _ _ h => h) ?_
    refine VC.region ?_
    refine VL.q (q_move rfl) (by decide) ?_
    refine VL.q (q_move rfl) (by decide) ?_
    refine VL.q (q_move rfl) (by decide) ?_
    refine VL.q (q_move rfl) (by decide) ?_
    obtain ⟨z27_9, nz27_9, hz27_9, hS⟩ := at_s hS
    refine VL.q (q_ixo (s := x7_7) Tryz.underlying76 gsz4 rfl rfl nz27_9 (lt_of_get nz27_9 hz27_9)) (by decide) ?_
    refine VL.q (q_elo (s := x7_7) 4 gone4 rfl hz27_9 rfl) (by decide) ?_
    refine VL.q (q_move rfl) (by decide) ?_
    refine VL.split 29 rfl (fun h29 => ?_) (fun h29 => ?_)
    ·
      replace hS := it_t h29 hS
      refine VL.gy rfl rfl (q_move rfl) (by decide) ?_
      refine VL.gy rfl rfl (q_move rfl) (by decide) ?_
      obtain ⟨z32_10, nz32_10, hz32_10, hS⟩ := at_s hS
      refine VL.gy rfl rfl (q_ixo (s := q17_6_0) Tryz.underlying76 gsz4 rfl rfl nz32_10 (lt_of_get nz32_10 hz32_10)) (by decide) ?_
      refine VL.gy rfl rfl (q_elo (s := q17_6_0) 4 gone4 rfl hz32_10 rfl) (by decide) ?_
      refine VL.gy rfl rfl (q_not rfl) (by decide) ?_
      refine VL.q (q_pick_t rfl rfl) (by decide) ?_
      obtain ⟨z36_11, nz36_11, hz36_11, hS⟩ := at_s hS
      refine VL.q (q_ixo (s := x7_7) Tryz.underlying76 gsz4 rfl rfl nz36_11 (lt_of_get nz36_11 hz36_11)) (by decide) ?_
      refine VL.storeE (s := x7_7) (T := 4) (j := 0) (vc := [.bool (!z32_10)]) ((!z32_10) : Bool) (by decide) rfl rfl hz36_11 rfl gsz4 rfl rfl (Nat.le_of_ble_eq_true rfl) rfl (fun w12 hw12 haw12 hcw12 hvw12 hbw12 how12 => ?_)
      rw [← hvw12]
      replace hS := lt_to hw12 hS
      refine VL.to (fun _ _ h => h) ?_
      refine VC.keep [7, 8, 19, 20] rfl ?_
      refine VC.region ?_
      obtain ⟨b37, hS⟩ := gd_s hS
      refine VL.q (q_add rfl rfl b37) (by decide) ?_
      refine VL.q (q_move rfl) (by decide) ?_
      refine VL.rnd (w12, (x20_8 + 1)) [7, 8, 19, 20] (fun _ _ h => h) (go2 hS hK1) rfl
    ·
      replace hS := it_b h29 hS
      refine VL.gn rfl rfl rfl (by decide) ?_
      refine VL.gn rfl rfl rfl (by decide) ?_
      refine VL.gn rfl rfl rfl (by decide) ?_
      refine VL.gn rfl rfl rfl (by decide) ?_
      refine VL.gn rfl rfl rfl (by decide) ?_
      refine VL.q (q_pick_f rfl rfl) (by decide) ?_
      obtain ⟨z36_14, nz36_14, hz36_14, hS⟩ := at_s hS
      refine VL.q (q_ixo (s := x7_7) Tryz.underlying76 gsz4 rfl rfl nz36_14 (lt_of_get nz36_14 hz36_14)) (by decide) ?_
      refine VL.storeE (s := x7_7) (T := 4) (j := 0) (vc := [.bool false]) (false : Bool) (by decide) rfl rfl hz36_14 rfl gsz4 rfl rfl (Nat.le_of_ble_eq_true rfl) rfl (fun w15 hw15 haw15 hcw15 hvw15 hbw15 how15 => ?_)
      rw [← hvw15]
      replace hS := lt_to hw15 hS
      refine VL.to (fun _ _ h => h) ?_
      refine VC.keep [7, 8, 19, 20] rfl ?_
      refine VC.region ?_
      obtain ⟨b37, hS⟩ := gd_s hS
      refine VL.q (q_add rfl rfl b37) (by decide) ?_
      refine VL.q (q_move rfl) (by decide) ?_
      refine VL.rnd (w15, (x20_8 + 1)) [7, 8, 19, 20] (fun _ _ h => h) (go2 hS hK1) rfl
  ·
    replace hS := it_f h21 hS
    replace hS := up2 hS hK1
    refine VC.exit_to (fun _ _ h => h) ?_
    refine VC.seq ?_
    refine VC.region ?_
    refine VL.q (q_move rfl) (by decide) ?_
    refine VL.shut x7_7 4 (fun _ _ _ _ => trivial) ?_
    obtain ⟨y39_17, ey39_17, hS⟩ := bd_s hS
    refine VL.callF (graph_row_ct x7_7 ey39_17) rfl (by decide) ?_
    rintro q39_17_0 rfl
    try dsimp only
    refine VL.q (q_assign rfl) (by decide) ?_
    refine VL.to (fun _ _ h => h) ?_
    cases hS
    exact VC.ret (fin1 (.inr rfl) rfl rfl q39_17_0 rfl rfl (by (try dsimp only); exact InM.out) (fun _ _ => trivial))

set_option maxHeartbeats 4000000 in
set_option maxRecDepth 100000 in
theorem todo_Plain_ct (g_0 : Sv (Sv Int)) (onto_1 : Int) (from_2 : Int) {r : List TodoStep} (hS : Sh.todo_Plain (g_0.l.map Sv.l) onto_1 from_2 = some r) :
    Ct Tryz.prog 48 [g_0.val, i64 onto_1, i64 from_2] g_0.ok (Ow.emp) (X := Sv TodoStep) (fun x => x.val) (fun x => r = x.l) (fun x => x.ok) (fun x => Ow.emp) := by
  refine Ct.of Tryz.func48 rfl (by kernel_rfl) Tryz.ntmps48 (by simp) fun c => ?_
  unfold Sh.todo_Plain at hS
  refine VC.seq ?_
  refine VC.region ?_
  refine VL.q (q_assign rfl) (by decide) ?_
  refine VL.to (fun _ _ h => h) ?_
  refine VC.seq ?_
  refine VC.region ?_
  refine VL.q (q_assign rfl) (by decide) ?_
  refine VL.to (fun _ _ h => h) ?_
  refine VC.seq ?_
  refine VC.seq ?_
  refine VC.region ?_
  refine VL.q (q_move rfl) (by decide) ?_
  refine VL.q (q_move rfl) (by decide) ?_
  refine VL.q (q_move rfl) (by decide) ?_
  obtain ⟨y13_1, ey13_1, hS⟩ := bd_s hS
  refine VL.callF (graph_Graph_Only_ct g_0 from_2 onto_1 ey13_1) rfl (by decide) ?_
  rintro q13_1_0 rfl
  try dsimp only
  refine VL.q (q_ln (s := q13_1_0) Tryz.underlying53 rfl) (by decide) ?_
  refine VL.q (q_move rfl) (by decide) ?_
  refine VL.to (fun _ _ h => h) ?_
  refine VC.block ?_
  refine VC.nilO (⟨none, 0, []⟩ : Sv TodoStep) 41 ⟨rfl, rfl⟩ ?_
  refine VC.iter (S := Sv TodoStep × Int) (fun sg => (sg.1.l, sg.2)) (fun sg => [(0, g_0.val), (7, sg.1.val), (13, q13_1_0.val), (14, i64 (q13_1_0.l.length : Int)), (15, i64 sg.2)]) (fun sg => Mo.tt) (fun sg => Ow.star (Sv.own sg.1 41) (Ow.emp)) (⟨none, 0, []⟩, 0) [0, 7, 13, 14, 15] hS rfl ?_
  clear hS
  rintro ⟨out7_2, x15_3⟩ m1 y1 hS hK1
  show VC _ _ _ _ _ [(0, g_0.val), (7, out7_2.val), (13, q13_1_0.val), (14, i64 (q13_1_0.l.length : Int)), (15, i64 x15_3)] (Mo.and Mo.tt _) (Ow.star (Sv.own out7_2 41) (Ow.emp))
  refine VC.seq ?_
  refine VC.region ?_
  refine VL.q (q_lss rfl rfl) (by decide) ?_
  refine VL.to (fun _ _ h => h) ?_
  refine VC.seq ?_
  refine VC.cond_dec rfl (fun h16 => ?_) (fun h16 => ?_)
  ·
    replace hS := it_t h16 hS
    refine VC.skip_to (fun _ _ h => h) ?_
    refine VC.seq ?_
    refine VC.block ?_
    refine VC.seq ?_
    refine VC.region ?_
    obtain ⟨z17_4, nz17_4, hz17_4, hS⟩ := at_s hS
    refine VL.q (q_ixm (s := q13_1_0) Tryz.underlying53 gsz3 rfl rfl nz17_4 (lt_of_get nz17_4 hz17_4)) (by decide) ?_
    refine VL.q (q_el (s := q13_1_0) gone3 rfl hz17_4 rfl) (by decide) ?_
    refine VL.q (q_assign rfl) (by decide) ?_
    refine VL.to (fun _ _ h => h) ?_
    refine VC.seq ?_
    refine VC.region ?_
    refine VL.q (q_move rfl) (by decide) ?_
    refine VL.q (q_move rfl) (by decide) ?_
    obtain ⟨b21, hS⟩ := gd_s hS
    refine VL.q (q_sub rfl rfl b21) (by decide) ?_
    obtain ⟨z22_5, nz22_5, hz22_5, hS⟩ := atm_s hS
    refine VL.deep z22_5.ok hz22_5 (fun _ q => q) ?_
    refine VL.q (q_ixm (s := g_0) Tryz.underlying38 gsz53 rfl rfl nz22_5 (lt_of_get nz22_5 hz22_5)) (by decide) ?_
    refine VL.q (q_el (s := g_0) gone53 rfl hz22_5 rfl) (by decide) ?_
    refine VL.q (q_ln (s := z22_5) Tryz.underlying53 rfl) (by decide) ?_
    refine VL.q (q_lss rfl rfl) (by decide) ?_
    refine VL.to (fun _ _ h => h) ?_
    refine VC.keep [0, 7, 13, 14, 15, 9, 25] rfl ?_
    refine VC.cond_dec rfl (fun h25 => ?_) (fun h25 => ?_)
    ·
      replace hS := it_t h25 hS
      refine VC.region ?_
      refine VL.q (q_move rfl) (by decide) ?_
      refine VL.q (q_move rfl) (by decide) ?_
      refine VL.q (q_build (vs := [(0, str [112, 105, 99, 107]), (1, i64 z17_4)]) (cs := #[str [112, 105, 99, 107], i64 z17_4, str []]) rfl (by kernel_rfl)) (by decide) ?_
      refine VL.lit (α := TodoStep) (xs := [.tmp 28]) (vs := [.agg #[str [112, 105, 99, 107], i64 z17_4, str []]]) [⟨[112, 105, 99, 107], z17_4, []⟩] Tryz.underlying23 glit41 (by decide) rfl rfl rfl rfl (by decide) (fun _ _ _ _ => trivial) (by decide) (fun s29_6 hs29_6 => ?_) (by decide)
      replace hS := lt_to hs29_6 hS
      obtain ⟨b30, hS⟩ := gd_s hS
      refine VL.app (s := out7_2) (r := s29_6) Tryz.underlying23 gapp41 (by decide) rfl Fo.out (ap1 b30) (ap2 b30 (by decide)) (by decide) (fun s30_8 hs30_8 => ?_)
      replace hS := lt_to hs30_8 hS
      refine VL.q (q_assign rfl) (by decide) ?_
      refine VL.to (fun _ _ h => h) ?_
      refine VC.keep [0, 7, 13, 14, 15] rfl ?_
      refine VC.region ?_
      obtain ⟨b31, hS⟩ := gd_s hS
      refine VL.q (q_add rfl rfl b31) (by decide) ?_
      refine VL.q (q_move rfl) (by decide) ?_
      refine VL.rnd (s30_8, (x15_3 + 1)) [0, 7, 13, 14, 15] (fun _ _ h => h) (go2 hS hK1) rfl
    ·
      replace hS := it_f h25 hS
      refine VC.skip_to (fun _ _ h => h) ?_
      refine VC.region ?_
      obtain ⟨b31, hS⟩ := gd_s hS
      refine VL.q (q_add rfl rfl b31) (by decide) ?_
      refine VL.q (q_move rfl) (by decide) ?_
      refine VL.rnd (out7_2, (x15_3 + 1)) [0, 7, 13, 14, 15] (fun _ _ h => h) (go2 hS hK1) rfl
  ·
    replace hS := it_f h16 hS
    replace hS := up2 hS hK1
    refine VC.exit_to (fun _ _ h => h) ?_
    refine VC.seq ?_
    refine VC.region ?_
    refine VL.q (q_move rfl) (by decide) ?_
    refine VL.shut out7_2 41 (fun _ _ _ _ => trivial) ?_
    obtain ⟨y33_10, ey33_10, hS⟩ := bd_s hS
    refine VL.callF (slices_Clip_todo_Step_todo_Step_ct out7_2 ey33_10) rfl (by decide) ?_
    rintro q33_10_0 rfl
    try dsimp only
    refine VL.q (q_assign rfl) (by decide) ?_
    refine VL.to (fun _ _ h => h) ?_
    cases hS
    exact VC.ret (fin1 (.inr rfl) rfl rfl q33_10_0 rfl rfl (by (try dsimp only); exact InM.out) (fun _ _ => trivial))

set_option maxHeartbeats 4000000 in
set_option maxRecDepth 100000 in
theorem todo_Text_ct (l_0 : Sv TodoStep) {r : Str} (hS : Sh.todo_Text l_0.l = some r) :
    Ct Tryz.prog 20 [l_0.val] (l_0.ok.and Gl) (Ow.emp) (X := Unit) (fun _ => str r) (fun _ => True) (fun _ => Mo.tt) (fun _ => Ow.emp) := by
  refine Ct.of Tryz.func20 rfl (by kernel_rfl) Tryz.ntmps20 (by simp) fun c => ?_
  unfold Sh.todo_Text at hS
  refine VC.seq ?_
  refine VC.region ?_
  refine VL.q (q_assign rfl) (by decide) ?_
  refine VL.to (fun _ _ h => h) ?_
  refine VC.seq ?_
  refine VC.region ?_
  refine VL.alloc (cs := [.pointer none, .slice none 0 0]) (by kernel_rfl) (by decide) fun b3_1 => ?_
  refine VL.toBd 5 b3_1 ?_
  refine VL.to (fun _ _ h => h) ?_
  refine VC.seq ?_
  refine VC.seq ?_
  refine VC.region ?_
  refine VL.q (q_move rfl) (by decide) ?_
  refine VL.q (q_ln (s := l_0) Tryz.underlying23 rfl) (by decide) ?_
  refine VL.q (q_move rfl) (by decide) ?_
  refine VL.to (fun _ _ h => h) ?_
  refine VC.block ?_
  refine VC.iter (S := Int × Str) (fun sg => (sg.1, sg.2)) (fun sg => [(3, ptr b3_1 0), (6, l_0.val), (7, i64 (l_0.l.length : Int)), (8, i64 sg.1)]) (fun sg => Mo.tt) (fun sg => Ow.star (Bd 125 5 b3_1 sg.2) (Ow.emp)) (0, []) [3, 6, 7, 8] hS rfl ?_
  clear hS
  rintro ⟨x8_2, acc_3⟩ m1 y1 hS hK1
  show VC _ _ _ _ _ [(3, ptr b3_1 0), (6, l_0.val), (7, i64 (l_0.l.length : Int)), (8, i64 x8_2)] (Mo.and Mo.tt _) (Ow.star (Bd 125 5 b3_1 acc_3) (Ow.emp))
  refine VC.seq ?_
  refine VC.region ?_
  refine VL.q (q_lss rfl rfl) (by decide) ?_
  refine VL.to (fun _ _ h => h) ?_
  refine VC.seq ?_
  refine VC.cond_dec rfl (fun h9 => ?_) (fun h9 => ?_)
  ·
    replace hS := it_t h9 hS
    refine VC.skip_to (fun _ _ h => h) ?_
    refine VC.seq ?_
    refine VC.block ?_
    refine VC.seq ?_
    refine VC.region ?_
    obtain ⟨z10_4, nz10_4, hz10_4, hS⟩ := at_s hS
    refine VL.q (q_ixm (s := l_0) Tryz.underlying23 gsz41 rfl rfl nz10_4 (lt_of_get nz10_4 hz10_4)) (by decide) ?_
    refine VL.q (q_els (s := l_0) gagg41 rfl rfl hz10_4) (by decide) ?_
    refine VL.alloc (cs := [str [], i64 0, str []]) (by kernel_rfl) (by decide) fun b5_5 => ?_
    refine VL.store (vc := [str z10_4.verb, i64 z10_4.commit, str z10_4.text]) (cs' := [str z10_4.verb, i64 z10_4.commit, str z10_4.text]) rfl rfl rfl gsz41 rfl rfl (Nat.le_of_ble_eq_true rfl) rfl ?_
    refine VL.to (fun _ _ h => h) ?_
    refine VC.seq ?_
    refine VC.draw [(0, true), (1, true), (2, true), (3, true), (4, true), (5, true), (6, true), (7, false)] mixed (by kernel_rfl) (by kernel_rfl) (by kernel_rfl) ?_
    refine VD.q rfl (q_field gfa41_0 rfl) (by decide) ?_
    refine VD.q rfl (q_fe gone9 rfl rfl) (by decide) ?_
    obtain ⟨b14, hS⟩ := gd_s hS
    obtain ⟨y14_6, ey14_6, hS⟩ := lt_s hS
    refine VD.q rfl (q_catE rfl rfl b14 ey14_6) (by decide) ?_
    refine VD.q rfl (q_field gfa41_1 rfl) (by decide) ?_
    refine VD.q rfl (q_fe gone3 rfl rfl) (by decide) ?_
    obtain ⟨b17, hS⟩ := gd_s hS
    refine VD.q rfl (q_call (itoa_ct z10_4.commit b17) rfl (fun _ _ => rfl)) (by decide) ?_
    obtain ⟨b18, hS⟩ := gd_s hS
    obtain ⟨y18_7, ey18_7, hS⟩ := lt_s hS
    refine VD.q rfl (q_catE rfl rfl b18 ey18_7) (by decide) ?_
    refine VD.one rfl ?_
    obtain ⟨b19, hS⟩ := gd_s hS
    refine VL.callO (writeString_ct b3_1 acc_3 y18_7 b19) rfl (by decide) ?_
    rintro _ _
    obtain ⟨acc19_8, eacc19_8, hS⟩ := lt_s hS
    rw [eacc19_8]
    refine VL.back (D' := []) (by kernel_rfl) (Pend.nil) ?_
    refine VD.to (fun _ _ h => h) ?_
    refine VC.keep [3, 6, 7, 8, 5] rfl ?_
    refine VC.seq ?_
    refine VC.seq ?_
    refine VC.region ?_
    refine VL.q (q_field gfa41_0 rfl) (by decide) ?_
    refine VL.q (q_fe gone9 rfl rfl) (by decide) ?_
    refine VL.q (q_seq rfl rfl) (by decide) ?_
    refine VL.to (fun _ _ h => h) ?_
    refine VC.cond_dec rfl (fun h22 => ?_) (fun h22 => ?_)
    ·
      replace hS := it_t h22 hS
      refine VC.region ?_
      refine VL.q (q_field gfa41_2 rfl) (by decide) ?_
      refine VL.q (q_fe gone9 rfl rfl) (by decide) ?_
      obtain ⟨b25, hS⟩ := gd_s hS
      obtain ⟨y25_9, ey25_9, hS⟩ := lt_s hS
      refine VL.q (q_catE rfl rfl b25 ey25_9) (by decide) ?_
      obtain ⟨b26, hS⟩ := gd_s hS
      refine VL.callO (writeString_ct b3_1 acc19_8 y25_9 b26) rfl (by decide) ?_
      rintro _ _
      obtain ⟨acc26_10, eacc26_10, hS⟩ := lt_s hS
      rw [eacc26_10]
      refine VL.to (fun _ _ h => h) ?_
      refine VC.keep [3, 6, 7, 8] rfl ?_
      refine VC.region ?_
      obtain ⟨b27, hS⟩ := gd_s hS
      refine VL.callO (writeString_ct b3_1 acc26_10 [10] b27) rfl (by decide) ?_
      rintro _ _
      obtain ⟨acc27_11, eacc27_11, hS⟩ := lt_s hS
      rw [eacc27_11]
      refine VL.to (fun _ _ h => h) ?_
      refine VC.region ?_
      obtain ⟨b28, hS⟩ := gd_s hS
      refine VL.q (q_add rfl rfl b28) (by decide) ?_
      refine VL.q (q_move rfl) (by decide) ?_
      refine VL.rnd ((x8_2 + 1), acc27_11) [3, 6, 7, 8] (fun _ _ h => h) (go2 hS hK1) rfl
    ·
      replace hS := it_f h22 hS
      refine VC.skip_to (fun _ _ h => h) ?_
      refine VC.region ?_
      obtain ⟨b27, hS⟩ := gd_s hS
      refine VL.callO (writeString_ct b3_1 acc19_8 [10] b27) rfl (by decide) ?_
      rintro _ _
      obtain ⟨acc27_12, eacc27_12, hS⟩ := lt_s hS
      rw [eacc27_12]
      refine VL.to (fun _ _ h => h) ?_
      refine VC.region ?_
      obtain ⟨b28, hS⟩ := gd_s hS
      refine VL.q (q_add rfl rfl b28) (by decide) ?_
      refine VL.q (q_move rfl) (by decide) ?_
      refine VL.rnd ((x8_2 + 1), acc27_12) [3, 6, 7, 8] (fun _ _ h => h) (go2 hS hK1) rfl
  ·
    replace hS := it_f h9 hS
    replace hS := up2 hS hK1
    refine VC.exit_to (fun _ _ h => h) ?_
    refine VC.seq ?_
    refine VC.region ?_
    refine VL.callO (string_ct b3_1 acc_3) rfl (by decide) ?_
    rintro _ _
    refine VL.q (q_assign rfl) (by decide) ?_
    refine VL.to (fun _ _ h => h) ?_
    cases hS
    exact VC.ret (fin1 (.inr rfl) rfl rfl () rfl trivial (fun _ _ => trivial) (fun _ _ => trivial))

set_option maxHeartbeats 4000000 in
set_option maxRecDepth 100000 in
theorem todo_fault_ct (at_0 : Int) (e_1 : Int) {r : Err} (hS : Sh.todo_fault at_0 e_1 = some r) :
    Ct Tryz.prog 58 [i64 at_0, i64 e_1] Mo.tt (Ow.emp) (X := Er) (fun x => x.val) (fun x => r = x.pl) (fun x => x.ok) (fun x => Ow.emp) := by
  refine Ct.of Tryz.func58 rfl (by kernel_rfl) Tryz.ntmps58 (by simp) fun c => ?_
  unfold Sh.todo_fault at hS
  refine VC.seq ?_
  refine VC.region ?_
  refine VL.q (q_assign rfl) (by decide) ?_
  refine VL.to (fun _ _ h => h) ?_
  refine VC.seq ?_
  refine VC.region ?_
  refine VL.q (q_move rfl) (by decide) ?_
  refine VL.q (q_move rfl) (by decide) ?_
  refine VL.q (q_mkif Tryz.underlying102 (fun _ h => by cases h) rfl) (by decide) ?_
  refine VL.q (q_build (vs := [(0, str [115, 116, 101, 112]), (1, i64 at_0), (2, (Er.no e_1).val)]) (cs := #[str [115, 116, 101, 112], i64 at_0, (Er.no e_1).val]) rfl (by kernel_rfl)) (by decide) ?_
  refine VL.box (cs := [str [115, 116, 101, 112], i64 at_0, (Er.no e_1).val]) rfl rfl (by decide) fun b9_1 => ?_
  refine VL.shutB b9_1 ?_
  refine VL.q (q_mkif Tryz.underlying105 (fun _ h => by cases h) rfl) (by decide) ?_
  refine VL.q (q_assign rfl) (by decide) ?_
  refine VL.to (fun _ _ h => h) ?_
  cases hS
  exact VC.ret (fin1 (.inr rfl) rfl rfl (Er.fault b9_1 [115, 116, 101, 112] at_0 (Er.no e_1)) rfl rfl (by (try dsimp only); exact InM.out) (fun _ _ => trivial))

set_option maxHeartbeats 4000000 in
set_option maxRecDepth 100000 in
theorem todo_step_ct (s_0 : TodoStep) (g_1 : Sv (Sv Int)) (first_2 : Bool) {r : Int} (hS : Sh.todo_step s_0 (g_1.l.map Sv.l) first_2 = some r) :
    Ct Tryz.prog 59 [.agg #[str s_0.verb, i64 s_0.commit, str s_0.text], g_1.val, .bool first_2] g_1.ok (Ow.emp) (X := Unit) (fun _ => i64 r) (fun _ => True) (fun _ => Mo.tt) (fun _ => Ow.emp) := by
  refine Ct.of Tryz.func59 rfl (by kernel_rfl) Tryz.ntmps59 (by simp) fun c => ?_
  unfold Sh.todo_step at hS
  refine VC.seq ?_
  refine VC.region ?_
  refine VL.box (cs := [str s_0.verb, i64 s_0.commit, str s_0.text]) rfl rfl (by decide) fun b3_1 => ?_
  refine VL.q (q_assign rfl) (by decide) ?_
  refine VL.to (fun _ _ h => h) ?_
  refine VC.seq ?_
  refine VC.region ?_
  refine VL.q (q_field gfa41_0 rfl) (by decide) ?_
  refine VL.q (q_fe gone9 rfl rfl) (by decide) ?_
  obtain ⟨y12_2, ey12_2, hS⟩ := bd_s hS
  refine VL.q (q_call (todo_verb_ct s_0.verb ey12_2) rfl (fun _ _ => rfl)) (by decide) ?_
  refine VL.q (q_move rfl) (by decide) ?_
  refine VL.q (q_extract rfl rfl) (by decide) ?_
  refine VL.q (q_extract rfl rfl) (by decide) ?_
  refine VL.q (q_assign rfl) (by decide) ?_
  refine VL.q (q_assign rfl) (by decide) ?_
  refine VL.to (fun _ _ h => h) ?_
  refine VC.keep [1, 2, 3, 7, 8] rfl ?_
  refine VC.seq ?_
  refine VC.block ?_
  refine VC.seq ?_
  refine VC.region ?_
  refine VL.q (q_move rfl) (by decide) ?_
  refine VL.q (q_not rfl) (by decide) ?_
  refine VL.q (q_assign rfl) (by decide) ?_
  refine VL.to (fun _ _ h => h) ?_
  refine VC.cond rfl (fun h15 => ?_) (fun h15 => ?_)
  ·
    replace hS := it_t h15 hS
    refine VC.seq ?_
    refine VC.region ?_
    refine VL.q (q_assign rfl) (by decide) ?_
    refine VL.to (fun _ _ h => h) ?_
    cases hS
    exact VC.ret (fin1 (.inr rfl) rfl rfl () rfl trivial (fun _ _ => trivial) (fun _ _ => trivial))
  ·
    replace hS := it_b h15 hS
    refine VC.cutJ (S := Bool) (fun (x18_3 : Bool) => x18_3) (fun (x18_3 : Bool) => [(2, .bool first_2), (8, .bool y12_2.2), (18, .bool x18_3)]) (fun (x18_3 : Bool) => Mo.tt) (fun (x18_3 : Bool) => Ow.star (Blk b3_1 [str s_0.verb, i64 s_0.commit, str s_0.text] 41) (Ow.emp)) hS ?_ ?_
    · -- up to where ways meet
      clear hS
      intro k4 hS
      refine VC.region ?_
      refine VL.q (q_field gfa41_1 rfl) (by decide) ?_
      refine VL.q (q_fe gone3 rfl rfl) (by decide) ?_
      refine VL.q (q_lss rfl rfl) (by decide) ?_
      refine VL.q (q_move rfl) (by decide) ?_
      refine VL.split_dec 22 rfl (fun h22 => ?_) (fun h22 => ?_)
      ·
        replace hS := it_t h22 hS
        refine VL.gn rfl rfl rfl (by decide) ?_
        refine VL.gn rfl rfl rfl (by decide) ?_
        refine VL.gn rfl rfl rfl (by decide) ?_
        refine VL.gn rfl rfl rfl (by decide) ?_
        refine VL.gn rfl rfl rfl (by decide) ?_
        refine VL.q (q_pick_t rfl rfl) (by decide) ?_
        refine VL.q (q_move rfl) (by decide) ?_
        refine VL.gn rfl rfl rfl (by decide) ?_
        refine VL.gn rfl rfl rfl (by decide) ?_
        refine VL.gn rfl rfl rfl (by decide) ?_
        refine VL.gn rfl rfl rfl (by decide) ?_
        refine VL.gn rfl rfl rfl (by decide) ?_
        refine VL.gn rfl rfl rfl (by decide) ?_
        refine VL.gn rfl rfl rfl (by decide) ?_
        refine VL.gn rfl rfl rfl (by decide) ?_
        refine VL.q (q_pick_t rfl rfl) (by decide) ?_
        refine VL.q (q_assign rfl) (by decide) ?_
        refine VL.mt true [2, 8, 18] (fun _ _ h => h) hS rfl
      ·
        replace hS := it_f h22 hS
        refine VL.gy rfl rfl (q_field gfa41_1 rfl) (by decide) ?_
        refine VL.gy rfl rfl (q_fe gone3 rfl rfl) (by decide) ?_
        refine VL.gy rfl rfl (q_move rfl) (by decide) ?_
        refine VL.gy rfl rfl (q_lnm Sv.l (s := g_1) Tryz.underlying38 rfl) (by decide) ?_
        refine VL.gy rfl rfl (q_gtr rfl rfl) (by decide) ?_
        refine VL.q (q_pick_f rfl rfl) (by decide) ?_
        refine VL.q (q_move rfl) (by decide) ?_
        refine VL.split_dec 29 rfl (fun h29 => ?_) (fun h29 => ?_)
        ·
          replace hS := it_t h29 hS
          refine VL.gn rfl rfl rfl (by decide) ?_
          refine VL.gn rfl rfl rfl (by decide) ?_
          refine VL.gn rfl rfl rfl (by decide) ?_
          refine VL.gn rfl rfl rfl (by decide) ?_
          refine VL.gn rfl rfl rfl (by decide) ?_
          refine VL.gn rfl rfl rfl (by decide) ?_
          refine VL.gn rfl rfl rfl (by decide) ?_
          refine VL.gn rfl rfl rfl (by decide) ?_
          refine VL.q (q_pick_t rfl rfl) (by decide) ?_
          refine VL.q (q_assign rfl) (by decide) ?_
          refine VL.mt true [2, 8, 18] (fun _ _ h => h) hS rfl
        ·
          replace hS := it_f h29 hS
          refine VL.gy rfl rfl (q_move rfl) (by decide) ?_
          refine VL.gy rfl rfl (q_field gfa41_1 rfl) (by decide) ?_
          refine VL.gy rfl rfl (q_fe gone3 rfl rfl) (by decide) ?_
          obtain ⟨b33, hS⟩ := gd_s hS
          refine VL.gy rfl rfl (q_sub rfl rfl b33) (by decide) ?_
          obtain ⟨z34_5, nz34_5, hz34_5, hS⟩ := atm_s hS
          refine VL.deep z34_5.ok hz34_5 (fun _ q => q) ?_
          refine VL.gy rfl rfl (q_ixm (s := g_1) Tryz.underlying38 gsz53 rfl rfl nz34_5 (lt_of_get nz34_5 hz34_5)) (by decide) ?_
          refine VL.gy rfl rfl (q_el (s := g_1) gone53 rfl hz34_5 rfl) (by decide) ?_
          refine VL.gy rfl rfl (q_ln (s := z34_5) Tryz.underlying53 rfl) (by decide) ?_
          refine VL.gy rfl rfl (q_gtr rfl rfl) (by decide) ?_
          refine VL.q (q_pick_f rfl rfl) (by decide) ?_
          refine VL.q (q_assign rfl) (by decide) ?_
          refine VL.mt (decide (1 < (z34_5.l.length : Int))) [2, 8, 18] (fun _ _ h => h) hS rfl
    · -- from there
      clear hS
      rintro x18_3 hS
      show VC _ _ _ _ _ [(2, .bool first_2), (8, .bool y12_2.2), (18, .bool x18_3)] (Mo.and Mo.tt _) (Ow.star (Blk b3_1 [str s_0.verb, i64 s_0.commit, str s_0.text] 41) (Ow.emp))
      refine VC.cond rfl (fun h18 => ?_) (fun h18 => ?_)
      ·
        replace hS := it_t h18 hS
        refine VC.seq ?_
        refine VC.region ?_
        refine VL.q (q_assign rfl) (by decide) ?_
        refine VL.to (fun _ _ h => h) ?_
        cases hS
        exact VC.ret (fin1 (.inr rfl) rfl rfl () rfl trivial (fun _ _ => trivial) (fun _ _ => trivial))
      ·
        replace hS := it_b h18 hS
        refine VC.cutJ (S := Bool) (fun (x39_6 : Bool) => x39_6) (fun (x39_6 : Bool) => [(39, .bool x39_6)]) (fun (x39_6 : Bool) => Mo.tt) (fun (x39_6 : Bool) => Ow.star (Blk b3_1 [str s_0.verb, i64 s_0.commit, str s_0.text] 41) (Ow.emp)) hS ?_ ?_
        · -- up to where ways meet
          clear hS
          intro k7 hS
          refine VC.region ?_
          refine VL.q (q_move rfl) (by decide) ?_
          refine VL.q (q_move rfl) (by decide) ?_
          refine VL.split 41 rfl (fun h41 => ?_) (fun h41 => ?_)
          ·
            replace hS := it_t h41 hS
            refine VL.gy rfl rfl (q_move rfl) (by decide) ?_
            refine VL.q (q_pick_t rfl rfl) (by decide) ?_
            refine VL.q (q_assign rfl) (by decide) ?_
            refine VL.mt first_2 [39] (fun _ _ h => h) hS rfl
          ·
            replace hS := it_b h41 hS
            refine VL.gn rfl rfl rfl (by decide) ?_
            refine VL.q (q_pick_f rfl rfl) (by decide) ?_
            refine VL.q (q_assign rfl) (by decide) ?_
            refine VL.mt false [39] (fun _ _ h => h) hS rfl
        · -- from there
          clear hS
          rintro x39_6 hS
          show VC _ _ _ _ _ [(39, .bool x39_6)] (Mo.and Mo.tt _) (Ow.star (Blk b3_1 [str s_0.verb, i64 s_0.commit, str s_0.text] 41) (Ow.emp))
          refine VC.cond rfl (fun h39 => ?_) (fun h39 => ?_)
          ·
            replace hS := it_t h39 hS
            refine VC.seq ?_
            refine VC.region ?_
            refine VL.q (q_assign rfl) (by decide) ?_
            refine VL.to (fun _ _ h => h) ?_
            cases hS
            exact VC.ret (fin1 (.inr rfl) rfl rfl () rfl trivial (fun _ _ => trivial) (fun _ _ => trivial))
          ·
            replace hS := it_b h39 hS
            refine VC.skip_to (fun _ _ h => h) ?_
            refine VC.seq ?_
            refine VC.region ?_
            refine VL.q (q_assign rfl) (by decide) ?_
            refine VL.to (fun _ _ h => h) ?_
            cases hS
            exact VC.ret (fin1 (.inr rfl) rfl rfl () rfl trivial (fun _ _ => trivial) (fun _ _ => trivial))

set_option maxHeartbeats 4000000 in
set_option maxRecDepth 100000 in
theorem todo_Check_ct (l_0 : Sv TodoStep) (g_1 : Sv (Sv Int)) {r : Err} (hS : Sh.todo_Check l_0.l (g_1.l.map Sv.l) = some r) :
    Ct Tryz.prog 17 [l_0.val, g_1.val] (l_0.ok.and g_1.ok) (Ow.emp) (X := Er) (fun x => x.val) (fun x => r = x.pl) (fun x => x.ok) (fun x => Ow.emp) := by
  refine Ct.of Tryz.func17 rfl (by kernel_rfl) Tryz.ntmps17 (by simp) fun c => ?_
  unfold Sh.todo_Check at hS
  refine VC.seq ?_
  refine VC.region ?_
  refine VL.q (q_assign rfl) (by decide) ?_
  refine VL.to (fun _ _ h => h) ?_
  refine VC.seq ?_
  refine VC.seq ?_
  refine VC.region ?_
  refine VL.q (q_move rfl) (by decide) ?_
  refine VL.q (q_ln (s := l_0) Tryz.underlying23 rfl) (by decide) ?_
  refine VL.q (q_gtr rfl rfl) (by decide) ?_
  refine VL.to (fun _ _ h => h) ?_
  refine VC.cond_dec rfl (fun h11 => ?_) (fun h11 => ?_)
  ·
    replace hS := it_t h11 hS
    refine VC.seq ?_
    refine VC.region ?_
    obtain ⟨y12_1, ey12_1, hS⟩ := bd_s hS
    refine VL.callF (todo_fault_ct 32 4 ey12_1) rfl (by decide) ?_
    rintro q12_1_0 rfl
    try dsimp only
    refine VL.q (q_assign rfl) (by decide) ?_
    refine VL.to (fun _ _ h => h) ?_
    cases hS
    exact VC.ret (fin1 (.inr rfl) rfl rfl q12_1_0 rfl rfl (by (try dsimp only); exact InM.out) (fun _ _ => trivial))
  ·
    replace hS := it_f h11 hS
    refine VC.skip_to (fun _ _ h => h) ?_
    refine VC.seq ?_
    refine VC.region ?_
    refine VL.q (q_assign rfl) (by decide) ?_
    refine VL.to (fun _ _ h => h) ?_
    refine VC.seq ?_
    refine VC.seq ?_
    refine VC.region ?_
    refine VL.q (q_move rfl) (by decide) ?_
    refine VL.q (q_ln (s := l_0) Tryz.underlying23 rfl) (by decide) ?_
    refine VL.q (q_move rfl) (by decide) ?_
    refine VL.to (fun _ _ h => h) ?_
    refine VC.block ?_
    refine VC.iter (S := Bool × Int) (fun sg => (sg.1, sg.2)) (fun sg => [(1, g_1.val), (5, .bool sg.1), (13, l_0.val), (14, i64 (l_0.l.length : Int)), (15, i64 sg.2)]) (fun sg => Mo.tt) (fun sg => Ow.emp) (true, 0) [1, 5, 13, 14, 15] hS rfl ?_
    clear hS
    rintro ⟨first5_2, x15_3⟩ m1 y1 hS hK1
    show VC _ _ _ _ _ [(1, g_1.val), (5, .bool first5_2), (13, l_0.val), (14, i64 (l_0.l.length : Int)), (15, i64 x15_3)] (Mo.and Mo.tt _) (Ow.emp)
    refine VC.seq ?_
    refine VC.region ?_
    refine VL.q (q_lss rfl rfl) (by decide) ?_
    refine VL.to (fun _ _ h => h) ?_
    refine VC.seq ?_
    refine VC.cond_dec rfl (fun h16 => ?_) (fun h16 => ?_)
    ·
      replace hS := it_t h16 hS
      refine VC.skip_to (fun _ _ h => h) ?_
      refine VC.seq ?_
      refine VC.block ?_
      refine VC.seq ?_
      refine VC.region ?_
      refine VL.q (q_move rfl) (by decide) ?_
      obtain ⟨z18_4, nz18_4, hz18_4, hS⟩ := at_s hS
      refine VL.q (q_ixm (s := l_0) Tryz.underlying23 gsz41 rfl rfl nz18_4 (lt_of_get nz18_4 hz18_4)) (by decide) ?_
      refine VL.q (q_els (s := l_0) gagg41 rfl rfl hz18_4) (by decide) ?_
      refine VL.alloc (cs := [str [], i64 0, str []]) (by kernel_rfl) (by decide) fun b7_5 => ?_
      refine VL.q (q_assign rfl) (by decide) ?_
      refine VL.store (vc := [str z18_4.verb, i64 z18_4.commit, str z18_4.text]) (cs' := [str z18_4.verb, i64 z18_4.commit, str z18_4.text]) rfl rfl rfl gsz41 rfl rfl (Nat.le_of_ble_eq_true rfl) rfl ?_
      refine VL.to (fun _ _ h => h) ?_
      refine VC.seq ?_
      refine VC.seq ?_
      refine VC.region ?_
      refine VL.q (q_fes gagg41 rfl rfl) (by decide) ?_
      refine VL.q (q_move rfl) (by decide) ?_
      refine VL.q (q_move rfl) (by decide) ?_
      obtain ⟨y23_6, ey23_6, hS⟩ := bd_s hS
      refine VL.q (q_call (todo_step_ct z18_4 g_1 first5_2 ey23_6) rfl (fun _ _ => rfl)) (by decide) ?_
      refine VL.q (q_assign rfl) (by decide) ?_
      refine VL.to (fun _ _ h => h) ?_
      refine VC.keep [1, 5, 13, 14, 15, 7, 6, 8] rfl ?_
      refine VC.seq ?_
      refine VC.region ?_
      refine VL.q (q_move rfl) (by decide) ?_
      refine VL.q (q_neq rfl rfl) (by decide) ?_
      refine VL.to (fun _ _ h => h) ?_
      refine VC.cond_ndec rfl (fun h25 => ?_) (fun h25 => ?_)
      ·
        replace hS := it_f h25 hS
        refine VC.seq ?_
        refine VC.region ?_
        refine VL.q (q_move rfl) (by decide) ?_
        refine VL.q (q_move rfl) (by decide) ?_
        obtain ⟨y28_7, ey28_7, hS⟩ := bd_s hS
        refine VL.callF (todo_fault_ct x15_3 y23_6 ey28_7) rfl (by decide) ?_
        rintro q28_7_0 rfl
        try dsimp only
        refine VL.q (q_assign rfl) (by decide) ?_
        refine VL.to (fun _ _ h => h) ?_
        refine VC.keep [4] rfl ?_
        replace hS := up2 hS hK1
        cases hS
        exact VC.ret (fin1 (.inr rfl) rfl rfl q28_7_0 rfl rfl (by (try dsimp only); exact InM.out) (fun _ _ => trivial))
      ·
        replace hS := it_t h25 hS
        refine VC.skip_to (fun _ _ h => h) ?_
        refine VC.region ?_
        refine VL.q (q_move rfl) (by decide) ?_
        refine VL.q (q_move rfl) (by decide) ?_
        refine VL.split 30 rfl (fun h30 => ?_) (fun h30 => ?_)
        ·
          replace hS := it_t h30 hS
          refine VL.gy rfl rfl (q_field gfa41_0 rfl) (by decide) ?_
          refine VL.gy rfl rfl (q_fe gone9 rfl rfl) (by decide) ?_
          refine VL.gy rfl rfl (q_seq rfl rfl) (by decide) ?_
          refine VL.q (q_pick_t rfl rfl) (by decide) ?_
          refine VL.q (q_assign rfl) (by decide) ?_
          refine VL.to (fun _ _ h => h) ?_
          refine VC.keep [1, 5, 13, 14, 15] rfl ?_
          refine VC.region ?_
          obtain ⟨b35, hS⟩ := gd_s hS
          refine VL.q (q_add rfl rfl b35) (by decide) ?_
          refine VL.q (q_move rfl) (by decide) ?_
          refine VL.rnd ((decide (z18_4.verb = [100, 114, 111, 112])), (x15_3 + 1)) [1, 5, 13, 14, 15] (fun _ _ h => h) (go2 hS hK1) rfl
        ·
          replace hS := it_b h30 hS
          refine VL.gn rfl rfl rfl (by decide) ?_
          refine VL.gn rfl rfl rfl (by decide) ?_
          refine VL.gn rfl rfl rfl (by decide) ?_
          refine VL.q (q_pick_f rfl rfl) (by decide) ?_
          refine VL.q (q_assign rfl) (by decide) ?_
          refine VL.to (fun _ _ h => h) ?_
          refine VC.keep [1, 5, 13, 14, 15] rfl ?_
          refine VC.region ?_
          obtain ⟨b35, hS⟩ := gd_s hS
          refine VL.q (q_add rfl rfl b35) (by decide) ?_
          refine VL.q (q_move rfl) (by decide) ?_
          refine VL.rnd (false, (x15_3 + 1)) [1, 5, 13, 14, 15] (fun _ _ h => h) (go2 hS hK1) rfl
    ·
      replace hS := it_f h16 hS
      replace hS := up2 hS hK1
      refine VC.exit_to (fun _ _ h => h) ?_
      refine VC.seq ?_
      refine VC.region ?_
      refine VL.q (q_assign rfl) (by decide) ?_
      refine VL.to (fun _ _ h => h) ?_
      cases hS
      exact VC.ret (fin1 (.inr rfl) rfl rfl .nil rfl rfl (by (try dsimp only); exact InM.out) (fun _ _ => trivial))

set_option maxHeartbeats 4000000 in
set_option maxRecDepth 100000 in
theorem rectolaw21_known_ct  {r : Bool} (hS : Sh.rectolaw21_known = some r) :
    Ct Tryz.prog 9 [] Gl (Ow.emp) (X := Unit) (fun _ => .bool r) (fun _ => True) (fun _ => Mo.tt) (fun _ => Ow.emp) := by
  refine Ct.of Tryz.func9 rfl (by kernel_rfl) Tryz.ntmps9 (by simp) fun c => ?_
  unfold Sh.rectolaw21_known at hS
  refine VC.seq ?_
  refine VC.region ?_
  refine VL.q (q_assign rfl) (by decide) ?_
  refine VL.to (fun _ _ h => h) ?_
  refine VC.seq ?_
  refine VC.region ?_
  obtain ⟨y8_1, ey8_1, hS⟩ := bd_s hS
  refine VL.callF (todo_Parse_ct [35, 32, 120, 10, 112, 105, 99, 107, 32, 51, 10, 10, 114, 101, 119, 111, 114, 100, 32, 52, 32, 110, 101, 119, 32, 119, 111, 114, 100, 115, 10] ey8_1) rfl (by decide) ?_
  rintro ⟨q8_1_0, q8_1_1⟩ rfl
  try dsimp only
  refine VL.q (q_move rfl) (by decide) ?_
  refine VL.q (q_extract rfl rfl) (by decide) ?_
  refine VL.q (q_extract rfl rfl) (by decide) ?_
  refine VL.q (q_assign rfl) (by decide) ?_
  refine VL.q (q_assign rfl) (by decide) ?_
  refine VL.to (fun _ _ h => h) ?_
  refine VC.seq ?_
  refine VC.region ?_
  obtain ⟨y12_2, ey12_2, hS⟩ := bd_s hS
  refine VL.callF (todo_Parse_ct [112, 105, 99, 107, 32, 120] ey12_2) rfl (by decide) ?_
  rintro ⟨q12_2_0, q12_2_1⟩ rfl
  try dsimp only
  refine VL.q (q_move rfl) (by decide) ?_
  refine VL.q (q_extract rfl rfl) (by decide) ?_
  refine VL.q (q_extract rfl rfl) (by decide) ?_
  refine VL.q (q_assign rfl) (by decide) ?_
  refine VL.q (q_assign rfl) (by decide) ?_
  refine VL.to (fun _ _ h => h) ?_
  refine VC.keep [1, 2, 4] rfl ?_
  refine VC.seq ?_
  refine VC.region ?_
  refine VL.lit (α := Int) (xs := [.const (i64 1)]) (vs := [i64 1]) [1] Tryz.underlying53 glit3 (by decide) rfl rfl rfl rfl (by decide) (fun _ _ _ _ => trivial) (by decide) (fun s15_3 hs15_3 => ?_) (by decide)
  replace hS := lt_to hs15_3 hS
  refine VL.lit (α := Int) (xs := [.const (i64 2)]) (vs := [i64 2]) [2] Tryz.underlying53 glit3 (by decide) rfl rfl rfl rfl (by decide) (fun _ _ _ _ => trivial) (by decide) (fun s16_5 hs16_5 => ?_) (by decide)
  replace hS := lt_to hs16_5 hS
  refine VL.lit (α := Sv Int) (xs := [.const (.slice none 0 0), .tmp 15, .tmp 16]) (vs := [.slice none 0 0, s15_3.val, s16_5.val]) [⟨none, 0, []⟩, s15_3, s16_5] Tryz.underlying38 glit53 (by decide) rfl rfl rfl rfl (by decide) (fun h m => List.forall_mem_cons.2 ⟨InM.out (X := ((⟨none, 0, []⟩ : Sv Int).ok)) h m, List.forall_mem_cons.2 ⟨InM.out (X := s15_3.ok) h m, List.forall_mem_cons.2 ⟨InM.out (X := s16_5.ok) h m, fun _ h => by cases h⟩⟩⟩) (by decide) (fun s17_7 hs17_7 => ?_) (by decide)
  replace hS := lt_to (congrArg (List.map Sv.l) hs17_7) hS
  refine VL.q (q_assign rfl) (by decide) ?_
  refine VL.to (fun _ _ h => h) ?_
  refine VC.seq ?_
  refine VC.region ?_
  refine VL.q (q_move rfl) (by decide) ?_
  obtain ⟨y19_9, ey19_9, hS⟩ := bd_s hS
  refine VL.callF (todo_Plain_ct s17_7 1 3 ey19_9) rfl (by decide) ?_
  rintro q19_9_0 rfl
  try dsimp only
  refine VL.q (q_assign rfl) (by decide) ?_
  refine VL.to (fun _ _ h => h) ?_
  refine VC.seq ?_
  refine VC.region ?_
  refine VL.q (q_move rfl) (by decide) ?_
  refine VL.q (q_ereq Tryz.underlying25 rfl) (by decide) ?_
  refine VL.q (q_move rfl) (by decide) ?_
  refine VL.split_dec 22 rfl (fun h22 => ?_) (fun h22 => ?_)
  ·
    replace hS := it_t h22 hS
    refine VL.gy rfl rfl (q_move rfl) (by decide) ?_
    refine VL.gy rfl rfl (q_erne Tryz.underlying25 rfl) (by decide) ?_
    refine VL.q (q_pick_t rfl rfl) (by decide) ?_
    refine VL.q (q_move rfl) (by decide) ?_
    refine VL.split_ndec 26 rfl (fun h26 => ?_) (fun h26 => ?_)
    ·
      replace hS := it_f h26 hS
      refine VL.gy rfl rfl (q_move rfl) (by decide) ?_
      refine VL.gy rfl rfl (q_ln (s := q8_1_0) Tryz.underlying23 rfl) (by decide) ?_
      refine VL.gy rfl rfl (q_eql rfl rfl) (by decide) ?_
      refine VL.q (q_pick_t rfl rfl) (by decide) ?_
      refine VL.q (q_move rfl) (by decide) ?_
      refine VL.split_dec 31 rfl (fun h31 => ?_) (fun h31 => ?_)
      ·
        replace hS := it_t h31 hS
        refine VL.gy rfl rfl (q_move rfl) (by decide) ?_
        obtain ⟨z33_10, nz33_10, hz33_10, hS⟩ := at_s hS
        refine VL.gy rfl rfl (q_ixm (s := q8_1_0) Tryz.underlying23 gsz41 rfl rfl nz33_10 (lt_of_get nz33_10 hz33_10)) (by decide) ?_
        refine VL.gy rfl rfl (q_field gfa41_2 rfl) (by decide) ?_
        refine VL.gy rfl rfl (q_elf (s := q8_1_0) gone9 rfl hz33_10 rfl) (by decide) ?_
        refine VL.gy rfl rfl (q_seq rfl rfl) (by decide) ?_
        refine VL.q (q_pick_t rfl rfl) (by decide) ?_
        refine VL.q (q_move rfl) (by decide) ?_
        refine VL.split_dec 38 rfl (fun h38 => ?_) (fun h38 => ?_)
        ·
          replace hS := it_t h38 hS
          refine VL.gy rfl rfl (q_move rfl) (by decide) ?_
          obtain ⟨y40_11, ey40_11, hS⟩ := bd_s hS
          refine VL.gy rfl rfl (q_call (todo_Text_ct q8_1_0 ey40_11) rfl (fun _ _ => rfl)) (by decide) ?_
          refine VL.gy rfl rfl (q_seq rfl rfl) (by decide) ?_
          refine VL.q (q_pick_t rfl rfl) (by decide) ?_
          refine VL.q (q_move rfl) (by decide) ?_
          refine VL.split_dec 43 rfl (fun h43 => ?_) (fun h43 => ?_)
          ·
            replace hS := it_t h43 hS
            refine VL.gy rfl rfl (q_move rfl) (by decide) ?_
            refine VL.gy rfl rfl (q_ln (s := q19_9_0) Tryz.underlying23 rfl) (by decide) ?_
            refine VL.gy rfl rfl (q_eql rfl rfl) (by decide) ?_
            refine VL.q (q_pick_t rfl rfl) (by decide) ?_
            refine VL.q (q_move rfl) (by decide) ?_
            refine VL.split_dec 48 rfl (fun h48 => ?_) (fun h48 => ?_)
            ·
              replace hS := it_t h48 hS
              refine VL.gy rfl rfl (q_move rfl) (by decide) ?_
              obtain ⟨z50_12, nz50_12, hz50_12, hS⟩ := at_s hS
              refine VL.gy rfl rfl (q_ixm (s := q19_9_0) Tryz.underlying23 gsz41 rfl rfl nz50_12 (lt_of_get nz50_12 hz50_12)) (by decide) ?_
              refine VL.gy rfl rfl (q_field gfa41_1 rfl) (by decide) ?_
              refine VL.gy rfl rfl (q_elf (s := q19_9_0) gone3 rfl hz50_12 rfl) (by decide) ?_
              refine VL.gy rfl rfl (q_eql rfl rfl) (by decide) ?_
              refine VL.q (q_pick_t rfl rfl) (by decide) ?_
              refine VL.q (q_move rfl) (by decide) ?_
              refine VL.split_dec 55 rfl (fun h55 => ?_) (fun h55 => ?_)
              ·
                replace hS := it_t h55 hS
                refine VL.gy rfl rfl (q_move rfl) (by decide) ?_
                refine VL.gy rfl rfl (q_move rfl) (by decide) ?_
                refine VL.guard rfl rfl ?_
                obtain ⟨y58_13, ey58_13, hS⟩ := bd_s hS
                refine VL.callF (todo_Check_ct q19_9_0 s17_7 ey58_13) rfl (by decide) ?_
                rintro q58_13_0 rfl
                try dsimp only
                refine VL.gy rfl rfl (q_ereq Tryz.underlying25 rfl) (by decide) ?_
                refine VL.q (q_pick_t rfl rfl) (by decide) ?_
                refine VL.q (q_move rfl) (by decide) ?_
                refine VL.split_dec 61 rfl (fun h61 => ?_) (fun h61 => ?_)
                ·
                  replace hS := it_t h61 hS
                  refine VL.gy rfl rfl (q_move rfl) (by decide) ?_
                  refine VL.gy rfl rfl (q_move rfl) (by decide) ?_
                  refine VL.guard rfl rfl ?_
                  obtain ⟨y64_14, ey64_14, hS⟩ := bd_s hS
                  refine VL.callF (todo_Check_ct q8_1_0 s17_7 ey64_14) rfl (by decide) ?_
                  rintro q64_14_0 rfl
                  try dsimp only
                  refine VL.gy rfl rfl (q_erne Tryz.underlying25 rfl) (by decide) ?_
                  refine VL.q (q_pick_t rfl rfl) (by decide) ?_
                  refine VL.q (q_assign rfl) (by decide) ?_
                  refine VL.to (fun _ _ h => h) ?_
                  refine VC.keep [0] rfl ?_
                  cases hS
                  exact VC.ret (fin1 (.inr rfl) rfl rfl () rfl trivial (fun _ _ => trivial) (fun _ _ => trivial))
                ·
                  replace hS := it_f h61 hS
                  refine VL.gn rfl rfl rfl (by decide) ?_
                  refine VL.gn rfl rfl rfl (by decide) ?_
                  refine VL.gn rfl rfl rfl (by decide) ?_
                  refine VL.gn rfl rfl rfl (by decide) ?_
                  refine VL.q (q_pick_f rfl rfl) (by decide) ?_
                  refine VL.q (q_assign rfl) (by decide) ?_
                  refine VL.to (fun _ _ h => h) ?_
                  refine VC.keep [0] rfl ?_
                  cases hS
                  exact VC.ret (fin1 (.inr rfl) rfl rfl () rfl trivial (fun _ _ => trivial) (fun _ _ => trivial))
              ·
                replace hS := it_f h55 hS
                refine VL.gn rfl rfl rfl (by decide) ?_
                refine VL.gn rfl rfl rfl (by decide) ?_
                refine VL.gn rfl rfl rfl (by decide) ?_
                refine VL.gn rfl rfl rfl (by decide) ?_
                refine VL.q (q_pick_f rfl rfl) (by decide) ?_
                refine VL.q (q_move rfl) (by decide) ?_
                refine VL.gn rfl rfl rfl (by decide) ?_
                refine VL.gn rfl rfl rfl (by decide) ?_
                refine VL.gn rfl rfl rfl (by decide) ?_
                refine VL.gn rfl rfl rfl (by decide) ?_
                refine VL.q (q_pick_f rfl rfl) (by decide) ?_
                refine VL.q (q_assign rfl) (by decide) ?_
                refine VL.to (fun _ _ h => h) ?_
                refine VC.keep [0] rfl ?_
                cases hS
                exact VC.ret (fin1 (.inr rfl) rfl rfl () rfl trivial (fun _ _ => trivial) (fun _ _ => trivial))
            ·
              replace hS := it_f h48 hS
              refine VL.gn rfl rfl rfl (by decide) ?_
              refine VL.gn rfl rfl rfl (by decide) ?_
              refine VL.gn rfl rfl rfl (by decide) ?_
              refine VL.gn rfl rfl rfl (by decide) ?_
              refine VL.gn rfl rfl rfl (by decide) ?_
              refine VL.q (q_pick_f rfl rfl) (by decide) ?_
              refine VL.q (q_move rfl) (by decide) ?_
              refine VL.gn rfl rfl rfl (by decide) ?_
              refine VL.gn rfl rfl rfl (by decide) ?_
              refine VL.gn rfl rfl rfl (by decide) ?_
              refine VL.gn rfl rfl rfl (by decide) ?_
              refine VL.q (q_pick_f rfl rfl) (by decide) ?_
              refine VL.q (q_move rfl) (by decide) ?_
              refine VL.gn rfl rfl rfl (by decide) ?_
              refine VL.gn rfl rfl rfl (by decide) ?_
              refine VL.gn rfl rfl rfl (by decide) ?_
              refine VL.gn rfl rfl rfl (by decide) ?_
              refine VL.q (q_pick_f rfl rfl) (by decide) ?_
              refine VL.q (q_assign rfl) (by decide) ?_
              refine VL.to (fun _ _ h => h) ?_
              refine VC.keep [0] rfl ?_
              cases hS
              exact VC.ret (fin1 (.inr rfl) rfl rfl () rfl trivial (fun _ _ => trivial) (fun _ _ => trivial))
          ·
            replace hS := it_f h43 hS
            refine VL.gn rfl rfl rfl (by decide) ?_
            refine VL.gn rfl rfl rfl (by decide) ?_
            refine VL.gn rfl rfl rfl (by decide) ?_
            refine VL.q (q_pick_f rfl rfl) (by decide) ?_
            refine VL.q (q_move rfl) (by decide) ?_
            refine VL.gn rfl rfl rfl (by decide) ?_
            refine VL.gn rfl rfl rfl (by decide) ?_
            refine VL.gn rfl rfl rfl (by decide) ?_
            refine VL.gn rfl rfl rfl (by decide) ?_
            refine VL.gn rfl rfl rfl (by decide) ?_
            refine VL.q (q_pick_f rfl rfl) (by decide) ?_
            refine VL.q (q_move rfl) (by decide) ?_
            refine VL.gn rfl rfl rfl (by decide) ?_
            refine VL.gn rfl rfl rfl (by decide) ?_
            refine VL.gn rfl rfl rfl (by decide) ?_
            refine VL.gn rfl rfl rfl (by decide) ?_
            refine VL.q (q_pick_f rfl rfl) (by decide) ?_
            refine VL.q (q_move rfl) (by decide) ?_
            refine VL.gn rfl rfl rfl (by decide) ?_
            refine VL.gn rfl rfl rfl (by decide) ?_
            refine VL.gn rfl rfl rfl (by decide) ?_
            refine VL.gn rfl rfl rfl (by decide) ?_
            refine VL.q (q_pick_f rfl rfl) (by decide) ?_
            refine VL.q (q_assign rfl) (by decide) ?_
            refine VL.to (fun _ _ h => h) ?_
            refine VC.keep [0] rfl ?_
            cases hS
            exact VC.ret (fin1 (.inr rfl) rfl rfl () rfl trivial (fun _ _ => trivial) (fun _ _ => trivial))
        ·
          replace hS := it_f h38 hS
          refine VL.gn rfl rfl rfl (by decide) ?_
          refine VL.gn rfl rfl rfl (by decide) ?_
          refine VL.gn rfl rfl rfl (by decide) ?_
          refine VL.q (q_pick_f rfl rfl) (by decide) ?_
          refine VL.q (q_move rfl) (by decide) ?_
          refine VL.gn rfl rfl rfl (by decide) ?_
          refine VL.gn rfl rfl rfl (by decide) ?_
          refine VL.gn rfl rfl rfl (by decide) ?_
          refine VL.q (q_pick_f rfl rfl) (by decide) ?_
          refine VL.q (q_move rfl) (by decide) ?_
          refine VL.gn rfl rfl rfl (by decide) ?_
          refine VL.gn rfl rfl rfl (by decide) ?_
          refine VL.gn rfl rfl rfl (by decide) ?_
          refine VL.gn rfl rfl rfl (by decide) ?_
          refine VL.gn rfl rfl rfl (by decide) ?_
          refine VL.q (q_pick_f rfl rfl) (by decide) ?_
          refine VL.q (q_move rfl) (by decide) ?_
          refine VL.gn rfl rfl rfl (by decide) ?_
          refine VL.gn rfl rfl rfl (by decide) ?_
          refine VL.gn rfl rfl rfl (by decide) ?_
          refine VL.gn rfl rfl rfl (by decide) ?_
          refine VL.q (q_pick_f rfl rfl) (by decide) ?_
          refine VL.q (q_move rfl) (by decide) ?_
          refine VL.gn rfl rfl rfl (by decide) ?_
          refine VL.gn rfl rfl rfl (by decide) ?_
          refine VL.gn rfl rfl rfl (by decide) ?_
          refine VL.gn rfl rfl rfl (by decide) ?_
          refine VL.q (q_pick_f rfl rfl) (by decide) ?_
          refine VL.q (q_assign rfl) (by decide) ?_
          refine VL.to (fun _ _ h => h) ?_
          refine VC.keep [0] rfl ?_
          cases hS
          exact VC.ret (fin1 (.inr rfl) rfl rfl () rfl trivial (fun _ _ => trivial) (fun _ _ => trivial))
      ·
        replace hS := it_f h31 hS
        refine VL.gn rfl rfl rfl (by decide) ?_
        refine VL.gn rfl rfl rfl (by decide) ?_
        refine VL.gn rfl rfl rfl (by decide) ?_
        refine VL.gn rfl rfl rfl (by decide) ?_
        refine VL.gn rfl rfl rfl (by decide) ?_
        refine VL.q (q_pick_f rfl rfl) (by decide) ?_
        refine VL.q (q_move rfl) (by decide) ?_
        refine VL.gn rfl rfl rfl (by decide) ?_
        refine VL.gn rfl rfl rfl (by decide) ?_
        refine VL.gn rfl rfl rfl (by decide) ?_
        refine VL.q (q_pick_f rfl rfl) (by decide) ?_
        refine VL.q (q_move rfl) (by decide) ?_
        refine VL.gn rfl rfl rfl (by decide) ?_
        refine VL.gn rfl rfl rfl (by decide) ?_
        refine VL.gn rfl rfl rfl (by decide) ?_
        refine VL.q (q_pick_f rfl rfl) (by decide) ?_
        refine VL.q (q_move rfl) (by decide) ?_
        refine VL.gn rfl rfl rfl (by decide) ?_
        refine VL.gn rfl rfl rfl (by decide) ?_
        refine VL.gn rfl rfl rfl (by decide) ?_
        refine VL.gn rfl rfl rfl (by decide) ?_
        refine VL.gn rfl rfl rfl (by decide) ?_
        refine VL.q (q_pick_f rfl rfl) (by decide) ?_
        refine VL.q (q_move rfl) (by decide) ?_
        refine VL.gn rfl rfl rfl (by decide) ?_
        refine VL.gn rfl rfl rfl (by decide) ?_
        refine VL.gn rfl rfl rfl (by decide) ?_
        refine VL.gn rfl rfl rfl (by decide) ?_
        refine VL.q (q_pick_f rfl rfl) (by decide) ?_
        refine VL.q (q_move rfl) (by decide) ?_
        refine VL.gn rfl rfl rfl (by decide) ?_
        refine VL.gn rfl rfl rfl (by decide) ?_
        refine VL.gn rfl rfl rfl (by decide) ?_
        refine VL.gn rfl rfl rfl (by decide) ?_
        refine VL.q (q_pick_f rfl rfl) (by decide) ?_
        refine VL.q (q_assign rfl) (by decide) ?_
        refine VL.to (fun _ _ h => h) ?_
        refine VC.keep [0] rfl ?_
        cases hS
        exact VC.ret (fin1 (.inr rfl) rfl rfl () rfl trivial (fun _ _ => trivial) (fun _ _ => trivial))
    ·
      replace hS := it_t h26 hS
      refine VL.gn rfl rfl rfl (by decide) ?_
      refine VL.gn rfl rfl rfl (by decide) ?_
      refine VL.gn rfl rfl rfl (by decide) ?_
      refine VL.q (q_pick_f rfl rfl) (by decide) ?_
      refine VL.q (q_move rfl) (by decide) ?_
      refine VL.gn rfl rfl rfl (by decide) ?_
      refine VL.gn rfl rfl rfl (by decide) ?_
      refine VL.gn rfl rfl rfl (by decide) ?_
      refine VL.gn rfl rfl rfl (by decide) ?_
      refine VL.gn rfl rfl rfl (by decide) ?_
      refine VL.q (q_pick_f rfl rfl) (by decide) ?_
      refine VL.q (q_move rfl) (by decide) ?_
      refine VL.gn rfl rfl rfl (by decide) ?_
      refine VL.gn rfl rfl rfl (by decide) ?_
      refine VL.gn rfl rfl rfl (by decide) ?_
      refine VL.q (q_pick_f rfl rfl) (by decide) ?_
      refine VL.q (q_move rfl) (by decide) ?_
      refine VL.gn rfl rfl rfl (by decide) ?_
      refine VL.gn rfl rfl rfl (by decide) ?_
      refine VL.gn rfl rfl rfl (by decide) ?_
      refine VL.q (q_pick_f rfl rfl) (by decide) ?_
      refine VL.q (q_move rfl) (by decide) ?_
      refine VL.gn rfl rfl rfl (by decide) ?_
      refine VL.gn rfl rfl rfl (by decide) ?_
      refine VL.gn rfl rfl rfl (by decide) ?_
      refine VL.gn rfl rfl rfl (by decide) ?_
      refine VL.gn rfl rfl rfl (by decide) ?_
      refine VL.q (q_pick_f rfl rfl) (by decide) ?_
      refine VL.q (q_move rfl) (by decide) ?_
      refine VL.gn rfl rfl rfl (by decide) ?_
      refine VL.gn rfl rfl rfl (by decide) ?_
      refine VL.gn rfl rfl rfl (by decide) ?_
      refine VL.gn rfl rfl rfl (by decide) ?_
      refine VL.q (q_pick_f rfl rfl) (by decide) ?_
      refine VL.q (q_move rfl) (by decide) ?_
      refine VL.gn rfl rfl rfl (by decide) ?_
      refine VL.gn rfl rfl rfl (by decide) ?_
      refine VL.gn rfl rfl rfl (by decide) ?_
      refine VL.gn rfl rfl rfl (by decide) ?_
      refine VL.q (q_pick_f rfl rfl) (by decide) ?_
      refine VL.q (q_assign rfl) (by decide) ?_
      refine VL.to (fun _ _ h => h) ?_
      refine VC.keep [0] rfl ?_
      cases hS
      exact VC.ret (fin1 (.inr rfl) rfl rfl () rfl trivial (fun _ _ => trivial) (fun _ _ => trivial))
  ·
    replace hS := it_f h22 hS
    refine VL.gn rfl rfl rfl (by decide) ?_
    refine VL.gn rfl rfl rfl (by decide) ?_
    refine VL.q (q_pick_f rfl rfl) (by decide) ?_
    refine VL.q (q_move rfl) (by decide) ?_
    refine VL.gn rfl rfl rfl (by decide) ?_
    refine VL.gn rfl rfl rfl (by decide) ?_
    refine VL.gn rfl rfl rfl (by decide) ?_
    refine VL.q (q_pick_f rfl rfl) (by decide) ?_
    refine VL.q (q_move rfl) (by decide) ?_
    refine VL.gn rfl rfl rfl (by decide) ?_
    refine VL.gn rfl rfl rfl (by decide) ?_
    refine VL.gn rfl rfl rfl (by decide) ?_
    refine VL.gn rfl rfl rfl (by decide) ?_
    refine VL.gn rfl rfl rfl (by decide) ?_
    refine VL.q (q_pick_f rfl rfl) (by decide) ?_
    refine VL.q (q_move rfl) (by decide) ?_
    refine VL.gn rfl rfl rfl (by decide) ?_
    refine VL.gn rfl rfl rfl (by decide) ?_
    refine VL.gn rfl rfl rfl (by decide) ?_
    refine VL.q (q_pick_f rfl rfl) (by decide) ?_
    refine VL.q (q_move rfl) (by decide) ?_
    refine VL.gn rfl rfl rfl (by decide) ?_
    refine VL.gn rfl rfl rfl (by decide) ?_
    refine VL.gn rfl rfl rfl (by decide) ?_
    refine VL.q (q_pick_f rfl rfl) (by decide) ?_
    refine VL.q (q_move rfl) (by decide) ?_
    refine VL.gn rfl rfl rfl (by decide) ?_
    refine VL.gn rfl rfl rfl (by decide) ?_
    refine VL.gn rfl rfl rfl (by decide) ?_
    refine VL.gn rfl rfl rfl (by decide) ?_
    refine VL.gn rfl rfl rfl (by decide) ?_
    refine VL.q (q_pick_f rfl rfl) (by decide) ?_
    refine VL.q (q_move rfl) (by decide) ?_
    refine VL.gn rfl rfl rfl (by decide) ?_
    refine VL.gn rfl rfl rfl (by decide) ?_
    refine VL.gn rfl rfl rfl (by decide) ?_
    refine VL.gn rfl rfl rfl (by decide) ?_
    refine VL.q (q_pick_f rfl rfl) (by decide) ?_
    refine VL.q (q_move rfl) (by decide) ?_
    refine VL.gn rfl rfl rfl (by decide) ?_
    refine VL.gn rfl rfl rfl (by decide) ?_
    refine VL.gn rfl rfl rfl (by decide) ?_
    refine VL.gn rfl rfl rfl (by decide) ?_
    refine VL.q (q_pick_f rfl rfl) (by decide) ?_
    refine VL.q (q_assign rfl) (by decide) ?_
    refine VL.to (fun _ _ h => h) ?_
    refine VC.keep [0] rfl ?_
    cases hS
    exact VC.ret (fin1 (.inr rfl) rfl rfl () rfl trivial (fun _ _ => trivial) (fun _ _ => trivial))

set_option maxHeartbeats 4000000 in
set_option maxRecDepth 100000 in
theorem rectoref17_Lines_ct (s_0 : Str) {r : List Str} (hS : Sh.rectoref17_Lines s_0 = some r) :
    Ct Tryz.prog 16 [str s_0] Mo.tt (Ow.emp) (X := Sv Str) (fun x => x.val) (fun x => r = x.l) (fun x => Mo.tt) (fun x => Sv.own x 9) := by
  refine Ct.of Tryz.func16 rfl (by kernel_rfl) Tryz.ntmps16 (by simp) fun c => ?_
  unfold Sh.rectoref17_Lines at hS
  refine VC.seq ?_
  refine VC.region ?_
  refine VL.q (q_assign rfl) (by decide) ?_
  refine VL.to (fun _ _ h => h) ?_
  refine VC.seq ?_
  refine VC.region ?_
  refine VL.litO (α := Str) (xs := [.const (str [])]) (vs := [str []]) [[]] Tryz.underlying43 glit9 (by decide) rfl rfl rfl rfl (by decide) (by decide) (fun s5_1 hs5_1 => ?_) (by decide)
  replace hS := lt_to hs5_1 hS
  refine VL.q (q_assign rfl) (by decide) ?_
  refine VL.to (fun _ _ h => h) ?_
  refine VC.seq ?_
  refine VC.seq ?_
  refine VC.region ?_
  refine VL.q (q_assign rfl) (by decide) ?_
  refine VL.to (fun _ _ h => h) ?_
  refine VC.block ?_
  refine VC.iter (S := Sv Str × Int) (fun sg => (sg.1.l, sg.2)) (fun sg => [(0, str s_0), (3, sg.1.val), (4, i64 sg.2)]) (fun sg => Mo.tt) (fun sg => Ow.star (Sv.own sg.1 9) (Ow.emp)) (s5_1, 0) [0, 3, 4] hS rfl ?_
  clear hS
  rintro ⟨out3_3, i4_4⟩ m1 y1 hS hK1
  show VC _ _ _ _ _ [(0, str s_0), (3, out3_3.val), (4, i64 i4_4)] (Mo.and Mo.tt _) (Ow.star (Sv.own out3_3 9) (Ow.emp))
  refine VC.seq ?_
  refine VC.seq ?_
  refine VC.region ?_
  refine VL.q (q_move rfl) (by decide) ?_
  refine VL.q (q_move rfl) (by decide) ?_
  refine VL.q (q_slen Tryz.underlying9 rfl) (by decide) ?_
  refine VL.q (q_lss rfl rfl) (by decide) ?_
  refine VL.to (fun _ _ h => h) ?_
  refine VC.cond_dec rfl (fun h9 => ?_) (fun h9 => ?_)
  ·
    replace hS := it_t h9 hS
    refine VC.skip_to (fun _ _ h => h) ?_
    refine VC.cutJ (S := Sv Str) (fun (out3_5 : Sv Str) => out3_5.l) (fun (out3_5 : Sv Str) => [(0, str s_0), (3, out3_5.val), (4, i64 i4_4)]) (fun (out3_5 : Sv Str) => Mo.tt) (fun (out3_5 : Sv Str) => Ow.star (Sv.own out3_5 9) (Ow.emp)) hS ?_ ?_
    · -- up to where ways meet
      clear hS
      intro k6 hS
      refine VC.block ?_
      refine VC.seq ?_
      refine VC.seq ?_
      refine VC.region ?_
      refine VL.q (q_move rfl) (by decide) ?_
      refine VL.q (q_move rfl) (by decide) ?_
      obtain ⟨z14_7, nz14_7, hz14_7, hS⟩ := at_s hS
      refine VL.q (q_sidx Tryz.underlying9 rfl rfl nz14_7 hz14_7) (by decide) ?_
      refine VL.q (q_eql rfl rfl) (by decide) ?_
      refine VL.to (fun _ _ h => h) ?_
      refine VC.keep [0, 3, 4, 15] rfl ?_
      refine VC.cond_dec rfl (fun h15 => ?_) (fun h15 => ?_)
      ·
        replace hS := it_t h15 hS
        refine VC.seq ?_
        refine VC.region ?_
        refine VL.q (q_move rfl) (by decide) ?_
        refine VL.lit (α := Str) (xs := [.const (str [])]) (vs := [str []]) [[]] Tryz.underlying43 glit9 (by decide) rfl rfl rfl rfl (by decide) (fun _ _ _ _ => trivial) (by decide) (fun s17_8 hs17_8 => ?_) (by decide)
        replace hS := lt_to hs17_8 hS
        obtain ⟨b18, hS⟩ := gd_s hS
        refine VL.app (s := out3_3) (r := s17_8) Tryz.underlying43 gapp9 (by decide) rfl Fo.out (ap1 b18) (ap2 b18 (by decide)) (by decide) (fun s18_10 hs18_10 => ?_)
        replace hS := lt_to hs18_10 hS
        refine VL.q (q_assign rfl) (by decide) ?_
        refine VL.to (fun _ _ h => h) ?_
        refine VC.exit_mt s18_10 [0, 3, 4] (fun _ _ h => h) hS rfl
      ·
        replace hS := it_f h15 hS
        refine VC.skip_to (fun _ _ h => h) ?_
        refine VC.draw [(0, true), (1, true), (2, true), (3, true), (4, true), (5, true), (6, true), (7, true), (8, true), (9, true), (10, true), (11, true), (12, true), (13, true), (14, true), (15, true), (16, true), (17, false)] mixed (by kernel_rfl) (by kernel_rfl) (by kernel_rfl) ?_
        refine VD.q rfl (q_move rfl) (by decide) ?_
        refine VD.q rfl (q_move rfl) (by decide) ?_
        refine VD.q rfl (q_ln (s := out3_3) Tryz.underlying43 rfl) (by decide) ?_
        obtain ⟨b22, hS⟩ := gd_s hS
        refine VD.q rfl (q_sub rfl rfl b22) (by decide) ?_
        refine VD.q rfl (q_move rfl) (by decide) ?_
        refine VD.q rfl (q_move rfl) (by decide) ?_
        refine VD.q rfl (q_ln (s := out3_3) Tryz.underlying43 rfl) (by decide) ?_
        obtain ⟨b26, hS⟩ := gd_s hS
        refine VD.q rfl (q_sub rfl rfl b26) (by decide) ?_
        obtain ⟨z27_12, nz27_12, hz27_12, hS⟩ := at_s hS
        refine VD.q rfl (q_ixo (s := out3_3) Tryz.underlying43 gsz9 rfl rfl nz27_12 (lt_of_get nz27_12 hz27_12)) (by decide) ?_
        refine VD.q rfl (q_elo (s := out3_3) 9 gone9 rfl hz27_12 rfl) (by decide) ?_
        refine VD.q rfl (q_move rfl) (by decide) ?_
        refine VD.q rfl (q_move rfl) (by decide) ?_
        refine VD.q rfl (q_move rfl) (by decide) ?_
        obtain ⟨b32, hS⟩ := gd_s hS
        refine VD.q rfl (q_add rfl rfl b32) (by decide) ?_
        obtain ⟨b33, hS⟩ := gd_s hS
        obtain ⟨y33_13, ey33_13, hS⟩ := lt_s hS
        refine VD.q rfl (q_smidE Tryz.underlying9 rfl rfl rfl b33.1 b33.2.1 b33.2.2 ey33_13) (by decide) ?_
        obtain ⟨b34, hS⟩ := gd_s hS
        obtain ⟨y34_14, ey34_14, hS⟩ := lt_s hS
        refine VD.q rfl (q_catE rfl rfl b34 ey34_14) (by decide) ?_
        obtain ⟨z35_15, nz35_15, hz35_15, hS⟩ := at_s hS
        refine VD.q rfl (q_ixo (s := out3_3) Tryz.underlying43 gsz9 rfl rfl nz35_15 (lt_of_get nz35_15 hz35_15)) (by decide) ?_
        refine VD.one rfl ?_
        refine VL.storeE (s := out3_3) (T := 9) (j := 0) (vc := [str y34_14]) (y34_14 : Str) (by decide) rfl rfl hz35_15 rfl gsz9 rfl rfl (Nat.le_of_ble_eq_true rfl) rfl (fun w16 hw16 haw16 hcw16 hvw16 hbw16 how16 => ?_)
        rw [← hvw16]
        replace hS := lt_to hw16 hS
        refine VL.back (D' := []) (by kernel_rfl) (Pend.nil) ?_
        refine VD.mt w16 [0, 3, 4] (fun _ _ h => h) hS rfl
    · -- from there
      clear hS
      rintro out3_5 hS
      show VC _ _ _ _ _ [(0, str s_0), (3, out3_5.val), (4, i64 i4_4)] (Mo.and Mo.tt _) (Ow.star (Sv.own out3_5 9) (Ow.emp))
      refine VC.region ?_
      refine VL.q (q_move rfl) (by decide) ?_
      obtain ⟨b11, hS⟩ := gd_s hS
      refine VL.q (q_add rfl rfl b11) (by decide) ?_
      refine VL.q (q_assign rfl) (by decide) ?_
      refine VL.rnd (out3_5, (i4_4 + 1)) [0, 3, 4] (fun _ _ h => h) (go2 hS hK1) rfl
  ·
    replace hS := it_f h9 hS
    replace hS := up2 hS hK1
    refine VC.exit_to (fun _ _ h => h) ?_
    refine VC.seq ?_
    refine VC.region ?_
    refine VL.q (q_move rfl) (by decide) ?_
    refine VL.q (q_assign rfl) (by decide) ?_
    refine VL.to (fun _ _ h => h) ?_
    cases hS
    exact VC.ret (fin1 (.inr rfl) rfl rfl out3_3 rfl rfl (by (try dsimp only); exact InM.out) (by (try dsimp only); exact EntO.out))

set_option maxHeartbeats 4000000 in
set_option maxRecDepth 100000 in
theorem rectoref17_word_ct (s_0 : Str) {r : Str × Str} (hS : Sh.rectoref17_word s_0 = some r) :
    Ct Tryz.prog 53 [str s_0] Mo.tt (Ow.emp) (X := Unit) (fun _ => .tuple #[str r.1, str r.2]) (fun _ => True) (fun _ => Mo.tt) (fun _ => Ow.emp) := by
  refine Ct.of Tryz.func53 rfl (by kernel_rfl) Tryz.ntmps53 (by simp) fun c => ?_
  unfold Sh.rectoref17_word at hS
  refine VC.seq ?_
  refine VC.region ?_
  refine VL.q (q_assign rfl) (by decide) ?_
  refine VL.q (q_assign rfl) (by decide) ?_
  refine VL.to (fun _ _ h => h) ?_
  refine VC.seq ?_
  refine VC.region ?_
  refine VL.q (q_assign rfl) (by decide) ?_
  refine VL.to (fun _ _ h => h) ?_
  refine VC.cutJ (S := Int) (fun (i4_1 : Int) => i4_1) (fun (i4_1 : Int) => [(0, str s_0), (4, i64 i4_1)]) (fun (i4_1 : Int) => Mo.tt) (fun (i4_1 : Int) => Ow.emp) hS ?_ ?_
  · -- up to where ways meet
    clear hS
    intro k2 hS
    refine VC.block ?_
    refine VC.iter (S := Int) (fun (i4_3 : Int) => i4_3) (fun (i4_3 : Int) => [(0, str s_0), (4, i64 i4_3)]) (fun (i4_3 : Int) => Mo.tt) (fun (i4_3 : Int) => Ow.emp) 0 [0, 4] hS rfl ?_
    clear hS
    rintro i4_3 m1 y1 hS hK1
    show VC _ _ _ _ _ [(0, str s_0), (4, i64 i4_3)] (Mo.and Mo.tt _) (Ow.emp)
    refine VC.seq ?_
    refine VC.seq ?_
    refine VC.region ?_
    refine VL.q (q_move rfl) (by decide) ?_
    refine VL.q (q_move rfl) (by decide) ?_
    refine VL.q (q_slen Tryz.underlying9 rfl) (by decide) ?_
    refine VL.q (q_lss rfl rfl) (by decide) ?_
    refine VL.q (q_move rfl) (by decide) ?_
    refine VL.split_dec 10 rfl (fun h10 => ?_) (fun h10 => ?_)
    ·
      replace hS := it_t h10 hS
      refine VL.gy rfl rfl (q_move rfl) (by decide) ?_
      refine VL.gy rfl rfl (q_move rfl) (by decide) ?_
      obtain ⟨z13_4, nz13_4, hz13_4, hS⟩ := at_s hS
      refine VL.gy rfl rfl (q_sidx Tryz.underlying9 rfl rfl nz13_4 hz13_4) (by decide) ?_
      refine VL.gy rfl rfl (q_eql rfl rfl) (by decide) ?_
      refine VL.q (q_pick_t rfl rfl) (by decide) ?_
      refine VL.to (fun _ _ h => h) ?_
      refine VC.keep [0, 4, 15] rfl ?_
      refine VC.cond_dec rfl (fun h15 => ?_) (fun h15 => ?_)
      ·
        replace hS := it_t h15 hS
        refine VC.skip_to (fun _ _ h => h) ?_
        refine VC.block ?_
        refine VC.region ?_
        refine VL.q (q_move rfl) (by decide) ?_
        obtain ⟨b17, hS⟩ := gd_s hS
        refine VL.q (q_add rfl rfl b17) (by decide) ?_
        refine VL.q (q_assign rfl) (by decide) ?_
        refine VL.rnd (i4_3 + 1) [0, 4] (fun _ _ h => h) (go2 hS hK1) rfl
      ·
        replace hS := it_f h15 hS
        replace hS := up2 hS hK1
        refine VC.exit_mt i4_3 [0, 4] (fun _ _ h => h) hS rfl
    ·
      replace hS := it_f h10 hS
      refine VL.gn rfl rfl rfl (by decide) ?_
      refine VL.gn rfl rfl rfl (by decide) ?_
      refine VL.gn rfl rfl rfl (by decide) ?_
      refine VL.gn rfl rfl rfl (by decide) ?_
      refine VL.q (q_pick_f rfl rfl) (by decide) ?_
      refine VL.to (fun _ _ h => h) ?_
      refine VC.keep [0, 4, 15] rfl ?_
      refine VC.cond_f rfl ?_
      replace hS := up2 hS hK1
      refine VC.exit_mt i4_3 [0, 4] (fun _ _ h => h) hS rfl
  · -- from there
    clear hS
    rintro i4_1 hS
    show VC _ _ _ _ _ [(0, str s_0), (4, i64 i4_1)] (Mo.and Mo.tt _) (Ow.emp)
    refine VC.seq ?_
    refine VC.region ?_
    refine VL.q (q_move rfl) (by decide) ?_
    refine VL.q (q_assign rfl) (by decide) ?_
    refine VL.to (fun _ _ h => h) ?_
    refine VC.cutJ (S := Int) (fun (k5_5 : Int) => k5_5) (fun (k5_5 : Int) => [(0, str s_0), (4, i64 i4_1), (5, i64 k5_5)]) (fun (k5_5 : Int) => Mo.tt) (fun (k5_5 : Int) => Ow.emp) hS ?_ ?_
    · -- up to where ways meet
      clear hS
      intro k6 hS
      refine VC.block ?_
      refine VC.iter (S := Int) (fun (k5_7 : Int) => k5_7) (fun (k5_7 : Int) => [(0, str s_0), (4, i64 i4_1), (5, i64 k5_7)]) (fun (k5_7 : Int) => Mo.tt) (fun (k5_7 : Int) => Ow.emp) i4_1 [0, 4, 5] hS rfl ?_
      clear hS
      rintro k5_7 m1 y1 hS hK1
      show VC _ _ _ _ _ [(0, str s_0), (4, i64 i4_1), (5, i64 k5_7)] (Mo.and Mo.tt _) (Ow.emp)
      refine VC.seq ?_
      refine VC.seq ?_
      refine VC.region ?_
      refine VL.q (q_move rfl) (by decide) ?_
      refine VL.q (q_move rfl) (by decide) ?_
      refine VL.q (q_slen Tryz.underlying9 rfl) (by decide) ?_
      refine VL.q (q_lss rfl rfl) (by decide) ?_
      refine VL.q (q_move rfl) (by decide) ?_
      refine VL.split_dec 23 rfl (fun h23 => ?_) (fun h23 => ?_)
      ·
        replace hS := it_t h23 hS
        refine VL.gy rfl rfl (q_move rfl) (by decide) ?_
        refine VL.gy rfl rfl (q_move rfl) (by decide) ?_
        obtain ⟨z26_8, nz26_8, hz26_8, hS⟩ := at_s hS
        refine VL.gy rfl rfl (q_sidx Tryz.underlying9 rfl rfl nz26_8 hz26_8) (by decide) ?_
        refine VL.gy rfl rfl (q_neq rfl rfl) (by decide) ?_
        refine VL.q (q_pick_t rfl rfl) (by decide) ?_
        refine VL.to (fun _ _ h => h) ?_
        refine VC.keep [0, 4, 5, 28] rfl ?_
        refine VC.cond_ndec rfl (fun h28 => ?_) (fun h28 => ?_)
        ·
          replace hS := it_f h28 hS
          refine VC.skip_to (fun _ _ h => h) ?_
          refine VC.block ?_
          refine VC.region ?_
          refine VL.q (q_move rfl) (by decide) ?_
          obtain ⟨b30, hS⟩ := gd_s hS
          refine VL.q (q_add rfl rfl b30) (by decide) ?_
          refine VL.q (q_assign rfl) (by decide) ?_
          refine VL.rnd (k5_7 + 1) [0, 4, 5] (fun _ _ h => h) (go2 hS hK1) rfl
        ·
          replace hS := it_t h28 hS
          replace hS := up2 hS hK1
          refine VC.exit_mt k5_7 [0, 4, 5] (fun _ _ h => h) hS rfl
      ·
        replace hS := it_f h23 hS
        refine VL.gn rfl rfl rfl (by decide) ?_
        refine VL.gn rfl rfl rfl (by decide) ?_
        refine VL.gn rfl rfl rfl (by decide) ?_
        refine VL.gn rfl rfl rfl (by decide) ?_
        refine VL.q (q_pick_f rfl rfl) (by decide) ?_
        refine VL.to (fun _ _ h => h) ?_
        refine VC.keep [0, 4, 5, 28] rfl ?_
        refine VC.cond_f rfl ?_
        replace hS := up2 hS hK1
        refine VC.exit_mt k5_7 [0, 4, 5] (fun _ _ h => h) hS rfl
    · -- from there
      clear hS
      rintro k5_5 hS
      show VC _ _ _ _ _ [(0, str s_0), (4, i64 i4_1), (5, i64 k5_5)] (Mo.and Mo.tt _) (Ow.emp)
      refine VC.seq ?_
      refine VC.draw ((List.range 9).map fun k => (k, true)) mixed (by kernel_rfl) (by kernel_rfl) (by kernel_rfl) ?_
      refine VD.q rfl (q_move rfl) (by decide) ?_
      refine VD.q rfl (q_move rfl) (by decide) ?_
      refine VD.q rfl (q_move rfl) (by decide) ?_
      obtain ⟨b34, hS⟩ := gd_s hS
      obtain ⟨y34_9, ey34_9, hS⟩ := lt_s hS
      refine VD.q rfl (q_smidE Tryz.underlying9 rfl rfl rfl b34.1 b34.2.1 b34.2.2 ey34_9) (by decide) ?_
      refine VD.q rfl (q_move rfl) (by decide) ?_
      refine VD.q rfl (q_move rfl) (by decide) ?_
      obtain ⟨b37, hS⟩ := gd_s hS
      obtain ⟨y37_10, ey37_10, hS⟩ := lt_s hS
      refine VD.q rfl (q_sfromE Tryz.underlying9 rfl rfl b37.1 b37.2 ey37_10) (by decide) ?_
      refine VD.q rfl (q_assign rfl) (by decide) ?_
      refine VD.q rfl (q_assign rfl) (by decide) ?_
      refine VD.to (fun _ _ h => h) ?_
      refine VC.keep [2, 3] rfl ?_
      cases hS
      exact VC.ret (fin2 (.inr rfl) rfl rfl rfl () rfl trivial (fun _ _ => trivial) (fun _ _ => trivial))

set_option maxHeartbeats 4000000 in
set_option maxRecDepth 100000 in
theorem rectoref17_Verb_ct (s_0 : Str) {r : Int} (hS : Sh.rectoref17_Verb s_0 = some r) :
    Ct Tryz.prog 15 [str s_0] Mo.tt (Ow.emp) (X := Unit) (fun _ => i64 r) (fun _ => True) (fun _ => Mo.tt) (fun _ => Ow.emp) := by
  refine Ct.of Tryz.func15 rfl (by kernel_rfl) Tryz.ntmps15 (by simp) fun c => ?_
  unfold Sh.rectoref17_Verb at hS
  refine VC.seq ?_
  refine VC.region ?_
  refine VL.q (q_assign rfl) (by decide) ?_
  refine VL.to (fun _ _ h => h) ?_
  refine VC.seq ?_
  refine VC.region ?_
  refine VL.lit (α := Str) (xs := [.const (str [112, 105, 99, 107]), .const (str [114, 101, 119, 111, 114, 100]), .const (str [101, 100, 105, 116]), .const (str [115, 113, 117, 97, 115, 104]), .const (str [102, 105, 120, 117, 112]), .const (str [100, 114, 111, 112])]) (vs := [str [112, 105, 99, 107], str [114, 101, 119, 111, 114, 100], str [101, 100, 105, 116], str [115, 113, 117, 97, 115, 104], str [102, 105, 120, 117, 112], str [100, 114, 111, 112]]) [[112, 105, 99, 107], [114, 101, 119, 111, 114, 100], [101, 100, 105, 116], [115, 113, 117, 97, 115, 104], [102, 105, 120, 117, 112], [100, 114, 111, 112]] Tryz.underlying43 glit9 (by decide) rfl rfl rfl rfl (by decide) (fun _ _ _ _ => trivial) (by decide) (fun s5_1 hs5_1 => ?_) (by decide)
  replace hS := lt_to hs5_1 hS
  refine VL.q (q_assign rfl) (by decide) ?_
  refine VL.to (fun _ _ h => h) ?_
  refine VC.seq ?_
  refine VC.seq ?_
  refine VC.region ?_
  refine VL.q (q_assign rfl) (by decide) ?_
  refine VL.to (fun _ _ h => h) ?_
  refine VC.block ?_
  refine VC.iter (S := Int) (fun (i4_3 : Int) => i4_3) (fun (i4_3 : Int) => [(0, str s_0), (3, s5_1.val), (4, i64 i4_3)]) (fun (i4_3 : Int) => Mo.tt) (fun (i4_3 : Int) => Ow.emp) 0 [0, 3, 4] hS rfl ?_
  clear hS
  rintro i4_3 m1 y1 hS hK1
  show VC _ _ _ _ _ [(0, str s_0), (3, s5_1.val), (4, i64 i4_3)] (Mo.and Mo.tt _) (Ow.emp)
  refine VC.seq ?_
  refine VC.seq ?_
  refine VC.region ?_
  refine VL.q (q_move rfl) (by decide) ?_
  refine VL.q (q_move rfl) (by decide) ?_
  refine VL.q (q_ln (s := s5_1) Tryz.underlying43 rfl) (by decide) ?_
  refine VL.q (q_lss rfl rfl) (by decide) ?_
  refine VL.to (fun _ _ h => h) ?_
  refine VC.cond_dec rfl (fun h9 => ?_) (fun h9 => ?_)
  ·
    replace hS := it_t h9 hS
    refine VC.skip_to (fun _ _ h => h) ?_
    refine VC.seq ?_
    refine VC.block ?_
    refine VC.seq ?_
    refine VC.region ?_
    refine VL.q (q_move rfl) (by decide) ?_
    refine VL.q (q_move rfl) (by decide) ?_
    obtain ⟨z14_4, nz14_4, hz14_4, hS⟩ := at_s hS
    refine VL.q (q_ixm (s := s5_1) Tryz.underlying43 gsz9 rfl rfl nz14_4 (lt_of_get nz14_4 hz14_4)) (by decide) ?_
    refine VL.q (q_el (s := s5_1) gone9 rfl hz14_4 rfl) (by decide) ?_
    refine VL.q (q_move rfl) (by decide) ?_
    refine VL.q (q_seq rfl rfl) (by decide) ?_
    refine VL.to (fun _ _ h => h) ?_
    refine VC.keep [0, 3, 4, 17] rfl ?_
    refine VC.cond_dec rfl (fun h17 => ?_) (fun h17 => ?_)
    ·
      replace hS := it_t h17 hS
      refine VC.seq ?_
      refine VC.region ?_
      refine VL.q (q_move rfl) (by decide) ?_
      refine VL.q (q_assign rfl) (by decide) ?_
      refine VL.to (fun _ _ h => h) ?_
      replace hS := up2 hS hK1
      cases hS
      exact VC.ret (fin1 (.inr rfl) rfl rfl () rfl trivial (fun _ _ => trivial) (fun _ _ => trivial))
    ·
      replace hS := it_f h17 hS
      refine VC.skip_to (fun _ _ h => h) ?_
      refine VC.region ?_
      refine VL.q (q_move rfl) (by decide) ?_
      obtain ⟨b11, hS⟩ := gd_s hS
      refine VL.q (q_add rfl rfl b11) (by decide) ?_
      refine VL.q (q_assign rfl) (by decide) ?_
      refine VL.rnd (i4_3 + 1) [0, 3, 4] (fun _ _ h => h) (go2 hS hK1) rfl
  ·
    replace hS := it_f h9 hS
    replace hS := up2 hS hK1
    refine VC.exit_to (fun _ _ h => h) ?_
    refine VC.seq ?_
    refine VC.region ?_
    refine VL.q (q_assign rfl) (by decide) ?_
    refine VL.to (fun _ _ h => h) ?_
    cases hS
    exact VC.ret (fin1 (.inr rfl) rfl rfl () rfl trivial (fun _ _ => trivial) (fun _ _ => trivial))

set_option maxHeartbeats 4000000 in
set_option maxRecDepth 100000 in
theorem rectoref17_Number_ct (s_0 : Str) {r : Int} (hS : Sh.rectoref17_Number s_0 = some r) :
    Ct Tryz.prog 111 [str s_0] Mo.tt (Ow.emp) (X := Unit) (fun _ => i64 r) (fun _ => True) (fun _ => Mo.tt) (fun _ => Ow.emp) := by
  refine Ct.of Tryz.func111 rfl (by kernel_rfl) Tryz.ntmps111 (by simp) fun c => ?_
  unfold Sh.rectoref17_Number at hS
  refine VC.seq ?_
  refine VC.region ?_
  refine VL.q (q_assign rfl) (by decide) ?_
  refine VL.to (fun _ _ h => h) ?_
  refine VC.seq ?_
  refine VC.cutJ (S := Bool) (fun (x22_1 : Bool) => x22_1) (fun (x22_1 : Bool) => [(0, str s_0), (22, .bool x22_1)]) (fun (x22_1 : Bool) => Mo.tt) (fun (x22_1 : Bool) => Ow.emp) hS ?_ ?_
  · -- up to where ways meet
    clear hS
    intro k2 hS
    refine VC.region ?_
    refine VL.q (q_move rfl) (by decide) ?_
    refine VL.q (q_slen Tryz.underlying9 rfl) (by decide) ?_
    refine VL.q (q_lss rfl rfl) (by decide) ?_
    refine VL.q (q_move rfl) (by decide) ?_
    refine VL.split_dec 8 rfl (fun h8 => ?_) (fun h8 => ?_)
    ·
      replace hS := it_t h8 hS
      refine VL.gn rfl rfl rfl (by decide) ?_
      refine VL.gn rfl rfl rfl (by decide) ?_
      refine VL.gn rfl rfl rfl (by decide) ?_
      refine VL.q (q_pick_t rfl rfl) (by decide) ?_
      refine VL.q (q_move rfl) (by decide) ?_
      refine VL.gn rfl rfl rfl (by decide) ?_
      refine VL.gn rfl rfl rfl (by decide) ?_
      refine VL.gn rfl rfl rfl (by decide) ?_
      refine VL.gn rfl rfl rfl (by decide) ?_
      refine VL.gu rfl rfl (by decide) ?_
      refine VL.gu rfl rfl (by decide) ?_
      refine VL.gu rfl rfl (by decide) ?_
      refine VL.gn rfl rfl rfl (by decide) ?_
      refine VL.q (q_pick_t rfl rfl) (by decide) ?_
      refine VL.mt true [0, 22] (fun _ _ h => h) hS rfl
    ·
      replace hS := it_f h8 hS
      refine VL.gy rfl rfl (q_move rfl) (by decide) ?_
      refine VL.gy rfl rfl (q_slen Tryz.underlying9 rfl) (by decide) ?_
      refine VL.gy rfl rfl (q_gtr rfl rfl) (by decide) ?_
      refine VL.q (q_pick_f rfl rfl) (by decide) ?_
      refine VL.q (q_move rfl) (by decide) ?_
      refine VL.split_dec 13 rfl (fun h13 => ?_) (fun h13 => ?_)
      ·
        replace hS := it_t h13 hS
        refine VL.gn rfl rfl rfl (by decide) ?_
        refine VL.gn rfl rfl rfl (by decide) ?_
        refine VL.gn rfl rfl rfl (by decide) ?_
        refine VL.gn rfl rfl rfl (by decide) ?_
        refine VL.gu rfl rfl (by decide) ?_
        refine VL.gu rfl rfl (by decide) ?_
        refine VL.gu rfl rfl (by decide) ?_
        refine VL.gn rfl rfl rfl (by decide) ?_
        refine VL.q (q_pick_t rfl rfl) (by decide) ?_
        refine VL.mt true [0, 22] (fun _ _ h => h) hS rfl
      ·
        replace hS := it_f h13 hS
        refine VL.gy rfl rfl (q_move rfl) (by decide) ?_
        refine VL.gy rfl rfl (q_slen Tryz.underlying9 rfl) (by decide) ?_
        refine VL.gy rfl rfl (q_gtr rfl rfl) (by decide) ?_
        refine VL.gy rfl rfl (q_move rfl) (by decide) ?_
        refine VL.split_dec 17 rfl (fun h17 => ?_) (fun h17 => ?_)
        ·
          replace hS := it_t h17 hS
          refine VL.gy rfl rfl (q_move rfl) (by decide) ?_
          obtain ⟨z19_3, nz19_3, hz19_3, hS⟩ := at_s hS
          refine VL.gy rfl rfl (q_sidx Tryz.underlying9 rfl rfl nz19_3 hz19_3) (by decide) ?_
          refine VL.gy rfl rfl (q_eql rfl rfl) (by decide) ?_
          refine VL.gy rfl rfl (q_pick_t rfl rfl) (by decide) ?_
          refine VL.q (q_pick_f rfl rfl) (by decide) ?_
          refine VL.mt (decide ((z19_3.toNat : Int) = 48)) [0, 22] (fun _ _ h => h) hS rfl
        ·
          replace hS := it_f h17 hS
          refine VL.gn rfl rfl rfl (by decide) ?_
          refine VL.gn rfl rfl rfl (by decide) ?_
          refine VL.gn rfl rfl rfl (by decide) ?_
          refine VL.gy rfl rfl (q_pick_f rfl rfl) (by decide) ?_
          refine VL.q (q_pick_f rfl rfl) (by decide) ?_
          refine VL.mt false [0, 22] (fun _ _ h => h) hS rfl
  · -- from there
    clear hS
    rintro x22_1 hS
    show VC _ _ _ _ _ [(0, str s_0), (22, .bool x22_1)] (Mo.and Mo.tt _) (Ow.emp)
    refine VC.cond rfl (fun h22 => ?_) (fun h22 => ?_)
    ·
      replace hS := it_t h22 hS
      refine VC.seq ?_
      refine VC.region ?_
      refine VL.q (q_assign rfl) (by decide) ?_
      refine VL.to (fun _ _ h => h) ?_
      cases hS
      exact VC.ret (fin1 (.inr rfl) rfl rfl () rfl trivial (fun _ _ => trivial) (fun _ _ => trivial))
    ·
      replace hS := it_b h22 hS
      refine VC.skip_to (fun _ _ h => h) ?_
      refine VC.seq ?_
      refine VC.region ?_
      refine VL.q (q_assign rfl) (by decide) ?_
      refine VL.to (fun _ _ h => h) ?_
      refine VC.seq ?_
      refine VC.seq ?_
      refine VC.region ?_
      refine VL.q (q_assign rfl) (by decide) ?_
      refine VL.to (fun _ _ h => h) ?_
      refine VC.block ?_
      refine VC.iter (S := Int × Int) (fun sg => (sg.1, sg.2)) (fun sg => [(0, str s_0), (3, i64 sg.1), (4, i64 sg.2)]) (fun sg => Mo.tt) (fun sg => Ow.emp) (0, 0) [0, 3, 4] hS rfl ?_
      clear hS
      rintro ⟨n3_4, i4_5⟩ m1 y1 hS hK1
      show VC _ _ _ _ _ [(0, str s_0), (3, i64 n3_4), (4, i64 i4_5)] (Mo.and Mo.tt _) (Ow.emp)
      refine VC.seq ?_
      refine VC.seq ?_
      refine VC.region ?_
      refine VL.q (q_move rfl) (by decide) ?_
      refine VL.q (q_move rfl) (by decide) ?_
      refine VL.q (q_slen Tryz.underlying9 rfl) (by decide) ?_
      refine VL.q (q_lss rfl rfl) (by decide) ?_
      refine VL.to (fun _ _ h => h) ?_
      refine VC.cond_dec rfl (fun h26 => ?_) (fun h26 => ?_)
      ·
        replace hS := it_t h26 hS
        refine VC.skip_to (fun _ _ h => h) ?_
        refine VC.seq ?_
        refine VC.block ?_
        refine VC.seq ?_
        refine VC.cutJ (S := Bool) (fun (x38_6 : Bool) => x38_6) (fun (x38_6 : Bool) => [(0, str s_0), (3, i64 n3_4), (4, i64 i4_5), (38, .bool x38_6)]) (fun (x38_6 : Bool) => Mo.tt) (fun (x38_6 : Bool) => Ow.emp) hS ?_ ?_
        · -- up to where ways meet
          clear hS
          intro k7 hS
          refine VC.region ?_
          refine VL.q (q_move rfl) (by decide) ?_
          refine VL.q (q_move rfl) (by decide) ?_
          obtain ⟨z31_8, nz31_8, hz31_8, hS⟩ := at_s hS
          refine VL.q (q_sidx Tryz.underlying9 rfl rfl nz31_8 hz31_8) (by decide) ?_
          refine VL.q (q_lss rfl rfl) (by decide) ?_
          refine VL.q (q_move rfl) (by decide) ?_
          refine VL.split_dec 33 rfl (fun h33 => ?_) (fun h33 => ?_)
          ·
            replace hS := it_t h33 hS
            refine VL.gn rfl rfl rfl (by decide) ?_
            refine VL.gn rfl rfl rfl (by decide) ?_
            refine VL.gn rfl rfl rfl (by decide) ?_
            refine VL.gn rfl rfl rfl (by decide) ?_
            refine VL.q (q_pick_t rfl rfl) (by decide) ?_
            refine VL.mt true [0, 3, 4, 38] (fun _ _ h => h) hS rfl
          ·
            replace hS := it_f h33 hS
            refine VL.gy rfl rfl (q_move rfl) (by decide) ?_
            refine VL.gy rfl rfl (q_move rfl) (by decide) ?_
            obtain ⟨z36_9, nz36_9, hz36_9, hS⟩ := at_s hS
            refine VL.gy rfl rfl (q_sidx Tryz.underlying9 rfl rfl nz36_9 hz36_9) (by decide) ?_
            refine VL.gy rfl rfl (q_gtr rfl rfl) (by decide) ?_
            refine VL.q (q_pick_f rfl rfl) (by decide) ?_
            refine VL.mt (decide (57 < (z36_9.toNat : Int))) [0, 3, 4, 38] (fun _ _ h => h) hS rfl
        · -- from there
          clear hS
          rintro x38_6 hS
          show VC _ _ _ _ _ [(0, str s_0), (3, i64 n3_4), (4, i64 i4_5), (38, .bool x38_6)] (Mo.and Mo.tt _) (Ow.emp)
          refine VC.cond rfl (fun h38 => ?_) (fun h38 => ?_)
          ·
            replace hS := it_t h38 hS
            refine VC.seq ?_
            refine VC.region ?_
            refine VL.q (q_assign rfl) (by decide) ?_
            refine VL.to (fun _ _ h => h) ?_
            replace hS := up2 hS hK1
            cases hS
            exact VC.ret (fin1 (.inr rfl) rfl rfl () rfl trivial (fun _ _ => trivial) (fun _ _ => trivial))
          ·
            replace hS := it_b h38 hS
            refine VC.skip_to (fun _ _ h => h) ?_
            refine VC.region ?_
            refine VL.q (q_move rfl) (by decide) ?_
            obtain ⟨b40, hS⟩ := gd_s hS
            refine VL.q (q_mul rfl rfl b40) (by decide) ?_
            refine VL.q (q_move rfl) (by decide) ?_
            refine VL.q (q_move rfl) (by decide) ?_
            obtain ⟨z43_10, nz43_10, hz43_10, hS⟩ := at_s hS
            refine VL.q (q_sidx Tryz.underlying9 rfl rfl nz43_10 hz43_10) (by decide) ?_
            obtain ⟨b44, hS⟩ := gd_s hS
            refine VL.q (q_subW rfl rfl (wu8_in b44)) (by decide) ?_
            refine VL.q (q_convW Tryz.underlying5 Tryz.underlying3 rfl) (by decide) ?_
            obtain ⟨b46, hS⟩ := gd_s hS
            refine VL.q (q_add rfl rfl b46) (by decide) ?_
            refine VL.q (q_assign rfl) (by decide) ?_
            refine VL.to (fun _ _ h => h) ?_
            refine VC.keep [0, 3, 4] rfl ?_
            refine VC.region ?_
            refine VL.q (q_move rfl) (by decide) ?_
            obtain ⟨b28, hS⟩ := gd_s hS
            refine VL.q (q_add rfl rfl b28) (by decide) ?_
            refine VL.q (q_assign rfl) (by decide) ?_
            refine VL.rnd (((10 * n3_4) + (IntKind.wrap .i64 ((z43_10.toNat : Int) - 48))), (i4_5 + 1)) [0, 3, 4] (fun _ _ h => h) (go2 hS hK1) rfl
      ·
        replace hS := it_f h26 hS
        replace hS := up2 hS hK1
        refine VC.exit_to (fun _ _ h => h) ?_
        refine VC.seq ?_
        refine VC.seq ?_
        refine VC.region ?_
        refine VL.q (q_move rfl) (by decide) ?_
        refine VL.q (q_gtr rfl rfl) (by decide) ?_
        refine VL.to (fun _ _ h => h) ?_
        refine VC.cond_dec rfl (fun h48 => ?_) (fun h48 => ?_)
        ·
          replace hS := it_t h48 hS
          refine VC.seq ?_
          refine VC.region ?_
          refine VL.q (q_assign rfl) (by decide) ?_
          refine VL.to (fun _ _ h => h) ?_
          cases hS
          exact VC.ret (fin1 (.inr rfl) rfl rfl () rfl trivial (fun _ _ => trivial) (fun _ _ => trivial))
        ·
          replace hS := it_f h48 hS
          refine VC.skip_to (fun _ _ h => h) ?_
          refine VC.seq ?_
          refine VC.region ?_
          refine VL.q (q_move rfl) (by decide) ?_
          refine VL.q (q_assign rfl) (by decide) ?_
          refine VL.to (fun _ _ h => h) ?_
          refine VC.keep [2] rfl ?_
          cases hS
          exact VC.ret (fin1 (.inr rfl) rfl rfl () rfl trivial (fun _ _ => trivial) (fun _ _ => trivial))

set_option maxHeartbeats 4000000 in
set_option maxRecDepth 100000 in
theorem rectoref17_blank_ct (s_0 : Str) {r : Bool} (hS : Sh.rectoref17_blank s_0 = some r) :
    Ct Tryz.prog 112 [str s_0] Mo.tt (Ow.emp) (X := Unit) (fun _ => .bool r) (fun _ => True) (fun _ => Mo.tt) (fun _ => Ow.emp) := by
  refine Ct.of Tryz.func112 rfl (by kernel_rfl) Tryz.ntmps112 (by simp) fun c => ?_
  unfold Sh.rectoref17_blank at hS
  refine VC.seq ?_
  refine VC.region ?_
  refine VL.q (q_assign rfl) (by decide) ?_
  refine VL.to (fun _ _ h => h) ?_
  refine VC.seq ?_
  refine VC.region ?_
  refine VL.q (q_move rfl) (by decide) ?_
  obtain ⟨y7_1, ey7_1, hS⟩ := bd_s hS
  refine VL.q (q_call (rectoref17_word_ct s_0 ey7_1) rfl (fun _ _ => rfl)) (by decide) ?_
  refine VL.q (q_move rfl) (by decide) ?_
  refine VL.q (q_extract rfl rfl) (by decide) ?_
  refine VL.q (q_extract rfl rfl) (by decide) ?_
  refine VL.q (q_assign rfl) (by decide) ?_
  refine VL.q (q_assign rfl) (by decide) ?_
  refine VL.to (fun _ _ h => h) ?_
  refine VC.seq ?_
  refine VC.region ?_
  refine VL.q (q_move rfl) (by decide) ?_
  refine VL.q (q_seq rfl rfl) (by decide) ?_
  refine VL.q (q_assign rfl) (by decide) ?_
  refine VL.to (fun _ _ h => h) ?_
  refine VC.keep [2] rfl ?_
  cases hS
  exact VC.ret (fin1 (.inr rfl) rfl rfl () rfl trivial (fun _ _ => trivial) (fun _ _ => trivial))

end Go.Proofs.YtnkoilkmnpmlmaaGreatDoor
end
