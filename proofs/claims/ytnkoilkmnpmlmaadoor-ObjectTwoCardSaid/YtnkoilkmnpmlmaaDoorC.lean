/- Part of the proofs of: Two objects are the same just if all that their kind names is, for any two objects. -/
import Derived.Test.YtnkoilkmnpmlmaaDoorRows
import Derived.Test.YtnkoilkmnpmlmaaDoorB
set_option linter.unusedVariables false
set_option linter.unusedSimpArgs false
set_option linter.unusedSectionVars false
section
set_option linter.unusedVariables false
namespace Go.Proofs.YtnkoilkmnpmlmaaDoor
open Go.RowKit Go.V
open Go.S hiding Str
theorem mixed : Tryd.prog.follows .mixedOrders = true := by kernel_rfl
theorem gszb : (Tryd.prog.info? 101).map (·.size) = some 2 := by kernel_rfl
theorem gappb : ((Tryd.prog.info? 5).map fun i => (i.size, i.bytes, i.zero)) = some (1, 1, some (.int .u8 0)) := by kernel_rfl
theorem gfa101_0 : FieldAt Tryd.prog 101 0 0 := fieldAt_sz (n := 0) (f := ⟨_, _, 0, _, _, _, _⟩) Tryd.underlying101 rfl (by kernel_rfl)
theorem gfa101_1 : FieldAt Tryd.prog 101 1 1 := fieldAt_sz (n := 0) (f := ⟨_, _, 1, _, _, _, _⟩) Tryd.underlying101 rfl (by kernel_rfl)
theorem gone99 : OneCell Tryd.prog 99 := oneCell_of Tryd.underlying99 rfl
theorem gone22 : OneCell Tryd.prog 22 := oneCell_of Tryd.underlying22 rfl
theorem gsz99 : (Tryd.prog.info? 99).map (·.size) = some 1 := by kernel_rfl
theorem gsz22 : (Tryd.prog.info? 22).map (·.size) = some 1 := by kernel_rfl
theorem glit82 : ((Tryd.prog.info? 82).map fun i => (i.size, i.zero.isSome)) = some (3, true) := by kernel_rfl
theorem gsz26 : (Tryd.prog.info? 26).map (·.size) = some 7 := by kernel_rfl
theorem gagg26 : AggOf Tryd.prog 26 7 := aggOf_of Tryd.underlying26 rfl (by kernel_rfl)
theorem gfa26_0 : FieldAt Tryd.prog 26 0 0 := fieldAt_sz (n := 0) (f := ⟨_, _, 0, _, _, _, _⟩) Tryd.underlying26 rfl (by kernel_rfl)
theorem gone3 : OneCell Tryd.prog 3 := oneCell_of Tryd.underlying3 rfl
theorem gfa26_1 : FieldAt Tryd.prog 26 1 1 := fieldAt_sz (n := 0) (f := ⟨_, _, 1, _, _, _, _⟩) Tryd.underlying26 rfl (by kernel_rfl)
theorem gfa26_2 : FieldAt Tryd.prog 26 2 2 := fieldAt_sz (n := 0) (f := ⟨_, _, 2, _, _, _, _⟩) Tryd.underlying26 rfl (by kernel_rfl)
theorem gone23 : OneCell Tryd.prog 23 := oneCell_of Tryd.underlying23 rfl
theorem gsz82 : (Tryd.prog.info? 82).map (·.size) = some 3 := by kernel_rfl
theorem gagg82 : AggOf Tryd.prog 82 3 := aggOf_of Tryd.underlying82 rfl (by kernel_rfl)
theorem gfa82_0 : FieldAt Tryd.prog 82 0 0 := fieldAt_sz (n := 0) (f := ⟨_, _, 0, _, _, _, _⟩) Tryd.underlying82 rfl (by kernel_rfl)
theorem gone9 : OneCell Tryd.prog 9 := oneCell_of Tryd.underlying9 rfl
theorem gmk9 : ((Tryd.prog.info? 9).map fun i => (i.size, i.bytes, i.zero.map fun z => z.cells.toList)) = some (1, 16, some [str []]) := by kernel_rfl
theorem gsz9 : (Tryd.prog.info? 9).map (·.size) = some 1 := by kernel_rfl
theorem gsz5 : (Tryd.prog.info? 5).map (·.size) = some 1 := by kernel_rfl
theorem gone5 : OneCell Tryd.prog 5 := oneCell_of Tryd.underlying5 rfl
theorem gfa82_1 : FieldAt Tryd.prog 82 1 1 := fieldAt_sz (n := 0) (f := ⟨_, _, 1, _, _, _, _⟩) Tryd.underlying82 rfl (by kernel_rfl)
theorem gfa82_2 : FieldAt Tryd.prog 82 2 2 := fieldAt_sz (n := 0) (f := ⟨_, _, 2, _, _, _, _⟩) Tryd.underlying82 rfl (by kernel_rfl)
theorem gfa26_4 : FieldAt Tryd.prog 26 4 4 := fieldAt_sz (n := 0) (f := ⟨_, _, 4, _, _, _, _⟩) Tryd.underlying26 rfl (by kernel_rfl)
theorem gone24 : OneCell Tryd.prog 24 := oneCell_of Tryd.underlying24 rfl
theorem gfa26_3 : FieldAt Tryd.prog 26 3 3 := fieldAt_sz (n := 0) (f := ⟨_, _, 3, _, _, _, _⟩) Tryd.underlying26 rfl (by kernel_rfl)
theorem gsz3 : (Tryd.prog.info? 3).map (·.size) = some 1 := by kernel_rfl
theorem gfa26_5 : FieldAt Tryd.prog 26 5 5 := fieldAt_sz (n := 0) (f := ⟨_, _, 5, _, _, _, _⟩) Tryd.underlying26 rfl (by kernel_rfl)
theorem gfa26_6 : FieldAt Tryd.prog 26 6 6 := fieldAt_sz (n := 0) (f := ⟨_, _, 6, _, _, _, _⟩) Tryd.underlying26 rfl (by kernel_rfl)
theorem glit3 : ((Tryd.prog.info? 3).map fun i => (i.size, i.zero.isSome)) = some (1, true) := by kernel_rfl
theorem gfa135_0 : FieldAt Tryd.prog 135 0 0 := fieldAt_sz (n := 0) (f := ⟨_, _, 0, _, _, _, _⟩) Tryd.underlying135 rfl (by kernel_rfl)
theorem glit5 : ((Tryd.prog.info? 5).map fun i => (i.size, i.zero.isSome)) = some (1, true) := by kernel_rfl
theorem gapp5 : ((Tryd.prog.info? 5).map fun i => (i.size, i.bytes, (i.zero.map fun z => z.cells.size))) = some (1, 1, some 1) := by kernel_rfl
theorem glit9 : ((Tryd.prog.info? 9).map fun i => (i.size, i.zero.isSome)) = some (1, true) := by kernel_rfl
theorem gapb5 : ((Tryd.prog.info? 5).map fun i => (i.size, i.bytes, i.zero)) = some (1, 1, some (.int .u8 0)) := by kernel_rfl
theorem ghas5 : ((Tryd.prog.info? 5).map (·.size)).isSome = true := by kernel_rfl
theorem glit22 : ((Tryd.prog.info? 22).map fun i => (i.size, i.zero.isSome)) = some (1, true) := by kernel_rfl
theorem gmk5 : ((Tryd.prog.info? 5).map fun i => (i.size, i.bytes, i.zero.map fun z => z.cells.toList)) = some (1, 1, some [.int .u8 0]) := by kernel_rfl
theorem gfa145_0 : FieldAt Tryd.prog 145 0 0 := fieldAt_sz (n := 0) (f := ⟨_, _, 0, _, _, _, _⟩) Tryd.underlying145 rfl (by kernel_rfl)
theorem gone142 : OneCell Tryd.prog 142 := oneCell_of Tryd.underlying142 rfl
theorem gfa187_2 : FieldAt Tryd.prog 187 2 2 := fieldAt_sz (n := 0) (f := ⟨_, _, 2, _, _, _, _⟩) Tryd.underlying187 rfl (by kernel_rfl)
theorem gone44 : OneCell Tryd.prog 44 := oneCell_of Tryd.underlying44 rfl
theorem gfa187_1 : FieldAt Tryd.prog 187 1 1 := fieldAt_sz (n := 0) (f := ⟨_, _, 1, _, _, _, _⟩) Tryd.underlying187 rfl (by kernel_rfl)
theorem gfa187_0 : FieldAt Tryd.prog 187 0 0 := fieldAt_sz (n := 0) (f := ⟨_, _, 0, _, _, _, _⟩) Tryd.underlying187 rfl (by kernel_rfl)
theorem gsz44 : (Tryd.prog.info? 44).map (·.size) = some 1 := by kernel_rfl
theorem gfa145_1 : FieldAt Tryd.prog 145 1 1 := fieldAt_sz (n := 0) (f := ⟨_, _, 1, _, _, _, _⟩) Tryd.underlying145 rfl (by kernel_rfl)
theorem gsz4 : (Tryd.prog.info? 4).map (·.size) = some 1 := by kernel_rfl
theorem gapp82 : ((Tryd.prog.info? 82).map fun i => (i.size, i.bytes, (i.zero.map fun z => z.cells.size))) = some (3, 32, some 3) := by kernel_rfl
theorem gsz23 : (Tryd.prog.info? 23).map (·.size) = some 1 := by kernel_rfl
theorem gapp3 : ((Tryd.prog.info? 3).map fun i => (i.size, i.bytes, (i.zero.map fun z => z.cells.size))) = some (1, 8, some 1) := by kernel_rfl
theorem gsz24 : (Tryd.prog.info? 24).map (·.size) = some 1 := by kernel_rfl
theorem gone4 : OneCell Tryd.prog 4 := oneCell_of Tryd.underlying4 rfl
theorem geqs82 : ∀ (x0 : List UInt8) (x1 : Int) (x2 : Int) (y0 : List UInt8) (y1 : Int) (y2 : Int) (w : World), (Op.equalIn 10000 82 (.agg #[str x0, i64 x1, i64 x2]) (.agg #[str y0, i64 y1, i64 y2])).run Tryd.prog w = .ok (decide (x0 = y0 ∧ x1 = y1 ∧ x2 = y2)) w := by
  intro x0 x1 x2 y0 y1 y2 w
  have hS : Tryd.prog.underlying 82 = some (.struct (Tryd.prog.fieldsOf 82)) := by kernel_rfl
  rw [show (10000 : Nat) = 9999 + 1 from rfl, run_equalIn_agg w 9999 82 _ _ hS (by kernel_rfl)]
  simp only [Program.fieldsOf, Tryd.underlying82]
  go_simp
  by_cases h0 : x0 = y0 <;> by_cases h1 : x1 = y1 <;> by_cases h2 : x2 = y2 <;> simp [h0, h1, h2]
theorem geqg82 : Tryd.prog.eqGuardType Tryd.prog.depth 82 = false := by kernel_rfl
theorem gsz33 : (Tryd.prog.info? 33).map (·.size) = some 7 := by kernel_rfl
theorem gfa33_2 : FieldAt Tryd.prog 33 2 2 := fieldAt_sz (n := 0) (f := ⟨_, _, 2, _, _, _, _⟩) Tryd.underlying33 rfl (by kernel_rfl)
theorem gone31 : OneCell Tryd.prog 31 := oneCell_of Tryd.underlying31 rfl
theorem glit91 : ((Tryd.prog.info? 91).map fun i => (i.size, i.zero.isSome)) = some (3, true) := by kernel_rfl
theorem gapp91 : ((Tryd.prog.info? 91).map fun i => (i.size, i.bytes, (i.zero.map fun z => z.cells.size))) = some (3, 32, some 3) := by kernel_rfl
theorem gsz31 : (Tryd.prog.info? 31).map (·.size) = some 1 := by kernel_rfl
theorem gagg33 : AggOf Tryd.prog 33 7 := aggOf_of Tryd.underlying33 rfl (by kernel_rfl)
theorem gfa33_0 : FieldAt Tryd.prog 33 0 0 := fieldAt_sz (n := 0) (f := ⟨_, _, 0, _, _, _, _⟩) Tryd.underlying33 rfl (by kernel_rfl)
theorem gfa33_1 : FieldAt Tryd.prog 33 1 1 := fieldAt_sz (n := 0) (f := ⟨_, _, 1, _, _, _, _⟩) Tryd.underlying33 rfl (by kernel_rfl)
theorem gsz91 : (Tryd.prog.info? 91).map (·.size) = some 3 := by kernel_rfl
theorem gagg91 : AggOf Tryd.prog 91 3 := aggOf_of Tryd.underlying91 rfl (by kernel_rfl)
theorem geqs91 : ∀ (x0 : List UInt8) (x1 : Int) (x2 : Int) (y0 : List UInt8) (y1 : Int) (y2 : Int) (w : World), (Op.equalIn 10000 91 (.agg #[str x0, i64 x1, i64 x2]) (.agg #[str y0, i64 y1, i64 y2])).run Tryd.prog w = .ok (decide (x0 = y0 ∧ x1 = y1 ∧ x2 = y2)) w := by
  intro x0 x1 x2 y0 y1 y2 w
  have hS : Tryd.prog.underlying 91 = some (.struct (Tryd.prog.fieldsOf 91)) := by kernel_rfl
  rw [show (10000 : Nat) = 9999 + 1 from rfl, run_equalIn_agg w 9999 91 _ _ hS (by kernel_rfl)]
  simp only [Program.fieldsOf, Tryd.underlying91]
  go_simp
  by_cases h0 : x0 = y0 <;> by_cases h1 : x1 = y1 <;> by_cases h2 : x2 = y2 <;> simp [h0, h1, h2]
theorem geqg91 : Tryd.prog.eqGuardType Tryd.prog.depth 91 = false := by kernel_rfl
theorem gfa33_3 : FieldAt Tryd.prog 33 3 3 := fieldAt_sz (n := 0) (f := ⟨_, _, 3, _, _, _, _⟩) Tryd.underlying33 rfl (by kernel_rfl)
theorem gfa33_4 : FieldAt Tryd.prog 33 4 4 := fieldAt_sz (n := 0) (f := ⟨_, _, 4, _, _, _, _⟩) Tryd.underlying33 rfl (by kernel_rfl)
theorem gfa33_5 : FieldAt Tryd.prog 33 5 5 := fieldAt_sz (n := 0) (f := ⟨_, _, 5, _, _, _, _⟩) Tryd.underlying33 rfl (by kernel_rfl)
theorem gfa33_6 : FieldAt Tryd.prog 33 6 6 := fieldAt_sz (n := 0) (f := ⟨_, _, 6, _, _, _, _⟩) Tryd.underlying33 rfl (by kernel_rfl)
set_option maxRecDepth 100000 in
theorem copyCheck_ct (b : Nat) (p u : Value) (hp : p = .pointer none ∨ p = ptr b 0) (hu : u.oneCell' = true) : Ct Tryd.prog 94 [ptr b 0] Mo.tt (Blk b [p, u] 101) (X := Unit) (fun _ => .tuple #[]) (fun _ => True) (fun _ => Mo.tt) (fun _ => Blk b [ptr b 0, u] 101) := by
  refine Ct.of Tryd.func94 rfl (by kernel_rfl) Tryd.ntmps94 (by simp) fun c => ?_
  rcases hp with rfl | rfl
  · refine VC.seq ?_
    refine VC.region ?_
    refine VL.q (q_move rfl) (by decide) ?_
    refine VL.q (q_nilCheck rfl) (by decide) ?_
    refine VL.q (q_field gfa101_0 rfl) (by decide) ?_
    refine VL.q (q_fe gone99 rfl rfl) (by decide) ?_
    refine VL.q (q_peqn Tryd.underlying99 rfl) (by decide) ?_
    refine VL.to (fun _ _ h => h) ?_
    refine VC.cond_t rfl ?_
    refine VC.region ?_
    refine VL.q (q_move rfl) (by decide) ?_
    refine VL.q (q_move rfl) (by decide) ?_
    refine VL.q (q_tou (n := 1) Tryd.underlying99 Tryd.underlying191 gszb rfl (by simp)) (by decide) ?_
    refine VL.q (q_noEscape Tryd.func132 rfl rfl (by kernel_rfl) (by kernel_rfl) rfl) (by decide) ?_
    refine VL.q (q_fromu (n := 2) (cs := [.pointer none, u]) Tryd.underlying191 Tryd.underlying99 gszb rfl (by kernel_rfl)) (by decide) ?_
    refine VL.q (q_nilCheck rfl) (by decide) ?_
    refine VL.q (q_field gfa101_0 rfl) (by decide) ?_
    refine VL.store (vc := [ptr b 0]) (cs' := [ptr b 0, u]) rfl rfl rfl gsz99 rfl rfl (Nat.le_of_ble_eq_true rfl) rfl ?_
    exact VL.nil (fin0 (.inl rfl) rfl () rfl trivial (fun _ _ => trivial) (by exact EntO.out))
  · refine VC.seq ?_
    refine VC.region ?_
    refine VL.q (q_move rfl) (by decide) ?_
    refine VL.q (q_nilCheck rfl) (by decide) ?_
    refine VL.q (q_field gfa101_0 rfl) (by decide) ?_
    refine VL.q (q_fe gone99 rfl rfl) (by decide) ?_
    refine VL.q (q_peqn Tryd.underlying99 rfl) (by decide) ?_
    refine VL.to (fun _ _ h => h) ?_
    refine VC.cond_f rfl ?_
    refine VC.seq ?_
    refine VC.region ?_
    refine VL.q (q_move rfl) (by decide) ?_
    refine VL.q (q_nilCheck rfl) (by decide) ?_
    refine VL.q (q_field gfa101_0 rfl) (by decide) ?_
    refine VL.q (q_fe gone99 rfl rfl) (by decide) ?_
    refine VL.q (q_move rfl) (by decide) ?_
    refine VL.q (q_pne Tryd.underlying99 gszb rfl rfl) (by decide) ?_
    refine VL.to (fun _ _ h => h) ?_
    refine VC.cond_f rfl ?_
    exact VC.skip (fin0 (.inl rfl) rfl () rfl trivial (fun _ _ => trivial) (by exact EntO.out))

set_option maxRecDepth 100000 in
theorem writeString_ct (b : Nat) (l s : Str) (hb : l.length + s.length ≤ 4294967296) : Ct Tryd.prog 51 [ptr b 0, str s] Mo.tt (Bd 101 5 b l) (X := Unit) (fun _ => .tuple #[i64 s.length, .nilIface]) (fun _ => True) (fun _ => Mo.tt) (fun _ => Bd 101 5 b (l ++ s)) := by
  refine Ct.monoE (E1 := fun z => ∃ q : Value × Sv UInt8, ((q.1 = .pointer none ∨ q.1 = ptr b 0) ∧ q.2.l = l ∧ (q.2.c = 0 → q.2.a = none)) ∧ Ow.star (Blk b [q.1, q.2.val] 101) (q.2.own 5) z) (Ct.exE (entry_of Tryd.func51 rfl (by kernel_rfl)) ?_) (fun z ⟨p, q, h1, h2, h3, h4⟩ => ⟨(p, q), ⟨h1, h2, h3⟩, h4⟩)
  rintro ⟨p, q⟩ ⟨hp, hl, hc⟩
  dsimp only at hp hl hc ⊢
  refine Ct.of Tryd.func51 rfl (by kernel_rfl) Tryd.ntmps51 (by simp) fun c => ?_
  refine VC.seq ?_
  refine VC.region ?_
  refine VL.q (q_assign rfl) (by decide) ?_
  refine VL.q (q_assign rfl) (by decide) ?_
  refine VL.to (fun _ _ h => h) ?_
  refine VC.seq ?_
  refine VC.region ?_
  refine VL.q (q_move rfl) (by decide) ?_
  refine VL.callO (copyCheck_ct b p q.val hp rfl) rfl (by decide) ?_
  rintro _ _
  refine VL.to (fun _ _ h => h) ?_
  refine VC.seq ?_
  refine VC.region ?_
  refine VL.q (q_move rfl) (by decide) ?_
  refine VL.q (q_move rfl) (by decide) ?_
  refine VL.q (q_nilCheck rfl) (by decide) ?_
  refine VL.q (q_field gfa101_1 rfl) (by decide) ?_
  refine VL.q (q_fe gone22 rfl rfl) (by decide) ?_
  refine VL.q (q_move rfl) (by decide) ?_
  refine VL.appS (s := q) (r := s) Tryd.underlying22 Tryd.underlying9 gappb rfl Fo.out (by rw [hl]; exact hb) (by decide) fun q2 hq2 hc2 => ?_
  refine VL.q (q_nilCheck rfl) (by decide) ?_
  refine VL.q (q_field gfa101_1 rfl) (by decide) ?_
  refine VL.store (vc := [q2.val]) (cs' := [ptr b 0, q2.val]) rfl rfl rfl gsz22 rfl rfl (Nat.le_of_ble_eq_true rfl) rfl ?_
  refine VL.to (fun _ _ h => h) ?_
  refine VC.seq ?_
  refine VC.region ?_
  refine VL.q (q_move rfl) (by decide) ?_
  refine VL.q (q_slen Tryd.underlying9 rfl) (by decide) ?_
  refine VL.q (q_assign rfl) (by decide) ?_
  refine VL.q (q_assign rfl) (by decide) ?_
  refine VL.to (fun _ _ h => h) ?_
  exact VC.ret (fin2 (.inr rfl) rfl rfl rfl () rfl trivial (fun _ _ => trivial) (fun z hz => Bd.mk (p := ptr b 0) (s := q2) (.inr rfl) (by rw [hq2, hl]) (hc2 hc) ((EntO.out (E' := Ow.star (Blk b [ptr b 0, q2.val] 101) (q2.own 5))) z hz)))

set_option maxRecDepth 100000 in
theorem string_ct (b : Nat) (l : Str) : Ct Tryd.prog 53 [ptr b 0] Mo.tt (Bd 101 5 b l) (X := Unit) (fun _ => str l) (fun _ => True) (fun _ => Mo.tt) (fun _ => Ow.emp) := by
  refine Ct.monoE (E1 := fun z => ∃ q : Value × Sv UInt8, ((q.1 = .pointer none ∨ q.1 = ptr b 0) ∧ q.2.l = l ∧ (q.2.c = 0 → q.2.a = none)) ∧ Ow.star (Blk b [q.1, q.2.val] 101) (q.2.own 5) z) (Ct.exE (entry_of Tryd.func53 rfl (by kernel_rfl)) ?_) (fun z ⟨p, q, h1, h2, h3, h4⟩ => ⟨(p, q), ⟨h1, h2, h3⟩, h4⟩)
  rintro ⟨p, q⟩ ⟨hp, rfl, hc⟩
  dsimp only at hp hc ⊢
  refine Ct.of Tryd.func53 rfl (by kernel_rfl) Tryd.ntmps53 (by simp) fun c => ?_
  refine VC.seq ?_
  refine VC.region ?_
  refine VL.q (q_assign rfl) (by decide) ?_
  refine VL.to (fun _ _ h => h) ?_
  refine VC.seq ?_
  refine VC.draw [(0, true), (1, true), (2, true), (3, true), (4, true), (5, true), (6, true), (7, true), (8, true), (9, true), (10, false), (11, true)] mixed (by kernel_rfl) (by kernel_rfl) (by kernel_rfl) ?_
  refine VD.q rfl (q_move rfl) (by decide) ?_
  refine VD.q rfl (q_nilCheck rfl) (by decide) ?_
  refine VD.q rfl (q_field gfa101_1 rfl) (by decide) ?_
  refine VD.q rfl (q_fe gone22 rfl rfl) (by decide) ?_
  refine VD.q rfl (q_sdata (s := q) rfl hc) (by decide) ?_
  refine VD.q rfl (q_move rfl) (by decide) ?_
  refine VD.q rfl (q_nilCheck rfl) (by decide) ?_
  refine VD.q rfl (q_field gfa101_1 rfl) (by decide) ?_
  refine VD.q rfl (q_fe gone22 rfl rfl) (by decide) ?_
  refine VD.q rfl (q_ln (s := q) Tryd.underlying22 rfl) (by decide) ?_
  refine VD.one rfl ?_
  refine VL.ustr (s := q) (e := 5) rfl Fo.out (by decide) (fun w h z o l k m => St.ustr (e := 5) Tryd.underlying155 (by kernel_rfl) o l k m) ?_
  refine VL.back (D' := []) (by kernel_rfl) Pend.nil ?_
  refine VD.q rfl (q_assign rfl) (by decide) ?_
  refine VD.to (fun _ _ h => h) ?_
  exact VC.ret (fin1 (.inr rfl) rfl rfl () rfl trivial (fun _ _ => trivial) (fun _ _ => trivial))

set_option maxHeartbeats 4000000 in
set_option maxRecDepth 100000 in
theorem unicode_utf8_RuneCountInString_ct (s_0 : Str) {r : Int} (hS : Sh.unicode_utf8_RuneCountInString s_0 = some r) :
    Ct Tryd.prog 163 [str s_0] Mo.tt (Ow.emp) (X := Unit) (fun _ => i64 r) (fun _ => True) (fun _ => Mo.tt) (fun _ => Ow.emp) := by
  refine Ct.of Tryd.func163 rfl (by kernel_rfl) Tryd.ntmps163 (by simp) fun c => ?_
  unfold Sh.unicode_utf8_RuneCountInString at hS
  refine VC.seq ?_
  refine VC.region ?_
  refine VL.q (q_assign rfl) (by decide) ?_
  refine VL.to (fun _ _ h => h) ?_
  refine VC.seq ?_
  refine VC.seq ?_
  refine VC.region ?_
  refine VL.q (q_move rfl) (by decide) ?_
  cases hS

set_option maxHeartbeats 4000000 in
set_option maxRecDepth 100000 in
theorem unicode_utf8_decodeRuneInStringSlow_ct (a_0 : Str) {r : Int × Int} (hS : Sh.unicode_utf8_decodeRuneInStringSlow a_0 = some r) :
    Ct Tryd.prog 166 [str a_0] Mo.tt (Ow.emp) (X := Unit) (fun _ => .tuple #[.int .i32 r.1, i64 r.2]) (fun _ => True) (fun _ => Mo.tt) (fun _ => Ow.emp) := by
  refine Ct.of Tryd.func166 rfl (by kernel_rfl) Tryd.ntmps166 (by simp) fun c => ?_
  unfold Sh.unicode_utf8_decodeRuneInStringSlow at hS
  refine VC.seq ?_
  refine VC.region ?_
  refine VL.q (q_assign rfl) (by decide) ?_
  refine VL.q (q_assign rfl) (by decide) ?_
  refine VL.to (fun _ _ h => h) ?_
  refine VC.seq ?_
  refine VC.region ?_
  refine VL.q (q_move rfl) (by decide) ?_
  refine VL.q (q_slen Tryd.underlying9 rfl) (by decide) ?_
  refine VL.q (q_assign rfl) (by decide) ?_
  refine VL.to (fun _ _ h => h) ?_
  refine VC.seq ?_
  refine VC.seq ?_
  refine VC.region ?_
  refine VL.q (q_move rfl) (by decide) ?_
  refine VL.q (q_lss rfl rfl) (by decide) ?_
  refine VL.to (fun _ _ h => h) ?_
  refine VC.cond_dec rfl (fun h16 => ?_) (fun h16 => ?_)
  ·
    replace hS := it_t h16 hS
    refine VC.seq ?_
    refine VC.region ?_
    refine VL.q (q_assign rfl) (by decide) ?_
    refine VL.q (q_assign rfl) (by decide) ?_
    refine VL.to (fun _ _ h => h) ?_
    cases hS
    exact VC.ret (fin2 (.inr rfl) rfl rfl rfl () rfl trivial (fun _ _ => trivial) (fun _ _ => trivial))
  ·
    replace hS := it_f h16 hS
    refine VC.skip_to (fun _ _ h => h) ?_
    refine VC.seq ?_
    refine VC.region ?_
    refine VL.q (q_move rfl) (by decide) ?_
    obtain ⟨z18_1, nz18_1, hz18_1, hS⟩ := at_s hS
    refine VL.q (q_sidx Tryd.underlying9 rfl rfl nz18_1 hz18_1) (by decide) ?_
    refine VL.q (q_assign rfl) (by decide) ?_
    refine VL.to (fun _ _ h => h) ?_
    refine VC.keep [0, 4, 5] rfl ?_
    refine VC.seq ?_
    refine VC.region ?_
    refine VL.q (q_move rfl) (by decide) ?_
    cases hS

set_option maxHeartbeats 4000000 in
set_option maxRecDepth 100000 in
theorem unicode_utf8_DecodeRuneInString_ct (s_0 : Str) {r : Int × Int} (hS : Sh.unicode_utf8_DecodeRuneInString s_0 = some r) :
    Ct Tryd.prog 138 [str s_0] Mo.tt (Ow.emp) (X := Unit) (fun _ => .tuple #[.int .i32 r.1, i64 r.2]) (fun _ => True) (fun _ => Mo.tt) (fun _ => Ow.emp) := by
  refine Ct.of Tryd.func138 rfl (by kernel_rfl) Tryd.ntmps138 (by simp) fun c => ?_
  unfold Sh.unicode_utf8_DecodeRuneInString at hS
  refine VC.seq ?_
  refine VC.region ?_
  refine VL.q (q_assign rfl) (by decide) ?_
  refine VL.q (q_assign rfl) (by decide) ?_
  refine VL.to (fun _ _ h => h) ?_
  refine VC.seq ?_
  refine VC.cutJ (S := Bool) (fun (x10_1 : Bool) => x10_1) (fun (x10_1 : Bool) => [(0, str s_0), (10, .bool x10_1)]) (fun (x10_1 : Bool) => Mo.tt) (fun (x10_1 : Bool) => Ow.emp) hS ?_ ?_
  · -- up to where ways meet
    clear hS
    intro k2 hS
    refine VC.region ?_
    refine VL.q (q_move rfl) (by decide) ?_
    refine VL.q (q_sne rfl rfl) (by decide) ?_
    refine VL.q (q_move rfl) (by decide) ?_
    refine VL.split_ndec 6 rfl (fun h6 => ?_) (fun h6 => ?_)
    ·
      replace hS := it_f h6 hS
      refine VL.gy rfl rfl (q_move rfl) (by decide) ?_
      obtain ⟨z8_3, nz8_3, hz8_3, hS⟩ := at_s hS
      refine VL.gy rfl rfl (q_sidx Tryd.underlying9 rfl rfl nz8_3 hz8_3) (by decide) ?_
      refine VL.gy rfl rfl (q_lss rfl rfl) (by decide) ?_
      refine VL.q (q_pick_t rfl rfl) (by decide) ?_
      refine VL.mt (decide ((z8_3.toNat : Int) < 128)) [0, 10] (fun _ _ h => h) hS rfl
    ·
      replace hS := it_t h6 hS
      refine VL.gn rfl rfl rfl (by decide) ?_
      refine VL.gn rfl rfl rfl (by decide) ?_
      refine VL.gn rfl rfl rfl (by decide) ?_
      refine VL.q (q_pick_f rfl rfl) (by decide) ?_
      refine VL.mt false [0, 10] (fun _ _ h => h) hS rfl
  · -- from there
    clear hS
    rintro x10_1 hS
    show VC _ _ _ _ _ [(0, str s_0), (10, .bool x10_1)] (Mo.and Mo.tt _) (Ow.emp)
    refine VC.cond rfl (fun h10 => ?_) (fun h10 => ?_)
    ·
      replace hS := it_t h10 hS
      refine VC.seq ?_
      refine VC.region ?_
      refine VL.q (q_move rfl) (by decide) ?_
      obtain ⟨z12_4, nz12_4, hz12_4, hS⟩ := at_s hS
      refine VL.q (q_sidx Tryd.underlying9 rfl rfl nz12_4 hz12_4) (by decide) ?_
      refine VL.q (q_conv Tryd.underlying5 Tryd.underlying21 rfl (wr_i32 z12_4)) (by decide) ?_
      refine VL.q (q_assign rfl) (by decide) ?_
      refine VL.q (q_assign rfl) (by decide) ?_
      refine VL.to (fun _ _ h => h) ?_
      cases hS
      exact VC.ret (fin2 (.inr rfl) rfl rfl rfl () rfl trivial (fun _ _ => trivial) (fun _ _ => trivial))
    ·
      replace hS := it_b h10 hS
      refine VC.region ?_
      refine VL.q (q_move rfl) (by decide) ?_
      obtain ⟨y16_5, ey16_5, hS⟩ := bd_s hS
      refine VL.q (q_call (unicode_utf8_decodeRuneInStringSlow_ct s_0 ey16_5) rfl (fun _ _ => rfl)) (by decide) ?_
      refine VL.q (q_move rfl) (by decide) ?_
      refine VL.q (q_extract rfl rfl) (by decide) ?_
      refine VL.q (q_extract rfl rfl) (by decide) ?_
      refine VL.q (q_assign rfl) (by decide) ?_
      refine VL.q (q_assign rfl) (by decide) ?_
      refine VL.to (fun _ _ h => h) ?_
      cases hS
      exact VC.ret (fin2 (.inr rfl) rfl rfl rfl () rfl trivial (fun _ _ => trivial) (fun _ _ => trivial))

set_option maxHeartbeats 4000000 in
set_option maxRecDepth 100000 in
theorem strings_explode_ct (s_0 : Str) (n_1 : Int) {r : List Str} (hS : Sh.strings_explode s_0 n_1 = some r) :
    Ct Tryd.prog 134 [str s_0, i64 n_1] Mo.tt (Ow.emp) (X := Sv Str) (fun x => x.val) (fun x => r = x.l) (fun x => Mo.tt) (fun x => Sv.own x 9) := by
  refine Ct.of Tryd.func134 rfl (by kernel_rfl) Tryd.ntmps134 (by simp) fun c => ?_
  unfold Sh.strings_explode at hS
  refine VC.seq ?_
  refine VC.region ?_
  refine VL.q (q_assign rfl) (by decide) ?_
  refine VL.to (fun _ _ h => h) ?_
  refine VC.seq ?_
  refine VC.region ?_
  refine VL.q (q_move rfl) (by decide) ?_
  obtain ⟨y11_1, ey11_1, hS⟩ := bd_s hS
  refine VL.q (q_call (unicode_utf8_RuneCountInString_ct s_0 ey11_1) rfl (fun _ _ => rfl)) (by decide) ?_
  refine VL.q (q_assign rfl) (by decide) ?_
  refine VL.to (fun _ _ h => h) ?_
  refine VC.cutJ (S := Int) (fun (n1_2 : Int) => n1_2) (fun (n1_2 : Int) => [(0, str s_0), (1, i64 n1_2)]) (fun (n1_2 : Int) => Mo.tt) (fun (n1_2 : Int) => Ow.emp) hS ?_ ?_
  · -- up to where ways meet
    clear hS
    intro k3 hS
    refine VC.cutJ (S := Bool) (fun (x18_4 : Bool) => x18_4) (fun (x18_4 : Bool) => [(0, str s_0), (1, i64 n_1), (5, i64 y11_1), (18, .bool x18_4)]) (fun (x18_4 : Bool) => Mo.tt) (fun (x18_4 : Bool) => Ow.emp) hS ?_ ?_
    · -- up to where ways meet
      clear hS
      intro k5 hS
      refine VC.region ?_
      refine VL.q (q_move rfl) (by decide) ?_
      refine VL.q (q_lss rfl rfl) (by decide) ?_
      refine VL.q (q_move rfl) (by decide) ?_
      refine VL.split_dec 14 rfl (fun h14 => ?_) (fun h14 => ?_)
      ·
        replace hS := it_t h14 hS
        refine VL.gn rfl rfl rfl (by decide) ?_
        refine VL.gn rfl rfl rfl (by decide) ?_
        refine VL.gn rfl rfl rfl (by decide) ?_
        refine VL.q (q_pick_t rfl rfl) (by decide) ?_
        refine VL.mt true [0, 1, 5, 18] (fun _ _ h => h) hS rfl
      ·
        replace hS := it_f h14 hS
        refine VL.gy rfl rfl (q_move rfl) (by decide) ?_
        refine VL.gy rfl rfl (q_move rfl) (by decide) ?_
        refine VL.gy rfl rfl (q_gtr rfl rfl) (by decide) ?_
        refine VL.q (q_pick_f rfl rfl) (by decide) ?_
        refine VL.mt (decide (y11_1 < n_1)) [0, 1, 5, 18] (fun _ _ h => h) hS rfl
    · -- from there
      clear hS
      rintro x18_4 hS
      show VC _ _ _ _ _ [(0, str s_0), (1, i64 n_1), (5, i64 y11_1), (18, .bool x18_4)] (Mo.and Mo.tt _) (Ow.emp)
      refine VC.cond rfl (fun h18 => ?_) (fun h18 => ?_)
      ·
        replace hS := it_t h18 hS
        refine VC.region ?_
        refine VL.q (q_move rfl) (by decide) ?_
        refine VL.q (q_assign rfl) (by decide) ?_
        refine VL.mt y11_1 [0, 1] (fun _ _ h => h) hS rfl
      ·
        replace hS := it_b h18 hS
        refine VC.skip_mt n_1 [0, 1] (fun _ _ h => h) hS rfl
  · -- from there
    clear hS
    rintro n1_2 hS
    show VC _ _ _ _ _ [(0, str s_0), (1, i64 n1_2)] (Mo.and Mo.tt _) (Ow.emp)
    refine VC.seq ?_
    refine VC.region ?_
    refine VL.q (q_move rfl) (by decide) ?_
    obtain ⟨b21, hS⟩ := gd_s hS
    refine VL.make (α := Str) (z := []) Tryd.underlying58 gmk9 (by decide) rfl rfl b21.1 (Int.le_refl _) (by omega) (by omega) (by decide) (fun s21_6 hs21_6 => ?_)
    replace hS := lt_to hs21_6 hS
    refine VL.q (q_assign rfl) (by decide) ?_
    refine VL.to (fun _ _ h => h) ?_
    refine VC.seq ?_
    refine VC.seq ?_
    refine VC.region ?_
    refine VL.q (q_assign rfl) (by decide) ?_
    refine VL.to (fun _ _ h => h) ?_
    refine VC.block ?_
    refine VC.iter (S := Str × Sv Str × Int) (fun sg => (sg.1, sg.2.1.l, sg.2.2)) (fun sg => [(0, str sg.1), (1, i64 n1_2), (6, sg.2.1.val), (7, i64 sg.2.2)]) (fun sg => Mo.tt) (fun sg => Ow.star (Sv.own sg.2.1 9) (Ow.emp)) (s_0, s21_6, 0) [0, 1, 6, 7] hS rfl ?_
    clear hS
    rintro ⟨s0_8, a6_9, i7_10⟩ m1 y1 hS hK1
    show VC _ _ _ _ _ [(0, str s0_8), (1, i64 n1_2), (6, a6_9.val), (7, i64 i7_10)] (Mo.and Mo.tt _) (Ow.star (Sv.own a6_9 9) (Ow.emp))
    refine VC.seq ?_
    refine VC.seq ?_
    refine VC.region ?_
    refine VL.q (q_move rfl) (by decide) ?_
    refine VL.q (q_move rfl) (by decide) ?_
    obtain ⟨b24, hS⟩ := gd_s hS
    refine VL.q (q_sub rfl rfl b24) (by decide) ?_
    refine VL.q (q_lss rfl rfl) (by decide) ?_
    refine VL.to (fun _ _ h => h) ?_
    refine VC.cond_dec rfl (fun h25 => ?_) (fun h25 => ?_)
    ·
      replace hS := it_t h25 hS
      refine VC.skip_to (fun _ _ h => h) ?_
      refine VC.seq ?_
      refine VC.block ?_
      refine VC.seq ?_
      refine VC.region ?_
      refine VL.q (q_move rfl) (by decide) ?_
      obtain ⟨y30_11, ey30_11, hS⟩ := bd_s hS
      refine VL.q (q_call (unicode_utf8_DecodeRuneInString_ct s0_8 ey30_11) rfl (fun _ _ => rfl)) (by decide) ?_
      refine VL.q (q_move rfl) (by decide) ?_
      refine VL.q (q_extract rfl rfl) (by decide) ?_
      refine VL.q (q_extract rfl rfl) (by decide) ?_
      refine VL.q (q_assign rfl) (by decide) ?_
      refine VL.q (q_assign rfl) (by decide) ?_
      refine VL.to (fun _ _ h => h) ?_
      refine VC.keep [0, 1, 6, 7, 9] rfl ?_
      refine VC.seq ?_
      refine VC.region ?_
      refine VL.q (q_move rfl) (by decide) ?_
      refine VL.q (q_move rfl) (by decide) ?_
      refine VL.q (q_move rfl) (by decide) ?_
      refine VL.q (q_move rfl) (by decide) ?_
      obtain ⟨b37, hS⟩ := gd_s hS
      obtain ⟨y37_12, ey37_12, hS⟩ := lt_s hS
      refine VL.q (q_stoE Tryd.underlying9 rfl rfl b37.1 b37.2 ey37_12) (by decide) ?_
      obtain ⟨z38_13, nz38_13, hz38_13, hS⟩ := at_s hS
      refine VL.q (q_ixo (s := a6_9) Tryd.underlying58 gsz9 rfl rfl nz38_13 (lt_of_get nz38_13 hz38_13)) (by decide) ?_
      refine VL.storeE (s := a6_9) (T := 9) (j := 0) (vc := [str y37_12]) (y37_12 : Str) (by decide) rfl rfl hz38_13 rfl gsz9 rfl rfl (Nat.le_of_ble_eq_true rfl) rfl (fun w14 hw14 haw14 hcw14 hvw14 hbw14 how14 => ?_)
      rw [← hvw14]
      replace hS := lt_to hw14 hS
      refine VL.to (fun _ _ h => h) ?_
      refine VC.region ?_
      refine VL.q (q_move rfl) (by decide) ?_
      refine VL.q (q_move rfl) (by decide) ?_
      obtain ⟨b41, hS⟩ := gd_s hS
      obtain ⟨y41_16, ey41_16, hS⟩ := lt_s hS
      refine VL.q (q_sfromE Tryd.underlying9 rfl rfl b41.1 b41.2 ey41_16) (by decide) ?_
      refine VL.q (q_assign rfl) (by decide) ?_
      refine VL.to (fun _ _ h => h) ?_
      refine VC.keep [0, 1, 6, 7] rfl ?_
      refine VC.region ?_
      refine VL.q (q_move rfl) (by decide) ?_
      obtain ⟨b27, hS⟩ := gd_s hS
      refine VL.q (q_add rfl rfl b27) (by decide) ?_
      refine VL.q (q_assign rfl) (by decide) ?_
      refine VL.rnd (y41_16, w14, (i7_10 + 1)) [0, 1, 6, 7] (fun _ _ h => h) (go2 hS hK1) rfl
    ·
      replace hS := it_f h25 hS
      replace hS := up2 hS hK1
      refine VC.exit_to (fun _ _ h => h) ?_
      refine VC.seq ?_
      refine VC.seq ?_
      refine VC.region ?_
      refine VL.q (q_move rfl) (by decide) ?_
      refine VL.q (q_gtr rfl rfl) (by decide) ?_
      refine VL.to (fun _ _ h => h) ?_
      refine VC.cond_dec rfl (fun h43 => ?_) (fun h43 => ?_)
      ·
        replace hS := it_t h43 hS
        refine VC.region ?_
        refine VL.q (q_move rfl) (by decide) ?_
        refine VL.q (q_move rfl) (by decide) ?_
        obtain ⟨b46, hS⟩ := gd_s hS
        refine VL.q (q_sub rfl rfl b46) (by decide) ?_
        refine VL.q (q_move rfl) (by decide) ?_
        obtain ⟨z48_17, nz48_17, hz48_17, hS⟩ := at_s hS
        refine VL.q (q_ixo (s := a6_9) Tryd.underlying58 gsz9 rfl rfl nz48_17 (lt_of_get nz48_17 hz48_17)) (by decide) ?_
        refine VL.storeE (s := a6_9) (T := 9) (j := 0) (vc := [str s0_8]) (s0_8 : Str) (by decide) rfl rfl hz48_17 rfl gsz9 rfl rfl (Nat.le_of_ble_eq_true rfl) rfl (fun w18 hw18 haw18 hcw18 hvw18 hbw18 how18 => ?_)
        rw [← hvw18]
        replace hS := lt_to hw18 hS
        refine VL.to (fun _ _ h => h) ?_
        refine VC.keep [6] rfl ?_
        refine VC.seq ?_
        refine VC.region ?_
        refine VL.q (q_move rfl) (by decide) ?_
        refine VL.q (q_assign rfl) (by decide) ?_
        refine VL.to (fun _ _ h => h) ?_
        cases hS
        exact VC.ret (fin1 (.inr rfl) rfl rfl w18 rfl rfl (by (try dsimp only); exact InM.out) (by (try dsimp only); exact EntO.out))
      ·
        replace hS := it_f h43 hS
        refine VC.skip_to (fun _ _ h => h) ?_
        refine VC.seq ?_
        refine VC.region ?_
        refine VL.q (q_move rfl) (by decide) ?_
        refine VL.q (q_assign rfl) (by decide) ?_
        refine VL.to (fun _ _ h => h) ?_
        refine VC.keep [4] rfl ?_
        cases hS
        exact VC.ret (fin1 (.inr rfl) rfl rfl a6_9 rfl rfl (by (try dsimp only); exact InM.out) (by (try dsimp only); exact EntO.out))

set_option maxHeartbeats 4000000 in
set_option maxRecDepth 100000 in
theorem internal_stringslite_IndexByte_ct (s_0 : Str) (c_1 : Int) {r : Int} (hS : Sh.internal_stringslite_IndexByte s_0 c_1 = some r) :
    Ct Tryd.prog 192 [str s_0, .int .u8 c_1] Mo.tt (Ow.emp) (X := Unit) (fun _ => i64 r) (fun _ => True) (fun _ => Mo.tt) (fun _ => Ow.emp) := by
  refine Ct.of Tryd.func192 rfl (by kernel_rfl) Tryd.ntmps192 (by simp) fun c => ?_
  unfold Sh.internal_stringslite_IndexByte at hS
  refine VC.seq ?_
  refine VC.region ?_
  refine VL.q (q_assign rfl) (by decide) ?_
  refine VL.to (fun _ _ h => h) ?_
  refine VC.seq ?_
  refine VC.region ?_
  refine VL.q (q_move rfl) (by decide) ?_
  refine VL.q (q_move rfl) (by decide) ?_
  refine VL.q (q_extern Tryd.func207 rfl rfl (by kernel_rfl) (by kernel_rfl) rfl (fun w => x_ixS s_0 c_1 w)) (by decide) ?_
  refine VL.q (q_assign rfl) (by decide) ?_
  refine VL.to (fun _ _ h => h) ?_
  cases hS
  exact VC.ret (fin1 (.inr rfl) rfl rfl () rfl trivial (fun _ _ => trivial) (fun _ _ => trivial))

set_option maxHeartbeats 4000000 in
set_option maxRecDepth 100000 in
theorem internal_stringslite_Index_ct (a_0 : Str) (a_1 : Str) {r : Int} (hS : Sh.internal_stringslite_Index a_0 a_1 = some r) :
    Ct Tryd.prog 165 [str a_0, str a_1] Mo.tt (Ow.emp) (X := Unit) (fun _ => i64 r) (fun _ => True) (fun _ => Mo.tt) (fun _ => Ow.emp) := by
  refine Ct.of Tryd.func165 rfl (by kernel_rfl) Tryd.ntmps165 (by simp) fun c => ?_
  unfold Sh.internal_stringslite_Index at hS
  refine VC.seq ?_
  refine VC.region ?_
  refine VL.q (q_assign rfl) (by decide) ?_
  refine VL.to (fun _ _ h => h) ?_
  refine VC.seq ?_
  refine VC.region ?_
  refine VL.q (q_move rfl) (by decide) ?_
  refine VL.q (q_slen Tryd.underlying9 rfl) (by decide) ?_
  refine VL.q (q_assign rfl) (by decide) ?_
  refine VL.to (fun _ _ h => h) ?_
  refine VC.seq ?_
  refine VC.block ?_
  refine VC.cutJ (S := Bool) (fun (x16_1 : Bool) => x16_1) (fun (x16_1 : Bool) => [(0, str a_0), (1, str a_1), (5, i64 (a_1.length : Int)), (16, .bool x16_1)]) (fun (x16_1 : Bool) => Mo.tt) (fun (x16_1 : Bool) => Ow.emp) hS ?_ ?_
  · -- up to where ways meet
    clear hS
    intro k2 hS
    refine VC.region ?_
    refine VL.q (q_move rfl) (by decide) ?_
    refine VL.q (q_eql rfl rfl) (by decide) ?_
    refine VL.q (q_move rfl) (by decide) ?_
    refine VL.split_dec 19 rfl (fun h19 => ?_) (fun h19 => ?_)
    ·
      replace hS := it_t h19 hS
      refine VL.gn rfl rfl rfl (by decide) ?_
      refine VL.gn rfl rfl rfl (by decide) ?_
      refine VL.gn rfl rfl rfl (by decide) ?_
      refine VL.q (q_pick_t rfl rfl) (by decide) ?_
      refine VL.q (q_assign rfl) (by decide) ?_
      refine VL.mt true [0, 1, 5, 16] (fun _ _ h => h) hS rfl
    ·
      replace hS := it_f h19 hS
      refine VL.gy rfl rfl (q_move rfl) (by decide) ?_
      refine VL.gy rfl rfl (q_move rfl) (by decide) ?_
      refine VL.gy rfl rfl (q_seq rfl rfl) (by decide) ?_
      refine VL.q (q_pick_f rfl rfl) (by decide) ?_
      refine VL.q (q_assign rfl) (by decide) ?_
      refine VL.mt (decide (a_1 = a_0)) [0, 1, 5, 16] (fun _ _ h => h) hS rfl
  · -- from there
    clear hS
    rintro x16_1 hS
    show VC _ _ _ _ _ [(0, str a_0), (1, str a_1), (5, i64 (a_1.length : Int)), (16, .bool x16_1)] (Mo.and Mo.tt _) (Ow.emp)
    refine VC.cond rfl (fun h16 => ?_) (fun h16 => ?_)
    ·
      replace hS := it_t h16 hS
      refine VC.seq ?_
      refine VC.region ?_
      refine VL.q (q_assign rfl) (by decide) ?_
      refine VL.to (fun _ _ h => h) ?_
      cases hS
      exact VC.ret (fin1 (.inr rfl) rfl rfl () rfl trivial (fun _ _ => trivial) (fun _ _ => trivial))
    ·
      replace hS := it_b h16 hS
      refine VC.seq ?_
      refine VC.region ?_
      refine VL.q (q_move rfl) (by decide) ?_
      refine VL.q (q_eql rfl rfl) (by decide) ?_
      refine VL.q (q_assign rfl) (by decide) ?_
      refine VL.to (fun _ _ h => h) ?_
      refine VC.cond_dec rfl (fun h24 => ?_) (fun h24 => ?_)
      ·
        replace hS := it_t h24 hS
        refine VC.seq ?_
        refine VC.region ?_
        refine VL.q (q_move rfl) (by decide) ?_
        refine VL.q (q_move rfl) (by decide) ?_
        obtain ⟨z29_3, nz29_3, hz29_3, hS⟩ := at_s hS
        refine VL.q (q_sidx Tryd.underlying9 rfl rfl nz29_3 hz29_3) (by decide) ?_
        obtain ⟨y30_4, ey30_4, hS⟩ := bd_s hS
        refine VL.q (q_call (internal_stringslite_IndexByte_ct a_0 (z29_3.toNat : Int) ey30_4) rfl (fun _ _ => rfl)) (by decide) ?_
        refine VL.q (q_assign rfl) (by decide) ?_
        refine VL.to (fun _ _ h => h) ?_
        refine VC.keep [4] rfl ?_
        cases hS
        exact VC.ret (fin1 (.inr rfl) rfl rfl () rfl trivial (fun _ _ => trivial) (fun _ _ => trivial))
      ·
        replace hS := it_f h24 hS
        refine VC.seq ?_
        refine VC.region ?_
        refine VL.q (q_move rfl) (by decide) ?_
        refine VL.q (q_move rfl) (by decide) ?_
        refine VL.q (q_slen Tryd.underlying9 rfl) (by decide) ?_
        refine VL.q (q_geq rfl rfl) (by decide) ?_
        refine VL.q (q_assign rfl) (by decide) ?_
        refine VL.to (fun _ _ h => h) ?_
        refine VC.keep [0, 1, 5, 31] rfl ?_
        refine VC.cond_dec rfl (fun h31 => ?_) (fun h31 => ?_)
        ·
          replace hS := it_t h31 hS
          refine VC.seq ?_
          refine VC.region ?_
          refine VL.q (q_assign rfl) (by decide) ?_
          refine VL.to (fun _ _ h => h) ?_
          cases hS
          exact VC.ret (fin1 (.inr rfl) rfl rfl () rfl trivial (fun _ _ => trivial) (fun _ _ => trivial))
        ·
          replace hS := it_f h31 hS
          refine VC.seq ?_
          refine VC.region ?_
          refine VL.q (q_move rfl) (by decide) ?_
          cases hS

set_option maxHeartbeats 4000000 in
set_option maxRecDepth 100000 in
theorem strings_Index_ct (s_0 : Str) (substr_1 : Str) {r : Int} (hS : Sh.strings_Index s_0 substr_1 = some r) :
    Ct Tryd.prog 136 [str s_0, str substr_1] Mo.tt (Ow.emp) (X := Unit) (fun _ => i64 r) (fun _ => True) (fun _ => Mo.tt) (fun _ => Ow.emp) := by
  refine Ct.of Tryd.func136 rfl (by kernel_rfl) Tryd.ntmps136 (by simp) fun c => ?_
  unfold Sh.strings_Index at hS
  refine VC.seq ?_
  refine VC.region ?_
  refine VL.q (q_assign rfl) (by decide) ?_
  refine VL.to (fun _ _ h => h) ?_
  refine VC.seq ?_
  refine VC.region ?_
  refine VL.q (q_move rfl) (by decide) ?_
  refine VL.q (q_move rfl) (by decide) ?_
  obtain ⟨y7_1, ey7_1, hS⟩ := bd_s hS
  refine VL.q (q_call (internal_stringslite_Index_ct s_0 substr_1 ey7_1) rfl (fun _ _ => rfl)) (by decide) ?_
  refine VL.q (q_assign rfl) (by decide) ?_
  refine VL.to (fun _ _ h => h) ?_
  cases hS
  exact VC.ret (fin1 (.inr rfl) rfl rfl () rfl trivial (fun _ _ => trivial) (fun _ _ => trivial))

set_option maxHeartbeats 4000000 in
set_option maxRecDepth 100000 in
theorem strings_Count_ct (s_0 : Str) (substr_1 : Str) {r : Int} (hS : Sh.strings_Count s_0 substr_1 = some r) :
    Ct Tryd.prog 135 [str s_0, str substr_1] Mo.tt (Ow.emp) (X := Unit) (fun _ => i64 r) (fun _ => True) (fun _ => Mo.tt) (fun _ => Ow.emp) := by
  refine Ct.of Tryd.func135 rfl (by kernel_rfl) Tryd.ntmps135 (by simp) fun c => ?_
  unfold Sh.strings_Count at hS
  refine VC.seq ?_
  refine VC.region ?_
  refine VL.q (q_assign rfl) (by decide) ?_
  refine VL.to (fun _ _ h => h) ?_
  refine VC.seq ?_
  refine VC.seq ?_
  refine VC.region ?_
  refine VL.q (q_move rfl) (by decide) ?_
  refine VL.q (q_slen Tryd.underlying9 rfl) (by decide) ?_
  refine VL.q (q_eql rfl rfl) (by decide) ?_
  refine VL.to (fun _ _ h => h) ?_
  refine VC.cond_dec rfl (fun h9 => ?_) (fun h9 => ?_)
  ·
    replace hS := it_t h9 hS
    refine VC.seq ?_
    refine VC.region ?_
    refine VL.q (q_move rfl) (by decide) ?_
    obtain ⟨y11_1, ey11_1, hS⟩ := bd_s hS
    refine VL.q (q_call (unicode_utf8_RuneCountInString_ct s_0 ey11_1) rfl (fun _ _ => rfl)) (by decide) ?_
    obtain ⟨b12, hS⟩ := gd_s hS
    refine VL.q (q_add rfl rfl b12) (by decide) ?_
    refine VL.q (q_assign rfl) (by decide) ?_
    refine VL.to (fun _ _ h => h) ?_
    cases hS
    exact VC.ret (fin1 (.inr rfl) rfl rfl () rfl trivial (fun _ _ => trivial) (fun _ _ => trivial))
  ·
    replace hS := it_f h9 hS
    refine VC.skip_to (fun _ _ h => h) ?_
    refine VC.seq ?_
    refine VC.seq ?_
    refine VC.region ?_
    refine VL.q (q_move rfl) (by decide) ?_
    refine VL.q (q_slen Tryd.underlying9 rfl) (by decide) ?_
    refine VL.q (q_eql rfl rfl) (by decide) ?_
    refine VL.to (fun _ _ h => h) ?_
    refine VC.cond_dec rfl (fun h15 => ?_) (fun h15 => ?_)
    ·
      replace hS := it_t h15 hS
      refine VC.seq ?_
      refine VC.region ?_
      refine VL.q (q_move rfl) (by decide) ?_
      refine VL.q (q_move rfl) (by decide) ?_
      obtain ⟨z18_2, nz18_2, hz18_2, hS⟩ := at_s hS
      refine VL.q (q_sidx Tryd.underlying9 rfl rfl nz18_2 hz18_2) (by decide) ?_
      refine VL.q (q_extern Tryd.func164 rfl rfl (by kernel_rfl) (by kernel_rfl) rfl (fun w => x_cntS s_0 (z18_2.toNat : Int) w)) (by decide) ?_
      refine VL.q (q_assign rfl) (by decide) ?_
      refine VL.to (fun _ _ h => h) ?_
      refine VC.keep [4] rfl ?_
      cases hS
      exact VC.ret (fin1 (.inr rfl) rfl rfl () rfl trivial (fun _ _ => trivial) (fun _ _ => trivial))
    ·
      replace hS := it_f h15 hS
      refine VC.skip_to (fun _ _ h => h) ?_
      refine VC.seq ?_
      refine VC.region ?_
      refine VL.q (q_assign rfl) (by decide) ?_
      refine VL.to (fun _ _ h => h) ?_
      refine VC.block ?_
      refine VC.iter (S := Str × Int) (fun sg => (sg.1, sg.2)) (fun sg => [(0, str sg.1), (1, str substr_1), (5, i64 sg.2)]) (fun sg => Mo.tt) (fun sg => Ow.emp) (s_0, 0) [0, 1, 5] hS rfl ?_
      clear hS
      rintro ⟨s0_3, n5_4⟩ m1 y1 hS hK1
      show VC _ _ _ _ _ [(0, str s0_3), (1, str substr_1), (5, i64 n5_4)] (Mo.and Mo.tt _) (Ow.emp)
      refine VC.block ?_
      refine VC.seq ?_
      refine VC.region ?_
      refine VL.q (q_move rfl) (by decide) ?_
      refine VL.q (q_move rfl) (by decide) ?_
      obtain ⟨y22_5, ey22_5, hS⟩ := bd_s hS
      refine VL.q (q_call (strings_Index_ct s0_3 substr_1 ey22_5) rfl (fun _ _ => rfl)) (by decide) ?_
      refine VL.q (q_assign rfl) (by decide) ?_
      refine VL.to (fun _ _ h => h) ?_
      refine VC.seq ?_
      refine VC.seq ?_
      refine VC.region ?_
      refine VL.q (q_move rfl) (by decide) ?_
      refine VL.q (q_eql rfl rfl) (by decide) ?_
      refine VL.to (fun _ _ h => h) ?_
      refine VC.cond_dec rfl (fun h24 => ?_) (fun h24 => ?_)
      ·
        replace hS := it_t h24 hS
        refine VC.seq ?_
        refine VC.region ?_
        refine VL.q (q_move rfl) (by decide) ?_
        refine VL.q (q_assign rfl) (by decide) ?_
        refine VL.to (fun _ _ h => h) ?_
        refine VC.keep [4] rfl ?_
        replace hS := up2 hS hK1
        cases hS
        exact VC.ret (fin1 (.inr rfl) rfl rfl () rfl trivial (fun _ _ => trivial) (fun _ _ => trivial))
      ·
        replace hS := it_f h24 hS
        refine VC.skip_to (fun _ _ h => h) ?_
        refine VC.seq ?_
        refine VC.region ?_
        refine VL.q (q_move rfl) (by decide) ?_
        obtain ⟨b27, hS⟩ := gd_s hS
        refine VL.q (q_add rfl rfl b27) (by decide) ?_
        refine VL.q (q_assign rfl) (by decide) ?_
        refine VL.to (fun _ _ h => h) ?_
        refine VC.keep [0, 1, 5, 6] rfl ?_
        refine VC.region ?_
        refine VL.q (q_move rfl) (by decide) ?_
        refine VL.q (q_move rfl) (by decide) ?_
        refine VL.q (q_move rfl) (by decide) ?_
        refine VL.q (q_slen Tryd.underlying9 rfl) (by decide) ?_
        obtain ⟨b32, hS⟩ := gd_s hS
        refine VL.q (q_add rfl rfl b32) (by decide) ?_
        obtain ⟨b33, hS⟩ := gd_s hS
        obtain ⟨y33_6, ey33_6, hS⟩ := lt_s hS
        refine VL.q (q_sfromE Tryd.underlying9 rfl rfl b33.1 b33.2 ey33_6) (by decide) ?_
        refine VL.q (q_assign rfl) (by decide) ?_
        refine VL.rnd (y33_6, (n5_4 + 1)) [0, 1, 5] (fun _ _ h => h) (go2 hS hK1) rfl

set_option maxHeartbeats 4000000 in
set_option maxRecDepth 100000 in
theorem strings_genSplit_ct (a_0 : Str) (a_1 : Str) (a_2 : Int) (a_3 : Int) {r : List Str} (hS : Sh.strings_genSplit a_0 a_1 a_2 a_3 = some r) :
    Ct Tryd.prog 96 [str a_0, str a_1, i64 a_2, i64 a_3] Mo.tt (Ow.emp) (X := Sv Str) (fun x => x.val) (fun x => r = x.l) (fun x => x.ok) (fun x => Ow.emp) := by
  refine Ct.of Tryd.func96 rfl (by kernel_rfl) Tryd.ntmps96 (by simp) fun c => ?_
  unfold Sh.strings_genSplit at hS
  refine VC.seq ?_
  refine VC.region ?_
  refine VL.q (q_assign rfl) (by decide) ?_
  refine VL.to (fun _ _ h => h) ?_
  refine VC.seq ?_
  refine VC.seq ?_
  refine VC.region ?_
  refine VL.q (q_move rfl) (by decide) ?_
  refine VL.q (q_eql rfl rfl) (by decide) ?_
  refine VL.to (fun _ _ h => h) ?_
  refine VC.cond_dec rfl (fun h13 => ?_) (fun h13 => ?_)
  ·
    replace hS := it_t h13 hS
    refine VC.seq ?_
    refine VC.region ?_
    refine VL.q (q_assign rfl) (by decide) ?_
    refine VL.to (fun _ _ h => h) ?_
    cases hS
    exact VC.ret (fin1 (.inr rfl) rfl rfl ⟨none, 0, []⟩ rfl rfl (by (try dsimp only); exact InM.out) (fun _ _ => trivial))
  ·
    replace hS := it_f h13 hS
    refine VC.skip_to (fun _ _ h => h) ?_
    refine VC.seq ?_
    refine VC.seq ?_
    refine VC.region ?_
    refine VL.q (q_move rfl) (by decide) ?_
    refine VL.q (q_seq rfl rfl) (by decide) ?_
    refine VL.to (fun _ _ h => h) ?_
    refine VC.cond_dec rfl (fun h15 => ?_) (fun h15 => ?_)
    ·
      replace hS := it_t h15 hS
      refine VC.seq ?_
      refine VC.region ?_
      refine VL.q (q_move rfl) (by decide) ?_
      refine VL.q (q_move rfl) (by decide) ?_
      obtain ⟨y18_1, ey18_1, hS⟩ := bd_s hS
      refine VL.callO (strings_explode_ct a_0 a_3 ey18_1) rfl (by decide) ?_
      rintro q18_1_0 rfl
      try dsimp only
      refine VL.q (q_assign rfl) (by decide) ?_
      refine VL.to (fun _ _ h => h) ?_
      refine VC.keep [8] rfl ?_
      refine VC.shut q18_1_0 9 (fun _ _ _ _ => trivial) ?_
      cases hS
      exact VC.ret (fin1 (.inr rfl) rfl rfl q18_1_0 rfl rfl (by (try dsimp only); exact InM.out) (fun _ _ => trivial))
    ·
      replace hS := it_f h15 hS
      refine VC.skip_to (fun _ _ h => h) ?_
      refine VC.cutJ (S := Int) (fun (x3_2 : Int) => x3_2) (fun (x3_2 : Int) => [(0, str a_0), (1, str a_1), (2, i64 a_2), (3, i64 x3_2)]) (fun (x3_2 : Int) => Mo.tt) (fun (x3_2 : Int) => Ow.emp) hS ?_ ?_
      · -- up to where ways meet
        clear hS
        intro k3 hS
        refine VC.seq ?_
        refine VC.region ?_
        refine VL.q (q_move rfl) (by decide) ?_
        refine VL.q (q_lss rfl rfl) (by decide) ?_
        refine VL.to (fun _ _ h => h) ?_
        refine VC.cond_dec rfl (fun h20 => ?_) (fun h20 => ?_)
        ·
          replace hS := it_t h20 hS
          refine VC.region ?_
          refine VL.q (q_move rfl) (by decide) ?_
          refine VL.q (q_move rfl) (by decide) ?_
          obtain ⟨y23_4, ey23_4, hS⟩ := bd_s hS
          refine VL.q (q_call (strings_Count_ct a_0 a_1 ey23_4) rfl (fun _ _ => rfl)) (by decide) ?_
          obtain ⟨b24, hS⟩ := gd_s hS
          refine VL.q (q_add rfl rfl b24) (by decide) ?_
          refine VL.q (q_assign rfl) (by decide) ?_
          refine VL.mt (y23_4 + 1) [0, 1, 2, 3] (fun _ _ h => h) hS rfl
        ·
          replace hS := it_f h20 hS
          refine VC.skip_mt a_3 [0, 1, 2, 3] (fun _ _ h => h) hS rfl
      · -- from there
        clear hS
        rintro x3_2 hS
        show VC _ _ _ _ _ [(0, str a_0), (1, str a_1), (2, i64 a_2), (3, i64 x3_2)] (Mo.and Mo.tt _) (Ow.emp)
        refine VC.seq ?_
        refine VC.region ?_
        refine VL.q (q_move rfl) (by decide) ?_
        refine VL.q (q_move rfl) (by decide) ?_
        refine VL.q (q_slen Tryd.underlying9 rfl) (by decide) ?_
        obtain ⟨b28, hS⟩ := gd_s hS
        refine VL.q (q_add rfl rfl b28) (by decide) ?_
        refine VL.q (q_min rfl) (by decide) ?_
        refine VL.q (q_assign rfl) (by decide) ?_
        refine VL.to (fun _ _ h => h) ?_
        refine VC.seq ?_
        refine VC.region ?_
        refine VL.q (q_move rfl) (by decide) ?_
        obtain ⟨b31, hS⟩ := gd_s hS
        refine VL.make (α := Str) (z := []) Tryd.underlying58 gmk9 (by decide) rfl rfl b31.1 (Int.le_refl _) (by omega) (by omega) (by decide) (fun s31_5 hs31_5 => ?_)
        replace hS := lt_to hs31_5 hS
        refine VL.q (q_assign rfl) (by decide) ?_
        refine VL.to (fun _ _ h => h) ?_
        refine VC.keep [0, 1, 2, 3, 9] rfl ?_
        refine VC.seq ?_
        refine VC.region ?_
        refine VL.q (q_move rfl) (by decide) ?_
        obtain ⟨b33, hS⟩ := gd_s hS
        refine VL.q (q_sub rfl rfl b33) (by decide) ?_
        refine VL.q (q_assign rfl) (by decide) ?_
        refine VL.to (fun _ _ h => h) ?_
        refine VC.seq ?_
        refine VC.region ?_
        refine VL.q (q_assign rfl) (by decide) ?_
        refine VL.to (fun _ _ h => h) ?_
        refine VC.cutJ (S := Str × Sv Str × Int) (fun sg => (sg.1, sg.2.1.l, sg.2.2)) (fun sg => [(0, str sg.1), (9, sg.2.1.val), (10, i64 sg.2.2)]) (fun sg => Mo.tt) (fun sg => Ow.star (Sv.own sg.2.1 9) (Ow.emp)) hS ?_ ?_
        · -- up to where ways meet
          clear hS
          intro k10 hS
          refine VC.block ?_
          refine VC.iter (S := Str × Sv Str × Int) (fun sg => (sg.1, sg.2.1.l, sg.2.2)) (fun sg => [(0, str sg.1), (1, str a_1), (2, i64 a_2), (3, i64 ((min x3_2 ((a_0.length : Int) + 1)) - 1)), (9, sg.2.1.val), (10, i64 sg.2.2)]) (fun sg => Mo.tt) (fun sg => Ow.star (Sv.own sg.2.1 9) (Ow.emp)) (a_0, s31_5, 0) [0, 1, 2, 3, 9, 10] hS rfl ?_
          clear hS
          rintro ⟨x0_11, x9_12, x10_13⟩ m1 y1 hS hK1
          show VC _ _ _ _ _ [(0, str x0_11), (1, str a_1), (2, i64 a_2), (3, i64 ((min x3_2 ((a_0.length : Int) + 1)) - 1)), (9, x9_12.val), (10, i64 x10_13)] (Mo.and Mo.tt _) (Ow.star (Sv.own x9_12 9) (Ow.emp))
          refine VC.seq ?_
          refine VC.seq ?_
          refine VC.region ?_
          refine VL.q (q_move rfl) (by decide) ?_
          refine VL.q (q_move rfl) (by decide) ?_
          refine VL.q (q_lss rfl rfl) (by decide) ?_
          refine VL.to (fun _ _ h => h) ?_
          refine VC.cond_dec rfl (fun h36 => ?_) (fun h36 => ?_)
          ·
            replace hS := it_t h36 hS
            refine VC.skip_to (fun _ _ h => h) ?_
            refine VC.block ?_
            refine VC.seq ?_
            refine VC.region ?_
            refine VL.q (q_move rfl) (by decide) ?_
            refine VL.q (q_move rfl) (by decide) ?_
            obtain ⟨y39_14, ey39_14, hS⟩ := bd_s hS
            refine VL.q (q_call (strings_Index_ct x0_11 a_1 ey39_14) rfl (fun _ _ => rfl)) (by decide) ?_
            refine VL.q (q_assign rfl) (by decide) ?_
            refine VL.to (fun _ _ h => h) ?_
            refine VC.seq ?_
            refine VC.seq ?_
            refine VC.region ?_
            refine VL.q (q_move rfl) (by decide) ?_
            refine VL.q (q_lss rfl rfl) (by decide) ?_
            refine VL.to (fun _ _ h => h) ?_
            refine VC.keep [0, 1, 2, 3, 9, 10, 11, 41] rfl ?_
            refine VC.cond_dec rfl (fun h41 => ?_) (fun h41 => ?_)
            ·
              replace hS := it_t h41 hS
              replace hS := up2 hS hK1
              refine VC.exit_mt (x0_11, x9_12, x10_13) [0, 9, 10] (fun _ _ h => h) hS rfl
            ·
              replace hS := it_f h41 hS
              refine VC.skip_to (fun _ _ h => h) ?_
              refine VC.seq ?_
              refine VC.region ?_
              refine VL.q (q_move rfl) (by decide) ?_
              refine VL.q (q_move rfl) (by decide) ?_
              refine VL.q (q_move rfl) (by decide) ?_
              refine VL.q (q_move rfl) (by decide) ?_
              refine VL.q (q_move rfl) (by decide) ?_
              obtain ⟨b47, hS⟩ := gd_s hS
              refine VL.q (q_add rfl rfl b47) (by decide) ?_
              obtain ⟨b48, hS⟩ := gd_s hS
              obtain ⟨y48_15, ey48_15, hS⟩ := lt_s hS
              refine VL.q (q_stoE Tryd.underlying9 rfl rfl b48.1 b48.2 ey48_15) (by decide) ?_
              obtain ⟨z49_16, nz49_16, hz49_16, hS⟩ := at_s hS
              refine VL.q (q_ixo (s := x9_12) Tryd.underlying58 gsz9 rfl rfl nz49_16 (lt_of_get nz49_16 hz49_16)) (by decide) ?_
              refine VL.storeE (s := x9_12) (T := 9) (j := 0) (vc := [str y48_15]) (y48_15 : Str) (by decide) rfl rfl hz49_16 rfl gsz9 rfl rfl (Nat.le_of_ble_eq_true rfl) rfl (fun w17 hw17 haw17 hcw17 hvw17 hbw17 how17 => ?_)
              rw [← hvw17]
              replace hS := lt_to hw17 hS
              refine VL.to (fun _ _ h => h) ?_
              refine VC.keep [0, 1, 2, 3, 9, 10, 11] rfl ?_
              refine VC.seq ?_
              refine VC.region ?_
              refine VL.q (q_move rfl) (by decide) ?_
              refine VL.q (q_move rfl) (by decide) ?_
              refine VL.q (q_move rfl) (by decide) ?_
              refine VL.q (q_slen Tryd.underlying9 rfl) (by decide) ?_
              obtain ⟨b54, hS⟩ := gd_s hS
              refine VL.q (q_add rfl rfl b54) (by decide) ?_
              obtain ⟨b55, hS⟩ := gd_s hS
              obtain ⟨y55_19, ey55_19, hS⟩ := lt_s hS
              refine VL.q (q_sfromE Tryd.underlying9 rfl rfl b55.1 b55.2 ey55_19) (by decide) ?_
              refine VL.q (q_assign rfl) (by decide) ?_
              refine VL.to (fun _ _ h => h) ?_
              refine VC.keep [0, 1, 2, 3, 9, 10] rfl ?_
              refine VC.region ?_
              refine VL.q (q_move rfl) (by decide) ?_
              obtain ⟨b57, hS⟩ := gd_s hS
              refine VL.q (q_add rfl rfl b57) (by decide) ?_
              refine VL.q (q_assign rfl) (by decide) ?_
              refine VL.rnd (y55_19, w17, (x10_13 + 1)) [0, 1, 2, 3, 9, 10] (fun _ _ h => h) (go2 hS hK1) rfl
          ·
            replace hS := it_f h36 hS
            replace hS := up2 hS hK1
            refine VC.exit_mt (x0_11, x9_12, x10_13) [0, 9, 10] (fun _ _ h => h) hS rfl
        · -- from there
          clear hS
          rintro ⟨x0_7, x9_8, x10_9⟩ hS
          show VC _ _ _ _ _ [(0, str x0_7), (9, x9_8.val), (10, i64 x10_9)] (Mo.and Mo.tt _) (Ow.star (Sv.own x9_8 9) (Ow.emp))
          refine VC.seq ?_
          refine VC.region ?_
          refine VL.q (q_move rfl) (by decide) ?_
          refine VL.q (q_move rfl) (by decide) ?_
          refine VL.q (q_move rfl) (by decide) ?_
          obtain ⟨z61_20, nz61_20, hz61_20, hS⟩ := at_s hS
          refine VL.q (q_ixo (s := x9_8) Tryd.underlying58 gsz9 rfl rfl nz61_20 (lt_of_get nz61_20 hz61_20)) (by decide) ?_
          refine VL.storeE (s := x9_8) (T := 9) (j := 0) (vc := [str x0_7]) (x0_7 : Str) (by decide) rfl rfl hz61_20 rfl gsz9 rfl rfl (Nat.le_of_ble_eq_true rfl) rfl (fun w21 hw21 haw21 hcw21 hvw21 hbw21 how21 => ?_)
          rw [← hvw21]
          replace hS := lt_to hw21 hS
          refine VL.to (fun _ _ h => h) ?_
          refine VC.seq ?_
          refine VC.region ?_
          refine VL.q (q_move rfl) (by decide) ?_
          refine VL.q (q_move rfl) (by decide) ?_
          obtain ⟨b64, hS⟩ := gd_s hS
          refine VL.q (q_add rfl rfl b64) (by decide) ?_
          refine VL.shut w21 9 (fun _ _ _ _ => trivial) ?_
          obtain ⟨b65, hS⟩ := gd_s hS
          refine VL.sto Tryd.underlying58 gsz9 rfl rfl b65.1 (b65.2) (by decide) fun s65_23 hs65_23 => ?_
          replace hS := lt_to hs65_23 hS
          refine VL.q (q_assign rfl) (by decide) ?_
          refine VL.to (fun _ _ h => h) ?_
          refine VC.keep [8] rfl ?_
          cases hS
          exact VC.ret (fin1 (.inr rfl) rfl rfl s65_23 rfl rfl (by (try dsimp only); exact InM.out) (fun _ _ => trivial))

set_option maxHeartbeats 4000000 in
set_option maxRecDepth 100000 in
theorem strings_Split_ct (s_0 : Str) (sep_1 : Str) {r : List Str} (hS : Sh.strings_Split s_0 sep_1 = some r) :
    Ct Tryd.prog 54 [str s_0, str sep_1] Mo.tt (Ow.emp) (X := Sv Str) (fun x => x.val) (fun x => r = x.l) (fun x => x.ok) (fun x => Ow.emp) := by
  refine Ct.of Tryd.func54 rfl (by kernel_rfl) Tryd.ntmps54 (by simp) fun c => ?_
  unfold Sh.strings_Split at hS
  refine VC.seq ?_
  refine VC.region ?_
  refine VL.q (q_assign rfl) (by decide) ?_
  refine VL.to (fun _ _ h => h) ?_
  refine VC.seq ?_
  refine VC.region ?_
  refine VL.q (q_move rfl) (by decide) ?_
  refine VL.q (q_move rfl) (by decide) ?_
  obtain ⟨y7_1, ey7_1, hS⟩ := bd_s hS
  refine VL.callF (strings_genSplit_ct s_0 sep_1 0 (-1) ey7_1) rfl (by decide) ?_
  rintro q7_1_0 rfl
  try dsimp only
  refine VL.q (q_assign rfl) (by decide) ?_
  refine VL.to (fun _ _ h => h) ?_
  cases hS
  exact VC.ret (fin1 (.inr rfl) rfl rfl q7_1_0 rfl rfl (by (try dsimp only); exact InM.out) (fun _ _ => trivial))

set_option maxHeartbeats 4000000 in
set_option maxRecDepth 100000 in
theorem path_good_ct (c_0 : Int) {r : Bool} (hS : Sh.path_good c_0 = some r) :
    Ct Tryd.prog 180 [.int .u8 c_0] Mo.tt (Ow.emp) (X := Unit) (fun _ => .bool r) (fun _ => True) (fun _ => Mo.tt) (fun _ => Ow.emp) := by
  refine Ct.of Tryd.func180 rfl (by kernel_rfl) Tryd.ntmps180 (by simp) fun c => ?_
  unfold Sh.path_good at hS
  refine VC.seq ?_
  refine VC.region ?_
  refine VL.q (q_assign rfl) (by decide) ?_
  refine VL.to (fun _ _ h => h) ?_
  refine VC.cutJ (S := Unit) (fun (_ : Unit) => ()) (fun (_ : Unit) => [(0, .int .u8 c_0)]) (fun (_ : Unit) => Mo.tt) (fun (_ : Unit) => Ow.emp) hS ?_ ?_
  · -- up to where ways meet
    clear hS
    intro k1 hS
    refine VC.seq ?_
    refine VC.region ?_
    refine VL.q (q_move rfl) (by decide) ?_
    refine VL.to (fun _ _ h => h) ?_
    refine VC.block ?_
    refine VC.cutJ (S := Unit) (fun (_ : Unit) => ()) (fun (_ : Unit) => []) (fun (_ : Unit) => Mo.tt) (fun (_ : Unit) => Ow.emp) hS ?_ ?_
    · -- up to where ways meet
      clear hS
      intro k2 hS
      refine VC.block ?_
      refine VC.block ?_
      refine VC.block ?_
      refine VC.seq ?_
      refine VC.seq ?_
      refine VC.seq ?_
      refine VC.region ?_
      refine VL.q (q_eql rfl rfl) (by decide) ?_
      refine VL.q (q_assign rfl) (by decide) ?_
      refine VL.to (fun _ _ h => h) ?_
      refine VC.cond_dec rfl (fun h4 => ?_) (fun h4 => ?_)
      ·
        replace hS := it_t h4 hS
        refine VC.exit_mt () [] (fun _ _ h => h) hS rfl
      ·
        replace hS := it_f h4 hS
        refine VC.skip_to (fun _ _ h => h) ?_
        refine VC.seq ?_
        refine VC.seq ?_
        refine VC.region ?_
        refine VL.q (q_eql rfl rfl) (by decide) ?_
        refine VL.q (q_assign rfl) (by decide) ?_
        refine VL.to (fun _ _ h => h) ?_
        refine VC.cond_dec rfl (fun h6 => ?_) (fun h6 => ?_)
        ·
          replace hS := it_t h6 hS
          refine VC.exit_mt () [] (fun _ _ h => h) hS rfl
        ·
          replace hS := it_f h6 hS
          refine VC.skip_to (fun _ _ h => h) ?_
          refine VC.seq ?_
          refine VC.region ?_
          refine VL.q (q_eql rfl rfl) (by decide) ?_
          refine VL.q (q_assign rfl) (by decide) ?_
          refine VL.to (fun _ _ h => h) ?_
          refine VC.cond_dec rfl (fun h8 => ?_) (fun h8 => ?_)
          ·
            replace hS := it_t h8 hS
            refine VC.exit_mt () [] (fun _ _ h => h) hS rfl
          ·
            replace hS := it_f h8 hS
            refine VC.skip_to (fun _ _ h => h) ?_
            refine VC.exit_mt () [0] (fun _ _ h => h) hS rfl
    · -- from there
      clear hS
      rintro _ hS
      show VC _ _ _ _ _ [] (Mo.and Mo.tt _) (Ow.emp)
      refine VC.seq ?_
      refine VC.seq ?_
      refine VC.region ?_
      refine VL.q (q_assign rfl) (by decide) ?_
      refine VL.to (fun _ _ h => h) ?_
      cases hS
      exact VC.ret (fin1 (.inr rfl) rfl rfl () rfl trivial (fun _ _ => trivial) (fun _ _ => trivial))
  · -- from there
    clear hS
    rintro _ hS
    show VC _ _ _ _ _ [(0, .int .u8 c_0)] (Mo.and Mo.tt _) (Ow.emp)
    refine VC.seq ?_
    refine VC.region ?_
    refine VL.q (q_move rfl) (by decide) ?_
    refine VL.q (q_geq rfl rfl) (by decide) ?_
    refine VL.q (q_move rfl) (by decide) ?_
    refine VL.split_dec 12 rfl (fun h12 => ?_) (fun h12 => ?_)
    ·
      replace hS := it_t h12 hS
      refine VL.gy rfl rfl (q_move rfl) (by decide) ?_
      refine VL.gy rfl rfl (q_leq rfl rfl) (by decide) ?_
      refine VL.q (q_pick_t rfl rfl) (by decide) ?_
      refine VL.q (q_move rfl) (by decide) ?_
      refine VL.split_dec 16 rfl (fun h16 => ?_) (fun h16 => ?_)
      ·
        replace hS := it_t h16 hS
        refine VL.gn rfl rfl rfl (by decide) ?_
        refine VL.gn rfl rfl rfl (by decide) ?_
        refine VL.gn rfl rfl rfl (by decide) ?_
        refine VL.gu rfl rfl (by decide) ?_
        refine VL.gu rfl rfl (by decide) ?_
        refine VL.gn rfl rfl rfl (by decide) ?_
        refine VL.q (q_pick_t rfl rfl) (by decide) ?_
        refine VL.q (q_assign rfl) (by decide) ?_
        refine VL.to (fun _ _ h => h) ?_
        refine VC.keep [2] rfl ?_
        cases hS
        exact VC.ret (fin1 (.inr rfl) rfl rfl () rfl trivial (fun _ _ => trivial) (fun _ _ => trivial))
      ·
        replace hS := it_f h16 hS
        refine VL.gy rfl rfl (q_move rfl) (by decide) ?_
        refine VL.gy rfl rfl (q_geq rfl rfl) (by decide) ?_
        refine VL.gy rfl rfl (q_move rfl) (by decide) ?_
        refine VL.split_dec 19 rfl (fun h19 => ?_) (fun h19 => ?_)
        ·
          replace hS := it_t h19 hS
          refine VL.gy rfl rfl (q_move rfl) (by decide) ?_
          refine VL.gy rfl rfl (q_leq rfl rfl) (by decide) ?_
          refine VL.gy rfl rfl (q_pick_t rfl rfl) (by decide) ?_
          refine VL.q (q_pick_f rfl rfl) (by decide) ?_
          refine VL.q (q_assign rfl) (by decide) ?_
          refine VL.to (fun _ _ h => h) ?_
          refine VC.keep [2] rfl ?_
          cases hS
          exact VC.ret (fin1 (.inr rfl) rfl rfl () rfl trivial (fun _ _ => trivial) (fun _ _ => trivial))
        ·
          replace hS := it_f h19 hS
          refine VL.gn rfl rfl rfl (by decide) ?_
          refine VL.gn rfl rfl rfl (by decide) ?_
          refine VL.gy rfl rfl (q_pick_f rfl rfl) (by decide) ?_
          refine VL.q (q_pick_f rfl rfl) (by decide) ?_
          refine VL.q (q_assign rfl) (by decide) ?_
          refine VL.to (fun _ _ h => h) ?_
          refine VC.keep [2] rfl ?_
          cases hS
          exact VC.ret (fin1 (.inr rfl) rfl rfl () rfl trivial (fun _ _ => trivial) (fun _ _ => trivial))
    ·
      replace hS := it_f h12 hS
      refine VL.gn rfl rfl rfl (by decide) ?_
      refine VL.gn rfl rfl rfl (by decide) ?_
      refine VL.q (q_pick_f rfl rfl) (by decide) ?_
      refine VL.q (q_move rfl) (by decide) ?_
      refine VL.gy rfl rfl (q_move rfl) (by decide) ?_
      refine VL.gy rfl rfl (q_geq rfl rfl) (by decide) ?_
      refine VL.gy rfl rfl (q_move rfl) (by decide) ?_
      refine VL.split_dec 19 rfl (fun h19 => ?_) (fun h19 => ?_)
      ·
        replace hS := it_t h19 hS
        refine VL.gy rfl rfl (q_move rfl) (by decide) ?_
        refine VL.gy rfl rfl (q_leq rfl rfl) (by decide) ?_
        refine VL.gy rfl rfl (q_pick_t rfl rfl) (by decide) ?_
        refine VL.q (q_pick_f rfl rfl) (by decide) ?_
        refine VL.q (q_assign rfl) (by decide) ?_
        refine VL.to (fun _ _ h => h) ?_
        refine VC.keep [2] rfl ?_
        cases hS
        exact VC.ret (fin1 (.inr rfl) rfl rfl () rfl trivial (fun _ _ => trivial) (fun _ _ => trivial))
      ·
        replace hS := it_f h19 hS
        refine VL.gn rfl rfl rfl (by decide) ?_
        refine VL.gn rfl rfl rfl (by decide) ?_
        refine VL.gy rfl rfl (q_pick_f rfl rfl) (by decide) ?_
        refine VL.q (q_pick_f rfl rfl) (by decide) ?_
        refine VL.q (q_assign rfl) (by decide) ?_
        refine VL.to (fun _ _ h => h) ?_
        refine VC.keep [2] rfl ?_
        cases hS
        exact VC.ret (fin1 (.inr rfl) rfl rfl () rfl trivial (fun _ _ => trivial) (fun _ _ => trivial))

set_option maxHeartbeats 4000000 in
set_option maxRecDepth 100000 in
theorem path_part_ct (s_0 : Str) {r : Bool} (hS : Sh.path_part s_0 = some r) :
    Ct Tryd.prog 147 [str s_0] Mo.tt (Ow.emp) (X := Unit) (fun _ => .bool r) (fun _ => True) (fun _ => Mo.tt) (fun _ => Ow.emp) := by
  refine Ct.of Tryd.func147 rfl (by kernel_rfl) Tryd.ntmps147 (by simp) fun c => ?_
  unfold Sh.path_part at hS
  refine VC.seq ?_
  refine VC.region ?_
  refine VL.q (q_assign rfl) (by decide) ?_
  refine VL.to (fun _ _ h => h) ?_
  refine VC.seq ?_
  refine VC.cutJ (S := Bool) (fun (x14_1 : Bool) => x14_1) (fun (x14_1 : Bool) => [(0, str s_0), (14, .bool x14_1)]) (fun (x14_1 : Bool) => Mo.tt) (fun (x14_1 : Bool) => Ow.emp) hS ?_ ?_
  · -- up to where ways meet
    clear hS
    intro k2 hS
    refine VC.region ?_
    refine VL.q (q_move rfl) (by decide) ?_
    refine VL.q (q_seq rfl rfl) (by decide) ?_
    refine VL.q (q_move rfl) (by decide) ?_
    refine VL.split_dec 7 rfl (fun h7 => ?_) (fun h7 => ?_)
    ·
      replace hS := it_t h7 hS
      refine VL.gn rfl rfl rfl (by decide) ?_
      refine VL.gn rfl rfl rfl (by decide) ?_
      refine VL.q (q_pick_t rfl rfl) (by decide) ?_
      refine VL.q (q_move rfl) (by decide) ?_
      refine VL.gn rfl rfl rfl (by decide) ?_
      refine VL.gn rfl rfl rfl (by decide) ?_
      refine VL.q (q_pick_t rfl rfl) (by decide) ?_
      refine VL.mt true [0, 14] (fun _ _ h => h) hS rfl
    ·
      replace hS := it_f h7 hS
      refine VL.gy rfl rfl (q_move rfl) (by decide) ?_
      refine VL.gy rfl rfl (q_seq rfl rfl) (by decide) ?_
      refine VL.q (q_pick_f rfl rfl) (by decide) ?_
      refine VL.q (q_move rfl) (by decide) ?_
      refine VL.split_dec 11 rfl (fun h11 => ?_) (fun h11 => ?_)
      ·
        replace hS := it_t h11 hS
        refine VL.gn rfl rfl rfl (by decide) ?_
        refine VL.gn rfl rfl rfl (by decide) ?_
        refine VL.q (q_pick_t rfl rfl) (by decide) ?_
        refine VL.mt true [0, 14] (fun _ _ h => h) hS rfl
      ·
        replace hS := it_f h11 hS
        refine VL.gy rfl rfl (q_move rfl) (by decide) ?_
        refine VL.gy rfl rfl (q_seq rfl rfl) (by decide) ?_
        refine VL.q (q_pick_f rfl rfl) (by decide) ?_
        refine VL.mt (decide (s_0 = [46, 46])) [0, 14] (fun _ _ h => h) hS rfl
  · -- from there
    clear hS
    rintro x14_1 hS
    show VC _ _ _ _ _ [(0, str s_0), (14, .bool x14_1)] (Mo.and Mo.tt _) (Ow.emp)
    refine VC.cond rfl (fun h14 => ?_) (fun h14 => ?_)
    ·
      replace hS := it_t h14 hS
      refine VC.seq ?_
      refine VC.region ?_
      refine VL.q (q_assign rfl) (by decide) ?_
      refine VL.to (fun _ _ h => h) ?_
      cases hS
      exact VC.ret (fin1 (.inr rfl) rfl rfl () rfl trivial (fun _ _ => trivial) (fun _ _ => trivial))
    ·
      replace hS := it_b h14 hS
      refine VC.skip_to (fun _ _ h => h) ?_
      refine VC.seq ?_
      refine VC.seq ?_
      refine VC.region ?_
      refine VL.q (q_move rfl) (by decide) ?_
      obtain ⟨b16, hS⟩ := gd_s hS
      refine VL.s2b Tryd.underlying9 Tryd.underlying22 Tryd.underlying5 rfl b16 (by decide) fun s16_3 hs16_3 => ?_
      replace hS := lt_to hs16_3 hS
      refine VL.q (q_ln (s := s16_3) Tryd.underlying22 rfl) (by decide) ?_
      refine VL.q (q_move rfl) (by decide) ?_
      refine VL.to (fun _ _ h => h) ?_
      refine VC.block ?_
      refine VC.iter (S := Int) (fun (x18_5 : Int) => x18_5) (fun (x18_5 : Int) => [(16, s16_3.val), (17, i64 (s16_3.l.length : Int)), (18, i64 x18_5)]) (fun (x18_5 : Int) => Mo.tt) (fun (x18_5 : Int) => Ow.emp) 0 [16, 17, 18] hS rfl ?_
      clear hS
      rintro x18_5 m1 y1 hS hK1
      show VC _ _ _ _ _ [(16, s16_3.val), (17, i64 (s16_3.l.length : Int)), (18, i64 x18_5)] (Mo.and Mo.tt _) (Ow.emp)
      refine VC.seq ?_
      refine VC.region ?_
      refine VL.q (q_lss rfl rfl) (by decide) ?_
      refine VL.to (fun _ _ h => h) ?_
      refine VC.seq ?_
      refine VC.cond_dec rfl (fun h19 => ?_) (fun h19 => ?_)
      ·
        replace hS := it_t h19 hS
        refine VC.skip_to (fun _ _ h => h) ?_
        refine VC.seq ?_
        refine VC.block ?_
        refine VC.seq ?_
        refine VC.region ?_
        obtain ⟨z20_6, nz20_6, hz20_6, hS⟩ := at_s hS
        refine VL.q (q_ixm (s := s16_3) Tryd.underlying22 gsz5 rfl rfl nz20_6 (lt_of_get nz20_6 hz20_6)) (by decide) ?_
        refine VL.q (q_el (s := s16_3) gone5 rfl hz20_6 rfl) (by decide) ?_
        refine VL.q (q_assign rfl) (by decide) ?_
        refine VL.to (fun _ _ h => h) ?_
        refine VC.seq ?_
        refine VC.region ?_
        refine VL.q (q_move rfl) (by decide) ?_
        obtain ⟨y23_7, ey23_7, hS⟩ := bd_s hS
        refine VL.q (q_call (path_good_ct (z20_6.toNat : Int) ey23_7) rfl (fun _ _ => rfl)) (by decide) ?_
        refine VL.q (q_not rfl) (by decide) ?_
        refine VL.to (fun _ _ h => h) ?_
        refine VC.cond rfl (fun h24 => ?_) (fun h24 => ?_)
        ·
          replace hS := it_t h24 hS
          refine VC.seq ?_
          refine VC.region ?_
          refine VL.q (q_assign rfl) (by decide) ?_
          refine VL.to (fun _ _ h => h) ?_
          refine VC.keep [2] rfl ?_
          replace hS := up2 hS hK1
          cases hS
          exact VC.ret (fin1 (.inr rfl) rfl rfl () rfl trivial (fun _ _ => trivial) (fun _ _ => trivial))
        ·
          replace hS := it_b h24 hS
          refine VC.skip_to (fun _ _ h => h) ?_
          refine VC.region ?_
          obtain ⟨b25, hS⟩ := gd_s hS
          refine VL.q (q_add rfl rfl b25) (by decide) ?_
          refine VL.q (q_move rfl) (by decide) ?_
          refine VL.rnd (x18_5 + 1) [16, 17, 18] (fun _ _ h => h) (go2 hS hK1) rfl
      ·
        replace hS := it_f h19 hS
        replace hS := up2 hS hK1
        refine VC.exit_to (fun _ _ h => h) ?_
        refine VC.seq ?_
        refine VC.region ?_
        refine VL.q (q_assign rfl) (by decide) ?_
        refine VL.to (fun _ _ h => h) ?_
        cases hS
        exact VC.ret (fin1 (.inr rfl) rfl rfl () rfl trivial (fun _ _ => trivial) (fun _ _ => trivial))

set_option maxHeartbeats 4000000 in
set_option maxRecDepth 100000 in
theorem path_Check_ct (p_0 : Str) {r : Int} (hS : Sh.path_Check p_0 = some r) :
    Ct Tryd.prog 108 [str p_0] Mo.tt (Ow.emp) (X := Unit) (fun _ => i64 r) (fun _ => True) (fun _ => Mo.tt) (fun _ => Ow.emp) := by
  refine Ct.of Tryd.func108 rfl (by kernel_rfl) Tryd.ntmps108 (by simp) fun c => ?_
  unfold Sh.path_Check at hS
  refine VC.seq ?_
  refine VC.region ?_
  refine VL.q (q_assign rfl) (by decide) ?_
  refine VL.to (fun _ _ h => h) ?_
  refine VC.seq ?_
  refine VC.seq ?_
  refine VC.region ?_
  refine VL.q (q_move rfl) (by decide) ?_
  refine VL.q (q_slen Tryd.underlying9 rfl) (by decide) ?_
  refine VL.q (q_gtr rfl rfl) (by decide) ?_
  refine VL.to (fun _ _ h => h) ?_
  refine VC.cond_dec rfl (fun h7 => ?_) (fun h7 => ?_)
  ·
    replace hS := it_t h7 hS
    refine VC.seq ?_
    refine VC.region ?_
    refine VL.q (q_assign rfl) (by decide) ?_
    refine VL.to (fun _ _ h => h) ?_
    cases hS
    exact VC.ret (fin1 (.inr rfl) rfl rfl () rfl trivial (fun _ _ => trivial) (fun _ _ => trivial))
  ·
    replace hS := it_f h7 hS
    refine VC.skip_to (fun _ _ h => h) ?_
    refine VC.seq ?_
    refine VC.seq ?_
    refine VC.region ?_
    refine VL.q (q_move rfl) (by decide) ?_
    obtain ⟨y9_1, ey9_1, hS⟩ := bd_s hS
    refine VL.callF (strings_Split_ct p_0 [47] ey9_1) rfl (by decide) ?_
    rintro q9_1_0 rfl
    try dsimp only
    refine VL.q (q_ln (s := q9_1_0) Tryd.underlying58 rfl) (by decide) ?_
    refine VL.q (q_move rfl) (by decide) ?_
    refine VL.to (fun _ _ h => h) ?_
    refine VC.block ?_
    refine VC.iter (S := Int) (fun (x11_2 : Int) => x11_2) (fun (x11_2 : Int) => [(9, q9_1_0.val), (10, i64 (q9_1_0.l.length : Int)), (11, i64 x11_2)]) (fun (x11_2 : Int) => Mo.tt) (fun (x11_2 : Int) => Ow.emp) 0 [9, 10, 11] hS rfl ?_
    clear hS
    rintro x11_2 m1 y1 hS hK1
    show VC _ _ _ _ _ [(9, q9_1_0.val), (10, i64 (q9_1_0.l.length : Int)), (11, i64 x11_2)] (Mo.and Mo.tt _) (Ow.emp)
    refine VC.seq ?_
    refine VC.region ?_
    refine VL.q (q_lss rfl rfl) (by decide) ?_
    refine VL.to (fun _ _ h => h) ?_
    refine VC.seq ?_
    refine VC.cond_dec rfl (fun h12 => ?_) (fun h12 => ?_)
    ·
      replace hS := it_t h12 hS
      refine VC.skip_to (fun _ _ h => h) ?_
      refine VC.seq ?_
      refine VC.block ?_
      refine VC.seq ?_
      refine VC.region ?_
      obtain ⟨z13_3, nz13_3, hz13_3, hS⟩ := at_s hS
      refine VL.q (q_ixm (s := q9_1_0) Tryd.underlying58 gsz9 rfl rfl nz13_3 (lt_of_get nz13_3 hz13_3)) (by decide) ?_
      refine VL.q (q_el (s := q9_1_0) gone9 rfl hz13_3 rfl) (by decide) ?_
      refine VL.q (q_assign rfl) (by decide) ?_
      refine VL.to (fun _ _ h => h) ?_
      refine VC.seq ?_
      refine VC.region ?_
      refine VL.q (q_move rfl) (by decide) ?_
      obtain ⟨y16_4, ey16_4, hS⟩ := bd_s hS
      refine VL.q (q_call (path_part_ct z13_3 ey16_4) rfl (fun _ _ => rfl)) (by decide) ?_
      refine VL.q (q_not rfl) (by decide) ?_
      refine VL.to (fun _ _ h => h) ?_
      refine VC.cond rfl (fun h17 => ?_) (fun h17 => ?_)
      ·
        replace hS := it_t h17 hS
        refine VC.seq ?_
        refine VC.region ?_
        refine VL.q (q_assign rfl) (by decide) ?_
        refine VL.to (fun _ _ h => h) ?_
        refine VC.keep [2] rfl ?_
        replace hS := up2 hS hK1
        cases hS
        exact VC.ret (fin1 (.inr rfl) rfl rfl () rfl trivial (fun _ _ => trivial) (fun _ _ => trivial))
      ·
        replace hS := it_b h17 hS
        refine VC.skip_to (fun _ _ h => h) ?_
        refine VC.region ?_
        obtain ⟨b18, hS⟩ := gd_s hS
        refine VL.q (q_add rfl rfl b18) (by decide) ?_
        refine VL.q (q_move rfl) (by decide) ?_
        refine VL.rnd (x11_2 + 1) [9, 10, 11] (fun _ _ h => h) (go2 hS hK1) rfl
    ·
      replace hS := it_f h12 hS
      replace hS := up2 hS hK1
      refine VC.exit_to (fun _ _ h => h) ?_
      refine VC.seq ?_
      refine VC.region ?_
      refine VL.q (q_assign rfl) (by decide) ?_
      refine VL.to (fun _ _ h => h) ?_
      cases hS
      exact VC.ret (fin1 (.inr rfl) rfl rfl () rfl trivial (fun _ _ => trivial) (fun _ _ => trivial))

set_option maxHeartbeats 4000000 in
set_option maxRecDepth 100000 in
theorem object_mode_ct (m_0 : Int) {r : Bool} (hS : Sh.object_mode m_0 = some r) :
    Ct Tryd.prog 184 [i64 m_0] Mo.tt (Ow.emp) (X := Unit) (fun _ => .bool r) (fun _ => True) (fun _ => Mo.tt) (fun _ => Ow.emp) := by
  refine Ct.of Tryd.func184 rfl (by kernel_rfl) Tryd.ntmps184 (by simp) fun c => ?_
  unfold Sh.object_mode at hS
  refine VC.seq ?_
  refine VC.region ?_
  refine VL.q (q_assign rfl) (by decide) ?_
  refine VL.to (fun _ _ h => h) ?_
  refine VC.seq ?_
  refine VC.seq ?_
  refine VC.region ?_
  refine VL.q (q_move rfl) (by decide) ?_
  refine VL.to (fun _ _ h => h) ?_
  refine VC.block ?_
  refine VC.cutJ (S := Unit) (fun (_ : Unit) => ()) (fun (_ : Unit) => []) (fun (_ : Unit) => Mo.tt) (fun (_ : Unit) => Ow.emp) hS ?_ ?_
  · -- up to where ways meet
    clear hS
    intro k1 hS
    refine VC.block ?_
    refine VC.block ?_
    refine VC.seq ?_
    refine VC.seq ?_
    refine VC.seq ?_
    refine VC.region ?_
    refine VL.q (q_eql rfl rfl) (by decide) ?_
    refine VL.q (q_assign rfl) (by decide) ?_
    refine VL.to (fun _ _ h => h) ?_
    refine VC.cond_dec rfl (fun h4 => ?_) (fun h4 => ?_)
    ·
      replace hS := it_t h4 hS
      refine VC.exit_mt () [] (fun _ _ h => h) hS rfl
    ·
      replace hS := it_f h4 hS
      refine VC.skip_to (fun _ _ h => h) ?_
      refine VC.seq ?_
      refine VC.region ?_
      refine VL.q (q_eql rfl rfl) (by decide) ?_
      refine VL.q (q_assign rfl) (by decide) ?_
      refine VL.to (fun _ _ h => h) ?_
      refine VC.cond_dec rfl (fun h6 => ?_) (fun h6 => ?_)
      ·
        replace hS := it_t h6 hS
        refine VC.exit_mt () [] (fun _ _ h => h) hS rfl
      ·
        replace hS := it_f h6 hS
        refine VC.skip_to (fun _ _ h => h) ?_
        refine VC.exit_to (fun _ _ h => h) ?_
        refine VC.seq ?_
        refine VC.region ?_
        refine VL.q (q_assign rfl) (by decide) ?_
        refine VL.to (fun _ _ h => h) ?_
        cases hS
        exact VC.ret (fin1 (.inr rfl) rfl rfl () rfl trivial (fun _ _ => trivial) (fun _ _ => trivial))
  · -- from there
    clear hS
    rintro _ hS
    show VC _ _ _ _ _ [] (Mo.and Mo.tt _) (Ow.emp)
    refine VC.seq ?_
    refine VC.seq ?_
    refine VC.region ?_
    refine VL.q (q_assign rfl) (by decide) ?_
    refine VL.to (fun _ _ h => h) ?_
    cases hS
    exact VC.ret (fin1 (.inr rfl) rfl rfl () rfl trivial (fun _ _ => trivial) (fun _ _ => trivial))

set_option maxHeartbeats 4000000 in
set_option maxRecDepth 100000 in
theorem cmp_isNaN_string_ct (x_0 : Str) {r : Bool} (hS : Sh.cmp_isNaN_string x_0 = some r) :
    Ct Tryd.prog 181 [str x_0] Mo.tt (Ow.emp) (X := Unit) (fun _ => .bool r) (fun _ => True) (fun _ => Mo.tt) (fun _ => Ow.emp) := by
  refine Ct.of Tryd.func181 rfl (by kernel_rfl) Tryd.ntmps181 (by simp) fun c => ?_
  unfold Sh.cmp_isNaN_string at hS
  refine VC.seq ?_
  refine VC.region ?_
  refine VL.q (q_assign rfl) (by decide) ?_
  refine VL.to (fun _ _ h => h) ?_
  refine VC.seq ?_
  refine VC.region ?_
  refine VL.q (q_move rfl) (by decide) ?_
  refine VL.q (q_move rfl) (by decide) ?_
  refine VL.q (q_sne rfl rfl) (by decide) ?_
  refine VL.q (q_assign rfl) (by decide) ?_
  refine VL.to (fun _ _ h => h) ?_
  cases hS
  exact VC.ret (fin1 (.inr rfl) rfl rfl () rfl trivial (fun _ _ => trivial) (fun _ _ => trivial))

set_option maxHeartbeats 4000000 in
set_option maxRecDepth 100000 in
theorem cmp_Compare_string_ct (x_0 : Str) (y_1 : Str) {r : Int} (hS : Sh.cmp_Compare_string x_0 y_1 = some r) :
    Ct Tryd.prog 148 [str x_0, str y_1] Mo.tt (Ow.emp) (X := Unit) (fun _ => i64 r) (fun _ => True) (fun _ => Mo.tt) (fun _ => Ow.emp) := by
  refine Ct.of Tryd.func148 rfl (by kernel_rfl) Tryd.ntmps148 (by simp) fun c => ?_
  unfold Sh.cmp_Compare_string at hS
  refine VC.seq ?_
  refine VC.region ?_
  refine VL.q (q_assign rfl) (by decide) ?_
  refine VL.to (fun _ _ h => h) ?_
  refine VC.seq ?_
  refine VC.region ?_
  refine VL.q (q_move rfl) (by decide) ?_
  obtain ⟨y8_1, ey8_1, hS⟩ := bd_s hS
  refine VL.q (q_call (cmp_isNaN_string_ct x_0 ey8_1) rfl (fun _ _ => rfl)) (by decide) ?_
  refine VL.q (q_assign rfl) (by decide) ?_
  refine VL.to (fun _ _ h => h) ?_
  refine VC.seq ?_
  refine VC.region ?_
  refine VL.q (q_move rfl) (by decide) ?_
  obtain ⟨y10_2, ey10_2, hS⟩ := bd_s hS
  refine VL.q (q_call (cmp_isNaN_string_ct y_1 ey10_2) rfl (fun _ _ => rfl)) (by decide) ?_
  refine VL.q (q_assign rfl) (by decide) ?_
  refine VL.to (fun _ _ h => h) ?_
  refine VC.seq ?_
  refine VC.seq ?_
  refine VC.region ?_
  refine VL.q (q_move rfl) (by decide) ?_
  refine VL.to (fun _ _ h => h) ?_
  refine VC.cond rfl (fun h11 => ?_) (fun h11 => ?_)
  ·
    replace hS := it_t h11 hS
    refine VC.seq ?_
    refine VC.seq ?_
    refine VC.region ?_
    refine VL.q (q_move rfl) (by decide) ?_
    refine VL.to (fun _ _ h => h) ?_
    refine VC.keep [12] rfl ?_
    refine VC.cond rfl (fun h12 => ?_) (fun h12 => ?_)
    ·
      replace hS := it_t h12 hS
      refine VC.seq ?_
      refine VC.region ?_
      refine VL.q (q_assign rfl) (by decide) ?_
      refine VL.to (fun _ _ h => h) ?_
      cases hS
      exact VC.ret (fin1 (.inr rfl) rfl rfl () rfl trivial (fun _ _ => trivial) (fun _ _ => trivial))
    ·
      replace hS := it_b h12 hS
      refine VC.skip_to (fun _ _ h => h) ?_
      refine VC.seq ?_
      refine VC.region ?_
      refine VL.q (q_assign rfl) (by decide) ?_
      refine VL.to (fun _ _ h => h) ?_
      cases hS
      exact VC.ret (fin1 (.inr rfl) rfl rfl () rfl trivial (fun _ _ => trivial) (fun _ _ => trivial))
  ·
    replace hS := it_b h11 hS
    refine VC.skip_to (fun _ _ h => h) ?_
    refine VC.seq ?_
    refine VC.seq ?_
    refine VC.region ?_
    refine VL.q (q_move rfl) (by decide) ?_
    refine VL.to (fun _ _ h => h) ?_
    refine VC.keep [0, 1, 13] rfl ?_
    refine VC.cond rfl (fun h13 => ?_) (fun h13 => ?_)
    ·
      replace hS := it_t h13 hS
      refine VC.seq ?_
      refine VC.region ?_
      refine VL.q (q_assign rfl) (by decide) ?_
      refine VL.to (fun _ _ h => h) ?_
      cases hS
      exact VC.ret (fin1 (.inr rfl) rfl rfl () rfl trivial (fun _ _ => trivial) (fun _ _ => trivial))
    ·
      replace hS := it_b h13 hS
      refine VC.skip_to (fun _ _ h => h) ?_
      refine VC.seq ?_
      refine VC.seq ?_
      refine VC.region ?_
      refine VL.q (q_move rfl) (by decide) ?_
      refine VL.q (q_move rfl) (by decide) ?_
      refine VL.q (q_slss rfl rfl) (by decide) ?_
      refine VL.to (fun _ _ h => h) ?_
      refine VC.cond rfl (fun h16 => ?_) (fun h16 => ?_)
      ·
        replace hS := it_t h16 hS
        refine VC.seq ?_
        refine VC.region ?_
        refine VL.q (q_assign rfl) (by decide) ?_
        refine VL.to (fun _ _ h => h) ?_
        cases hS
        exact VC.ret (fin1 (.inr rfl) rfl rfl () rfl trivial (fun _ _ => trivial) (fun _ _ => trivial))
      ·
        replace hS := it_b h16 hS
        refine VC.skip_to (fun _ _ h => h) ?_
        refine VC.seq ?_
        refine VC.seq ?_
        refine VC.region ?_
        refine VL.q (q_move rfl) (by decide) ?_
        refine VL.q (q_move rfl) (by decide) ?_
        refine VL.q (q_sgtr rfl rfl) (by decide) ?_
        refine VL.to (fun _ _ h => h) ?_
        refine VC.cond rfl (fun h19 => ?_) (fun h19 => ?_)
        ·
          replace hS := it_t h19 hS
          refine VC.seq ?_
          refine VC.region ?_
          refine VL.q (q_assign rfl) (by decide) ?_
          refine VL.to (fun _ _ h => h) ?_
          cases hS
          exact VC.ret (fin1 (.inr rfl) rfl rfl () rfl trivial (fun _ _ => trivial) (fun _ _ => trivial))
        ·
          replace hS := it_b h19 hS
          refine VC.skip_to (fun _ _ h => h) ?_
          refine VC.seq ?_
          refine VC.region ?_
          refine VL.q (q_assign rfl) (by decide) ?_
          refine VL.to (fun _ _ h => h) ?_
          cases hS
          exact VC.ret (fin1 (.inr rfl) rfl rfl () rfl trivial (fun _ _ => trivial) (fun _ _ => trivial))

set_option maxHeartbeats 4000000 in
set_option maxRecDepth 100000 in
theorem path_Compare_ct (a_0 : Str) (b_1 : Str) {r : Int} (hS : Sh.path_Compare a_0 b_1 = some r) :
    Ct Tryd.prog 109 [str a_0, str b_1] Mo.tt (Ow.emp) (X := Unit) (fun _ => i64 r) (fun _ => True) (fun _ => Mo.tt) (fun _ => Ow.emp) := by
  refine Ct.of Tryd.func109 rfl (by kernel_rfl) Tryd.ntmps109 (by simp) fun c => ?_
  unfold Sh.path_Compare at hS
  refine VC.seq ?_
  refine VC.region ?_
  refine VL.q (q_assign rfl) (by decide) ?_
  refine VL.to (fun _ _ h => h) ?_
  refine VC.seq ?_
  refine VC.region ?_
  refine VL.q (q_move rfl) (by decide) ?_
  refine VL.q (q_move rfl) (by decide) ?_
  obtain ⟨y7_1, ey7_1, hS⟩ := bd_s hS
  refine VL.q (q_call (cmp_Compare_string_ct a_0 b_1 ey7_1) rfl (fun _ _ => rfl)) (by decide) ?_
  refine VL.q (q_assign rfl) (by decide) ?_
  refine VL.to (fun _ _ h => h) ?_
  cases hS
  exact VC.ret (fin1 (.inr rfl) rfl rfl () rfl trivial (fun _ _ => trivial) (fun _ _ => trivial))

set_option maxHeartbeats 4000000 in
set_option maxRecDepth 100000 in
theorem internal_stringslite_HasPrefix_ct (s_0 : Str) (prefix_1 : Str) {r : Bool} (hS : Sh.internal_stringslite_HasPrefix s_0 prefix_1 = some r) :
    Ct Tryd.prog 182 [str s_0, str prefix_1] Mo.tt (Ow.emp) (X := Unit) (fun _ => .bool r) (fun _ => True) (fun _ => Mo.tt) (fun _ => Ow.emp) := by
  refine Ct.of Tryd.func182 rfl (by kernel_rfl) Tryd.ntmps182 (by simp) fun c => ?_
  unfold Sh.internal_stringslite_HasPrefix at hS
  refine VC.seq ?_
  refine VC.region ?_
  refine VL.q (q_assign rfl) (by decide) ?_
  refine VL.to (fun _ _ h => h) ?_
  refine VC.seq ?_
  refine VC.region ?_
  refine VL.q (q_move rfl) (by decide) ?_
  refine VL.q (q_slen Tryd.underlying9 rfl) (by decide) ?_
  refine VL.q (q_move rfl) (by decide) ?_
  refine VL.q (q_slen Tryd.underlying9 rfl) (by decide) ?_
  refine VL.q (q_geq rfl rfl) (by decide) ?_
  refine VL.q (q_move rfl) (by decide) ?_
  refine VL.split_dec 10 rfl (fun h10 => ?_) (fun h10 => ?_)
  ·
    replace hS := it_t h10 hS
    refine VL.gy rfl rfl (q_move rfl) (by decide) ?_
    refine VL.gy rfl rfl (q_move rfl) (by decide) ?_
    refine VL.gy rfl rfl (q_slen Tryd.underlying9 rfl) (by decide) ?_
    obtain ⟨b14, hS⟩ := gd_s hS
    obtain ⟨y14_1, ey14_1, hS⟩ := lt_s hS
    refine VL.gy rfl rfl (q_stoE Tryd.underlying9 rfl rfl b14.1 b14.2 ey14_1) (by decide) ?_
    refine VL.gy rfl rfl (q_move rfl) (by decide) ?_
    refine VL.gy rfl rfl (q_seq rfl rfl) (by decide) ?_
    refine VL.q (q_pick_t rfl rfl) (by decide) ?_
    refine VL.q (q_assign rfl) (by decide) ?_
    refine VL.to (fun _ _ h => h) ?_
    refine VC.keep [4] rfl ?_
    cases hS
    exact VC.ret (fin1 (.inr rfl) rfl rfl () rfl trivial (fun _ _ => trivial) (fun _ _ => trivial))
  ·
    replace hS := it_f h10 hS
    refine VL.gn rfl rfl rfl (by decide) ?_
    refine VL.gn rfl rfl rfl (by decide) ?_
    refine VL.gn rfl rfl rfl (by decide) ?_
    refine VL.gn rfl rfl rfl (by decide) ?_
    refine VL.gn rfl rfl rfl (by decide) ?_
    refine VL.gn rfl rfl rfl (by decide) ?_
    refine VL.q (q_pick_f rfl rfl) (by decide) ?_
    refine VL.q (q_assign rfl) (by decide) ?_
    refine VL.to (fun _ _ h => h) ?_
    refine VC.keep [4] rfl ?_
    cases hS
    exact VC.ret (fin1 (.inr rfl) rfl rfl () rfl trivial (fun _ _ => trivial) (fun _ _ => trivial))

set_option maxHeartbeats 4000000 in
set_option maxRecDepth 100000 in
theorem strings_HasPrefix_ct (s_0 : Str) (prefix_1 : Str) {r : Bool} (hS : Sh.strings_HasPrefix s_0 prefix_1 = some r) :
    Ct Tryd.prog 149 [str s_0, str prefix_1] Mo.tt (Ow.emp) (X := Unit) (fun _ => .bool r) (fun _ => True) (fun _ => Mo.tt) (fun _ => Ow.emp) := by
  refine Ct.of Tryd.func149 rfl (by kernel_rfl) Tryd.ntmps149 (by simp) fun c => ?_
  unfold Sh.strings_HasPrefix at hS
  refine VC.seq ?_
  refine VC.region ?_
  refine VL.q (q_assign rfl) (by decide) ?_
  refine VL.to (fun _ _ h => h) ?_
  refine VC.seq ?_
  refine VC.region ?_
  refine VL.q (q_move rfl) (by decide) ?_
  refine VL.q (q_move rfl) (by decide) ?_
  obtain ⟨y7_1, ey7_1, hS⟩ := bd_s hS
  refine VL.q (q_call (internal_stringslite_HasPrefix_ct s_0 prefix_1 ey7_1) rfl (fun _ _ => rfl)) (by decide) ?_
  refine VL.q (q_assign rfl) (by decide) ?_
  refine VL.to (fun _ _ h => h) ?_
  cases hS
  exact VC.ret (fin1 (.inr rfl) rfl rfl () rfl trivial (fun _ _ => trivial) (fun _ _ => trivial))

set_option maxHeartbeats 4000000 in
set_option maxRecDepth 100000 in
theorem path_Under_ct (p_0 : Str) (dir_1 : Str) {r : Bool} (hS : Sh.path_Under p_0 dir_1 = some r) :
    Ct Tryd.prog 115 [str p_0, str dir_1] Mo.tt (Ow.emp) (X := Unit) (fun _ => .bool r) (fun _ => True) (fun _ => Mo.tt) (fun _ => Ow.emp) := by
  refine Ct.of Tryd.func115 rfl (by kernel_rfl) Tryd.ntmps115 (by simp) fun c => ?_
  unfold Sh.path_Under at hS
  refine VC.seq ?_
  refine VC.region ?_
  refine VL.q (q_assign rfl) (by decide) ?_
  refine VL.to (fun _ _ h => h) ?_
  refine VC.seq ?_
  refine VC.seq ?_
  refine VC.region ?_
  refine VL.q (q_move rfl) (by decide) ?_
  refine VL.q (q_seq rfl rfl) (by decide) ?_
  refine VL.to (fun _ _ h => h) ?_
  refine VC.cond_dec rfl (fun h6 => ?_) (fun h6 => ?_)
  ·
    replace hS := it_t h6 hS
    refine VC.seq ?_
    refine VC.region ?_
    refine VL.q (q_move rfl) (by decide) ?_
    refine VL.q (q_sne rfl rfl) (by decide) ?_
    refine VL.q (q_assign rfl) (by decide) ?_
    refine VL.to (fun _ _ h => h) ?_
    cases hS
    exact VC.ret (fin1 (.inr rfl) rfl rfl () rfl trivial (fun _ _ => trivial) (fun _ _ => trivial))
  ·
    replace hS := it_f h6 hS
    refine VC.skip_to (fun _ _ h => h) ?_
    refine VC.seq ?_
    refine VC.region ?_
    refine VL.q (q_move rfl) (by decide) ?_
    refine VL.q (q_slen Tryd.underlying9 rfl) (by decide) ?_
    refine VL.q (q_move rfl) (by decide) ?_
    refine VL.q (q_slen Tryd.underlying9 rfl) (by decide) ?_
    obtain ⟨b13, hS⟩ := gd_s hS
    refine VL.q (q_add rfl rfl b13) (by decide) ?_
    refine VL.q (q_gtr rfl rfl) (by decide) ?_
    refine VL.q (q_move rfl) (by decide) ?_
    refine VL.split_dec 15 rfl (fun h15 => ?_) (fun h15 => ?_)
    ·
      replace hS := it_t h15 hS
      refine VL.gy rfl rfl (q_move rfl) (by decide) ?_
      refine VL.gy rfl rfl (q_move rfl) (by decide) ?_
      obtain ⟨b18, hS⟩ := gd_s hS
      obtain ⟨y18_1, ey18_1, hS⟩ := lt_s hS
      refine VL.gy rfl rfl (q_catE rfl rfl b18 ey18_1) (by decide) ?_
      obtain ⟨y19_2, ey19_2, hS⟩ := bd_s hS
      refine VL.gy rfl rfl (q_call (strings_HasPrefix_ct p_0 y18_1 ey19_2) rfl (fun _ _ => rfl)) (by decide) ?_
      refine VL.q (q_pick_t rfl rfl) (by decide) ?_
      refine VL.q (q_assign rfl) (by decide) ?_
      refine VL.to (fun _ _ h => h) ?_
      refine VC.keep [4] rfl ?_
      cases hS
      exact VC.ret (fin1 (.inr rfl) rfl rfl () rfl trivial (fun _ _ => trivial) (fun _ _ => trivial))
    ·
      replace hS := it_f h15 hS
      refine VL.gn rfl rfl rfl (by decide) ?_
      refine VL.gn rfl rfl rfl (by decide) ?_
      refine VL.gn rfl rfl rfl (by decide) ?_
      refine VL.gn rfl rfl rfl (by decide) ?_
      refine VL.q (q_pick_f rfl rfl) (by decide) ?_
      refine VL.q (q_assign rfl) (by decide) ?_
      refine VL.to (fun _ _ h => h) ?_
      refine VC.keep [4] rfl ?_
      cases hS
      exact VC.ret (fin1 (.inr rfl) rfl rfl () rfl trivial (fun _ _ => trivial) (fun _ _ => trivial))

set_option maxHeartbeats 4000000 in
set_option maxRecDepth 100000 in
theorem path_Clash_ct (a_0 : Str) (b_1 : Str) {r : Bool} (hS : Sh.path_Clash a_0 b_1 = some r) :
    Ct Tryd.prog 73 [str a_0, str b_1] Mo.tt (Ow.emp) (X := Unit) (fun _ => .bool r) (fun _ => True) (fun _ => Mo.tt) (fun _ => Ow.emp) := by
  refine Ct.of Tryd.func73 rfl (by kernel_rfl) Tryd.ntmps73 (by simp) fun c => ?_
  unfold Sh.path_Clash at hS
  refine VC.seq ?_
  refine VC.region ?_
  refine VL.q (q_assign rfl) (by decide) ?_
  refine VL.to (fun _ _ h => h) ?_
  refine VC.seq ?_
  refine VC.region ?_
  refine VL.q (q_move rfl) (by decide) ?_
  refine VL.q (q_sne rfl rfl) (by decide) ?_
  refine VL.q (q_move rfl) (by decide) ?_
  refine VL.split_ndec 7 rfl (fun h7 => ?_) (fun h7 => ?_)
  ·
    replace hS := it_f h7 hS
    refine VL.gy rfl rfl (q_move rfl) (by decide) ?_
    refine VL.gy rfl rfl (q_sne rfl rfl) (by decide) ?_
    refine VL.q (q_pick_t rfl rfl) (by decide) ?_
    refine VL.q (q_move rfl) (by decide) ?_
    refine VL.split_ndec 11 rfl (fun h11 => ?_) (fun h11 => ?_)
    ·
      replace hS := it_f h11 hS
      refine VL.gy rfl rfl (q_move rfl) (by decide) ?_
      refine VL.gy rfl rfl (q_move rfl) (by decide) ?_
      obtain ⟨y14_1, ey14_1, hS⟩ := bd_s hS
      refine VL.gy rfl rfl (q_call (path_Under_ct a_0 b_1 ey14_1) rfl (fun _ _ => rfl)) (by decide) ?_
      refine VL.gy rfl rfl (q_move rfl) (by decide) ?_
      refine VL.split 15 rfl (fun h15 => ?_) (fun h15 => ?_)
      ·
        replace hS := it_t h15 hS
        refine VL.gn rfl rfl rfl (by decide) ?_
        refine VL.gn rfl rfl rfl (by decide) ?_
        refine VL.gn rfl rfl rfl (by decide) ?_
        refine VL.gy rfl rfl (q_pick_t rfl rfl) (by decide) ?_
        refine VL.q (q_pick_t rfl rfl) (by decide) ?_
        refine VL.q (q_assign rfl) (by decide) ?_
        refine VL.to (fun _ _ h => h) ?_
        refine VC.keep [4] rfl ?_
        cases hS
        exact VC.ret (fin1 (.inr rfl) rfl rfl () rfl trivial (fun _ _ => trivial) (fun _ _ => trivial))
      ·
        replace hS := it_b h15 hS
        refine VL.gy rfl rfl (q_move rfl) (by decide) ?_
        refine VL.gy rfl rfl (q_move rfl) (by decide) ?_
        obtain ⟨y18_2, ey18_2, hS⟩ := bd_s hS
        refine VL.gy rfl rfl (q_call (path_Under_ct b_1 a_0 ey18_2) rfl (fun _ _ => rfl)) (by decide) ?_
        refine VL.gy rfl rfl (q_pick_f rfl rfl) (by decide) ?_
        refine VL.q (q_pick_t rfl rfl) (by decide) ?_
        refine VL.q (q_assign rfl) (by decide) ?_
        refine VL.to (fun _ _ h => h) ?_
        refine VC.keep [4] rfl ?_
        cases hS
        exact VC.ret (fin1 (.inr rfl) rfl rfl () rfl trivial (fun _ _ => trivial) (fun _ _ => trivial))
    ·
      replace hS := it_t h11 hS
      refine VL.gn rfl rfl rfl (by decide) ?_
      refine VL.gn rfl rfl rfl (by decide) ?_
      refine VL.gn rfl rfl rfl (by decide) ?_
      refine VL.gn rfl rfl rfl (by decide) ?_
      refine VL.gu rfl rfl (by decide) ?_
      refine VL.gu rfl rfl (by decide) ?_
      refine VL.gu rfl rfl (by decide) ?_
      refine VL.gn rfl rfl rfl (by decide) ?_
      refine VL.q (q_pick_f rfl rfl) (by decide) ?_
      refine VL.q (q_assign rfl) (by decide) ?_
      refine VL.to (fun _ _ h => h) ?_
      refine VC.keep [4] rfl ?_
      cases hS
      exact VC.ret (fin1 (.inr rfl) rfl rfl () rfl trivial (fun _ _ => trivial) (fun _ _ => trivial))
  ·
    replace hS := it_t h7 hS
    refine VL.gn rfl rfl rfl (by decide) ?_
    refine VL.gn rfl rfl rfl (by decide) ?_
    refine VL.q (q_pick_f rfl rfl) (by decide) ?_
    refine VL.q (q_move rfl) (by decide) ?_
    refine VL.gn rfl rfl rfl (by decide) ?_
    refine VL.gn rfl rfl rfl (by decide) ?_
    refine VL.gn rfl rfl rfl (by decide) ?_
    refine VL.gn rfl rfl rfl (by decide) ?_
    refine VL.gu rfl rfl (by decide) ?_
    refine VL.gu rfl rfl (by decide) ?_
    refine VL.gu rfl rfl (by decide) ?_
    refine VL.gn rfl rfl rfl (by decide) ?_
    refine VL.q (q_pick_f rfl rfl) (by decide) ?_
    refine VL.q (q_assign rfl) (by decide) ?_
    refine VL.to (fun _ _ h => h) ?_
    refine VC.keep [4] rfl ?_
    cases hS
    exact VC.ret (fin1 (.inr rfl) rfl rfl () rfl trivial (fun _ _ => trivial) (fun _ _ => trivial))

set_option maxHeartbeats 4000000 in
set_option maxRecDepth 100000 in
theorem object_item_1_ct (y_0 : ObjectItem) (a_1_b : Nat) (a_1 : ObjectItem) {r : Bool} (hS : Sh.object_item_1 y_0 a_1 = some r) :
    Ct Tryd.prog 186 [.agg #[str y_0.path, i64 y_0.mode, i64 y_0.blob], ptr a_1_b 0] (Cells a_1_b 0 [str a_1.path, i64 a_1.mode, i64 a_1.blob]) (Ow.emp) (X := Unit) (fun _ => .bool r) (fun _ => True) (fun _ => Mo.tt) (fun _ => Ow.emp) := by
  refine Ct.of Tryd.func186 rfl (by kernel_rfl) Tryd.ntmps186 (by simp) fun c => ?_
  unfold Sh.object_item_1 at hS
  refine VC.seq ?_
  refine VC.region ?_
  refine VL.box (cs := [str y_0.path, i64 y_0.mode, i64 y_0.blob]) rfl rfl (by decide) fun b2_1 => ?_
  refine VL.q (q_assign rfl) (by decide) ?_
  refine VL.to (fun _ _ h => h) ?_
  refine VC.seq ?_
  refine VC.region ?_
  refine VL.q (q_field gfa82_0 rfl) (by decide) ?_
  refine VL.q (q_fe gone9 rfl rfl) (by decide) ?_
  refine VL.q (q_field gfa82_0 rfl) (by decide) ?_
  refine VL.q (q_fm gone9 rfl rfl) (by decide) ?_
  obtain ⟨y8_2, ey8_2, hS⟩ := bd_s hS
  refine VL.q (q_call (path_Clash_ct y_0.path a_1.path ey8_2) rfl (fun _ _ => rfl)) (by decide) ?_
  refine VL.q (q_assign rfl) (by decide) ?_
  refine VL.to (fun _ _ h => h) ?_
  cases hS
  exact VC.ret (fin1 (.inr rfl) rfl rfl () rfl trivial (fun _ _ => trivial) (fun _ _ => trivial))

set_option maxHeartbeats 4000000 in
set_option maxRecDepth 100000 in
theorem slices_IndexFunc_object_Item_object_Item_ct (s_0 : Sv ObjectItem) (f_1_0_b : Nat) (f_1_0 : ObjectItem) {r : Int} (hS : Sh.slices_IndexFunc_object_Item_object_Item s_0.l f_1_0 = some r) :
    Ct Tryd.prog 204 [s_0.val, .func (.func 186) #[] #[ptr f_1_0_b 0]] (s_0.ok.and (Cells f_1_0_b 0 [str f_1_0.path, i64 f_1_0.mode, i64 f_1_0.blob])) (Ow.emp) (X := Unit) (fun _ => i64 r) (fun _ => True) (fun _ => Mo.tt) (fun _ => Ow.emp) := by
  refine Ct.of Tryd.func204 rfl (by kernel_rfl) Tryd.ntmps204 (by simp) fun c => ?_
  unfold Sh.slices_IndexFunc_object_Item_object_Item at hS
  refine VC.seq ?_
  refine VC.region ?_
  refine VL.q (q_assign rfl) (by decide) ?_
  refine VL.to (fun _ _ h => h) ?_
  refine VC.seq ?_
  refine VC.seq ?_
  refine VC.region ?_
  refine VL.q (q_move rfl) (by decide) ?_
  refine VL.q (q_ln (s := s_0) Tryd.underlying23 rfl) (by decide) ?_
  refine VL.q (q_move rfl) (by decide) ?_
  refine VL.to (fun _ _ h => h) ?_
  refine VC.block ?_
  refine VC.iter (S := Int) (fun (x8_1 : Int) => x8_1) (fun (x8_1 : Int) => [(0, s_0.val), (1, .func (.func 186) #[] #[ptr f_1_0_b 0]), (7, i64 (s_0.l.length : Int)), (8, i64 x8_1)]) (fun (x8_1 : Int) => Mo.tt) (fun (x8_1 : Int) => Ow.emp) 0 [0, 1, 7, 8] hS rfl ?_
  clear hS
  rintro x8_1 m1 y1 hS hK1
  show VC _ _ _ _ _ [(0, s_0.val), (1, .func (.func 186) #[] #[ptr f_1_0_b 0]), (7, i64 (s_0.l.length : Int)), (8, i64 x8_1)] (Mo.and Mo.tt _) (Ow.emp)
  refine VC.seq ?_
  refine VC.region ?_
  refine VL.q (q_lss rfl rfl) (by decide) ?_
  refine VL.to (fun _ _ h => h) ?_
  refine VC.seq ?_
  refine VC.cond_dec rfl (fun h9 => ?_) (fun h9 => ?_)
  ·
    replace hS := it_t h9 hS
    refine VC.skip_to (fun _ _ h => h) ?_
    refine VC.seq ?_
    refine VC.block ?_
    refine VC.seq ?_
    refine VC.region ?_
    refine VL.q (q_move rfl) (by decide) ?_
    refine VL.q (q_assign rfl) (by decide) ?_
    refine VL.to (fun _ _ h => h) ?_
    refine VC.seq ?_
    refine VC.region ?_
    refine VL.q (q_move rfl) (by decide) ?_
    refine VL.q (q_move rfl) (by decide) ?_
    refine VL.q (q_move rfl) (by decide) ?_
    obtain ⟨z14_2, nz14_2, hz14_2, hS⟩ := at_s hS
    refine VL.q (q_ixm (s := s_0) Tryd.underlying23 gsz82 rfl rfl nz14_2 (lt_of_get nz14_2 hz14_2)) (by decide) ?_
    refine VL.q (q_els (s := s_0) gagg82 rfl rfl hz14_2) (by decide) ?_
    obtain ⟨y16_3, ey16_3, hS⟩ := bd_s hS
    refine VL.q (q_callVC (vs := [.agg #[str z14_2.path, i64 z14_2.mode, i64 z14_2.blob]]) (caps := [ptr f_1_0_b 0]) (object_item_1_ct z14_2 f_1_0_b f_1_0 ey16_3) rfl rfl (fun _ _ => rfl)) (by decide) ?_
    refine VL.to (fun _ _ h => h) ?_
    refine VC.keep [0, 1, 7, 8, 5, 16] rfl ?_
    refine VC.cond rfl (fun h16 => ?_) (fun h16 => ?_)
    ·
      replace hS := it_t h16 hS
      refine VC.seq ?_
      refine VC.region ?_
      refine VL.q (q_move rfl) (by decide) ?_
      refine VL.q (q_assign rfl) (by decide) ?_
      refine VL.to (fun _ _ h => h) ?_
      replace hS := up2 hS hK1
      cases hS
      exact VC.ret (fin1 (.inr rfl) rfl rfl () rfl trivial (fun _ _ => trivial) (fun _ _ => trivial))
    ·
      replace hS := it_b h16 hS
      refine VC.skip_to (fun _ _ h => h) ?_
      refine VC.region ?_
      obtain ⟨b18, hS⟩ := gd_s hS
      refine VL.q (q_add rfl rfl b18) (by decide) ?_
      refine VL.q (q_move rfl) (by decide) ?_
      refine VL.rnd (x8_1 + 1) [0, 1, 7, 8] (fun _ _ h => h) (go2 hS hK1) rfl
  ·
    replace hS := it_f h9 hS
    replace hS := up2 hS hK1
    refine VC.exit_to (fun _ _ h => h) ?_
    refine VC.seq ?_
    refine VC.region ?_
    refine VL.q (q_assign rfl) (by decide) ?_
    refine VL.to (fun _ _ h => h) ?_
    cases hS
    exact VC.ret (fin1 (.inr rfl) rfl rfl () rfl trivial (fun _ _ => trivial) (fun _ _ => trivial))

set_option maxHeartbeats 4000000 in
set_option maxRecDepth 100000 in
theorem slices_ContainsFunc_object_Item_object_Item_ct (s_0 : Sv ObjectItem) (f_1_0_b : Nat) (f_1_0 : ObjectItem) {r : Bool} (hS : Sh.slices_ContainsFunc_object_Item_object_Item s_0.l f_1_0 = some r) :
    Ct Tryd.prog 185 [s_0.val, .func (.func 186) #[] #[ptr f_1_0_b 0]] (s_0.ok.and (Cells f_1_0_b 0 [str f_1_0.path, i64 f_1_0.mode, i64 f_1_0.blob])) (Ow.emp) (X := Unit) (fun _ => .bool r) (fun _ => True) (fun _ => Mo.tt) (fun _ => Ow.emp) := by
  refine Ct.of Tryd.func185 rfl (by kernel_rfl) Tryd.ntmps185 (by simp) fun c => ?_
  unfold Sh.slices_ContainsFunc_object_Item_object_Item at hS
  refine VC.seq ?_
  refine VC.region ?_
  refine VL.q (q_assign rfl) (by decide) ?_
  refine VL.to (fun _ _ h => h) ?_
  refine VC.seq ?_
  refine VC.region ?_
  refine VL.q (q_move rfl) (by decide) ?_
  refine VL.q (q_move rfl) (by decide) ?_
  obtain ⟨y7_1, ey7_1, hS⟩ := bd_s hS
  refine VL.q (q_callR (slices_IndexFunc_object_Item_object_Item_ct s_0 f_1_0_b f_1_0 ey7_1) rfl (fun _ _ => rfl)) (by decide) ?_
  refine VL.q (q_geq rfl rfl) (by decide) ?_
  refine VL.q (q_assign rfl) (by decide) ?_
  refine VL.to (fun _ _ h => h) ?_
  cases hS
  exact VC.ret (fin1 (.inr rfl) rfl rfl () rfl trivial (fun _ _ => trivial) (fun _ _ => trivial))

set_option maxHeartbeats 4000000 in
set_option maxRecDepth 100000 in
theorem object_item_ct (l_0 : Sv ObjectItem) (i_1 : Int) {r : Int} (hS : Sh.object_item l_0.l i_1 = some r) :
    Ct Tryd.prog 156 [l_0.val, i64 i_1] l_0.ok (Ow.emp) (X := Unit) (fun _ => i64 r) (fun _ => True) (fun _ => Mo.tt) (fun _ => Ow.emp) := by
  refine Ct.of Tryd.func156 rfl (by kernel_rfl) Tryd.ntmps156 (by simp) fun c => ?_
  unfold Sh.object_item at hS
  refine VC.seq ?_
  refine VC.region ?_
  refine VL.q (q_assign rfl) (by decide) ?_
  refine VL.to (fun _ _ h => h) ?_
  refine VC.seq ?_
  refine VC.region ?_
  refine VL.q (q_move rfl) (by decide) ?_
  refine VL.q (q_move rfl) (by decide) ?_
  obtain ⟨z9_1, nz9_1, hz9_1, hS⟩ := at_s hS
  refine VL.q (q_ixm (s := l_0) Tryd.underlying23 gsz82 rfl rfl nz9_1 (lt_of_get nz9_1 hz9_1)) (by decide) ?_
  refine VL.q (q_els (s := l_0) gagg82 rfl rfl hz9_1) (by decide) ?_
  refine VL.alloc (cs := [str [], i64 0, i64 0]) (by kernel_rfl) (by decide) fun b5_2 => ?_
  refine VL.store (vc := [str z9_1.path, i64 z9_1.mode, i64 z9_1.blob]) (cs' := [str z9_1.path, i64 z9_1.mode, i64 z9_1.blob]) rfl rfl rfl gsz82 rfl rfl (Nat.le_of_ble_eq_true rfl) rfl ?_
  refine VL.to (fun _ _ h => h) ?_
  refine VC.seq ?_
  refine VC.seq ?_
  refine VC.region ?_
  refine VL.q (q_field gfa82_0 rfl) (by decide) ?_
  refine VL.q (q_fe gone9 rfl rfl) (by decide) ?_
  obtain ⟨y13_3, ey13_3, hS⟩ := bd_s hS
  refine VL.q (q_call (path_Check_ct z9_1.path ey13_3) rfl (fun _ _ => rfl)) (by decide) ?_
  refine VL.q (q_assign rfl) (by decide) ?_
  refine VL.to (fun _ _ h => h) ?_
  refine VC.keep [0, 1, 5, 6] rfl ?_
  refine VC.seq ?_
  refine VC.region ?_
  refine VL.q (q_move rfl) (by decide) ?_
  refine VL.q (q_neq rfl rfl) (by decide) ?_
  refine VL.to (fun _ _ h => h) ?_
  refine VC.cond_ndec rfl (fun h15 => ?_) (fun h15 => ?_)
  ·
    replace hS := it_f h15 hS
    refine VC.seq ?_
    refine VC.region ?_
    refine VL.q (q_move rfl) (by decide) ?_
    refine VL.q (q_assign rfl) (by decide) ?_
    refine VL.to (fun _ _ h => h) ?_
    cases hS
    exact VC.ret (fin1 (.inr rfl) rfl rfl () rfl trivial (fun _ _ => trivial) (fun _ _ => trivial))
  ·
    replace hS := it_t h15 hS
    refine VC.skip_to (fun _ _ h => h) ?_
    refine VC.seq ?_
    refine VC.block ?_
    refine VC.cutJ (S := Bool) (fun (x17_4 : Bool) => x17_4) (fun (x17_4 : Bool) => [(0, l_0.val), (1, i64 i_1), (5, ptr b5_2 0), (17, .bool x17_4)]) (fun (x17_4 : Bool) => Mo.tt) (fun (x17_4 : Bool) => Ow.star (Blk b5_2 [str z9_1.path, i64 z9_1.mode, i64 z9_1.blob] 82) (Ow.emp)) hS ?_ ?_
    · -- up to where ways meet
      clear hS
      intro k5 hS
      refine VC.region ?_
      refine VL.q (q_field gfa82_1 rfl) (by decide) ?_
      refine VL.q (q_fe gone3 rfl rfl) (by decide) ?_
      obtain ⟨y20_6, ey20_6, hS⟩ := bd_s hS
      refine VL.q (q_call (object_mode_ct z9_1.mode ey20_6) rfl (fun _ _ => rfl)) (by decide) ?_
      refine VL.q (q_not rfl) (by decide) ?_
      refine VL.q (q_move rfl) (by decide) ?_
      refine VL.split 22 rfl (fun h22 => ?_) (fun h22 => ?_)
      ·
        replace hS := it_t h22 hS
        refine VL.gn rfl rfl rfl (by decide) ?_
        refine VL.gn rfl rfl rfl (by decide) ?_
        refine VL.gn rfl rfl rfl (by decide) ?_
        refine VL.q (q_pick_t rfl rfl) (by decide) ?_
        refine VL.q (q_assign rfl) (by decide) ?_
        refine VL.mt true [0, 1, 5, 17] (fun _ _ h => h) hS rfl
      ·
        replace hS := it_b h22 hS
        refine VL.gy rfl rfl (q_field gfa82_2 rfl) (by decide) ?_
        refine VL.gy rfl rfl (q_fe gone3 rfl rfl) (by decide) ?_
        refine VL.gy rfl rfl (q_lss rfl rfl) (by decide) ?_
        refine VL.q (q_pick_f rfl rfl) (by decide) ?_
        refine VL.q (q_assign rfl) (by decide) ?_
        refine VL.mt (decide (z9_1.blob < 1)) [0, 1, 5, 17] (fun _ _ h => h) hS rfl
    · -- from there
      clear hS
      rintro x17_4 hS
      show VC _ _ _ _ _ [(0, l_0.val), (1, i64 i_1), (5, ptr b5_2 0), (17, .bool x17_4)] (Mo.and Mo.tt _) (Ow.star (Blk b5_2 [str z9_1.path, i64 z9_1.mode, i64 z9_1.blob] 82) (Ow.emp))
      refine VC.cond rfl (fun h17 => ?_) (fun h17 => ?_)
      ·
        replace hS := it_t h17 hS
        refine VC.seq ?_
        refine VC.region ?_
        refine VL.q (q_assign rfl) (by decide) ?_
        refine VL.to (fun _ _ h => h) ?_
        cases hS
        exact VC.ret (fin1 (.inr rfl) rfl rfl () rfl trivial (fun _ _ => trivial) (fun _ _ => trivial))
      ·
        replace hS := it_b h17 hS
        refine VC.cutJ (S := Bool) (fun (x27_7 : Bool) => x27_7) (fun (x27_7 : Bool) => [(0, l_0.val), (1, i64 i_1), (5, ptr b5_2 0), (27, .bool x27_7)]) (fun (x27_7 : Bool) => Mo.tt) (fun (x27_7 : Bool) => Ow.star (Blk b5_2 [str z9_1.path, i64 z9_1.mode, i64 z9_1.blob] 82) (Ow.emp)) hS ?_ ?_
        · -- up to where ways meet
          clear hS
          intro k8 hS
          refine VC.draw ((List.range 15).map fun k => (k, true)) mixed (by kernel_rfl) (by kernel_rfl) (by kernel_rfl) ?_
          refine VD.q rfl (q_move rfl) (by decide) ?_
          refine VD.q rfl (q_gtr rfl rfl) (by decide) ?_
          refine VD.q rfl (q_move rfl) (by decide) ?_
          refine VD.split_dec 30 rfl (fun h30 => ?_) (fun h30 => ?_)
          ·
            replace hS := it_t h30 hS
            refine VD.gy rfl rfl rfl (q_move rfl) (by decide) ?_
            refine VD.gy rfl rfl rfl (q_move rfl) (by decide) ?_
            obtain ⟨b33, hS⟩ := gd_s hS
            refine VD.gy rfl rfl rfl (q_sub rfl rfl b33) (by decide) ?_
            obtain ⟨z34_9, nz34_9, hz34_9, hS⟩ := at_s hS
            refine VD.gy rfl rfl rfl (q_ixm (s := l_0) Tryd.underlying23 gsz82 rfl rfl nz34_9 (lt_of_get nz34_9 hz34_9)) (by decide) ?_
            refine VD.gy rfl rfl rfl (q_field gfa82_0 rfl) (by decide) ?_
            refine VD.gy rfl rfl rfl (q_elf (s := l_0) gone9 rfl hz34_9 rfl) (by decide) ?_
            refine VD.gy rfl rfl rfl (q_field gfa82_0 rfl) (by decide) ?_
            refine VD.gy rfl rfl rfl (q_fe gone9 rfl rfl) (by decide) ?_
            obtain ⟨y39_10, ey39_10, hS⟩ := bd_s hS
            refine VD.gy rfl rfl rfl (q_call (path_Compare_ct z34_9.path z9_1.path ey39_10) rfl (fun _ _ => rfl)) (by decide) ?_
            refine VD.gy rfl rfl rfl (q_geq rfl rfl) (by decide) ?_
            refine VD.q rfl (q_pick_t rfl rfl) (by decide) ?_
            refine VD.q rfl (q_assign rfl) (by decide) ?_
            refine VD.mt (decide (0 ≤ y39_10)) [0, 1, 5, 27] (fun _ _ h => h) hS rfl
          ·
            replace hS := it_f h30 hS
            refine VD.gn rfl rfl rfl rfl (by decide) ?_
            refine VD.gn rfl rfl rfl rfl (by decide) ?_
            refine VD.gn rfl rfl rfl rfl (by decide) ?_
            refine VD.gn rfl rfl rfl rfl (by decide) ?_
            refine VD.gn rfl rfl rfl rfl (by decide) ?_
            refine VD.gn rfl rfl rfl rfl (by decide) ?_
            refine VD.gn rfl rfl rfl rfl (by decide) ?_
            refine VD.gn rfl rfl rfl rfl (by decide) ?_
            refine VD.gn rfl rfl rfl rfl (by decide) ?_
            refine VD.gn rfl rfl rfl rfl (by decide) ?_
            refine VD.q rfl (q_pick_f rfl rfl) (by decide) ?_
            refine VD.q rfl (q_assign rfl) (by decide) ?_
            refine VD.mt false [0, 1, 5, 27] (fun _ _ h => h) hS rfl
        · -- from there
          clear hS
          rintro x27_7 hS
          show VC _ _ _ _ _ [(0, l_0.val), (1, i64 i_1), (5, ptr b5_2 0), (27, .bool x27_7)] (Mo.and Mo.tt _) (Ow.star (Blk b5_2 [str z9_1.path, i64 z9_1.mode, i64 z9_1.blob] 82) (Ow.emp))
          refine VC.cond rfl (fun h27 => ?_) (fun h27 => ?_)
          ·
            replace hS := it_t h27 hS
            refine VC.seq ?_
            refine VC.region ?_
            refine VL.q (q_assign rfl) (by decide) ?_
            refine VL.to (fun _ _ h => h) ?_
            cases hS
            exact VC.ret (fin1 (.inr rfl) rfl rfl () rfl trivial (fun _ _ => trivial) (fun _ _ => trivial))
          ·
            replace hS := it_b h27 hS
            refine VC.seq ?_
            refine VC.region ?_
            refine VL.q (q_move rfl) (by decide) ?_
            refine VL.q (q_move rfl) (by decide) ?_
            obtain ⟨b45, hS⟩ := gd_s hS
            refine VL.sto Tryd.underlying23 gsz82 rfl rfl b45.1 (b45.2) (by decide) fun s45_11 hs45_11 => ?_
            replace hS := lt_to hs45_11 hS
            refine VL.q (q_mkfn rfl) (by decide) ?_
            obtain ⟨y47_13, ey47_13, hS⟩ := bd_s hS
            refine VL.q (q_callR (slices_ContainsFunc_object_Item_object_Item_ct s45_11 b5_2 z9_1 ey47_13) rfl (fun _ _ => rfl)) (by decide) ?_
            refine VL.q (q_assign rfl) (by decide) ?_
            refine VL.to (fun _ _ h => h) ?_
            refine VC.cond rfl (fun h42 => ?_) (fun h42 => ?_)
            ·
              replace hS := it_t h42 hS
              refine VC.seq ?_
              refine VC.region ?_
              refine VL.q (q_assign rfl) (by decide) ?_
              refine VL.to (fun _ _ h => h) ?_
              refine VC.keep [4] rfl ?_
              cases hS
              exact VC.ret (fin1 (.inr rfl) rfl rfl () rfl trivial (fun _ _ => trivial) (fun _ _ => trivial))
            ·
              replace hS := it_b h42 hS
              refine VC.skip_to (fun _ _ h => h) ?_
              refine VC.seq ?_
              refine VC.region ?_
              refine VL.q (q_assign rfl) (by decide) ?_
              refine VL.to (fun _ _ h => h) ?_
              refine VC.keep [4] rfl ?_
              cases hS
              exact VC.ret (fin1 (.inr rfl) rfl rfl () rfl trivial (fun _ _ => trivial) (fun _ _ => trivial))

set_option maxHeartbeats 4000000 in
set_option maxRecDepth 100000 in
theorem object_tree_ct (o_0 : ObjectObject) {r : Err} (hS : Sh.object_tree o_0.pl = some r) :
    Ct Tryd.prog 128 [.agg #[i64 o_0.kind, o_0.data.val, o_0.items.val, i64 o_0.tree, o_0.parents.val, i64 o_0.time, str o_0.text]] (o_0.data.ok.and (o_0.items.ok.and o_0.parents.ok)) (Ow.emp) (X := Er) (fun x => x.val) (fun x => r = x.pl) (fun x => x.ok) (fun x => Ow.emp) := by
  refine Ct.of Tryd.func128 rfl (by kernel_rfl) Tryd.ntmps128 (by simp) fun c => ?_
  unfold Sh.object_tree at hS
  refine VC.seq ?_
  refine VC.region ?_
  refine VL.box (cs := [i64 o_0.kind, o_0.data.val, o_0.items.val, i64 o_0.tree, o_0.parents.val, i64 o_0.time, str o_0.text]) rfl rfl (by decide) fun b1_1 => ?_
  refine VL.q (q_assign rfl) (by decide) ?_
  refine VL.to (fun _ _ h => h) ?_
  refine VC.seq ?_
  refine VC.seq ?_
  refine VC.region ?_
  refine VL.q (q_field gfa26_2 rfl) (by decide) ?_
  refine VL.q (q_fe gone23 rfl rfl) (by decide) ?_
  refine VL.q (q_ln (s := o_0.items) Tryd.underlying23 rfl) (by decide) ?_
  refine VL.q (q_gtr rfl rfl) (by decide) ?_
  refine VL.to (fun _ _ h => h) ?_
  refine VC.cond_dec rfl (fun h8 => ?_) (fun h8 => ?_)
  ·
    replace hS := it_t h8 hS
    refine VC.seq ?_
    refine VC.region ?_
    refine VL.q (q_mkif Tryd.underlying97 (fun _ h => by cases h) rfl) (by decide) ?_
    refine VL.q (q_assign rfl) (by decide) ?_
    refine VL.to (fun _ _ h => h) ?_
    cases hS
    exact VC.ret (fin1 (.inr rfl) rfl rfl (Er.no 4) rfl rfl (by (try dsimp only); exact InM.out) (fun _ _ => trivial))
  ·
    replace hS := it_f h8 hS
    refine VC.skip_to (fun _ _ h => h) ?_
    refine VC.seq ?_
    refine VC.seq ?_
    refine VC.region ?_
    refine VL.q (q_field gfa26_2 rfl) (by decide) ?_
    refine VL.q (q_fe gone23 rfl rfl) (by decide) ?_
    refine VL.q (q_ln (s := o_0.items) Tryd.underlying23 rfl) (by decide) ?_
    refine VL.q (q_move rfl) (by decide) ?_
    refine VL.to (fun _ _ h => h) ?_
    refine VC.keep [1, 12, 13] rfl ?_
    refine VC.block ?_
    refine VC.iter (S := Int) (fun (x13_2 : Int) => x13_2) (fun (x13_2 : Int) => [(1, ptr b1_1 0), (12, i64 (o_0.items.l.length : Int)), (13, i64 x13_2)]) (fun (x13_2 : Int) => Mo.tt) (fun (x13_2 : Int) => Ow.star (Blk b1_1 [i64 o_0.kind, o_0.data.val, o_0.items.val, i64 o_0.tree, o_0.parents.val, i64 o_0.time, str o_0.text] 26) (Ow.emp)) 0 [1, 12, 13] hS rfl ?_
    clear hS
    rintro x13_2 m1 y1 hS hK1
    show VC _ _ _ _ _ [(1, ptr b1_1 0), (12, i64 (o_0.items.l.length : Int)), (13, i64 x13_2)] (Mo.and Mo.tt _) (Ow.star (Blk b1_1 [i64 o_0.kind, o_0.data.val, o_0.items.val, i64 o_0.tree, o_0.parents.val, i64 o_0.time, str o_0.text] 26) (Ow.emp))
    refine VC.seq ?_
    refine VC.region ?_
    refine VL.q (q_lss rfl rfl) (by decide) ?_
    refine VL.to (fun _ _ h => h) ?_
    refine VC.seq ?_
    refine VC.cond_dec rfl (fun h14 => ?_) (fun h14 => ?_)
    ·
      replace hS := it_t h14 hS
      refine VC.skip_to (fun _ _ h => h) ?_
      refine VC.seq ?_
      refine VC.block ?_
      refine VC.seq ?_
      refine VC.region ?_
      refine VL.q (q_move rfl) (by decide) ?_
      refine VL.q (q_assign rfl) (by decide) ?_
      refine VL.to (fun _ _ h => h) ?_
      refine VC.seq ?_
      refine VC.region ?_
      refine VL.q (q_field gfa26_2 rfl) (by decide) ?_
      refine VL.q (q_fe gone23 rfl rfl) (by decide) ?_
      refine VL.q (q_move rfl) (by decide) ?_
      obtain ⟨y19_3, ey19_3, hS⟩ := bd_s hS
      refine VL.q (q_call (object_item_ct o_0.items x13_2 ey19_3) rfl (fun _ _ => rfl)) (by decide) ?_
      refine VL.q (q_assign rfl) (by decide) ?_
      refine VL.to (fun _ _ h => h) ?_
      refine VC.seq ?_
      refine VC.region ?_
      refine VL.q (q_move rfl) (by decide) ?_
      refine VL.q (q_neq rfl rfl) (by decide) ?_
      refine VL.to (fun _ _ h => h) ?_
      refine VC.keep [1, 12, 13, 3, 4, 21] rfl ?_
      refine VC.cond_ndec rfl (fun h21 => ?_) (fun h21 => ?_)
      ·
        replace hS := it_f h21 hS
        refine VC.seq ?_
        refine VC.region ?_
        refine VL.q (q_move rfl) (by decide) ?_
        refine VL.q (q_move rfl) (by decide) ?_
        refine VL.q (q_mkif Tryd.underlying97 (fun _ h => by cases h) rfl) (by decide) ?_
        refine VL.q (q_build (vs := [(0, str [105, 116, 101, 109]), (1, i64 x13_2), (2, (Er.no y19_3).val)]) (cs := #[str [105, 116, 101, 109], i64 x13_2, (Er.no y19_3).val]) rfl (by kernel_rfl)) (by decide) ?_
        refine VL.box (cs := [str [105, 116, 101, 109], i64 x13_2, (Er.no y19_3).val]) rfl rfl (by decide) fun b26_4 => ?_
        refine VL.shutB b26_4 ?_
        refine VL.q (q_mkif Tryd.underlying110 (fun _ h => by cases h) rfl) (by decide) ?_
        refine VL.q (q_assign rfl) (by decide) ?_
        refine VL.to (fun _ _ h => h) ?_
        refine VC.keep [2] rfl ?_
        replace hS := up2 hS hK1
        cases hS
        exact VC.ret (fin1 (.inr rfl) rfl rfl (Er.fault b26_4 [105, 116, 101, 109] x13_2 (Er.no y19_3)) rfl rfl (by (try dsimp only); exact InM.out) (fun _ _ => trivial))
      ·
        replace hS := it_t h21 hS
        refine VC.skip_to (fun _ _ h => h) ?_
        refine VC.region ?_
        obtain ⟨b28, hS⟩ := gd_s hS
        refine VL.q (q_add rfl rfl b28) (by decide) ?_
        refine VL.q (q_move rfl) (by decide) ?_
        refine VL.rnd (x13_2 + 1) [1, 12, 13] (fun _ _ h => h) (go2 hS hK1) rfl
    ·
      replace hS := it_f h14 hS
      replace hS := up2 hS hK1
      refine VC.exit_to (fun _ _ h => h) ?_
      refine VC.seq ?_
      refine VC.region ?_
      refine VL.q (q_assign rfl) (by decide) ?_
      refine VL.to (fun _ _ h => h) ?_
      cases hS
      exact VC.ret (fin1 (.inr rfl) rfl rfl .nil rfl rfl (by (try dsimp only); exact InM.out) (fun _ _ => trivial))

set_option maxHeartbeats 4000000 in
set_option maxRecDepth 100000 in
theorem object_commit_1_ct (n_0 : Int) {r : Bool} (hS : Sh.object_commit_1 n_0 = some r) :
    Ct Tryd.prog 158 [i64 n_0] Mo.tt (Ow.emp) (X := Unit) (fun _ => .bool r) (fun _ => True) (fun _ => Mo.tt) (fun _ => Ow.emp) := by
  refine Ct.of Tryd.func158 rfl (by kernel_rfl) Tryd.ntmps158 (by simp) fun c => ?_
  unfold Sh.object_commit_1 at hS
  refine VC.seq ?_
  refine VC.region ?_
  refine VL.q (q_assign rfl) (by decide) ?_
  refine VL.to (fun _ _ h => h) ?_
  refine VC.seq ?_
  refine VC.region ?_
  refine VL.q (q_move rfl) (by decide) ?_
  refine VL.q (q_lss rfl rfl) (by decide) ?_
  refine VL.q (q_assign rfl) (by decide) ?_
  refine VL.to (fun _ _ h => h) ?_
  cases hS
  exact VC.ret (fin1 (.inr rfl) rfl rfl () rfl trivial (fun _ _ => trivial) (fun _ _ => trivial))

set_option maxHeartbeats 4000000 in
set_option maxRecDepth 100000 in
theorem slices_IndexFunc_int_int_ct (s_0 : Sv Int) {r : Int} (hS : Sh.slices_IndexFunc_int_int s_0.l = some r) :
    Ct Tryd.prog 187 [s_0.val, .func (.func 158) #[] #[]] s_0.ok (Ow.emp) (X := Unit) (fun _ => i64 r) (fun _ => True) (fun _ => Mo.tt) (fun _ => Ow.emp) := by
  refine Ct.of Tryd.func187 rfl (by kernel_rfl) Tryd.ntmps187 (by simp) fun c => ?_
  unfold Sh.slices_IndexFunc_int_int at hS
  refine VC.seq ?_
  refine VC.region ?_
  refine VL.q (q_assign rfl) (by decide) ?_
  refine VL.to (fun _ _ h => h) ?_
  refine VC.seq ?_
  refine VC.seq ?_
  refine VC.region ?_
  refine VL.q (q_move rfl) (by decide) ?_
  refine VL.q (q_ln (s := s_0) Tryd.underlying24 rfl) (by decide) ?_
  refine VL.q (q_move rfl) (by decide) ?_
  refine VL.to (fun _ _ h => h) ?_
  refine VC.block ?_
  refine VC.iter (S := Int) (fun (x8_1 : Int) => x8_1) (fun (x8_1 : Int) => [(0, s_0.val), (1, .func (.func 158) #[] #[]), (7, i64 (s_0.l.length : Int)), (8, i64 x8_1)]) (fun (x8_1 : Int) => Mo.tt) (fun (x8_1 : Int) => Ow.emp) 0 [0, 1, 7, 8] hS rfl ?_
  clear hS
  rintro x8_1 m1 y1 hS hK1
  show VC _ _ _ _ _ [(0, s_0.val), (1, .func (.func 158) #[] #[]), (7, i64 (s_0.l.length : Int)), (8, i64 x8_1)] (Mo.and Mo.tt _) (Ow.emp)
  refine VC.seq ?_
  refine VC.region ?_
  refine VL.q (q_lss rfl rfl) (by decide) ?_
  refine VL.to (fun _ _ h => h) ?_
  refine VC.seq ?_
  refine VC.cond_dec rfl (fun h9 => ?_) (fun h9 => ?_)
  ·
    replace hS := it_t h9 hS
    refine VC.skip_to (fun _ _ h => h) ?_
    refine VC.seq ?_
    refine VC.block ?_
    refine VC.seq ?_
    refine VC.region ?_
    refine VL.q (q_move rfl) (by decide) ?_
    refine VL.q (q_assign rfl) (by decide) ?_
    refine VL.to (fun _ _ h => h) ?_
    refine VC.seq ?_
    refine VC.region ?_
    refine VL.q (q_move rfl) (by decide) ?_
    refine VL.q (q_move rfl) (by decide) ?_
    refine VL.q (q_move rfl) (by decide) ?_
    obtain ⟨z14_2, nz14_2, hz14_2, hS⟩ := at_s hS
    refine VL.q (q_ixm (s := s_0) Tryd.underlying24 gsz3 rfl rfl nz14_2 (lt_of_get nz14_2 hz14_2)) (by decide) ?_
    refine VL.q (q_el (s := s_0) gone3 rfl hz14_2 rfl) (by decide) ?_
    obtain ⟨y16_3, ey16_3, hS⟩ := bd_s hS
    refine VL.q (q_callV (object_commit_1_ct z14_2 ey16_3) rfl rfl (fun _ _ => rfl)) (by decide) ?_
    refine VL.to (fun _ _ h => h) ?_
    refine VC.keep [0, 1, 7, 8, 5, 16] rfl ?_
    refine VC.cond rfl (fun h16 => ?_) (fun h16 => ?_)
    ·
      replace hS := it_t h16 hS
      refine VC.seq ?_
      refine VC.region ?_
      refine VL.q (q_move rfl) (by decide) ?_
      refine VL.q (q_assign rfl) (by decide) ?_
      refine VL.to (fun _ _ h => h) ?_
      replace hS := up2 hS hK1
      cases hS
      exact VC.ret (fin1 (.inr rfl) rfl rfl () rfl trivial (fun _ _ => trivial) (fun _ _ => trivial))
    ·
      replace hS := it_b h16 hS
      refine VC.skip_to (fun _ _ h => h) ?_
      refine VC.region ?_
      obtain ⟨b18, hS⟩ := gd_s hS
      refine VL.q (q_add rfl rfl b18) (by decide) ?_
      refine VL.q (q_move rfl) (by decide) ?_
      refine VL.rnd (x8_1 + 1) [0, 1, 7, 8] (fun _ _ h => h) (go2 hS hK1) rfl
  ·
    replace hS := it_f h9 hS
    replace hS := up2 hS hK1
    refine VC.exit_to (fun _ _ h => h) ?_
    refine VC.seq ?_
    refine VC.region ?_
    refine VL.q (q_assign rfl) (by decide) ?_
    refine VL.to (fun _ _ h => h) ?_
    cases hS
    exact VC.ret (fin1 (.inr rfl) rfl rfl () rfl trivial (fun _ _ => trivial) (fun _ _ => trivial))

set_option maxHeartbeats 4000000 in
set_option maxRecDepth 100000 in
theorem slices_ContainsFunc_int_int_ct (s_0 : Sv Int) {r : Bool} (hS : Sh.slices_ContainsFunc_int_int s_0.l = some r) :
    Ct Tryd.prog 157 [s_0.val, .func (.func 158) #[] #[]] s_0.ok (Ow.emp) (X := Unit) (fun _ => .bool r) (fun _ => True) (fun _ => Mo.tt) (fun _ => Ow.emp) := by
  refine Ct.of Tryd.func157 rfl (by kernel_rfl) Tryd.ntmps157 (by simp) fun c => ?_
  unfold Sh.slices_ContainsFunc_int_int at hS
  refine VC.seq ?_
  refine VC.region ?_
  refine VL.q (q_assign rfl) (by decide) ?_
  refine VL.to (fun _ _ h => h) ?_
  refine VC.seq ?_
  refine VC.region ?_
  refine VL.q (q_move rfl) (by decide) ?_
  refine VL.q (q_move rfl) (by decide) ?_
  obtain ⟨y7_1, ey7_1, hS⟩ := bd_s hS
  refine VL.q (q_call (slices_IndexFunc_int_int_ct s_0 ey7_1) rfl (fun _ _ => rfl)) (by decide) ?_
  refine VL.q (q_geq rfl rfl) (by decide) ?_
  refine VL.q (q_assign rfl) (by decide) ?_
  refine VL.to (fun _ _ h => h) ?_
  cases hS
  exact VC.ret (fin1 (.inr rfl) rfl rfl () rfl trivial (fun _ _ => trivial) (fun _ _ => trivial))

set_option maxHeartbeats 4000000 in
set_option maxRecDepth 100000 in
theorem object_commit_ct (o_0 : ObjectObject) {r : Err} (hS : Sh.object_commit o_0.pl = some r) :
    Ct Tryd.prog 129 [.agg #[i64 o_0.kind, o_0.data.val, o_0.items.val, i64 o_0.tree, o_0.parents.val, i64 o_0.time, str o_0.text]] (o_0.data.ok.and (o_0.items.ok.and o_0.parents.ok)) (Ow.emp) (X := Er) (fun x => x.val) (fun x => r = x.pl) (fun x => x.ok) (fun x => Ow.emp) := by
  refine Ct.of Tryd.func129 rfl (by kernel_rfl) Tryd.ntmps129 (by simp) fun c => ?_
  unfold Sh.object_commit at hS
  refine VC.seq ?_
  refine VC.region ?_
  refine VL.box (cs := [i64 o_0.kind, o_0.data.val, o_0.items.val, i64 o_0.tree, o_0.parents.val, i64 o_0.time, str o_0.text]) rfl rfl (by decide) fun b1_1 => ?_
  refine VL.q (q_assign rfl) (by decide) ?_
  refine VL.to (fun _ _ h => h) ?_
  refine VC.seq ?_
  refine VC.region ?_
  refine VL.q (q_field gfa26_4 rfl) (by decide) ?_
  refine VL.q (q_fe gone24 rfl rfl) (by decide) ?_
  refine VL.q (q_assign rfl) (by decide) ?_
  refine VL.to (fun _ _ h => h) ?_
  refine VC.seq ?_
  refine VC.block ?_
  refine VC.cutJ (S := Bool) (fun (x6_2 : Bool) => x6_2) (fun (x6_2 : Bool) => [(1, ptr b1_1 0), (3, o_0.parents.val), (6, .bool x6_2)]) (fun (x6_2 : Bool) => Mo.tt) (fun (x6_2 : Bool) => Ow.star (Blk b1_1 [i64 o_0.kind, o_0.data.val, o_0.items.val, i64 o_0.tree, o_0.parents.val, i64 o_0.time, str o_0.text] 26) (Ow.emp)) hS ?_ ?_
  · -- up to where ways meet
    clear hS
    intro k3 hS
    refine VC.region ?_
    refine VL.q (q_field gfa26_3 rfl) (by decide) ?_
    refine VL.q (q_fe gone3 rfl rfl) (by decide) ?_
    refine VL.q (q_lss rfl rfl) (by decide) ?_
    refine VL.q (q_move rfl) (by decide) ?_
    refine VL.split_dec 10 rfl (fun h10 => ?_) (fun h10 => ?_)
    ·
      replace hS := it_t h10 hS
      refine VL.gn rfl rfl rfl (by decide) ?_
      refine VL.gn rfl rfl rfl (by decide) ?_
      refine VL.gn rfl rfl rfl (by decide) ?_
      refine VL.q (q_pick_t rfl rfl) (by decide) ?_
      refine VL.q (q_move rfl) (by decide) ?_
      refine VL.gn rfl rfl rfl (by decide) ?_
      refine VL.gn rfl rfl rfl (by decide) ?_
      refine VL.q (q_pick_t rfl rfl) (by decide) ?_
      refine VL.q (q_move rfl) (by decide) ?_
      refine VL.gn rfl rfl rfl (by decide) ?_
      refine VL.gn rfl rfl rfl (by decide) ?_
      refine VL.gn rfl rfl rfl (by decide) ?_
      refine VL.q (q_pick_t rfl rfl) (by decide) ?_
      refine VL.q (q_assign rfl) (by decide) ?_
      refine VL.mt true [1, 3, 6] (fun _ _ h => h) hS rfl
    ·
      replace hS := it_f h10 hS
      refine VL.gy rfl rfl (q_move rfl) (by decide) ?_
      refine VL.gy rfl rfl (q_ln (s := o_0.parents) Tryd.underlying24 rfl) (by decide) ?_
      refine VL.gy rfl rfl (q_gtr rfl rfl) (by decide) ?_
      refine VL.q (q_pick_f rfl rfl) (by decide) ?_
      refine VL.q (q_move rfl) (by decide) ?_
      refine VL.split_dec 15 rfl (fun h15 => ?_) (fun h15 => ?_)
      ·
        replace hS := it_t h15 hS
        refine VL.gn rfl rfl rfl (by decide) ?_
        refine VL.gn rfl rfl rfl (by decide) ?_
        refine VL.q (q_pick_t rfl rfl) (by decide) ?_
        refine VL.q (q_move rfl) (by decide) ?_
        refine VL.gn rfl rfl rfl (by decide) ?_
        refine VL.gn rfl rfl rfl (by decide) ?_
        refine VL.gn rfl rfl rfl (by decide) ?_
        refine VL.q (q_pick_t rfl rfl) (by decide) ?_
        refine VL.q (q_assign rfl) (by decide) ?_
        refine VL.mt true [1, 3, 6] (fun _ _ h => h) hS rfl
      ·
        replace hS := it_f h15 hS
        refine VL.gy rfl rfl (q_move rfl) (by decide) ?_
        obtain ⟨y17_4, ey17_4, hS⟩ := bd_s hS
        refine VL.gy rfl rfl (q_call (slices_ContainsFunc_int_int_ct o_0.parents ey17_4) rfl (fun _ _ => rfl)) (by decide) ?_
        refine VL.q (q_pick_f rfl rfl) (by decide) ?_
        refine VL.q (q_move rfl) (by decide) ?_
        refine VL.split 19 rfl (fun h19 => ?_) (fun h19 => ?_)
        ·
          replace hS := it_t h19 hS
          refine VL.gn rfl rfl rfl (by decide) ?_
          refine VL.gn rfl rfl rfl (by decide) ?_
          refine VL.gn rfl rfl rfl (by decide) ?_
          refine VL.q (q_pick_t rfl rfl) (by decide) ?_
          refine VL.q (q_assign rfl) (by decide) ?_
          refine VL.mt true [1, 3, 6] (fun _ _ h => h) hS rfl
        ·
          replace hS := it_b h19 hS
          refine VL.gy rfl rfl (q_field gfa26_5 rfl) (by decide) ?_
          refine VL.gy rfl rfl (q_fe gone3 rfl rfl) (by decide) ?_
          refine VL.gy rfl rfl (q_lss rfl rfl) (by decide) ?_
          refine VL.q (q_pick_f rfl rfl) (by decide) ?_
          refine VL.q (q_assign rfl) (by decide) ?_
          refine VL.mt (decide (o_0.time < 0)) [1, 3, 6] (fun _ _ h => h) hS rfl
  · -- from there
    clear hS
    rintro x6_2 hS
    show VC _ _ _ _ _ [(1, ptr b1_1 0), (3, o_0.parents.val), (6, .bool x6_2)] (Mo.and Mo.tt _) (Ow.star (Blk b1_1 [i64 o_0.kind, o_0.data.val, o_0.items.val, i64 o_0.tree, o_0.parents.val, i64 o_0.time, str o_0.text] 26) (Ow.emp))
    refine VC.cond rfl (fun h6 => ?_) (fun h6 => ?_)
    ·
      replace hS := it_t h6 hS
      refine VC.seq ?_
      refine VC.region ?_
      refine VL.q (q_mkif Tryd.underlying97 (fun _ h => by cases h) rfl) (by decide) ?_
      refine VL.q (q_assign rfl) (by decide) ?_
      refine VL.to (fun _ _ h => h) ?_
      cases hS
      exact VC.ret (fin1 (.inr rfl) rfl rfl (Er.no 1) rfl rfl (by (try dsimp only); exact InM.out) (fun _ _ => trivial))
    ·
      replace hS := it_b h6 hS
      refine VC.cutJ (S := Bool) (fun (x25_5 : Bool) => x25_5) (fun (x25_5 : Bool) => [(1, ptr b1_1 0), (25, .bool x25_5)]) (fun (x25_5 : Bool) => Mo.tt) (fun (x25_5 : Bool) => Ow.star (Blk b1_1 [i64 o_0.kind, o_0.data.val, o_0.items.val, i64 o_0.tree, o_0.parents.val, i64 o_0.time, str o_0.text] 26) (Ow.emp)) hS ?_ ?_
      · -- up to where ways meet
        clear hS
        intro k6 hS
        refine VC.draw ((List.range 13).map fun k => (k, true)) mixed (by kernel_rfl) (by kernel_rfl) (by kernel_rfl) ?_
        refine VD.q rfl (q_move rfl) (by decide) ?_
        refine VD.q rfl (q_ln (s := o_0.parents) Tryd.underlying24 rfl) (by decide) ?_
        refine VD.q rfl (q_eql rfl rfl) (by decide) ?_
        refine VD.q rfl (q_move rfl) (by decide) ?_
        refine VD.split_dec 29 rfl (fun h29 => ?_) (fun h29 => ?_)
        ·
          replace hS := it_t h29 hS
          refine VD.gy rfl rfl rfl (q_move rfl) (by decide) ?_
          obtain ⟨z31_7, nz31_7, hz31_7, hS⟩ := at_s hS
          refine VD.gy rfl rfl rfl (q_ixm (s := o_0.parents) Tryd.underlying24 gsz3 rfl rfl nz31_7 (lt_of_get nz31_7 hz31_7)) (by decide) ?_
          refine VD.gy rfl rfl rfl (q_el (s := o_0.parents) gone3 rfl hz31_7 rfl) (by decide) ?_
          refine VD.gy rfl rfl rfl (q_move rfl) (by decide) ?_
          obtain ⟨z34_8, nz34_8, hz34_8, hS⟩ := at_s hS
          refine VD.gy rfl rfl rfl (q_ixm (s := o_0.parents) Tryd.underlying24 gsz3 rfl rfl nz34_8 (lt_of_get nz34_8 hz34_8)) (by decide) ?_
          refine VD.gy rfl rfl rfl (q_el (s := o_0.parents) gone3 rfl hz34_8 rfl) (by decide) ?_
          refine VD.gy rfl rfl rfl (q_eql rfl rfl) (by decide) ?_
          refine VD.q rfl (q_pick_t rfl rfl) (by decide) ?_
          refine VD.q rfl (q_assign rfl) (by decide) ?_
          refine VD.mt (decide (z31_7 = z34_8)) [1, 25] (fun _ _ h => h) hS rfl
        ·
          replace hS := it_f h29 hS
          refine VD.gn rfl rfl rfl rfl (by decide) ?_
          refine VD.gn rfl rfl rfl rfl (by decide) ?_
          refine VD.gn rfl rfl rfl rfl (by decide) ?_
          refine VD.gn rfl rfl rfl rfl (by decide) ?_
          refine VD.gn rfl rfl rfl rfl (by decide) ?_
          refine VD.gn rfl rfl rfl rfl (by decide) ?_
          refine VD.gn rfl rfl rfl rfl (by decide) ?_
          refine VD.q rfl (q_pick_f rfl rfl) (by decide) ?_
          refine VD.q rfl (q_assign rfl) (by decide) ?_
          refine VD.mt false [1, 25] (fun _ _ h => h) hS rfl
      · -- from there
        clear hS
        rintro x25_5 hS
        show VC _ _ _ _ _ [(1, ptr b1_1 0), (25, .bool x25_5)] (Mo.and Mo.tt _) (Ow.star (Blk b1_1 [i64 o_0.kind, o_0.data.val, o_0.items.val, i64 o_0.tree, o_0.parents.val, i64 o_0.time, str o_0.text] 26) (Ow.emp))
        refine VC.cond rfl (fun h25 => ?_) (fun h25 => ?_)
        ·
          replace hS := it_t h25 hS
          refine VC.seq ?_
          refine VC.region ?_
          refine VL.q (q_mkif Tryd.underlying97 (fun _ h => by cases h) rfl) (by decide) ?_
          refine VL.q (q_assign rfl) (by decide) ?_
          refine VL.to (fun _ _ h => h) ?_
          cases hS
          exact VC.ret (fin1 (.inr rfl) rfl rfl (Er.no 6) rfl rfl (by (try dsimp only); exact InM.out) (fun _ _ => trivial))
        ·
          replace hS := it_b h25 hS
          refine VC.seq ?_
          refine VC.region ?_
          refine VL.q (q_field gfa26_6 rfl) (by decide) ?_
          refine VL.q (q_fe gone9 rfl rfl) (by decide) ?_
          refine VL.q (q_slen Tryd.underlying9 rfl) (by decide) ?_
          refine VL.q (q_gtr rfl rfl) (by decide) ?_
          refine VL.q (q_assign rfl) (by decide) ?_
          refine VL.to (fun _ _ h => h) ?_
          refine VC.cond_dec rfl (fun h39 => ?_) (fun h39 => ?_)
          ·
            replace hS := it_t h39 hS
            refine VC.seq ?_
            refine VC.region ?_
            refine VL.q (q_mkif Tryd.underlying97 (fun _ h => by cases h) rfl) (by decide) ?_
            refine VL.q (q_assign rfl) (by decide) ?_
            refine VL.to (fun _ _ h => h) ?_
            cases hS
            exact VC.ret (fin1 (.inr rfl) rfl rfl (Er.no 4) rfl rfl (by (try dsimp only); exact InM.out) (fun _ _ => trivial))
          ·
            replace hS := it_f h39 hS
            refine VC.skip_to (fun _ _ h => h) ?_
            refine VC.seq ?_
            refine VC.region ?_
            refine VL.q (q_assign rfl) (by decide) ?_
            refine VL.to (fun _ _ h => h) ?_
            cases hS
            exact VC.ret (fin1 (.inr rfl) rfl rfl .nil rfl rfl (by (try dsimp only); exact InM.out) (fun _ _ => trivial))

set_option maxHeartbeats 4000000 in
set_option maxRecDepth 100000 in
theorem object_wrong_ct (o_0 : ObjectObject) {r : Err} (hS : Sh.object_wrong o_0.pl = some r) :
    Ct Tryd.prog 88 [.agg #[i64 o_0.kind, o_0.data.val, o_0.items.val, i64 o_0.tree, o_0.parents.val, i64 o_0.time, str o_0.text]] (o_0.data.ok.and (o_0.items.ok.and o_0.parents.ok)) (Ow.emp) (X := Er) (fun x => x.val) (fun x => r = x.pl) (fun x => x.ok) (fun x => Ow.emp) := by
  refine Ct.of Tryd.func88 rfl (by kernel_rfl) Tryd.ntmps88 (by simp) fun c => ?_
  unfold Sh.object_wrong at hS
  refine VC.seq ?_
  refine VC.region ?_
  refine VL.box (cs := [i64 o_0.kind, o_0.data.val, o_0.items.val, i64 o_0.tree, o_0.parents.val, i64 o_0.time, str o_0.text]) rfl rfl (by decide) fun b1_1 => ?_
  refine VL.q (q_assign rfl) (by decide) ?_
  refine VL.to (fun _ _ h => h) ?_
  refine VC.seq ?_
  refine VC.seq ?_
  refine VC.region ?_
  refine VL.q (q_field gfa26_0 rfl) (by decide) ?_
  refine VL.q (q_fe gone3 rfl rfl) (by decide) ?_
  refine VL.to (fun _ _ h => h) ?_
  refine VC.block ?_
  refine VC.seq ?_
  refine VC.region ?_
  refine VL.q (q_eql rfl rfl) (by decide) ?_
  refine VL.q (q_assign rfl) (by decide) ?_
  refine VL.to (fun _ _ h => h) ?_
  refine VC.cond_dec rfl (fun h5 => ?_) (fun h5 => ?_)
  ·
    replace hS := it_t h5 hS
    refine VC.seq ?_
    refine VC.seq ?_
    refine VC.region ?_
    refine VL.q (q_field gfa26_1 rfl) (by decide) ?_
    refine VL.q (q_fe gone22 rfl rfl) (by decide) ?_
    refine VL.q (q_ln (s := o_0.data) Tryd.underlying22 rfl) (by decide) ?_
    refine VL.q (q_gtr rfl rfl) (by decide) ?_
    refine VL.to (fun _ _ h => h) ?_
    refine VC.keep [10] rfl ?_
    refine VC.cond_dec rfl (fun h10 => ?_) (fun h10 => ?_)
    ·
      replace hS := it_t h10 hS
      refine VC.seq ?_
      refine VC.region ?_
      refine VL.q (q_mkif Tryd.underlying97 (fun _ h => by cases h) rfl) (by decide) ?_
      refine VL.q (q_assign rfl) (by decide) ?_
      refine VL.to (fun _ _ h => h) ?_
      cases hS
      exact VC.ret (fin1 (.inr rfl) rfl rfl (Er.no 4) rfl rfl (by (try dsimp only); exact InM.out) (fun _ _ => trivial))
    ·
      replace hS := it_f h10 hS
      refine VC.skip_to (fun _ _ h => h) ?_
      refine VC.seq ?_
      refine VC.region ?_
      refine VL.q (q_assign rfl) (by decide) ?_
      refine VL.to (fun _ _ h => h) ?_
      cases hS
      exact VC.ret (fin1 (.inr rfl) rfl rfl .nil rfl rfl (by (try dsimp only); exact InM.out) (fun _ _ => trivial))
  ·
    replace hS := it_f h5 hS
    refine VC.seq ?_
    refine VC.region ?_
    refine VL.q (q_eql rfl rfl) (by decide) ?_
    refine VL.q (q_assign rfl) (by decide) ?_
    refine VL.to (fun _ _ h => h) ?_
    refine VC.cond_dec rfl (fun h12 => ?_) (fun h12 => ?_)
    ·
      replace hS := it_t h12 hS
      refine VC.seq ?_
      refine VC.region ?_
      refine VL.q (q_fes gagg26 rfl rfl) (by decide) ?_
      obtain ⟨y15_2, ey15_2, hS⟩ := bd_s hS
      refine VL.callF (object_tree_ct o_0 ey15_2) rfl (by decide) ?_
      rintro q15_2_0 rfl
      try dsimp only
      refine VL.q (q_assign rfl) (by decide) ?_
      refine VL.to (fun _ _ h => h) ?_
      refine VC.keep [2] rfl ?_
      cases hS
      exact VC.ret (fin1 (.inr rfl) rfl rfl q15_2_0 rfl rfl (by (try dsimp only); exact InM.out) (fun _ _ => trivial))
    ·
      replace hS := it_f h12 hS
      refine VC.seq ?_
      refine VC.region ?_
      refine VL.q (q_eql rfl rfl) (by decide) ?_
      refine VL.q (q_assign rfl) (by decide) ?_
      refine VL.to (fun _ _ h => h) ?_
      refine VC.keep [1, 16] rfl ?_
      refine VC.cond_dec rfl (fun h16 => ?_) (fun h16 => ?_)
      ·
        replace hS := it_t h16 hS
        refine VC.seq ?_
        refine VC.region ?_
        refine VL.q (q_fes gagg26 rfl rfl) (by decide) ?_
        obtain ⟨y19_3, ey19_3, hS⟩ := bd_s hS
        refine VL.callF (object_commit_ct o_0 ey19_3) rfl (by decide) ?_
        rintro q19_3_0 rfl
        try dsimp only
        refine VL.q (q_assign rfl) (by decide) ?_
        refine VL.to (fun _ _ h => h) ?_
        cases hS
        exact VC.ret (fin1 (.inr rfl) rfl rfl q19_3_0 rfl rfl (by (try dsimp only); exact InM.out) (fun _ _ => trivial))
      ·
        replace hS := it_f h16 hS
        refine VC.skip_to (fun _ _ h => h) ?_
        refine VC.seq ?_
        refine VC.region ?_
        refine VL.q (q_mkif Tryd.underlying97 (fun _ h => by cases h) rfl) (by decide) ?_
        refine VL.q (q_assign rfl) (by decide) ?_
        refine VL.to (fun _ _ h => h) ?_
        cases hS
        exact VC.ret (fin1 (.inr rfl) rfl rfl (Er.no 1) rfl rfl (by (try dsimp only); exact InM.out) (fun _ _ => trivial))

set_option maxHeartbeats 4000000 in
set_option maxRecDepth 100000 in
theorem object_fault_ct (kind_0 : Int) (err_1 : Er) {r : Err} (hS : Sh.object_fault kind_0 err_1.pl = some r) :
    Ct Tryd.prog 85 [i64 kind_0, err_1.val] err_1.ok (Ow.emp) (X := Er) (fun x => x.val) (fun x => r = x.pl) (fun x => x.ok) (fun x => Ow.emp) := by
  refine Ct.of Tryd.func85 rfl (by kernel_rfl) Tryd.ntmps85 (by simp) fun c => ?_
  unfold Sh.object_fault at hS
  refine VC.seq ?_
  refine VC.region ?_
  refine VL.q (q_assign rfl) (by decide) ?_
  refine VL.to (fun _ _ h => h) ?_
  refine VC.seq ?_
  refine VC.region ?_
  refine VL.q (q_move rfl) (by decide) ?_
  refine VL.q (q_max rfl) (by decide) ?_
  refine VL.q (q_min rfl) (by decide) ?_
  refine VL.q (q_move rfl) (by decide) ?_
  refine VL.q (q_build (vs := [(0, str [111, 98, 106, 101, 99, 116]), (1, i64 (min (max kind_0 0) 255)), (2, err_1.val)]) (cs := #[str [111, 98, 106, 101, 99, 116], i64 (min (max kind_0 0) 255), err_1.val]) rfl (by generalize err_1 = z0; cases z0 <;> kernel_rfl)) (by decide) ?_
  refine VL.box (cs := [str [111, 98, 106, 101, 99, 116], i64 (min (max kind_0 0) 255), err_1.val]) rfl rfl (by decide) fun b10_1 => ?_
  refine VL.shutB b10_1 ?_
  refine VL.q (q_mkif Tryd.underlying110 (fun _ h => by cases h) rfl) (by decide) ?_
  refine VL.q (q_assign rfl) (by decide) ?_
  refine VL.to (fun _ _ h => h) ?_
  cases hS
  exact VC.ret (fin1 (.inr rfl) rfl rfl (Er.fault b10_1 [111, 98, 106, 101, 99, 116] (min (max kind_0 0) 255) err_1) rfl rfl (by (try dsimp only); exact InM.out) (fun _ _ => trivial))

set_option maxHeartbeats 4000000 in
set_option maxRecDepth 100000 in
theorem object_Check_ct (o_0 : ObjectObject) {r : Err} (hS : Sh.object_Check o_0.pl = some r) :
    Ct Tryd.prog 42 [.agg #[i64 o_0.kind, o_0.data.val, o_0.items.val, i64 o_0.tree, o_0.parents.val, i64 o_0.time, str o_0.text]] (o_0.data.ok.and (o_0.items.ok.and o_0.parents.ok)) (Ow.emp) (X := Er) (fun x => x.val) (fun x => r = x.pl) (fun x => x.ok) (fun x => Ow.emp) := by
  refine Ct.of Tryd.func42 rfl (by kernel_rfl) Tryd.ntmps42 (by simp) fun c => ?_
  unfold Sh.object_Check at hS
  refine VC.seq ?_
  refine VC.region ?_
  refine VL.box (cs := [i64 o_0.kind, o_0.data.val, o_0.items.val, i64 o_0.tree, o_0.parents.val, i64 o_0.time, str o_0.text]) rfl rfl (by decide) fun b1_1 => ?_
  refine VL.q (q_assign rfl) (by decide) ?_
  refine VL.to (fun _ _ h => h) ?_
  refine VC.seq ?_
  refine VC.seq ?_
  refine VC.region ?_
  refine VL.q (q_fes gagg26 rfl rfl) (by decide) ?_
  obtain ⟨y5_2, ey5_2, hS⟩ := bd_s hS
  refine VL.callF (object_wrong_ct o_0 ey5_2) rfl (by decide) ?_
  rintro q5_2_0 rfl
  try dsimp only
  refine VL.q (q_assign rfl) (by decide) ?_
  refine VL.to (fun _ _ h => h) ?_
  refine VC.seq ?_
  refine VC.region ?_
  refine VL.q (q_move rfl) (by decide) ?_
  refine VL.q (q_erne Tryd.underlying44 rfl) (by decide) ?_
  refine VL.to (fun _ _ h => h) ?_
  refine VC.cond_ndec rfl (fun h7 => ?_) (fun h7 => ?_)
  ·
    replace hS := it_f h7 hS
    refine VC.seq ?_
    refine VC.region ?_
    refine VL.q (q_field gfa26_0 rfl) (by decide) ?_
    refine VL.q (q_fe gone3 rfl rfl) (by decide) ?_
    refine VL.q (q_move rfl) (by decide) ?_
    obtain ⟨y11_3, ey11_3, hS⟩ := bd_s hS
    refine VL.callF (object_fault_ct o_0.kind q5_2_0 ey11_3) rfl (by decide) ?_
    rintro q11_3_0 rfl
    try dsimp only
    refine VL.q (q_assign rfl) (by decide) ?_
    refine VL.to (fun _ _ h => h) ?_
    refine VC.keep [2] rfl ?_
    cases hS
    exact VC.ret (fin1 (.inr rfl) rfl rfl q11_3_0 rfl rfl (by (try dsimp only); exact InM.out) (fun _ _ => trivial))
  ·
    replace hS := it_t h7 hS
    refine VC.skip_to (fun _ _ h => h) ?_
    refine VC.seq ?_
    refine VC.region ?_
    refine VL.q (q_assign rfl) (by decide) ?_
    refine VL.to (fun _ _ h => h) ?_
    cases hS
    exact VC.ret (fin1 (.inr rfl) rfl rfl .nil rfl rfl (by (try dsimp only); exact InM.out) (fun _ _ => trivial))

set_option maxHeartbeats 4000000 in
set_option maxRecDepth 100000 in
theorem codec_Enc_Int_ct (e_0_b : Nat) (e_0 : CodecEnc) (l_1 : Sv Int) {r : CodecEncP} (hS : Sh.codec_Enc_Int e_0.pl l_1.l = some r) :
    Ct Tryd.prog 78 [ptr e_0_b 0, l_1.val] l_1.ok (Ow.star (Sv.own e_0.b 5) (Blk e_0_b [e_0.b.val] 135)) (X := CodecEnc) (fun x => .tuple #[]) (fun x => r = x.pl) (fun x => Mo.tt) (fun x => Ow.star (Blk e_0_b [x.b.val] 135) (Sv.own x.b 5)) := by
  refine Ct.of Tryd.func78 rfl (by kernel_rfl) Tryd.ntmps78 (by simp) fun c => ?_
  unfold Sh.codec_Enc_Int at hS
  refine VC.seq ?_
  refine VC.region ?_
  refine VL.q (q_move rfl) (by decide) ?_
  refine VL.q (q_ln (s := l_1) Tryd.underlying24 rfl) (by decide) ?_
  refine VL.q (q_move rfl) (by decide) ?_
  refine VL.to (fun _ _ h => h) ?_
  refine VC.block ?_
  refine VC.iter (S := Int × Sv UInt8) (fun sg => (sg.1, sg.2.l)) (fun sg => [(0, ptr e_0_b 0), (7, l_1.val), (8, i64 (l_1.l.length : Int)), (9, i64 sg.1)]) (fun sg => Mo.tt) (fun sg => Ow.star (Blk e_0_b [sg.2.val] 135) (Ow.star (Sv.own sg.2 5) (Ow.emp))) (0, e_0.b) [0, 7, 8, 9] hS rfl ?_
  clear hS
  rintro ⟨x9_1, c0_2⟩ m1 y1 hS hK1
  show VC _ _ _ _ _ [(0, ptr e_0_b 0), (7, l_1.val), (8, i64 (l_1.l.length : Int)), (9, i64 x9_1)] (Mo.and Mo.tt _) (Ow.star (Blk e_0_b [c0_2.val] 135) (Ow.star (Sv.own c0_2 5) (Ow.emp)))
  refine VC.seq ?_
  refine VC.region ?_
  refine VL.q (q_lss rfl rfl) (by decide) ?_
  refine VL.to (fun _ _ h => h) ?_
  refine VC.seq ?_
  refine VC.cond_dec rfl (fun h10 => ?_) (fun h10 => ?_)
  ·
    replace hS := it_t h10 hS
    refine VC.skip_to (fun _ _ h => h) ?_
    refine VC.seq ?_
    refine VC.block ?_
    refine VC.seq ?_
    refine VC.region ?_
    obtain ⟨z11_3, nz11_3, hz11_3, hS⟩ := at_s hS
    refine VL.q (q_ixm (s := l_1) Tryd.underlying24 gsz3 rfl rfl nz11_3 (lt_of_get nz11_3 hz11_3)) (by decide) ?_
    refine VL.q (q_el (s := l_1) gone3 rfl hz11_3 rfl) (by decide) ?_
    refine VL.q (q_assign rfl) (by decide) ?_
    refine VL.to (fun _ _ h => h) ?_
    refine VC.seq ?_
    refine VC.region ?_
    refine VL.q (q_move rfl) (by decide) ?_
    refine VL.q (q_convW Tryd.underlying3 Tryd.underlying181 rfl) (by decide) ?_
    refine VL.q (q_shl rfl rfl (by decide)) (by decide) ?_
    refine VL.q (q_move rfl) (by decide) ?_
    refine VL.q (q_shr rfl rfl (by decide)) (by decide) ?_
    refine VL.q (q_convW Tryd.underlying2 Tryd.underlying181 rfl) (by decide) ?_
    refine VL.q (q_xor rfl rfl) (by decide) ?_
    refine VL.q (q_assign rfl) (by decide) ?_
    refine VL.to (fun _ _ h => h) ?_
    refine VC.keep [0, 7, 8, 9, 6] rfl ?_
    refine VC.seq ?_
    refine VC.block ?_
    refine VC.iter (S := Int × Sv UInt8) (fun sg => (sg.1, sg.2.l)) (fun sg => [(0, ptr e_0_b 0), (6, .int .u64 sg.1), (7, l_1.val), (8, i64 (l_1.l.length : Int)), (9, i64 x9_1)]) (fun sg => Mo.tt) (fun sg => Ow.star (Blk e_0_b [sg.2.val] 135) (Ow.star (Sv.own sg.2 5) (Ow.emp))) ((bXor .u64 (sHl .u64 (IntKind.wrap .u64 z11_3) 1) (IntKind.wrap .u64 (sHr .i64 z11_3 63))), c0_2) [0, 6, 7, 8, 9] hS rfl ?_
    clear hS
    rintro ⟨v6_4, c0_5⟩ m2 y2 hS hK2
    show VC _ _ _ _ _ [(0, ptr e_0_b 0), (6, .int .u64 v6_4), (7, l_1.val), (8, i64 (l_1.l.length : Int)), (9, i64 x9_1)] (Mo.and Mo.tt _) (Ow.star (Blk e_0_b [c0_5.val] 135) (Ow.star (Sv.own c0_5 5) (Ow.emp)))
    refine VC.seq ?_
    refine VC.seq ?_
    refine VC.region ?_
    refine VL.q (q_move rfl) (by decide) ?_
    refine VL.q (q_geq rfl rfl) (by decide) ?_
    refine VL.to (fun _ _ h => h) ?_
    refine VC.cond_dec rfl (fun h21 => ?_) (fun h21 => ?_)
    ·
      replace hS := it_t h21 hS
      refine VC.skip_to (fun _ _ h => h) ?_
      refine VC.block ?_
      refine VC.seq ?_
      refine VC.region ?_
      refine VL.q (q_move rfl) (by decide) ?_
      refine VL.q (q_move rfl) (by decide) ?_
      refine VL.q (q_nilCheck rfl) (by decide) ?_
      refine VL.q (q_field gfa135_0 rfl) (by decide) ?_
      refine VL.q (q_fe gone22 rfl rfl) (by decide) ?_
      refine VL.q (q_move rfl) (by decide) ?_
      refine VL.q (q_and rfl rfl) (by decide) ?_
      refine VL.q (q_convW Tryd.underlying181 Tryd.underlying5 rfl) (by decide) ?_
      refine VL.q (q_or rfl rfl) (by decide) ?_
      obtain ⟨b31_30, hS⟩ := gd_s hS
      obtain ⟨u31_7, eu31_7, hS⟩ := lt_s hS
      refine VL.setv 30 rfl (congrArg (Value.int .u8) (u8_z b31_30 eu31_7)) ?_
      refine VL.lit (α := UInt8) (xs := [.tmp 30]) (vs := [.int .u8 (u31_7.toNat : Int)]) [u31_7] Tryd.underlying22 glit5 (by decide) rfl rfl rfl rfl (by decide) (fun _ _ _ _ => trivial) (by decide) (fun s31_6 hs31_6 => ?_) (by decide)
      replace hS := lt_to hs31_6 hS
      obtain ⟨b32, hS⟩ := gd_s hS
      refine VL.app (s := c0_5) (r := s31_6) Tryd.underlying22 gapp5 (by decide) rfl Fo.out (ap1 b32) (ap2 b32 (by decide)) (by decide) (fun s32_9 hs32_9 => ?_)
      replace hS := lt_to hs32_9 hS
      refine VL.q (q_nilCheck rfl) (by decide) ?_
      refine VL.q (q_field gfa135_0 rfl) (by decide) ?_
      refine VL.store (vc := [s32_9.val]) (cs' := [s32_9.val]) rfl rfl rfl gsz22 rfl rfl (Nat.le_of_ble_eq_true rfl) rfl ?_
      refine VL.to (fun _ _ h => h) ?_
      refine VC.keep [0, 6, 7, 8, 9] rfl ?_
      refine VC.region ?_
      refine VL.q (q_move rfl) (by decide) ?_
      refine VL.q (q_shr rfl rfl (by decide)) (by decide) ?_
      refine VL.q (q_assign rfl) (by decide) ?_
      refine VL.rnd ((sHr .u64 v6_4 7), s32_9) [0, 6, 7, 8, 9] (fun _ _ h => h) (go2 hS hK2) rfl
    ·
      replace hS := it_f h21 hS
      replace hS := up2 hS hK2
      refine VC.exit_to (fun _ _ h => h) ?_
      refine VC.region ?_
      refine VL.q (q_move rfl) (by decide) ?_
      refine VL.q (q_move rfl) (by decide) ?_
      refine VL.q (q_nilCheck rfl) (by decide) ?_
      refine VL.q (q_field gfa135_0 rfl) (by decide) ?_
      refine VL.q (q_fe gone22 rfl rfl) (by decide) ?_
      refine VL.q (q_move rfl) (by decide) ?_
      refine VL.q (q_convW Tryd.underlying181 Tryd.underlying5 rfl) (by decide) ?_
      obtain ⟨b44_43, hS⟩ := gd_s hS
      obtain ⟨u44_12, eu44_12, hS⟩ := lt_s hS
      refine VL.setv 43 rfl (congrArg (Value.int .u8) (u8_z b44_43 eu44_12)) ?_
      refine VL.lit (α := UInt8) (xs := [.tmp 43]) (vs := [.int .u8 (u44_12.toNat : Int)]) [u44_12] Tryd.underlying22 glit5 (by decide) rfl rfl rfl rfl (by decide) (fun _ _ _ _ => trivial) (by decide) (fun s44_11 hs44_11 => ?_) (by decide)
      replace hS := lt_to hs44_11 hS
      obtain ⟨b45, hS⟩ := gd_s hS
      refine VL.app (s := c0_5) (r := s44_11) Tryd.underlying22 gapp5 (by decide) rfl Fo.out (ap1 b45) (ap2 b45 (by decide)) (by decide) (fun s45_14 hs45_14 => ?_)
      replace hS := lt_to hs45_14 hS
      refine VL.q (q_nilCheck rfl) (by decide) ?_
      refine VL.q (q_field gfa135_0 rfl) (by decide) ?_
      refine VL.store (vc := [s45_14.val]) (cs' := [s45_14.val]) rfl rfl rfl gsz22 rfl rfl (Nat.le_of_ble_eq_true rfl) rfl ?_
      refine VL.to (fun _ _ h => h) ?_
      refine VC.keep [0, 7, 8, 9] rfl ?_
      refine VC.region ?_
      obtain ⟨b48, hS⟩ := gd_s hS
      refine VL.q (q_add rfl rfl b48) (by decide) ?_
      refine VL.q (q_move rfl) (by decide) ?_
      refine VL.rnd ((x9_1 + 1), s45_14) [0, 7, 8, 9] (fun _ _ h => h) (go2 hS hK1) rfl
  ·
    replace hS := it_f h10 hS
    replace hS := up2 hS hK1
    cases hS
    exact VC.exit (fin0 (.inl rfl) rfl ⟨c0_2⟩ rfl rfl (by (try dsimp only); exact InM.out) (by (try dsimp only); exact EntO.out))

set_option maxHeartbeats 4000000 in
set_option maxRecDepth 100000 in
theorem codec_Enc_Text_ct (e_0_b : Nat) (e_0 : CodecEnc) (l_1 : Sv Str) {r : CodecEncP} (hS : Sh.codec_Enc_Text e_0.pl l_1.l = some r) :
    Ct Tryd.prog 79 [ptr e_0_b 0, l_1.val] l_1.ok (Ow.star (Sv.own e_0.b 5) (Blk e_0_b [e_0.b.val] 135)) (X := CodecEnc) (fun x => .tuple #[]) (fun x => r = x.pl) (fun x => Mo.tt) (fun x => Ow.star (Blk e_0_b [x.b.val] 135) (Sv.own x.b 5)) := by
  refine Ct.of Tryd.func79 rfl (by kernel_rfl) Tryd.ntmps79 (by simp) fun c => ?_
  unfold Sh.codec_Enc_Text at hS
  refine VC.seq ?_
  refine VC.region ?_
  refine VL.q (q_move rfl) (by decide) ?_
  refine VL.q (q_ln (s := l_1) Tryd.underlying58 rfl) (by decide) ?_
  refine VL.q (q_move rfl) (by decide) ?_
  refine VL.to (fun _ _ h => h) ?_
  refine VC.block ?_
  refine VC.iter (S := Int × Sv UInt8) (fun sg => (sg.1, sg.2.l)) (fun sg => [(0, ptr e_0_b 0), (6, l_1.val), (7, i64 (l_1.l.length : Int)), (8, i64 sg.1)]) (fun sg => Mo.tt) (fun sg => Ow.star (Blk e_0_b [sg.2.val] 135) (Ow.star (Sv.own sg.2 5) (Ow.emp))) (0, e_0.b) [0, 6, 7, 8] hS rfl ?_
  clear hS
  rintro ⟨x8_1, c0_2⟩ m1 y1 hS hK1
  show VC _ _ _ _ _ [(0, ptr e_0_b 0), (6, l_1.val), (7, i64 (l_1.l.length : Int)), (8, i64 x8_1)] (Mo.and Mo.tt _) (Ow.star (Blk e_0_b [c0_2.val] 135) (Ow.star (Sv.own c0_2 5) (Ow.emp)))
  refine VC.seq ?_
  refine VC.region ?_
  refine VL.q (q_lss rfl rfl) (by decide) ?_
  refine VL.to (fun _ _ h => h) ?_
  refine VC.seq ?_
  refine VC.cond_dec rfl (fun h9 => ?_) (fun h9 => ?_)
  ·
    replace hS := it_t h9 hS
    refine VC.skip_to (fun _ _ h => h) ?_
    refine VC.seq ?_
    refine VC.block ?_
    refine VC.seq ?_
    refine VC.region ?_
    obtain ⟨z10_3, nz10_3, hz10_3, hS⟩ := at_s hS
    refine VL.q (q_ixm (s := l_1) Tryd.underlying58 gsz9 rfl rfl nz10_3 (lt_of_get nz10_3 hz10_3)) (by decide) ?_
    refine VL.q (q_el (s := l_1) gone9 rfl hz10_3 rfl) (by decide) ?_
    refine VL.q (q_assign rfl) (by decide) ?_
    refine VL.to (fun _ _ h => h) ?_
    refine VC.seq ?_
    refine VC.region ?_
    refine VL.q (q_move rfl) (by decide) ?_
    refine VL.q (q_move rfl) (by decide) ?_
    refine VL.q (q_slen Tryd.underlying9 rfl) (by decide) ?_
    refine VL.lit (α := Int) (xs := [.tmp 14]) (vs := [i64 (z10_3.length : Int)]) [(z10_3.length : Int)] Tryd.underlying24 glit3 (by decide) rfl rfl rfl rfl (by decide) (fun _ _ _ _ => trivial) (by decide) (fun s15_4 hs15_4 => ?_) (by decide)
    replace hS := lt_to hs15_4 hS
    obtain ⟨y16_6, ey16_6, hS⟩ := bd_s hS
    refine VL.callO (codec_Enc_Int_ct e_0_b (⟨c0_2⟩ : CodecEnc) s15_4 ey16_6) rfl (by decide) ?_
    rintro q16_6_0 rfl
    try dsimp only
    refine VL.to (fun _ _ h => h) ?_
    refine VC.keep [0, 6, 7, 8, 5] rfl ?_
    refine VC.region ?_
    refine VL.q (q_move rfl) (by decide) ?_
    refine VL.q (q_move rfl) (by decide) ?_
    refine VL.q (q_nilCheck rfl) (by decide) ?_
    refine VL.q (q_field gfa135_0 rfl) (by decide) ?_
    refine VL.q (q_fe gone22 rfl rfl) (by decide) ?_
    refine VL.q (q_move rfl) (by decide) ?_
    obtain ⟨b23, hS⟩ := gd_s hS
    refine VL.appS (s := q16_6_0.b) (r := z10_3) Tryd.underlying22 Tryd.underlying9 gapb5 rfl Fo.out b23 (by decide) fun s23_7 hs23_7 _ => ?_
    replace hS := lt_to hs23_7 hS
    refine VL.q (q_nilCheck rfl) (by decide) ?_
    refine VL.q (q_field gfa135_0 rfl) (by decide) ?_
    refine VL.store (vc := [s23_7.val]) (cs' := [s23_7.val]) rfl rfl rfl gsz22 rfl rfl (Nat.le_of_ble_eq_true rfl) rfl ?_
    refine VL.to (fun _ _ h => h) ?_
    refine VC.keep [0, 6, 7, 8] rfl ?_
    refine VC.region ?_
    obtain ⟨b26, hS⟩ := gd_s hS
    refine VL.q (q_add rfl rfl b26) (by decide) ?_
    refine VL.q (q_move rfl) (by decide) ?_
    refine VL.rnd ((x8_1 + 1), s23_7) [0, 6, 7, 8] (fun _ _ h => h) (go2 hS hK1) rfl
  ·
    replace hS := it_f h9 hS
    replace hS := up2 hS hK1
    cases hS
    exact VC.exit (fin0 (.inl rfl) rfl ⟨c0_2⟩ rfl rfl (by (try dsimp only); exact InM.out) (by (try dsimp only); exact EntO.out))

set_option maxHeartbeats 4000000 in
set_option maxRecDepth 100000 in
theorem slices_Clone_byte_byte_ct (s_0 : Sv UInt8) {r : List UInt8} (hS : Sh.slices_Clone_byte_byte s_0.l = some r) :
    Ct Tryd.prog 123 [s_0.val] s_0.ok (Ow.emp) (X := Sv UInt8) (fun x => x.val) (fun x => r = x.l) (fun x => Mo.tt) (fun x => Sv.own x 5) := by
  refine Ct.of Tryd.func123 rfl (by kernel_rfl) Tryd.ntmps123 (by simp) fun c => ?_
  unfold Sh.slices_Clone_byte_byte at hS
  refine VC.seq ?_
  refine VC.region ?_
  refine VL.q (q_assign rfl) (by decide) ?_
  refine VL.to (fun _ _ h => h) ?_
  refine VC.seq ?_
  refine VC.seq ?_
  refine VC.region ?_
  refine VL.q (q_move rfl) (by decide) ?_
  refine VL.q (q_slnil (s := s_0) Tryd.underlying22 rfl) (by decide) ?_
  refine VL.to (fun _ _ h => h) ?_
  refine VC.slnil (s := s_0) rfl (fun h4 => ?_) ?_
  ·
    have hS : (some []) = some r := by
      simp [lt, gd, h4] at hS ⊢
      try exact hS
    refine VC.seq ?_
    refine VC.region ?_
    refine VL.q (q_assign rfl) (by decide) ?_
    refine VL.to (fun _ _ h => h) ?_
    refine VC.nilO (⟨none, 0, []⟩ : Sv UInt8) 5 ⟨rfl, rfl⟩ ?_
    cases hS
    exact VC.ret (fin1 (.inr rfl) rfl rfl ⟨none, 0, []⟩ rfl rfl (by (try dsimp only); exact InM.out) (by (try dsimp only); exact EntO.out))
  ·
    refine VC.skip_to (fun _ _ h => h) ?_
    refine VC.seq ?_
    refine VC.region ?_
    refine VL.lit0 (α := UInt8) Tryd.underlying22 ghas5 (by decide) (fun s5_1 hs5_1 hcs5_1 => ?_)
    refine VL.nilO s5_1 5 ⟨hcs5_1, hs5_1⟩ ?_
    replace hS := lt_to hs5_1 hS
    refine VL.q (q_move rfl) (by decide) ?_
    obtain ⟨b7, hS⟩ := gd_s hS
    refine VL.app (s := s5_1) (r := s_0) Tryd.underlying22 gapp5 (by decide) rfl Fo.out (ap1 b7) (ap2 b7 (by decide)) (by decide) (fun s7_3 hs7_3 => ?_)
    replace hS := lt_to hs7_3 hS
    refine VL.q (q_assign rfl) (by decide) ?_
    refine VL.to (fun _ _ h => h) ?_
    cases hS
    exact VC.ret (fin1 (.inr rfl) rfl rfl s7_3 rfl rfl (by (try dsimp only); exact InM.out) (by (try dsimp only); exact EntO.out))

set_option maxHeartbeats 4000000 in
set_option maxRecDepth 100000 in
theorem slices_Clip_byte_byte_ct (s_0 : Sv UInt8) {r : List UInt8} (hS : Sh.slices_Clip_byte_byte s_0.l = some r) :
    Ct Tryd.prog 122 [s_0.val] s_0.ok (Ow.emp) (X := Sv UInt8) (fun x => x.val) (fun x => r = x.l) (fun x => x.ok) (fun x => Ow.emp) := by
  refine Ct.of Tryd.func122 rfl (by kernel_rfl) Tryd.ntmps122 (by simp) fun c => ?_
  unfold Sh.slices_Clip_byte_byte at hS
  refine VC.seq ?_
  refine VC.region ?_
  refine VL.q (q_assign rfl) (by decide) ?_
  refine VL.to (fun _ _ h => h) ?_
  refine VC.seq ?_
  refine VC.region ?_
  refine VL.q (q_move rfl) (by decide) ?_
  refine VL.q (q_move rfl) (by decide) ?_
  refine VL.q (q_ln (s := s_0) Tryd.underlying22 rfl) (by decide) ?_
  refine VL.q (q_move rfl) (by decide) ?_
  refine VL.q (q_ln (s := s_0) Tryd.underlying22 rfl) (by decide) ?_
  obtain ⟨b8, hS⟩ := gd_s hS
  refine VL.stom Tryd.underlying22 gsz5 rfl rfl rfl b8.1 (b8.2) (by decide) fun s8_1 hs8_1 => ?_
  replace hS := lt_to hs8_1 hS
  refine VL.q (q_assign rfl) (by decide) ?_
  refine VL.to (fun _ _ h => h) ?_
  cases hS
  exact VC.ret (fin1 (.inr rfl) rfl rfl s8_1 rfl rfl (by (try dsimp only); exact InM.out) (fun _ _ => trivial))

set_option maxHeartbeats 4000000 in
set_option maxRecDepth 100000 in
theorem codec_Enc_Bytes_ct (e_0_b : Nat) (e_0 : CodecEnc) {r : List UInt8} (hS : Sh.codec_Enc_Bytes e_0.pl = some r) :
    Ct Tryd.prog 81 [ptr e_0_b 0] Mo.tt (Ow.star (Sv.own e_0.b 5) (Blk e_0_b [e_0.b.val] 135)) (X := Sv UInt8) (fun x => x.val) (fun x => r = x.l) (fun x => x.ok) (fun x => Ow.star (Blk e_0_b [e_0.b.val] 135) (Sv.own e_0.b 5)) := by
  refine Ct.of Tryd.func81 rfl (by kernel_rfl) Tryd.ntmps81 (by simp) fun c => ?_
  unfold Sh.codec_Enc_Bytes at hS
  refine VC.seq ?_
  refine VC.region ?_
  refine VL.q (q_assign rfl) (by decide) ?_
  refine VL.to (fun _ _ h => h) ?_
  refine VC.seq ?_
  refine VC.region ?_
  refine VL.q (q_move rfl) (by decide) ?_
  refine VL.q (q_nilCheck rfl) (by decide) ?_
  refine VL.q (q_field gfa135_0 rfl) (by decide) ?_
  refine VL.q (q_fe gone22 rfl rfl) (by decide) ?_
  obtain ⟨y7_1, ey7_1, hS⟩ := bd_s hS
  refine VL.callOR (slices_Clone_byte_byte_ct e_0.b ey7_1) rfl (by decide) ?_
  rintro q7_1_0 rfl
  try dsimp only
  refine VL.shut q7_1_0 5 (fun _ _ _ _ => trivial) ?_
  obtain ⟨y8_2, ey8_2, hS⟩ := bd_s hS
  refine VL.callF (slices_Clip_byte_byte_ct q7_1_0 ey8_2) rfl (by decide) ?_
  rintro q8_2_0 rfl
  try dsimp only
  refine VL.q (q_assign rfl) (by decide) ?_
  refine VL.to (fun _ _ h => h) ?_
  cases hS
  exact VC.ret (fin1 (.inr rfl) rfl rfl q8_2_0 rfl rfl (by (try dsimp only); exact InM.out) (by (try dsimp only); exact EntO.out))

set_option maxHeartbeats 4000000 in
set_option maxRecDepth 100000 in
theorem seal_Sum_ct (parts_0 : Sv (Sv UInt8)) {r : Int} (hS : Sh.seal_Sum (parts_0.l.map Sv.l) = some r) :
    Ct Tryd.prog 120 [parts_0.val] parts_0.ok (Ow.emp) (X := Unit) (fun _ => .int .u32 r) (fun _ => True) (fun _ => Mo.tt) (fun _ => Ow.emp) := by
  refine Ct.of Tryd.func120 rfl (by kernel_rfl) Tryd.ntmps120 (by simp) fun c => ?_
  unfold Sh.seal_Sum at hS
  refine VC.seq ?_
  refine VC.region ?_
  refine VL.q (q_assign rfl) (by decide) ?_
  refine VL.to (fun _ _ h => h) ?_
  refine VC.seq ?_
  refine VC.region ?_
  refine VL.q (q_assign rfl) (by decide) ?_
  refine VL.to (fun _ _ h => h) ?_
  refine VC.seq ?_
  refine VC.seq ?_
  refine VC.region ?_
  refine VL.q (q_move rfl) (by decide) ?_
  refine VL.q (q_lnm Sv.l (s := parts_0) Tryd.underlying201 rfl) (by decide) ?_
  refine VL.q (q_move rfl) (by decide) ?_
  refine VL.to (fun _ _ h => h) ?_
  refine VC.block ?_
  refine VC.iter (S := Int × Int) (fun sg => (sg.1, sg.2)) (fun sg => [(3, .int .u32 sg.1), (9, parts_0.val), (10, i64 ((parts_0.l.map Sv.l).length : Int)), (11, i64 sg.2)]) (fun sg => Mo.tt) (fun sg => Ow.emp) (4294967295, 0) [3, 9, 10, 11] hS rfl ?_
  clear hS
  rintro ⟨sum3_1, x11_2⟩ m1 y1 hS hK1
  show VC _ _ _ _ _ [(3, .int .u32 sum3_1), (9, parts_0.val), (10, i64 ((parts_0.l.map Sv.l).length : Int)), (11, i64 x11_2)] (Mo.and Mo.tt _) (Ow.emp)
  refine VC.seq ?_
  refine VC.region ?_
  refine VL.q (q_lss rfl rfl) (by decide) ?_
  refine VL.to (fun _ _ h => h) ?_
  refine VC.seq ?_
  refine VC.cond_dec rfl (fun h12 => ?_) (fun h12 => ?_)
  ·
    replace hS := it_t h12 hS
    refine VC.skip_to (fun _ _ h => h) ?_
    refine VC.seq ?_
    refine VC.block ?_
    refine VC.seq ?_
    refine VC.region ?_
    obtain ⟨z13_3, nz13_3, hz13_3, hS⟩ := atm_s hS
    refine VL.deep z13_3.ok hz13_3 (fun _ q => q) ?_
    refine VL.q (q_ixm (s := parts_0) Tryd.underlying201 gsz22 rfl rfl nz13_3 (lt_of_get nz13_3 hz13_3)) (by decide) ?_
    refine VL.q (q_el (s := parts_0) gone22 rfl hz13_3 rfl) (by decide) ?_
    refine VL.q (q_assign rfl) (by decide) ?_
    refine VL.to (fun _ _ h => h) ?_
    refine VC.seq ?_
    refine VC.region ?_
    refine VL.q (q_move rfl) (by decide) ?_
    refine VL.q (q_ln (s := z13_3) Tryd.underlying22 rfl) (by decide) ?_
    refine VL.q (q_move rfl) (by decide) ?_
    refine VL.to (fun _ _ h => h) ?_
    refine VC.block ?_
    refine VC.iter (S := Int × Int) (fun sg => (sg.1, sg.2)) (fun sg => [(3, .int .u32 sg.1), (9, parts_0.val), (10, i64 ((parts_0.l.map Sv.l).length : Int)), (11, i64 x11_2), (15, z13_3.val), (16, i64 (z13_3.l.length : Int)), (17, i64 sg.2)]) (fun sg => Mo.tt) (fun sg => Ow.emp) (sum3_1, 0) [3, 9, 10, 11, 15, 16, 17] hS rfl ?_
    clear hS
    rintro ⟨sum3_4, x17_5⟩ m2 y2 hS hK2
    show VC _ _ _ _ _ [(3, .int .u32 sum3_4), (9, parts_0.val), (10, i64 ((parts_0.l.map Sv.l).length : Int)), (11, i64 x11_2), (15, z13_3.val), (16, i64 (z13_3.l.length : Int)), (17, i64 x17_5)] (Mo.and Mo.tt _) (Ow.emp)
    refine VC.seq ?_
    refine VC.region ?_
    refine VL.q (q_lss rfl rfl) (by decide) ?_
    refine VL.to (fun _ _ h => h) ?_
    refine VC.seq ?_
    refine VC.cond_dec rfl (fun h18 => ?_) (fun h18 => ?_)
    ·
      replace hS := it_t h18 hS
      refine VC.skip_to (fun _ _ h => h) ?_
      refine VC.seq ?_
      refine VC.block ?_
      refine VC.seq ?_
      refine VC.region ?_
      obtain ⟨z19_6, nz19_6, hz19_6, hS⟩ := at_s hS
      refine VL.q (q_ixm (s := z13_3) Tryd.underlying22 gsz5 rfl rfl nz19_6 (lt_of_get nz19_6 hz19_6)) (by decide) ?_
      refine VL.q (q_el (s := z13_3) gone5 rfl hz19_6 rfl) (by decide) ?_
      refine VL.q (q_assign rfl) (by decide) ?_
      refine VL.to (fun _ _ h => h) ?_
      refine VC.seq ?_
      refine VC.region ?_
      refine VL.q (q_move rfl) (by decide) ?_
      refine VL.q (q_move rfl) (by decide) ?_
      refine VL.q (q_convW Tryd.underlying5 Tryd.underlying183 rfl) (by decide) ?_
      refine VL.q (q_xor rfl rfl) (by decide) ?_
      refine VL.q (q_assign rfl) (by decide) ?_
      refine VL.to (fun _ _ h => h) ?_
      refine VC.keep [3, 9, 10, 11, 15, 16, 17] rfl ?_
      refine VC.seq ?_
      refine VC.region ?_
      refine VL.q (q_move rfl) (by decide) ?_
      refine VL.to (fun _ _ h => h) ?_
      refine VC.block ?_
      refine VC.iter (S := Int × Int) (fun sg => (sg.1, sg.2)) (fun sg => [(3, .int .u32 sg.1), (9, parts_0.val), (10, i64 ((parts_0.l.map Sv.l).length : Int)), (11, i64 x11_2), (15, z13_3.val), (16, i64 (z13_3.l.length : Int)), (17, i64 x17_5), (25, i64 sg.2)]) (fun sg => Mo.tt) (fun sg => Ow.emp) ((bXor .u32 sum3_4 (IntKind.wrap .u32 (z19_6.toNat : Int))), 0) [3, 9, 10, 11, 15, 16, 17, 25] hS rfl ?_
      clear hS
      rintro ⟨sum3_7, x25_8⟩ m3 y3 hS hK3
      show VC _ _ _ _ _ [(3, .int .u32 sum3_7), (9, parts_0.val), (10, i64 ((parts_0.l.map Sv.l).length : Int)), (11, i64 x11_2), (15, z13_3.val), (16, i64 (z13_3.l.length : Int)), (17, i64 x17_5), (25, i64 x25_8)] (Mo.and Mo.tt _) (Ow.emp)
      refine VC.seq ?_
      refine VC.region ?_
      refine VL.q (q_lss rfl rfl) (by decide) ?_
      refine VL.to (fun _ _ h => h) ?_
      refine VC.seq ?_
      refine VC.cond_dec rfl (fun h26 => ?_) (fun h26 => ?_)
      ·
        replace hS := it_t h26 hS
        refine VC.skip_to (fun _ _ h => h) ?_
        refine VC.seq ?_
        refine VC.block ?_
        refine VC.seq ?_
        refine VC.region ?_
        refine VL.q (q_move rfl) (by decide) ?_
        refine VL.q (q_and rfl rfl) (by decide) ?_
        refine VL.q (q_assign rfl) (by decide) ?_
        refine VL.to (fun _ _ h => h) ?_
        refine VC.seq ?_
        refine VC.region ?_
        refine VL.q (q_move rfl) (by decide) ?_
        refine VL.q (q_shr rfl rfl (by decide)) (by decide) ?_
        refine VL.q (q_assign rfl) (by decide) ?_
        refine VL.to (fun _ _ h => h) ?_
        refine VC.seq ?_
        refine VC.region ?_
        refine VL.q (q_move rfl) (by decide) ?_
        refine VL.q (q_eql rfl rfl) (by decide) ?_
        refine VL.to (fun _ _ h => h) ?_
        refine VC.keep [3, 9, 10, 11, 15, 16, 17, 25, 32] rfl ?_
        refine VC.cond_dec rfl (fun h32 => ?_) (fun h32 => ?_)
        ·
          replace hS := it_t h32 hS
          refine VC.region ?_
          refine VL.q (q_move rfl) (by decide) ?_
          refine VL.q (q_xor rfl rfl) (by decide) ?_
          refine VL.q (q_assign rfl) (by decide) ?_
          refine VL.to (fun _ _ h => h) ?_
          refine VC.region ?_
          obtain ⟨b35, hS⟩ := gd_s hS
          refine VL.q (q_add rfl rfl b35) (by decide) ?_
          refine VL.q (q_move rfl) (by decide) ?_
          refine VL.rnd ((bXor .u32 (sHr .u32 sum3_7 1) 3988292384), (x25_8 + 1)) [3, 9, 10, 11, 15, 16, 17, 25] (fun _ _ h => h) (go2 hS hK3) rfl
        ·
          replace hS := it_f h32 hS
          refine VC.skip_to (fun _ _ h => h) ?_
          refine VC.region ?_
          obtain ⟨b35, hS⟩ := gd_s hS
          refine VL.q (q_add rfl rfl b35) (by decide) ?_
          refine VL.q (q_move rfl) (by decide) ?_
          refine VL.rnd ((sHr .u32 sum3_7 1), (x25_8 + 1)) [3, 9, 10, 11, 15, 16, 17, 25] (fun _ _ h => h) (go2 hS hK3) rfl
      ·
        replace hS := it_f h26 hS
        replace hS := up2 hS hK3
        refine VC.exit_to (fun _ _ h => h) ?_
        refine VC.region ?_
        obtain ⟨b36, hS⟩ := gd_s hS
        refine VL.q (q_add rfl rfl b36) (by decide) ?_
        refine VL.q (q_move rfl) (by decide) ?_
        refine VL.rnd (sum3_7, (x17_5 + 1)) [3, 9, 10, 11, 15, 16, 17] (fun _ _ h => h) (go2 hS hK2) rfl
    ·
      replace hS := it_f h18 hS
      replace hS := up2 hS hK2
      refine VC.exit_to (fun _ _ h => h) ?_
      refine VC.region ?_
      obtain ⟨b37, hS⟩ := gd_s hS
      refine VL.q (q_add rfl rfl b37) (by decide) ?_
      refine VL.q (q_move rfl) (by decide) ?_
      refine VL.rnd (sum3_4, (x11_2 + 1)) [3, 9, 10, 11] (fun _ _ h => h) (go2 hS hK1) rfl
  ·
    replace hS := it_f h12 hS
    replace hS := up2 hS hK1
    refine VC.exit_to (fun _ _ h => h) ?_
    refine VC.seq ?_
    refine VC.region ?_
    refine VL.q (q_move rfl) (by decide) ?_
    refine VL.q (q_inot rfl) (by decide) ?_
    refine VL.q (q_assign rfl) (by decide) ?_
    refine VL.to (fun _ _ h => h) ?_
    cases hS
    exact VC.ret (fin1 (.inr rfl) rfl rfl () rfl trivial (fun _ _ => trivial) (fun _ _ => trivial))

set_option maxHeartbeats 4000000 in
set_option maxRecDepth 100000 in
theorem slices_Grow_byte_byte_ct (n_1 : Int) {r : List UInt8} (hS : Sh.slices_Grow_byte_byte n_1 = some r) :
    Ct Tryd.prog 151 [.slice none 0 0, i64 n_1] Mo.tt (Ow.emp) (X := Sv UInt8) (fun x => x.val) (fun x => r = x.l) (fun x => Mo.tt) (fun x => Sv.own x 5) := by
  refine Ct.of Tryd.func151 rfl (by kernel_rfl) Tryd.ntmps151 (by simp) fun c => ?_
  unfold Sh.slices_Grow_byte_byte at hS
  refine VC.seq ?_
  refine VC.region ?_
  refine VL.q (q_assign rfl) (by decide) ?_
  refine VL.to (fun _ _ h => h) ?_
  refine VC.seq ?_
  refine VC.seq ?_
  refine VC.region ?_
  refine VL.q (q_move rfl) (by decide) ?_
  refine VL.q (q_lss rfl rfl) (by decide) ?_
  refine VL.to (fun _ _ h => h) ?_
  refine VC.cond_dec rfl (fun h6 => ?_) (fun h6 => ?_)
  ·
    replace hS := it_t h6 hS
    refine VC.region ?_
    refine VL.q (q_mkif Tryd.underlying9 (fun _ h => by cases h) rfl) (by decide) ?_
    cases hS
  ·
    replace hS := it_f h6 hS
    refine VC.skip_to (fun _ _ h => h) ?_
    refine VC.seq ?_
    refine VC.seq ?_
    refine VC.region ?_
    refine VL.q (q_move rfl) (by decide) ?_
    refine VL.q (q_move rfl) (by decide) ?_
    refine VL.q (q_cap0 Tryd.underlying22 rfl) (by decide) ?_
    refine VL.q (q_move rfl) (by decide) ?_
    refine VL.q (q_len Tryd.underlying22 rfl) (by decide) ?_
    obtain ⟨b13, hS⟩ := gd_s hS
    refine VL.q (q_sub rfl rfl b13) (by decide) ?_
    obtain ⟨b14, hS⟩ := gd_s hS
    refine VL.q (q_sub rfl rfl b14) (by decide) ?_
    refine VL.q (q_assign rfl) (by decide) ?_
    refine VL.to (fun _ _ h => h) ?_
    refine VC.keep [0, 1] rfl ?_
    refine VC.seq ?_
    refine VC.region ?_
    refine VL.q (q_move rfl) (by decide) ?_
    refine VL.q (q_gtr rfl rfl) (by decide) ?_
    refine VL.to (fun _ _ h => h) ?_
    refine VC.cond_dec rfl (fun h16 => ?_) (fun h16 => ?_)
    ·
      replace hS := it_t h16 hS
      refine VC.region ?_
      refine VL.q (q_move rfl) (by decide) ?_
      refine VL.q (q_move rfl) (by decide) ?_
      refine VL.q (q_cap0 Tryd.underlying22 rfl) (by decide) ?_
      refine VL.q (q_nil0 UInt8 Tryd.underlying22 gsz5 rfl rfl) (by decide) ?_
      refine VL.q (q_move rfl) (by decide) ?_
      obtain ⟨b22, hS⟩ := gd_s hS
      refine VL.appZ (α := UInt8) (z := (0 : UInt8)) Tryd.underlying22 Tryd.underlying3 gmk5 (by decide) rfl b22.1 b22.2 (by decide) (by decide) fun s22_1 hs22_1 => ?_
      replace hS := lt_to hs22_1 hS
      refine VL.q (q_move rfl) (by decide) ?_
      refine VL.q (q_len Tryd.underlying22 rfl) (by decide) ?_
      refine VL.own0 (s := s22_1) Tryd.underlying22 gsz5 rfl rfl Fo.out (by decide) fun s25_3 hs25_3 => ?_
      replace hS := lt_to hs25_3 hS
      refine VL.q (q_assign rfl) (by decide) ?_
      refine VL.to (fun _ _ h => h) ?_
      refine VC.keep [0] rfl ?_
      refine VC.seq ?_
      refine VC.region ?_
      refine VL.q (q_move rfl) (by decide) ?_
      refine VL.q (q_assign rfl) (by decide) ?_
      refine VL.to (fun _ _ h => h) ?_
      cases hS
      exact VC.ret (fin1 (.inr rfl) rfl rfl s25_3 rfl rfl (by (try dsimp only); exact InM.out) (by (try dsimp only); exact EntO.out))
    ·
      replace hS := it_f h16 hS
      refine VC.skip_to (fun _ _ h => h) ?_
      refine VC.seq ?_
      refine VC.region ?_
      refine VL.q (q_move rfl) (by decide) ?_
      refine VL.q (q_assign rfl) (by decide) ?_
      refine VL.to (fun _ _ h => h) ?_
      refine VC.nilO (⟨none, 0, []⟩ : Sv UInt8) 5 ⟨rfl, rfl⟩ ?_
      cases hS
      exact VC.ret (fin1 (.inr rfl) rfl rfl ⟨none, 0, []⟩ rfl rfl (by (try dsimp only); exact InM.out) (by (try dsimp only); exact EntO.out))

set_option maxHeartbeats 4000000 in
set_option maxRecDepth 100000 in
theorem slices_Concat_byte_byte_ct (slices_0 : Sv (Sv UInt8)) {r : List UInt8} (hS : Sh.slices_Concat_byte_byte (slices_0.l.map Sv.l) = some r) :
    Ct Tryd.prog 121 [slices_0.val] slices_0.ok (Ow.emp) (X := Sv UInt8) (fun x => x.val) (fun x => r = x.l) (fun x => Mo.tt) (fun x => Sv.own x 5) := by
  refine Ct.of Tryd.func121 rfl (by kernel_rfl) Tryd.ntmps121 (by simp) fun c => ?_
  unfold Sh.slices_Concat_byte_byte at hS
  refine VC.seq ?_
  refine VC.region ?_
  refine VL.q (q_assign rfl) (by decide) ?_
  refine VL.to (fun _ _ h => h) ?_
  refine VC.seq ?_
  refine VC.region ?_
  refine VL.q (q_assign rfl) (by decide) ?_
  refine VL.to (fun _ _ h => h) ?_
  refine VC.seq ?_
  refine VC.seq ?_
  refine VC.region ?_
  refine VL.q (q_move rfl) (by decide) ?_
  refine VL.q (q_lnm Sv.l (s := slices_0) Tryd.underlying201 rfl) (by decide) ?_
  refine VL.q (q_move rfl) (by decide) ?_
  refine VL.to (fun _ _ h => h) ?_
  refine VC.block ?_
  refine VC.iter (S := Int × Int) (fun sg => (sg.1, sg.2)) (fun sg => [(0, slices_0.val), (3, i64 sg.1), (9, slices_0.val), (10, i64 ((slices_0.l.map Sv.l).length : Int)), (11, i64 sg.2)]) (fun sg => Mo.tt) (fun sg => Ow.emp) (0, 0) [0, 3, 9, 10, 11] hS rfl ?_
  clear hS
  rintro ⟨size3_1, x11_2⟩ m1 y1 hS hK1
  show VC _ _ _ _ _ [(0, slices_0.val), (3, i64 size3_1), (9, slices_0.val), (10, i64 ((slices_0.l.map Sv.l).length : Int)), (11, i64 x11_2)] (Mo.and Mo.tt _) (Ow.emp)
  refine VC.seq ?_
  refine VC.region ?_
  refine VL.q (q_lss rfl rfl) (by decide) ?_
  refine VL.to (fun _ _ h => h) ?_
  refine VC.seq ?_
  refine VC.cond_dec rfl (fun h12 => ?_) (fun h12 => ?_)
  ·
    replace hS := it_t h12 hS
    refine VC.skip_to (fun _ _ h => h) ?_
    refine VC.seq ?_
    refine VC.block ?_
    refine VC.seq ?_
    refine VC.region ?_
    obtain ⟨z13_3, nz13_3, hz13_3, hS⟩ := atm_s hS
    refine VL.deep z13_3.ok hz13_3 (fun _ q => q) ?_
    refine VL.q (q_ixm (s := slices_0) Tryd.underlying201 gsz22 rfl rfl nz13_3 (lt_of_get nz13_3 hz13_3)) (by decide) ?_
    refine VL.q (q_el (s := slices_0) gone22 rfl hz13_3 rfl) (by decide) ?_
    refine VL.q (q_assign rfl) (by decide) ?_
    refine VL.to (fun _ _ h => h) ?_
    refine VC.seq ?_
    refine VC.region ?_
    refine VL.q (q_move rfl) (by decide) ?_
    refine VL.q (q_move rfl) (by decide) ?_
    refine VL.q (q_ln (s := z13_3) Tryd.underlying22 rfl) (by decide) ?_
    obtain ⟨b18, hS⟩ := gd_s hS
    refine VL.q (q_add rfl rfl b18) (by decide) ?_
    refine VL.q (q_assign rfl) (by decide) ?_
    refine VL.to (fun _ _ h => h) ?_
    refine VC.keep [0, 3, 9, 10, 11] rfl ?_
    refine VC.seq ?_
    refine VC.region ?_
    refine VL.q (q_move rfl) (by decide) ?_
    refine VL.q (q_lss rfl rfl) (by decide) ?_
    refine VL.to (fun _ _ h => h) ?_
    refine VC.cond_dec rfl (fun h20 => ?_) (fun h20 => ?_)
    ·
      replace hS := it_t h20 hS
      refine VC.region ?_
      refine VL.q (q_mkif Tryd.underlying9 (fun _ h => by cases h) rfl) (by decide) ?_
      cases hS
    ·
      replace hS := it_f h20 hS
      refine VC.skip_to (fun _ _ h => h) ?_
      refine VC.region ?_
      obtain ⟨b22, hS⟩ := gd_s hS
      refine VL.q (q_add rfl rfl b22) (by decide) ?_
      refine VL.q (q_move rfl) (by decide) ?_
      refine VL.rnd ((size3_1 + (z13_3.l.length : Int)), (x11_2 + 1)) [0, 3, 9, 10, 11] (fun _ _ h => h) (go2 hS hK1) rfl
  ·
    replace hS := it_f h12 hS
    replace hS := up2 hS hK1
    refine VC.exit_to (fun _ _ h => h) ?_
    refine VC.seq ?_
    refine VC.region ?_
    refine VL.q (q_move rfl) (by decide) ?_
    obtain ⟨y24_4, ey24_4, hS⟩ := bd_s hS
    refine VL.callO (slices_Grow_byte_byte_ct size3_1 ey24_4) rfl (by decide) ?_
    rintro q24_4_0 rfl
    try dsimp only
    refine VL.q (q_assign rfl) (by decide) ?_
    refine VL.to (fun _ _ h => h) ?_
    refine VC.seq ?_
    refine VC.seq ?_
    refine VC.region ?_
    refine VL.q (q_move rfl) (by decide) ?_
    refine VL.q (q_lnm Sv.l (s := slices_0) Tryd.underlying201 rfl) (by decide) ?_
    refine VL.q (q_move rfl) (by decide) ?_
    refine VL.to (fun _ _ h => h) ?_
    refine VC.keep [6, 25, 26, 27] rfl ?_
    refine VC.block ?_
    refine VC.iter (S := Sv UInt8 × Int) (fun sg => (sg.1.l, sg.2)) (fun sg => [(6, sg.1.val), (25, slices_0.val), (26, i64 ((slices_0.l.map Sv.l).length : Int)), (27, i64 sg.2)]) (fun sg => Mo.tt) (fun sg => Ow.star (Sv.own sg.1 5) (Ow.emp)) (q24_4_0, 0) [6, 25, 26, 27] hS rfl ?_
    clear hS
    rintro ⟨newslice6_5, x27_6⟩ m1 y1 hS hK1
    show VC _ _ _ _ _ [(6, newslice6_5.val), (25, slices_0.val), (26, i64 ((slices_0.l.map Sv.l).length : Int)), (27, i64 x27_6)] (Mo.and Mo.tt _) (Ow.star (Sv.own newslice6_5 5) (Ow.emp))
    refine VC.seq ?_
    refine VC.region ?_
    refine VL.q (q_lss rfl rfl) (by decide) ?_
    refine VL.to (fun _ _ h => h) ?_
    refine VC.seq ?_
    refine VC.cond_dec rfl (fun h28 => ?_) (fun h28 => ?_)
    ·
      replace hS := it_t h28 hS
      refine VC.skip_to (fun _ _ h => h) ?_
      refine VC.seq ?_
      refine VC.block ?_
      refine VC.seq ?_
      refine VC.region ?_
      obtain ⟨z29_7, nz29_7, hz29_7, hS⟩ := atm_s hS
      refine VL.deep z29_7.ok hz29_7 (fun _ q => q) ?_
      refine VL.q (q_ixm (s := slices_0) Tryd.underlying201 gsz22 rfl rfl nz29_7 (lt_of_get nz29_7 hz29_7)) (by decide) ?_
      refine VL.q (q_el (s := slices_0) gone22 rfl hz29_7 rfl) (by decide) ?_
      refine VL.q (q_assign rfl) (by decide) ?_
      refine VL.to (fun _ _ h => h) ?_
      refine VC.region ?_
      refine VL.q (q_move rfl) (by decide) ?_
      refine VL.q (q_move rfl) (by decide) ?_
      obtain ⟨b33, hS⟩ := gd_s hS
      refine VL.app (s := newslice6_5) (r := z29_7) Tryd.underlying22 gapp5 (by decide) rfl Fo.out (ap1 b33) (ap2 b33 (by decide)) (by decide) (fun s33_8 hs33_8 => ?_)
      replace hS := lt_to hs33_8 hS
      refine VL.q (q_assign rfl) (by decide) ?_
      refine VL.to (fun _ _ h => h) ?_
      refine VC.keep [6, 25, 26, 27] rfl ?_
      refine VC.region ?_
      obtain ⟨b34, hS⟩ := gd_s hS
      refine VL.q (q_add rfl rfl b34) (by decide) ?_
      refine VL.q (q_move rfl) (by decide) ?_
      refine VL.rnd (s33_8, (x27_6 + 1)) [6, 25, 26, 27] (fun _ _ h => h) (go2 hS hK1) rfl
    ·
      replace hS := it_f h28 hS
      replace hS := up2 hS hK1
      refine VC.exit_to (fun _ _ h => h) ?_
      refine VC.seq ?_
      refine VC.region ?_
      refine VL.q (q_move rfl) (by decide) ?_
      refine VL.q (q_assign rfl) (by decide) ?_
      refine VL.to (fun _ _ h => h) ?_
      cases hS
      exact VC.ret (fin1 (.inr rfl) rfl rfl newslice6_5 rfl rfl (by (try dsimp only); exact InM.out) (by (try dsimp only); exact EntO.out))

set_option maxHeartbeats 4000000 in
set_option maxRecDepth 100000 in
theorem seal_Put_ct (b_0 : Sv UInt8) {r : List UInt8} (hS : Sh.seal_Put b_0.l = some r) :
    Ct Tryd.prog 80 [b_0.val] b_0.ok (Ow.emp) (X := Sv UInt8) (fun x => x.val) (fun x => r = x.l) (fun x => Mo.tt) (fun x => Sv.own x 5) := by
  refine Ct.of Tryd.func80 rfl (by kernel_rfl) Tryd.ntmps80 (by simp) fun c => ?_
  unfold Sh.seal_Put at hS
  refine VC.seq ?_
  refine VC.region ?_
  refine VL.q (q_assign rfl) (by decide) ?_
  refine VL.to (fun _ _ h => h) ?_
  refine VC.seq ?_
  refine VC.region ?_
  refine VL.q (q_move rfl) (by decide) ?_
  refine VL.lit (α := Sv UInt8) (xs := [.tmp 4]) (vs := [b_0.val]) [b_0] Tryd.underlying201 glit22 (by decide) rfl rfl rfl rfl (by decide) (fun h m => List.forall_mem_cons.2 ⟨InM.out (X := b_0.ok) h m, fun _ h => by cases h⟩) (by decide) (fun s5_1 hs5_1 => ?_) (by decide)
  replace hS := lt_to (congrArg (List.map Sv.l) hs5_1) hS
  obtain ⟨y6_3, ey6_3, hS⟩ := bd_s hS
  refine VL.q (q_call (seal_Sum_ct s5_1 ey6_3) rfl (fun _ _ => rfl)) (by decide) ?_
  refine VL.q (q_assign rfl) (by decide) ?_
  refine VL.to (fun _ _ h => h) ?_
  refine VC.seq ?_
  refine VC.region ?_
  refine VL.q (q_move rfl) (by decide) ?_
  refine VL.q (q_move rfl) (by decide) ?_
  refine VL.q (q_convW Tryd.underlying183 Tryd.underlying5 rfl) (by decide) ?_
  refine VL.q (q_move rfl) (by decide) ?_
  refine VL.q (q_shr rfl rfl (by decide)) (by decide) ?_
  refine VL.q (q_convW Tryd.underlying183 Tryd.underlying5 rfl) (by decide) ?_
  refine VL.q (q_move rfl) (by decide) ?_
  refine VL.q (q_shr rfl rfl (by decide)) (by decide) ?_
  refine VL.q (q_convW Tryd.underlying183 Tryd.underlying5 rfl) (by decide) ?_
  refine VL.q (q_move rfl) (by decide) ?_
  refine VL.q (q_shr rfl rfl (by decide)) (by decide) ?_
  refine VL.q (q_convW Tryd.underlying183 Tryd.underlying5 rfl) (by decide) ?_
  obtain ⟨b19_9, hS⟩ := gd_s hS
  obtain ⟨u19_5, eu19_5, hS⟩ := lt_s hS
  refine VL.setv 9 rfl (congrArg (Value.int .u8) (u8_z b19_9 eu19_5)) ?_
  obtain ⟨b19_12, hS⟩ := gd_s hS
  obtain ⟨u19_6, eu19_6, hS⟩ := lt_s hS
  refine VL.setv 12 rfl (congrArg (Value.int .u8) (u8_z b19_12 eu19_6)) ?_
  obtain ⟨b19_15, hS⟩ := gd_s hS
  obtain ⟨u19_7, eu19_7, hS⟩ := lt_s hS
  refine VL.setv 15 rfl (congrArg (Value.int .u8) (u8_z b19_15 eu19_7)) ?_
  obtain ⟨b19_18, hS⟩ := gd_s hS
  obtain ⟨u19_8, eu19_8, hS⟩ := lt_s hS
  refine VL.setv 18 rfl (congrArg (Value.int .u8) (u8_z b19_18 eu19_8)) ?_
  refine VL.lit (α := UInt8) (xs := [.tmp 9, .tmp 12, .tmp 15, .tmp 18]) (vs := [.int .u8 (u19_5.toNat : Int), .int .u8 (u19_6.toNat : Int), .int .u8 (u19_7.toNat : Int), .int .u8 (u19_8.toNat : Int)]) [u19_5, u19_6, u19_7, u19_8] Tryd.underlying22 glit5 (by decide) rfl rfl rfl rfl (by decide) (fun _ _ _ _ => trivial) (by decide) (fun s19_4 hs19_4 => ?_) (by decide)
  replace hS := lt_to hs19_4 hS
  refine VL.lit (α := Sv UInt8) (xs := [.tmp 7, .tmp 19]) (vs := [b_0.val, s19_4.val]) [b_0, s19_4] Tryd.underlying201 glit22 (by decide) rfl rfl rfl rfl (by decide) (fun h m => List.forall_mem_cons.2 ⟨InM.out (X := b_0.ok) h m, List.forall_mem_cons.2 ⟨InM.out (X := s19_4.ok) h m, fun _ h => by cases h⟩⟩) (by decide) (fun s20_10 hs20_10 => ?_) (by decide)
  replace hS := lt_to (congrArg (List.map Sv.l) hs20_10) hS
  obtain ⟨y21_12, ey21_12, hS⟩ := bd_s hS
  refine VL.callO (slices_Concat_byte_byte_ct s20_10 ey21_12) rfl (by decide) ?_
  rintro q21_12_0 rfl
  try dsimp only
  refine VL.q (q_assign rfl) (by decide) ?_
  refine VL.to (fun _ _ h => h) ?_
  refine VC.keep [2] rfl ?_
  cases hS
  exact VC.ret (fin1 (.inr rfl) rfl rfl q21_12_0 rfl rfl (by (try dsimp only); exact InM.out) (by (try dsimp only); exact EntO.out))

set_option maxHeartbeats 4000000 in
set_option maxRecDepth 100000 in
theorem object_Encode_ct (a_0 : ObjectObject) {r : List UInt8 × Err} (hS : Sh.object_Encode a_0.pl = some r) :
    Ct Tryd.prog 40 [.agg #[i64 a_0.kind, a_0.data.val, a_0.items.val, i64 a_0.tree, a_0.parents.val, i64 a_0.time, str a_0.text]] (a_0.data.ok.and (a_0.items.ok.and a_0.parents.ok)) (Ow.emp) (X := Sv UInt8 × Er) (fun x => .tuple #[x.1.val, x.2.val]) (fun x => r = (x.1.l, x.2.pl)) (fun x => x.2.ok) (fun x => Sv.own x.1 5) := by
  refine Ct.of Tryd.func40 rfl (by kernel_rfl) Tryd.ntmps40 (by simp) fun c => ?_
  unfold Sh.object_Encode at hS
  refine VC.seq ?_
  refine VC.region ?_
  refine VL.box (cs := [i64 a_0.kind, a_0.data.val, a_0.items.val, i64 a_0.tree, a_0.parents.val, i64 a_0.time, str a_0.text]) rfl rfl (by decide) fun b1_1 => ?_
  refine VL.q (q_assign rfl) (by decide) ?_
  refine VL.q (q_assign rfl) (by decide) ?_
  refine VL.to (fun _ _ h => h) ?_
  refine VC.seq ?_
  refine VC.seq ?_
  refine VC.region ?_
  refine VL.q (q_fes gagg26 rfl rfl) (by decide) ?_
  obtain ⟨y9_2, ey9_2, hS⟩ := bd_s hS
  refine VL.callF (object_Check_ct a_0 ey9_2) rfl (by decide) ?_
  rintro q9_2_0 rfl
  try dsimp only
  refine VL.q (q_assign rfl) (by decide) ?_
  refine VL.to (fun _ _ h => h) ?_
  refine VC.seq ?_
  refine VC.region ?_
  refine VL.q (q_move rfl) (by decide) ?_
  refine VL.q (q_erne Tryd.underlying44 rfl) (by decide) ?_
  refine VL.to (fun _ _ h => h) ?_
  refine VC.cond_ndec rfl (fun h11 => ?_) (fun h11 => ?_)
  ·
    replace hS := it_f h11 hS
    refine VC.seq ?_
    refine VC.region ?_
    refine VL.q (q_move rfl) (by decide) ?_
    refine VL.q (q_assign rfl) (by decide) ?_
    refine VL.q (q_assign rfl) (by decide) ?_
    refine VL.to (fun _ _ h => h) ?_
    refine VC.nilO (⟨none, 0, []⟩ : Sv UInt8) 5 ⟨rfl, rfl⟩ ?_
    cases hS
    exact VC.ret (fin2 (.inr rfl) rfl rfl rfl (⟨none, 0, []⟩, q9_2_0) rfl rfl (by (try dsimp only); exact InM.out) (by (try dsimp only); exact EntO.out))
  ·
    replace hS := it_t h11 hS
    refine VC.skip_to (fun _ _ h => h) ?_
    refine VC.seq ?_
    refine VC.region ?_
    refine VL.alloc (cs := [.slice none 0 0]) (by kernel_rfl) (by decide) fun b5_3 => ?_
    refine VL.to (fun _ _ h => h) ?_
    refine VC.seq ?_
    refine VC.region ?_
    refine VL.q (q_field gfa26_0 rfl) (by decide) ?_
    refine VL.q (q_fe gone3 rfl rfl) (by decide) ?_
    refine VL.lit (α := Int) (xs := [.tmp 14]) (vs := [i64 a_0.kind]) [a_0.kind] Tryd.underlying24 glit3 (by decide) rfl rfl rfl rfl (by decide) (fun _ _ _ _ => trivial) (by decide) (fun s15_4 hs15_4 => ?_) (by decide)
    replace hS := lt_to hs15_4 hS
    refine VL.nilO (⟨none, 0, []⟩ : Sv UInt8) 5 ⟨rfl, rfl⟩ ?_
    refine VL.reB b5_3 (cs' := [(⟨none, 0, []⟩ : Sv UInt8).val]) rfl ?_
    obtain ⟨y16_6, ey16_6, hS⟩ := bd_s hS
    refine VL.callO (codec_Enc_Int_ct b5_3 (⟨(⟨none, 0, []⟩ : Sv UInt8)⟩ : CodecEnc) s15_4 ey16_6) rfl (by decide) ?_
    rintro q16_6_0 rfl
    try dsimp only
    refine VL.to (fun _ _ h => h) ?_
    refine VC.keep [1, 5] rfl ?_
    refine VC.cutJ (S := Sv UInt8) (fun (c0_7 : Sv UInt8) => c0_7.l) (fun (c0_7 : Sv UInt8) => [(5, ptr b5_3 0)]) (fun (c0_7 : Sv UInt8) => Mo.tt) (fun (c0_7 : Sv UInt8) => Ow.star (Blk b5_3 [c0_7.val] 135) (Ow.star (Blk b1_1 [i64 a_0.kind, a_0.data.val, a_0.items.val, i64 a_0.tree, a_0.parents.val, i64 a_0.time, str a_0.text] 26) (Ow.star (Sv.own c0_7 5) (Ow.emp)))) hS ?_ ?_
    · -- up to where ways meet
      clear hS
      intro k8 hS
      refine VC.seq ?_
      refine VC.region ?_
      refine VL.q (q_field gfa26_0 rfl) (by decide) ?_
      refine VL.q (q_fe gone3 rfl rfl) (by decide) ?_
      refine VL.to (fun _ _ h => h) ?_
      refine VC.block ?_
      refine VC.seq ?_
      refine VC.region ?_
      refine VL.q (q_eql rfl rfl) (by decide) ?_
      refine VL.q (q_assign rfl) (by decide) ?_
      refine VL.to (fun _ _ h => h) ?_
      refine VC.cond_dec rfl (fun h19 => ?_) (fun h19 => ?_)
      ·
        replace hS := it_t h19 hS
        refine VC.region ?_
        refine VL.q (q_field gfa26_1 rfl) (by decide) ?_
        refine VL.q (q_fe gone22 rfl rfl) (by decide) ?_
        refine VL.q (q_b2s (s := a_0.data) Tryd.underlying22 Tryd.underlying5 Tryd.underlying9 rfl) (by decide) ?_
        refine VL.lit (α := Str) (xs := [.tmp 23]) (vs := [str a_0.data.l]) [a_0.data.l] Tryd.underlying58 glit9 (by decide) rfl rfl rfl rfl (by decide) (fun _ _ _ _ => trivial) (by decide) (fun s24_9 hs24_9 => ?_) (by decide)
        replace hS := lt_to hs24_9 hS
        obtain ⟨y25_11, ey25_11, hS⟩ := bd_s hS
        refine VL.callO (codec_Enc_Text_ct b5_3 q16_6_0 s24_9 ey25_11) rfl (by decide) ?_
        rintro q25_11_0 rfl
        try dsimp only
        refine VL.mt q25_11_0.b [5] (fun _ _ h => h) hS rfl
      ·
        replace hS := it_f h19 hS
        refine VC.seq ?_
        refine VC.region ?_
        refine VL.q (q_eql rfl rfl) (by decide) ?_
        refine VL.q (q_assign rfl) (by decide) ?_
        refine VL.to (fun _ _ h => h) ?_
        refine VC.cond_dec rfl (fun h26 => ?_) (fun h26 => ?_)
        ·
          replace hS := it_t h26 hS
          refine VC.seq ?_
          refine VC.region ?_
          refine VL.q (q_field gfa26_2 rfl) (by decide) ?_
          refine VL.q (q_fe gone23 rfl rfl) (by decide) ?_
          refine VL.q (q_ln (s := a_0.items) Tryd.underlying23 rfl) (by decide) ?_
          refine VL.lit (α := Int) (xs := [.tmp 30]) (vs := [i64 (a_0.items.l.length : Int)]) [(a_0.items.l.length : Int)] Tryd.underlying24 glit3 (by decide) rfl rfl rfl rfl (by decide) (fun _ _ _ _ => trivial) (by decide) (fun s31_12 hs31_12 => ?_) (by decide)
          replace hS := lt_to hs31_12 hS
          obtain ⟨y32_14, ey32_14, hS⟩ := bd_s hS
          refine VL.callO (codec_Enc_Int_ct b5_3 q16_6_0 s31_12 ey32_14) rfl (by decide) ?_
          rintro q32_14_0 rfl
          try dsimp only
          refine VL.to (fun _ _ h => h) ?_
          refine VC.keep [1, 5] rfl ?_
          refine VC.seq ?_
          refine VC.region ?_
          refine VL.q (q_field gfa26_2 rfl) (by decide) ?_
          refine VL.q (q_fe gone23 rfl rfl) (by decide) ?_
          refine VL.q (q_ln (s := a_0.items) Tryd.underlying23 rfl) (by decide) ?_
          refine VL.q (q_move rfl) (by decide) ?_
          refine VL.to (fun _ _ h => h) ?_
          refine VC.block ?_
          refine VC.iter (S := Int × Sv UInt8) (fun sg => (sg.1, sg.2.l)) (fun sg => [(5, ptr b5_3 0), (34, a_0.items.val), (35, i64 (a_0.items.l.length : Int)), (36, i64 sg.1)]) (fun sg => Mo.tt) (fun sg => Ow.star (Blk b5_3 [sg.2.val] 135) (Ow.star (Blk b1_1 [i64 a_0.kind, a_0.data.val, a_0.items.val, i64 a_0.tree, a_0.parents.val, i64 a_0.time, str a_0.text] 26) (Ow.star (Sv.own sg.2 5) (Ow.emp)))) (0, q32_14_0.b) [5, 34, 35, 36] hS rfl ?_
          clear hS
          rintro ⟨x36_15, c0_16⟩ m1 y1 hS hK1
          show VC _ _ _ _ _ [(5, ptr b5_3 0), (34, a_0.items.val), (35, i64 (a_0.items.l.length : Int)), (36, i64 x36_15)] (Mo.and Mo.tt _) (Ow.star (Blk b5_3 [c0_16.val] 135) (Ow.star (Blk b1_1 [i64 a_0.kind, a_0.data.val, a_0.items.val, i64 a_0.tree, a_0.parents.val, i64 a_0.time, str a_0.text] 26) (Ow.star (Sv.own c0_16 5) (Ow.emp))))
          refine VC.seq ?_
          refine VC.region ?_
          refine VL.q (q_lss rfl rfl) (by decide) ?_
          refine VL.to (fun _ _ h => h) ?_
          refine VC.seq ?_
          refine VC.cond_dec rfl (fun h37 => ?_) (fun h37 => ?_)
          ·
            replace hS := it_t h37 hS
            refine VC.skip_to (fun _ _ h => h) ?_
            refine VC.seq ?_
            refine VC.block ?_
            refine VC.seq ?_
            refine VC.region ?_
            obtain ⟨z38_17, nz38_17, hz38_17, hS⟩ := at_s hS
            refine VL.q (q_ixm (s := a_0.items) Tryd.underlying23 gsz82 rfl rfl nz38_17 (lt_of_get nz38_17 hz38_17)) (by decide) ?_
            refine VL.q (q_els (s := a_0.items) gagg82 rfl rfl hz38_17) (by decide) ?_
            refine VL.alloc (cs := [str [], i64 0, i64 0]) (by kernel_rfl) (by decide) fun b7_18 => ?_
            refine VL.store (vc := [str z38_17.path, i64 z38_17.mode, i64 z38_17.blob]) (cs' := [str z38_17.path, i64 z38_17.mode, i64 z38_17.blob]) rfl rfl rfl gsz82 rfl rfl (Nat.le_of_ble_eq_true rfl) rfl ?_
            refine VL.to (fun _ _ h => h) ?_
            refine VC.seq ?_
            refine VC.region ?_
            refine VL.q (q_field gfa82_0 rfl) (by decide) ?_
            refine VL.q (q_fe gone9 rfl rfl) (by decide) ?_
            refine VL.lit (α := Str) (xs := [.tmp 41]) (vs := [str z38_17.path]) [z38_17.path] Tryd.underlying58 glit9 (by decide) rfl rfl rfl rfl (by decide) (fun _ _ _ _ => trivial) (by decide) (fun s42_19 hs42_19 => ?_) (by decide)
            replace hS := lt_to hs42_19 hS
            obtain ⟨y43_21, ey43_21, hS⟩ := bd_s hS
            refine VL.callO (codec_Enc_Text_ct b5_3 (⟨c0_16⟩ : CodecEnc) s42_19 ey43_21) rfl (by decide) ?_
            rintro q43_21_0 rfl
            try dsimp only
            refine VL.to (fun _ _ h => h) ?_
            refine VC.keep [5, 34, 35, 36, 7] rfl ?_
            refine VC.region ?_
            refine VL.q (q_field gfa82_1 rfl) (by decide) ?_
            refine VL.q (q_fe gone3 rfl rfl) (by decide) ?_
            refine VL.q (q_field gfa82_2 rfl) (by decide) ?_
            refine VL.q (q_fe gone3 rfl rfl) (by decide) ?_
            refine VL.lit (α := Int) (xs := [.tmp 45, .tmp 47]) (vs := [i64 z38_17.mode, i64 z38_17.blob]) [z38_17.mode, z38_17.blob] Tryd.underlying24 glit3 (by decide) rfl rfl rfl rfl (by decide) (fun _ _ _ _ => trivial) (by decide) (fun s48_22 hs48_22 => ?_) (by decide)
            replace hS := lt_to hs48_22 hS
            obtain ⟨y49_24, ey49_24, hS⟩ := bd_s hS
            refine VL.callO (codec_Enc_Int_ct b5_3 q43_21_0 s48_22 ey49_24) rfl (by decide) ?_
            rintro q49_24_0 rfl
            try dsimp only
            refine VL.to (fun _ _ h => h) ?_
            refine VC.keep [5, 34, 35, 36] rfl ?_
            refine VC.region ?_
            obtain ⟨b50, hS⟩ := gd_s hS
            refine VL.q (q_add rfl rfl b50) (by decide) ?_
            refine VL.q (q_move rfl) (by decide) ?_
            refine VL.rnd ((x36_15 + 1), q49_24_0.b) [5, 34, 35, 36] (fun _ _ h => h) (go2 hS hK1) rfl
          ·
            replace hS := it_f h37 hS
            replace hS := up2 hS hK1
            refine VC.exit_mt c0_16 [5] (fun _ _ h => h) hS rfl
        ·
          replace hS := it_f h26 hS
          refine VC.seq ?_
          refine VC.region ?_
          refine VL.q (q_eql rfl rfl) (by decide) ?_
          refine VL.q (q_assign rfl) (by decide) ?_
          refine VL.to (fun _ _ h => h) ?_
          refine VC.cond_dec rfl (fun h51 => ?_) (fun h51 => ?_)
          ·
            replace hS := it_t h51 hS
            refine VC.seq ?_
            refine VC.region ?_
            refine VL.q (q_field gfa26_3 rfl) (by decide) ?_
            refine VL.q (q_fe gone3 rfl rfl) (by decide) ?_
            refine VL.q (q_field gfa26_4 rfl) (by decide) ?_
            refine VL.q (q_fe gone24 rfl rfl) (by decide) ?_
            refine VL.q (q_ln (s := a_0.parents) Tryd.underlying24 rfl) (by decide) ?_
            refine VL.lit (α := Int) (xs := [.tmp 54, .tmp 57]) (vs := [i64 a_0.tree, i64 (a_0.parents.l.length : Int)]) [a_0.tree, (a_0.parents.l.length : Int)] Tryd.underlying24 glit3 (by decide) rfl rfl rfl rfl (by decide) (fun _ _ _ _ => trivial) (by decide) (fun s58_25 hs58_25 => ?_) (by decide)
            replace hS := lt_to hs58_25 hS
            obtain ⟨y59_27, ey59_27, hS⟩ := bd_s hS
            refine VL.callO (codec_Enc_Int_ct b5_3 q16_6_0 s58_25 ey59_27) rfl (by decide) ?_
            rintro q59_27_0 rfl
            try dsimp only
            refine VL.to (fun _ _ h => h) ?_
            refine VC.keep [1, 5] rfl ?_
            refine VC.seq ?_
            refine VC.region ?_
            refine VL.q (q_field gfa26_4 rfl) (by decide) ?_
            refine VL.q (q_fe gone24 rfl rfl) (by decide) ?_
            obtain ⟨y62_28, ey62_28, hS⟩ := bd_s hS
            refine VL.callO (codec_Enc_Int_ct b5_3 q59_27_0 a_0.parents ey62_28) rfl (by decide) ?_
            rintro q62_28_0 rfl
            try dsimp only
            refine VL.to (fun _ _ h => h) ?_
            refine VC.seq ?_
            refine VC.region ?_
            refine VL.q (q_field gfa26_5 rfl) (by decide) ?_
            refine VL.q (q_fe gone3 rfl rfl) (by decide) ?_
            refine VL.lit (α := Int) (xs := [.tmp 64]) (vs := [i64 a_0.time]) [a_0.time] Tryd.underlying24 glit3 (by decide) rfl rfl rfl rfl (by decide) (fun _ _ _ _ => trivial) (by decide) (fun s65_29 hs65_29 => ?_) (by decide)
            replace hS := lt_to hs65_29 hS
            obtain ⟨y66_31, ey66_31, hS⟩ := bd_s hS
            refine VL.callO (codec_Enc_Int_ct b5_3 q62_28_0 s65_29 ey66_31) rfl (by decide) ?_
            rintro q66_31_0 rfl
            try dsimp only
            refine VL.to (fun _ _ h => h) ?_
            refine VC.region ?_
            refine VL.q (q_field gfa26_6 rfl) (by decide) ?_
            refine VL.q (q_fe gone9 rfl rfl) (by decide) ?_
            refine VL.lit (α := Str) (xs := [.tmp 68]) (vs := [str a_0.text]) [a_0.text] Tryd.underlying58 glit9 (by decide) rfl rfl rfl rfl (by decide) (fun _ _ _ _ => trivial) (by decide) (fun s69_32 hs69_32 => ?_) (by decide)
            replace hS := lt_to hs69_32 hS
            obtain ⟨y70_34, ey70_34, hS⟩ := bd_s hS
            refine VL.callO (codec_Enc_Text_ct b5_3 q66_31_0 s69_32 ey70_34) rfl (by decide) ?_
            rintro q70_34_0 rfl
            try dsimp only
            refine VL.mt q70_34_0.b [5] (fun _ _ h => h) hS rfl
          ·
            replace hS := it_f h51 hS
            refine VC.skip_mt q16_6_0.b [5] (fun _ _ h => h) hS rfl
    · -- from there
      clear hS
      rintro c0_7 hS
      show VC _ _ _ _ _ [(5, ptr b5_3 0)] (Mo.and Mo.tt _) (Ow.star (Blk b5_3 [c0_7.val] 135) (Ow.star (Blk b1_1 [i64 a_0.kind, a_0.data.val, a_0.items.val, i64 a_0.tree, a_0.parents.val, i64 a_0.time, str a_0.text] 26) (Ow.star (Sv.own c0_7 5) (Ow.emp))))
      refine VC.seq ?_
      refine VC.region ?_
      obtain ⟨y71_35, ey71_35, hS⟩ := bd_s hS
      refine VL.callO (codec_Enc_Bytes_ct b5_3 (⟨c0_7⟩ : CodecEnc) ey71_35) rfl (by decide) ?_
      rintro q71_35_0 rfl
      try dsimp only
      obtain ⟨y72_36, ey72_36, hS⟩ := bd_s hS
      refine VL.callO (seal_Put_ct q71_35_0 ey72_36) rfl (by decide) ?_
      rintro q72_36_0 rfl
      try dsimp only
      refine VL.q (q_assign rfl) (by decide) ?_
      refine VL.q (q_assign rfl) (by decide) ?_
      refine VL.to (fun _ _ h => h) ?_
      cases hS
      exact VC.ret (fin2 (.inr rfl) rfl rfl rfl (q72_36_0, .nil) rfl rfl (by (try dsimp only); exact InM.out) (by (try dsimp only); exact EntO.out))

set_option maxHeartbeats 4000000 in
set_option maxRecDepth 100000 in
theorem bytes_Equal_ct (a_0 : Sv UInt8) (b_1 : Sv UInt8) {r : Bool} (hS : Sh.bytes_Equal a_0.l b_1.l = some r) :
    Ct Tryd.prog 43 [a_0.val, b_1.val] (a_0.ok.and b_1.ok) (Ow.emp) (X := Unit) (fun _ => .bool r) (fun _ => True) (fun _ => Mo.tt) (fun _ => Ow.emp) := by
  refine Ct.of Tryd.func43 rfl (by kernel_rfl) Tryd.ntmps43 (by simp) fun c => ?_
  unfold Sh.bytes_Equal at hS
  refine VC.seq ?_
  refine VC.region ?_
  refine VL.q (q_assign rfl) (by decide) ?_
  refine VL.to (fun _ _ h => h) ?_
  refine VC.seq ?_
  refine VC.region ?_
  refine VL.q (q_move rfl) (by decide) ?_
  refine VL.q (q_b2s (s := a_0) Tryd.underlying22 Tryd.underlying5 Tryd.underlying9 rfl) (by decide) ?_
  refine VL.q (q_move rfl) (by decide) ?_
  refine VL.q (q_b2s (s := b_1) Tryd.underlying22 Tryd.underlying5 Tryd.underlying9 rfl) (by decide) ?_
  refine VL.q (q_seq rfl rfl) (by decide) ?_
  refine VL.q (q_assign rfl) (by decide) ?_
  refine VL.to (fun _ _ h => h) ?_
  cases hS
  exact VC.ret (fin1 (.inr rfl) rfl rfl () rfl trivial (fun _ _ => trivial) (fun _ _ => trivial))

set_option maxHeartbeats 4000000 in
set_option maxRecDepth 100000 in
theorem seal_Open_ct (b_0 : Sv UInt8) {r : List UInt8 × Err} (hS : Sh.seal_Open b_0.l = some r) :
    Ct Tryd.prog 82 [b_0.val] b_0.ok (Ow.emp) (X := Sv UInt8 × Er) (fun x => .tuple #[x.1.val, x.2.val]) (fun x => r = (x.1.l, x.2.pl)) (fun x => (x.1.ok.and x.2.ok)) (fun x => Ow.emp) := by
  refine Ct.of Tryd.func82 rfl (by kernel_rfl) Tryd.ntmps82 (by simp) fun c => ?_
  unfold Sh.seal_Open at hS
  refine VC.seq ?_
  refine VC.region ?_
  refine VL.q (q_assign rfl) (by decide) ?_
  refine VL.q (q_assign rfl) (by decide) ?_
  refine VL.to (fun _ _ h => h) ?_
  refine VC.seq ?_
  refine VC.seq ?_
  refine VC.region ?_
  refine VL.q (q_move rfl) (by decide) ?_
  refine VL.q (q_ln (s := b_0) Tryd.underlying22 rfl) (by decide) ?_
  refine VL.q (q_lss rfl rfl) (by decide) ?_
  refine VL.to (fun _ _ h => h) ?_
  refine VC.cond_dec rfl (fun h7 => ?_) (fun h7 => ?_)
  ·
    replace hS := it_t h7 hS
    refine VC.seq ?_
    refine VC.region ?_
    refine VL.q (q_move rfl) (by decide) ?_
    refine VL.q (q_ln (s := b_0) Tryd.underlying22 rfl) (by decide) ?_
    refine VL.q (q_mkif Tryd.underlying97 (fun _ h => by cases h) rfl) (by decide) ?_
    refine VL.q (q_build (vs := [(0, str [115, 117, 109]), (1, i64 (b_0.l.length : Int)), (2, (Er.no 3).val)]) (cs := #[str [115, 117, 109], i64 (b_0.l.length : Int), (Er.no 3).val]) rfl (by kernel_rfl)) (by decide) ?_
    refine VL.box (cs := [str [115, 117, 109], i64 (b_0.l.length : Int), (Er.no 3).val]) rfl rfl (by decide) fun b12_1 => ?_
    refine VL.shutB b12_1 ?_
    refine VL.q (q_mkif Tryd.underlying110 (fun _ h => by cases h) rfl) (by decide) ?_
    refine VL.q (q_assign rfl) (by decide) ?_
    refine VL.q (q_assign rfl) (by decide) ?_
    refine VL.to (fun _ _ h => h) ?_
    refine VC.keep [2, 3] rfl ?_
    cases hS
    exact VC.ret (fin2 (.inr rfl) rfl rfl rfl (⟨none, 0, []⟩, (Er.fault b12_1 [115, 117, 109] (b_0.l.length : Int) (Er.no 3))) rfl rfl (by (try dsimp only); exact InM.out) (fun _ _ => trivial))
  ·
    replace hS := it_f h7 hS
    refine VC.skip_to (fun _ _ h => h) ?_
    refine VC.seq ?_
    refine VC.region ?_
    refine VL.q (q_move rfl) (by decide) ?_
    refine VL.q (q_move rfl) (by decide) ?_
    refine VL.q (q_ln (s := b_0) Tryd.underlying22 rfl) (by decide) ?_
    obtain ⟨b17, hS⟩ := gd_s hS
    refine VL.q (q_sub rfl rfl b17) (by decide) ?_
    obtain ⟨b18, hS⟩ := gd_s hS
    refine VL.sto Tryd.underlying22 gsz5 rfl rfl b18.1 (b18.2) (by decide) fun s18_2 hs18_2 => ?_
    replace hS := lt_to hs18_2 hS
    refine VL.q (q_assign rfl) (by decide) ?_
    refine VL.to (fun _ _ h => h) ?_
    refine VC.keep [0, 4] rfl ?_
    refine VC.seq ?_
    refine VC.seq ?_
    refine VC.region ?_
    refine VL.q (q_move rfl) (by decide) ?_
    obtain ⟨y20_4, ey20_4, hS⟩ := bd_s hS
    refine VL.callO (seal_Put_ct s18_2 ey20_4) rfl (by decide) ?_
    rintro q20_4_0 rfl
    try dsimp only
    refine VL.q (q_move rfl) (by decide) ?_
    obtain ⟨y22_5, ey22_5, hS⟩ := bd_s hS
    refine VL.q (q_callR (bytes_Equal_ct q20_4_0 b_0 ey22_5) rfl (fun _ _ => rfl)) (by decide) ?_
    refine VL.q (q_not rfl) (by decide) ?_
    refine VL.to (fun _ _ h => h) ?_
    refine VC.cond rfl (fun h23 => ?_) (fun h23 => ?_)
    ·
      replace hS := it_t h23 hS
      refine VC.seq ?_
      refine VC.region ?_
      refine VL.q (q_move rfl) (by decide) ?_
      refine VL.q (q_ln (s := b_0) Tryd.underlying22 rfl) (by decide) ?_
      refine VL.q (q_mkif Tryd.underlying97 (fun _ h => by cases h) rfl) (by decide) ?_
      refine VL.q (q_build (vs := [(0, str [115, 117, 109]), (1, i64 (b_0.l.length : Int)), (2, (Er.no 12).val)]) (cs := #[str [115, 117, 109], i64 (b_0.l.length : Int), (Er.no 12).val]) rfl (by kernel_rfl)) (by decide) ?_
      refine VL.box (cs := [str [115, 117, 109], i64 (b_0.l.length : Int), (Er.no 12).val]) rfl rfl (by decide) fun b28_6 => ?_
      refine VL.shutB b28_6 ?_
      refine VL.q (q_mkif Tryd.underlying110 (fun _ h => by cases h) rfl) (by decide) ?_
      refine VL.q (q_assign rfl) (by decide) ?_
      refine VL.q (q_assign rfl) (by decide) ?_
      refine VL.to (fun _ _ h => h) ?_
      refine VC.keep [2, 3] rfl ?_
      cases hS
      exact VC.ret (fin2 (.inr rfl) rfl rfl rfl (⟨none, 0, []⟩, (Er.fault b28_6 [115, 117, 109] (b_0.l.length : Int) (Er.no 12))) rfl rfl (by (try dsimp only); exact InM.out) (fun _ _ => trivial))
    ·
      replace hS := it_b h23 hS
      refine VC.skip_to (fun _ _ h => h) ?_
      refine VC.seq ?_
      refine VC.region ?_
      refine VL.q (q_move rfl) (by decide) ?_
      obtain ⟨y31_7, ey31_7, hS⟩ := bd_s hS
      refine VL.callO (slices_Clone_byte_byte_ct s18_2 ey31_7) rfl (by decide) ?_
      rintro q31_7_0 rfl
      try dsimp only
      refine VL.shut q31_7_0 5 (fun _ _ _ _ => trivial) ?_
      obtain ⟨y32_8, ey32_8, hS⟩ := bd_s hS
      refine VL.callF (slices_Clip_byte_byte_ct q31_7_0 ey32_8) rfl (by decide) ?_
      rintro q32_8_0 rfl
      try dsimp only
      refine VL.q (q_assign rfl) (by decide) ?_
      refine VL.q (q_assign rfl) (by decide) ?_
      refine VL.to (fun _ _ h => h) ?_
      refine VC.keep [2, 3] rfl ?_
      cases hS
      exact VC.ret (fin2 (.inr rfl) rfl rfl rfl (q32_8_0, .nil) rfl rfl (by (try dsimp only); exact InM.out) (fun _ _ => trivial))

set_option maxHeartbeats 4000000 in
set_option maxRecDepth 100000 in
theorem codec_Of_ct (b_0 : Sv UInt8) {r : CodecDecP} (hS : Sh.codec_Of b_0.l = some r) :
    Ct Tryd.prog 83 [b_0.val] b_0.ok (Ow.emp) (X := Nat × CodecDec) (fun x => ptr x.1 0) (fun x => r = x.2.pl) (fun x => (x.2.b.ok.and x.2.err.ok)) (fun x => Blk x.1 [x.2.b.val, i64 x.2.at_, x.2.err.val] 187) := by
  refine Ct.of Tryd.func83 rfl (by kernel_rfl) Tryd.ntmps83 (by simp) fun c => ?_
  unfold Sh.codec_Of at hS
  refine VC.seq ?_
  refine VC.region ?_
  refine VL.q (q_assign rfl) (by decide) ?_
  refine VL.to (fun _ _ h => h) ?_
  refine VC.seq ?_
  refine VC.region ?_
  refine VL.q (q_move rfl) (by decide) ?_
  obtain ⟨y4_1, ey4_1, hS⟩ := bd_s hS
  refine VL.callO (slices_Clone_byte_byte_ct b_0 ey4_1) rfl (by decide) ?_
  rintro q4_1_0 rfl
  try dsimp only
  refine VL.q (q_build (vs := [(0, q4_1_0.val)]) (cs := #[q4_1_0.val, i64 0, .nilIface]) rfl (by kernel_rfl)) (by decide) ?_
  refine VL.box (cs := [q4_1_0.val, i64 0, .nilIface]) rfl rfl (by decide) fun b6_2 => ?_
  refine VL.q (q_assign rfl) (by decide) ?_
  refine VL.to (fun _ _ h => h) ?_
  refine VC.shut q4_1_0 5 (fun _ _ _ _ => trivial) ?_
  refine VC.reB b6_2 (cs' := [q4_1_0.val, i64 0, (Er.nil).val]) rfl ?_
  cases hS
  exact VC.ret (fin1 (.inr rfl) rfl rfl (b6_2, ⟨q4_1_0, 0, (Er.nil)⟩) rfl rfl (by (try dsimp only); exact InM.out) (by (try dsimp only); exact EntO.out))

set_option maxHeartbeats 4000000 in
set_option maxRecDepth 100000 in
theorem codec_Dec_uint_ct (a_0_b : Nat) (a_0 : CodecDec) {r : Int × Int × CodecDecP} (hS : Sh.codec_Dec_uint a_0.pl = some r) :
    Ct Tryd.prog 152 [ptr a_0_b 0] (a_0.b.ok.and a_0.err.ok) (Blk a_0_b [a_0.b.val, i64 a_0.at_, a_0.err.val] 187) (X := Int × Int × CodecDec) (fun x => .tuple #[.int .u64 x.1, i64 x.2.1]) (fun x => r = (x.1, x.2.1, x.2.2.pl)) (fun x => (x.2.2.b.ok.and x.2.2.err.ok)) (fun x => Blk a_0_b [x.2.2.b.val, i64 x.2.2.at_, x.2.2.err.val] 187) := by
  refine Ct.of Tryd.func152 rfl (by kernel_rfl) Tryd.ntmps152 (by simp) fun c => ?_
  unfold Sh.codec_Dec_uint at hS
  refine VC.seq ?_
  refine VC.region ?_
  refine VL.q (q_assign rfl) (by decide) ?_
  refine VL.q (q_assign rfl) (by decide) ?_
  refine VL.to (fun _ _ h => h) ?_
  refine VC.seq ?_
  refine VC.region ?_
  refine VL.q (q_assign rfl) (by decide) ?_
  refine VL.to (fun _ _ h => h) ?_
  refine VC.seq ?_
  refine VC.seq ?_
  refine VC.region ?_
  refine VL.q (q_move rfl) (by decide) ?_
  refine VL.to (fun _ _ h => h) ?_
  refine VC.block ?_
  refine VC.iter (S := Int × Int) (fun sg => (sg.1, sg.2)) (fun sg => [(0, ptr a_0_b 0), (4, .int .u64 sg.1), (7, i64 sg.2)]) (fun sg => Mo.tt) (fun sg => Ow.star (Blk a_0_b [a_0.b.val, i64 a_0.at_, a_0.err.val] 187) (Ow.emp)) (0, 0) [0, 4, 7] hS rfl ?_
  clear hS
  rintro ⟨x4_1, x7_2⟩ m1 y1 hS hK1
  show VC _ _ _ _ _ [(0, ptr a_0_b 0), (4, .int .u64 x4_1), (7, i64 x7_2)] (Mo.and Mo.tt _) (Ow.star (Blk a_0_b [a_0.b.val, i64 a_0.at_, a_0.err.val] 187) (Ow.emp))
  refine VC.seq ?_
  refine VC.region ?_
  refine VL.q (q_lss rfl rfl) (by decide) ?_
  refine VL.to (fun _ _ h => h) ?_
  refine VC.seq ?_
  refine VC.cond_dec rfl (fun h8 => ?_) (fun h8 => ?_)
  ·
    replace hS := it_t h8 hS
    refine VC.skip_to (fun _ _ h => h) ?_
    refine VC.seq ?_
    refine VC.block ?_
    refine VC.seq ?_
    refine VC.region ?_
    refine VL.q (q_move rfl) (by decide) ?_
    refine VL.q (q_assign rfl) (by decide) ?_
    refine VL.to (fun _ _ h => h) ?_
    refine VC.seq ?_
    refine VC.seq ?_
    refine VC.draw ((List.range 12).map fun k => (k, true)) mixed (by kernel_rfl) (by kernel_rfl) (by kernel_rfl) ?_
    refine VD.q rfl (q_move rfl) (by decide) ?_
    refine VD.q rfl (q_nilCheck rfl) (by decide) ?_
    refine VD.q rfl (q_field gfa187_1 rfl) (by decide) ?_
    refine VD.q rfl (q_fe gone3 rfl rfl) (by decide) ?_
    refine VD.q rfl (q_move rfl) (by decide) ?_
    obtain ⟨b15, hS⟩ := gd_s hS
    refine VD.q rfl (q_add rfl rfl b15) (by decide) ?_
    refine VD.q rfl (q_move rfl) (by decide) ?_
    refine VD.q rfl (q_nilCheck rfl) (by decide) ?_
    refine VD.q rfl (q_field gfa187_0 rfl) (by decide) ?_
    refine VD.q rfl (q_fe gone22 rfl rfl) (by decide) ?_
    refine VD.q rfl (q_ln (s := a_0.b) Tryd.underlying22 rfl) (by decide) ?_
    refine VD.q rfl (q_geq rfl rfl) (by decide) ?_
    refine VD.to (fun _ _ h => h) ?_
    refine VC.keep [0, 4, 7, 5, 21] rfl ?_
    refine VC.cond_dec rfl (fun h21 => ?_) (fun h21 => ?_)
    ·
      replace hS := it_t h21 hS
      refine VC.seq ?_
      refine VC.region ?_
      refine VL.q (q_assign rfl) (by decide) ?_
      refine VL.q (q_assign rfl) (by decide) ?_
      refine VL.to (fun _ _ h => h) ?_
      replace hS := up2 hS hK1
      cases hS
      exact VC.ret (fin2 (.inr rfl) rfl rfl rfl (0, 3, ⟨a_0.b, a_0.at_, a_0.err⟩) rfl rfl (by (try dsimp only); exact InM.out) (by (try dsimp only); exact EntO.out))
    ·
      replace hS := it_f h21 hS
      refine VC.skip_to (fun _ _ h => h) ?_
      refine VC.seq ?_
      refine VC.draw ((List.range 13).map fun k => (k, true)) mixed (by kernel_rfl) (by kernel_rfl) (by kernel_rfl) ?_
      refine VD.q rfl (q_move rfl) (by decide) ?_
      refine VD.q rfl (q_nilCheck rfl) (by decide) ?_
      refine VD.q rfl (q_field gfa187_0 rfl) (by decide) ?_
      refine VD.q rfl (q_fe gone22 rfl rfl) (by decide) ?_
      refine VD.q rfl (q_move rfl) (by decide) ?_
      refine VD.q rfl (q_nilCheck rfl) (by decide) ?_
      refine VD.q rfl (q_field gfa187_1 rfl) (by decide) ?_
      refine VD.q rfl (q_fe gone3 rfl rfl) (by decide) ?_
      refine VD.q rfl (q_move rfl) (by decide) ?_
      obtain ⟨b31, hS⟩ := gd_s hS
      refine VD.q rfl (q_add rfl rfl b31) (by decide) ?_
      obtain ⟨z32_3, nz32_3, hz32_3, hS⟩ := at_s hS
      refine VD.q rfl (q_ixm (s := a_0.b) Tryd.underlying22 gsz5 rfl rfl nz32_3 (lt_of_get nz32_3 hz32_3)) (by decide) ?_
      refine VD.q rfl (q_el (s := a_0.b) gone5 rfl hz32_3 rfl) (by decide) ?_
      refine VD.q rfl (q_assign rfl) (by decide) ?_
      refine VD.to (fun _ _ h => h) ?_
      refine VC.keep [0, 4, 7, 5, 6] rfl ?_
      refine VC.cutJ (S := Unit) (fun (_ : Unit) => ()) (fun (_ : Unit) => [(0, ptr a_0_b 0), (4, .int .u64 x4_1), (5, i64 x7_2), (6, .int .u8 (z32_3.toNat : Int)), (7, i64 x7_2)]) (fun (_ : Unit) => Mo.tt) (fun (_ : Unit) => Ow.star (Blk a_0_b [a_0.b.val, i64 a_0.at_, a_0.err.val] 187) (Ow.emp)) hS ?_ ?_
      · -- up to where ways meet
        clear hS
        intro k4 hS
        refine VC.seq ?_
        refine VC.region ?_
        refine VL.q (q_move rfl) (by decide) ?_
        refine VL.q (q_eql rfl rfl) (by decide) ?_
        refine VL.q (q_move rfl) (by decide) ?_
        refine VL.split_dec 36 rfl (fun h36 => ?_) (fun h36 => ?_)
        ·
          replace hS := it_t h36 hS
          refine VL.gy rfl rfl (q_move rfl) (by decide) ?_
          refine VL.gy rfl rfl (q_gtr rfl rfl) (by decide) ?_
          refine VL.q (q_pick_t rfl rfl) (by decide) ?_
          refine VL.q (q_move rfl) (by decide) ?_
          refine VL.split_dec 40 rfl (fun h40 => ?_) (fun h40 => ?_)
          ·
            replace hS := it_t h40 hS
            refine VL.gn rfl rfl rfl (by decide) ?_
            refine VL.gn rfl rfl rfl (by decide) ?_
            refine VL.gn rfl rfl rfl (by decide) ?_
            refine VL.gu rfl rfl (by decide) ?_
            refine VL.gu rfl rfl (by decide) ?_
            refine VL.gn rfl rfl rfl (by decide) ?_
            refine VL.q (q_pick_t rfl rfl) (by decide) ?_
            refine VL.to (fun _ _ h => h) ?_
            refine VC.keep [0, 4, 7, 5, 6, 47] rfl ?_
            refine VC.cond_t rfl ?_
            replace hS := up2 hS hK1
            refine VC.exit_to (fun _ _ h => h) ?_
            refine VC.seq ?_
            refine VC.region ?_
            refine VL.q (q_assign rfl) (by decide) ?_
            refine VL.q (q_assign rfl) (by decide) ?_
            refine VL.to (fun _ _ h => h) ?_
            cases hS
            exact VC.ret (fin2 (.inr rfl) rfl rfl rfl (0, 2, ⟨a_0.b, a_0.at_, a_0.err⟩) rfl rfl (by (try dsimp only); exact InM.out) (by (try dsimp only); exact EntO.out))
          ·
            replace hS := it_f h40 hS
            refine VL.gy rfl rfl (q_move rfl) (by decide) ?_
            refine VL.gy rfl rfl (q_gtr rfl rfl) (by decide) ?_
            refine VL.gy rfl rfl (q_move rfl) (by decide) ?_
            refine VL.split_dec 43 rfl (fun h43 => ?_) (fun h43 => ?_)
            ·
              replace hS := it_t h43 hS
              refine VL.gy rfl rfl (q_move rfl) (by decide) ?_
              refine VL.gy rfl rfl (q_eql rfl rfl) (by decide) ?_
              refine VL.gy rfl rfl (q_pick_t rfl rfl) (by decide) ?_
              refine VL.q (q_pick_f rfl rfl) (by decide) ?_
              refine VL.to (fun _ _ h => h) ?_
              refine VC.keep [0, 4, 7, 5, 6, 47] rfl ?_
              refine VC.cond_dec rfl (fun h47 => ?_) (fun h47 => ?_)
              ·
                replace hS := it_t h47 hS
                replace hS := up2 hS hK1
                refine VC.exit_to (fun _ _ h => h) ?_
                refine VC.seq ?_
                refine VC.region ?_
                refine VL.q (q_assign rfl) (by decide) ?_
                refine VL.q (q_assign rfl) (by decide) ?_
                refine VL.to (fun _ _ h => h) ?_
                cases hS
                exact VC.ret (fin2 (.inr rfl) rfl rfl rfl (0, 2, ⟨a_0.b, a_0.at_, a_0.err⟩) rfl rfl (by (try dsimp only); exact InM.out) (by (try dsimp only); exact EntO.out))
              ·
                replace hS := it_f h47 hS
                refine VC.skip_mt () [0, 4, 5, 6, 7] (fun _ _ h => h) hS rfl
            ·
              replace hS := it_f h43 hS
              refine VL.gn rfl rfl rfl (by decide) ?_
              refine VL.gn rfl rfl rfl (by decide) ?_
              refine VL.gy rfl rfl (q_pick_f rfl rfl) (by decide) ?_
              refine VL.q (q_pick_f rfl rfl) (by decide) ?_
              refine VL.to (fun _ _ h => h) ?_
              refine VC.keep [0, 4, 7, 5, 6, 47] rfl ?_
              refine VC.cond_f rfl ?_
              refine VC.skip_mt () [0, 4, 5, 6, 7] (fun _ _ h => h) hS rfl
        ·
          replace hS := it_f h36 hS
          refine VL.gn rfl rfl rfl (by decide) ?_
          refine VL.gn rfl rfl rfl (by decide) ?_
          refine VL.q (q_pick_f rfl rfl) (by decide) ?_
          refine VL.q (q_move rfl) (by decide) ?_
          refine VL.gy rfl rfl (q_move rfl) (by decide) ?_
          refine VL.gy rfl rfl (q_gtr rfl rfl) (by decide) ?_
          refine VL.gy rfl rfl (q_move rfl) (by decide) ?_
          refine VL.split_dec 43 rfl (fun h43 => ?_) (fun h43 => ?_)
          ·
            replace hS := it_t h43 hS
            refine VL.gy rfl rfl (q_move rfl) (by decide) ?_
            refine VL.gy rfl rfl (q_eql rfl rfl) (by decide) ?_
            refine VL.gy rfl rfl (q_pick_t rfl rfl) (by decide) ?_
            refine VL.q (q_pick_f rfl rfl) (by decide) ?_
            refine VL.to (fun _ _ h => h) ?_
            refine VC.keep [0, 4, 7, 5, 6, 47] rfl ?_
            refine VC.cond_dec rfl (fun h47 => ?_) (fun h47 => ?_)
            ·
              replace hS := it_t h47 hS
              replace hS := up2 hS hK1
              refine VC.exit_to (fun _ _ h => h) ?_
              refine VC.seq ?_
              refine VC.region ?_
              refine VL.q (q_assign rfl) (by decide) ?_
              refine VL.q (q_assign rfl) (by decide) ?_
              refine VL.to (fun _ _ h => h) ?_
              cases hS
              exact VC.ret (fin2 (.inr rfl) rfl rfl rfl (0, 2, ⟨a_0.b, a_0.at_, a_0.err⟩) rfl rfl (by (try dsimp only); exact InM.out) (by (try dsimp only); exact EntO.out))
            ·
              replace hS := it_f h47 hS
              refine VC.skip_mt () [0, 4, 5, 6, 7] (fun _ _ h => h) hS rfl
          ·
            replace hS := it_f h43 hS
            refine VL.gn rfl rfl rfl (by decide) ?_
            refine VL.gn rfl rfl rfl (by decide) ?_
            refine VL.gy rfl rfl (q_pick_f rfl rfl) (by decide) ?_
            refine VL.q (q_pick_f rfl rfl) (by decide) ?_
            refine VL.to (fun _ _ h => h) ?_
            refine VC.keep [0, 4, 7, 5, 6, 47] rfl ?_
            refine VC.cond_f rfl ?_
            refine VC.skip_mt () [0, 4, 5, 6, 7] (fun _ _ h => h) hS rfl
      · -- from there
        clear hS
        rintro _ hS
        show VC _ _ _ _ _ [(0, ptr a_0_b 0), (4, .int .u64 x4_1), (5, i64 x7_2), (6, .int .u8 (z32_3.toNat : Int)), (7, i64 x7_2)] (Mo.and Mo.tt _) (Ow.star (Blk a_0_b [a_0.b.val, i64 a_0.at_, a_0.err.val] 187) (Ow.emp))
        refine VC.seq ?_
        refine VC.region ?_
        refine VL.q (q_move rfl) (by decide) ?_
        refine VL.q (q_move rfl) (by decide) ?_
        refine VL.q (q_and rfl rfl) (by decide) ?_
        refine VL.q (q_convW Tryd.underlying5 Tryd.underlying181 rfl) (by decide) ?_
        refine VL.q (q_move rfl) (by decide) ?_
        obtain ⟨b53, hS⟩ := gd_s hS
        refine VL.q (q_mul rfl rfl b53) (by decide) ?_
        obtain ⟨b54, hS⟩ := gd_s hS
        refine VL.q (q_shl rfl rfl b54) (by decide) ?_
        refine VL.q (q_or rfl rfl) (by decide) ?_
        refine VL.q (q_assign rfl) (by decide) ?_
        refine VL.to (fun _ _ h => h) ?_
        refine VC.keep [0, 4, 5, 6, 7] rfl ?_
        refine VC.seq ?_
        refine VC.region ?_
        refine VL.q (q_move rfl) (by decide) ?_
        refine VL.q (q_lss rfl rfl) (by decide) ?_
        refine VL.to (fun _ _ h => h) ?_
        refine VC.cond_dec rfl (fun h57 => ?_) (fun h57 => ?_)
        ·
          replace hS := it_t h57 hS
          refine VC.seq ?_
          refine VC.region ?_
          refine VL.q (q_move rfl) (by decide) ?_
          refine VL.q (q_nilCheck rfl) (by decide) ?_
          refine VL.q (q_field gfa187_1 rfl) (by decide) ?_
          refine VL.q (q_fe gone3 rfl rfl) (by decide) ?_
          refine VL.q (q_move rfl) (by decide) ?_
          obtain ⟨b63, hS⟩ := gd_s hS
          refine VL.q (q_add rfl rfl b63) (by decide) ?_
          obtain ⟨b64, hS⟩ := gd_s hS
          refine VL.q (q_add rfl rfl b64) (by decide) ?_
          refine VL.q (q_nilCheck rfl) (by decide) ?_
          refine VL.q (q_field gfa187_1 rfl) (by decide) ?_
          refine VL.store (vc := [i64 (a_0.at_ + (x7_2 + 1))]) (cs' := [a_0.b.val, i64 (a_0.at_ + (x7_2 + 1)), a_0.err.val]) rfl rfl rfl gsz3 rfl rfl (Nat.le_of_ble_eq_true rfl) rfl ?_
          refine VL.to (fun _ _ h => h) ?_
          refine VC.keep [4] rfl ?_
          refine VC.seq ?_
          refine VC.region ?_
          refine VL.q (q_move rfl) (by decide) ?_
          refine VL.q (q_assign rfl) (by decide) ?_
          refine VL.q (q_assign rfl) (by decide) ?_
          refine VL.to (fun _ _ h => h) ?_
          replace hS := up2 hS hK1
          cases hS
          exact VC.ret (fin2 (.inr rfl) rfl rfl rfl ((bOr .u64 x4_1 (sHl .u64 (IntKind.wrap .u64 (bAnd .u8 (z32_3.toNat : Int) 127)) (7 * x7_2))), 0, ⟨a_0.b, (a_0.at_ + (x7_2 + 1)), a_0.err⟩) rfl rfl (by (try dsimp only); exact InM.out) (by (try dsimp only); exact EntO.out))
        ·
          replace hS := it_f h57 hS
          refine VC.skip_to (fun _ _ h => h) ?_
          refine VC.region ?_
          obtain ⟨b68, hS⟩ := gd_s hS
          refine VL.q (q_add rfl rfl b68) (by decide) ?_
          refine VL.q (q_move rfl) (by decide) ?_
          refine VL.rnd ((bOr .u64 x4_1 (sHl .u64 (IntKind.wrap .u64 (bAnd .u8 (z32_3.toNat : Int) 127)) (7 * x7_2))), (x7_2 + 1)) [0, 4, 7] (fun _ _ h => h) (go2 hS hK1) rfl
  ·
    replace hS := it_f h8 hS
    replace hS := up2 hS hK1
    refine VC.exit_to (fun _ _ h => h) ?_
    refine VC.seq ?_
    refine VC.region ?_
    refine VL.q (q_assign rfl) (by decide) ?_
    refine VL.q (q_assign rfl) (by decide) ?_
    refine VL.to (fun _ _ h => h) ?_
    cases hS
    exact VC.ret (fin2 (.inr rfl) rfl rfl rfl (0, 2, ⟨a_0.b, a_0.at_, a_0.err⟩) rfl rfl (by (try dsimp only); exact InM.out) (by (try dsimp only); exact EntO.out))

set_option maxHeartbeats 4000000 in
set_option maxRecDepth 100000 in
theorem codec_Dec_fail_ct (d_0_b : Nat) (d_0 : CodecDec) (at_1 : Int) (e_2 : Int) {r : CodecDecP} (hS : Sh.codec_Dec_fail d_0.pl at_1 e_2 = some r) :
    Ct Tryd.prog 153 [ptr d_0_b 0, i64 at_1, i64 e_2] (d_0.b.ok.and d_0.err.ok) (Blk d_0_b [d_0.b.val, i64 d_0.at_, d_0.err.val] 187) (X := CodecDec) (fun x => .tuple #[]) (fun x => r = x.pl) (fun x => (x.b.ok.and x.err.ok)) (fun x => Blk d_0_b [x.b.val, i64 x.at_, x.err.val] 187) := by
  refine Ct.of Tryd.func153 rfl (by kernel_rfl) Tryd.ntmps153 (by simp) fun c => ?_
  unfold Sh.codec_Dec_fail at hS
  refine VC.region ?_
  refine VL.q (q_move rfl) (by decide) ?_
  refine VL.q (q_move rfl) (by decide) ?_
  refine VL.q (q_move rfl) (by decide) ?_
  refine VL.q (q_mkif Tryd.underlying97 (fun _ h => by cases h) rfl) (by decide) ?_
  refine VL.q (q_build (vs := [(0, str [98, 121, 116, 101]), (1, i64 at_1), (2, (Er.no e_2).val)]) (cs := #[str [98, 121, 116, 101], i64 at_1, (Er.no e_2).val]) rfl (by kernel_rfl)) (by decide) ?_
  refine VL.box (cs := [str [98, 121, 116, 101], i64 at_1, (Er.no e_2).val]) rfl rfl (by decide) fun b11_1 => ?_
  refine VL.shutB b11_1 ?_
  refine VL.q (q_mkif Tryd.underlying110 (fun _ h => by cases h) rfl) (by decide) ?_
  refine VL.q (q_nilCheck rfl) (by decide) ?_
  refine VL.q (q_field gfa187_2 rfl) (by decide) ?_
  refine VL.store (vc := [(Er.fault b11_1 [98, 121, 116, 101] at_1 (Er.no e_2)).val]) (cs' := [d_0.b.val, i64 d_0.at_, (Er.fault b11_1 [98, 121, 116, 101] at_1 (Er.no e_2)).val]) rfl rfl rfl gsz44 rfl rfl (Nat.le_of_ble_eq_true rfl) rfl ?_
  cases hS
  exact VL.nil (fin0 (.inl rfl) rfl ⟨d_0.b, d_0.at_, (Er.fault b11_1 [98, 121, 116, 101] at_1 (Er.no e_2))⟩ rfl rfl (by (try dsimp only); exact InM.out) (by (try dsimp only); exact EntO.out))

set_option maxHeartbeats 4000000 in
set_option maxRecDepth 100000 in
theorem codec_Dec_Int_ct (d_0_b : Nat) (d_0 : CodecDec) {r : Int × CodecDecP} (hS : Sh.codec_Dec_Int d_0.pl = some r) :
    Ct Tryd.prog 124 [ptr d_0_b 0] (d_0.b.ok.and d_0.err.ok) (Blk d_0_b [d_0.b.val, i64 d_0.at_, d_0.err.val] 187) (X := Int × CodecDec) (fun x => i64 x.1) (fun x => r = (x.1, x.2.pl)) (fun x => (x.2.b.ok.and x.2.err.ok)) (fun x => Blk d_0_b [x.2.b.val, i64 x.2.at_, x.2.err.val] 187) := by
  refine Ct.of Tryd.func124 rfl (by kernel_rfl) Tryd.ntmps124 (by simp) fun c => ?_
  unfold Sh.codec_Dec_Int at hS
  refine VC.seq ?_
  refine VC.region ?_
  refine VL.q (q_assign rfl) (by decide) ?_
  refine VL.to (fun _ _ h => h) ?_
  refine VC.seq ?_
  refine VC.seq ?_
  refine VC.region ?_
  refine VL.q (q_move rfl) (by decide) ?_
  refine VL.q (q_nilCheck rfl) (by decide) ?_
  refine VL.q (q_field gfa187_2 rfl) (by decide) ?_
  refine VL.q (q_fe gone44 rfl rfl) (by decide) ?_
  refine VL.q (q_erne Tryd.underlying44 rfl) (by decide) ?_
  refine VL.to (fun _ _ h => h) ?_
  refine VC.cond_ndec rfl (fun h10 => ?_) (fun h10 => ?_)
  ·
    replace hS := it_f h10 hS
    refine VC.seq ?_
    refine VC.region ?_
    refine VL.q (q_assign rfl) (by decide) ?_
    refine VL.to (fun _ _ h => h) ?_
    cases hS
    exact VC.ret (fin1 (.inr rfl) rfl rfl (0, ⟨d_0.b, d_0.at_, d_0.err⟩) rfl rfl (by (try dsimp only); exact InM.out) (by (try dsimp only); exact EntO.out))
  ·
    replace hS := it_t h10 hS
    refine VC.skip_to (fun _ _ h => h) ?_
    refine VC.seq ?_
    refine VC.region ?_
    refine VL.q (q_move rfl) (by decide) ?_
    refine VL.q (q_nilCheck rfl) (by decide) ?_
    refine VL.q (q_field gfa187_1 rfl) (by decide) ?_
    refine VL.q (q_fe gone3 rfl rfl) (by decide) ?_
    refine VL.q (q_assign rfl) (by decide) ?_
    refine VL.to (fun _ _ h => h) ?_
    refine VC.keep [0, 3] rfl ?_
    refine VC.seq ?_
    refine VC.region ?_
    refine VL.q (q_move rfl) (by decide) ?_
    obtain ⟨y17_1, ey17_1, hS⟩ := bd_s hS
    refine VL.callO (codec_Dec_uint_ct d_0_b d_0 ey17_1) rfl (by decide) ?_
    rintro ⟨q17_1_0, q17_1_1, q17_1_2⟩ rfl
    try dsimp only
    refine VL.q (q_move rfl) (by decide) ?_
    refine VL.q (q_extract rfl rfl) (by decide) ?_
    refine VL.q (q_extract rfl rfl) (by decide) ?_
    refine VL.q (q_assign rfl) (by decide) ?_
    refine VL.q (q_assign rfl) (by decide) ?_
    refine VL.to (fun _ _ h => h) ?_
    refine VC.seq ?_
    refine VC.seq ?_
    refine VC.region ?_
    refine VL.q (q_move rfl) (by decide) ?_
    refine VL.q (q_neq rfl rfl) (by decide) ?_
    refine VL.to (fun _ _ h => h) ?_
    refine VC.cond_ndec rfl (fun h21 => ?_) (fun h21 => ?_)
    ·
      replace hS := it_f h21 hS
      refine VC.seq ?_
      refine VC.region ?_
      refine VL.q (q_move rfl) (by decide) ?_
      refine VL.q (q_move rfl) (by decide) ?_
      refine VL.q (q_move rfl) (by decide) ?_
      obtain ⟨y25_2, ey25_2, hS⟩ := bd_s hS
      refine VL.callO (codec_Dec_fail_ct d_0_b q17_1_2 d_0.at_ q17_1_1 ey25_2) rfl (by decide) ?_
      rintro q25_2_0 rfl
      try dsimp only
      refine VL.to (fun _ _ h => h) ?_
      refine VC.keep [] rfl ?_
      refine VC.seq ?_
      refine VC.region ?_
      refine VL.q (q_assign rfl) (by decide) ?_
      refine VL.to (fun _ _ h => h) ?_
      cases hS
      exact VC.ret (fin1 (.inr rfl) rfl rfl (0, ⟨q25_2_0.b, q25_2_0.at_, q25_2_0.err⟩) rfl rfl (by (try dsimp only); exact InM.out) (by (try dsimp only); exact EntO.out))
    ·
      replace hS := it_t h21 hS
      refine VC.skip_to (fun _ _ h => h) ?_
      refine VC.keep [4] rfl ?_
      refine VC.seq ?_
      refine VC.region ?_
      refine VL.q (q_move rfl) (by decide) ?_
      refine VL.q (q_shr rfl rfl (by decide)) (by decide) ?_
      refine VL.q (q_convW Tryd.underlying181 Tryd.underlying2 rfl) (by decide) ?_
      refine VL.q (q_move rfl) (by decide) ?_
      refine VL.q (q_and rfl rfl) (by decide) ?_
      refine VL.q (q_convW Tryd.underlying181 Tryd.underlying2 rfl) (by decide) ?_
      refine VL.q (q_neg rfl) (by decide) ?_
      refine VL.q (q_xor rfl rfl) (by decide) ?_
      refine VL.q (q_assign rfl) (by decide) ?_
      refine VL.to (fun _ _ h => h) ?_
      cases hS
      exact VC.ret (fin1 (.inr rfl) rfl rfl ((bXor .i64 (IntKind.wrap .i64 (sHr .u64 q17_1_0 1)) (IntKind.wrap .i64 (0 - (IntKind.wrap .i64 (bAnd .u64 q17_1_0 1))))), ⟨q17_1_2.b, q17_1_2.at_, q17_1_2.err⟩) rfl rfl (by (try dsimp only); exact InM.out) (by (try dsimp only); exact EntO.out))

set_option maxHeartbeats 4000000 in
set_option maxRecDepth 100000 in
theorem codec_Dec_Text_ct (a_0_b : Nat) (a_0 : CodecDec) {r : Str × CodecDecP} (hS : Sh.codec_Dec_Text a_0.pl = some r) :
    Ct Tryd.prog 125 [ptr a_0_b 0] (a_0.b.ok.and a_0.err.ok) (Blk a_0_b [a_0.b.val, i64 a_0.at_, a_0.err.val] 187) (X := Str × CodecDec) (fun x => str x.1) (fun x => r = (x.1, x.2.pl)) (fun x => (x.2.b.ok.and x.2.err.ok)) (fun x => Blk a_0_b [x.2.b.val, i64 x.2.at_, x.2.err.val] 187) := by
  refine Ct.of Tryd.func125 rfl (by kernel_rfl) Tryd.ntmps125 (by simp) fun c => ?_
  unfold Sh.codec_Dec_Text at hS
  refine VC.seq ?_
  refine VC.region ?_
  refine VL.q (q_assign rfl) (by decide) ?_
  refine VL.to (fun _ _ h => h) ?_
  refine VC.seq ?_
  refine VC.region ?_
  refine VL.q (q_move rfl) (by decide) ?_
  refine VL.q (q_nilCheck rfl) (by decide) ?_
  refine VL.q (q_field gfa187_1 rfl) (by decide) ?_
  refine VL.q (q_fe gone3 rfl rfl) (by decide) ?_
  refine VL.q (q_assign rfl) (by decide) ?_
  refine VL.to (fun _ _ h => h) ?_
  refine VC.seq ?_
  refine VC.region ?_
  refine VL.q (q_move rfl) (by decide) ?_
  obtain ⟨y11_1, ey11_1, hS⟩ := bd_s hS
  refine VL.callO (codec_Dec_Int_ct a_0_b a_0 ey11_1) rfl (by decide) ?_
  rintro ⟨q11_1_0, q11_1_1⟩ rfl
  try dsimp only
  refine VL.q (q_assign rfl) (by decide) ?_
  refine VL.to (fun _ _ h => h) ?_
  refine VC.seq ?_
  refine VC.block ?_
  refine VC.seq ?_
  refine VC.region ?_
  refine VL.q (q_move rfl) (by decide) ?_
  refine VL.q (q_nilCheck rfl) (by decide) ?_
  refine VL.q (q_field gfa187_2 rfl) (by decide) ?_
  refine VL.q (q_fe gone44 rfl rfl) (by decide) ?_
  refine VL.q (q_erne Tryd.underlying44 rfl) (by decide) ?_
  refine VL.q (q_assign rfl) (by decide) ?_
  refine VL.to (fun _ _ h => h) ?_
  refine VC.keep [0, 3, 4, 12] rfl ?_
  refine VC.cond_ndec rfl (fun h12 => ?_) (fun h12 => ?_)
  ·
    replace hS := it_f h12 hS
    refine VC.seq ?_
    refine VC.region ?_
    refine VL.q (q_assign rfl) (by decide) ?_
    refine VL.to (fun _ _ h => h) ?_
    cases hS
    exact VC.ret (fin1 (.inr rfl) rfl rfl ([], ⟨q11_1_1.b, q11_1_1.at_, q11_1_1.err⟩) rfl rfl (by (try dsimp only); exact InM.out) (by (try dsimp only); exact EntO.out))
  ·
    replace hS := it_t h12 hS
    refine VC.seq ?_
    refine VC.region ?_
    refine VL.q (q_move rfl) (by decide) ?_
    refine VL.q (q_lss rfl rfl) (by decide) ?_
    refine VL.q (q_assign rfl) (by decide) ?_
    refine VL.to (fun _ _ h => h) ?_
    refine VC.cond_dec rfl (fun h18 => ?_) (fun h18 => ?_)
    ·
      replace hS := it_t h18 hS
      refine VC.seq ?_
      refine VC.region ?_
      refine VL.q (q_move rfl) (by decide) ?_
      refine VL.q (q_move rfl) (by decide) ?_
      obtain ⟨y23_2, ey23_2, hS⟩ := bd_s hS
      refine VL.callO (codec_Dec_fail_ct a_0_b q11_1_1 a_0.at_ 2 ey23_2) rfl (by decide) ?_
      rintro q23_2_0 rfl
      try dsimp only
      refine VL.to (fun _ _ h => h) ?_
      refine VC.seq ?_
      refine VC.region ?_
      refine VL.q (q_assign rfl) (by decide) ?_
      refine VL.to (fun _ _ h => h) ?_
      refine VC.keep [2] rfl ?_
      cases hS
      exact VC.ret (fin1 (.inr rfl) rfl rfl ([], ⟨q23_2_0.b, q23_2_0.at_, q23_2_0.err⟩) rfl rfl (by (try dsimp only); exact InM.out) (by (try dsimp only); exact EntO.out))
    ·
      replace hS := it_f h18 hS
      refine VC.seq ?_
      refine VC.draw ((List.range 13).map fun k => (k, true)) mixed (by kernel_rfl) (by kernel_rfl) (by kernel_rfl) ?_
      refine VD.q rfl (q_move rfl) (by decide) ?_
      refine VD.q rfl (q_move rfl) (by decide) ?_
      refine VD.q rfl (q_nilCheck rfl) (by decide) ?_
      refine VD.q rfl (q_field gfa187_0 rfl) (by decide) ?_
      refine VD.q rfl (q_fe gone22 rfl rfl) (by decide) ?_
      refine VD.q rfl (q_ln (s := q11_1_1.b) Tryd.underlying22 rfl) (by decide) ?_
      refine VD.q rfl (q_move rfl) (by decide) ?_
      refine VD.q rfl (q_nilCheck rfl) (by decide) ?_
      refine VD.q rfl (q_field gfa187_1 rfl) (by decide) ?_
      refine VD.q rfl (q_fe gone3 rfl rfl) (by decide) ?_
      obtain ⟨b35, hS⟩ := gd_s hS
      refine VD.q rfl (q_sub rfl rfl b35) (by decide) ?_
      refine VD.q rfl (q_gtr rfl rfl) (by decide) ?_
      refine VD.q rfl (q_assign rfl) (by decide) ?_
      refine VD.to (fun _ _ h => h) ?_
      refine VC.keep [0, 3, 4, 24] rfl ?_
      refine VC.cond_dec rfl (fun h24 => ?_) (fun h24 => ?_)
      ·
        replace hS := it_t h24 hS
        refine VC.seq ?_
        refine VC.region ?_
        refine VL.q (q_move rfl) (by decide) ?_
        refine VL.q (q_move rfl) (by decide) ?_
        obtain ⟨y39_3, ey39_3, hS⟩ := bd_s hS
        refine VL.callO (codec_Dec_fail_ct a_0_b q11_1_1 a_0.at_ 3 ey39_3) rfl (by decide) ?_
        rintro q39_3_0 rfl
        try dsimp only
        refine VL.to (fun _ _ h => h) ?_
        refine VC.seq ?_
        refine VC.region ?_
        refine VL.q (q_assign rfl) (by decide) ?_
        refine VL.to (fun _ _ h => h) ?_
        cases hS
        exact VC.ret (fin1 (.inr rfl) rfl rfl ([], ⟨q39_3_0.b, q39_3_0.at_, q39_3_0.err⟩) rfl rfl (by (try dsimp only); exact InM.out) (by (try dsimp only); exact EntO.out))
      ·
        replace hS := it_f h24 hS
        refine VC.skip_to (fun _ _ h => h) ?_
        refine VC.seq ?_
        refine VC.draw ((List.range 17).map fun k => (k, true)) mixed (by kernel_rfl) (by kernel_rfl) (by kernel_rfl) ?_
        refine VD.q rfl (q_move rfl) (by decide) ?_
        refine VD.q rfl (q_nilCheck rfl) (by decide) ?_
        refine VD.q rfl (q_field gfa187_0 rfl) (by decide) ?_
        refine VD.q rfl (q_fe gone22 rfl rfl) (by decide) ?_
        refine VD.q rfl (q_move rfl) (by decide) ?_
        refine VD.q rfl (q_nilCheck rfl) (by decide) ?_
        refine VD.q rfl (q_field gfa187_1 rfl) (by decide) ?_
        refine VD.q rfl (q_fe gone3 rfl rfl) (by decide) ?_
        refine VD.q rfl (q_move rfl) (by decide) ?_
        refine VD.q rfl (q_nilCheck rfl) (by decide) ?_
        refine VD.q rfl (q_field gfa187_1 rfl) (by decide) ?_
        refine VD.q rfl (q_fe gone3 rfl rfl) (by decide) ?_
        refine VD.q rfl (q_move rfl) (by decide) ?_
        obtain ⟨b53, hS⟩ := gd_s hS
        refine VD.q rfl (q_add rfl rfl b53) (by decide) ?_
        obtain ⟨b54, hS⟩ := gd_s hS
        refine VD.smid rfl Tryd.underlying22 gsz5 rfl rfl rfl b54.1 b54.2.1 (b54.2.2) (by decide) fun s54_4 _ hs54_4 => ?_
        replace hS := lt_to hs54_4 hS
        refine VD.q rfl (q_b2s (s := s54_4) Tryd.underlying22 Tryd.underlying5 Tryd.underlying9 rfl) (by decide) ?_
        refine VD.q rfl (q_assign rfl) (by decide) ?_
        refine VD.to (fun _ _ h => h) ?_
        refine VC.keep [0, 4, 5] rfl ?_
        refine VC.seq ?_
        refine VC.region ?_
        refine VL.q (q_move rfl) (by decide) ?_
        refine VL.q (q_nilCheck rfl) (by decide) ?_
        refine VL.q (q_field gfa187_1 rfl) (by decide) ?_
        refine VL.q (q_fe gone3 rfl rfl) (by decide) ?_
        refine VL.q (q_move rfl) (by decide) ?_
        obtain ⟨b61, hS⟩ := gd_s hS
        refine VL.q (q_add rfl rfl b61) (by decide) ?_
        refine VL.q (q_nilCheck rfl) (by decide) ?_
        refine VL.q (q_field gfa187_1 rfl) (by decide) ?_
        refine VL.store (vc := [i64 (q11_1_1.at_ + q11_1_0)]) (cs' := [q11_1_1.b.val, i64 (q11_1_1.at_ + q11_1_0), q11_1_1.err.val]) rfl rfl rfl gsz3 rfl rfl (Nat.le_of_ble_eq_true rfl) rfl ?_
        refine VL.to (fun _ _ h => h) ?_
        refine VC.keep [5] rfl ?_
        refine VC.seq ?_
        refine VC.region ?_
        refine VL.q (q_move rfl) (by decide) ?_
        refine VL.q (q_assign rfl) (by decide) ?_
        refine VL.to (fun _ _ h => h) ?_
        cases hS
        exact VC.ret (fin1 (.inr rfl) rfl rfl (s54_4.l, ⟨q11_1_1.b, (q11_1_1.at_ + q11_1_0), q11_1_1.err⟩) rfl rfl (by (try dsimp only); exact InM.out) (by (try dsimp only); exact EntO.out))

set_option maxHeartbeats 4000000 in
set_option maxRecDepth 100000 in
theorem object_reader_many_ct (r_0_b : Nat) (r_0 : ObjectReader) (r_0_dec_b : Nat) (r_0_dec : CodecDec) {r : Int × CodecDecP × ObjectReader} (hS : Sh.object_reader_many r_0 r_0_dec.pl = some r) :
    Ct Tryd.prog 154 [ptr r_0_b 0] (r_0_dec.b.ok.and r_0_dec.err.ok) (Ow.star (Blk r_0_dec_b [r_0_dec.b.val, i64 r_0_dec.at_, r_0_dec.err.val] 187) (Blk r_0_b [ptr r_0_dec_b 0, .bool r_0.bad] 145)) (X := Int × CodecDec × ObjectReader) (fun x => i64 x.1) (fun x => r = (x.1, x.2.1.pl, x.2.2)) (fun x => (x.2.1.b.ok.and x.2.1.err.ok)) (fun x => Ow.star (Blk r_0_dec_b [x.2.1.b.val, i64 x.2.1.at_, x.2.1.err.val] 187) (Blk r_0_b [ptr r_0_dec_b 0, .bool x.2.2.bad] 145)) := by
  refine Ct.of Tryd.func154 rfl (by kernel_rfl) Tryd.ntmps154 (by simp) fun c => ?_
  unfold Sh.object_reader_many at hS
  refine VC.seq ?_
  refine VC.region ?_
  refine VL.q (q_assign rfl) (by decide) ?_
  refine VL.to (fun _ _ h => h) ?_
  refine VC.seq ?_
  refine VC.region ?_
  refine VL.q (q_move rfl) (by decide) ?_
  refine VL.q (q_nilCheck rfl) (by decide) ?_
  refine VL.q (q_field gfa145_0 rfl) (by decide) ?_
  refine VL.q (q_fe gone142 rfl rfl) (by decide) ?_
  obtain ⟨y8_1, ey8_1, hS⟩ := bd_s hS
  refine VL.callO (codec_Dec_Int_ct r_0_dec_b r_0_dec ey8_1) rfl (by decide) ?_
  rintro ⟨q8_1_0, q8_1_1⟩ rfl
  try dsimp only
  refine VL.q (q_assign rfl) (by decide) ?_
  refine VL.to (fun _ _ h => h) ?_
  refine VC.seq ?_
  refine VC.cutJ (S := Bool) (fun (x14_2 : Bool) => x14_2) (fun (x14_2 : Bool) => [(0, ptr r_0_b 0), (3, i64 q8_1_0), (14, .bool x14_2)]) (fun (x14_2 : Bool) => Mo.tt) (fun (x14_2 : Bool) => Ow.star (Blk r_0_dec_b [q8_1_1.b.val, i64 q8_1_1.at_, q8_1_1.err.val] 187) (Ow.star (Blk r_0_b [ptr r_0_dec_b 0, .bool r_0.bad] 145) (Ow.emp))) hS ?_ ?_
  · -- up to where ways meet
    clear hS
    intro k3 hS
    refine VC.region ?_
    refine VL.q (q_move rfl) (by decide) ?_
    refine VL.q (q_lss rfl rfl) (by decide) ?_
    refine VL.q (q_move rfl) (by decide) ?_
    refine VL.split_dec 11 rfl (fun h11 => ?_) (fun h11 => ?_)
    ·
      replace hS := it_t h11 hS
      refine VL.gn rfl rfl rfl (by decide) ?_
      refine VL.gn rfl rfl rfl (by decide) ?_
      refine VL.q (q_pick_t rfl rfl) (by decide) ?_
      refine VL.mt true [0, 3, 14] (fun _ _ h => h) hS rfl
    ·
      replace hS := it_f h11 hS
      refine VL.gy rfl rfl (q_move rfl) (by decide) ?_
      refine VL.gy rfl rfl (q_gtr rfl rfl) (by decide) ?_
      refine VL.q (q_pick_f rfl rfl) (by decide) ?_
      refine VL.mt (decide (64 < q8_1_0)) [0, 3, 14] (fun _ _ h => h) hS rfl
  · -- from there
    clear hS
    rintro x14_2 hS
    show VC _ _ _ _ _ [(0, ptr r_0_b 0), (3, i64 q8_1_0), (14, .bool x14_2)] (Mo.and Mo.tt _) (Ow.star (Blk r_0_dec_b [q8_1_1.b.val, i64 q8_1_1.at_, q8_1_1.err.val] 187) (Ow.star (Blk r_0_b [ptr r_0_dec_b 0, .bool r_0.bad] 145) (Ow.emp)))
    refine VC.cond rfl (fun h14 => ?_) (fun h14 => ?_)
    ·
      replace hS := it_t h14 hS
      refine VC.seq ?_
      refine VC.region ?_
      refine VL.q (q_move rfl) (by decide) ?_
      refine VL.q (q_nilCheck rfl) (by decide) ?_
      refine VL.q (q_field gfa145_1 rfl) (by decide) ?_
      refine VL.store (vc := [.bool true]) (cs' := [ptr r_0_dec_b 0, .bool true]) rfl rfl rfl gsz4 rfl rfl (Nat.le_of_ble_eq_true rfl) rfl ?_
      refine VL.to (fun _ _ h => h) ?_
      refine VC.seq ?_
      refine VC.region ?_
      refine VL.q (q_assign rfl) (by decide) ?_
      refine VL.to (fun _ _ h => h) ?_
      cases hS
      exact VC.ret (fin1 (.inr rfl) rfl rfl (0, ⟨q8_1_1.b, q8_1_1.at_, q8_1_1.err⟩, ⟨true⟩) rfl rfl (by (try dsimp only); exact InM.out) (by (try dsimp only); exact EntO.out))
    ·
      replace hS := it_b h14 hS
      refine VC.skip_to (fun _ _ h => h) ?_
      refine VC.seq ?_
      refine VC.region ?_
      refine VL.q (q_move rfl) (by decide) ?_
      refine VL.q (q_assign rfl) (by decide) ?_
      refine VL.to (fun _ _ h => h) ?_
      cases hS
      exact VC.ret (fin1 (.inr rfl) rfl rfl (q8_1_0, ⟨q8_1_1.b, q8_1_1.at_, q8_1_1.err⟩, ⟨r_0.bad⟩) rfl rfl (by (try dsimp only); exact InM.out) (by (try dsimp only); exact EntO.out))

set_option maxHeartbeats 4000000 in
set_option maxRecDepth 100000 in
theorem slices_Clip_object_Item_object_Item_ct (s_0 : Sv ObjectItem) {r : List ObjectItem} (hS : Sh.slices_Clip_object_Item_object_Item s_0.l = some r) :
    Ct Tryd.prog 155 [s_0.val] s_0.ok (Ow.emp) (X := Sv ObjectItem) (fun x => x.val) (fun x => r = x.l) (fun x => x.ok) (fun x => Ow.emp) := by
  refine Ct.of Tryd.func155 rfl (by kernel_rfl) Tryd.ntmps155 (by simp) fun c => ?_
  unfold Sh.slices_Clip_object_Item_object_Item at hS
  refine VC.seq ?_
  refine VC.region ?_
  refine VL.q (q_assign rfl) (by decide) ?_
  refine VL.to (fun _ _ h => h) ?_
  refine VC.seq ?_
  refine VC.region ?_
  refine VL.q (q_move rfl) (by decide) ?_
  refine VL.q (q_move rfl) (by decide) ?_
  refine VL.q (q_ln (s := s_0) Tryd.underlying23 rfl) (by decide) ?_
  refine VL.q (q_move rfl) (by decide) ?_
  refine VL.q (q_ln (s := s_0) Tryd.underlying23 rfl) (by decide) ?_
  obtain ⟨b8, hS⟩ := gd_s hS
  refine VL.stom Tryd.underlying23 gsz82 rfl rfl rfl b8.1 (b8.2) (by decide) fun s8_1 hs8_1 => ?_
  replace hS := lt_to hs8_1 hS
  refine VL.q (q_assign rfl) (by decide) ?_
  refine VL.to (fun _ _ h => h) ?_
  cases hS
  exact VC.ret (fin1 (.inr rfl) rfl rfl s8_1 rfl rfl (by (try dsimp only); exact InM.out) (fun _ _ => trivial))

set_option maxHeartbeats 4000000 in
set_option maxRecDepth 100000 in
theorem object_reader_items_ct (r_0_b : Nat) (r_0 : ObjectReader) (r_0_dec_b : Nat) (r_0_dec : CodecDec) {r : List ObjectItem × CodecDecP × ObjectReader} (hS : Sh.object_reader_items r_0 r_0_dec.pl = some r) :
    Ct Tryd.prog 126 [ptr r_0_b 0] (r_0_dec.b.ok.and r_0_dec.err.ok) (Ow.star (Blk r_0_dec_b [r_0_dec.b.val, i64 r_0_dec.at_, r_0_dec.err.val] 187) (Blk r_0_b [ptr r_0_dec_b 0, .bool r_0.bad] 145)) (X := Sv ObjectItem × CodecDec × ObjectReader) (fun x => x.1.val) (fun x => r = (x.1.l, x.2.1.pl, x.2.2)) (fun x => (x.1.ok.and (x.2.1.b.ok.and x.2.1.err.ok))) (fun x => Ow.star (Blk r_0_dec_b [x.2.1.b.val, i64 x.2.1.at_, x.2.1.err.val] 187) (Blk r_0_b [ptr r_0_dec_b 0, .bool x.2.2.bad] 145)) := by
  refine Ct.of Tryd.func126 rfl (by kernel_rfl) Tryd.ntmps126 (by simp) fun c => ?_
  unfold Sh.object_reader_items at hS
  refine VC.seq ?_
  refine VC.region ?_
  refine VL.q (q_assign rfl) (by decide) ?_
  refine VL.to (fun _ _ h => h) ?_
  refine VC.seq ?_
  refine VC.region ?_
  refine VL.q (q_assign rfl) (by decide) ?_
  refine VL.to (fun _ _ h => h) ?_
  refine VC.seq ?_
  refine VC.seq ?_
  refine VC.region ?_
  refine VL.q (q_move rfl) (by decide) ?_
  obtain ⟨y5_1, ey5_1, hS⟩ := bd_s hS
  refine VL.callO (object_reader_many_ct r_0_b r_0 r_0_dec_b r_0_dec ey5_1) rfl (by decide) ?_
  rintro ⟨q5_1_0, q5_1_1, q5_1_2⟩ rfl
  try dsimp only
  refine VL.q (q_move rfl) (by decide) ?_
  refine VL.to (fun _ _ h => h) ?_
  refine VC.block ?_
  refine VC.nilO (⟨none, 0, []⟩ : Sv ObjectItem) 82 ⟨rfl, rfl⟩ ?_
  refine VC.iter (S := Sv ObjectItem × Int × Sv UInt8 × Int × Er) (fun sg => (sg.1.l, sg.2.1, sg.2.2.1.l, sg.2.2.2.1, sg.2.2.2.2.pl)) (fun sg => [(0, ptr r_0_b 0), (3, sg.1.val), (5, i64 q5_1_0), (6, i64 sg.2.1)]) (fun sg => (sg.2.2.1.ok.and sg.2.2.2.2.ok)) (fun sg => Ow.star (Blk r_0_b [ptr r_0_dec_b 0, .bool q5_1_2.bad] 145) (Ow.star (Blk r_0_dec_b [sg.2.2.1.val, i64 sg.2.2.2.1, sg.2.2.2.2.val] 187) (Ow.star (Sv.own sg.1 82) (Ow.emp)))) (⟨none, 0, []⟩, 0, q5_1_1.b, q5_1_1.at_, q5_1_1.err) [0, 3, 5, 6] hS rfl ?_
  clear hS
  rintro ⟨out3_2, x6_3, c0_4, c1_5, c2_6⟩ m1 y1 hS hK1
  show VC _ _ _ _ _ [(0, ptr r_0_b 0), (3, out3_2.val), (5, i64 q5_1_0), (6, i64 x6_3)] (Mo.and (c0_4.ok.and c2_6.ok) _) (Ow.star (Blk r_0_b [ptr r_0_dec_b 0, .bool q5_1_2.bad] 145) (Ow.star (Blk r_0_dec_b [c0_4.val, i64 c1_5, c2_6.val] 187) (Ow.star (Sv.own out3_2 82) (Ow.emp))))
  refine VC.seq ?_
  refine VC.region ?_
  refine VL.q (q_lss rfl rfl) (by decide) ?_
  refine VL.to (fun _ _ h => h) ?_
  refine VC.seq ?_
  refine VC.cond_dec rfl (fun h7 => ?_) (fun h7 => ?_)
  ·
    replace hS := it_t h7 hS
    refine VC.skip_to (fun _ _ h => h) ?_
    refine VC.seq ?_
    refine VC.block ?_
    refine VC.draw [(0, true), (1, true), (2, true), (3, true), (4, true), (6, true), (7, true), (8, true), (9, true), (11, true), (12, true), (13, true), (14, true), (5, false), (10, false), (15, false), (16, true), (17, false), (18, false), (19, true)] mixed (by kernel_rfl) (by kernel_rfl) (by kernel_rfl) ?_
    refine VD.q rfl (q_move rfl) (by decide) ?_
    refine VD.q rfl (q_move rfl) (by decide) ?_
    refine VD.q rfl (q_nilCheck rfl) (by decide) ?_
    refine VD.q rfl (q_field gfa145_0 rfl) (by decide) ?_
    refine VD.q rfl (q_fe gone142 rfl rfl) (by decide) ?_
    refine VD.q rfl (q_move rfl) (by decide) ?_
    refine VD.q rfl (q_nilCheck rfl) (by decide) ?_
    refine VD.q rfl (q_field gfa145_0 rfl) (by decide) ?_
    refine VD.q rfl (q_fe gone142 rfl rfl) (by decide) ?_
    refine VD.q rfl (q_move rfl) (by decide) ?_
    refine VD.q rfl (q_nilCheck rfl) (by decide) ?_
    refine VD.q rfl (q_field gfa145_0 rfl) (by decide) ?_
    refine VD.q rfl (q_fe gone142 rfl rfl) (by decide) ?_
    refine VD.one rfl ?_
    obtain ⟨y13_7, ey13_7, hS⟩ := bd_s hS
    refine VL.callO (codec_Dec_Text_ct r_0_dec_b (⟨c0_4, c1_5, c2_6⟩ : CodecDec) ey13_7) rfl (by decide) ?_
    rintro ⟨q13_7_0, q13_7_1⟩ rfl
    try dsimp only
    refine VL.back (D' := [(14, ptr r_0_dec_b 0), (13, ptr r_0_b 0), (12, ptr r_0_b 0), (9, ptr r_0_dec_b 0), (8, ptr r_0_b 0), (7, ptr r_0_b 0)]) (by kernel_rfl) (Pend.cons rfl (q_fe gone142 rfl rfl) (Pend.cons rfl (q_field gfa145_0 rfl) (Pend.cons rfl (q_nilCheck rfl) (Pend.cons rfl (q_fe gone142 rfl rfl) (Pend.cons rfl (q_field gfa145_0 rfl) (Pend.cons rfl (q_nilCheck rfl) (Pend.nil))))))) ?_
    refine VD.one rfl ?_
    obtain ⟨y18_8, ey18_8, hS⟩ := bd_s hS
    refine VL.callO (codec_Dec_Int_ct r_0_dec_b q13_7_1 ey18_8) rfl (by decide) ?_
    rintro ⟨q18_8_0, q18_8_1⟩ rfl
    try dsimp only
    refine VL.back (D' := [(14, ptr r_0_dec_b 0), (13, ptr r_0_b 0), (12, ptr r_0_b 0)]) (by kernel_rfl) (Pend.cons rfl (q_fe gone142 rfl rfl) (Pend.cons rfl (q_field gfa145_0 rfl) (Pend.cons rfl (q_nilCheck rfl) (Pend.nil)))) ?_
    refine VD.one rfl ?_
    obtain ⟨y23_9, ey23_9, hS⟩ := bd_s hS
    refine VL.callO (codec_Dec_Int_ct r_0_dec_b q18_8_1 ey23_9) rfl (by decide) ?_
    rintro ⟨q23_9_0, q23_9_1⟩ rfl
    try dsimp only
    refine VL.back (D' := []) (by kernel_rfl) (Pend.nil) ?_
    refine VD.q rfl (q_build (vs := [(0, str q13_7_0), (1, i64 q18_8_0), (2, i64 q23_9_0)]) (cs := #[str q13_7_0, i64 q18_8_0, i64 q23_9_0]) rfl (by kernel_rfl)) (by decide) ?_
    refine VD.one rfl ?_
    refine VL.lit (α := ObjectItem) (xs := [.tmp 24]) (vs := [.agg #[str q13_7_0, i64 q18_8_0, i64 q23_9_0]]) [⟨q13_7_0, q18_8_0, q23_9_0⟩] Tryd.underlying23 glit82 (by decide) rfl rfl rfl rfl (by decide) (fun _ _ _ _ => trivial) (by decide) (fun s25_10 hs25_10 => ?_) (by decide)
    replace hS := lt_to hs25_10 hS
    refine VL.back (D' := []) (by kernel_rfl) (Pend.nil) ?_
    refine VD.one rfl ?_
    obtain ⟨b26, hS⟩ := gd_s hS
    refine VL.app (s := out3_2) (r := s25_10) Tryd.underlying23 gapp82 (by decide) rfl Fo.out (ap1 b26) (ap2 b26 (by decide)) (by decide) (fun s26_12 hs26_12 => ?_)
    replace hS := lt_to hs26_12 hS
    refine VL.back (D' := []) (by kernel_rfl) (Pend.nil) ?_
    refine VD.q rfl (q_assign rfl) (by decide) ?_
    refine VD.to (fun _ _ h => h) ?_
    refine VC.keep [0, 3, 5, 6] rfl ?_
    refine VC.region ?_
    obtain ⟨b27, hS⟩ := gd_s hS
    refine VL.q (q_add rfl rfl b27) (by decide) ?_
    refine VL.q (q_move rfl) (by decide) ?_
    refine VL.rnd (s26_12, (x6_3 + 1), q23_9_1.b, q23_9_1.at_, q23_9_1.err) [0, 3, 5, 6] (fun _ _ h => h) (go2 hS hK1) rfl
  ·
    replace hS := it_f h7 hS
    replace hS := up2 hS hK1
    refine VC.exit_to (fun _ _ h => h) ?_
    refine VC.seq ?_
    refine VC.region ?_
    refine VL.q (q_move rfl) (by decide) ?_
    refine VL.shut out3_2 82 (fun _ _ _ _ => trivial) ?_
    obtain ⟨y29_14, ey29_14, hS⟩ := bd_s hS
    refine VL.callF (slices_Clip_object_Item_object_Item_ct out3_2 ey29_14) rfl (by decide) ?_
    rintro q29_14_0 rfl
    try dsimp only
    refine VL.q (q_assign rfl) (by decide) ?_
    refine VL.to (fun _ _ h => h) ?_
    cases hS
    exact VC.ret (fin1 (.inr rfl) rfl rfl (q29_14_0, ⟨c0_4, c1_5, c2_6⟩, ⟨q5_1_2.bad⟩) rfl rfl (by (try dsimp only); exact InM.out) (by (try dsimp only); exact EntO.out))

set_option maxHeartbeats 4000000 in
set_option maxRecDepth 100000 in
theorem slices_Clip_int_int_ct (s_0 : Sv Int) {r : List Int} (hS : Sh.slices_Clip_int_int s_0.l = some r) :
    Ct Tryd.prog 131 [s_0.val] s_0.ok (Ow.emp) (X := Sv Int) (fun x => x.val) (fun x => r = x.l) (fun x => x.ok) (fun x => Ow.emp) := by
  refine Ct.of Tryd.func131 rfl (by kernel_rfl) Tryd.ntmps131 (by simp) fun c => ?_
  unfold Sh.slices_Clip_int_int at hS
  refine VC.seq ?_
  refine VC.region ?_
  refine VL.q (q_assign rfl) (by decide) ?_
  refine VL.to (fun _ _ h => h) ?_
  refine VC.seq ?_
  refine VC.region ?_
  refine VL.q (q_move rfl) (by decide) ?_
  refine VL.q (q_move rfl) (by decide) ?_
  refine VL.q (q_ln (s := s_0) Tryd.underlying24 rfl) (by decide) ?_
  refine VL.q (q_move rfl) (by decide) ?_
  refine VL.q (q_ln (s := s_0) Tryd.underlying24 rfl) (by decide) ?_
  obtain ⟨b8, hS⟩ := gd_s hS
  refine VL.stom Tryd.underlying24 gsz3 rfl rfl rfl b8.1 (b8.2) (by decide) fun s8_1 hs8_1 => ?_
  replace hS := lt_to hs8_1 hS
  refine VL.q (q_assign rfl) (by decide) ?_
  refine VL.to (fun _ _ h => h) ?_
  cases hS
  exact VC.ret (fin1 (.inr rfl) rfl rfl s8_1 rfl rfl (by (try dsimp only); exact InM.out) (fun _ _ => trivial))

set_option maxHeartbeats 4000000 in
set_option maxRecDepth 100000 in
theorem object_reader_numbers_ct (r_0_b : Nat) (r_0 : ObjectReader) (r_0_dec_b : Nat) (r_0_dec : CodecDec) {r : List Int × CodecDecP × ObjectReader} (hS : Sh.object_reader_numbers r_0 r_0_dec.pl = some r) :
    Ct Tryd.prog 127 [ptr r_0_b 0] (r_0_dec.b.ok.and r_0_dec.err.ok) (Ow.star (Blk r_0_dec_b [r_0_dec.b.val, i64 r_0_dec.at_, r_0_dec.err.val] 187) (Blk r_0_b [ptr r_0_dec_b 0, .bool r_0.bad] 145)) (X := Sv Int × CodecDec × ObjectReader) (fun x => x.1.val) (fun x => r = (x.1.l, x.2.1.pl, x.2.2)) (fun x => (x.1.ok.and (x.2.1.b.ok.and x.2.1.err.ok))) (fun x => Ow.star (Blk r_0_dec_b [x.2.1.b.val, i64 x.2.1.at_, x.2.1.err.val] 187) (Blk r_0_b [ptr r_0_dec_b 0, .bool x.2.2.bad] 145)) := by
  refine Ct.of Tryd.func127 rfl (by kernel_rfl) Tryd.ntmps127 (by simp) fun c => ?_
  unfold Sh.object_reader_numbers at hS
  refine VC.seq ?_
  refine VC.region ?_
  refine VL.q (q_assign rfl) (by decide) ?_
  refine VL.to (fun _ _ h => h) ?_
  refine VC.seq ?_
  refine VC.region ?_
  refine VL.q (q_assign rfl) (by decide) ?_
  refine VL.to (fun _ _ h => h) ?_
  refine VC.seq ?_
  refine VC.seq ?_
  refine VC.region ?_
  refine VL.q (q_move rfl) (by decide) ?_
  obtain ⟨y5_1, ey5_1, hS⟩ := bd_s hS
  refine VL.callO (object_reader_many_ct r_0_b r_0 r_0_dec_b r_0_dec ey5_1) rfl (by decide) ?_
  rintro ⟨q5_1_0, q5_1_1, q5_1_2⟩ rfl
  try dsimp only
  refine VL.q (q_move rfl) (by decide) ?_
  refine VL.to (fun _ _ h => h) ?_
  refine VC.block ?_
  refine VC.nilO (⟨none, 0, []⟩ : Sv Int) 3 ⟨rfl, rfl⟩ ?_
  refine VC.iter (S := Sv Int × Int × Sv UInt8 × Int × Er) (fun sg => (sg.1.l, sg.2.1, sg.2.2.1.l, sg.2.2.2.1, sg.2.2.2.2.pl)) (fun sg => [(0, ptr r_0_b 0), (3, sg.1.val), (5, i64 q5_1_0), (6, i64 sg.2.1)]) (fun sg => (sg.2.2.1.ok.and sg.2.2.2.2.ok)) (fun sg => Ow.star (Blk r_0_b [ptr r_0_dec_b 0, .bool q5_1_2.bad] 145) (Ow.star (Blk r_0_dec_b [sg.2.2.1.val, i64 sg.2.2.2.1, sg.2.2.2.2.val] 187) (Ow.star (Sv.own sg.1 3) (Ow.emp)))) (⟨none, 0, []⟩, 0, q5_1_1.b, q5_1_1.at_, q5_1_1.err) [0, 3, 5, 6] hS rfl ?_
  clear hS
  rintro ⟨out3_2, x6_3, c0_4, c1_5, c2_6⟩ m1 y1 hS hK1
  show VC _ _ _ _ _ [(0, ptr r_0_b 0), (3, out3_2.val), (5, i64 q5_1_0), (6, i64 x6_3)] (Mo.and (c0_4.ok.and c2_6.ok) _) (Ow.star (Blk r_0_b [ptr r_0_dec_b 0, .bool q5_1_2.bad] 145) (Ow.star (Blk r_0_dec_b [c0_4.val, i64 c1_5, c2_6.val] 187) (Ow.star (Sv.own out3_2 3) (Ow.emp))))
  refine VC.seq ?_
  refine VC.region ?_
  refine VL.q (q_lss rfl rfl) (by decide) ?_
  refine VL.to (fun _ _ h => h) ?_
  refine VC.seq ?_
  refine VC.cond_dec rfl (fun h7 => ?_) (fun h7 => ?_)
  ·
    replace hS := it_t h7 hS
    refine VC.skip_to (fun _ _ h => h) ?_
    refine VC.seq ?_
    refine VC.block ?_
    refine VC.region ?_
    refine VL.q (q_move rfl) (by decide) ?_
    refine VL.q (q_move rfl) (by decide) ?_
    refine VL.q (q_nilCheck rfl) (by decide) ?_
    refine VL.q (q_field gfa145_0 rfl) (by decide) ?_
    refine VL.q (q_fe gone142 rfl rfl) (by decide) ?_
    obtain ⟨y13_7, ey13_7, hS⟩ := bd_s hS
    refine VL.callO (codec_Dec_Int_ct r_0_dec_b (⟨c0_4, c1_5, c2_6⟩ : CodecDec) ey13_7) rfl (by decide) ?_
    rintro ⟨q13_7_0, q13_7_1⟩ rfl
    try dsimp only
    refine VL.lit (α := Int) (xs := [.tmp 13]) (vs := [i64 q13_7_0]) [q13_7_0] Tryd.underlying24 glit3 (by decide) rfl rfl rfl rfl (by decide) (fun _ _ _ _ => trivial) (by decide) (fun s14_8 hs14_8 => ?_) (by decide)
    replace hS := lt_to hs14_8 hS
    obtain ⟨b15, hS⟩ := gd_s hS
    refine VL.app (s := out3_2) (r := s14_8) Tryd.underlying24 gapp3 (by decide) rfl Fo.out (ap1 b15) (ap2 b15 (by decide)) (by decide) (fun s15_10 hs15_10 => ?_)
    replace hS := lt_to hs15_10 hS
    refine VL.q (q_assign rfl) (by decide) ?_
    refine VL.to (fun _ _ h => h) ?_
    refine VC.keep [0, 3, 5, 6] rfl ?_
    refine VC.region ?_
    obtain ⟨b16, hS⟩ := gd_s hS
    refine VL.q (q_add rfl rfl b16) (by decide) ?_
    refine VL.q (q_move rfl) (by decide) ?_
    refine VL.rnd (s15_10, (x6_3 + 1), q13_7_1.b, q13_7_1.at_, q13_7_1.err) [0, 3, 5, 6] (fun _ _ h => h) (go2 hS hK1) rfl
  ·
    replace hS := it_f h7 hS
    replace hS := up2 hS hK1
    refine VC.exit_to (fun _ _ h => h) ?_
    refine VC.seq ?_
    refine VC.region ?_
    refine VL.q (q_move rfl) (by decide) ?_
    refine VL.shut out3_2 3 (fun _ _ _ _ => trivial) ?_
    obtain ⟨y18_12, ey18_12, hS⟩ := bd_s hS
    refine VL.callF (slices_Clip_int_int_ct out3_2 ey18_12) rfl (by decide) ?_
    rintro q18_12_0 rfl
    try dsimp only
    refine VL.q (q_assign rfl) (by decide) ?_
    refine VL.to (fun _ _ h => h) ?_
    cases hS
    exact VC.ret (fin1 (.inr rfl) rfl rfl (q18_12_0, ⟨c0_4, c1_5, c2_6⟩, ⟨q5_1_2.bad⟩) rfl rfl (by (try dsimp only); exact InM.out) (by (try dsimp only); exact EntO.out))

end Go.Proofs.YtnkoilkmnpmlmaaDoor
end
