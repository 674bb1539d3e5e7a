/- Part of the proofs of: What differs between two rows turns the one into the other, and RowTwo: the two ways of saying it agree. -/
import Derived.Test.YtipnlckfohhkbaaDoorRows
import Derived.Test.YtipnlckfohhkbaaDoorTB
set_option linter.unusedVariables false
set_option linter.unusedSimpArgs false
set_option linter.unusedSectionVars false
section
set_option linter.unusedVariables false
namespace Go.Proofs.YtipnlckfohhkbaaDoor
open Go.RowKit Go.V
open Go.S hiding Str
theorem mixed : Tryd.prog.follows .mixedOrders = true := by kernel_rfl
theorem gszb : (Tryd.prog.info? 83).map (·.size) = some 2 := by kernel_rfl
theorem gappb : ((Tryd.prog.info? 5).map fun i => (i.size, i.bytes, i.zero)) = some (1, 1, some (.int .u8 0)) := by kernel_rfl
theorem gfa83_0 : FieldAt Tryd.prog 83 0 0 := fieldAt_sz (n := 0) (f := ⟨_, _, 0, _, _, _, _⟩) Tryd.underlying83 rfl (by kernel_rfl)
theorem gfa83_1 : FieldAt Tryd.prog 83 1 1 := fieldAt_sz (n := 0) (f := ⟨_, _, 1, _, _, _, _⟩) Tryd.underlying83 rfl (by kernel_rfl)
theorem gone81 : OneCell Tryd.prog 81 := oneCell_of Tryd.underlying81 rfl
theorem gone23 : OneCell Tryd.prog 23 := oneCell_of Tryd.underlying23 rfl
theorem gsz81 : (Tryd.prog.info? 81).map (·.size) = some 1 := by kernel_rfl
theorem gsz23 : (Tryd.prog.info? 23).map (·.size) = some 1 := by kernel_rfl
theorem ghas51 : ((Tryd.prog.info? 51).map (·.size)).isSome = true := by kernel_rfl
theorem gapp51 : ((Tryd.prog.info? 51).map fun i => (i.size, i.bytes, (i.zero.map fun z => z.cells.size))) = some (3, 40, some 3) := by kernel_rfl
theorem gfa51_0 : FieldAt Tryd.prog 51 0 0 := fieldAt_sz (n := 0) (f := ⟨_, _, 0, _, _, _, _⟩) Tryd.underlying51 rfl (by kernel_rfl)
theorem gone9 : OneCell Tryd.prog 9 := oneCell_of Tryd.underlying9 rfl
theorem gsz51 : (Tryd.prog.info? 51).map (·.size) = some 3 := by kernel_rfl
theorem gagg51 : AggOf Tryd.prog 51 3 := aggOf_of Tryd.underlying51 rfl (by kernel_rfl)
theorem glit51 : ((Tryd.prog.info? 51).map fun i => (i.size, i.zero.isSome)) = some (3, true) := by kernel_rfl
theorem glit34 : ((Tryd.prog.info? 34).map fun i => (i.size, i.zero.isSome)) = some (1, true) := by kernel_rfl
theorem gsz34 : (Tryd.prog.info? 34).map (·.size) = some 1 := by kernel_rfl
theorem gone34 : OneCell Tryd.prog 34 := oneCell_of Tryd.underlying34 rfl
theorem gsz9 : (Tryd.prog.info? 9).map (·.size) = some 1 := by kernel_rfl
theorem glit45 : ((Tryd.prog.info? 45).map fun i => (i.size, i.zero.isSome)) = some (2, true) := by kernel_rfl
theorem gapp45 : ((Tryd.prog.info? 45).map fun i => (i.size, i.bytes, (i.zero.map fun z => z.cells.size))) = some (2, 32, some 2) := by kernel_rfl
theorem geqs51 : ∀ (x0 : List UInt8) (x1 : Int) (x2 : List UInt8) (y0 : List UInt8) (y1 : Int) (y2 : List UInt8) (w : World), (Op.equalIn 10000 51 (.agg #[str x0, i64 x1, str x2]) (.agg #[str y0, i64 y1, str y2])).run Tryd.prog w = .ok (decide (x0 = y0 ∧ x1 = y1 ∧ x2 = y2)) w := by
  intro x0 x1 x2 y0 y1 y2 w
  have hS : Tryd.prog.underlying 51 = some (.struct (Tryd.prog.fieldsOf 51)) := by kernel_rfl
  rw [show (10000 : Nat) = 9999 + 1 from rfl, run_equalIn_agg w 9999 51 _ _ hS (by kernel_rfl)]
  simp only [Program.fieldsOf, Tryd.underlying51]
  go_simp
  by_cases h0 : x0 = y0 <;> by_cases h1 : x1 = y1 <;> by_cases h2 : x2 = y2 <;> simp [h0, h1, h2]
theorem geqg51 : Tryd.prog.eqGuardType Tryd.prog.depth 51 = false := by kernel_rfl
theorem gsz45 : (Tryd.prog.info? 45).map (·.size) = some 2 := by kernel_rfl
theorem gfa51_2 : FieldAt Tryd.prog 51 2 2 := fieldAt_sz (n := 0) (f := ⟨_, _, 2, _, _, _, _⟩) Tryd.underlying51 rfl (by kernel_rfl)
theorem gmk9 : ((Tryd.prog.info? 9).map fun i => (i.size, i.bytes, i.zero.map fun z => z.cells.toList)) = some (1, 16, some [str []]) := by kernel_rfl
theorem gsz5 : (Tryd.prog.info? 5).map (·.size) = some 1 := by kernel_rfl
theorem gone5 : OneCell Tryd.prog 5 := oneCell_of Tryd.underlying5 rfl
theorem gfa51_1 : FieldAt Tryd.prog 51 1 1 := fieldAt_sz (n := 0) (f := ⟨_, _, 1, _, _, _, _⟩) Tryd.underlying51 rfl (by kernel_rfl)
theorem gone3 : OneCell Tryd.prog 3 := oneCell_of Tryd.underlying3 rfl
theorem gfa45_1 : FieldAt Tryd.prog 45 1 1 := fieldAt_sz (n := 0) (f := ⟨_, _, 1, _, _, _, _⟩) Tryd.underlying45 rfl (by kernel_rfl)
theorem gzv51 : ∀ w : World, (zeroValue 51).run Tryd.prog w = .ok (.agg #[str [], i64 0, str []]) w := by intro w; kernel_rfl
theorem gfa54_0 : FieldAt Tryd.prog 54 0 0 := fieldAt_sz (n := 0) (f := ⟨_, _, 0, _, _, _, _⟩) Tryd.underlying54 rfl (by kernel_rfl)
theorem glit9 : ((Tryd.prog.info? 9).map fun i => (i.size, i.zero.isSome)) = some (1, true) := by kernel_rfl
theorem gapp9 : ((Tryd.prog.info? 9).map fun i => (i.size, i.bytes, (i.zero.map fun z => z.cells.size))) = some (1, 16, some 1) := by kernel_rfl
theorem gfa54_1 : FieldAt Tryd.prog 54 1 1 := fieldAt_sz (n := 0) (f := ⟨_, _, 1, _, _, _, _⟩) Tryd.underlying54 rfl (by kernel_rfl)
theorem gfa54_2 : FieldAt Tryd.prog 54 2 2 := fieldAt_sz (n := 0) (f := ⟨_, _, 2, _, _, _, _⟩) Tryd.underlying54 rfl (by kernel_rfl)
theorem glit54 : ((Tryd.prog.info? 54).map fun i => (i.size, i.zero.isSome)) = some (3, true) := by kernel_rfl
theorem gapp54 : ((Tryd.prog.info? 54).map fun i => (i.size, i.bytes, (i.zero.map fun z => z.cells.size))) = some (3, 40, some 3) := by kernel_rfl
theorem glit36 : ((Tryd.prog.info? 36).map fun i => (i.size, i.zero.isSome)) = some (1, true) := by kernel_rfl
theorem gsz36 : (Tryd.prog.info? 36).map (·.size) = some 1 := by kernel_rfl
theorem gone36 : OneCell Tryd.prog 36 := oneCell_of Tryd.underlying36 rfl
theorem gsz54 : (Tryd.prog.info? 54).map (·.size) = some 3 := by kernel_rfl
theorem gagg54 : AggOf Tryd.prog 54 3 := aggOf_of Tryd.underlying54 rfl (by kernel_rfl)
theorem geqs54 : ∀ (x0 : List UInt8) (x1 : Int) (x2 : List UInt8) (y0 : List UInt8) (y1 : Int) (y2 : List UInt8) (w : World), (Op.equalIn 10000 54 (.agg #[str x0, i64 x1, str x2]) (.agg #[str y0, i64 y1, str y2])).run Tryd.prog w = .ok (decide (x0 = y0 ∧ x1 = y1 ∧ x2 = y2)) w := by
  intro x0 x1 x2 y0 y1 y2 w
  have hS : Tryd.prog.underlying 54 = some (.struct (Tryd.prog.fieldsOf 54)) := by kernel_rfl
  rw [show (10000 : Nat) = 9999 + 1 from rfl, run_equalIn_agg w 9999 54 _ _ hS (by kernel_rfl)]
  simp only [Program.fieldsOf, Tryd.underlying54]
  go_simp
  by_cases h0 : x0 = y0 <;> by_cases h1 : x1 = y1 <;> by_cases h2 : x2 = y2 <;> simp [h0, h1, h2]
theorem geqg54 : Tryd.prog.eqGuardType Tryd.prog.depth 54 = false := by kernel_rfl
theorem gfa45_0 : FieldAt Tryd.prog 45 0 0 := fieldAt_sz (n := 0) (f := ⟨_, _, 0, _, _, _, _⟩) Tryd.underlying45 rfl (by kernel_rfl)
theorem glit5 : ((Tryd.prog.info? 5).map fun i => (i.size, i.zero.isSome)) = some (1, true) := by kernel_rfl
set_option maxRecDepth 100000 in
theorem copyCheck_ct (b : Nat) (p u : Value) (hp : p = .pointer none ∨ p = ptr b 0) (hu : u.oneCell' = true) : Ct Tryd.prog 83 [ptr b 0] Mo.tt (Blk b [p, u] 83) (X := Unit) (fun _ => .tuple #[]) (fun _ => True) (fun _ => Mo.tt) (fun _ => Blk b [ptr b 0, u] 83) := by
  refine Ct.of Tryd.func83 rfl (by kernel_rfl) Tryd.ntmps83 (by simp) fun c => ?_
  rcases hp with rfl | rfl
  · refine VC.seq ?_
    refine VC.region ?_
    refine VL.q (q_move rfl) (by decide) ?_
    refine VL.q (q_nilCheck rfl) (by decide) ?_
    refine VL.q (q_field gfa83_0 rfl) (by decide) ?_
    refine VL.q (q_fe gone81 rfl rfl) (by decide) ?_
    refine VL.q (q_peqn Tryd.underlying81 rfl) (by decide) ?_
    refine VL.to (fun _ _ h => h) ?_
    refine VC.cond_t rfl ?_
    refine VC.region ?_
    refine VL.q (q_move rfl) (by decide) ?_
    refine VL.q (q_move rfl) (by decide) ?_
    refine VL.q (q_tou (n := 1) Tryd.underlying81 Tryd.underlying167 gszb rfl (by simp)) (by decide) ?_
    refine VL.q (q_noEscape Tryd.func118 rfl rfl (by kernel_rfl) (by kernel_rfl) rfl) (by decide) ?_
    refine VL.q (q_fromu (n := 2) (cs := [.pointer none, u]) Tryd.underlying167 Tryd.underlying81 gszb rfl (by kernel_rfl)) (by decide) ?_
    refine VL.q (q_nilCheck rfl) (by decide) ?_
    refine VL.q (q_field gfa83_0 rfl) (by decide) ?_
    refine VL.store (vc := [ptr b 0]) (cs' := [ptr b 0, u]) rfl rfl rfl gsz81 rfl rfl (Nat.le_of_ble_eq_true rfl) rfl ?_
    exact VL.nil (fin0 (.inl rfl) rfl () rfl trivial (fun _ _ => trivial) (by exact EntO.out))
  · refine VC.seq ?_
    refine VC.region ?_
    refine VL.q (q_move rfl) (by decide) ?_
    refine VL.q (q_nilCheck rfl) (by decide) ?_
    refine VL.q (q_field gfa83_0 rfl) (by decide) ?_
    refine VL.q (q_fe gone81 rfl rfl) (by decide) ?_
    refine VL.q (q_peqn Tryd.underlying81 rfl) (by decide) ?_
    refine VL.to (fun _ _ h => h) ?_
    refine VC.cond_f rfl ?_
    refine VC.seq ?_
    refine VC.region ?_
    refine VL.q (q_move rfl) (by decide) ?_
    refine VL.q (q_nilCheck rfl) (by decide) ?_
    refine VL.q (q_field gfa83_0 rfl) (by decide) ?_
    refine VL.q (q_fe gone81 rfl rfl) (by decide) ?_
    refine VL.q (q_move rfl) (by decide) ?_
    refine VL.q (q_pne Tryd.underlying81 gszb rfl rfl) (by decide) ?_
    refine VL.to (fun _ _ h => h) ?_
    refine VC.cond_f rfl ?_
    exact VC.skip (fin0 (.inl rfl) rfl () rfl trivial (fun _ _ => trivial) (by exact EntO.out))

set_option maxRecDepth 100000 in
theorem writeString_ct (b : Nat) (l s : Str) (hb : l.length + s.length ≤ 4294967296) : Ct Tryd.prog 41 [ptr b 0, str s] Mo.tt (Bd 83 5 b l) (X := Unit) (fun _ => .tuple #[i64 s.length, .nilIface]) (fun _ => True) (fun _ => Mo.tt) (fun _ => Bd 83 5 b (l ++ s)) := by
  refine Ct.monoE (E1 := fun z => ∃ q : Value × Sv UInt8, ((q.1 = .pointer none ∨ q.1 = ptr b 0) ∧ q.2.l = l ∧ (q.2.c = 0 → q.2.a = none)) ∧ Ow.star (Blk b [q.1, q.2.val] 83) (q.2.own 5) z) (Ct.exE (entry_of Tryd.func41 rfl (by kernel_rfl)) ?_) (fun z ⟨p, q, h1, h2, h3, h4⟩ => ⟨(p, q), ⟨h1, h2, h3⟩, h4⟩)
  rintro ⟨p, q⟩ ⟨hp, hl, hc⟩
  dsimp only at hp hl hc ⊢
  refine Ct.of Tryd.func41 rfl (by kernel_rfl) Tryd.ntmps41 (by simp) fun c => ?_
  refine VC.seq ?_
  refine VC.region ?_
  refine VL.q (q_assign rfl) (by decide) ?_
  refine VL.q (q_assign rfl) (by decide) ?_
  refine VL.to (fun _ _ h => h) ?_
  refine VC.seq ?_
  refine VC.region ?_
  refine VL.q (q_move rfl) (by decide) ?_
  refine VL.callO (copyCheck_ct b p q.val hp rfl) rfl (by decide) ?_
  rintro _ _
  refine VL.to (fun _ _ h => h) ?_
  refine VC.seq ?_
  refine VC.region ?_
  refine VL.q (q_move rfl) (by decide) ?_
  refine VL.q (q_move rfl) (by decide) ?_
  refine VL.q (q_nilCheck rfl) (by decide) ?_
  refine VL.q (q_field gfa83_1 rfl) (by decide) ?_
  refine VL.q (q_fe gone23 rfl rfl) (by decide) ?_
  refine VL.q (q_move rfl) (by decide) ?_
  refine VL.appS (s := q) (r := s) Tryd.underlying23 Tryd.underlying9 gappb rfl Fo.out (by rw [hl]; exact hb) (by decide) fun q2 hq2 hc2 => ?_
  refine VL.q (q_nilCheck rfl) (by decide) ?_
  refine VL.q (q_field gfa83_1 rfl) (by decide) ?_
  refine VL.store (vc := [q2.val]) (cs' := [ptr b 0, q2.val]) rfl rfl rfl gsz23 rfl rfl (Nat.le_of_ble_eq_true rfl) rfl ?_
  refine VL.to (fun _ _ h => h) ?_
  refine VC.seq ?_
  refine VC.region ?_
  refine VL.q (q_move rfl) (by decide) ?_
  refine VL.q (q_slen Tryd.underlying9 rfl) (by decide) ?_
  refine VL.q (q_assign rfl) (by decide) ?_
  refine VL.q (q_assign rfl) (by decide) ?_
  refine VL.to (fun _ _ h => h) ?_
  exact VC.ret (fin2 (.inr rfl) rfl rfl rfl () rfl trivial (fun _ _ => trivial) (fun z hz => Bd.mk (p := ptr b 0) (s := q2) (.inr rfl) (by rw [hq2, hl]) (hc2 hc) ((EntO.out (E' := Ow.star (Blk b [ptr b 0, q2.val] 83) (q2.own 5))) z hz)))

set_option maxRecDepth 100000 in
theorem string_ct (b : Nat) (l : Str) : Ct Tryd.prog 43 [ptr b 0] Mo.tt (Bd 83 5 b l) (X := Unit) (fun _ => str l) (fun _ => True) (fun _ => Mo.tt) (fun _ => Ow.emp) := by
  refine Ct.monoE (E1 := fun z => ∃ q : Value × Sv UInt8, ((q.1 = .pointer none ∨ q.1 = ptr b 0) ∧ q.2.l = l ∧ (q.2.c = 0 → q.2.a = none)) ∧ Ow.star (Blk b [q.1, q.2.val] 83) (q.2.own 5) z) (Ct.exE (entry_of Tryd.func43 rfl (by kernel_rfl)) ?_) (fun z ⟨p, q, h1, h2, h3, h4⟩ => ⟨(p, q), ⟨h1, h2, h3⟩, h4⟩)
  rintro ⟨p, q⟩ ⟨hp, rfl, hc⟩
  dsimp only at hp hc ⊢
  refine Ct.of Tryd.func43 rfl (by kernel_rfl) Tryd.ntmps43 (by simp) fun c => ?_
  refine VC.seq ?_
  refine VC.region ?_
  refine VL.q (q_assign rfl) (by decide) ?_
  refine VL.to (fun _ _ h => h) ?_
  refine VC.seq ?_
  refine VC.draw [(0, true), (1, true), (2, true), (3, true), (4, true), (5, true), (6, true), (7, true), (8, true), (9, true), (10, false), (11, true)] mixed (by kernel_rfl) (by kernel_rfl) (by kernel_rfl) ?_
  refine VD.q rfl (q_move rfl) (by decide) ?_
  refine VD.q rfl (q_nilCheck rfl) (by decide) ?_
  refine VD.q rfl (q_field gfa83_1 rfl) (by decide) ?_
  refine VD.q rfl (q_fe gone23 rfl rfl) (by decide) ?_
  refine VD.q rfl (q_sdata (s := q) rfl hc) (by decide) ?_
  refine VD.q rfl (q_move rfl) (by decide) ?_
  refine VD.q rfl (q_nilCheck rfl) (by decide) ?_
  refine VD.q rfl (q_field gfa83_1 rfl) (by decide) ?_
  refine VD.q rfl (q_fe gone23 rfl rfl) (by decide) ?_
  refine VD.q rfl (q_ln (s := q) Tryd.underlying23 rfl) (by decide) ?_
  refine VD.one rfl ?_
  refine VL.ustr (s := q) (e := 5) rfl Fo.out (by decide) (fun w h z o l k m => St.ustr (e := 5) Tryd.underlying134 (by kernel_rfl) o l k m) ?_
  refine VL.back (D' := []) (by kernel_rfl) Pend.nil ?_
  refine VD.q rfl (q_assign rfl) (by decide) ?_
  refine VD.to (fun _ _ h => h) ?_
  exact VC.ret (fin1 (.inr rfl) rfl rfl () rfl trivial (fun _ _ => trivial) (fun _ _ => trivial))

set_option maxHeartbeats 4000000 in
set_option maxRecDepth 100000 in
theorem slices_Clone_files_Row_files_File_ct (s_0 : Sv FilesFile) {r : List FilesFile} (hS : Sh.slices_Clone_files_Row_files_File s_0.l = some r) :
    Ct Tryd.prog 62 [s_0.val] s_0.ok (Ow.emp) (X := Sv FilesFile) (fun x => x.val) (fun x => r = x.l) (fun x => Mo.tt) (fun x => Sv.own x 51) := by
  refine Ct.of Tryd.func62 rfl (by kernel_rfl) Tryd.ntmps62 (by simp) fun c => ?_
  unfold Sh.slices_Clone_files_Row_files_File at hS
  refine VC.seq ?_
  refine VC.region ?_
  refine VL.q (q_assign rfl) (by decide) ?_
  refine VL.to (fun _ _ h => h) ?_
  refine VC.seq ?_
  refine VC.seq ?_
  refine VC.region ?_
  refine VL.q (q_move rfl) (by decide) ?_
  refine VL.q (q_slnil (s := s_0) Tryd.underlying34 rfl) (by decide) ?_
  refine VL.to (fun _ _ h => h) ?_
  refine VC.slnil (s := s_0) rfl (fun h4 => ?_) ?_
  ·
    have hS : (some []) = some r := by
      simp [lt, gd, h4] at hS ⊢
      try exact hS
    refine VC.seq ?_
    refine VC.region ?_
    refine VL.q (q_assign rfl) (by decide) ?_
    refine VL.to (fun _ _ h => h) ?_
    refine VC.nilO (⟨none, 0, []⟩ : Sv FilesFile) 51 ⟨rfl, rfl⟩ ?_
    cases hS
    exact VC.ret (fin1 (.inr rfl) rfl rfl ⟨none, 0, []⟩ rfl rfl (by (try dsimp only); exact InM.out) (by (try dsimp only); exact EntO.out))
  ·
    refine VC.skip_to (fun _ _ h => h) ?_
    refine VC.seq ?_
    refine VC.region ?_
    refine VL.lit0 (α := FilesFile) Tryd.underlying34 ghas51 (by decide) (fun s5_1 hs5_1 hcs5_1 => ?_)
    refine VL.nilO s5_1 51 ⟨hcs5_1, hs5_1⟩ ?_
    replace hS := lt_to hs5_1 hS
    refine VL.q (q_move rfl) (by decide) ?_
    obtain ⟨b7, hS⟩ := gd_s hS
    refine VL.app (s := s5_1) (r := s_0) Tryd.underlying34 gapp51 (by decide) rfl Fo.out (ap1 b7) (ap2 b7 (by decide)) (by decide) (fun s7_3 hs7_3 => ?_)
    replace hS := lt_to hs7_3 hS
    refine VL.q (q_assign rfl) (by decide) ?_
    refine VL.to (fun _ _ h => h) ?_
    cases hS
    exact VC.ret (fin1 (.inr rfl) rfl rfl s7_3 rfl rfl (by (try dsimp only); exact InM.out) (by (try dsimp only); exact EntO.out))

set_option maxHeartbeats 4000000 in
set_option maxRecDepth 100000 in
theorem cmp_isNaN_string_ct (x_0 : Str) {r : Bool} (hS : Sh.cmp_isNaN_string x_0 = some r) :
    Ct Tryd.prog 165 [str x_0] Mo.tt (Ow.emp) (X := Unit) (fun _ => .bool r) (fun _ => True) (fun _ => Mo.tt) (fun _ => Ow.emp) := by
  refine Ct.of Tryd.func165 rfl (by kernel_rfl) Tryd.ntmps165 (by simp) fun c => ?_
  unfold Sh.cmp_isNaN_string at hS
  refine VC.seq ?_
  refine VC.region ?_
  refine VL.q (q_assign rfl) (by decide) ?_
  refine VL.to (fun _ _ h => h) ?_
  refine VC.seq ?_
  refine VC.region ?_
  refine VL.q (q_move rfl) (by decide) ?_
  refine VL.q (q_move rfl) (by decide) ?_
  refine VL.q (q_sne rfl rfl) (by decide) ?_
  refine VL.q (q_assign rfl) (by decide) ?_
  refine VL.to (fun _ _ h => h) ?_
  cases hS
  exact VC.ret (fin1 (.inr rfl) rfl rfl () rfl trivial (fun _ _ => trivial) (fun _ _ => trivial))

set_option maxHeartbeats 4000000 in
set_option maxRecDepth 100000 in
theorem cmp_Compare_string_ct (x_0 : Str) (y_1 : Str) {r : Int} (hS : Sh.cmp_Compare_string x_0 y_1 = some r) :
    Ct Tryd.prog 133 [str x_0, str y_1] Mo.tt (Ow.emp) (X := Unit) (fun _ => i64 r) (fun _ => True) (fun _ => Mo.tt) (fun _ => Ow.emp) := by
  refine Ct.of Tryd.func133 rfl (by kernel_rfl) Tryd.ntmps133 (by simp) fun c => ?_
  unfold Sh.cmp_Compare_string at hS
  refine VC.seq ?_
  refine VC.region ?_
  refine VL.q (q_assign rfl) (by decide) ?_
  refine VL.to (fun _ _ h => h) ?_
  refine VC.seq ?_
  refine VC.region ?_
  refine VL.q (q_move rfl) (by decide) ?_
  obtain ⟨y8_1, ey8_1, hS⟩ := bd_s hS
  refine VL.q (q_call (cmp_isNaN_string_ct x_0 ey8_1) rfl (fun _ _ => rfl)) (by decide) ?_
  refine VL.q (q_assign rfl) (by decide) ?_
  refine VL.to (fun _ _ h => h) ?_
  refine VC.seq ?_
  refine VC.region ?_
  refine VL.q (q_move rfl) (by decide) ?_
  obtain ⟨y10_2, ey10_2, hS⟩ := bd_s hS
  refine VL.q (q_call (cmp_isNaN_string_ct y_1 ey10_2) rfl (fun _ _ => rfl)) (by decide) ?_
  refine VL.q (q_assign rfl) (by decide) ?_
  refine VL.to (fun _ _ h => h) ?_
  refine VC.seq ?_
  refine VC.seq ?_
  refine VC.region ?_
  refine VL.q (q_move rfl) (by decide) ?_
  refine VL.to (fun _ _ h => h) ?_
  refine VC.cond rfl (fun h11 => ?_) (fun h11 => ?_)
  ·
    replace hS := it_t h11 hS
    refine VC.seq ?_
    refine VC.seq ?_
    refine VC.region ?_
    refine VL.q (q_move rfl) (by decide) ?_
    refine VL.to (fun _ _ h => h) ?_
    refine VC.keep [12] rfl ?_
    refine VC.cond rfl (fun h12 => ?_) (fun h12 => ?_)
    ·
      replace hS := it_t h12 hS
      refine VC.seq ?_
      refine VC.region ?_
      refine VL.q (q_assign rfl) (by decide) ?_
      refine VL.to (fun _ _ h => h) ?_
      cases hS
      exact VC.ret (fin1 (.inr rfl) rfl rfl () rfl trivial (fun _ _ => trivial) (fun _ _ => trivial))
    ·
      replace hS := it_b h12 hS
      refine VC.skip_to (fun _ _ h => h) ?_
      refine VC.seq ?_
      refine VC.region ?_
      refine VL.q (q_assign rfl) (by decide) ?_
      refine VL.to (fun _ _ h => h) ?_
      cases hS
      exact VC.ret (fin1 (.inr rfl) rfl rfl () rfl trivial (fun _ _ => trivial) (fun _ _ => trivial))
  ·
    replace hS := it_b h11 hS
    refine VC.skip_to (fun _ _ h => h) ?_
    refine VC.seq ?_
    refine VC.seq ?_
    refine VC.region ?_
    refine VL.q (q_move rfl) (by decide) ?_
    refine VL.to (fun _ _ h => h) ?_
    refine VC.keep [0, 1, 13] rfl ?_
    refine VC.cond rfl (fun h13 => ?_) (fun h13 => ?_)
    ·
      replace hS := it_t h13 hS
      refine VC.seq ?_
      refine VC.region ?_
      refine VL.q (q_assign rfl) (by decide) ?_
      refine VL.to (fun _ _ h => h) ?_
      cases hS
      exact VC.ret (fin1 (.inr rfl) rfl rfl () rfl trivial (fun _ _ => trivial) (fun _ _ => trivial))
    ·
      replace hS := it_b h13 hS
      refine VC.skip_to (fun _ _ h => h) ?_
      refine VC.seq ?_
      refine VC.seq ?_
      refine VC.region ?_
      refine VL.q (q_move rfl) (by decide) ?_
      refine VL.q (q_move rfl) (by decide) ?_
      refine VL.q (q_slss rfl rfl) (by decide) ?_
      refine VL.to (fun _ _ h => h) ?_
      refine VC.cond rfl (fun h16 => ?_) (fun h16 => ?_)
      ·
        replace hS := it_t h16 hS
        refine VC.seq ?_
        refine VC.region ?_
        refine VL.q (q_assign rfl) (by decide) ?_
        refine VL.to (fun _ _ h => h) ?_
        cases hS
        exact VC.ret (fin1 (.inr rfl) rfl rfl () rfl trivial (fun _ _ => trivial) (fun _ _ => trivial))
      ·
        replace hS := it_b h16 hS
        refine VC.skip_to (fun _ _ h => h) ?_
        refine VC.seq ?_
        refine VC.seq ?_
        refine VC.region ?_
        refine VL.q (q_move rfl) (by decide) ?_
        refine VL.q (q_move rfl) (by decide) ?_
        refine VL.q (q_sgtr rfl rfl) (by decide) ?_
        refine VL.to (fun _ _ h => h) ?_
        refine VC.cond rfl (fun h19 => ?_) (fun h19 => ?_)
        ·
          replace hS := it_t h19 hS
          refine VC.seq ?_
          refine VC.region ?_
          refine VL.q (q_assign rfl) (by decide) ?_
          refine VL.to (fun _ _ h => h) ?_
          cases hS
          exact VC.ret (fin1 (.inr rfl) rfl rfl () rfl trivial (fun _ _ => trivial) (fun _ _ => trivial))
        ·
          replace hS := it_b h19 hS
          refine VC.skip_to (fun _ _ h => h) ?_
          refine VC.seq ?_
          refine VC.region ?_
          refine VL.q (q_assign rfl) (by decide) ?_
          refine VL.to (fun _ _ h => h) ?_
          cases hS
          exact VC.ret (fin1 (.inr rfl) rfl rfl () rfl trivial (fun _ _ => trivial) (fun _ _ => trivial))

set_option maxHeartbeats 4000000 in
set_option maxRecDepth 100000 in
theorem path_Compare_ct (a_0 : Str) (b_1 : Str) {r : Int} (hS : Sh.path_Compare a_0 b_1 = some r) :
    Ct Tryd.prog 98 [str a_0, str b_1] Mo.tt (Ow.emp) (X := Unit) (fun _ => i64 r) (fun _ => True) (fun _ => Mo.tt) (fun _ => Ow.emp) := by
  refine Ct.of Tryd.func98 rfl (by kernel_rfl) Tryd.ntmps98 (by simp) fun c => ?_
  unfold Sh.path_Compare at hS
  refine VC.seq ?_
  refine VC.region ?_
  refine VL.q (q_assign rfl) (by decide) ?_
  refine VL.to (fun _ _ h => h) ?_
  refine VC.seq ?_
  refine VC.region ?_
  refine VL.q (q_move rfl) (by decide) ?_
  refine VL.q (q_move rfl) (by decide) ?_
  obtain ⟨y7_1, ey7_1, hS⟩ := bd_s hS
  refine VL.q (q_call (cmp_Compare_string_ct a_0 b_1 ey7_1) rfl (fun _ _ => rfl)) (by decide) ?_
  refine VL.q (q_assign rfl) (by decide) ?_
  refine VL.to (fun _ _ h => h) ?_
  cases hS
  exact VC.ret (fin1 (.inr rfl) rfl rfl () rfl trivial (fun _ _ => trivial) (fun _ _ => trivial))

set_option maxHeartbeats 4000000 in
set_option maxRecDepth 100000 in
theorem files_Row_find_1_ct (f_0 : FilesFile) (p_1 : Str) {r : Int} (hS : Sh.files_Row_find_1 f_0 p_1 = some r) :
    Ct Tryd.prog 106 [.agg #[str f_0.path, i64 f_0.mode, str f_0.data], str p_1] Mo.tt (Ow.emp) (X := Unit) (fun _ => i64 r) (fun _ => True) (fun _ => Mo.tt) (fun _ => Ow.emp) := by
  refine Ct.of Tryd.func106 rfl (by kernel_rfl) Tryd.ntmps106 (by simp) fun c => ?_
  unfold Sh.files_Row_find_1 at hS
  refine VC.seq ?_
  refine VC.region ?_
  refine VL.box (cs := [str f_0.path, i64 f_0.mode, str f_0.data]) rfl rfl (by decide) fun b2_1 => ?_
  refine VL.q (q_assign rfl) (by decide) ?_
  refine VL.to (fun _ _ h => h) ?_
  refine VC.seq ?_
  refine VC.region ?_
  refine VL.q (q_field gfa51_0 rfl) (by decide) ?_
  refine VL.q (q_fe gone9 rfl rfl) (by decide) ?_
  refine VL.q (q_move rfl) (by decide) ?_
  obtain ⟨y8_2, ey8_2, hS⟩ := bd_s hS
  refine VL.q (q_call (path_Compare_ct f_0.path p_1 ey8_2) rfl (fun _ _ => rfl)) (by decide) ?_
  refine VL.q (q_assign rfl) (by decide) ?_
  refine VL.to (fun _ _ h => h) ?_
  cases hS
  exact VC.ret (fin1 (.inr rfl) rfl rfl () rfl trivial (fun _ _ => trivial) (fun _ _ => trivial))

set_option maxHeartbeats 4000000 in
set_option maxRecDepth 100000 in
theorem slices_BinarySearchFunc_files_Row_files_File_string_ct (x_0 : Sv FilesFile) (target_1 : Str) {r : Int × Bool} (hS : Sh.slices_BinarySearchFunc_files_Row_files_File_string x_0.l target_1 = some r) :
    Ct Tryd.prog 105 [x_0.val, str target_1, .func (.func 106) #[] #[]] x_0.ok (Ow.emp) (X := Unit) (fun _ => .tuple #[i64 r.1, .bool r.2]) (fun _ => True) (fun _ => Mo.tt) (fun _ => Ow.emp) := by
  refine Ct.of Tryd.func105 rfl (by kernel_rfl) Tryd.ntmps105 (by simp) fun c => ?_
  unfold Sh.slices_BinarySearchFunc_files_Row_files_File_string at hS
  refine VC.seq ?_
  refine VC.region ?_
  refine VL.q (q_assign rfl) (by decide) ?_
  refine VL.q (q_assign rfl) (by decide) ?_
  refine VL.to (fun _ _ h => h) ?_
  refine VC.seq ?_
  refine VC.region ?_
  refine VL.q (q_move rfl) (by decide) ?_
  refine VL.q (q_ln (s := x_0) Tryd.underlying34 rfl) (by decide) ?_
  refine VL.q (q_assign rfl) (by decide) ?_
  refine VL.to (fun _ _ h => h) ?_
  refine VC.seq ?_
  refine VC.region ?_
  refine VL.q (q_move rfl) (by decide) ?_
  refine VL.q (q_assign rfl) (by decide) ?_
  refine VL.q (q_assign rfl) (by decide) ?_
  refine VL.to (fun _ _ h => h) ?_
  refine VC.seq ?_
  refine VC.block ?_
  refine VC.iter (S := Int × Int) (fun sg => (sg.1, sg.2)) (fun sg => [(0, x_0.val), (1, str target_1), (2, .func (.func 106) #[] #[]), (8, i64 (x_0.l.length : Int)), (9, i64 sg.1), (10, i64 sg.2)]) (fun sg => Mo.tt) (fun sg => Ow.emp) (0, (x_0.l.length : Int)) [0, 1, 2, 8, 9, 10] hS rfl ?_
  clear hS
  rintro ⟨i9_1, j10_2⟩ m1 y1 hS hK1
  show VC _ _ _ _ _ [(0, x_0.val), (1, str target_1), (2, .func (.func 106) #[] #[]), (8, i64 (x_0.l.length : Int)), (9, i64 i9_1), (10, i64 j10_2)] (Mo.and Mo.tt _) (Ow.emp)
  refine VC.seq ?_
  refine VC.seq ?_
  refine VC.region ?_
  refine VL.q (q_move rfl) (by decide) ?_
  refine VL.q (q_move rfl) (by decide) ?_
  refine VL.q (q_lss rfl rfl) (by decide) ?_
  refine VL.to (fun _ _ h => h) ?_
  refine VC.cond_dec rfl (fun h17 => ?_) (fun h17 => ?_)
  ·
    replace hS := it_t h17 hS
    refine VC.skip_to (fun _ _ h => h) ?_
    refine VC.block ?_
    refine VC.seq ?_
    refine VC.region ?_
    refine VL.q (q_move rfl) (by decide) ?_
    refine VL.q (q_move rfl) (by decide) ?_
    obtain ⟨b20, hS⟩ := gd_s hS
    refine VL.q (q_add rfl rfl b20) (by decide) ?_
    refine VL.q (q_convW Tryd.underlying3 Tryd.underlying177 rfl) (by decide) ?_
    refine VL.q (q_shr rfl rfl (by decide)) (by decide) ?_
    refine VL.q (q_convW Tryd.underlying177 Tryd.underlying3 rfl) (by decide) ?_
    refine VL.q (q_assign rfl) (by decide) ?_
    refine VL.to (fun _ _ h => h) ?_
    refine VC.keep [0, 1, 2, 8, 9, 10, 11] rfl ?_
    refine VC.seq ?_
    refine VC.region ?_
    refine VL.q (q_move rfl) (by decide) ?_
    refine VL.q (q_move rfl) (by decide) ?_
    refine VL.q (q_move rfl) (by decide) ?_
    obtain ⟨z27_3, nz27_3, hz27_3, hS⟩ := at_s hS
    refine VL.q (q_ixm (s := x_0) Tryd.underlying34 gsz51 rfl rfl nz27_3 (lt_of_get nz27_3 hz27_3)) (by decide) ?_
    refine VL.q (q_els (s := x_0) gagg51 rfl rfl hz27_3) (by decide) ?_
    refine VL.q (q_move rfl) (by decide) ?_
    obtain ⟨y30_4, ey30_4, hS⟩ := bd_s hS
    refine VL.q (q_callV (files_Row_find_1_ct z27_3 target_1 ey30_4) rfl rfl (fun _ _ => rfl)) (by decide) ?_
    refine VL.q (q_lss rfl rfl) (by decide) ?_
    refine VL.to (fun _ _ h => h) ?_
    refine VC.keep [0, 1, 2, 8, 9, 10, 11, 31] rfl ?_
    refine VC.cond_dec rfl (fun h31 => ?_) (fun h31 => ?_)
    ·
      replace hS := it_t h31 hS
      refine VC.region ?_
      refine VL.q (q_move rfl) (by decide) ?_
      obtain ⟨b33, hS⟩ := gd_s hS
      refine VL.q (q_add rfl rfl b33) (by decide) ?_
      refine VL.q (q_assign rfl) (by decide) ?_
      refine VL.rnd (((IntKind.wrap .i64 (sHr .u64 (IntKind.wrap .u64 (i9_1 + j10_2)) 1)) + 1), j10_2) [0, 1, 2, 8, 9, 10] (fun _ _ h => h) (go2 hS hK1) rfl
    ·
      replace hS := it_f h31 hS
      refine VC.region ?_
      refine VL.q (q_move rfl) (by decide) ?_
      refine VL.q (q_assign rfl) (by decide) ?_
      refine VL.rnd (i9_1, (IntKind.wrap .i64 (sHr .u64 (IntKind.wrap .u64 (i9_1 + j10_2)) 1))) [0, 1, 2, 8, 9, 10] (fun _ _ h => h) (go2 hS hK1) rfl
  ·
    replace hS := it_f h17 hS
    replace hS := up2 hS hK1
    refine VC.exit_to (fun _ _ h => h) ?_
    refine VC.seq ?_
    refine VC.region ?_
    refine VL.q (q_move rfl) (by decide) ?_
    refine VL.q (q_move rfl) (by decide) ?_
    refine VL.q (q_move rfl) (by decide) ?_
    refine VL.q (q_lss rfl rfl) (by decide) ?_
    refine VL.q (q_move rfl) (by decide) ?_
    refine VL.split_dec 39 rfl (fun h39 => ?_) (fun h39 => ?_)
    ·
      replace hS := it_t h39 hS
      refine VL.gy rfl rfl (q_move rfl) (by decide) ?_
      refine VL.gy rfl rfl (q_move rfl) (by decide) ?_
      refine VL.gy rfl rfl (q_move rfl) (by decide) ?_
      obtain ⟨z43_5, nz43_5, hz43_5, hS⟩ := at_s hS
      refine VL.gy rfl rfl (q_ixm (s := x_0) Tryd.underlying34 gsz51 rfl rfl nz43_5 (lt_of_get nz43_5 hz43_5)) (by decide) ?_
      refine VL.gy rfl rfl (q_els (s := x_0) gagg51 rfl rfl hz43_5) (by decide) ?_
      refine VL.gy rfl rfl (q_move rfl) (by decide) ?_
      obtain ⟨y46_6, ey46_6, hS⟩ := bd_s hS
      refine VL.gy rfl rfl (q_callV (files_Row_find_1_ct z43_5 target_1 ey46_6) rfl rfl (fun _ _ => rfl)) (by decide) ?_
      refine VL.gy rfl rfl (q_eql rfl rfl) (by decide) ?_
      refine VL.q (q_pick_t rfl rfl) (by decide) ?_
      refine VL.q (q_assign rfl) (by decide) ?_
      refine VL.q (q_assign rfl) (by decide) ?_
      refine VL.to (fun _ _ h => h) ?_
      refine VC.keep [6, 7] rfl ?_
      cases hS
      exact VC.ret (fin2 (.inr rfl) rfl rfl rfl () rfl trivial (fun _ _ => trivial) (fun _ _ => trivial))
    ·
      replace hS := it_f h39 hS
      refine VL.gn rfl rfl rfl (by decide) ?_
      refine VL.gn rfl rfl rfl (by decide) ?_
      refine VL.gn rfl rfl rfl (by decide) ?_
      refine VL.gn rfl rfl rfl (by decide) ?_
      refine VL.gn rfl rfl rfl (by decide) ?_
      refine VL.gn rfl rfl rfl (by decide) ?_
      refine VL.gn rfl rfl rfl (by decide) ?_
      refine VL.gn rfl rfl rfl (by decide) ?_
      refine VL.q (q_pick_f rfl rfl) (by decide) ?_
      refine VL.q (q_assign rfl) (by decide) ?_
      refine VL.q (q_assign rfl) (by decide) ?_
      refine VL.to (fun _ _ h => h) ?_
      refine VC.keep [6, 7] rfl ?_
      cases hS
      exact VC.ret (fin2 (.inr rfl) rfl rfl rfl () rfl trivial (fun _ _ => trivial) (fun _ _ => trivial))

set_option maxHeartbeats 4000000 in
set_option maxRecDepth 100000 in
theorem files_Row_find_ct (r_0 : Sv FilesFile) (p_1 : Str) {r : Int × Bool} (hS : Sh.files_Row_find r_0.l p_1 = some r) :
    Ct Tryd.prog 65 [r_0.val, str p_1] r_0.ok (Ow.emp) (X := Unit) (fun _ => .tuple #[i64 r.1, .bool r.2]) (fun _ => True) (fun _ => Mo.tt) (fun _ => Ow.emp) := by
  refine Ct.of Tryd.func65 rfl (by kernel_rfl) Tryd.ntmps65 (by simp) fun c => ?_
  unfold Sh.files_Row_find at hS
  refine VC.seq ?_
  refine VC.region ?_
  refine VL.q (q_assign rfl) (by decide) ?_
  refine VL.q (q_assign rfl) (by decide) ?_
  refine VL.to (fun _ _ h => h) ?_
  refine VC.seq ?_
  refine VC.region ?_
  refine VL.q (q_move rfl) (by decide) ?_
  refine VL.q (q_move rfl) (by decide) ?_
  obtain ⟨y8_1, ey8_1, hS⟩ := bd_s hS
  refine VL.q (q_call (slices_BinarySearchFunc_files_Row_files_File_string_ct r_0 p_1 ey8_1) rfl (fun _ _ => rfl)) (by decide) ?_
  refine VL.q (q_extract rfl rfl) (by decide) ?_
  refine VL.q (q_extract rfl rfl) (by decide) ?_
  refine VL.q (q_assign rfl) (by decide) ?_
  refine VL.q (q_assign rfl) (by decide) ?_
  refine VL.to (fun _ _ h => h) ?_
  cases hS
  exact VC.ret (fin2 (.inr rfl) rfl rfl rfl () rfl trivial (fun _ _ => trivial) (fun _ _ => trivial))

set_option maxHeartbeats 4000000 in
set_option maxRecDepth 100000 in
theorem slices_Clip_files_Row_files_File_ct (s_0 : Sv FilesFile) {r : List FilesFile} (hS : Sh.slices_Clip_files_Row_files_File s_0.l = some r) :
    Ct Tryd.prog 60 [s_0.val] s_0.ok (Ow.emp) (X := Sv FilesFile) (fun x => x.val) (fun x => r = x.l) (fun x => x.ok) (fun x => Ow.emp) := by
  refine Ct.of Tryd.func60 rfl (by kernel_rfl) Tryd.ntmps60 (by simp) fun c => ?_
  unfold Sh.slices_Clip_files_Row_files_File at hS
  refine VC.seq ?_
  refine VC.region ?_
  refine VL.q (q_assign rfl) (by decide) ?_
  refine VL.to (fun _ _ h => h) ?_
  refine VC.seq ?_
  refine VC.region ?_
  refine VL.q (q_move rfl) (by decide) ?_
  refine VL.q (q_move rfl) (by decide) ?_
  refine VL.q (q_ln (s := s_0) Tryd.underlying34 rfl) (by decide) ?_
  refine VL.q (q_move rfl) (by decide) ?_
  refine VL.q (q_ln (s := s_0) Tryd.underlying34 rfl) (by decide) ?_
  obtain ⟨b8, hS⟩ := gd_s hS
  refine VL.stom Tryd.underlying34 gsz51 rfl rfl rfl b8.1 (b8.2) (by decide) fun s8_1 hs8_1 => ?_
  replace hS := lt_to hs8_1 hS
  refine VL.q (q_assign rfl) (by decide) ?_
  refine VL.to (fun _ _ h => h) ?_
  cases hS
  exact VC.ret (fin1 (.inr rfl) rfl rfl s8_1 rfl rfl (by (try dsimp only); exact InM.out) (fun _ _ => trivial))

set_option maxHeartbeats 4000000 in
set_option maxRecDepth 100000 in
theorem insert51_ct (s v : Sv FilesFile) (i : Int) (hi : 0 ≤ i ∧ i ≤ (s.l.length : Int)) (hv : v.l ≠ []) (hb : s.l.length + v.l.length ≤ 4294967296) : Ct Tryd.prog 66 [s.val, i64 i, v.val] Mo.tt (Ow.star (s.own 51) (v.own 51)) (X := Sv FilesFile) (fun q => q.val) (fun q => q.l = s.l.take i.toNat ++ v.l ++ s.l.drop i.toNat) (fun _ => Mo.tt) (fun q => q.own 51) := by
  refine Ct.of Tryd.func66 rfl (by kernel_rfl) Tryd.ntmps66 (by simp) fun c => ?_
  have hvp : 0 < v.l.length := List.length_pos_iff.2 hv
  have hK : Dat.sz FilesFile = 3 := rfl
  refine VC.seq ?_
  refine VC.region ?_
  refine VL.q (q_assign rfl) (by decide) ?_
  refine VL.to (fun _ _ h => h) ?_
  refine VC.seq ?_
  refine VC.region ?_
  refine VL.q (q_move rfl) (by decide) ?_
  refine VL.q (q_move rfl) (by decide) ?_
  refine VL.fits (s := s) (e := 51) Fo.out fun hf => ?_
  refine VL.q (q_subv (s := s) Tryd.underlying34 gsz51 rfl rfl hi.1 hi.2 hf) (by decide) ?_
  refine VL.to (fun _ _ h => h) ?_
  refine VC.seq ?_
  refine VC.region ?_
  refine VL.q (q_move rfl) (by decide) ?_
  refine VL.q (q_ln (s := v) Tryd.underlying33 rfl) (by decide) ?_
  refine VL.q (q_assign rfl) (by decide) ?_
  refine VL.to (fun _ _ h => h) ?_
  refine VC.seq ?_
  refine VC.seq ?_
  refine VC.region ?_
  refine VL.q (q_move rfl) (by decide) ?_
  refine VL.q (q_eql rfl rfl) (by decide) ?_
  refine VL.to (fun _ _ h => h) ?_
  refine VC.cond_dec rfl (fun h16 => absurd h16 (by omega)) (fun h16 => ?_)
  refine VC.skip_to (fun _ _ h => h) ?_
  refine VC.seq ?_
  refine VC.region ?_
  refine VL.q (q_move rfl) (by decide) ?_
  refine VL.q (q_ln (s := s) Tryd.underlying34 rfl) (by decide) ?_
  refine VL.q (q_assign rfl) (by decide) ?_
  refine VL.to (fun _ _ h => h) ?_
  refine VC.seq ?_
  refine VC.seq ?_
  refine VC.region ?_
  refine VL.q (q_move rfl) (by decide) ?_
  refine VL.q (q_move rfl) (by decide) ?_
  refine VL.q (q_eql rfl rfl) (by decide) ?_
  refine VL.to (fun _ _ h => h) ?_
  refine VC.cond_dec rfl (fun h22 => ?_) (fun h22 => ?_)
  · refine VC.seq ?_
    refine VC.region ?_
    refine VL.q (q_move rfl) (by decide) ?_
    refine VL.q (q_move rfl) (by decide) ?_
    refine VL.shut v 51 (fun _ _ _ _ => trivial) ?_
    refine VL.app2 (s := s) (r := v) Tryd.underlying34 Tryd.underlying33 gapp51 (by decide) rfl Fo.out (ap1 hb) (ap2 hb (by decide)) (by decide) (fun q hq => ?_)
    refine VL.q (q_assign rfl) (by decide) ?_
    refine VL.to (fun _ _ h => h) ?_
    have e1 : i.toNat = s.l.length := by omega
    exact VC.ret (fin1 (.inr rfl) rfl rfl q rfl (by rw [hq, e1, List.take_length, List.drop_length, List.append_nil]) (fun _ _ => trivial) EntO.out)
  have hin : i < (s.l.length : Int) := by omega
  have hne : s.l ≠ [] := fun h => by rw [h] at hin; simp at hin; omega
  have hkq : (s.l.length : Int) + (v.l.length : Int) - i = ((s.l.length + v.l.length - i.toNat : Nat) : Int) := by omega
  have hLn : (s.l.take i.toNat ++ v.l ++ s.l.drop i.toNat).length = s.l.length + v.l.length := by simp only [List.length_append, List.length_take, List.length_drop]; omega
  have hfl : (s.l.take i.toNat ++ v.l ++ s.l.drop i.toNat).flatMap Dat.enc = (s.l.take i.toNat).flatMap Dat.enc ++ v.l.flatMap Dat.enc ++ (s.l.drop i.toNat).flatMap Dat.enc := by rw [List.flatMap_append, List.flatMap_append]
  have lA : ((s.l.take i.toNat).flatMap Dat.enc).length = i.toNat * 3 := by rw [enc_len, List.length_take, hK, Nat.min_eq_left (by omega)]
  have lV : (v.l.flatMap Dat.enc).length = v.l.length * 3 := by rw [enc_len, hK]
  have lS : ((s.l.drop i.toNat).flatMap Dat.enc).length = (s.l.length - i.toNat) * 3 := by rw [enc_len, List.length_drop, hK]
  refine VC.skip_to (fun _ _ h => h) ?_
  refine VC.seq ?_
  refine VC.seq ?_
  refine VC.region ?_
  refine VL.q (q_move rfl) (by decide) ?_
  refine VL.q (q_move rfl) (by decide) ?_
  refine VL.q (q_add rfl rfl ⟨by omega, by omega⟩) (by decide) ?_
  refine VL.q (q_move rfl) (by decide) ?_
  refine VL.q (q_capV (a0 := s.a) (L := s.l.length) (C := s.c) Tryd.underlying34 rfl) (by decide) ?_
  refine VL.q (q_gtr rfl rfl) (by decide) ?_
  refine VL.to (fun _ _ h => h) ?_
  refine VC.cond_dec rfl (fun h31 => ?_) (fun h31 => ?_)
  · refine VC.shut s 51 (fun _ _ _ _ => trivial) ?_
    refine VC.shut v 51 (fun _ _ _ _ => trivial) ?_
    refine VC.seq ?_
    refine VC.region ?_
    refine VL.factM (φ := s.a = some ⟨s.b, s.o, none⟩) (fun h m => (InM.out (X := s.ok) h m).2.2.1 hne) fun hsa => ?_
    refine VL.factM (φ := v.a = some ⟨v.b, v.o, none⟩) (fun h m => (InM.out (X := v.ok) h m).2.2.1 hv) fun hva => ?_
    refine VL.q (q_move rfl) (by decide) ?_
    refine VL.q (q_move rfl) (by decide) ?_
    refine VL.q (q_toV (a0 := s.a) (L := s.l.length) (C := s.c) (K := 3) Tryd.underlying34 gsz51 rfl rfl hi.1 (by omega)) (by decide) ?_
    refine VL.q (q_move rfl) (by decide) ?_
    refine VL.q (q_move rfl) (by decide) ?_
    refine VL.q (q_add rfl rfl ⟨by omega, by omega⟩) (by decide) ?_
    refine VL.q (q_move rfl) (by decide) ?_
    refine VL.q (q_sub rfl rfl ⟨by omega, by omega⟩) (by decide) ?_
    refine VL.setv 39 rfl (congrArg (Value.int .i64) hkq) ?_
    refine VL.appZg (s := s) (L := i.toNat) (kq := s.l.length + v.l.length - i.toNat) Tryd.underlying34 Tryd.underlying3 gapp51 (by decide) rfl hne (by omega) (by omega) (by omega) (by omega) (by decide) (by decide) fun g cs cp hcl hcp hcm hct => ?_
    rw [hK] at hcl hct
    rw [show i.toNat + (s.l.length + v.l.length - i.toNat) = s.l.length + v.l.length by omega] at hcp ⊢
    have hfit : ((s.l.take i.toNat).flatMap Dat.enc).length + (v.l.flatMap Dat.enc).length + ((s.l.drop i.toNat).flatMap Dat.enc).length ≤ cs.length := by
      rw [lA, lV, lS, hcl, ← Nat.add_mul, ← Nat.add_mul]; exact Nat.mul_le_mul_right _ (by omega)
    have hic := ins_cells1 (V := v.l.flatMap Dat.enc) (S := (s.l.drop i.toNat).flatMap Dat.enc) (by rw [lA]; exact hct) hfit
    rw [← hfl, lA, lV, lS] at hic
    refine VL.q (q_assign rfl) (by decide) ?_
    refine VL.to (fun _ _ h => h) ?_
    refine VC.seq ?_
    refine VC.region ?_
    refine VL.q (q_move rfl) (by decide) ?_
    refine VL.q (q_move rfl) (by decide) ?_
    refine VL.q (q_fromV (b := g) (o := 0) (L := s.l.length + v.l.length) (C := cp) (K := 3) Tryd.underlying34 gsz51 rfl rfl hi.1 (by omega) hcp (by omega) rfl) (by decide) ?_
    refine VL.q (q_move rfl) (by decide) ?_
    refine VL.setv 44 rfl (show v.val = .slice (some ⟨v.b, v.o + 0 * Dat.sz FilesFile, none⟩) v.l.length v.c by unfold Sv.val; rw [hva, Nat.zero_mul]; rfl) ?_
    refine VL.copyB (src := v.l.flatMap Dat.enc) Tryd.underlying34 gsz51 UpdB.out rfl (by rw [lV]; congr 1; exact (Nat.min_eq_left (by omega)).symm) (ok_src0 (r := v) (by decide) hv) (enc_one1 v.l) (by rw [lV, Nat.zero_add, hcl, ← Nat.add_mul]; exact Nat.mul_le_mul_right _ (by omega)) (by decide) ?_
    rw [Nat.zero_add, lV]
    refine VL.to (fun _ _ h => h) ?_
    refine VC.seq ?_
    refine VC.draw [(0, true), (1, true), (2, true), (3, true), (4, true), (5, true), (6, true), (7, true), (8, false)] mixed (by kernel_rfl) (by kernel_rfl) (by kernel_rfl) ?_
    refine VD.q rfl (q_move rfl) (by decide) ?_
    refine VD.q rfl (q_move rfl) (by decide) ?_
    refine VD.q rfl (q_move rfl) (by decide) ?_
    refine VD.q rfl (q_add rfl rfl ⟨by omega, by omega⟩) (by decide) ?_
    refine VD.q rfl (q_fromV (b := g) (o := 0) (L := s.l.length + v.l.length) (C := cp) (K := 3) Tryd.underlying34 gsz51 rfl rfl (by omega) (by omega) hcp (by omega) rfl) (by decide) ?_
    refine VD.q rfl (q_move rfl) (by decide) ?_
    refine VD.q rfl (q_move rfl) (by decide) ?_
    refine VD.q rfl (q_fromV (b := s.b) (o := s.o) (L := s.l.length) (C := s.c) (K := 3) Tryd.underlying34 gsz51 (show some s.val = _ by unfold Sv.val; rw [hsa]) rfl hi.1 (by omega) hf (by omega) rfl) (by decide) ?_
    refine VD.one rfl ?_
    rw [show (i + (v.l.length : Int)).toNat = i.toNat + v.l.length by omega]
    refine VL.copyB (src := (s.l.drop i.toNat).flatMap Dat.enc) Tryd.underlying34 gsz51 UpdB.out rfl (by rw [lS]; congr 1; exact (Nat.min_eq_left (by omega)).symm) (ok_srcK (r := s) (by decide) hne i.toNat) (enc_one1 _) (by rw [lS, Nat.zero_add, hic.1, hcl, ← Nat.add_mul]; exact Nat.mul_le_mul_right _ (by omega)) (by decide) ?_
    rw [Nat.zero_add, lS, Nat.add_mul]
    refine VL.back (D' := []) (by kernel_rfl) Pend.nil ?_
    refine VD.to (fun _ _ h => h) ?_
    refine VC.seq ?_
    refine VC.region ?_
    refine VL.q (q_move rfl) (by decide) ?_
    refine VL.q (q_assign rfl) (by decide) ?_
    refine VL.to (fun _ _ h => h) ?_
    have ho := fun F => own_blk (F := F) (e := 51) (b := g) (l' := s.l.take i.toNat ++ v.l ++ s.l.drop i.toNat) (hic.2.1.trans hcl) (by rw [enc_len] at hic; exact hic.2.2) hLn hcp hcm
    exact VC.ret (fin1 (.inr rfl) rfl rfl ⟨some ⟨g, 0, none⟩, cp, _⟩ (ho Ow.emp).1 rfl (fun _ _ => trivial) (ho _).2)
  · refine VC.skip_to (fun _ _ h => h) ?_
    refine VC.seq ?_
    refine VC.region ?_
    refine VL.open (s := s) (e := 51) Fo.out (by omega) fun b cs hsa hcl hct _ hcm => ?_
    rw [hK] at hcl hct
    have hctA : cs.take ((s.l.take i.toNat).flatMap Dat.enc).length = (s.l.take i.toNat).flatMap Dat.enc := by
      rw [lA]
      have : cs.take (i.toNat * 3) = (cs.take (s.l.length * 3)).take (i.toNat * 3) := by rw [List.take_take, Nat.min_eq_left (Nat.mul_le_mul_right _ (by omega))]
      rw [this, hct]
      exact flatMap_take s.l i.toNat
    have hfit : ((s.l.take i.toNat).flatMap Dat.enc).length + (v.l.flatMap Dat.enc).length + ((s.l.drop i.toNat).flatMap Dat.enc).length ≤ cs.length := by
      rw [lA, lV, lS, hcl, ← Nat.add_mul, ← Nat.add_mul]; exact Nat.mul_le_mul_right _ (by omega)
    have hic := ins_cells2 (V := v.l.flatMap Dat.enc) (S := (s.l.drop i.toNat).flatMap Dat.enc) hctA hfit
    rw [← hfl, lA, lV, lS] at hic
    refine VL.q (q_move rfl) (by decide) ?_
    refine VL.q (q_move rfl) (by decide) ?_
    refine VL.q (q_move rfl) (by decide) ?_
    refine VL.q (q_add rfl rfl ⟨by omega, by omega⟩) (by decide) ?_
    refine VL.q (q_toV (a0 := s.a) (L := s.l.length) (C := s.c) (K := 3) Tryd.underlying34 gsz51 rfl rfl (by omega) (by omega)) (by decide) ?_
    rw [show ((s.l.length : Int) + (v.l.length : Int)).toNat = s.l.length + v.l.length by omega, hsa]
    refine VL.q (q_assign rfl) (by decide) ?_
    refine VL.to (fun _ _ h => h) ?_
    refine VC.seq ?_
    refine VC.seq ?_
    refine VC.region ?_
    refine VL.q (q_move rfl) (by decide) ?_
    refine VL.q (q_move rfl) (by decide) ?_
    refine VL.q (q_move rfl) (by decide) ?_
    refine VL.q (q_move rfl) (by decide) ?_
    refine VL.q (q_add rfl rfl ⟨by omega, by omega⟩) (by decide) ?_
    refine VL.q (q_fromV (b := b) (o := 0) (L := s.l.length + v.l.length) (C := s.c) (K := 3) Tryd.underlying34 gsz51 rfl rfl (by omega) (by omega) (by omega) (by omega) rfl) (by decide) ?_
    refine VL.q (q_overlaps (tS := 33) (tR := 4) (s := v) (b := b) Tryd.func107 rfl rfl (by kernel_rfl) (by kernel_rfl) Tryd.underlying33 gsz51 rfl UpdB.out (fun h => by rw [h] at hcl; simp at hcl; omega) hv) (by decide) ?_
    refine VL.q (q_not rfl) (by decide) ?_
    refine VL.to (fun _ _ h => h) ?_
    refine VC.cond_t rfl ?_
    refine VC.shut v 51 (fun _ _ _ _ => trivial) ?_
    refine VC.seq ?_
    refine VC.draw [(0, true), (1, true), (2, true), (3, true), (4, true), (5, true), (6, true), (7, true), (8, false)] mixed (by kernel_rfl) (by kernel_rfl) (by kernel_rfl) ?_
    refine VD.q rfl (q_move rfl) (by decide) ?_
    refine VD.q rfl (q_move rfl) (by decide) ?_
    refine VD.q rfl (q_move rfl) (by decide) ?_
    refine VD.q rfl (q_add rfl rfl ⟨by omega, by omega⟩) (by decide) ?_
    refine VD.q rfl (q_fromV (b := b) (o := 0) (L := s.l.length + v.l.length) (C := s.c) (K := 3) Tryd.underlying34 gsz51 rfl rfl (by omega) (by omega) (by omega) (by omega) rfl) (by decide) ?_
    refine VD.q rfl (q_move rfl) (by decide) ?_
    refine VD.q rfl (q_move rfl) (by decide) ?_
    refine VD.q rfl (q_fromV (b := b) (o := 0) (L := s.l.length + v.l.length) (C := s.c) (K := 3) Tryd.underlying34 gsz51 rfl rfl hi.1 (by omega) (by omega) (by omega) rfl) (by decide) ?_
    refine VD.one rfl ?_
    rw [show (i + (v.l.length : Int)).toNat = i.toNat + v.l.length by omega, Nat.zero_add, Nat.zero_add]
    refine VL.copyB (src := (s.l.drop i.toNat).flatMap Dat.enc) Tryd.underlying34 gsz51 UpdB.out rfl (by rw [lS]; congr 1; simp only [Nat.min_def]; split <;> omega) (blk_src (n := s.l.length) hct rfl) (enc_one1 _) (by rw [lS, hcl, ← Nat.add_mul]; exact Nat.mul_le_mul_right _ (by omega)) (by decide) ?_
    rw [lS, Nat.add_mul]
    refine VL.back (D' := []) (by kernel_rfl) Pend.nil ?_
    refine VD.to (fun _ _ h => h) ?_
    refine VC.seq ?_
    refine VC.region ?_
    refine VL.q (q_move rfl) (by decide) ?_
    refine VL.q (q_move rfl) (by decide) ?_
    refine VL.q (q_fromV (b := b) (o := 0) (L := s.l.length + v.l.length) (C := s.c) (K := 3) Tryd.underlying34 gsz51 rfl rfl hi.1 (by omega) (by omega) (by omega) rfl) (by decide) ?_
    refine VL.q (q_move rfl) (by decide) ?_
    refine VL.factM (φ := v.a = some ⟨v.b, v.o, none⟩) (fun h m => (InM.out (X := v.ok) h m).2.2.1 hv) fun hva => ?_
    refine VL.setv 81 rfl (show v.val = .slice (some ⟨v.b, v.o + 0 * Dat.sz FilesFile, none⟩) v.l.length v.c by unfold Sv.val; rw [hva, Nat.zero_mul]; rfl) ?_
    rw [Nat.zero_add]
    refine VL.copyB (src := v.l.flatMap Dat.enc) Tryd.underlying34 gsz51 UpdB.out rfl (by rw [lV]; congr 1; exact (Nat.min_eq_left (by omega)).symm) (ok_src0 (r := v) (by decide) hv) (enc_one1 v.l) (by rw [lV, hic.1, hcl, ← Nat.add_mul]; exact Nat.mul_le_mul_right _ (by omega)) (by decide) ?_
    rw [lV]
    refine VL.to (fun _ _ h => h) ?_
    refine VC.seq ?_
    refine VC.region ?_
    refine VL.q (q_move rfl) (by decide) ?_
    refine VL.q (q_assign rfl) (by decide) ?_
    refine VL.to (fun _ _ h => h) ?_
    have ho := fun F => own_blk (F := F) (e := 51) (b := b) (l' := s.l.take i.toNat ++ v.l ++ s.l.drop i.toNat) (hic.2.1.trans hcl) (by rw [enc_len] at hic; exact hic.2.2) hLn (by omega) hcm
    exact VC.ret (fin1 (.inr rfl) rfl rfl ⟨some ⟨b, 0, none⟩, s.c, _⟩ (ho Ow.emp).1 rfl (fun _ _ => trivial) (ho _).2)

set_option maxHeartbeats 4000000 in
set_option maxRecDepth 100000 in
theorem files_Row_Put_ct (r_0 : Sv FilesFile) (f_1 : FilesFile) {r : List FilesFile} (hS : Sh.files_Row_Put r_0.l f_1 = some r) :
    Ct Tryd.prog 26 [r_0.val, .agg #[str f_1.path, i64 f_1.mode, str f_1.data]] r_0.ok (Ow.emp) (X := Sv FilesFile) (fun x => x.val) (fun x => r = x.l) (fun x => x.ok) (fun x => Ow.emp) := by
  refine Ct.of Tryd.func26 rfl (by kernel_rfl) Tryd.ntmps26 (by simp) fun c => ?_
  unfold Sh.files_Row_Put at hS
  refine VC.seq ?_
  refine VC.region ?_
  refine VL.box (cs := [str f_1.path, i64 f_1.mode, str f_1.data]) rfl rfl (by decide) fun b3_1 => ?_
  refine VL.q (q_assign rfl) (by decide) ?_
  refine VL.to (fun _ _ h => h) ?_
  refine VC.seq ?_
  refine VC.region ?_
  refine VL.q (q_move rfl) (by decide) ?_
  obtain ⟨y9_2, ey9_2, hS⟩ := bd_s hS
  refine VL.callO (slices_Clone_files_Row_files_File_ct r_0 ey9_2) rfl (by decide) ?_
  rintro q9_2_0 rfl
  try dsimp only
  refine VL.q (q_assign rfl) (by decide) ?_
  refine VL.to (fun _ _ h => h) ?_
  refine VC.seq ?_
  refine VC.region ?_
  refine VL.q (q_move rfl) (by decide) ?_
  refine VL.q (q_field gfa51_0 rfl) (by decide) ?_
  refine VL.q (q_fe gone9 rfl rfl) (by decide) ?_
  obtain ⟨y14_3, ey14_3, hS⟩ := bd_s hS
  refine VL.q (q_call (files_Row_find_ct r_0 f_1.path ey14_3) rfl (fun _ _ => rfl)) (by decide) ?_
  refine VL.q (q_move rfl) (by decide) ?_
  refine VL.q (q_extract rfl rfl) (by decide) ?_
  refine VL.q (q_extract rfl rfl) (by decide) ?_
  refine VL.q (q_assign rfl) (by decide) ?_
  refine VL.q (q_assign rfl) (by decide) ?_
  refine VL.to (fun _ _ h => h) ?_
  refine VC.keep [3, 5, 6, 7] rfl ?_
  refine VC.seq ?_
  refine VC.seq ?_
  refine VC.region ?_
  refine VL.q (q_move rfl) (by decide) ?_
  refine VL.to (fun _ _ h => h) ?_
  refine VC.cond rfl (fun h17 => ?_) (fun h17 => ?_)
  ·
    replace hS := it_t h17 hS
    refine VC.seq ?_
    refine VC.region ?_
    refine VL.q (q_move rfl) (by decide) ?_
    refine VL.q (q_move rfl) (by decide) ?_
    refine VL.q (q_fes gagg51 rfl rfl) (by decide) ?_
    obtain ⟨z21_4, nz21_4, hz21_4, hS⟩ := at_s hS
    refine VL.q (q_ixo (s := q9_2_0) Tryd.underlying34 gsz51 rfl rfl nz21_4 (lt_of_get nz21_4 hz21_4)) (by decide) ?_
    refine VL.storeE (s := q9_2_0) (T := 51) (j := 0) (vc := [str f_1.path, i64 f_1.mode, str f_1.data]) (⟨f_1.path, f_1.mode, f_1.data⟩ : FilesFile) (by decide) rfl rfl hz21_4 rfl gsz51 rfl rfl (Nat.le_of_ble_eq_true rfl) rfl (fun w5 hw5 haw5 hcw5 hvw5 hbw5 how5 => ?_)
    rw [← hvw5]
    replace hS := lt_to hw5 hS
    refine VL.to (fun _ _ h => h) ?_
    refine VC.seq ?_
    refine VC.region ?_
    refine VL.q (q_move rfl) (by decide) ?_
    refine VL.shut w5 51 (fun _ _ _ _ => trivial) ?_
    obtain ⟨y23_7, ey23_7, hS⟩ := bd_s hS
    refine VL.callF (slices_Clip_files_Row_files_File_ct w5 ey23_7) rfl (by decide) ?_
    rintro q23_7_0 rfl
    try dsimp only
    refine VL.q (q_assign rfl) (by decide) ?_
    refine VL.to (fun _ _ h => h) ?_
    refine VC.keep [4] rfl ?_
    cases hS
    exact VC.ret (fin1 (.inr rfl) rfl rfl q23_7_0 rfl rfl (by (try dsimp only); exact InM.out) (fun _ _ => trivial))
  ·
    replace hS := it_b h17 hS
    refine VC.skip_to (fun _ _ h => h) ?_
    refine VC.seq ?_
    refine VC.region ?_
    refine VL.q (q_move rfl) (by decide) ?_
    refine VL.q (q_move rfl) (by decide) ?_
    refine VL.q (q_fes gagg51 rfl rfl) (by decide) ?_
    refine VL.litO (α := FilesFile) (xs := [.tmp 26]) (vs := [.agg #[str f_1.path, i64 f_1.mode, str f_1.data]]) [⟨f_1.path, f_1.mode, f_1.data⟩] Tryd.underlying33 glit51 (by decide) rfl rfl rfl rfl (by decide) (by decide) (fun s27_8 hs27_8 => ?_) (by decide)
    replace hS := lt_to hs27_8 hS
    obtain ⟨b28, hS⟩ := gd_s hS
    refine VL.callO (insert51_ct q9_2_0 s27_8 y14_3.1 b28.1 b28.2.1 b28.2.2) rfl (by decide) ?_
    intro s28_10 hs28_10
    replace hS := lt_to hs28_10 hS
    refine VL.shut s28_10 51 (fun _ _ _ _ => trivial) ?_
    obtain ⟨y29_12, ey29_12, hS⟩ := bd_s hS
    refine VL.callF (slices_Clip_files_Row_files_File_ct s28_10 ey29_12) rfl (by decide) ?_
    rintro q29_12_0 rfl
    try dsimp only
    refine VL.q (q_assign rfl) (by decide) ?_
    refine VL.to (fun _ _ h => h) ?_
    refine VC.keep [4] rfl ?_
    cases hS
    exact VC.ret (fin1 (.inr rfl) rfl rfl q29_12_0 rfl rfl (by (try dsimp only); exact InM.out) (fun _ _ => trivial))

set_option maxHeartbeats 4000000 in
set_option maxRecDepth 100000 in
theorem files_Row_Get_ct (r_0 : Sv FilesFile) (p_1 : Str) {r : FilesFile × Bool} (hS : Sh.files_Row_Get r_0.l p_1 = some r) :
    Ct Tryd.prog 27 [r_0.val, str p_1] r_0.ok (Ow.emp) (X := Unit) (fun _ => .tuple #[.agg #[str r.1.path, i64 r.1.mode, str r.1.data], .bool r.2]) (fun _ => True) (fun _ => Mo.tt) (fun _ => Ow.emp) := by
  refine Ct.of Tryd.func27 rfl (by kernel_rfl) Tryd.ntmps27 (by simp) fun c => ?_
  unfold Sh.files_Row_Get at hS
  refine VC.seq ?_
  refine VC.region ?_
  refine VL.alloc (cs := [str [], i64 0, str []]) (by kernel_rfl) (by decide) fun b4_1 => ?_
  refine VL.q (q_assign rfl) (by decide) ?_
  refine VL.to (fun _ _ h => h) ?_
  refine VC.seq ?_
  refine VC.region ?_
  refine VL.q (q_move rfl) (by decide) ?_
  refine VL.q (q_move rfl) (by decide) ?_
  obtain ⟨y11_2, ey11_2, hS⟩ := bd_s hS
  refine VL.q (q_call (files_Row_find_ct r_0 p_1 ey11_2) rfl (fun _ _ => rfl)) (by decide) ?_
  refine VL.q (q_move rfl) (by decide) ?_
  refine VL.q (q_extract rfl rfl) (by decide) ?_
  refine VL.q (q_extract rfl rfl) (by decide) ?_
  refine VL.q (q_assign rfl) (by decide) ?_
  refine VL.q (q_assign rfl) (by decide) ?_
  refine VL.to (fun _ _ h => h) ?_
  refine VC.keep [0, 4, 6, 7] rfl ?_
  refine VC.seq ?_
  refine VC.seq ?_
  refine VC.region ?_
  refine VL.q (q_move rfl) (by decide) ?_
  refine VL.q (q_not rfl) (by decide) ?_
  refine VL.to (fun _ _ h => h) ?_
  refine VC.cond rfl (fun h15 => ?_) (fun h15 => ?_)
  ·
    replace hS := it_t h15 hS
    refine VC.seq ?_
    refine VC.region ?_
    refine VL.q (q_build (vs := []) (cs := #[str [], i64 0, str []]) rfl (by kernel_rfl)) (by decide) ?_
    refine VL.store (vc := [str [], i64 0, str []]) (cs' := [str [], i64 0, str []]) rfl rfl rfl gsz51 rfl rfl (Nat.le_of_ble_eq_true rfl) rfl ?_
    refine VL.q (q_assign rfl) (by decide) ?_
    refine VL.to (fun _ _ h => h) ?_
    cases hS
    exact VC.ret (finG (vs := [.agg #[str [], i64 0, str []], .bool false]) (.inr rfl) rfl (RVs.cell gagg51 rfl rfl Rd.blk (RVs.tmp rfl (RVs.nil))) () rfl trivial (by (try dsimp only); exact InM.out) (fun _ _ => trivial))
  ·
    replace hS := it_b h15 hS
    refine VC.skip_to (fun _ _ h => h) ?_
    refine VC.seq ?_
    refine VC.region ?_
    refine VL.q (q_move rfl) (by decide) ?_
    refine VL.q (q_move rfl) (by decide) ?_
    obtain ⟨z19_3, nz19_3, hz19_3, hS⟩ := at_s hS
    refine VL.q (q_ixm (s := r_0) Tryd.underlying34 gsz51 rfl rfl nz19_3 (lt_of_get nz19_3 hz19_3)) (by decide) ?_
    refine VL.q (q_els (s := r_0) gagg51 rfl rfl hz19_3) (by decide) ?_
    refine VL.store (vc := [str z19_3.path, i64 z19_3.mode, str z19_3.data]) (cs' := [str z19_3.path, i64 z19_3.mode, str z19_3.data]) rfl rfl rfl gsz51 rfl rfl (Nat.le_of_ble_eq_true rfl) rfl ?_
    refine VL.q (q_assign rfl) (by decide) ?_
    refine VL.to (fun _ _ h => h) ?_
    refine VC.keep [4, 5] rfl ?_
    cases hS
    exact VC.ret (finG (vs := [.agg #[str z19_3.path, i64 z19_3.mode, str z19_3.data], .bool true]) (.inr rfl) rfl (RVs.cell gagg51 rfl rfl Rd.blk (RVs.tmp rfl (RVs.nil))) () rfl trivial (by (try dsimp only); exact InM.out) (fun _ _ => trivial))

set_option maxHeartbeats 4000000 in
set_option maxRecDepth 100000 in
theorem slices_Clip_string_string_ct (s_0 : Sv Str) {r : List Str} (hS : Sh.slices_Clip_string_string s_0.l = some r) :
    Ct Tryd.prog 54 [s_0.val] s_0.ok (Ow.emp) (X := Sv Str) (fun x => x.val) (fun x => r = x.l) (fun x => x.ok) (fun x => Ow.emp) := by
  refine Ct.of Tryd.func54 rfl (by kernel_rfl) Tryd.ntmps54 (by simp) fun c => ?_
  unfold Sh.slices_Clip_string_string at hS
  refine VC.seq ?_
  refine VC.region ?_
  refine VL.q (q_assign rfl) (by decide) ?_
  refine VL.to (fun _ _ h => h) ?_
  refine VC.seq ?_
  refine VC.region ?_
  refine VL.q (q_move rfl) (by decide) ?_
  refine VL.q (q_move rfl) (by decide) ?_
  refine VL.q (q_ln (s := s_0) Tryd.underlying38 rfl) (by decide) ?_
  refine VL.q (q_move rfl) (by decide) ?_
  refine VL.q (q_ln (s := s_0) Tryd.underlying38 rfl) (by decide) ?_
  obtain ⟨b8, hS⟩ := gd_s hS
  refine VL.stom Tryd.underlying38 gsz9 rfl rfl rfl b8.1 (b8.2) (by decide) fun s8_1 hs8_1 => ?_
  replace hS := lt_to hs8_1 hS
  refine VL.q (q_assign rfl) (by decide) ?_
  refine VL.to (fun _ _ h => h) ?_
  cases hS
  exact VC.ret (fin1 (.inr rfl) rfl rfl s8_1 rfl rfl (by (try dsimp only); exact InM.out) (fun _ _ => trivial))

set_option maxHeartbeats 4000000 in
set_option maxRecDepth 100000 in
theorem files_Paths_ct (l_0 : Sv (Sv FilesFile)) {r : List Str} (hS : Sh.files_Paths (l_0.l.map Sv.l) = some r) :
    Ct Tryd.prog 22 [l_0.val] l_0.ok (Ow.emp) (X := Sv Str) (fun x => x.val) (fun x => r = x.l) (fun x => x.ok) (fun x => Ow.emp) := by
  refine Ct.of Tryd.func22 rfl (by kernel_rfl) Tryd.ntmps22 (by simp) fun c => ?_
  unfold Sh.files_Paths at hS
  refine VC.seq ?_
  refine VC.region ?_
  refine VL.q (q_assign rfl) (by decide) ?_
  refine VL.to (fun _ _ h => h) ?_
  refine VC.seq ?_
  refine VC.region ?_
  refine VL.mkmap (k := 9) (e := 4) (by decide) fun b8_1 => ?_
  refine VL.q (q_assign rfl) (by decide) ?_
  refine VL.to (fun _ _ h => h) ?_
  refine VC.seq ?_
  refine VC.seq ?_
  refine VC.region ?_
  refine VL.q (q_move rfl) (by decide) ?_
  refine VL.q (q_lnm Sv.l (s := l_0) Tryd.underlying102 rfl) (by decide) ?_
  refine VL.q (q_move rfl) (by decide) ?_
  refine VL.to (fun _ _ h => h) ?_
  refine VC.block ?_
  refine VC.iter (S := Int × List Str) (fun sg => (sg.1, sg.2)) (fun sg => [(3, .map (some b8_1)), (9, l_0.val), (10, i64 ((l_0.l.map Sv.l).length : Int)), (11, i64 sg.1)]) (fun sg => Mo.tt) (fun sg => Ow.star (MpK Tryd.prog 9 4 b8_1 sg.2) (Ow.emp)) (0, ([] : List Str)) [3, 9, 10, 11] hS rfl ?_
  clear hS
  rintro ⟨x11_2, acc_3⟩ m1 y1 hS hK1
  show VC _ _ _ _ _ [(3, .map (some b8_1)), (9, l_0.val), (10, i64 ((l_0.l.map Sv.l).length : Int)), (11, i64 x11_2)] (Mo.and Mo.tt _) (Ow.star (MpK Tryd.prog 9 4 b8_1 acc_3) (Ow.emp))
  refine VC.seq ?_
  refine VC.region ?_
  refine VL.q (q_lss rfl rfl) (by decide) ?_
  refine VL.to (fun _ _ h => h) ?_
  refine VC.seq ?_
  refine VC.cond_dec rfl (fun h12 => ?_) (fun h12 => ?_)
  ·
    replace hS := it_t h12 hS
    refine VC.skip_to (fun _ _ h => h) ?_
    refine VC.seq ?_
    refine VC.block ?_
    refine VC.seq ?_
    refine VC.region ?_
    obtain ⟨z13_4, nz13_4, hz13_4, hS⟩ := atm_s hS
    refine VL.deep z13_4.ok hz13_4 (fun _ q => q) ?_
    refine VL.q (q_ixm (s := l_0) Tryd.underlying102 gsz34 rfl rfl nz13_4 (lt_of_get nz13_4 hz13_4)) (by decide) ?_
    refine VL.q (q_el (s := l_0) gone34 rfl hz13_4 rfl) (by decide) ?_
    refine VL.q (q_assign rfl) (by decide) ?_
    refine VL.to (fun _ _ h => h) ?_
    refine VC.seq ?_
    refine VC.region ?_
    refine VL.q (q_move rfl) (by decide) ?_
    refine VL.q (q_ln (s := z13_4) Tryd.underlying34 rfl) (by decide) ?_
    refine VL.q (q_move rfl) (by decide) ?_
    refine VL.to (fun _ _ h => h) ?_
    refine VC.block ?_
    refine VC.iter (S := Int × List Str) (fun sg => (sg.1, sg.2)) (fun sg => [(3, .map (some b8_1)), (9, l_0.val), (10, i64 ((l_0.l.map Sv.l).length : Int)), (11, i64 x11_2), (15, z13_4.val), (16, i64 (z13_4.l.length : Int)), (17, i64 sg.1)]) (fun sg => Mo.tt) (fun sg => Ow.star (MpK Tryd.prog 9 4 b8_1 sg.2) (Ow.emp)) (0, acc_3) [3, 9, 10, 11, 15, 16, 17] hS rfl ?_
    clear hS
    rintro ⟨x17_5, acc_6⟩ m2 y2 hS hK2
    show VC _ _ _ _ _ [(3, .map (some b8_1)), (9, l_0.val), (10, i64 ((l_0.l.map Sv.l).length : Int)), (11, i64 x11_2), (15, z13_4.val), (16, i64 (z13_4.l.length : Int)), (17, i64 x17_5)] (Mo.and Mo.tt _) (Ow.star (MpK Tryd.prog 9 4 b8_1 acc_6) (Ow.emp))
    refine VC.seq ?_
    refine VC.region ?_
    refine VL.q (q_lss rfl rfl) (by decide) ?_
    refine VL.to (fun _ _ h => h) ?_
    refine VC.seq ?_
    refine VC.cond_dec rfl (fun h18 => ?_) (fun h18 => ?_)
    ·
      replace hS := it_t h18 hS
      refine VC.skip_to (fun _ _ h => h) ?_
      refine VC.seq ?_
      refine VC.block ?_
      refine VC.seq ?_
      refine VC.region ?_
      obtain ⟨z19_7, nz19_7, hz19_7, hS⟩ := at_s hS
      refine VL.q (q_ixm (s := z13_4) Tryd.underlying34 gsz51 rfl rfl nz19_7 (lt_of_get nz19_7 hz19_7)) (by decide) ?_
      refine VL.q (q_els (s := z13_4) gagg51 rfl rfl hz19_7) (by decide) ?_
      refine VL.alloc (cs := [str [], i64 0, str []]) (by kernel_rfl) (by decide) fun b7_8 => ?_
      refine VL.store (vc := [str z19_7.path, i64 z19_7.mode, str z19_7.data]) (cs' := [str z19_7.path, i64 z19_7.mode, str z19_7.data]) rfl rfl rfl gsz51 rfl rfl (Nat.le_of_ble_eq_true rfl) rfl ?_
      refine VL.to (fun _ _ h => h) ?_
      refine VC.region ?_
      refine VL.q (q_move rfl) (by decide) ?_
      refine VL.q (q_field gfa51_0 rfl) (by decide) ?_
      refine VL.q (q_fe gone9 rfl rfl) (by decide) ?_
      obtain ⟨bs3, hS⟩ := gd_s hS
      refine VL.mapset (b := b8_1) (l := acc_6) (s := z19_7.path) Tryd.underlying9 Tryd.underlying4 Tryd.underlying103 Fo.out rfl rfl rfl bs3 ?_
      obtain ⟨accs3_9, eaccs3_9, hS⟩ := lt_s hS
      rw [eaccs3_9]
      refine VL.to (fun _ _ h => h) ?_
      refine VC.keep [3, 9, 10, 11, 15, 16, 17] rfl ?_
      refine VC.region ?_
      obtain ⟨b24, hS⟩ := gd_s hS
      refine VL.q (q_add rfl rfl b24) (by decide) ?_
      refine VL.q (q_move rfl) (by decide) ?_
      refine VL.rnd ((x17_5 + 1), accs3_9) [3, 9, 10, 11, 15, 16, 17] (fun _ _ h => h) (go2 hS hK2) rfl
    ·
      replace hS := it_f h18 hS
      replace hS := up2 hS hK2
      refine VC.exit_to (fun _ _ h => h) ?_
      refine VC.region ?_
      obtain ⟨b25, hS⟩ := gd_s hS
      refine VL.q (q_add rfl rfl b25) (by decide) ?_
      refine VL.q (q_move rfl) (by decide) ?_
      refine VL.rnd ((x11_2 + 1), acc_6) [3, 9, 10, 11] (fun _ _ h => h) (go2 hS hK1) rfl
  ·
    replace hS := it_f h12 hS
    replace hS := up2 hS hK1
    refine VC.exit_to (fun _ _ h => h) ?_
    refine VC.seq ?_
    refine VC.region ?_
    refine VL.q (q_move rfl) (by decide) ?_
    refine VL.callO (Ct.mapKeys (b := b8_1) (entry_of Tryd.func56 rfl (by kernel_rfl)) Tryd.mapsKeys_56) rfl (by decide) ?_
    intro B27_10 _
    try dsimp only
    obtain ⟨b28, hS⟩ := gd_s hS
    refine VL.callO (Ct.sortedKeys (it := 96) (T := 103) (b := b8_1) (B := B27_10) (e := 4) (l := acc_3) (entry_of Tryd.func55 rfl (by kernel_rfl)) Tryd.underlying9 (fun D0 nn W h1 h2 h3 h4 h5 => Tryd.sortedKeys_55_56 B27_10 b8_1 nn D0 _ W h1 h2 h3 h4 h5) b28) rfl (by decide) ?_
    intro s28_11 hs28_11
    try dsimp only
    replace hS := lt_to hs28_11 hS
    refine VL.shut s28_11 9 (fun _ _ _ _ => trivial) ?_
    obtain ⟨y29_13, ey29_13, hS⟩ := bd_s hS
    refine VL.callF (slices_Clip_string_string_ct s28_11 ey29_13) rfl (by decide) ?_
    rintro q29_13_0 rfl
    try dsimp only
    refine VL.q (q_assign rfl) (by decide) ?_
    refine VL.to (fun _ _ h => h) ?_
    cases hS
    exact VC.ret (fin1 (.inr rfl) rfl rfl q29_13_0 rfl rfl (by (try dsimp only); exact InM.out) (fun _ _ => trivial))

set_option maxHeartbeats 4000000 in
set_option maxRecDepth 100000 in
theorem slices_Clip_files_Delta_files_Delta_ct (s_0 : Sv FilesDelta) {r : List FilesDelta} (hS : Sh.slices_Clip_files_Delta_files_Delta s_0.l = some r) :
    Ct Tryd.prog 49 [s_0.val] s_0.ok (Ow.emp) (X := Sv FilesDelta) (fun x => x.val) (fun x => r = x.l) (fun x => x.ok) (fun x => Ow.emp) := by
  refine Ct.of Tryd.func49 rfl (by kernel_rfl) Tryd.ntmps49 (by simp) fun c => ?_
  unfold Sh.slices_Clip_files_Delta_files_Delta at hS
  refine VC.seq ?_
  refine VC.region ?_
  refine VL.q (q_assign rfl) (by decide) ?_
  refine VL.to (fun _ _ h => h) ?_
  refine VC.seq ?_
  refine VC.region ?_
  refine VL.q (q_move rfl) (by decide) ?_
  refine VL.q (q_move rfl) (by decide) ?_
  refine VL.q (q_ln (s := s_0) Tryd.underlying41 rfl) (by decide) ?_
  refine VL.q (q_move rfl) (by decide) ?_
  refine VL.q (q_ln (s := s_0) Tryd.underlying41 rfl) (by decide) ?_
  obtain ⟨b8, hS⟩ := gd_s hS
  refine VL.stom Tryd.underlying41 gsz45 rfl rfl rfl b8.1 (b8.2) (by decide) fun s8_1 hs8_1 => ?_
  replace hS := lt_to hs8_1 hS
  refine VL.q (q_assign rfl) (by decide) ?_
  refine VL.to (fun _ _ h => h) ?_
  cases hS
  exact VC.ret (fin1 (.inr rfl) rfl rfl s8_1 rfl rfl (by (try dsimp only); exact InM.out) (fun _ _ => trivial))

set_option maxHeartbeats 4000000 in
set_option maxRecDepth 100000 in
theorem files_Diff_ct (a_0 : Sv FilesFile) (b_1 : Sv FilesFile) {r : List FilesDelta} (hS : Sh.files_Diff a_0.l b_1.l = some r) :
    Ct Tryd.prog 17 [a_0.val, b_1.val] (a_0.ok.and b_1.ok) (Ow.emp) (X := Sv FilesDelta) (fun x => x.val) (fun x => r = x.l) (fun x => x.ok) (fun x => Ow.emp) := by
  refine Ct.of Tryd.func17 rfl (by kernel_rfl) Tryd.ntmps17 (by simp) fun c => ?_
  unfold Sh.files_Diff at hS
  refine VC.seq ?_
  refine VC.region ?_
  refine VL.q (q_assign rfl) (by decide) ?_
  refine VL.to (fun _ _ h => h) ?_
  refine VC.seq ?_
  refine VC.region ?_
  refine VL.q (q_assign rfl) (by decide) ?_
  refine VL.to (fun _ _ h => h) ?_
  refine VC.seq ?_
  refine VC.seq ?_
  refine VC.region ?_
  refine VL.q (q_move rfl) (by decide) ?_
  refine VL.q (q_move rfl) (by decide) ?_
  refine VL.lit (α := Sv FilesFile) (xs := [.tmp 12, .tmp 13]) (vs := [a_0.val, b_1.val]) [a_0, b_1] Tryd.underlying102 glit34 (by decide) rfl rfl rfl rfl (by decide) (fun h m => List.forall_mem_cons.2 ⟨InM.out (X := a_0.ok) h m, List.forall_mem_cons.2 ⟨InM.out (X := b_1.ok) h m, fun _ h => by cases h⟩⟩) (by decide) (fun s14_1 hs14_1 => ?_) (by decide)
  replace hS := lt_to (congrArg (List.map Sv.l) hs14_1) hS
  obtain ⟨y15_3, ey15_3, hS⟩ := bd_s hS
  refine VL.callF (files_Paths_ct s14_1 ey15_3) rfl (by decide) ?_
  rintro q15_3_0 rfl
  try dsimp only
  refine VL.q (q_ln (s := q15_3_0) Tryd.underlying38 rfl) (by decide) ?_
  refine VL.q (q_move rfl) (by decide) ?_
  refine VL.to (fun _ _ h => h) ?_
  refine VC.block ?_
  refine VC.nilO (⟨none, 0, []⟩ : Sv FilesDelta) 45 ⟨rfl, rfl⟩ ?_
  refine VC.iter (S := Sv FilesDelta × Int) (fun sg => (sg.1.l, sg.2)) (fun sg => [(0, a_0.val), (1, b_1.val), (5, sg.1.val), (15, q15_3_0.val), (16, i64 (q15_3_0.l.length : Int)), (17, i64 sg.2)]) (fun sg => Mo.tt) (fun sg => Ow.star (Sv.own sg.1 45) (Ow.emp)) (⟨none, 0, []⟩, 0) [0, 1, 5, 15, 16, 17] hS rfl ?_
  clear hS
  rintro ⟨out5_4, x17_5⟩ m1 y1 hS hK1
  show VC _ _ _ _ _ [(0, a_0.val), (1, b_1.val), (5, out5_4.val), (15, q15_3_0.val), (16, i64 (q15_3_0.l.length : Int)), (17, i64 x17_5)] (Mo.and Mo.tt _) (Ow.star (Sv.own out5_4 45) (Ow.emp))
  refine VC.seq ?_
  refine VC.region ?_
  refine VL.q (q_lss rfl rfl) (by decide) ?_
  refine VL.to (fun _ _ h => h) ?_
  refine VC.seq ?_
  refine VC.cond_dec rfl (fun h18 => ?_) (fun h18 => ?_)
  ·
    replace hS := it_t h18 hS
    refine VC.skip_to (fun _ _ h => h) ?_
    refine VC.seq ?_
    refine VC.block ?_
    refine VC.seq ?_
    refine VC.region ?_
    obtain ⟨z19_6, nz19_6, hz19_6, hS⟩ := at_s hS
    refine VL.q (q_ixm (s := q15_3_0) Tryd.underlying38 gsz9 rfl rfl nz19_6 (lt_of_get nz19_6 hz19_6)) (by decide) ?_
    refine VL.q (q_el (s := q15_3_0) gone9 rfl hz19_6 rfl) (by decide) ?_
    refine VL.q (q_assign rfl) (by decide) ?_
    refine VL.to (fun _ _ h => h) ?_
    refine VC.seq ?_
    refine VC.region ?_
    refine VL.q (q_move rfl) (by decide) ?_
    refine VL.q (q_move rfl) (by decide) ?_
    obtain ⟨y24_7, ey24_7, hS⟩ := bd_s hS
    refine VL.q (q_call (files_Row_Get_ct a_0 z19_6 ey24_7) rfl (fun _ _ => rfl)) (by decide) ?_
    refine VL.q (q_move rfl) (by decide) ?_
    refine VL.q (q_extract rfl rfl) (by decide) ?_
    refine VL.q (q_extract rfl rfl) (by decide) ?_
    refine VL.alloc (cs := [str [], i64 0, str []]) (by kernel_rfl) (by decide) fun b8_8 => ?_
    refine VL.store (vc := [str y24_7.1.path, i64 y24_7.1.mode, str y24_7.1.data]) (cs' := [str y24_7.1.path, i64 y24_7.1.mode, str y24_7.1.data]) rfl rfl rfl gsz51 rfl rfl (Nat.le_of_ble_eq_true rfl) rfl ?_
    refine VL.q (q_assign rfl) (by decide) ?_
    refine VL.to (fun _ _ h => h) ?_
    refine VC.keep [0, 1, 5, 15, 16, 17, 7, 8, 9] rfl ?_
    refine VC.seq ?_
    refine VC.region ?_
    refine VL.q (q_move rfl) (by decide) ?_
    refine VL.q (q_move rfl) (by decide) ?_
    obtain ⟨y30_9, ey30_9, hS⟩ := bd_s hS
    refine VL.q (q_call (files_Row_Get_ct b_1 z19_6 ey30_9) rfl (fun _ _ => rfl)) (by decide) ?_
    refine VL.q (q_move rfl) (by decide) ?_
    refine VL.q (q_extract rfl rfl) (by decide) ?_
    refine VL.q (q_extract rfl rfl) (by decide) ?_
    refine VL.alloc (cs := [str [], i64 0, str []]) (by kernel_rfl) (by decide) fun b10_10 => ?_
    refine VL.store (vc := [str y30_9.1.path, i64 y30_9.1.mode, str y30_9.1.data]) (cs' := [str y30_9.1.path, i64 y30_9.1.mode, str y30_9.1.data]) rfl rfl rfl gsz51 rfl rfl (Nat.le_of_ble_eq_true rfl) rfl ?_
    refine VL.q (q_assign rfl) (by decide) ?_
    refine VL.to (fun _ _ h => h) ?_
    refine VC.block ?_
    refine VC.seq ?_
    refine VC.region ?_
    refine VL.q (q_move rfl) (by decide) ?_
    refine VL.q (q_not rfl) (by decide) ?_
    refine VL.q (q_assign rfl) (by decide) ?_
    refine VL.to (fun _ _ h => h) ?_
    refine VC.keep [0, 1, 5, 15, 16, 17, 7, 8, 10, 11, 33] rfl ?_
    refine VC.cond rfl (fun h33 => ?_) (fun h33 => ?_)
    ·
      replace hS := it_t h33 hS
      refine VC.region ?_
      refine VL.q (q_move rfl) (by decide) ?_
      refine VL.q (q_move rfl) (by decide) ?_
      refine VL.q (q_build (vs := [(0, str z19_6), (1, str [65])]) (cs := #[str z19_6, str [65]]) rfl (by kernel_rfl)) (by decide) ?_
      refine VL.lit (α := FilesDelta) (xs := [.tmp 38]) (vs := [.agg #[str z19_6, str [65]]]) [⟨z19_6, [65]⟩] Tryd.underlying41 glit45 (by decide) rfl rfl rfl rfl (by decide) (fun _ _ _ _ => trivial) (by decide) (fun s39_11 hs39_11 => ?_) (by decide)
      replace hS := lt_to hs39_11 hS
      obtain ⟨b40, hS⟩ := gd_s hS
      refine VL.app (s := out5_4) (r := s39_11) Tryd.underlying41 gapp45 (by decide) rfl Fo.out (ap1 b40) (ap2 b40 (by decide)) (by decide) (fun s40_13 hs40_13 => ?_)
      replace hS := lt_to hs40_13 hS
      refine VL.q (q_assign rfl) (by decide) ?_
      refine VL.to (fun _ _ h => h) ?_
      refine VC.keep [0, 1, 5, 15, 16, 17] rfl ?_
      refine VC.region ?_
      obtain ⟨b58, hS⟩ := gd_s hS
      refine VL.q (q_add rfl rfl b58) (by decide) ?_
      refine VL.q (q_move rfl) (by decide) ?_
      refine VL.rnd (s40_13, (x17_5 + 1)) [0, 1, 5, 15, 16, 17] (fun _ _ h => h) (go2 hS hK1) rfl
    ·
      replace hS := it_b h33 hS
      refine VC.seq ?_
      refine VC.region ?_
      refine VL.q (q_move rfl) (by decide) ?_
      refine VL.q (q_not rfl) (by decide) ?_
      refine VL.q (q_assign rfl) (by decide) ?_
      refine VL.to (fun _ _ h => h) ?_
      refine VC.cond rfl (fun h41 => ?_) (fun h41 => ?_)
      ·
        replace hS := it_t h41 hS
        refine VC.region ?_
        refine VL.q (q_move rfl) (by decide) ?_
        refine VL.q (q_move rfl) (by decide) ?_
        refine VL.q (q_build (vs := [(0, str z19_6), (1, str [68])]) (cs := #[str z19_6, str [68]]) rfl (by kernel_rfl)) (by decide) ?_
        refine VL.lit (α := FilesDelta) (xs := [.tmp 46]) (vs := [.agg #[str z19_6, str [68]]]) [⟨z19_6, [68]⟩] Tryd.underlying41 glit45 (by decide) rfl rfl rfl rfl (by decide) (fun _ _ _ _ => trivial) (by decide) (fun s47_15 hs47_15 => ?_) (by decide)
        replace hS := lt_to hs47_15 hS
        obtain ⟨b48, hS⟩ := gd_s hS
        refine VL.app (s := out5_4) (r := s47_15) Tryd.underlying41 gapp45 (by decide) rfl Fo.out (ap1 b48) (ap2 b48 (by decide)) (by decide) (fun s48_17 hs48_17 => ?_)
        replace hS := lt_to hs48_17 hS
        refine VL.q (q_assign rfl) (by decide) ?_
        refine VL.to (fun _ _ h => h) ?_
        refine VC.keep [0, 1, 5, 15, 16, 17] rfl ?_
        refine VC.region ?_
        obtain ⟨b58, hS⟩ := gd_s hS
        refine VL.q (q_add rfl rfl b58) (by decide) ?_
        refine VL.q (q_move rfl) (by decide) ?_
        refine VL.rnd (s48_17, (x17_5 + 1)) [0, 1, 5, 15, 16, 17] (fun _ _ h => h) (go2 hS hK1) rfl
      ·
        replace hS := it_b h41 hS
        refine VC.seq ?_
        refine VC.region ?_
        refine VL.q (q_fes gagg51 rfl rfl) (by decide) ?_
        refine VL.q (q_fes gagg51 rfl rfl) (by decide) ?_
        refine VL.q (q_stneq geqg51 (geqs51 y24_7.1.path y24_7.1.mode y24_7.1.data y30_9.1.path y30_9.1.mode y30_9.1.data) rfl rfl) (by decide) ?_
        refine VL.q (q_assign rfl) (by decide) ?_
        refine VL.to (fun _ _ h => h) ?_
        refine VC.keep [0, 1, 5, 15, 16, 17, 7, 49] rfl ?_
        refine VC.cond_ndec rfl (fun h49 => ?_) (fun h49 => ?_)
        ·
          replace hS := it_f h49 hS
          refine VC.region ?_
          refine VL.q (q_move rfl) (by decide) ?_
          refine VL.q (q_move rfl) (by decide) ?_
          refine VL.q (q_build (vs := [(0, str z19_6), (1, str [77])]) (cs := #[str z19_6, str [77]]) rfl (by kernel_rfl)) (by decide) ?_
          refine VL.lit (α := FilesDelta) (xs := [.tmp 55]) (vs := [.agg #[str z19_6, str [77]]]) [⟨z19_6, [77]⟩] Tryd.underlying41 glit45 (by decide) rfl rfl rfl rfl (by decide) (fun _ _ _ _ => trivial) (by decide) (fun s56_19 hs56_19 => ?_) (by decide)
          replace hS := lt_to hs56_19 hS
          obtain ⟨b57, hS⟩ := gd_s hS
          refine VL.app (s := out5_4) (r := s56_19) Tryd.underlying41 gapp45 (by decide) rfl Fo.out (ap1 b57) (ap2 b57 (by decide)) (by decide) (fun s57_21 hs57_21 => ?_)
          replace hS := lt_to hs57_21 hS
          refine VL.q (q_assign rfl) (by decide) ?_
          refine VL.to (fun _ _ h => h) ?_
          refine VC.keep [0, 1, 5, 15, 16, 17] rfl ?_
          refine VC.region ?_
          obtain ⟨b58, hS⟩ := gd_s hS
          refine VL.q (q_add rfl rfl b58) (by decide) ?_
          refine VL.q (q_move rfl) (by decide) ?_
          refine VL.rnd (s57_21, (x17_5 + 1)) [0, 1, 5, 15, 16, 17] (fun _ _ h => h) (go2 hS hK1) rfl
        ·
          replace hS := it_t h49 hS
          refine VC.skip_to (fun _ _ h => h) ?_
          refine VC.region ?_
          obtain ⟨b58, hS⟩ := gd_s hS
          refine VL.q (q_add rfl rfl b58) (by decide) ?_
          refine VL.q (q_move rfl) (by decide) ?_
          refine VL.rnd (out5_4, (x17_5 + 1)) [0, 1, 5, 15, 16, 17] (fun _ _ h => h) (go2 hS hK1) rfl
  ·
    replace hS := it_f h18 hS
    replace hS := up2 hS hK1
    refine VC.exit_to (fun _ _ h => h) ?_
    refine VC.seq ?_
    refine VC.region ?_
    refine VL.q (q_move rfl) (by decide) ?_
    refine VL.shut out5_4 45 (fun _ _ _ _ => trivial) ?_
    obtain ⟨y60_23, ey60_23, hS⟩ := bd_s hS
    refine VL.callF (slices_Clip_files_Delta_files_Delta_ct out5_4 ey60_23) rfl (by decide) ?_
    rintro q60_23_0 rfl
    try dsimp only
    refine VL.q (q_assign rfl) (by decide) ?_
    refine VL.to (fun _ _ h => h) ?_
    cases hS
    exact VC.ret (fin1 (.inr rfl) rfl rfl q60_23_0 rfl rfl (by (try dsimp only); exact InM.out) (fun _ _ => trivial))

set_option maxHeartbeats 4000000 in
set_option maxRecDepth 100000 in
theorem unicode_utf8_RuneCountInString_ct (s_0 : Str) {r : Int} (hS : Sh.unicode_utf8_RuneCountInString s_0 = some r) :
    Ct Tryd.prog 148 [str s_0] Mo.tt (Ow.emp) (X := Unit) (fun _ => i64 r) (fun _ => True) (fun _ => Mo.tt) (fun _ => Ow.emp) := by
  refine Ct.of Tryd.func148 rfl (by kernel_rfl) Tryd.ntmps148 (by simp) fun c => ?_
  unfold Sh.unicode_utf8_RuneCountInString at hS
  refine VC.seq ?_
  refine VC.region ?_
  refine VL.q (q_assign rfl) (by decide) ?_
  refine VL.to (fun _ _ h => h) ?_
  refine VC.seq ?_
  refine VC.seq ?_
  refine VC.region ?_
  refine VL.q (q_move rfl) (by decide) ?_
  cases hS

set_option maxHeartbeats 4000000 in
set_option maxRecDepth 100000 in
theorem unicode_utf8_decodeRuneInStringSlow_ct (a_0 : Str) {r : Int × Int} (hS : Sh.unicode_utf8_decodeRuneInStringSlow a_0 = some r) :
    Ct Tryd.prog 150 [str a_0] Mo.tt (Ow.emp) (X := Unit) (fun _ => .tuple #[.int .i32 r.1, i64 r.2]) (fun _ => True) (fun _ => Mo.tt) (fun _ => Ow.emp) := by
  refine Ct.of Tryd.func150 rfl (by kernel_rfl) Tryd.ntmps150 (by simp) fun c => ?_
  unfold Sh.unicode_utf8_decodeRuneInStringSlow at hS
  refine VC.seq ?_
  refine VC.region ?_
  refine VL.q (q_assign rfl) (by decide) ?_
  refine VL.q (q_assign rfl) (by decide) ?_
  refine VL.to (fun _ _ h => h) ?_
  refine VC.seq ?_
  refine VC.region ?_
  refine VL.q (q_move rfl) (by decide) ?_
  refine VL.q (q_slen Tryd.underlying9 rfl) (by decide) ?_
  refine VL.q (q_assign rfl) (by decide) ?_
  refine VL.to (fun _ _ h => h) ?_
  refine VC.seq ?_
  refine VC.seq ?_
  refine VC.region ?_
  refine VL.q (q_move rfl) (by decide) ?_
  refine VL.q (q_lss rfl rfl) (by decide) ?_
  refine VL.to (fun _ _ h => h) ?_
  refine VC.cond_dec rfl (fun h16 => ?_) (fun h16 => ?_)
  ·
    replace hS := it_t h16 hS
    refine VC.seq ?_
    refine VC.region ?_
    refine VL.q (q_assign rfl) (by decide) ?_
    refine VL.q (q_assign rfl) (by decide) ?_
    refine VL.to (fun _ _ h => h) ?_
    cases hS
    exact VC.ret (fin2 (.inr rfl) rfl rfl rfl () rfl trivial (fun _ _ => trivial) (fun _ _ => trivial))
  ·
    replace hS := it_f h16 hS
    refine VC.skip_to (fun _ _ h => h) ?_
    refine VC.seq ?_
    refine VC.region ?_
    refine VL.q (q_move rfl) (by decide) ?_
    obtain ⟨z18_1, nz18_1, hz18_1, hS⟩ := at_s hS
    refine VL.q (q_sidx Tryd.underlying9 rfl rfl nz18_1 hz18_1) (by decide) ?_
    refine VL.q (q_assign rfl) (by decide) ?_
    refine VL.to (fun _ _ h => h) ?_
    refine VC.keep [0, 4, 5] rfl ?_
    refine VC.seq ?_
    refine VC.region ?_
    refine VL.q (q_move rfl) (by decide) ?_
    cases hS

set_option maxHeartbeats 4000000 in
set_option maxRecDepth 100000 in
theorem unicode_utf8_DecodeRuneInString_ct (s_0 : Str) {r : Int × Int} (hS : Sh.unicode_utf8_DecodeRuneInString s_0 = some r) :
    Ct Tryd.prog 124 [str s_0] Mo.tt (Ow.emp) (X := Unit) (fun _ => .tuple #[.int .i32 r.1, i64 r.2]) (fun _ => True) (fun _ => Mo.tt) (fun _ => Ow.emp) := by
  refine Ct.of Tryd.func124 rfl (by kernel_rfl) Tryd.ntmps124 (by simp) fun c => ?_
  unfold Sh.unicode_utf8_DecodeRuneInString at hS
  refine VC.seq ?_
  refine VC.region ?_
  refine VL.q (q_assign rfl) (by decide) ?_
  refine VL.q (q_assign rfl) (by decide) ?_
  refine VL.to (fun _ _ h => h) ?_
  refine VC.seq ?_
  refine VC.cutJ (S := Bool) (fun (x10_1 : Bool) => x10_1) (fun (x10_1 : Bool) => [(0, str s_0), (10, .bool x10_1)]) (fun (x10_1 : Bool) => Mo.tt) (fun (x10_1 : Bool) => Ow.emp) hS ?_ ?_
  · -- up to where ways meet
    clear hS
    intro k2 hS
    refine VC.region ?_
    refine VL.q (q_move rfl) (by decide) ?_
    refine VL.q (q_sne rfl rfl) (by decide) ?_
    refine VL.q (q_move rfl) (by decide) ?_
    refine VL.split_ndec 6 rfl (fun h6 => ?_) (fun h6 => ?_)
    ·
      replace hS := it_f h6 hS
      refine VL.gy rfl rfl (q_move rfl) (by decide) ?_
      obtain ⟨z8_3, nz8_3, hz8_3, hS⟩ := at_s hS
      refine VL.gy rfl rfl (q_sidx Tryd.underlying9 rfl rfl nz8_3 hz8_3) (by decide) ?_
      refine VL.gy rfl rfl (q_lss rfl rfl) (by decide) ?_
      refine VL.q (q_pick_t rfl rfl) (by decide) ?_
      refine VL.mt (decide ((z8_3.toNat : Int) < 128)) [0, 10] (fun _ _ h => h) hS rfl
    ·
      replace hS := it_t h6 hS
      refine VL.gn rfl rfl rfl (by decide) ?_
      refine VL.gn rfl rfl rfl (by decide) ?_
      refine VL.gn rfl rfl rfl (by decide) ?_
      refine VL.q (q_pick_f rfl rfl) (by decide) ?_
      refine VL.mt false [0, 10] (fun _ _ h => h) hS rfl
  · -- from there
    clear hS
    rintro x10_1 hS
    show VC _ _ _ _ _ [(0, str s_0), (10, .bool x10_1)] (Mo.and Mo.tt _) (Ow.emp)
    refine VC.cond rfl (fun h10 => ?_) (fun h10 => ?_)
    ·
      replace hS := it_t h10 hS
      refine VC.seq ?_
      refine VC.region ?_
      refine VL.q (q_move rfl) (by decide) ?_
      obtain ⟨z12_4, nz12_4, hz12_4, hS⟩ := at_s hS
      refine VL.q (q_sidx Tryd.underlying9 rfl rfl nz12_4 hz12_4) (by decide) ?_
      refine VL.q (q_conv Tryd.underlying5 Tryd.underlying21 rfl (wr_i32 z12_4)) (by decide) ?_
      refine VL.q (q_assign rfl) (by decide) ?_
      refine VL.q (q_assign rfl) (by decide) ?_
      refine VL.to (fun _ _ h => h) ?_
      cases hS
      exact VC.ret (fin2 (.inr rfl) rfl rfl rfl () rfl trivial (fun _ _ => trivial) (fun _ _ => trivial))
    ·
      replace hS := it_b h10 hS
      refine VC.region ?_
      refine VL.q (q_move rfl) (by decide) ?_
      obtain ⟨y16_5, ey16_5, hS⟩ := bd_s hS
      refine VL.q (q_call (unicode_utf8_decodeRuneInStringSlow_ct s_0 ey16_5) rfl (fun _ _ => rfl)) (by decide) ?_
      refine VL.q (q_move rfl) (by decide) ?_
      refine VL.q (q_extract rfl rfl) (by decide) ?_
      refine VL.q (q_extract rfl rfl) (by decide) ?_
      refine VL.q (q_assign rfl) (by decide) ?_
      refine VL.q (q_assign rfl) (by decide) ?_
      refine VL.to (fun _ _ h => h) ?_
      cases hS
      exact VC.ret (fin2 (.inr rfl) rfl rfl rfl () rfl trivial (fun _ _ => trivial) (fun _ _ => trivial))

set_option maxHeartbeats 4000000 in
set_option maxRecDepth 100000 in
theorem strings_explode_ct (s_0 : Str) (n_1 : Int) {r : List Str} (hS : Sh.strings_explode s_0 n_1 = some r) :
    Ct Tryd.prog 120 [str s_0, i64 n_1] Mo.tt (Ow.emp) (X := Sv Str) (fun x => x.val) (fun x => r = x.l) (fun x => Mo.tt) (fun x => Sv.own x 9) := by
  refine Ct.of Tryd.func120 rfl (by kernel_rfl) Tryd.ntmps120 (by simp) fun c => ?_
  unfold Sh.strings_explode at hS
  refine VC.seq ?_
  refine VC.region ?_
  refine VL.q (q_assign rfl) (by decide) ?_
  refine VL.to (fun _ _ h => h) ?_
  refine VC.seq ?_
  refine VC.region ?_
  refine VL.q (q_move rfl) (by decide) ?_
  obtain ⟨y11_1, ey11_1, hS⟩ := bd_s hS
  refine VL.q (q_call (unicode_utf8_RuneCountInString_ct s_0 ey11_1) rfl (fun _ _ => rfl)) (by decide) ?_
  refine VL.q (q_assign rfl) (by decide) ?_
  refine VL.to (fun _ _ h => h) ?_
  refine VC.cutJ (S := Int) (fun (n1_2 : Int) => n1_2) (fun (n1_2 : Int) => [(0, str s_0), (1, i64 n1_2)]) (fun (n1_2 : Int) => Mo.tt) (fun (n1_2 : Int) => Ow.emp) hS ?_ ?_
  · -- up to where ways meet
    clear hS
    intro k3 hS
    refine VC.cutJ (S := Bool) (fun (x18_4 : Bool) => x18_4) (fun (x18_4 : Bool) => [(0, str s_0), (1, i64 n_1), (5, i64 y11_1), (18, .bool x18_4)]) (fun (x18_4 : Bool) => Mo.tt) (fun (x18_4 : Bool) => Ow.emp) hS ?_ ?_
    · -- up to where ways meet
      clear hS
      intro k5 hS
      refine VC.region ?_
      refine VL.q (q_move rfl) (by decide) ?_
      refine VL.q (q_lss rfl rfl) (by decide) ?_
      refine VL.q (q_move rfl) (by decide) ?_
      refine VL.split_dec 14 rfl (fun h14 => ?_) (fun h14 => ?_)
      ·
        replace hS := it_t h14 hS
        refine VL.gn rfl rfl rfl (by decide) ?_
        refine VL.gn rfl rfl rfl (by decide) ?_
        refine VL.gn rfl rfl rfl (by decide) ?_
        refine VL.q (q_pick_t rfl rfl) (by decide) ?_
        refine VL.mt true [0, 1, 5, 18] (fun _ _ h => h) hS rfl
      ·
        replace hS := it_f h14 hS
        refine VL.gy rfl rfl (q_move rfl) (by decide) ?_
        refine VL.gy rfl rfl (q_move rfl) (by decide) ?_
        refine VL.gy rfl rfl (q_gtr rfl rfl) (by decide) ?_
        refine VL.q (q_pick_f rfl rfl) (by decide) ?_
        refine VL.mt (decide (y11_1 < n_1)) [0, 1, 5, 18] (fun _ _ h => h) hS rfl
    · -- from there
      clear hS
      rintro x18_4 hS
      show VC _ _ _ _ _ [(0, str s_0), (1, i64 n_1), (5, i64 y11_1), (18, .bool x18_4)] (Mo.and Mo.tt _) (Ow.emp)
      refine VC.cond rfl (fun h18 => ?_) (fun h18 => ?_)
      ·
        replace hS := it_t h18 hS
        refine VC.region ?_
        refine VL.q (q_move rfl) (by decide) ?_
        refine VL.q (q_assign rfl) (by decide) ?_
        refine VL.mt y11_1 [0, 1] (fun _ _ h => h) hS rfl
      ·
        replace hS := it_b h18 hS
        refine VC.skip_mt n_1 [0, 1] (fun _ _ h => h) hS rfl
  · -- from there
    clear hS
    rintro n1_2 hS
    show VC _ _ _ _ _ [(0, str s_0), (1, i64 n1_2)] (Mo.and Mo.tt _) (Ow.emp)
    refine VC.seq ?_
    refine VC.region ?_
    refine VL.q (q_move rfl) (by decide) ?_
    obtain ⟨b21, hS⟩ := gd_s hS
    refine VL.make (α := Str) (z := []) Tryd.underlying38 gmk9 (by decide) rfl rfl b21.1 (Int.le_refl _) (by omega) (by omega) (by decide) (fun s21_6 hs21_6 => ?_)
    replace hS := lt_to hs21_6 hS
    refine VL.q (q_assign rfl) (by decide) ?_
    refine VL.to (fun _ _ h => h) ?_
    refine VC.seq ?_
    refine VC.seq ?_
    refine VC.region ?_
    refine VL.q (q_assign rfl) (by decide) ?_
    refine VL.to (fun _ _ h => h) ?_
    refine VC.block ?_
    refine VC.iter (S := Str × Sv Str × Int) (fun sg => (sg.1, sg.2.1.l, sg.2.2)) (fun sg => [(0, str sg.1), (1, i64 n1_2), (6, sg.2.1.val), (7, i64 sg.2.2)]) (fun sg => Mo.tt) (fun sg => Ow.star (Sv.own sg.2.1 9) (Ow.emp)) (s_0, s21_6, 0) [0, 1, 6, 7] hS rfl ?_
    clear hS
    rintro ⟨s0_8, a6_9, i7_10⟩ m1 y1 hS hK1
    show VC _ _ _ _ _ [(0, str s0_8), (1, i64 n1_2), (6, a6_9.val), (7, i64 i7_10)] (Mo.and Mo.tt _) (Ow.star (Sv.own a6_9 9) (Ow.emp))
    refine VC.seq ?_
    refine VC.seq ?_
    refine VC.region ?_
    refine VL.q (q_move rfl) (by decide) ?_
    refine VL.q (q_move rfl) (by decide) ?_
    obtain ⟨b24, hS⟩ := gd_s hS
    refine VL.q (q_sub rfl rfl b24) (by decide) ?_
    refine VL.q (q_lss rfl rfl) (by decide) ?_
    refine VL.to (fun _ _ h => h) ?_
    refine VC.cond_dec rfl (fun h25 => ?_) (fun h25 => ?_)
    ·
      replace hS := it_t h25 hS
      refine VC.skip_to (fun _ _ h => h) ?_
      refine VC.seq ?_
      refine VC.block ?_
      refine VC.seq ?_
      refine VC.region ?_
      refine VL.q (q_move rfl) (by decide) ?_
      obtain ⟨y30_11, ey30_11, hS⟩ := bd_s hS
      refine VL.q (q_call (unicode_utf8_DecodeRuneInString_ct s0_8 ey30_11) rfl (fun _ _ => rfl)) (by decide) ?_
      refine VL.q (q_move rfl) (by decide) ?_
      refine VL.q (q_extract rfl rfl) (by decide) ?_
      refine VL.q (q_extract rfl rfl) (by decide) ?_
      refine VL.q (q_assign rfl) (by decide) ?_
      refine VL.q (q_assign rfl) (by decide) ?_
      refine VL.to (fun _ _ h => h) ?_
      refine VC.keep [0, 1, 6, 7, 9] rfl ?_
      refine VC.seq ?_
      refine VC.region ?_
      refine VL.q (q_move rfl) (by decide) ?_
      refine VL.q (q_move rfl) (by decide) ?_
      refine VL.q (q_move rfl) (by decide) ?_
      refine VL.q (q_move rfl) (by decide) ?_
      obtain ⟨b37, hS⟩ := gd_s hS
      obtain ⟨y37_12, ey37_12, hS⟩ := lt_s hS
      refine VL.q (q_stoE Tryd.underlying9 rfl rfl b37.1 b37.2 ey37_12) (by decide) ?_
      obtain ⟨z38_13, nz38_13, hz38_13, hS⟩ := at_s hS
      refine VL.q (q_ixo (s := a6_9) Tryd.underlying38 gsz9 rfl rfl nz38_13 (lt_of_get nz38_13 hz38_13)) (by decide) ?_
      refine VL.storeE (s := a6_9) (T := 9) (j := 0) (vc := [str y37_12]) (y37_12 : Str) (by decide) rfl rfl hz38_13 rfl gsz9 rfl rfl (Nat.le_of_ble_eq_true rfl) rfl (fun w14 hw14 haw14 hcw14 hvw14 hbw14 how14 => ?_)
      rw [← hvw14]
      replace hS := lt_to hw14 hS
      refine VL.to (fun _ _ h => h) ?_
      refine VC.region ?_
      refine VL.q (q_move rfl) (by decide) ?_
      refine VL.q (q_move rfl) (by decide) ?_
      obtain ⟨b41, hS⟩ := gd_s hS
      obtain ⟨y41_16, ey41_16, hS⟩ := lt_s hS
      refine VL.q (q_sfromE Tryd.underlying9 rfl rfl b41.1 b41.2 ey41_16) (by decide) ?_
      refine VL.q (q_assign rfl) (by decide) ?_
      refine VL.to (fun _ _ h => h) ?_
      refine VC.keep [0, 1, 6, 7] rfl ?_
      refine VC.region ?_
      refine VL.q (q_move rfl) (by decide) ?_
      obtain ⟨b27, hS⟩ := gd_s hS
      refine VL.q (q_add rfl rfl b27) (by decide) ?_
      refine VL.q (q_assign rfl) (by decide) ?_
      refine VL.rnd (y41_16, w14, (i7_10 + 1)) [0, 1, 6, 7] (fun _ _ h => h) (go2 hS hK1) rfl
    ·
      replace hS := it_f h25 hS
      replace hS := up2 hS hK1
      refine VC.exit_to (fun _ _ h => h) ?_
      refine VC.seq ?_
      refine VC.seq ?_
      refine VC.region ?_
      refine VL.q (q_move rfl) (by decide) ?_
      refine VL.q (q_gtr rfl rfl) (by decide) ?_
      refine VL.to (fun _ _ h => h) ?_
      refine VC.cond_dec rfl (fun h43 => ?_) (fun h43 => ?_)
      ·
        replace hS := it_t h43 hS
        refine VC.region ?_
        refine VL.q (q_move rfl) (by decide) ?_
        refine VL.q (q_move rfl) (by decide) ?_
        obtain ⟨b46, hS⟩ := gd_s hS
        refine VL.q (q_sub rfl rfl b46) (by decide) ?_
        refine VL.q (q_move rfl) (by decide) ?_
        obtain ⟨z48_17, nz48_17, hz48_17, hS⟩ := at_s hS
        refine VL.q (q_ixo (s := a6_9) Tryd.underlying38 gsz9 rfl rfl nz48_17 (lt_of_get nz48_17 hz48_17)) (by decide) ?_
        refine VL.storeE (s := a6_9) (T := 9) (j := 0) (vc := [str s0_8]) (s0_8 : Str) (by decide) rfl rfl hz48_17 rfl gsz9 rfl rfl (Nat.le_of_ble_eq_true rfl) rfl (fun w18 hw18 haw18 hcw18 hvw18 hbw18 how18 => ?_)
        rw [← hvw18]
        replace hS := lt_to hw18 hS
        refine VL.to (fun _ _ h => h) ?_
        refine VC.keep [6] rfl ?_
        refine VC.seq ?_
        refine VC.region ?_
        refine VL.q (q_move rfl) (by decide) ?_
        refine VL.q (q_assign rfl) (by decide) ?_
        refine VL.to (fun _ _ h => h) ?_
        cases hS
        exact VC.ret (fin1 (.inr rfl) rfl rfl w18 rfl rfl (by (try dsimp only); exact InM.out) (by (try dsimp only); exact EntO.out))
      ·
        replace hS := it_f h43 hS
        refine VC.skip_to (fun _ _ h => h) ?_
        refine VC.seq ?_
        refine VC.region ?_
        refine VL.q (q_move rfl) (by decide) ?_
        refine VL.q (q_assign rfl) (by decide) ?_
        refine VL.to (fun _ _ h => h) ?_
        refine VC.keep [4] rfl ?_
        cases hS
        exact VC.ret (fin1 (.inr rfl) rfl rfl a6_9 rfl rfl (by (try dsimp only); exact InM.out) (by (try dsimp only); exact EntO.out))

set_option maxHeartbeats 4000000 in
set_option maxRecDepth 100000 in
theorem internal_stringslite_IndexByte_ct (s_0 : Str) (c_1 : Int) {r : Int} (hS : Sh.internal_stringslite_IndexByte s_0 c_1 = some r) :
    Ct Tryd.prog 168 [str s_0, .int .u8 c_1] Mo.tt (Ow.emp) (X := Unit) (fun _ => i64 r) (fun _ => True) (fun _ => Mo.tt) (fun _ => Ow.emp) := by
  refine Ct.of Tryd.func168 rfl (by kernel_rfl) Tryd.ntmps168 (by simp) fun c => ?_
  unfold Sh.internal_stringslite_IndexByte at hS
  refine VC.seq ?_
  refine VC.region ?_
  refine VL.q (q_assign rfl) (by decide) ?_
  refine VL.to (fun _ _ h => h) ?_
  refine VC.seq ?_
  refine VC.region ?_
  refine VL.q (q_move rfl) (by decide) ?_
  refine VL.q (q_move rfl) (by decide) ?_
  refine VL.q (q_extern Tryd.func185 rfl rfl (by kernel_rfl) (by kernel_rfl) rfl (fun w => x_ixS s_0 c_1 w)) (by decide) ?_
  refine VL.q (q_assign rfl) (by decide) ?_
  refine VL.to (fun _ _ h => h) ?_
  cases hS
  exact VC.ret (fin1 (.inr rfl) rfl rfl () rfl trivial (fun _ _ => trivial) (fun _ _ => trivial))

set_option maxHeartbeats 4000000 in
set_option maxRecDepth 100000 in
theorem internal_stringslite_Index_ct (a_0 : Str) (a_1 : Str) {r : Int} (hS : Sh.internal_stringslite_Index a_0 a_1 = some r) :
    Ct Tryd.prog 136 [str a_0, str a_1] Mo.tt (Ow.emp) (X := Unit) (fun _ => i64 r) (fun _ => True) (fun _ => Mo.tt) (fun _ => Ow.emp) := by
  refine Ct.of Tryd.func136 rfl (by kernel_rfl) Tryd.ntmps136 (by simp) fun c => ?_
  unfold Sh.internal_stringslite_Index at hS
  refine VC.seq ?_
  refine VC.region ?_
  refine VL.q (q_assign rfl) (by decide) ?_
  refine VL.to (fun _ _ h => h) ?_
  refine VC.seq ?_
  refine VC.region ?_
  refine VL.q (q_move rfl) (by decide) ?_
  refine VL.q (q_slen Tryd.underlying9 rfl) (by decide) ?_
  refine VL.q (q_assign rfl) (by decide) ?_
  refine VL.to (fun _ _ h => h) ?_
  refine VC.seq ?_
  refine VC.block ?_
  refine VC.cutJ (S := Bool) (fun (x16_1 : Bool) => x16_1) (fun (x16_1 : Bool) => [(0, str a_0), (1, str a_1), (5, i64 (a_1.length : Int)), (16, .bool x16_1)]) (fun (x16_1 : Bool) => Mo.tt) (fun (x16_1 : Bool) => Ow.emp) hS ?_ ?_
  · -- up to where ways meet
    clear hS
    intro k2 hS
    refine VC.region ?_
    refine VL.q (q_move rfl) (by decide) ?_
    refine VL.q (q_eql rfl rfl) (by decide) ?_
    refine VL.q (q_move rfl) (by decide) ?_
    refine VL.split_dec 19 rfl (fun h19 => ?_) (fun h19 => ?_)
    ·
      replace hS := it_t h19 hS
      refine VL.gn rfl rfl rfl (by decide) ?_
      refine VL.gn rfl rfl rfl (by decide) ?_
      refine VL.gn rfl rfl rfl (by decide) ?_
      refine VL.q (q_pick_t rfl rfl) (by decide) ?_
      refine VL.q (q_assign rfl) (by decide) ?_
      refine VL.mt true [0, 1, 5, 16] (fun _ _ h => h) hS rfl
    ·
      replace hS := it_f h19 hS
      refine VL.gy rfl rfl (q_move rfl) (by decide) ?_
      refine VL.gy rfl rfl (q_move rfl) (by decide) ?_
      refine VL.gy rfl rfl (q_seq rfl rfl) (by decide) ?_
      refine VL.q (q_pick_f rfl rfl) (by decide) ?_
      refine VL.q (q_assign rfl) (by decide) ?_
      refine VL.mt (decide (a_1 = a_0)) [0, 1, 5, 16] (fun _ _ h => h) hS rfl
  · -- from there
    clear hS
    rintro x16_1 hS
    show VC _ _ _ _ _ [(0, str a_0), (1, str a_1), (5, i64 (a_1.length : Int)), (16, .bool x16_1)] (Mo.and Mo.tt _) (Ow.emp)
    refine VC.cond rfl (fun h16 => ?_) (fun h16 => ?_)
    ·
      replace hS := it_t h16 hS
      refine VC.seq ?_
      refine VC.region ?_
      refine VL.q (q_assign rfl) (by decide) ?_
      refine VL.to (fun _ _ h => h) ?_
      cases hS
      exact VC.ret (fin1 (.inr rfl) rfl rfl () rfl trivial (fun _ _ => trivial) (fun _ _ => trivial))
    ·
      replace hS := it_b h16 hS
      refine VC.seq ?_
      refine VC.region ?_
      refine VL.q (q_move rfl) (by decide) ?_
      refine VL.q (q_eql rfl rfl) (by decide) ?_
      refine VL.q (q_assign rfl) (by decide) ?_
      refine VL.to (fun _ _ h => h) ?_
      refine VC.cond_dec rfl (fun h24 => ?_) (fun h24 => ?_)
      ·
        replace hS := it_t h24 hS
        refine VC.seq ?_
        refine VC.region ?_
        refine VL.q (q_move rfl) (by decide) ?_
        refine VL.q (q_move rfl) (by decide) ?_
        obtain ⟨z29_3, nz29_3, hz29_3, hS⟩ := at_s hS
        refine VL.q (q_sidx Tryd.underlying9 rfl rfl nz29_3 hz29_3) (by decide) ?_
        obtain ⟨y30_4, ey30_4, hS⟩ := bd_s hS
        refine VL.q (q_call (internal_stringslite_IndexByte_ct a_0 (z29_3.toNat : Int) ey30_4) rfl (fun _ _ => rfl)) (by decide) ?_
        refine VL.q (q_assign rfl) (by decide) ?_
        refine VL.to (fun _ _ h => h) ?_
        refine VC.keep [4] rfl ?_
        cases hS
        exact VC.ret (fin1 (.inr rfl) rfl rfl () rfl trivial (fun _ _ => trivial) (fun _ _ => trivial))
      ·
        replace hS := it_f h24 hS
        refine VC.seq ?_
        refine VC.region ?_
        refine VL.q (q_move rfl) (by decide) ?_
        refine VL.q (q_move rfl) (by decide) ?_
        refine VL.q (q_slen Tryd.underlying9 rfl) (by decide) ?_
        refine VL.q (q_geq rfl rfl) (by decide) ?_
        refine VL.q (q_assign rfl) (by decide) ?_
        refine VL.to (fun _ _ h => h) ?_
        refine VC.keep [0, 1, 5, 31] rfl ?_
        refine VC.cond_dec rfl (fun h31 => ?_) (fun h31 => ?_)
        ·
          replace hS := it_t h31 hS
          refine VC.seq ?_
          refine VC.region ?_
          refine VL.q (q_assign rfl) (by decide) ?_
          refine VL.to (fun _ _ h => h) ?_
          cases hS
          exact VC.ret (fin1 (.inr rfl) rfl rfl () rfl trivial (fun _ _ => trivial) (fun _ _ => trivial))
        ·
          replace hS := it_f h31 hS
          refine VC.seq ?_
          refine VC.region ?_
          refine VL.q (q_move rfl) (by decide) ?_
          cases hS

set_option maxHeartbeats 4000000 in
set_option maxRecDepth 100000 in
theorem strings_Index_ct (s_0 : Str) (substr_1 : Str) {r : Int} (hS : Sh.strings_Index s_0 substr_1 = some r) :
    Ct Tryd.prog 122 [str s_0, str substr_1] Mo.tt (Ow.emp) (X := Unit) (fun _ => i64 r) (fun _ => True) (fun _ => Mo.tt) (fun _ => Ow.emp) := by
  refine Ct.of Tryd.func122 rfl (by kernel_rfl) Tryd.ntmps122 (by simp) fun c => ?_
  unfold Sh.strings_Index at hS
  refine VC.seq ?_
  refine VC.region ?_
  refine VL.q (q_assign rfl) (by decide) ?_
  refine VL.to (fun _ _ h => h) ?_
  refine VC.seq ?_
  refine VC.region ?_
  refine VL.q (q_move rfl) (by decide) ?_
  refine VL.q (q_move rfl) (by decide) ?_
  obtain ⟨y7_1, ey7_1, hS⟩ := bd_s hS
  refine VL.q (q_call (internal_stringslite_Index_ct s_0 substr_1 ey7_1) rfl (fun _ _ => rfl)) (by decide) ?_
  refine VL.q (q_assign rfl) (by decide) ?_
  refine VL.to (fun _ _ h => h) ?_
  cases hS
  exact VC.ret (fin1 (.inr rfl) rfl rfl () rfl trivial (fun _ _ => trivial) (fun _ _ => trivial))

set_option maxHeartbeats 4000000 in
set_option maxRecDepth 100000 in
theorem strings_Count_ct (s_0 : Str) (substr_1 : Str) {r : Int} (hS : Sh.strings_Count s_0 substr_1 = some r) :
    Ct Tryd.prog 121 [str s_0, str substr_1] Mo.tt (Ow.emp) (X := Unit) (fun _ => i64 r) (fun _ => True) (fun _ => Mo.tt) (fun _ => Ow.emp) := by
  refine Ct.of Tryd.func121 rfl (by kernel_rfl) Tryd.ntmps121 (by simp) fun c => ?_
  unfold Sh.strings_Count at hS
  refine VC.seq ?_
  refine VC.region ?_
  refine VL.q (q_assign rfl) (by decide) ?_
  refine VL.to (fun _ _ h => h) ?_
  refine VC.seq ?_
  refine VC.seq ?_
  refine VC.region ?_
  refine VL.q (q_move rfl) (by decide) ?_
  refine VL.q (q_slen Tryd.underlying9 rfl) (by decide) ?_
  refine VL.q (q_eql rfl rfl) (by decide) ?_
  refine VL.to (fun _ _ h => h) ?_
  refine VC.cond_dec rfl (fun h9 => ?_) (fun h9 => ?_)
  ·
    replace hS := it_t h9 hS
    refine VC.seq ?_
    refine VC.region ?_
    refine VL.q (q_move rfl) (by decide) ?_
    obtain ⟨y11_1, ey11_1, hS⟩ := bd_s hS
    refine VL.q (q_call (unicode_utf8_RuneCountInString_ct s_0 ey11_1) rfl (fun _ _ => rfl)) (by decide) ?_
    obtain ⟨b12, hS⟩ := gd_s hS
    refine VL.q (q_add rfl rfl b12) (by decide) ?_
    refine VL.q (q_assign rfl) (by decide) ?_
    refine VL.to (fun _ _ h => h) ?_
    cases hS
    exact VC.ret (fin1 (.inr rfl) rfl rfl () rfl trivial (fun _ _ => trivial) (fun _ _ => trivial))
  ·
    replace hS := it_f h9 hS
    refine VC.skip_to (fun _ _ h => h) ?_
    refine VC.seq ?_
    refine VC.seq ?_
    refine VC.region ?_
    refine VL.q (q_move rfl) (by decide) ?_
    refine VL.q (q_slen Tryd.underlying9 rfl) (by decide) ?_
    refine VL.q (q_eql rfl rfl) (by decide) ?_
    refine VL.to (fun _ _ h => h) ?_
    refine VC.cond_dec rfl (fun h15 => ?_) (fun h15 => ?_)
    ·
      replace hS := it_t h15 hS
      refine VC.seq ?_
      refine VC.region ?_
      refine VL.q (q_move rfl) (by decide) ?_
      refine VL.q (q_move rfl) (by decide) ?_
      obtain ⟨z18_2, nz18_2, hz18_2, hS⟩ := at_s hS
      refine VL.q (q_sidx Tryd.underlying9 rfl rfl nz18_2 hz18_2) (by decide) ?_
      refine VL.q (q_extern Tryd.func149 rfl rfl (by kernel_rfl) (by kernel_rfl) rfl (fun w => x_cntS s_0 (z18_2.toNat : Int) w)) (by decide) ?_
      refine VL.q (q_assign rfl) (by decide) ?_
      refine VL.to (fun _ _ h => h) ?_
      refine VC.keep [4] rfl ?_
      cases hS
      exact VC.ret (fin1 (.inr rfl) rfl rfl () rfl trivial (fun _ _ => trivial) (fun _ _ => trivial))
    ·
      replace hS := it_f h15 hS
      refine VC.skip_to (fun _ _ h => h) ?_
      refine VC.seq ?_
      refine VC.region ?_
      refine VL.q (q_assign rfl) (by decide) ?_
      refine VL.to (fun _ _ h => h) ?_
      refine VC.block ?_
      refine VC.iter (S := Str × Int) (fun sg => (sg.1, sg.2)) (fun sg => [(0, str sg.1), (1, str substr_1), (5, i64 sg.2)]) (fun sg => Mo.tt) (fun sg => Ow.emp) (s_0, 0) [0, 1, 5] hS rfl ?_
      clear hS
      rintro ⟨s0_3, n5_4⟩ m1 y1 hS hK1
      show VC _ _ _ _ _ [(0, str s0_3), (1, str substr_1), (5, i64 n5_4)] (Mo.and Mo.tt _) (Ow.emp)
      refine VC.block ?_
      refine VC.seq ?_
      refine VC.region ?_
      refine VL.q (q_move rfl) (by decide) ?_
      refine VL.q (q_move rfl) (by decide) ?_
      obtain ⟨y22_5, ey22_5, hS⟩ := bd_s hS
      refine VL.q (q_call (strings_Index_ct s0_3 substr_1 ey22_5) rfl (fun _ _ => rfl)) (by decide) ?_
      refine VL.q (q_assign rfl) (by decide) ?_
      refine VL.to (fun _ _ h => h) ?_
      refine VC.seq ?_
      refine VC.seq ?_
      refine VC.region ?_
      refine VL.q (q_move rfl) (by decide) ?_
      refine VL.q (q_eql rfl rfl) (by decide) ?_
      refine VL.to (fun _ _ h => h) ?_
      refine VC.cond_dec rfl (fun h24 => ?_) (fun h24 => ?_)
      ·
        replace hS := it_t h24 hS
        refine VC.seq ?_
        refine VC.region ?_
        refine VL.q (q_move rfl) (by decide) ?_
        refine VL.q (q_assign rfl) (by decide) ?_
        refine VL.to (fun _ _ h => h) ?_
        refine VC.keep [4] rfl ?_
        replace hS := up2 hS hK1
        cases hS
        exact VC.ret (fin1 (.inr rfl) rfl rfl () rfl trivial (fun _ _ => trivial) (fun _ _ => trivial))
      ·
        replace hS := it_f h24 hS
        refine VC.skip_to (fun _ _ h => h) ?_
        refine VC.seq ?_
        refine VC.region ?_
        refine VL.q (q_move rfl) (by decide) ?_
        obtain ⟨b27, hS⟩ := gd_s hS
        refine VL.q (q_add rfl rfl b27) (by decide) ?_
        refine VL.q (q_assign rfl) (by decide) ?_
        refine VL.to (fun _ _ h => h) ?_
        refine VC.keep [0, 1, 5, 6] rfl ?_
        refine VC.region ?_
        refine VL.q (q_move rfl) (by decide) ?_
        refine VL.q (q_move rfl) (by decide) ?_
        refine VL.q (q_move rfl) (by decide) ?_
        refine VL.q (q_slen Tryd.underlying9 rfl) (by decide) ?_
        obtain ⟨b32, hS⟩ := gd_s hS
        refine VL.q (q_add rfl rfl b32) (by decide) ?_
        obtain ⟨b33, hS⟩ := gd_s hS
        obtain ⟨y33_6, ey33_6, hS⟩ := lt_s hS
        refine VL.q (q_sfromE Tryd.underlying9 rfl rfl b33.1 b33.2 ey33_6) (by decide) ?_
        refine VL.q (q_assign rfl) (by decide) ?_
        refine VL.rnd (y33_6, (n5_4 + 1)) [0, 1, 5] (fun _ _ h => h) (go2 hS hK1) rfl

set_option maxHeartbeats 4000000 in
set_option maxRecDepth 100000 in
theorem strings_genSplit_ct (a_0 : Str) (a_1 : Str) (a_2 : Int) (a_3 : Int) {r : List Str} (hS : Sh.strings_genSplit a_0 a_1 a_2 a_3 = some r) :
    Ct Tryd.prog 85 [str a_0, str a_1, i64 a_2, i64 a_3] Mo.tt (Ow.emp) (X := Sv Str) (fun x => x.val) (fun x => r = x.l) (fun x => x.ok) (fun x => Ow.emp) := by
  refine Ct.of Tryd.func85 rfl (by kernel_rfl) Tryd.ntmps85 (by simp) fun c => ?_
  unfold Sh.strings_genSplit at hS
  refine VC.seq ?_
  refine VC.region ?_
  refine VL.q (q_assign rfl) (by decide) ?_
  refine VL.to (fun _ _ h => h) ?_
  refine VC.seq ?_
  refine VC.seq ?_
  refine VC.region ?_
  refine VL.q (q_move rfl) (by decide) ?_
  refine VL.q (q_eql rfl rfl) (by decide) ?_
  refine VL.to (fun _ _ h => h) ?_
  refine VC.cond_dec rfl (fun h13 => ?_) (fun h13 => ?_)
  ·
    replace hS := it_t h13 hS
    refine VC.seq ?_
    refine VC.region ?_
    refine VL.q (q_assign rfl) (by decide) ?_
    refine VL.to (fun _ _ h => h) ?_
    cases hS
    exact VC.ret (fin1 (.inr rfl) rfl rfl ⟨none, 0, []⟩ rfl rfl (by (try dsimp only); exact InM.out) (fun _ _ => trivial))
  ·
    replace hS := it_f h13 hS
    refine VC.skip_to (fun _ _ h => h) ?_
    refine VC.seq ?_
    refine VC.seq ?_
    refine VC.region ?_
    refine VL.q (q_move rfl) (by decide) ?_
    refine VL.q (q_seq rfl rfl) (by decide) ?_
    refine VL.to (fun _ _ h => h) ?_
    refine VC.cond_dec rfl (fun h15 => ?_) (fun h15 => ?_)
    ·
      replace hS := it_t h15 hS
      refine VC.seq ?_
      refine VC.region ?_
      refine VL.q (q_move rfl) (by decide) ?_
      refine VL.q (q_move rfl) (by decide) ?_
      obtain ⟨y18_1, ey18_1, hS⟩ := bd_s hS
      refine VL.callO (strings_explode_ct a_0 a_3 ey18_1) rfl (by decide) ?_
      rintro q18_1_0 rfl
      try dsimp only
      refine VL.q (q_assign rfl) (by decide) ?_
      refine VL.to (fun _ _ h => h) ?_
      refine VC.keep [8] rfl ?_
      refine VC.shut q18_1_0 9 (fun _ _ _ _ => trivial) ?_
      cases hS
      exact VC.ret (fin1 (.inr rfl) rfl rfl q18_1_0 rfl rfl (by (try dsimp only); exact InM.out) (fun _ _ => trivial))
    ·
      replace hS := it_f h15 hS
      refine VC.skip_to (fun _ _ h => h) ?_
      refine VC.cutJ (S := Int) (fun (x3_2 : Int) => x3_2) (fun (x3_2 : Int) => [(0, str a_0), (1, str a_1), (2, i64 a_2), (3, i64 x3_2)]) (fun (x3_2 : Int) => Mo.tt) (fun (x3_2 : Int) => Ow.emp) hS ?_ ?_
      · -- up to where ways meet
        clear hS
        intro k3 hS
        refine VC.seq ?_
        refine VC.region ?_
        refine VL.q (q_move rfl) (by decide) ?_
        refine VL.q (q_lss rfl rfl) (by decide) ?_
        refine VL.to (fun _ _ h => h) ?_
        refine VC.cond_dec rfl (fun h20 => ?_) (fun h20 => ?_)
        ·
          replace hS := it_t h20 hS
          refine VC.region ?_
          refine VL.q (q_move rfl) (by decide) ?_
          refine VL.q (q_move rfl) (by decide) ?_
          obtain ⟨y23_4, ey23_4, hS⟩ := bd_s hS
          refine VL.q (q_call (strings_Count_ct a_0 a_1 ey23_4) rfl (fun _ _ => rfl)) (by decide) ?_
          obtain ⟨b24, hS⟩ := gd_s hS
          refine VL.q (q_add rfl rfl b24) (by decide) ?_
          refine VL.q (q_assign rfl) (by decide) ?_
          refine VL.mt (y23_4 + 1) [0, 1, 2, 3] (fun _ _ h => h) hS rfl
        ·
          replace hS := it_f h20 hS
          refine VC.skip_mt a_3 [0, 1, 2, 3] (fun _ _ h => h) hS rfl
      · -- from there
        clear hS
        rintro x3_2 hS
        show VC _ _ _ _ _ [(0, str a_0), (1, str a_1), (2, i64 a_2), (3, i64 x3_2)] (Mo.and Mo.tt _) (Ow.emp)
        refine VC.seq ?_
        refine VC.region ?_
        refine VL.q (q_move rfl) (by decide) ?_
        refine VL.q (q_move rfl) (by decide) ?_
        refine VL.q (q_slen Tryd.underlying9 rfl) (by decide) ?_
        obtain ⟨b28, hS⟩ := gd_s hS
        refine VL.q (q_add rfl rfl b28) (by decide) ?_
        refine VL.q (q_min rfl) (by decide) ?_
        refine VL.q (q_assign rfl) (by decide) ?_
        refine VL.to (fun _ _ h => h) ?_
        refine VC.seq ?_
        refine VC.region ?_
        refine VL.q (q_move rfl) (by decide) ?_
        obtain ⟨b31, hS⟩ := gd_s hS
        refine VL.make (α := Str) (z := []) Tryd.underlying38 gmk9 (by decide) rfl rfl b31.1 (Int.le_refl _) (by omega) (by omega) (by decide) (fun s31_5 hs31_5 => ?_)
        replace hS := lt_to hs31_5 hS
        refine VL.q (q_assign rfl) (by decide) ?_
        refine VL.to (fun _ _ h => h) ?_
        refine VC.keep [0, 1, 2, 3, 9] rfl ?_
        refine VC.seq ?_
        refine VC.region ?_
        refine VL.q (q_move rfl) (by decide) ?_
        obtain ⟨b33, hS⟩ := gd_s hS
        refine VL.q (q_sub rfl rfl b33) (by decide) ?_
        refine VL.q (q_assign rfl) (by decide) ?_
        refine VL.to (fun _ _ h => h) ?_
        refine VC.seq ?_
        refine VC.region ?_
        refine VL.q (q_assign rfl) (by decide) ?_
        refine VL.to (fun _ _ h => h) ?_
        refine VC.cutJ (S := Str × Sv Str × Int) (fun sg => (sg.1, sg.2.1.l, sg.2.2)) (fun sg => [(0, str sg.1), (9, sg.2.1.val), (10, i64 sg.2.2)]) (fun sg => Mo.tt) (fun sg => Ow.star (Sv.own sg.2.1 9) (Ow.emp)) hS ?_ ?_
        · -- up to where ways meet
          clear hS
          intro k10 hS
          refine VC.block ?_
          refine VC.iter (S := Str × Sv Str × Int) (fun sg => (sg.1, sg.2.1.l, sg.2.2)) (fun sg => [(0, str sg.1), (1, str a_1), (2, i64 a_2), (3, i64 ((min x3_2 ((a_0.length : Int) + 1)) - 1)), (9, sg.2.1.val), (10, i64 sg.2.2)]) (fun sg => Mo.tt) (fun sg => Ow.star (Sv.own sg.2.1 9) (Ow.emp)) (a_0, s31_5, 0) [0, 1, 2, 3, 9, 10] hS rfl ?_
          clear hS
          rintro ⟨x0_11, x9_12, x10_13⟩ m1 y1 hS hK1
          show VC _ _ _ _ _ [(0, str x0_11), (1, str a_1), (2, i64 a_2), (3, i64 ((min x3_2 ((a_0.length : Int) + 1)) - 1)), (9, x9_12.val), (10, i64 x10_13)] (Mo.and Mo.tt _) (Ow.star (Sv.own x9_12 9) (Ow.emp))
          refine VC.seq ?_
          refine VC.seq ?_
          refine VC.region ?_
          refine VL.q (q_move rfl) (by decide) ?_
          refine VL.q (q_move rfl) (by decide) ?_
          refine VL.q (q_lss rfl rfl) (by decide) ?_
          refine VL.to (fun _ _ h => h) ?_
          refine VC.cond_dec rfl (fun h36 => ?_) (fun h36 => ?_)
          ·
            replace hS := it_t h36 hS
            refine VC.skip_to (fun _ _ h => h) ?_
            refine VC.block ?_
            refine VC.seq ?_
            refine VC.region ?_
            refine VL.q (q_move rfl) (by decide) ?_
            refine VL.q (q_move rfl) (by decide) ?_
            obtain ⟨y39_14, ey39_14, hS⟩ := bd_s hS
            refine VL.q (q_call (strings_Index_ct x0_11 a_1 ey39_14) rfl (fun _ _ => rfl)) (by decide) ?_
            refine VL.q (q_assign rfl) (by decide) ?_
            refine VL.to (fun _ _ h => h) ?_
            refine VC.seq ?_
            refine VC.seq ?_
            refine VC.region ?_
            refine VL.q (q_move rfl) (by decide) ?_
            refine VL.q (q_lss rfl rfl) (by decide) ?_
            refine VL.to (fun _ _ h => h) ?_
            refine VC.keep [0, 1, 2, 3, 9, 10, 11, 41] rfl ?_
            refine VC.cond_dec rfl (fun h41 => ?_) (fun h41 => ?_)
            ·
              replace hS := it_t h41 hS
              replace hS := up2 hS hK1
              refine VC.exit_mt (x0_11, x9_12, x10_13) [0, 9, 10] (fun _ _ h => h) hS rfl
            ·
              replace hS := it_f h41 hS
              refine VC.skip_to (fun _ _ h => h) ?_
              refine VC.seq ?_
              refine VC.region ?_
              refine VL.q (q_move rfl) (by decide) ?_
              refine VL.q (q_move rfl) (by decide) ?_
              refine VL.q (q_move rfl) (by decide) ?_
              refine VL.q (q_move rfl) (by decide) ?_
              refine VL.q (q_move rfl) (by decide) ?_
              obtain ⟨b47, hS⟩ := gd_s hS
              refine VL.q (q_add rfl rfl b47) (by decide) ?_
              obtain ⟨b48, hS⟩ := gd_s hS
              obtain ⟨y48_15, ey48_15, hS⟩ := lt_s hS
              refine VL.q (q_stoE Tryd.underlying9 rfl rfl b48.1 b48.2 ey48_15) (by decide) ?_
              obtain ⟨z49_16, nz49_16, hz49_16, hS⟩ := at_s hS
              refine VL.q (q_ixo (s := x9_12) Tryd.underlying38 gsz9 rfl rfl nz49_16 (lt_of_get nz49_16 hz49_16)) (by decide) ?_
              refine VL.storeE (s := x9_12) (T := 9) (j := 0) (vc := [str y48_15]) (y48_15 : Str) (by decide) rfl rfl hz49_16 rfl gsz9 rfl rfl (Nat.le_of_ble_eq_true rfl) rfl (fun w17 hw17 haw17 hcw17 hvw17 hbw17 how17 => ?_)
              rw [← hvw17]
              replace hS := lt_to hw17 hS
              refine VL.to (fun _ _ h => h) ?_
              refine VC.keep [0, 1, 2, 3, 9, 10, 11] rfl ?_
              refine VC.seq ?_
              refine VC.region ?_
              refine VL.q (q_move rfl) (by decide) ?_
              refine VL.q (q_move rfl) (by decide) ?_
              refine VL.q (q_move rfl) (by decide) ?_
              refine VL.q (q_slen Tryd.underlying9 rfl) (by decide) ?_
              obtain ⟨b54, hS⟩ := gd_s hS
              refine VL.q (q_add rfl rfl b54) (by decide) ?_
              obtain ⟨b55, hS⟩ := gd_s hS
              obtain ⟨y55_19, ey55_19, hS⟩ := lt_s hS
              refine VL.q (q_sfromE Tryd.underlying9 rfl rfl b55.1 b55.2 ey55_19) (by decide) ?_
              refine VL.q (q_assign rfl) (by decide) ?_
              refine VL.to (fun _ _ h => h) ?_
              refine VC.keep [0, 1, 2, 3, 9, 10] rfl ?_
              refine VC.region ?_
              refine VL.q (q_move rfl) (by decide) ?_
              obtain ⟨b57, hS⟩ := gd_s hS
              refine VL.q (q_add rfl rfl b57) (by decide) ?_
              refine VL.q (q_assign rfl) (by decide) ?_
              refine VL.rnd (y55_19, w17, (x10_13 + 1)) [0, 1, 2, 3, 9, 10] (fun _ _ h => h) (go2 hS hK1) rfl
          ·
            replace hS := it_f h36 hS
            replace hS := up2 hS hK1
            refine VC.exit_mt (x0_11, x9_12, x10_13) [0, 9, 10] (fun _ _ h => h) hS rfl
        · -- from there
          clear hS
          rintro ⟨x0_7, x9_8, x10_9⟩ hS
          show VC _ _ _ _ _ [(0, str x0_7), (9, x9_8.val), (10, i64 x10_9)] (Mo.and Mo.tt _) (Ow.star (Sv.own x9_8 9) (Ow.emp))
          refine VC.seq ?_
          refine VC.region ?_
          refine VL.q (q_move rfl) (by decide) ?_
          refine VL.q (q_move rfl) (by decide) ?_
          refine VL.q (q_move rfl) (by decide) ?_
          obtain ⟨z61_20, nz61_20, hz61_20, hS⟩ := at_s hS
          refine VL.q (q_ixo (s := x9_8) Tryd.underlying38 gsz9 rfl rfl nz61_20 (lt_of_get nz61_20 hz61_20)) (by decide) ?_
          refine VL.storeE (s := x9_8) (T := 9) (j := 0) (vc := [str x0_7]) (x0_7 : Str) (by decide) rfl rfl hz61_20 rfl gsz9 rfl rfl (Nat.le_of_ble_eq_true rfl) rfl (fun w21 hw21 haw21 hcw21 hvw21 hbw21 how21 => ?_)
          rw [← hvw21]
          replace hS := lt_to hw21 hS
          refine VL.to (fun _ _ h => h) ?_
          refine VC.seq ?_
          refine VC.region ?_
          refine VL.q (q_move rfl) (by decide) ?_
          refine VL.q (q_move rfl) (by decide) ?_
          obtain ⟨b64, hS⟩ := gd_s hS
          refine VL.q (q_add rfl rfl b64) (by decide) ?_
          refine VL.shut w21 9 (fun _ _ _ _ => trivial) ?_
          obtain ⟨b65, hS⟩ := gd_s hS
          refine VL.sto Tryd.underlying38 gsz9 rfl rfl b65.1 (b65.2) (by decide) fun s65_23 hs65_23 => ?_
          replace hS := lt_to hs65_23 hS
          refine VL.q (q_assign rfl) (by decide) ?_
          refine VL.to (fun _ _ h => h) ?_
          refine VC.keep [8] rfl ?_
          cases hS
          exact VC.ret (fin1 (.inr rfl) rfl rfl s65_23 rfl rfl (by (try dsimp only); exact InM.out) (fun _ _ => trivial))

set_option maxHeartbeats 4000000 in
set_option maxRecDepth 100000 in
theorem strings_Split_ct (s_0 : Str) (sep_1 : Str) {r : List Str} (hS : Sh.strings_Split s_0 sep_1 = some r) :
    Ct Tryd.prog 44 [str s_0, str sep_1] Mo.tt (Ow.emp) (X := Sv Str) (fun x => x.val) (fun x => r = x.l) (fun x => x.ok) (fun x => Ow.emp) := by
  refine Ct.of Tryd.func44 rfl (by kernel_rfl) Tryd.ntmps44 (by simp) fun c => ?_
  unfold Sh.strings_Split at hS
  refine VC.seq ?_
  refine VC.region ?_
  refine VL.q (q_assign rfl) (by decide) ?_
  refine VL.to (fun _ _ h => h) ?_
  refine VC.seq ?_
  refine VC.region ?_
  refine VL.q (q_move rfl) (by decide) ?_
  refine VL.q (q_move rfl) (by decide) ?_
  obtain ⟨y7_1, ey7_1, hS⟩ := bd_s hS
  refine VL.callF (strings_genSplit_ct s_0 sep_1 0 (-1) ey7_1) rfl (by decide) ?_
  rintro q7_1_0 rfl
  try dsimp only
  refine VL.q (q_assign rfl) (by decide) ?_
  refine VL.to (fun _ _ h => h) ?_
  cases hS
  exact VC.ret (fin1 (.inr rfl) rfl rfl q7_1_0 rfl rfl (by (try dsimp only); exact InM.out) (fun _ _ => trivial))

set_option maxHeartbeats 4000000 in
set_option maxRecDepth 100000 in
theorem path_good_ct (c_0 : Int) {r : Bool} (hS : Sh.path_good c_0 = some r) :
    Ct Tryd.prog 164 [.int .u8 c_0] Mo.tt (Ow.emp) (X := Unit) (fun _ => .bool r) (fun _ => True) (fun _ => Mo.tt) (fun _ => Ow.emp) := by
  refine Ct.of Tryd.func164 rfl (by kernel_rfl) Tryd.ntmps164 (by simp) fun c => ?_
  unfold Sh.path_good at hS
  refine VC.seq ?_
  refine VC.region ?_
  refine VL.q (q_assign rfl) (by decide) ?_
  refine VL.to (fun _ _ h => h) ?_
  refine VC.cutJ (S := Unit) (fun (_ : Unit) => ()) (fun (_ : Unit) => [(0, .int .u8 c_0)]) (fun (_ : Unit) => Mo.tt) (fun (_ : Unit) => Ow.emp) hS ?_ ?_
  · -- up to where ways meet
    clear hS
    intro k1 hS
    refine VC.seq ?_
    refine VC.region ?_
    refine VL.q (q_move rfl) (by decide) ?_
    refine VL.to (fun _ _ h => h) ?_
    refine VC.block ?_
    refine VC.cutJ (S := Unit) (fun (_ : Unit) => ()) (fun (_ : Unit) => []) (fun (_ : Unit) => Mo.tt) (fun (_ : Unit) => Ow.emp) hS ?_ ?_
    · -- up to where ways meet
      clear hS
      intro k2 hS
      refine VC.block ?_
      refine VC.block ?_
      refine VC.block ?_
      refine VC.seq ?_
      refine VC.seq ?_
      refine VC.seq ?_
      refine VC.region ?_
      refine VL.q (q_eql rfl rfl) (by decide) ?_
      refine VL.q (q_assign rfl) (by decide) ?_
      refine VL.to (fun _ _ h => h) ?_
      refine VC.cond_dec rfl (fun h4 => ?_) (fun h4 => ?_)
      ·
        replace hS := it_t h4 hS
        refine VC.exit_mt () [] (fun _ _ h => h) hS rfl
      ·
        replace hS := it_f h4 hS
        refine VC.skip_to (fun _ _ h => h) ?_
        refine VC.seq ?_
        refine VC.seq ?_
        refine VC.region ?_
        refine VL.q (q_eql rfl rfl) (by decide) ?_
        refine VL.q (q_assign rfl) (by decide) ?_
        refine VL.to (fun _ _ h => h) ?_
        refine VC.cond_dec rfl (fun h6 => ?_) (fun h6 => ?_)
        ·
          replace hS := it_t h6 hS
          refine VC.exit_mt () [] (fun _ _ h => h) hS rfl
        ·
          replace hS := it_f h6 hS
          refine VC.skip_to (fun _ _ h => h) ?_
          refine VC.seq ?_
          refine VC.region ?_
          refine VL.q (q_eql rfl rfl) (by decide) ?_
          refine VL.q (q_assign rfl) (by decide) ?_
          refine VL.to (fun _ _ h => h) ?_
          refine VC.cond_dec rfl (fun h8 => ?_) (fun h8 => ?_)
          ·
            replace hS := it_t h8 hS
            refine VC.exit_mt () [] (fun _ _ h => h) hS rfl
          ·
            replace hS := it_f h8 hS
            refine VC.skip_to (fun _ _ h => h) ?_
            refine VC.exit_mt () [0] (fun _ _ h => h) hS rfl
    · -- from there
      clear hS
      rintro _ hS
      show VC _ _ _ _ _ [] (Mo.and Mo.tt _) (Ow.emp)
      refine VC.seq ?_
      refine VC.seq ?_
      refine VC.region ?_
      refine VL.q (q_assign rfl) (by decide) ?_
      refine VL.to (fun _ _ h => h) ?_
      cases hS
      exact VC.ret (fin1 (.inr rfl) rfl rfl () rfl trivial (fun _ _ => trivial) (fun _ _ => trivial))
  · -- from there
    clear hS
    rintro _ hS
    show VC _ _ _ _ _ [(0, .int .u8 c_0)] (Mo.and Mo.tt _) (Ow.emp)
    refine VC.seq ?_
    refine VC.region ?_
    refine VL.q (q_move rfl) (by decide) ?_
    refine VL.q (q_geq rfl rfl) (by decide) ?_
    refine VL.q (q_move rfl) (by decide) ?_
    refine VL.split_dec 12 rfl (fun h12 => ?_) (fun h12 => ?_)
    ·
      replace hS := it_t h12 hS
      refine VL.gy rfl rfl (q_move rfl) (by decide) ?_
      refine VL.gy rfl rfl (q_leq rfl rfl) (by decide) ?_
      refine VL.q (q_pick_t rfl rfl) (by decide) ?_
      refine VL.q (q_move rfl) (by decide) ?_
      refine VL.split_dec 16 rfl (fun h16 => ?_) (fun h16 => ?_)
      ·
        replace hS := it_t h16 hS
        refine VL.gn rfl rfl rfl (by decide) ?_
        refine VL.gn rfl rfl rfl (by decide) ?_
        refine VL.gn rfl rfl rfl (by decide) ?_
        refine VL.gu rfl rfl (by decide) ?_
        refine VL.gu rfl rfl (by decide) ?_
        refine VL.gn rfl rfl rfl (by decide) ?_
        refine VL.q (q_pick_t rfl rfl) (by decide) ?_
        refine VL.q (q_assign rfl) (by decide) ?_
        refine VL.to (fun _ _ h => h) ?_
        refine VC.keep [2] rfl ?_
        cases hS
        exact VC.ret (fin1 (.inr rfl) rfl rfl () rfl trivial (fun _ _ => trivial) (fun _ _ => trivial))
      ·
        replace hS := it_f h16 hS
        refine VL.gy rfl rfl (q_move rfl) (by decide) ?_
        refine VL.gy rfl rfl (q_geq rfl rfl) (by decide) ?_
        refine VL.gy rfl rfl (q_move rfl) (by decide) ?_
        refine VL.split_dec 19 rfl (fun h19 => ?_) (fun h19 => ?_)
        ·
          replace hS := it_t h19 hS
          refine VL.gy rfl rfl (q_move rfl) (by decide) ?_
          refine VL.gy rfl rfl (q_leq rfl rfl) (by decide) ?_
          refine VL.gy rfl rfl (q_pick_t rfl rfl) (by decide) ?_
          refine VL.q (q_pick_f rfl rfl) (by decide) ?_
          refine VL.q (q_assign rfl) (by decide) ?_
          refine VL.to (fun _ _ h => h) ?_
          refine VC.keep [2] rfl ?_
          cases hS
          exact VC.ret (fin1 (.inr rfl) rfl rfl () rfl trivial (fun _ _ => trivial) (fun _ _ => trivial))
        ·
          replace hS := it_f h19 hS
          refine VL.gn rfl rfl rfl (by decide) ?_
          refine VL.gn rfl rfl rfl (by decide) ?_
          refine VL.gy rfl rfl (q_pick_f rfl rfl) (by decide) ?_
          refine VL.q (q_pick_f rfl rfl) (by decide) ?_
          refine VL.q (q_assign rfl) (by decide) ?_
          refine VL.to (fun _ _ h => h) ?_
          refine VC.keep [2] rfl ?_
          cases hS
          exact VC.ret (fin1 (.inr rfl) rfl rfl () rfl trivial (fun _ _ => trivial) (fun _ _ => trivial))
    ·
      replace hS := it_f h12 hS
      refine VL.gn rfl rfl rfl (by decide) ?_
      refine VL.gn rfl rfl rfl (by decide) ?_
      refine VL.q (q_pick_f rfl rfl) (by decide) ?_
      refine VL.q (q_move rfl) (by decide) ?_
      refine VL.gy rfl rfl (q_move rfl) (by decide) ?_
      refine VL.gy rfl rfl (q_geq rfl rfl) (by decide) ?_
      refine VL.gy rfl rfl (q_move rfl) (by decide) ?_
      refine VL.split_dec 19 rfl (fun h19 => ?_) (fun h19 => ?_)
      ·
        replace hS := it_t h19 hS
        refine VL.gy rfl rfl (q_move rfl) (by decide) ?_
        refine VL.gy rfl rfl (q_leq rfl rfl) (by decide) ?_
        refine VL.gy rfl rfl (q_pick_t rfl rfl) (by decide) ?_
        refine VL.q (q_pick_f rfl rfl) (by decide) ?_
        refine VL.q (q_assign rfl) (by decide) ?_
        refine VL.to (fun _ _ h => h) ?_
        refine VC.keep [2] rfl ?_
        cases hS
        exact VC.ret (fin1 (.inr rfl) rfl rfl () rfl trivial (fun _ _ => trivial) (fun _ _ => trivial))
      ·
        replace hS := it_f h19 hS
        refine VL.gn rfl rfl rfl (by decide) ?_
        refine VL.gn rfl rfl rfl (by decide) ?_
        refine VL.gy rfl rfl (q_pick_f rfl rfl) (by decide) ?_
        refine VL.q (q_pick_f rfl rfl) (by decide) ?_
        refine VL.q (q_assign rfl) (by decide) ?_
        refine VL.to (fun _ _ h => h) ?_
        refine VC.keep [2] rfl ?_
        cases hS
        exact VC.ret (fin1 (.inr rfl) rfl rfl () rfl trivial (fun _ _ => trivial) (fun _ _ => trivial))

set_option maxHeartbeats 4000000 in
set_option maxRecDepth 100000 in
theorem path_part_ct (s_0 : Str) {r : Bool} (hS : Sh.path_part s_0 = some r) :
    Ct Tryd.prog 132 [str s_0] Mo.tt (Ow.emp) (X := Unit) (fun _ => .bool r) (fun _ => True) (fun _ => Mo.tt) (fun _ => Ow.emp) := by
  refine Ct.of Tryd.func132 rfl (by kernel_rfl) Tryd.ntmps132 (by simp) fun c => ?_
  unfold Sh.path_part at hS
  refine VC.seq ?_
  refine VC.region ?_
  refine VL.q (q_assign rfl) (by decide) ?_
  refine VL.to (fun _ _ h => h) ?_
  refine VC.seq ?_
  refine VC.cutJ (S := Bool) (fun (x14_1 : Bool) => x14_1) (fun (x14_1 : Bool) => [(0, str s_0), (14, .bool x14_1)]) (fun (x14_1 : Bool) => Mo.tt) (fun (x14_1 : Bool) => Ow.emp) hS ?_ ?_
  · -- up to where ways meet
    clear hS
    intro k2 hS
    refine VC.region ?_
    refine VL.q (q_move rfl) (by decide) ?_
    refine VL.q (q_seq rfl rfl) (by decide) ?_
    refine VL.q (q_move rfl) (by decide) ?_
    refine VL.split_dec 7 rfl (fun h7 => ?_) (fun h7 => ?_)
    ·
      replace hS := it_t h7 hS
      refine VL.gn rfl rfl rfl (by decide) ?_
      refine VL.gn rfl rfl rfl (by decide) ?_
      refine VL.q (q_pick_t rfl rfl) (by decide) ?_
      refine VL.q (q_move rfl) (by decide) ?_
      refine VL.gn rfl rfl rfl (by decide) ?_
      refine VL.gn rfl rfl rfl (by decide) ?_
      refine VL.q (q_pick_t rfl rfl) (by decide) ?_
      refine VL.mt true [0, 14] (fun _ _ h => h) hS rfl
    ·
      replace hS := it_f h7 hS
      refine VL.gy rfl rfl (q_move rfl) (by decide) ?_
      refine VL.gy rfl rfl (q_seq rfl rfl) (by decide) ?_
      refine VL.q (q_pick_f rfl rfl) (by decide) ?_
      refine VL.q (q_move rfl) (by decide) ?_
      refine VL.split_dec 11 rfl (fun h11 => ?_) (fun h11 => ?_)
      ·
        replace hS := it_t h11 hS
        refine VL.gn rfl rfl rfl (by decide) ?_
        refine VL.gn rfl rfl rfl (by decide) ?_
        refine VL.q (q_pick_t rfl rfl) (by decide) ?_
        refine VL.mt true [0, 14] (fun _ _ h => h) hS rfl
      ·
        replace hS := it_f h11 hS
        refine VL.gy rfl rfl (q_move rfl) (by decide) ?_
        refine VL.gy rfl rfl (q_seq rfl rfl) (by decide) ?_
        refine VL.q (q_pick_f rfl rfl) (by decide) ?_
        refine VL.mt (decide (s_0 = [46, 46])) [0, 14] (fun _ _ h => h) hS rfl
  · -- from there
    clear hS
    rintro x14_1 hS
    show VC _ _ _ _ _ [(0, str s_0), (14, .bool x14_1)] (Mo.and Mo.tt _) (Ow.emp)
    refine VC.cond rfl (fun h14 => ?_) (fun h14 => ?_)
    ·
      replace hS := it_t h14 hS
      refine VC.seq ?_
      refine VC.region ?_
      refine VL.q (q_assign rfl) (by decide) ?_
      refine VL.to (fun _ _ h => h) ?_
      cases hS
      exact VC.ret (fin1 (.inr rfl) rfl rfl () rfl trivial (fun _ _ => trivial) (fun _ _ => trivial))
    ·
      replace hS := it_b h14 hS
      refine VC.skip_to (fun _ _ h => h) ?_
      refine VC.seq ?_
      refine VC.seq ?_
      refine VC.region ?_
      refine VL.q (q_move rfl) (by decide) ?_
      obtain ⟨b16, hS⟩ := gd_s hS
      refine VL.s2b Tryd.underlying9 Tryd.underlying23 Tryd.underlying5 rfl b16 (by decide) fun s16_3 hs16_3 => ?_
      replace hS := lt_to hs16_3 hS
      refine VL.q (q_ln (s := s16_3) Tryd.underlying23 rfl) (by decide) ?_
      refine VL.q (q_move rfl) (by decide) ?_
      refine VL.to (fun _ _ h => h) ?_
      refine VC.block ?_
      refine VC.iter (S := Int) (fun (x18_5 : Int) => x18_5) (fun (x18_5 : Int) => [(16, s16_3.val), (17, i64 (s16_3.l.length : Int)), (18, i64 x18_5)]) (fun (x18_5 : Int) => Mo.tt) (fun (x18_5 : Int) => Ow.emp) 0 [16, 17, 18] hS rfl ?_
      clear hS
      rintro x18_5 m1 y1 hS hK1
      show VC _ _ _ _ _ [(16, s16_3.val), (17, i64 (s16_3.l.length : Int)), (18, i64 x18_5)] (Mo.and Mo.tt _) (Ow.emp)
      refine VC.seq ?_
      refine VC.region ?_
      refine VL.q (q_lss rfl rfl) (by decide) ?_
      refine VL.to (fun _ _ h => h) ?_
      refine VC.seq ?_
      refine VC.cond_dec rfl (fun h19 => ?_) (fun h19 => ?_)
      ·
        replace hS := it_t h19 hS
        refine VC.skip_to (fun _ _ h => h) ?_
        refine VC.seq ?_
        refine VC.block ?_
        refine VC.seq ?_
        refine VC.region ?_
        obtain ⟨z20_6, nz20_6, hz20_6, hS⟩ := at_s hS
        refine VL.q (q_ixm (s := s16_3) Tryd.underlying23 gsz5 rfl rfl nz20_6 (lt_of_get nz20_6 hz20_6)) (by decide) ?_
        refine VL.q (q_el (s := s16_3) gone5 rfl hz20_6 rfl) (by decide) ?_
        refine VL.q (q_assign rfl) (by decide) ?_
        refine VL.to (fun _ _ h => h) ?_
        refine VC.seq ?_
        refine VC.region ?_
        refine VL.q (q_move rfl) (by decide) ?_
        obtain ⟨y23_7, ey23_7, hS⟩ := bd_s hS
        refine VL.q (q_call (path_good_ct (z20_6.toNat : Int) ey23_7) rfl (fun _ _ => rfl)) (by decide) ?_
        refine VL.q (q_not rfl) (by decide) ?_
        refine VL.to (fun _ _ h => h) ?_
        refine VC.cond rfl (fun h24 => ?_) (fun h24 => ?_)
        ·
          replace hS := it_t h24 hS
          refine VC.seq ?_
          refine VC.region ?_
          refine VL.q (q_assign rfl) (by decide) ?_
          refine VL.to (fun _ _ h => h) ?_
          refine VC.keep [2] rfl ?_
          replace hS := up2 hS hK1
          cases hS
          exact VC.ret (fin1 (.inr rfl) rfl rfl () rfl trivial (fun _ _ => trivial) (fun _ _ => trivial))
        ·
          replace hS := it_b h24 hS
          refine VC.skip_to (fun _ _ h => h) ?_
          refine VC.region ?_
          obtain ⟨b25, hS⟩ := gd_s hS
          refine VL.q (q_add rfl rfl b25) (by decide) ?_
          refine VL.q (q_move rfl) (by decide) ?_
          refine VL.rnd (x18_5 + 1) [16, 17, 18] (fun _ _ h => h) (go2 hS hK1) rfl
      ·
        replace hS := it_f h19 hS
        replace hS := up2 hS hK1
        refine VC.exit_to (fun _ _ h => h) ?_
        refine VC.seq ?_
        refine VC.region ?_
        refine VL.q (q_assign rfl) (by decide) ?_
        refine VL.to (fun _ _ h => h) ?_
        cases hS
        exact VC.ret (fin1 (.inr rfl) rfl rfl () rfl trivial (fun _ _ => trivial) (fun _ _ => trivial))

set_option maxHeartbeats 4000000 in
set_option maxRecDepth 100000 in
theorem path_Check_ct (p_0 : Str) {r : Int} (hS : Sh.path_Check p_0 = some r) :
    Ct Tryd.prog 97 [str p_0] Mo.tt (Ow.emp) (X := Unit) (fun _ => i64 r) (fun _ => True) (fun _ => Mo.tt) (fun _ => Ow.emp) := by
  refine Ct.of Tryd.func97 rfl (by kernel_rfl) Tryd.ntmps97 (by simp) fun c => ?_
  unfold Sh.path_Check at hS
  refine VC.seq ?_
  refine VC.region ?_
  refine VL.q (q_assign rfl) (by decide) ?_
  refine VL.to (fun _ _ h => h) ?_
  refine VC.seq ?_
  refine VC.seq ?_
  refine VC.region ?_
  refine VL.q (q_move rfl) (by decide) ?_
  refine VL.q (q_slen Tryd.underlying9 rfl) (by decide) ?_
  refine VL.q (q_gtr rfl rfl) (by decide) ?_
  refine VL.to (fun _ _ h => h) ?_
  refine VC.cond_dec rfl (fun h7 => ?_) (fun h7 => ?_)
  ·
    replace hS := it_t h7 hS
    refine VC.seq ?_
    refine VC.region ?_
    refine VL.q (q_assign rfl) (by decide) ?_
    refine VL.to (fun _ _ h => h) ?_
    cases hS
    exact VC.ret (fin1 (.inr rfl) rfl rfl () rfl trivial (fun _ _ => trivial) (fun _ _ => trivial))
  ·
    replace hS := it_f h7 hS
    refine VC.skip_to (fun _ _ h => h) ?_
    refine VC.seq ?_
    refine VC.seq ?_
    refine VC.region ?_
    refine VL.q (q_move rfl) (by decide) ?_
    obtain ⟨y9_1, ey9_1, hS⟩ := bd_s hS
    refine VL.callF (strings_Split_ct p_0 [47] ey9_1) rfl (by decide) ?_
    rintro q9_1_0 rfl
    try dsimp only
    refine VL.q (q_ln (s := q9_1_0) Tryd.underlying38 rfl) (by decide) ?_
    refine VL.q (q_move rfl) (by decide) ?_
    refine VL.to (fun _ _ h => h) ?_
    refine VC.block ?_
    refine VC.iter (S := Int) (fun (x11_2 : Int) => x11_2) (fun (x11_2 : Int) => [(9, q9_1_0.val), (10, i64 (q9_1_0.l.length : Int)), (11, i64 x11_2)]) (fun (x11_2 : Int) => Mo.tt) (fun (x11_2 : Int) => Ow.emp) 0 [9, 10, 11] hS rfl ?_
    clear hS
    rintro x11_2 m1 y1 hS hK1
    show VC _ _ _ _ _ [(9, q9_1_0.val), (10, i64 (q9_1_0.l.length : Int)), (11, i64 x11_2)] (Mo.and Mo.tt _) (Ow.emp)
    refine VC.seq ?_
    refine VC.region ?_
    refine VL.q (q_lss rfl rfl) (by decide) ?_
    refine VL.to (fun _ _ h => h) ?_
    refine VC.seq ?_
    refine VC.cond_dec rfl (fun h12 => ?_) (fun h12 => ?_)
    ·
      replace hS := it_t h12 hS
      refine VC.skip_to (fun _ _ h => h) ?_
      refine VC.seq ?_
      refine VC.block ?_
      refine VC.seq ?_
      refine VC.region ?_
      obtain ⟨z13_3, nz13_3, hz13_3, hS⟩ := at_s hS
      refine VL.q (q_ixm (s := q9_1_0) Tryd.underlying38 gsz9 rfl rfl nz13_3 (lt_of_get nz13_3 hz13_3)) (by decide) ?_
      refine VL.q (q_el (s := q9_1_0) gone9 rfl hz13_3 rfl) (by decide) ?_
      refine VL.q (q_assign rfl) (by decide) ?_
      refine VL.to (fun _ _ h => h) ?_
      refine VC.seq ?_
      refine VC.region ?_
      refine VL.q (q_move rfl) (by decide) ?_
      obtain ⟨y16_4, ey16_4, hS⟩ := bd_s hS
      refine VL.q (q_call (path_part_ct z13_3 ey16_4) rfl (fun _ _ => rfl)) (by decide) ?_
      refine VL.q (q_not rfl) (by decide) ?_
      refine VL.to (fun _ _ h => h) ?_
      refine VC.cond rfl (fun h17 => ?_) (fun h17 => ?_)
      ·
        replace hS := it_t h17 hS
        refine VC.seq ?_
        refine VC.region ?_
        refine VL.q (q_assign rfl) (by decide) ?_
        refine VL.to (fun _ _ h => h) ?_
        refine VC.keep [2] rfl ?_
        replace hS := up2 hS hK1
        cases hS
        exact VC.ret (fin1 (.inr rfl) rfl rfl () rfl trivial (fun _ _ => trivial) (fun _ _ => trivial))
      ·
        replace hS := it_b h17 hS
        refine VC.skip_to (fun _ _ h => h) ?_
        refine VC.region ?_
        obtain ⟨b18, hS⟩ := gd_s hS
        refine VL.q (q_add rfl rfl b18) (by decide) ?_
        refine VL.q (q_move rfl) (by decide) ?_
        refine VL.rnd (x11_2 + 1) [9, 10, 11] (fun _ _ h => h) (go2 hS hK1) rfl
    ·
      replace hS := it_f h12 hS
      replace hS := up2 hS hK1
      refine VC.exit_to (fun _ _ h => h) ?_
      refine VC.seq ?_
      refine VC.region ?_
      refine VL.q (q_assign rfl) (by decide) ?_
      refine VL.to (fun _ _ h => h) ?_
      cases hS
      exact VC.ret (fin1 (.inr rfl) rfl rfl () rfl trivial (fun _ _ => trivial) (fun _ _ => trivial))

set_option maxHeartbeats 4000000 in
set_option maxRecDepth 100000 in
theorem internal_stringslite_HasPrefix_ct (s_0 : Str) (prefix_1 : Str) {r : Bool} (hS : Sh.internal_stringslite_HasPrefix s_0 prefix_1 = some r) :
    Ct Tryd.prog 166 [str s_0, str prefix_1] Mo.tt (Ow.emp) (X := Unit) (fun _ => .bool r) (fun _ => True) (fun _ => Mo.tt) (fun _ => Ow.emp) := by
  refine Ct.of Tryd.func166 rfl (by kernel_rfl) Tryd.ntmps166 (by simp) fun c => ?_
  unfold Sh.internal_stringslite_HasPrefix at hS
  refine VC.seq ?_
  refine VC.region ?_
  refine VL.q (q_assign rfl) (by decide) ?_
  refine VL.to (fun _ _ h => h) ?_
  refine VC.seq ?_
  refine VC.region ?_
  refine VL.q (q_move rfl) (by decide) ?_
  refine VL.q (q_slen Tryd.underlying9 rfl) (by decide) ?_
  refine VL.q (q_move rfl) (by decide) ?_
  refine VL.q (q_slen Tryd.underlying9 rfl) (by decide) ?_
  refine VL.q (q_geq rfl rfl) (by decide) ?_
  refine VL.q (q_move rfl) (by decide) ?_
  refine VL.split_dec 10 rfl (fun h10 => ?_) (fun h10 => ?_)
  ·
    replace hS := it_t h10 hS
    refine VL.gy rfl rfl (q_move rfl) (by decide) ?_
    refine VL.gy rfl rfl (q_move rfl) (by decide) ?_
    refine VL.gy rfl rfl (q_slen Tryd.underlying9 rfl) (by decide) ?_
    obtain ⟨b14, hS⟩ := gd_s hS
    obtain ⟨y14_1, ey14_1, hS⟩ := lt_s hS
    refine VL.gy rfl rfl (q_stoE Tryd.underlying9 rfl rfl b14.1 b14.2 ey14_1) (by decide) ?_
    refine VL.gy rfl rfl (q_move rfl) (by decide) ?_
    refine VL.gy rfl rfl (q_seq rfl rfl) (by decide) ?_
    refine VL.q (q_pick_t rfl rfl) (by decide) ?_
    refine VL.q (q_assign rfl) (by decide) ?_
    refine VL.to (fun _ _ h => h) ?_
    refine VC.keep [4] rfl ?_
    cases hS
    exact VC.ret (fin1 (.inr rfl) rfl rfl () rfl trivial (fun _ _ => trivial) (fun _ _ => trivial))
  ·
    replace hS := it_f h10 hS
    refine VL.gn rfl rfl rfl (by decide) ?_
    refine VL.gn rfl rfl rfl (by decide) ?_
    refine VL.gn rfl rfl rfl (by decide) ?_
    refine VL.gn rfl rfl rfl (by decide) ?_
    refine VL.gn rfl rfl rfl (by decide) ?_
    refine VL.gn rfl rfl rfl (by decide) ?_
    refine VL.q (q_pick_f rfl rfl) (by decide) ?_
    refine VL.q (q_assign rfl) (by decide) ?_
    refine VL.to (fun _ _ h => h) ?_
    refine VC.keep [4] rfl ?_
    cases hS
    exact VC.ret (fin1 (.inr rfl) rfl rfl () rfl trivial (fun _ _ => trivial) (fun _ _ => trivial))

set_option maxHeartbeats 4000000 in
set_option maxRecDepth 100000 in
theorem strings_HasPrefix_ct (s_0 : Str) (prefix_1 : Str) {r : Bool} (hS : Sh.strings_HasPrefix s_0 prefix_1 = some r) :
    Ct Tryd.prog 134 [str s_0, str prefix_1] Mo.tt (Ow.emp) (X := Unit) (fun _ => .bool r) (fun _ => True) (fun _ => Mo.tt) (fun _ => Ow.emp) := by
  refine Ct.of Tryd.func134 rfl (by kernel_rfl) Tryd.ntmps134 (by simp) fun c => ?_
  unfold Sh.strings_HasPrefix at hS
  refine VC.seq ?_
  refine VC.region ?_
  refine VL.q (q_assign rfl) (by decide) ?_
  refine VL.to (fun _ _ h => h) ?_
  refine VC.seq ?_
  refine VC.region ?_
  refine VL.q (q_move rfl) (by decide) ?_
  refine VL.q (q_move rfl) (by decide) ?_
  obtain ⟨y7_1, ey7_1, hS⟩ := bd_s hS
  refine VL.q (q_call (internal_stringslite_HasPrefix_ct s_0 prefix_1 ey7_1) rfl (fun _ _ => rfl)) (by decide) ?_
  refine VL.q (q_assign rfl) (by decide) ?_
  refine VL.to (fun _ _ h => h) ?_
  cases hS
  exact VC.ret (fin1 (.inr rfl) rfl rfl () rfl trivial (fun _ _ => trivial) (fun _ _ => trivial))

set_option maxHeartbeats 4000000 in
set_option maxRecDepth 100000 in
theorem path_Under_ct (p_0 : Str) (dir_1 : Str) {r : Bool} (hS : Sh.path_Under p_0 dir_1 = some r) :
    Ct Tryd.prog 104 [str p_0, str dir_1] Mo.tt (Ow.emp) (X := Unit) (fun _ => .bool r) (fun _ => True) (fun _ => Mo.tt) (fun _ => Ow.emp) := by
  refine Ct.of Tryd.func104 rfl (by kernel_rfl) Tryd.ntmps104 (by simp) fun c => ?_
  unfold Sh.path_Under at hS
  refine VC.seq ?_
  refine VC.region ?_
  refine VL.q (q_assign rfl) (by decide) ?_
  refine VL.to (fun _ _ h => h) ?_
  refine VC.seq ?_
  refine VC.seq ?_
  refine VC.region ?_
  refine VL.q (q_move rfl) (by decide) ?_
  refine VL.q (q_seq rfl rfl) (by decide) ?_
  refine VL.to (fun _ _ h => h) ?_
  refine VC.cond_dec rfl (fun h6 => ?_) (fun h6 => ?_)
  ·
    replace hS := it_t h6 hS
    refine VC.seq ?_
    refine VC.region ?_
    refine VL.q (q_move rfl) (by decide) ?_
    refine VL.q (q_sne rfl rfl) (by decide) ?_
    refine VL.q (q_assign rfl) (by decide) ?_
    refine VL.to (fun _ _ h => h) ?_
    cases hS
    exact VC.ret (fin1 (.inr rfl) rfl rfl () rfl trivial (fun _ _ => trivial) (fun _ _ => trivial))
  ·
    replace hS := it_f h6 hS
    refine VC.skip_to (fun _ _ h => h) ?_
    refine VC.seq ?_
    refine VC.region ?_
    refine VL.q (q_move rfl) (by decide) ?_
    refine VL.q (q_slen Tryd.underlying9 rfl) (by decide) ?_
    refine VL.q (q_move rfl) (by decide) ?_
    refine VL.q (q_slen Tryd.underlying9 rfl) (by decide) ?_
    obtain ⟨b13, hS⟩ := gd_s hS
    refine VL.q (q_add rfl rfl b13) (by decide) ?_
    refine VL.q (q_gtr rfl rfl) (by decide) ?_
    refine VL.q (q_move rfl) (by decide) ?_
    refine VL.split_dec 15 rfl (fun h15 => ?_) (fun h15 => ?_)
    ·
      replace hS := it_t h15 hS
      refine VL.gy rfl rfl (q_move rfl) (by decide) ?_
      refine VL.gy rfl rfl (q_move rfl) (by decide) ?_
      obtain ⟨b18, hS⟩ := gd_s hS
      obtain ⟨y18_1, ey18_1, hS⟩ := lt_s hS
      refine VL.gy rfl rfl (q_catE rfl rfl b18 ey18_1) (by decide) ?_
      obtain ⟨y19_2, ey19_2, hS⟩ := bd_s hS
      refine VL.gy rfl rfl (q_call (strings_HasPrefix_ct p_0 y18_1 ey19_2) rfl (fun _ _ => rfl)) (by decide) ?_
      refine VL.q (q_pick_t rfl rfl) (by decide) ?_
      refine VL.q (q_assign rfl) (by decide) ?_
      refine VL.to (fun _ _ h => h) ?_
      refine VC.keep [4] rfl ?_
      cases hS
      exact VC.ret (fin1 (.inr rfl) rfl rfl () rfl trivial (fun _ _ => trivial) (fun _ _ => trivial))
    ·
      replace hS := it_f h15 hS
      refine VL.gn rfl rfl rfl (by decide) ?_
      refine VL.gn rfl rfl rfl (by decide) ?_
      refine VL.gn rfl rfl rfl (by decide) ?_
      refine VL.gn rfl rfl rfl (by decide) ?_
      refine VL.q (q_pick_f rfl rfl) (by decide) ?_
      refine VL.q (q_assign rfl) (by decide) ?_
      refine VL.to (fun _ _ h => h) ?_
      refine VC.keep [4] rfl ?_
      cases hS
      exact VC.ret (fin1 (.inr rfl) rfl rfl () rfl trivial (fun _ _ => trivial) (fun _ _ => trivial))

set_option maxHeartbeats 4000000 in
set_option maxRecDepth 100000 in
theorem path_Clash_ct (a_0 : Str) (b_1 : Str) {r : Bool} (hS : Sh.path_Clash a_0 b_1 = some r) :
    Ct Tryd.prog 64 [str a_0, str b_1] Mo.tt (Ow.emp) (X := Unit) (fun _ => .bool r) (fun _ => True) (fun _ => Mo.tt) (fun _ => Ow.emp) := by
  refine Ct.of Tryd.func64 rfl (by kernel_rfl) Tryd.ntmps64 (by simp) fun c => ?_
  unfold Sh.path_Clash at hS
  refine VC.seq ?_
  refine VC.region ?_
  refine VL.q (q_assign rfl) (by decide) ?_
  refine VL.to (fun _ _ h => h) ?_
  refine VC.seq ?_
  refine VC.region ?_
  refine VL.q (q_move rfl) (by decide) ?_
  refine VL.q (q_sne rfl rfl) (by decide) ?_
  refine VL.q (q_move rfl) (by decide) ?_
  refine VL.split_ndec 7 rfl (fun h7 => ?_) (fun h7 => ?_)
  ·
    replace hS := it_f h7 hS
    refine VL.gy rfl rfl (q_move rfl) (by decide) ?_
    refine VL.gy rfl rfl (q_sne rfl rfl) (by decide) ?_
    refine VL.q (q_pick_t rfl rfl) (by decide) ?_
    refine VL.q (q_move rfl) (by decide) ?_
    refine VL.split_ndec 11 rfl (fun h11 => ?_) (fun h11 => ?_)
    ·
      replace hS := it_f h11 hS
      refine VL.gy rfl rfl (q_move rfl) (by decide) ?_
      refine VL.gy rfl rfl (q_move rfl) (by decide) ?_
      obtain ⟨y14_1, ey14_1, hS⟩ := bd_s hS
      refine VL.gy rfl rfl (q_call (path_Under_ct a_0 b_1 ey14_1) rfl (fun _ _ => rfl)) (by decide) ?_
      refine VL.gy rfl rfl (q_move rfl) (by decide) ?_
      refine VL.split 15 rfl (fun h15 => ?_) (fun h15 => ?_)
      ·
        replace hS := it_t h15 hS
        refine VL.gn rfl rfl rfl (by decide) ?_
        refine VL.gn rfl rfl rfl (by decide) ?_
        refine VL.gn rfl rfl rfl (by decide) ?_
        refine VL.gy rfl rfl (q_pick_t rfl rfl) (by decide) ?_
        refine VL.q (q_pick_t rfl rfl) (by decide) ?_
        refine VL.q (q_assign rfl) (by decide) ?_
        refine VL.to (fun _ _ h => h) ?_
        refine VC.keep [4] rfl ?_
        cases hS
        exact VC.ret (fin1 (.inr rfl) rfl rfl () rfl trivial (fun _ _ => trivial) (fun _ _ => trivial))
      ·
        replace hS := it_b h15 hS
        refine VL.gy rfl rfl (q_move rfl) (by decide) ?_
        refine VL.gy rfl rfl (q_move rfl) (by decide) ?_
        obtain ⟨y18_2, ey18_2, hS⟩ := bd_s hS
        refine VL.gy rfl rfl (q_call (path_Under_ct b_1 a_0 ey18_2) rfl (fun _ _ => rfl)) (by decide) ?_
        refine VL.gy rfl rfl (q_pick_f rfl rfl) (by decide) ?_
        refine VL.q (q_pick_t rfl rfl) (by decide) ?_
        refine VL.q (q_assign rfl) (by decide) ?_
        refine VL.to (fun _ _ h => h) ?_
        refine VC.keep [4] rfl ?_
        cases hS
        exact VC.ret (fin1 (.inr rfl) rfl rfl () rfl trivial (fun _ _ => trivial) (fun _ _ => trivial))
    ·
      replace hS := it_t h11 hS
      refine VL.gn rfl rfl rfl (by decide) ?_
      refine VL.gn rfl rfl rfl (by decide) ?_
      refine VL.gn rfl rfl rfl (by decide) ?_
      refine VL.gn rfl rfl rfl (by decide) ?_
      refine VL.gu rfl rfl (by decide) ?_
      refine VL.gu rfl rfl (by decide) ?_
      refine VL.gu rfl rfl (by decide) ?_
      refine VL.gn rfl rfl rfl (by decide) ?_
      refine VL.q (q_pick_f rfl rfl) (by decide) ?_
      refine VL.q (q_assign rfl) (by decide) ?_
      refine VL.to (fun _ _ h => h) ?_
      refine VC.keep [4] rfl ?_
      cases hS
      exact VC.ret (fin1 (.inr rfl) rfl rfl () rfl trivial (fun _ _ => trivial) (fun _ _ => trivial))
  ·
    replace hS := it_t h7 hS
    refine VL.gn rfl rfl rfl (by decide) ?_
    refine VL.gn rfl rfl rfl (by decide) ?_
    refine VL.q (q_pick_f rfl rfl) (by decide) ?_
    refine VL.q (q_move rfl) (by decide) ?_
    refine VL.gn rfl rfl rfl (by decide) ?_
    refine VL.gn rfl rfl rfl (by decide) ?_
    refine VL.gn rfl rfl rfl (by decide) ?_
    refine VL.gn rfl rfl rfl (by decide) ?_
    refine VL.gu rfl rfl (by decide) ?_
    refine VL.gu rfl rfl (by decide) ?_
    refine VL.gu rfl rfl (by decide) ?_
    refine VL.gn rfl rfl rfl (by decide) ?_
    refine VL.q (q_pick_f rfl rfl) (by decide) ?_
    refine VL.q (q_assign rfl) (by decide) ?_
    refine VL.to (fun _ _ h => h) ?_
    refine VC.keep [4] rfl ?_
    cases hS
    exact VC.ret (fin1 (.inr rfl) rfl rfl () rfl trivial (fun _ _ => trivial) (fun _ _ => trivial))

set_option maxHeartbeats 4000000 in
set_option maxRecDepth 100000 in
theorem files_Row_wrong_1_ct (g_0 : FilesFile) (a_1_b : Nat) (a_1 : FilesFile) {r : Bool} (hS : Sh.files_Row_wrong_1 g_0 a_1 = some r) :
    Ct Tryd.prog 100 [.agg #[str g_0.path, i64 g_0.mode, str g_0.data], ptr a_1_b 0] (Cells a_1_b 0 [str a_1.path, i64 a_1.mode, str a_1.data]) (Ow.emp) (X := Unit) (fun _ => .bool r) (fun _ => True) (fun _ => Mo.tt) (fun _ => Ow.emp) := by
  refine Ct.of Tryd.func100 rfl (by kernel_rfl) Tryd.ntmps100 (by simp) fun c => ?_
  unfold Sh.files_Row_wrong_1 at hS
  refine VC.seq ?_
  refine VC.region ?_
  refine VL.box (cs := [str g_0.path, i64 g_0.mode, str g_0.data]) rfl rfl (by decide) fun b2_1 => ?_
  refine VL.q (q_assign rfl) (by decide) ?_
  refine VL.to (fun _ _ h => h) ?_
  refine VC.seq ?_
  refine VC.region ?_
  refine VL.q (q_field gfa51_0 rfl) (by decide) ?_
  refine VL.q (q_fe gone9 rfl rfl) (by decide) ?_
  refine VL.q (q_field gfa51_0 rfl) (by decide) ?_
  refine VL.q (q_fm gone9 rfl rfl) (by decide) ?_
  obtain ⟨y8_2, ey8_2, hS⟩ := bd_s hS
  refine VL.q (q_call (path_Clash_ct g_0.path a_1.path ey8_2) rfl (fun _ _ => rfl)) (by decide) ?_
  refine VL.q (q_assign rfl) (by decide) ?_
  refine VL.to (fun _ _ h => h) ?_
  cases hS
  exact VC.ret (fin1 (.inr rfl) rfl rfl () rfl trivial (fun _ _ => trivial) (fun _ _ => trivial))

set_option maxHeartbeats 4000000 in
set_option maxRecDepth 100000 in
theorem slices_IndexFunc_files_Row_files_File_ct (s_0 : Sv FilesFile) (f_1_0_b : Nat) (f_1_0 : FilesFile) {r : Int} (hS : Sh.slices_IndexFunc_files_Row_files_File s_0.l f_1_0 = some r) :
    Ct Tryd.prog 103 [s_0.val, .func (.func 100) #[] #[ptr f_1_0_b 0]] (s_0.ok.and (Cells f_1_0_b 0 [str f_1_0.path, i64 f_1_0.mode, str f_1_0.data])) (Ow.emp) (X := Unit) (fun _ => i64 r) (fun _ => True) (fun _ => Mo.tt) (fun _ => Ow.emp) := by
  refine Ct.of Tryd.func103 rfl (by kernel_rfl) Tryd.ntmps103 (by simp) fun c => ?_
  unfold Sh.slices_IndexFunc_files_Row_files_File at hS
  refine VC.seq ?_
  refine VC.region ?_
  refine VL.q (q_assign rfl) (by decide) ?_
  refine VL.to (fun _ _ h => h) ?_
  refine VC.seq ?_
  refine VC.seq ?_
  refine VC.region ?_
  refine VL.q (q_move rfl) (by decide) ?_
  refine VL.q (q_ln (s := s_0) Tryd.underlying34 rfl) (by decide) ?_
  refine VL.q (q_move rfl) (by decide) ?_
  refine VL.to (fun _ _ h => h) ?_
  refine VC.block ?_
  refine VC.iter (S := Int) (fun (x8_1 : Int) => x8_1) (fun (x8_1 : Int) => [(0, s_0.val), (1, .func (.func 100) #[] #[ptr f_1_0_b 0]), (7, i64 (s_0.l.length : Int)), (8, i64 x8_1)]) (fun (x8_1 : Int) => Mo.tt) (fun (x8_1 : Int) => Ow.emp) 0 [0, 1, 7, 8] hS rfl ?_
  clear hS
  rintro x8_1 m1 y1 hS hK1
  show VC _ _ _ _ _ [(0, s_0.val), (1, .func (.func 100) #[] #[ptr f_1_0_b 0]), (7, i64 (s_0.l.length : Int)), (8, i64 x8_1)] (Mo.and Mo.tt _) (Ow.emp)
  refine VC.seq ?_
  refine VC.region ?_
  refine VL.q (q_lss rfl rfl) (by decide) ?_
  refine VL.to (fun _ _ h => h) ?_
  refine VC.seq ?_
  refine VC.cond_dec rfl (fun h9 => ?_) (fun h9 => ?_)
  ·
    replace hS := it_t h9 hS
    refine VC.skip_to (fun _ _ h => h) ?_
    refine VC.seq ?_
    refine VC.block ?_
    refine VC.seq ?_
    refine VC.region ?_
    refine VL.q (q_move rfl) (by decide) ?_
    refine VL.q (q_assign rfl) (by decide) ?_
    refine VL.to (fun _ _ h => h) ?_
    refine VC.seq ?_
    refine VC.region ?_
    refine VL.q (q_move rfl) (by decide) ?_
    refine VL.q (q_move rfl) (by decide) ?_
    refine VL.q (q_move rfl) (by decide) ?_
    obtain ⟨z14_2, nz14_2, hz14_2, hS⟩ := at_s hS
    refine VL.q (q_ixm (s := s_0) Tryd.underlying34 gsz51 rfl rfl nz14_2 (lt_of_get nz14_2 hz14_2)) (by decide) ?_
    refine VL.q (q_els (s := s_0) gagg51 rfl rfl hz14_2) (by decide) ?_
    obtain ⟨y16_3, ey16_3, hS⟩ := bd_s hS
    refine VL.q (q_callVC (vs := [.agg #[str z14_2.path, i64 z14_2.mode, str z14_2.data]]) (caps := [ptr f_1_0_b 0]) (files_Row_wrong_1_ct z14_2 f_1_0_b f_1_0 ey16_3) rfl rfl (fun _ _ => rfl)) (by decide) ?_
    refine VL.to (fun _ _ h => h) ?_
    refine VC.keep [0, 1, 7, 8, 5, 16] rfl ?_
    refine VC.cond rfl (fun h16 => ?_) (fun h16 => ?_)
    ·
      replace hS := it_t h16 hS
      refine VC.seq ?_
      refine VC.region ?_
      refine VL.q (q_move rfl) (by decide) ?_
      refine VL.q (q_assign rfl) (by decide) ?_
      refine VL.to (fun _ _ h => h) ?_
      replace hS := up2 hS hK1
      cases hS
      exact VC.ret (fin1 (.inr rfl) rfl rfl () rfl trivial (fun _ _ => trivial) (fun _ _ => trivial))
    ·
      replace hS := it_b h16 hS
      refine VC.skip_to (fun _ _ h => h) ?_
      refine VC.region ?_
      obtain ⟨b18, hS⟩ := gd_s hS
      refine VL.q (q_add rfl rfl b18) (by decide) ?_
      refine VL.q (q_move rfl) (by decide) ?_
      refine VL.rnd (x8_1 + 1) [0, 1, 7, 8] (fun _ _ h => h) (go2 hS hK1) rfl
  ·
    replace hS := it_f h9 hS
    replace hS := up2 hS hK1
    refine VC.exit_to (fun _ _ h => h) ?_
    refine VC.seq ?_
    refine VC.region ?_
    refine VL.q (q_assign rfl) (by decide) ?_
    refine VL.to (fun _ _ h => h) ?_
    cases hS
    exact VC.ret (fin1 (.inr rfl) rfl rfl () rfl trivial (fun _ _ => trivial) (fun _ _ => trivial))

set_option maxHeartbeats 4000000 in
set_option maxRecDepth 100000 in
theorem slices_ContainsFunc_files_Row_files_File_ct (s_0 : Sv FilesFile) (f_1_0_b : Nat) (f_1_0 : FilesFile) {r : Bool} (hS : Sh.slices_ContainsFunc_files_Row_files_File s_0.l f_1_0 = some r) :
    Ct Tryd.prog 99 [s_0.val, .func (.func 100) #[] #[ptr f_1_0_b 0]] (s_0.ok.and (Cells f_1_0_b 0 [str f_1_0.path, i64 f_1_0.mode, str f_1_0.data])) (Ow.emp) (X := Unit) (fun _ => .bool r) (fun _ => True) (fun _ => Mo.tt) (fun _ => Ow.emp) := by
  refine Ct.of Tryd.func99 rfl (by kernel_rfl) Tryd.ntmps99 (by simp) fun c => ?_
  unfold Sh.slices_ContainsFunc_files_Row_files_File at hS
  refine VC.seq ?_
  refine VC.region ?_
  refine VL.q (q_assign rfl) (by decide) ?_
  refine VL.to (fun _ _ h => h) ?_
  refine VC.seq ?_
  refine VC.region ?_
  refine VL.q (q_move rfl) (by decide) ?_
  refine VL.q (q_move rfl) (by decide) ?_
  obtain ⟨y7_1, ey7_1, hS⟩ := bd_s hS
  refine VL.q (q_callR (slices_IndexFunc_files_Row_files_File_ct s_0 f_1_0_b f_1_0 ey7_1) rfl (fun _ _ => rfl)) (by decide) ?_
  refine VL.q (q_geq rfl rfl) (by decide) ?_
  refine VL.q (q_assign rfl) (by decide) ?_
  refine VL.to (fun _ _ h => h) ?_
  cases hS
  exact VC.ret (fin1 (.inr rfl) rfl rfl () rfl trivial (fun _ _ => trivial) (fun _ _ => trivial))

set_option maxHeartbeats 4000000 in
set_option maxRecDepth 100000 in
theorem files_Row_wrong_ct (r_0 : Sv FilesFile) (i_1 : Int) {r : Int} (hS : Sh.files_Row_wrong r_0.l i_1 = some r) :
    Ct Tryd.prog 57 [r_0.val, i64 i_1] r_0.ok (Ow.emp) (X := Unit) (fun _ => i64 r) (fun _ => True) (fun _ => Mo.tt) (fun _ => Ow.emp) := by
  refine Ct.of Tryd.func57 rfl (by kernel_rfl) Tryd.ntmps57 (by simp) fun c => ?_
  unfold Sh.files_Row_wrong at hS
  refine VC.seq ?_
  refine VC.region ?_
  refine VL.q (q_assign rfl) (by decide) ?_
  refine VL.to (fun _ _ h => h) ?_
  refine VC.seq ?_
  refine VC.region ?_
  refine VL.q (q_move rfl) (by decide) ?_
  refine VL.q (q_move rfl) (by decide) ?_
  obtain ⟨z9_1, nz9_1, hz9_1, hS⟩ := at_s hS
  refine VL.q (q_ixm (s := r_0) Tryd.underlying34 gsz51 rfl rfl nz9_1 (lt_of_get nz9_1 hz9_1)) (by decide) ?_
  refine VL.q (q_els (s := r_0) gagg51 rfl rfl hz9_1) (by decide) ?_
  refine VL.alloc (cs := [str [], i64 0, str []]) (by kernel_rfl) (by decide) fun b5_2 => ?_
  refine VL.store (vc := [str z9_1.path, i64 z9_1.mode, str z9_1.data]) (cs' := [str z9_1.path, i64 z9_1.mode, str z9_1.data]) rfl rfl rfl gsz51 rfl rfl (Nat.le_of_ble_eq_true rfl) rfl ?_
  refine VL.to (fun _ _ h => h) ?_
  refine VC.seq ?_
  refine VC.seq ?_
  refine VC.region ?_
  refine VL.q (q_field gfa51_0 rfl) (by decide) ?_
  refine VL.q (q_fe gone9 rfl rfl) (by decide) ?_
  obtain ⟨y13_3, ey13_3, hS⟩ := bd_s hS
  refine VL.q (q_call (path_Check_ct z9_1.path ey13_3) rfl (fun _ _ => rfl)) (by decide) ?_
  refine VL.q (q_assign rfl) (by decide) ?_
  refine VL.to (fun _ _ h => h) ?_
  refine VC.keep [0, 1, 5, 6] rfl ?_
  refine VC.seq ?_
  refine VC.region ?_
  refine VL.q (q_move rfl) (by decide) ?_
  refine VL.q (q_neq rfl rfl) (by decide) ?_
  refine VL.to (fun _ _ h => h) ?_
  refine VC.cond_ndec rfl (fun h15 => ?_) (fun h15 => ?_)
  ·
    replace hS := it_f h15 hS
    refine VC.seq ?_
    refine VC.region ?_
    refine VL.q (q_move rfl) (by decide) ?_
    refine VL.q (q_assign rfl) (by decide) ?_
    refine VL.to (fun _ _ h => h) ?_
    cases hS
    exact VC.ret (fin1 (.inr rfl) rfl rfl () rfl trivial (fun _ _ => trivial) (fun _ _ => trivial))
  ·
    replace hS := it_t h15 hS
    refine VC.skip_to (fun _ _ h => h) ?_
    refine VC.seq ?_
    refine VC.block ?_
    refine VC.cutJ (S := Bool) (fun (x17_4 : Bool) => x17_4) (fun (x17_4 : Bool) => [(0, r_0.val), (1, i64 i_1), (5, ptr b5_2 0), (17, .bool x17_4)]) (fun (x17_4 : Bool) => Mo.tt) (fun (x17_4 : Bool) => Ow.star (Blk b5_2 [str z9_1.path, i64 z9_1.mode, str z9_1.data] 51) (Ow.emp)) hS ?_ ?_
    · -- up to where ways meet
      clear hS
      intro k5 hS
      refine VC.region ?_
      refine VL.q (q_field gfa51_1 rfl) (by decide) ?_
      refine VL.q (q_fe gone3 rfl rfl) (by decide) ?_
      refine VL.q (q_neq rfl rfl) (by decide) ?_
      refine VL.q (q_move rfl) (by decide) ?_
      refine VL.split_ndec 21 rfl (fun h21 => ?_) (fun h21 => ?_)
      ·
        replace hS := it_f h21 hS
        refine VL.gy rfl rfl (q_field gfa51_1 rfl) (by decide) ?_
        refine VL.gy rfl rfl (q_fe gone3 rfl rfl) (by decide) ?_
        refine VL.gy rfl rfl (q_neq rfl rfl) (by decide) ?_
        refine VL.q (q_pick_t rfl rfl) (by decide) ?_
        refine VL.q (q_assign rfl) (by decide) ?_
        refine VL.mt (!decide (z9_1.mode = 2)) [0, 1, 5, 17] (fun _ _ h => h) hS rfl
      ·
        replace hS := it_t h21 hS
        refine VL.gn rfl rfl rfl (by decide) ?_
        refine VL.gn rfl rfl rfl (by decide) ?_
        refine VL.gn rfl rfl rfl (by decide) ?_
        refine VL.q (q_pick_f rfl rfl) (by decide) ?_
        refine VL.q (q_assign rfl) (by decide) ?_
        refine VL.mt false [0, 1, 5, 17] (fun _ _ h => h) hS rfl
    · -- from there
      clear hS
      rintro x17_4 hS
      show VC _ _ _ _ _ [(0, r_0.val), (1, i64 i_1), (5, ptr b5_2 0), (17, .bool x17_4)] (Mo.and Mo.tt _) (Ow.star (Blk b5_2 [str z9_1.path, i64 z9_1.mode, str z9_1.data] 51) (Ow.emp))
      refine VC.cond rfl (fun h17 => ?_) (fun h17 => ?_)
      ·
        replace hS := it_t h17 hS
        refine VC.seq ?_
        refine VC.region ?_
        refine VL.q (q_assign rfl) (by decide) ?_
        refine VL.to (fun _ _ h => h) ?_
        cases hS
        exact VC.ret (fin1 (.inr rfl) rfl rfl () rfl trivial (fun _ _ => trivial) (fun _ _ => trivial))
      ·
        replace hS := it_b h17 hS
        refine VC.seq ?_
        refine VC.region ?_
        refine VL.q (q_field gfa51_2 rfl) (by decide) ?_
        refine VL.q (q_fe gone9 rfl rfl) (by decide) ?_
        refine VL.q (q_slen Tryd.underlying9 rfl) (by decide) ?_
        refine VL.q (q_gtr rfl rfl) (by decide) ?_
        refine VL.q (q_assign rfl) (by decide) ?_
        refine VL.to (fun _ _ h => h) ?_
        refine VC.cond_dec rfl (fun h26 => ?_) (fun h26 => ?_)
        ·
          replace hS := it_t h26 hS
          refine VC.seq ?_
          refine VC.region ?_
          refine VL.q (q_assign rfl) (by decide) ?_
          refine VL.to (fun _ _ h => h) ?_
          cases hS
          exact VC.ret (fin1 (.inr rfl) rfl rfl () rfl trivial (fun _ _ => trivial) (fun _ _ => trivial))
        ·
          replace hS := it_f h26 hS
          refine VC.cutJ (S := Bool) (fun (x31_6 : Bool) => x31_6) (fun (x31_6 : Bool) => [(0, r_0.val), (1, i64 i_1), (5, ptr b5_2 0), (31, .bool x31_6)]) (fun (x31_6 : Bool) => Mo.tt) (fun (x31_6 : Bool) => Ow.star (Blk b5_2 [str z9_1.path, i64 z9_1.mode, str z9_1.data] 51) (Ow.emp)) hS ?_ ?_
          · -- up to where ways meet
            clear hS
            intro k7 hS
            refine VC.draw ((List.range 15).map fun k => (k, true)) mixed (by kernel_rfl) (by kernel_rfl) (by kernel_rfl) ?_
            refine VD.q rfl (q_move rfl) (by decide) ?_
            refine VD.q rfl (q_gtr rfl rfl) (by decide) ?_
            refine VD.q rfl (q_move rfl) (by decide) ?_
            refine VD.split_dec 34 rfl (fun h34 => ?_) (fun h34 => ?_)
            ·
              replace hS := it_t h34 hS
              refine VD.gy rfl rfl rfl (q_move rfl) (by decide) ?_
              refine VD.gy rfl rfl rfl (q_move rfl) (by decide) ?_
              obtain ⟨b37, hS⟩ := gd_s hS
              refine VD.gy rfl rfl rfl (q_sub rfl rfl b37) (by decide) ?_
              obtain ⟨z38_8, nz38_8, hz38_8, hS⟩ := at_s hS
              refine VD.gy rfl rfl rfl (q_ixm (s := r_0) Tryd.underlying34 gsz51 rfl rfl nz38_8 (lt_of_get nz38_8 hz38_8)) (by decide) ?_
              refine VD.gy rfl rfl rfl (q_field gfa51_0 rfl) (by decide) ?_
              refine VD.gy rfl rfl rfl (q_elf (s := r_0) gone9 rfl hz38_8 rfl) (by decide) ?_
              refine VD.gy rfl rfl rfl (q_field gfa51_0 rfl) (by decide) ?_
              refine VD.gy rfl rfl rfl (q_fe gone9 rfl rfl) (by decide) ?_
              obtain ⟨y43_9, ey43_9, hS⟩ := bd_s hS
              refine VD.gy rfl rfl rfl (q_call (path_Compare_ct z38_8.path z9_1.path ey43_9) rfl (fun _ _ => rfl)) (by decide) ?_
              refine VD.gy rfl rfl rfl (q_geq rfl rfl) (by decide) ?_
              refine VD.q rfl (q_pick_t rfl rfl) (by decide) ?_
              refine VD.q rfl (q_assign rfl) (by decide) ?_
              refine VD.mt (decide (0 ≤ y43_9)) [0, 1, 5, 31] (fun _ _ h => h) hS rfl
            ·
              replace hS := it_f h34 hS
              refine VD.gn rfl rfl rfl rfl (by decide) ?_
              refine VD.gn rfl rfl rfl rfl (by decide) ?_
              refine VD.gn rfl rfl rfl rfl (by decide) ?_
              refine VD.gn rfl rfl rfl rfl (by decide) ?_
              refine VD.gn rfl rfl rfl rfl (by decide) ?_
              refine VD.gn rfl rfl rfl rfl (by decide) ?_
              refine VD.gn rfl rfl rfl rfl (by decide) ?_
              refine VD.gn rfl rfl rfl rfl (by decide) ?_
              refine VD.gn rfl rfl rfl rfl (by decide) ?_
              refine VD.gn rfl rfl rfl rfl (by decide) ?_
              refine VD.q rfl (q_pick_f rfl rfl) (by decide) ?_
              refine VD.q rfl (q_assign rfl) (by decide) ?_
              refine VD.mt false [0, 1, 5, 31] (fun _ _ h => h) hS rfl
          · -- from there
            clear hS
            rintro x31_6 hS
            show VC _ _ _ _ _ [(0, r_0.val), (1, i64 i_1), (5, ptr b5_2 0), (31, .bool x31_6)] (Mo.and Mo.tt _) (Ow.star (Blk b5_2 [str z9_1.path, i64 z9_1.mode, str z9_1.data] 51) (Ow.emp))
            refine VC.cond rfl (fun h31 => ?_) (fun h31 => ?_)
            ·
              replace hS := it_t h31 hS
              refine VC.seq ?_
              refine VC.region ?_
              refine VL.q (q_assign rfl) (by decide) ?_
              refine VL.to (fun _ _ h => h) ?_
              cases hS
              exact VC.ret (fin1 (.inr rfl) rfl rfl () rfl trivial (fun _ _ => trivial) (fun _ _ => trivial))
            ·
              replace hS := it_b h31 hS
              refine VC.seq ?_
              refine VC.region ?_
              refine VL.q (q_move rfl) (by decide) ?_
              refine VL.q (q_move rfl) (by decide) ?_
              obtain ⟨b49, hS⟩ := gd_s hS
              refine VL.sto Tryd.underlying34 gsz51 rfl rfl b49.1 (b49.2) (by decide) fun s49_10 hs49_10 => ?_
              replace hS := lt_to hs49_10 hS
              refine VL.q (q_mkfn rfl) (by decide) ?_
              obtain ⟨y51_12, ey51_12, hS⟩ := bd_s hS
              refine VL.q (q_callR (slices_ContainsFunc_files_Row_files_File_ct s49_10 b5_2 z9_1 ey51_12) rfl (fun _ _ => rfl)) (by decide) ?_
              refine VL.q (q_assign rfl) (by decide) ?_
              refine VL.to (fun _ _ h => h) ?_
              refine VC.cond rfl (fun h46 => ?_) (fun h46 => ?_)
              ·
                replace hS := it_t h46 hS
                refine VC.seq ?_
                refine VC.region ?_
                refine VL.q (q_assign rfl) (by decide) ?_
                refine VL.to (fun _ _ h => h) ?_
                refine VC.keep [4] rfl ?_
                cases hS
                exact VC.ret (fin1 (.inr rfl) rfl rfl () rfl trivial (fun _ _ => trivial) (fun _ _ => trivial))
              ·
                replace hS := it_b h46 hS
                refine VC.skip_to (fun _ _ h => h) ?_
                refine VC.seq ?_
                refine VC.region ?_
                refine VL.q (q_assign rfl) (by decide) ?_
                refine VL.to (fun _ _ h => h) ?_
                refine VC.keep [4] rfl ?_
                cases hS
                exact VC.ret (fin1 (.inr rfl) rfl rfl () rfl trivial (fun _ _ => trivial) (fun _ _ => trivial))

set_option maxHeartbeats 4000000 in
set_option maxRecDepth 100000 in
theorem files_Row_Check_ct (r_0 : Sv FilesFile) {r : Err} (hS : Sh.files_Row_Check r_0.l = some r) :
    Ct Tryd.prog 23 [r_0.val] r_0.ok (Ow.emp) (X := Er) (fun x => x.val) (fun x => r = x.pl) (fun x => x.ok) (fun x => Ow.emp) := by
  refine Ct.of Tryd.func23 rfl (by kernel_rfl) Tryd.ntmps23 (by simp) fun c => ?_
  unfold Sh.files_Row_Check at hS
  refine VC.seq ?_
  refine VC.region ?_
  refine VL.q (q_assign rfl) (by decide) ?_
  refine VL.to (fun _ _ h => h) ?_
  refine VC.seq ?_
  refine VC.seq ?_
  refine VC.region ?_
  refine VL.q (q_move rfl) (by decide) ?_
  refine VL.q (q_ln (s := r_0) Tryd.underlying34 rfl) (by decide) ?_
  refine VL.q (q_gtr rfl rfl) (by decide) ?_
  refine VL.to (fun _ _ h => h) ?_
  refine VC.cond_dec rfl (fun h7 => ?_) (fun h7 => ?_)
  ·
    replace hS := it_t h7 hS
    refine VC.seq ?_
    refine VC.region ?_
    refine VL.q (q_mkif Tryd.underlying90 (fun _ h => by cases h) rfl) (by decide) ?_
    refine VL.q (q_build (vs := [(0, str [102, 105, 108, 101]), (1, i64 64), (2, (Er.no 4).val)]) (cs := #[str [102, 105, 108, 101], i64 64, (Er.no 4).val]) rfl (by kernel_rfl)) (by decide) ?_
    refine VL.box (cs := [str [102, 105, 108, 101], i64 64, (Er.no 4).val]) rfl rfl (by decide) fun b10_1 => ?_
    refine VL.shutB b10_1 ?_
    refine VL.q (q_mkif Tryd.underlying93 (fun _ h => by cases h) rfl) (by decide) ?_
    refine VL.q (q_assign rfl) (by decide) ?_
    refine VL.to (fun _ _ h => h) ?_
    cases hS
    exact VC.ret (fin1 (.inr rfl) rfl rfl (Er.fault b10_1 [102, 105, 108, 101] 64 (Er.no 4)) rfl rfl (by (try dsimp only); exact InM.out) (fun _ _ => trivial))
  ·
    replace hS := it_f h7 hS
    refine VC.skip_to (fun _ _ h => h) ?_
    refine VC.seq ?_
    refine VC.seq ?_
    refine VC.region ?_
    refine VL.q (q_move rfl) (by decide) ?_
    refine VL.q (q_ln (s := r_0) Tryd.underlying34 rfl) (by decide) ?_
    refine VL.q (q_move rfl) (by decide) ?_
    refine VL.to (fun _ _ h => h) ?_
    refine VC.block ?_
    refine VC.iter (S := Int) (fun (x14_2 : Int) => x14_2) (fun (x14_2 : Int) => [(0, r_0.val), (13, i64 (r_0.l.length : Int)), (14, i64 x14_2)]) (fun (x14_2 : Int) => Mo.tt) (fun (x14_2 : Int) => Ow.emp) 0 [0, 13, 14] hS rfl ?_
    clear hS
    rintro x14_2 m1 y1 hS hK1
    show VC _ _ _ _ _ [(0, r_0.val), (13, i64 (r_0.l.length : Int)), (14, i64 x14_2)] (Mo.and Mo.tt _) (Ow.emp)
    refine VC.seq ?_
    refine VC.region ?_
    refine VL.q (q_lss rfl rfl) (by decide) ?_
    refine VL.to (fun _ _ h => h) ?_
    refine VC.seq ?_
    refine VC.cond_dec rfl (fun h15 => ?_) (fun h15 => ?_)
    ·
      replace hS := it_t h15 hS
      refine VC.skip_to (fun _ _ h => h) ?_
      refine VC.seq ?_
      refine VC.block ?_
      refine VC.seq ?_
      refine VC.region ?_
      refine VL.q (q_move rfl) (by decide) ?_
      refine VL.q (q_assign rfl) (by decide) ?_
      refine VL.to (fun _ _ h => h) ?_
      refine VC.seq ?_
      refine VC.region ?_
      refine VL.q (q_move rfl) (by decide) ?_
      refine VL.q (q_move rfl) (by decide) ?_
      obtain ⟨y19_3, ey19_3, hS⟩ := bd_s hS
      refine VL.q (q_call (files_Row_wrong_ct r_0 x14_2 ey19_3) rfl (fun _ _ => rfl)) (by decide) ?_
      refine VL.q (q_assign rfl) (by decide) ?_
      refine VL.to (fun _ _ h => h) ?_
      refine VC.seq ?_
      refine VC.region ?_
      refine VL.q (q_move rfl) (by decide) ?_
      refine VL.q (q_neq rfl rfl) (by decide) ?_
      refine VL.to (fun _ _ h => h) ?_
      refine VC.cond_ndec rfl (fun h21 => ?_) (fun h21 => ?_)
      ·
        replace hS := it_f h21 hS
        refine VC.seq ?_
        refine VC.region ?_
        refine VL.q (q_move rfl) (by decide) ?_
        refine VL.q (q_move rfl) (by decide) ?_
        refine VL.q (q_mkif Tryd.underlying90 (fun _ h => by cases h) rfl) (by decide) ?_
        refine VL.q (q_build (vs := [(0, str [102, 105, 108, 101]), (1, i64 x14_2), (2, (Er.no y19_3).val)]) (cs := #[str [102, 105, 108, 101], i64 x14_2, (Er.no y19_3).val]) rfl (by kernel_rfl)) (by decide) ?_
        refine VL.box (cs := [str [102, 105, 108, 101], i64 x14_2, (Er.no y19_3).val]) rfl rfl (by decide) fun b26_4 => ?_
        refine VL.shutB b26_4 ?_
        refine VL.q (q_mkif Tryd.underlying93 (fun _ h => by cases h) rfl) (by decide) ?_
        refine VL.q (q_assign rfl) (by decide) ?_
        refine VL.to (fun _ _ h => h) ?_
        refine VC.keep [2] rfl ?_
        replace hS := up2 hS hK1
        cases hS
        exact VC.ret (fin1 (.inr rfl) rfl rfl (Er.fault b26_4 [102, 105, 108, 101] x14_2 (Er.no y19_3)) rfl rfl (by (try dsimp only); exact InM.out) (fun _ _ => trivial))
      ·
        replace hS := it_t h21 hS
        refine VC.skip_to (fun _ _ h => h) ?_
        refine VC.keep [0, 13, 14] rfl ?_
        refine VC.region ?_
        obtain ⟨b28, hS⟩ := gd_s hS
        refine VL.q (q_add rfl rfl b28) (by decide) ?_
        refine VL.q (q_move rfl) (by decide) ?_
        refine VL.rnd (x14_2 + 1) [0, 13, 14] (fun _ _ h => h) (go2 hS hK1) rfl
    ·
      replace hS := it_f h15 hS
      replace hS := up2 hS hK1
      refine VC.exit_to (fun _ _ h => h) ?_
      refine VC.seq ?_
      refine VC.region ?_
      refine VL.q (q_assign rfl) (by decide) ?_
      refine VL.to (fun _ _ h => h) ?_
      cases hS
      exact VC.ret (fin1 (.inr rfl) rfl rfl .nil rfl rfl (by (try dsimp only); exact InM.out) (fun _ _ => trivial))

set_option maxHeartbeats 4000000 in
set_option maxRecDepth 100000 in
theorem files_Row_Cut_1_ct (f_0 : FilesFile) (a_1_b : Nat) (a_1 : Str) {r : Bool} (hS : Sh.files_Row_Cut_1 f_0 a_1 = some r) :
    Ct Tryd.prog 68 [.agg #[str f_0.path, i64 f_0.mode, str f_0.data], ptr a_1_b 0] (Cells a_1_b 0 [str a_1]) (Ow.emp) (X := Unit) (fun _ => .bool r) (fun _ => True) (fun _ => Mo.tt) (fun _ => Ow.emp) := by
  refine Ct.of Tryd.func68 rfl (by kernel_rfl) Tryd.ntmps68 (by simp) fun c => ?_
  unfold Sh.files_Row_Cut_1 at hS
  refine VC.seq ?_
  refine VC.region ?_
  refine VL.box (cs := [str f_0.path, i64 f_0.mode, str f_0.data]) rfl rfl (by decide) fun b2_1 => ?_
  refine VL.q (q_assign rfl) (by decide) ?_
  refine VL.to (fun _ _ h => h) ?_
  refine VC.seq ?_
  refine VC.region ?_
  refine VL.q (q_field gfa51_0 rfl) (by decide) ?_
  refine VL.q (q_fe gone9 rfl rfl) (by decide) ?_
  refine VL.q (q_fm gone9 rfl rfl) (by decide) ?_
  refine VL.q (q_seq rfl rfl) (by decide) ?_
  refine VL.q (q_assign rfl) (by decide) ?_
  refine VL.to (fun _ _ h => h) ?_
  cases hS
  exact VC.ret (fin1 (.inr rfl) rfl rfl () rfl trivial (fun _ _ => trivial) (fun _ _ => trivial))

set_option maxHeartbeats 4000000 in
set_option maxRecDepth 100000 in
theorem slices_IndexFunc_files_Row_files_File_v2_ct (s_0 : Sv FilesFile) (f_1_0_b : Nat) (f_1_0 : Str) {r : Int} (hS : Sh.slices_IndexFunc_files_Row_files_File_v2 s_0.l f_1_0 = some r) :
    Ct Tryd.prog 103 [s_0.val, .func (.func 68) #[] #[ptr f_1_0_b 0]] (s_0.ok.and (Cells f_1_0_b 0 [str f_1_0])) (Ow.emp) (X := Unit) (fun _ => i64 r) (fun _ => True) (fun _ => Mo.tt) (fun _ => Ow.emp) := by
  refine Ct.of Tryd.func103 rfl (by kernel_rfl) Tryd.ntmps103 (by simp) fun c => ?_
  unfold Sh.slices_IndexFunc_files_Row_files_File_v2 at hS
  refine VC.seq ?_
  refine VC.region ?_
  refine VL.q (q_assign rfl) (by decide) ?_
  refine VL.to (fun _ _ h => h) ?_
  refine VC.seq ?_
  refine VC.seq ?_
  refine VC.region ?_
  refine VL.q (q_move rfl) (by decide) ?_
  refine VL.q (q_ln (s := s_0) Tryd.underlying34 rfl) (by decide) ?_
  refine VL.q (q_move rfl) (by decide) ?_
  refine VL.to (fun _ _ h => h) ?_
  refine VC.block ?_
  refine VC.iter (S := Int) (fun (x8_1 : Int) => x8_1) (fun (x8_1 : Int) => [(0, s_0.val), (1, .func (.func 68) #[] #[ptr f_1_0_b 0]), (7, i64 (s_0.l.length : Int)), (8, i64 x8_1)]) (fun (x8_1 : Int) => Mo.tt) (fun (x8_1 : Int) => Ow.emp) 0 [0, 1, 7, 8] hS rfl ?_
  clear hS
  rintro x8_1 m1 y1 hS hK1
  show VC _ _ _ _ _ [(0, s_0.val), (1, .func (.func 68) #[] #[ptr f_1_0_b 0]), (7, i64 (s_0.l.length : Int)), (8, i64 x8_1)] (Mo.and Mo.tt _) (Ow.emp)
  refine VC.seq ?_
  refine VC.region ?_
  refine VL.q (q_lss rfl rfl) (by decide) ?_
  refine VL.to (fun _ _ h => h) ?_
  refine VC.seq ?_
  refine VC.cond_dec rfl (fun h9 => ?_) (fun h9 => ?_)
  ·
    replace hS := it_t h9 hS
    refine VC.skip_to (fun _ _ h => h) ?_
    refine VC.seq ?_
    refine VC.block ?_
    refine VC.seq ?_
    refine VC.region ?_
    refine VL.q (q_move rfl) (by decide) ?_
    refine VL.q (q_assign rfl) (by decide) ?_
    refine VL.to (fun _ _ h => h) ?_
    refine VC.seq ?_
    refine VC.region ?_
    refine VL.q (q_move rfl) (by decide) ?_
    refine VL.q (q_move rfl) (by decide) ?_
    refine VL.q (q_move rfl) (by decide) ?_
    obtain ⟨z14_2, nz14_2, hz14_2, hS⟩ := at_s hS
    refine VL.q (q_ixm (s := s_0) Tryd.underlying34 gsz51 rfl rfl nz14_2 (lt_of_get nz14_2 hz14_2)) (by decide) ?_
    refine VL.q (q_els (s := s_0) gagg51 rfl rfl hz14_2) (by decide) ?_
    obtain ⟨y16_3, ey16_3, hS⟩ := bd_s hS
    refine VL.q (q_callVC (vs := [.agg #[str z14_2.path, i64 z14_2.mode, str z14_2.data]]) (caps := [ptr f_1_0_b 0]) (files_Row_Cut_1_ct z14_2 f_1_0_b f_1_0 ey16_3) rfl rfl (fun _ _ => rfl)) (by decide) ?_
    refine VL.to (fun _ _ h => h) ?_
    refine VC.keep [0, 1, 7, 8, 5, 16] rfl ?_
    refine VC.cond rfl (fun h16 => ?_) (fun h16 => ?_)
    ·
      replace hS := it_t h16 hS
      refine VC.seq ?_
      refine VC.region ?_
      refine VL.q (q_move rfl) (by decide) ?_
      refine VL.q (q_assign rfl) (by decide) ?_
      refine VL.to (fun _ _ h => h) ?_
      replace hS := up2 hS hK1
      cases hS
      exact VC.ret (fin1 (.inr rfl) rfl rfl () rfl trivial (fun _ _ => trivial) (fun _ _ => trivial))
    ·
      replace hS := it_b h16 hS
      refine VC.skip_to (fun _ _ h => h) ?_
      refine VC.region ?_
      obtain ⟨b18, hS⟩ := gd_s hS
      refine VL.q (q_add rfl rfl b18) (by decide) ?_
      refine VL.q (q_move rfl) (by decide) ?_
      refine VL.rnd (x8_1 + 1) [0, 1, 7, 8] (fun _ _ h => h) (go2 hS hK1) rfl
  ·
    replace hS := it_f h9 hS
    replace hS := up2 hS hK1
    refine VC.exit_to (fun _ _ h => h) ?_
    refine VC.seq ?_
    refine VC.region ?_
    refine VL.q (q_assign rfl) (by decide) ?_
    refine VL.to (fun _ _ h => h) ?_
    cases hS
    exact VC.ret (fin1 (.inr rfl) rfl rfl () rfl trivial (fun _ _ => trivial) (fun _ _ => trivial))

set_option maxHeartbeats 4000000 in
set_option maxRecDepth 100000 in
theorem slices_DeleteFunc_files_Row_files_File_ct (s_0 : Sv FilesFile) (del_1_0_b : Nat) (del_1_0 : Str) {r : List FilesFile} (hS : Sh.slices_DeleteFunc_files_Row_files_File s_0.l del_1_0 = some r) :
    Ct Tryd.prog 61 [s_0.val, .func (.func 68) #[] #[ptr del_1_0_b 0]] Mo.tt (Ow.star (Sv.own s_0 51) (Blk del_1_0_b [str del_1_0] 9)) (X := Sv FilesFile) (fun x => x.val) (fun x => r = x.l) (fun x => Mo.tt) (fun x => Ow.star (Sv.own x 51) (Blk del_1_0_b [str del_1_0] 9)) := by
  refine Ct.of Tryd.func61 rfl (by kernel_rfl) Tryd.ntmps61 (by simp) fun c => ?_
  unfold Sh.slices_DeleteFunc_files_Row_files_File at hS
  refine VC.seq ?_
  refine VC.region ?_
  refine VL.q (q_assign rfl) (by decide) ?_
  refine VL.to (fun _ _ h => h) ?_
  refine VC.seq ?_
  refine VC.region ?_
  refine VL.q (q_move rfl) (by decide) ?_
  refine VL.q (q_move rfl) (by decide) ?_
  obtain ⟨y10_1, ey10_1, hS⟩ := bd_s hS
  refine VL.q (q_callR (slices_IndexFunc_files_Row_files_File_v2_ct s_0 del_1_0_b del_1_0 ey10_1) rfl (fun _ _ => rfl)) (by decide) ?_
  refine VL.q (q_assign rfl) (by decide) ?_
  refine VL.to (fun _ _ h => h) ?_
  refine VC.seq ?_
  refine VC.seq ?_
  refine VC.region ?_
  refine VL.q (q_move rfl) (by decide) ?_
  refine VL.q (q_eql rfl rfl) (by decide) ?_
  refine VL.to (fun _ _ h => h) ?_
  refine VC.cond_dec rfl (fun h12 => ?_) (fun h12 => ?_)
  ·
    replace hS := it_t h12 hS
    refine VC.seq ?_
    refine VC.region ?_
    refine VL.q (q_move rfl) (by decide) ?_
    refine VL.q (q_assign rfl) (by decide) ?_
    refine VL.to (fun _ _ h => h) ?_
    cases hS
    exact VC.ret (fin1 (.inr rfl) rfl rfl s_0 rfl rfl (by (try dsimp only); exact InM.out) (by (try dsimp only); exact EntO.out))
  ·
    replace hS := it_f h12 hS
    refine VC.skip_to (fun _ _ h => h) ?_
    refine VC.seq ?_
    refine VC.seq ?_
    refine VC.region ?_
    refine VL.q (q_move rfl) (by decide) ?_
    obtain ⟨b15, hS⟩ := gd_s hS
    refine VL.q (q_add rfl rfl b15) (by decide) ?_
    refine VL.q (q_assign rfl) (by decide) ?_
    refine VL.to (fun _ _ h => h) ?_
    refine VC.keep [0, 1, 5, 6] rfl ?_
    refine VC.block ?_
    refine VC.iter (S := Sv FilesFile × Int × Int) (fun sg => (sg.1.l, sg.2.1, sg.2.2)) (fun sg => [(0, sg.1.val), (1, .func (.func 68) #[] #[ptr del_1_0_b 0]), (5, i64 sg.2.1), (6, i64 sg.2.2)]) (fun sg => Mo.tt) (fun sg => Ow.star (Blk del_1_0_b [str del_1_0] 9) (Ow.star (Sv.own sg.1 51) (Ow.emp))) (s_0, y10_1, (y10_1 + 1)) [0, 1, 5, 6] hS rfl ?_
    clear hS
    rintro ⟨s0_2, i5_3, j6_4⟩ m1 y1 hS hK1
    show VC _ _ _ _ _ [(0, s0_2.val), (1, .func (.func 68) #[] #[ptr del_1_0_b 0]), (5, i64 i5_3), (6, i64 j6_4)] (Mo.and Mo.tt _) (Ow.star (Blk del_1_0_b [str del_1_0] 9) (Ow.star (Sv.own s0_2 51) (Ow.emp)))
    refine VC.seq ?_
    refine VC.seq ?_
    refine VC.region ?_
    refine VL.q (q_move rfl) (by decide) ?_
    refine VL.q (q_move rfl) (by decide) ?_
    refine VL.q (q_ln (s := s0_2) Tryd.underlying34 rfl) (by decide) ?_
    refine VL.q (q_lss rfl rfl) (by decide) ?_
    refine VL.to (fun _ _ h => h) ?_
    refine VC.cond_dec rfl (fun h19 => ?_) (fun h19 => ?_)
    ·
      replace hS := it_t h19 hS
      refine VC.skip_to (fun _ _ h => h) ?_
      refine VC.cutJ (S := Sv FilesFile × Int) (fun sg => (sg.1.l, sg.2)) (fun sg => [(0, sg.1.val), (1, .func (.func 68) #[] #[ptr del_1_0_b 0]), (5, i64 sg.2), (6, i64 j6_4)]) (fun sg => Mo.tt) (fun sg => Ow.star (Blk del_1_0_b [str del_1_0] 9) (Ow.star (Sv.own sg.1 51) (Ow.emp))) hS ?_ ?_
      · -- up to where ways meet
        clear hS
        intro k7 hS
        refine VC.block ?_
        refine VC.seq ?_
        refine VC.region ?_
        refine VL.q (q_move rfl) (by decide) ?_
        refine VL.q (q_move rfl) (by decide) ?_
        obtain ⟨z24_8, nz24_8, hz24_8, hS⟩ := at_s hS
        refine VL.q (q_ixo (s := s0_2) Tryd.underlying34 gsz51 rfl rfl nz24_8 (lt_of_get nz24_8 hz24_8)) (by decide) ?_
        refine VL.q (q_elso (s := s0_2) gagg51 rfl rfl hz24_8) (by decide) ?_
        refine VL.alloc (cs := [str [], i64 0, str []]) (by kernel_rfl) (by decide) fun b7_9 => ?_
        refine VL.store (vc := [str z24_8.path, i64 z24_8.mode, str z24_8.data]) (cs' := [str z24_8.path, i64 z24_8.mode, str z24_8.data]) rfl rfl rfl gsz51 rfl rfl (Nat.le_of_ble_eq_true rfl) rfl ?_
        refine VL.to (fun _ _ h => h) ?_
        refine VC.keep [0, 1, 5, 6, 7] rfl ?_
        refine VC.seq ?_
        refine VC.region ?_
        refine VL.q (q_move rfl) (by decide) ?_
        refine VL.q (q_fes gagg51 rfl rfl) (by decide) ?_
        obtain ⟨y28_10, ey28_10, hS⟩ := bd_s hS
        refine VL.q (q_callVC (vs := [.agg #[str z24_8.path, i64 z24_8.mode, str z24_8.data]]) (caps := [ptr del_1_0_b 0]) (files_Row_Cut_1_ct z24_8 del_1_0_b del_1_0 ey28_10) rfl rfl (fun _ _ => rfl)) (by decide) ?_
        refine VL.q (q_not rfl) (by decide) ?_
        refine VL.to (fun _ _ h => h) ?_
        refine VC.cond rfl (fun h29 => ?_) (fun h29 => ?_)
        ·
          replace hS := it_t h29 hS
          refine VC.seq ?_
          refine VC.region ?_
          refine VL.q (q_move rfl) (by decide) ?_
          refine VL.q (q_move rfl) (by decide) ?_
          refine VL.q (q_fes gagg51 rfl rfl) (by decide) ?_
          obtain ⟨z33_11, nz33_11, hz33_11, hS⟩ := at_s hS
          refine VL.q (q_ixo (s := s0_2) Tryd.underlying34 gsz51 rfl rfl nz33_11 (lt_of_get nz33_11 hz33_11)) (by decide) ?_
          refine VL.storeE (s := s0_2) (T := 51) (j := 0) (vc := [str z24_8.path, i64 z24_8.mode, str z24_8.data]) (⟨z24_8.path, z24_8.mode, z24_8.data⟩ : FilesFile) (by decide) rfl rfl hz33_11 rfl gsz51 rfl rfl (Nat.le_of_ble_eq_true rfl) rfl (fun w12 hw12 haw12 hcw12 hvw12 hbw12 how12 => ?_)
          rw [← hvw12]
          replace hS := lt_to hw12 hS
          refine VL.to (fun _ _ h => h) ?_
          refine VC.keep [0, 1, 5, 6] rfl ?_
          refine VC.region ?_
          refine VL.q (q_move rfl) (by decide) ?_
          obtain ⟨b35, hS⟩ := gd_s hS
          refine VL.q (q_add rfl rfl b35) (by decide) ?_
          refine VL.q (q_assign rfl) (by decide) ?_
          refine VL.mt (w12, (i5_3 + 1)) [0, 1, 5, 6] (fun _ _ h => h) hS rfl
        ·
          replace hS := it_b h29 hS
          refine VC.skip_mt (s0_2, i5_3) [0, 1, 5, 6] (fun _ _ h => h) hS rfl
      · -- from there
        clear hS
        rintro ⟨s0_5, i5_6⟩ hS
        show VC _ _ _ _ _ [(0, s0_5.val), (1, .func (.func 68) #[] #[ptr del_1_0_b 0]), (5, i64 i5_6), (6, i64 j6_4)] (Mo.and Mo.tt _) (Ow.star (Blk del_1_0_b [str del_1_0] 9) (Ow.star (Sv.own s0_5 51) (Ow.emp)))
        refine VC.region ?_
        refine VL.q (q_move rfl) (by decide) ?_
        obtain ⟨b21, hS⟩ := gd_s hS
        refine VL.q (q_add rfl rfl b21) (by decide) ?_
        refine VL.q (q_assign rfl) (by decide) ?_
        refine VL.rnd (s0_5, i5_6, (j6_4 + 1)) [0, 1, 5, 6] (fun _ _ h => h) (go2 hS hK1) rfl
    ·
      replace hS := it_f h19 hS
      replace hS := up2 hS hK1
      refine VC.exit_to (fun _ _ h => h) ?_
      refine VC.seq ?_
      refine VC.region ?_
      refine VL.q (q_move rfl) (by decide) ?_
      refine VL.q (q_move rfl) (by decide) ?_
      obtain ⟨b38, hS⟩ := gd_s hS
      refine VL.fits (s := s0_2) (e := 51) Fo.out fun f38_14 => ?_
      refine VL.q (q_subv (s := s0_2) Tryd.underlying34 gsz51 rfl rfl b38.1 b38.2 f38_14) (by decide) ?_
      refine VL.clrN (s := s0_2) (i := i5_3.toNat) (.agg #[str [], i64 0, str []]) Tryd.underlying34 gzv51 rfl rfl rfl (by have := b38; dsimp only at this ⊢; omega) Fo.out fun ss3_15 hss3_15 vss3_15 => ?_
      replace hS := lt_to hss3_15 hS
      refine VL.to (fun _ _ h => h) ?_
      refine VC.keep [0, 5] rfl ?_
      refine VC.seq ?_
      refine VC.region ?_
      refine VL.q (q_move rfl) (by decide) ?_
      refine VL.q (q_move rfl) (by decide) ?_
      refine VL.q (q_cutO (s := s0_2) (q := ss3_15) Tryd.underlying34 gsz51 rfl rfl b38.1 b38.2 f38_14 vss3_15) (by decide) ?_
      refine VL.q (q_assign rfl) (by decide) ?_
      refine VL.to (fun _ _ h => h) ?_
      cases hS
      exact VC.ret (fin1 (.inr rfl) rfl rfl ss3_15 rfl rfl (by (try dsimp only); exact InM.out) (by (try dsimp only); exact EntO.out))

set_option maxHeartbeats 4000000 in
set_option maxRecDepth 100000 in
theorem files_Row_Cut_ct (r_0 : Sv FilesFile) (p_1 : Str) {r : List FilesFile} (hS : Sh.files_Row_Cut r_0.l p_1 = some r) :
    Ct Tryd.prog 29 [r_0.val, str p_1] r_0.ok (Ow.emp) (X := Sv FilesFile) (fun x => x.val) (fun x => r = x.l) (fun x => x.ok) (fun x => Ow.emp) := by
  refine Ct.of Tryd.func29 rfl (by kernel_rfl) Tryd.ntmps29 (by simp) fun c => ?_
  unfold Sh.files_Row_Cut at hS
  refine VC.seq ?_
  refine VC.region ?_
  refine VL.box (cs := [str p_1]) rfl rfl (by decide) fun b3_1 => ?_
  refine VL.q (q_assign rfl) (by decide) ?_
  refine VL.to (fun _ _ h => h) ?_
  refine VC.seq ?_
  refine VC.region ?_
  refine VL.q (q_move rfl) (by decide) ?_
  obtain ⟨y6_2, ey6_2, hS⟩ := bd_s hS
  refine VL.callO (slices_Clone_files_Row_files_File_ct r_0 ey6_2) rfl (by decide) ?_
  rintro q6_2_0 rfl
  try dsimp only
  refine VL.q (q_mkfn rfl) (by decide) ?_
  obtain ⟨y8_3, ey8_3, hS⟩ := bd_s hS
  refine VL.callO (slices_DeleteFunc_files_Row_files_File_ct q6_2_0 b3_1 p_1 ey8_3) rfl (by decide) ?_
  rintro q8_3_0 rfl
  try dsimp only
  refine VL.shut q8_3_0 51 (fun _ _ _ _ => trivial) ?_
  obtain ⟨y9_4, ey9_4, hS⟩ := bd_s hS
  refine VL.callF (slices_Clip_files_Row_files_File_ct q8_3_0 ey9_4) rfl (by decide) ?_
  rintro q9_4_0 rfl
  try dsimp only
  refine VL.q (q_assign rfl) (by decide) ?_
  refine VL.to (fun _ _ h => h) ?_
  cases hS
  exact VC.ret (fin1 (.inr rfl) rfl rfl q9_4_0 rfl rfl (by (try dsimp only); exact InM.out) (fun _ _ => trivial))

set_option maxHeartbeats 4000000 in
set_option maxRecDepth 100000 in
theorem files_Row_Clear_1_ct (f_0 : FilesFile) (a_1_b : Nat) (a_1 : Str) {r : Bool} (hS : Sh.files_Row_Clear_1 f_0 a_1 = some r) :
    Ct Tryd.prog 63 [.agg #[str f_0.path, i64 f_0.mode, str f_0.data], ptr a_1_b 0] (Cells a_1_b 0 [str a_1]) (Ow.emp) (X := Unit) (fun _ => .bool r) (fun _ => True) (fun _ => Mo.tt) (fun _ => Ow.emp) := by
  refine Ct.of Tryd.func63 rfl (by kernel_rfl) Tryd.ntmps63 (by simp) fun c => ?_
  unfold Sh.files_Row_Clear_1 at hS
  refine VC.seq ?_
  refine VC.region ?_
  refine VL.box (cs := [str f_0.path, i64 f_0.mode, str f_0.data]) rfl rfl (by decide) fun b2_1 => ?_
  refine VL.q (q_assign rfl) (by decide) ?_
  refine VL.to (fun _ _ h => h) ?_
  refine VC.seq ?_
  refine VC.region ?_
  refine VL.q (q_field gfa51_0 rfl) (by decide) ?_
  refine VL.q (q_fe gone9 rfl rfl) (by decide) ?_
  refine VL.q (q_fm gone9 rfl rfl) (by decide) ?_
  obtain ⟨y7_2, ey7_2, hS⟩ := bd_s hS
  refine VL.q (q_call (path_Clash_ct f_0.path a_1 ey7_2) rfl (fun _ _ => rfl)) (by decide) ?_
  refine VL.q (q_assign rfl) (by decide) ?_
  refine VL.to (fun _ _ h => h) ?_
  cases hS
  exact VC.ret (fin1 (.inr rfl) rfl rfl () rfl trivial (fun _ _ => trivial) (fun _ _ => trivial))

set_option maxHeartbeats 4000000 in
set_option maxRecDepth 100000 in
theorem slices_IndexFunc_files_Row_files_File_v3_ct (s_0 : Sv FilesFile) (f_1_0_b : Nat) (f_1_0 : Str) {r : Int} (hS : Sh.slices_IndexFunc_files_Row_files_File_v3 s_0.l f_1_0 = some r) :
    Ct Tryd.prog 103 [s_0.val, .func (.func 63) #[] #[ptr f_1_0_b 0]] (s_0.ok.and (Cells f_1_0_b 0 [str f_1_0])) (Ow.emp) (X := Unit) (fun _ => i64 r) (fun _ => True) (fun _ => Mo.tt) (fun _ => Ow.emp) := by
  refine Ct.of Tryd.func103 rfl (by kernel_rfl) Tryd.ntmps103 (by simp) fun c => ?_
  unfold Sh.slices_IndexFunc_files_Row_files_File_v3 at hS
  refine VC.seq ?_
  refine VC.region ?_
  refine VL.q (q_assign rfl) (by decide) ?_
  refine VL.to (fun _ _ h => h) ?_
  refine VC.seq ?_
  refine VC.seq ?_
  refine VC.region ?_
  refine VL.q (q_move rfl) (by decide) ?_
  refine VL.q (q_ln (s := s_0) Tryd.underlying34 rfl) (by decide) ?_
  refine VL.q (q_move rfl) (by decide) ?_
  refine VL.to (fun _ _ h => h) ?_
  refine VC.block ?_
  refine VC.iter (S := Int) (fun (x8_1 : Int) => x8_1) (fun (x8_1 : Int) => [(0, s_0.val), (1, .func (.func 63) #[] #[ptr f_1_0_b 0]), (7, i64 (s_0.l.length : Int)), (8, i64 x8_1)]) (fun (x8_1 : Int) => Mo.tt) (fun (x8_1 : Int) => Ow.emp) 0 [0, 1, 7, 8] hS rfl ?_
  clear hS
  rintro x8_1 m1 y1 hS hK1
  show VC _ _ _ _ _ [(0, s_0.val), (1, .func (.func 63) #[] #[ptr f_1_0_b 0]), (7, i64 (s_0.l.length : Int)), (8, i64 x8_1)] (Mo.and Mo.tt _) (Ow.emp)
  refine VC.seq ?_
  refine VC.region ?_
  refine VL.q (q_lss rfl rfl) (by decide) ?_
  refine VL.to (fun _ _ h => h) ?_
  refine VC.seq ?_
  refine VC.cond_dec rfl (fun h9 => ?_) (fun h9 => ?_)
  ·
    replace hS := it_t h9 hS
    refine VC.skip_to (fun _ _ h => h) ?_
    refine VC.seq ?_
    refine VC.block ?_
    refine VC.seq ?_
    refine VC.region ?_
    refine VL.q (q_move rfl) (by decide) ?_
    refine VL.q (q_assign rfl) (by decide) ?_
    refine VL.to (fun _ _ h => h) ?_
    refine VC.seq ?_
    refine VC.region ?_
    refine VL.q (q_move rfl) (by decide) ?_
    refine VL.q (q_move rfl) (by decide) ?_
    refine VL.q (q_move rfl) (by decide) ?_
    obtain ⟨z14_2, nz14_2, hz14_2, hS⟩ := at_s hS
    refine VL.q (q_ixm (s := s_0) Tryd.underlying34 gsz51 rfl rfl nz14_2 (lt_of_get nz14_2 hz14_2)) (by decide) ?_
    refine VL.q (q_els (s := s_0) gagg51 rfl rfl hz14_2) (by decide) ?_
    obtain ⟨y16_3, ey16_3, hS⟩ := bd_s hS
    refine VL.q (q_callVC (vs := [.agg #[str z14_2.path, i64 z14_2.mode, str z14_2.data]]) (caps := [ptr f_1_0_b 0]) (files_Row_Clear_1_ct z14_2 f_1_0_b f_1_0 ey16_3) rfl rfl (fun _ _ => rfl)) (by decide) ?_
    refine VL.to (fun _ _ h => h) ?_
    refine VC.keep [0, 1, 7, 8, 5, 16] rfl ?_
    refine VC.cond rfl (fun h16 => ?_) (fun h16 => ?_)
    ·
      replace hS := it_t h16 hS
      refine VC.seq ?_
      refine VC.region ?_
      refine VL.q (q_move rfl) (by decide) ?_
      refine VL.q (q_assign rfl) (by decide) ?_
      refine VL.to (fun _ _ h => h) ?_
      replace hS := up2 hS hK1
      cases hS
      exact VC.ret (fin1 (.inr rfl) rfl rfl () rfl trivial (fun _ _ => trivial) (fun _ _ => trivial))
    ·
      replace hS := it_b h16 hS
      refine VC.skip_to (fun _ _ h => h) ?_
      refine VC.region ?_
      obtain ⟨b18, hS⟩ := gd_s hS
      refine VL.q (q_add rfl rfl b18) (by decide) ?_
      refine VL.q (q_move rfl) (by decide) ?_
      refine VL.rnd (x8_1 + 1) [0, 1, 7, 8] (fun _ _ h => h) (go2 hS hK1) rfl
  ·
    replace hS := it_f h9 hS
    replace hS := up2 hS hK1
    refine VC.exit_to (fun _ _ h => h) ?_
    refine VC.seq ?_
    refine VC.region ?_
    refine VL.q (q_assign rfl) (by decide) ?_
    refine VL.to (fun _ _ h => h) ?_
    cases hS
    exact VC.ret (fin1 (.inr rfl) rfl rfl () rfl trivial (fun _ _ => trivial) (fun _ _ => trivial))

set_option maxHeartbeats 4000000 in
set_option maxRecDepth 100000 in
theorem slices_DeleteFunc_files_Row_files_File_v2_ct (s_0 : Sv FilesFile) (del_1_0_b : Nat) (del_1_0 : Str) {r : List FilesFile} (hS : Sh.slices_DeleteFunc_files_Row_files_File_v2 s_0.l del_1_0 = some r) :
    Ct Tryd.prog 61 [s_0.val, .func (.func 63) #[] #[ptr del_1_0_b 0]] Mo.tt (Ow.star (Sv.own s_0 51) (Blk del_1_0_b [str del_1_0] 9)) (X := Sv FilesFile) (fun x => x.val) (fun x => r = x.l) (fun x => Mo.tt) (fun x => Ow.star (Sv.own x 51) (Blk del_1_0_b [str del_1_0] 9)) := by
  refine Ct.of Tryd.func61 rfl (by kernel_rfl) Tryd.ntmps61 (by simp) fun c => ?_
  unfold Sh.slices_DeleteFunc_files_Row_files_File_v2 at hS
  refine VC.seq ?_
  refine VC.region ?_
  refine VL.q (q_assign rfl) (by decide) ?_
  refine VL.to (fun _ _ h => h) ?_
  refine VC.seq ?_
  refine VC.region ?_
  refine VL.q (q_move rfl) (by decide) ?_
  refine VL.q (q_move rfl) (by decide) ?_
  obtain ⟨y10_1, ey10_1, hS⟩ := bd_s hS
  refine VL.q (q_callR (slices_IndexFunc_files_Row_files_File_v3_ct s_0 del_1_0_b del_1_0 ey10_1) rfl (fun _ _ => rfl)) (by decide) ?_
  refine VL.q (q_assign rfl) (by decide) ?_
  refine VL.to (fun _ _ h => h) ?_
  refine VC.seq ?_
  refine VC.seq ?_
  refine VC.region ?_
  refine VL.q (q_move rfl) (by decide) ?_
  refine VL.q (q_eql rfl rfl) (by decide) ?_
  refine VL.to (fun _ _ h => h) ?_
  refine VC.cond_dec rfl (fun h12 => ?_) (fun h12 => ?_)
  ·
    replace hS := it_t h12 hS
    refine VC.seq ?_
    refine VC.region ?_
    refine VL.q (q_move rfl) (by decide) ?_
    refine VL.q (q_assign rfl) (by decide) ?_
    refine VL.to (fun _ _ h => h) ?_
    cases hS
    exact VC.ret (fin1 (.inr rfl) rfl rfl s_0 rfl rfl (by (try dsimp only); exact InM.out) (by (try dsimp only); exact EntO.out))
  ·
    replace hS := it_f h12 hS
    refine VC.skip_to (fun _ _ h => h) ?_
    refine VC.seq ?_
    refine VC.seq ?_
    refine VC.region ?_
    refine VL.q (q_move rfl) (by decide) ?_
    obtain ⟨b15, hS⟩ := gd_s hS
    refine VL.q (q_add rfl rfl b15) (by decide) ?_
    refine VL.q (q_assign rfl) (by decide) ?_
    refine VL.to (fun _ _ h => h) ?_
    refine VC.keep [0, 1, 5, 6] rfl ?_
    refine VC.block ?_
    refine VC.iter (S := Sv FilesFile × Int × Int) (fun sg => (sg.1.l, sg.2.1, sg.2.2)) (fun sg => [(0, sg.1.val), (1, .func (.func 63) #[] #[ptr del_1_0_b 0]), (5, i64 sg.2.1), (6, i64 sg.2.2)]) (fun sg => Mo.tt) (fun sg => Ow.star (Blk del_1_0_b [str del_1_0] 9) (Ow.star (Sv.own sg.1 51) (Ow.emp))) (s_0, y10_1, (y10_1 + 1)) [0, 1, 5, 6] hS rfl ?_
    clear hS
    rintro ⟨s0_2, i5_3, j6_4⟩ m1 y1 hS hK1
    show VC _ _ _ _ _ [(0, s0_2.val), (1, .func (.func 63) #[] #[ptr del_1_0_b 0]), (5, i64 i5_3), (6, i64 j6_4)] (Mo.and Mo.tt _) (Ow.star (Blk del_1_0_b [str del_1_0] 9) (Ow.star (Sv.own s0_2 51) (Ow.emp)))
    refine VC.seq ?_
    refine VC.seq ?_
    refine VC.region ?_
    refine VL.q (q_move rfl) (by decide) ?_
    refine VL.q (q_move rfl) (by decide) ?_
    refine VL.q (q_ln (s := s0_2) Tryd.underlying34 rfl) (by decide) ?_
    refine VL.q (q_lss rfl rfl) (by decide) ?_
    refine VL.to (fun _ _ h => h) ?_
    refine VC.cond_dec rfl (fun h19 => ?_) (fun h19 => ?_)
    ·
      replace hS := it_t h19 hS
      refine VC.skip_to (fun _ _ h => h) ?_
      refine VC.cutJ (S := Sv FilesFile × Int) (fun sg => (sg.1.l, sg.2)) (fun sg => [(0, sg.1.val), (1, .func (.func 63) #[] #[ptr del_1_0_b 0]), (5, i64 sg.2), (6, i64 j6_4)]) (fun sg => Mo.tt) (fun sg => Ow.star (Blk del_1_0_b [str del_1_0] 9) (Ow.star (Sv.own sg.1 51) (Ow.emp))) hS ?_ ?_
      · -- up to where ways meet
        clear hS
        intro k7 hS
        refine VC.block ?_
        refine VC.seq ?_
        refine VC.region ?_
        refine VL.q (q_move rfl) (by decide) ?_
        refine VL.q (q_move rfl) (by decide) ?_
        obtain ⟨z24_8, nz24_8, hz24_8, hS⟩ := at_s hS
        refine VL.q (q_ixo (s := s0_2) Tryd.underlying34 gsz51 rfl rfl nz24_8 (lt_of_get nz24_8 hz24_8)) (by decide) ?_
        refine VL.q (q_elso (s := s0_2) gagg51 rfl rfl hz24_8) (by decide) ?_
        refine VL.alloc (cs := [str [], i64 0, str []]) (by kernel_rfl) (by decide) fun b7_9 => ?_
        refine VL.store (vc := [str z24_8.path, i64 z24_8.mode, str z24_8.data]) (cs' := [str z24_8.path, i64 z24_8.mode, str z24_8.data]) rfl rfl rfl gsz51 rfl rfl (Nat.le_of_ble_eq_true rfl) rfl ?_
        refine VL.to (fun _ _ h => h) ?_
        refine VC.keep [0, 1, 5, 6, 7] rfl ?_
        refine VC.seq ?_
        refine VC.region ?_
        refine VL.q (q_move rfl) (by decide) ?_
        refine VL.q (q_fes gagg51 rfl rfl) (by decide) ?_
        obtain ⟨y28_10, ey28_10, hS⟩ := bd_s hS
        refine VL.q (q_callVC (vs := [.agg #[str z24_8.path, i64 z24_8.mode, str z24_8.data]]) (caps := [ptr del_1_0_b 0]) (files_Row_Clear_1_ct z24_8 del_1_0_b del_1_0 ey28_10) rfl rfl (fun _ _ => rfl)) (by decide) ?_
        refine VL.q (q_not rfl) (by decide) ?_
        refine VL.to (fun _ _ h => h) ?_
        refine VC.cond rfl (fun h29 => ?_) (fun h29 => ?_)
        ·
          replace hS := it_t h29 hS
          refine VC.seq ?_
          refine VC.region ?_
          refine VL.q (q_move rfl) (by decide) ?_
          refine VL.q (q_move rfl) (by decide) ?_
          refine VL.q (q_fes gagg51 rfl rfl) (by decide) ?_
          obtain ⟨z33_11, nz33_11, hz33_11, hS⟩ := at_s hS
          refine VL.q (q_ixo (s := s0_2) Tryd.underlying34 gsz51 rfl rfl nz33_11 (lt_of_get nz33_11 hz33_11)) (by decide) ?_
          refine VL.storeE (s := s0_2) (T := 51) (j := 0) (vc := [str z24_8.path, i64 z24_8.mode, str z24_8.data]) (⟨z24_8.path, z24_8.mode, z24_8.data⟩ : FilesFile) (by decide) rfl rfl hz33_11 rfl gsz51 rfl rfl (Nat.le_of_ble_eq_true rfl) rfl (fun w12 hw12 haw12 hcw12 hvw12 hbw12 how12 => ?_)
          rw [← hvw12]
          replace hS := lt_to hw12 hS
          refine VL.to (fun _ _ h => h) ?_
          refine VC.keep [0, 1, 5, 6] rfl ?_
          refine VC.region ?_
          refine VL.q (q_move rfl) (by decide) ?_
          obtain ⟨b35, hS⟩ := gd_s hS
          refine VL.q (q_add rfl rfl b35) (by decide) ?_
          refine VL.q (q_assign rfl) (by decide) ?_
          refine VL.mt (w12, (i5_3 + 1)) [0, 1, 5, 6] (fun _ _ h => h) hS rfl
        ·
          replace hS := it_b h29 hS
          refine VC.skip_mt (s0_2, i5_3) [0, 1, 5, 6] (fun _ _ h => h) hS rfl
      · -- from there
        clear hS
        rintro ⟨s0_5, i5_6⟩ hS
        show VC _ _ _ _ _ [(0, s0_5.val), (1, .func (.func 63) #[] #[ptr del_1_0_b 0]), (5, i64 i5_6), (6, i64 j6_4)] (Mo.and Mo.tt _) (Ow.star (Blk del_1_0_b [str del_1_0] 9) (Ow.star (Sv.own s0_5 51) (Ow.emp)))
        refine VC.region ?_
        refine VL.q (q_move rfl) (by decide) ?_
        obtain ⟨b21, hS⟩ := gd_s hS
        refine VL.q (q_add rfl rfl b21) (by decide) ?_
        refine VL.q (q_assign rfl) (by decide) ?_
        refine VL.rnd (s0_5, i5_6, (j6_4 + 1)) [0, 1, 5, 6] (fun _ _ h => h) (go2 hS hK1) rfl
    ·
      replace hS := it_f h19 hS
      replace hS := up2 hS hK1
      refine VC.exit_to (fun _ _ h => h) ?_
      refine VC.seq ?_
      refine VC.region ?_
      refine VL.q (q_move rfl) (by decide) ?_
      refine VL.q (q_move rfl) (by decide) ?_
      obtain ⟨b38, hS⟩ := gd_s hS
      refine VL.fits (s := s0_2) (e := 51) Fo.out fun f38_14 => ?_
      refine VL.q (q_subv (s := s0_2) Tryd.underlying34 gsz51 rfl rfl b38.1 b38.2 f38_14) (by decide) ?_
      refine VL.clrN (s := s0_2) (i := i5_3.toNat) (.agg #[str [], i64 0, str []]) Tryd.underlying34 gzv51 rfl rfl rfl (by have := b38; dsimp only at this ⊢; omega) Fo.out fun ss3_15 hss3_15 vss3_15 => ?_
      replace hS := lt_to hss3_15 hS
      refine VL.to (fun _ _ h => h) ?_
      refine VC.keep [0, 5] rfl ?_
      refine VC.seq ?_
      refine VC.region ?_
      refine VL.q (q_move rfl) (by decide) ?_
      refine VL.q (q_move rfl) (by decide) ?_
      refine VL.q (q_cutO (s := s0_2) (q := ss3_15) Tryd.underlying34 gsz51 rfl rfl b38.1 b38.2 f38_14 vss3_15) (by decide) ?_
      refine VL.q (q_assign rfl) (by decide) ?_
      refine VL.to (fun _ _ h => h) ?_
      cases hS
      exact VC.ret (fin1 (.inr rfl) rfl rfl ss3_15 rfl rfl (by (try dsimp only); exact InM.out) (by (try dsimp only); exact EntO.out))

set_option maxHeartbeats 4000000 in
set_option maxRecDepth 100000 in
theorem files_Row_Clear_ct (r_0 : Sv FilesFile) (p_1 : Str) {r : List FilesFile} (hS : Sh.files_Row_Clear r_0.l p_1 = some r) :
    Ct Tryd.prog 25 [r_0.val, str p_1] r_0.ok (Ow.emp) (X := Sv FilesFile) (fun x => x.val) (fun x => r = x.l) (fun x => x.ok) (fun x => Ow.emp) := by
  refine Ct.of Tryd.func25 rfl (by kernel_rfl) Tryd.ntmps25 (by simp) fun c => ?_
  unfold Sh.files_Row_Clear at hS
  refine VC.seq ?_
  refine VC.region ?_
  refine VL.box (cs := [str p_1]) rfl rfl (by decide) fun b3_1 => ?_
  refine VL.q (q_assign rfl) (by decide) ?_
  refine VL.to (fun _ _ h => h) ?_
  refine VC.seq ?_
  refine VC.region ?_
  refine VL.q (q_move rfl) (by decide) ?_
  obtain ⟨y6_2, ey6_2, hS⟩ := bd_s hS
  refine VL.callO (slices_Clone_files_Row_files_File_ct r_0 ey6_2) rfl (by decide) ?_
  rintro q6_2_0 rfl
  try dsimp only
  refine VL.q (q_mkfn rfl) (by decide) ?_
  obtain ⟨y8_3, ey8_3, hS⟩ := bd_s hS
  refine VL.callO (slices_DeleteFunc_files_Row_files_File_v2_ct q6_2_0 b3_1 p_1 ey8_3) rfl (by decide) ?_
  rintro q8_3_0 rfl
  try dsimp only
  refine VL.shut q8_3_0 51 (fun _ _ _ _ => trivial) ?_
  obtain ⟨y9_4, ey9_4, hS⟩ := bd_s hS
  refine VL.callF (slices_Clip_files_Row_files_File_ct q8_3_0 ey9_4) rfl (by decide) ?_
  rintro q9_4_0 rfl
  try dsimp only
  refine VL.q (q_assign rfl) (by decide) ?_
  refine VL.to (fun _ _ h => h) ?_
  cases hS
  exact VC.ret (fin1 (.inr rfl) rfl rfl q9_4_0 rfl rfl (by (try dsimp only); exact InM.out) (fun _ _ => trivial))

set_option maxHeartbeats 4000000 in
set_option maxRecDepth 100000 in
theorem slices_Equal_files_Row_files_File_ct (s1_0 : Sv FilesFile) (s2_1 : Sv FilesFile) {r : Bool} (hS : Sh.slices_Equal_files_Row_files_File s1_0.l s2_1.l = some r) :
    Ct Tryd.prog 52 [s1_0.val, s2_1.val] (s1_0.ok.and s2_1.ok) (Ow.emp) (X := Unit) (fun _ => .bool r) (fun _ => True) (fun _ => Mo.tt) (fun _ => Ow.emp) := by
  refine Ct.of Tryd.func52 rfl (by kernel_rfl) Tryd.ntmps52 (by simp) fun c => ?_
  unfold Sh.slices_Equal_files_Row_files_File at hS
  refine VC.seq ?_
  refine VC.region ?_
  refine VL.q (q_assign rfl) (by decide) ?_
  refine VL.to (fun _ _ h => h) ?_
  refine VC.seq ?_
  refine VC.seq ?_
  refine VC.region ?_
  refine VL.q (q_move rfl) (by decide) ?_
  refine VL.q (q_ln (s := s1_0) Tryd.underlying34 rfl) (by decide) ?_
  refine VL.q (q_move rfl) (by decide) ?_
  refine VL.q (q_ln (s := s2_1) Tryd.underlying34 rfl) (by decide) ?_
  refine VL.q (q_neq rfl rfl) (by decide) ?_
  refine VL.to (fun _ _ h => h) ?_
  refine VC.cond_ndec rfl (fun h10 => ?_) (fun h10 => ?_)
  ·
    replace hS := it_f h10 hS
    refine VC.seq ?_
    refine VC.region ?_
    refine VL.q (q_assign rfl) (by decide) ?_
    refine VL.to (fun _ _ h => h) ?_
    cases hS
    exact VC.ret (fin1 (.inr rfl) rfl rfl () rfl trivial (fun _ _ => trivial) (fun _ _ => trivial))
  ·
    replace hS := it_t h10 hS
    refine VC.skip_to (fun _ _ h => h) ?_
    refine VC.seq ?_
    refine VC.seq ?_
    refine VC.region ?_
    refine VL.q (q_move rfl) (by decide) ?_
    refine VL.q (q_ln (s := s1_0) Tryd.underlying34 rfl) (by decide) ?_
    refine VL.q (q_move rfl) (by decide) ?_
    refine VL.to (fun _ _ h => h) ?_
    refine VC.keep [0, 1, 12, 13] rfl ?_
    refine VC.block ?_
    refine VC.iter (S := Int) (fun (x13_1 : Int) => x13_1) (fun (x13_1 : Int) => [(0, s1_0.val), (1, s2_1.val), (12, i64 (s1_0.l.length : Int)), (13, i64 x13_1)]) (fun (x13_1 : Int) => Mo.tt) (fun (x13_1 : Int) => Ow.emp) 0 [0, 1, 12, 13] hS rfl ?_
    clear hS
    rintro x13_1 m1 y1 hS hK1
    show VC _ _ _ _ _ [(0, s1_0.val), (1, s2_1.val), (12, i64 (s1_0.l.length : Int)), (13, i64 x13_1)] (Mo.and Mo.tt _) (Ow.emp)
    refine VC.seq ?_
    refine VC.region ?_
    refine VL.q (q_lss rfl rfl) (by decide) ?_
    refine VL.to (fun _ _ h => h) ?_
    refine VC.seq ?_
    refine VC.cond_dec rfl (fun h14 => ?_) (fun h14 => ?_)
    ·
      replace hS := it_t h14 hS
      refine VC.skip_to (fun _ _ h => h) ?_
      refine VC.seq ?_
      refine VC.block ?_
      refine VC.seq ?_
      refine VC.region ?_
      refine VL.q (q_move rfl) (by decide) ?_
      refine VL.q (q_assign rfl) (by decide) ?_
      refine VL.to (fun _ _ h => h) ?_
      refine VC.seq ?_
      refine VC.draw ((List.range 9).map fun k => (k, true)) mixed (by kernel_rfl) (by kernel_rfl) (by kernel_rfl) ?_
      refine VD.q rfl (q_move rfl) (by decide) ?_
      refine VD.q rfl (q_move rfl) (by decide) ?_
      obtain ⟨z18_2, nz18_2, hz18_2, hS⟩ := at_s hS
      refine VD.q rfl (q_ixm (s := s1_0) Tryd.underlying34 gsz51 rfl rfl nz18_2 (lt_of_get nz18_2 hz18_2)) (by decide) ?_
      refine VD.q rfl (q_els (s := s1_0) gagg51 rfl rfl hz18_2) (by decide) ?_
      refine VD.q rfl (q_move rfl) (by decide) ?_
      refine VD.q rfl (q_move rfl) (by decide) ?_
      obtain ⟨z22_3, nz22_3, hz22_3, hS⟩ := at_s hS
      refine VD.q rfl (q_ixm (s := s2_1) Tryd.underlying34 gsz51 rfl rfl nz22_3 (lt_of_get nz22_3 hz22_3)) (by decide) ?_
      refine VD.q rfl (q_els (s := s2_1) gagg51 rfl rfl hz22_3) (by decide) ?_
      refine VD.q rfl (q_stneq geqg51 (geqs51 z18_2.path z18_2.mode z18_2.data z22_3.path z22_3.mode z22_3.data) rfl rfl) (by decide) ?_
      refine VD.to (fun _ _ h => h) ?_
      refine VC.keep [0, 1, 12, 13, 24] rfl ?_
      refine VC.cond_ndec rfl (fun h24 => ?_) (fun h24 => ?_)
      ·
        replace hS := it_f h24 hS
        refine VC.seq ?_
        refine VC.region ?_
        refine VL.q (q_assign rfl) (by decide) ?_
        refine VL.to (fun _ _ h => h) ?_
        replace hS := up2 hS hK1
        cases hS
        exact VC.ret (fin1 (.inr rfl) rfl rfl () rfl trivial (fun _ _ => trivial) (fun _ _ => trivial))
      ·
        replace hS := it_t h24 hS
        refine VC.skip_to (fun _ _ h => h) ?_
        refine VC.region ?_
        obtain ⟨b25, hS⟩ := gd_s hS
        refine VL.q (q_add rfl rfl b25) (by decide) ?_
        refine VL.q (q_move rfl) (by decide) ?_
        refine VL.rnd (x13_1 + 1) [0, 1, 12, 13] (fun _ _ h => h) (go2 hS hK1) rfl
    ·
      replace hS := it_f h14 hS
      replace hS := up2 hS hK1
      refine VC.exit_to (fun _ _ h => h) ?_
      refine VC.seq ?_
      refine VC.region ?_
      refine VL.q (q_assign rfl) (by decide) ?_
      refine VL.to (fun _ _ h => h) ?_
      cases hS
      exact VC.ret (fin1 (.inr rfl) rfl rfl () rfl trivial (fun _ _ => trivial) (fun _ _ => trivial))

set_option maxHeartbeats 4000000 in
set_option maxRecDepth 100000 in
theorem files_Row_Same_ct (r_0 : Sv FilesFile) (q_1 : Sv FilesFile) {r : Bool} (hS : Sh.files_Row_Same r_0.l q_1.l = some r) :
    Ct Tryd.prog 19 [r_0.val, q_1.val] (r_0.ok.and q_1.ok) (Ow.emp) (X := Unit) (fun _ => .bool r) (fun _ => True) (fun _ => Mo.tt) (fun _ => Ow.emp) := by
  refine Ct.of Tryd.func19 rfl (by kernel_rfl) Tryd.ntmps19 (by simp) fun c => ?_
  unfold Sh.files_Row_Same at hS
  refine VC.seq ?_
  refine VC.region ?_
  refine VL.q (q_assign rfl) (by decide) ?_
  refine VL.to (fun _ _ h => h) ?_
  refine VC.seq ?_
  refine VC.region ?_
  refine VL.q (q_move rfl) (by decide) ?_
  refine VL.q (q_move rfl) (by decide) ?_
  obtain ⟨y7_1, ey7_1, hS⟩ := bd_s hS
  refine VL.q (q_call (slices_Equal_files_Row_files_File_ct r_0 q_1 ey7_1) rfl (fun _ _ => rfl)) (by decide) ?_
  refine VL.q (q_assign rfl) (by decide) ?_
  refine VL.to (fun _ _ h => h) ?_
  cases hS
  exact VC.ret (fin1 (.inr rfl) rfl rfl () rfl trivial (fun _ _ => trivial) (fun _ _ => trivial))

set_option maxHeartbeats 4000000 in
set_option maxRecDepth 100000 in
theorem rectolaw14_known_ct  {r : Bool} (hS : Sh.rectolaw14_known = some r) :
    Ct Tryd.prog 12 [] Mo.tt (Ow.emp) (X := Unit) (fun _ => .bool r) (fun _ => True) (fun _ => Mo.tt) (fun _ => Ow.emp) := by
  refine Ct.of Tryd.func12 rfl (by kernel_rfl) Tryd.ntmps12 (by simp) fun c => ?_
  unfold Sh.rectolaw14_known at hS
  refine VC.seq ?_
  refine VC.region ?_
  refine VL.q (q_assign rfl) (by decide) ?_
  refine VL.to (fun _ _ h => h) ?_
  refine VC.seq ?_
  refine VC.region ?_
  refine VL.q (q_build (vs := [(0, str [98]), (1, i64 1), (2, str [120])]) (cs := #[str [98], i64 1, str [120]]) rfl (by kernel_rfl)) (by decide) ?_
  obtain ⟨y8_1, ey8_1, hS⟩ := bd_s hS
  refine VL.callF (files_Row_Put_ct ⟨none, 0, []⟩ (⟨[98], 1, [120]⟩ : FilesFile) ey8_1) rfl (by decide) ?_
  rintro q8_1_0 rfl
  try dsimp only
  refine VL.q (q_build (vs := [(0, str [97]), (1, i64 1)]) (cs := #[str [97], i64 1, str []]) rfl (by kernel_rfl)) (by decide) ?_
  obtain ⟨y10_2, ey10_2, hS⟩ := bd_s hS
  refine VL.callF (files_Row_Put_ct q8_1_0 (⟨[97], 1, []⟩ : FilesFile) ey10_2) rfl (by decide) ?_
  rintro q10_2_0 rfl
  try dsimp only
  refine VL.q (q_assign rfl) (by decide) ?_
  refine VL.to (fun _ _ h => h) ?_
  refine VC.seq ?_
  refine VC.region ?_
  refine VL.q (q_move rfl) (by decide) ?_
  obtain ⟨y13_3, ey13_3, hS⟩ := bd_s hS
  refine VL.q (q_call (files_Row_Get_ct q10_2_0 [98] ey13_3) rfl (fun _ _ => rfl)) (by decide) ?_
  refine VL.q (q_move rfl) (by decide) ?_
  refine VL.q (q_extract rfl rfl) (by decide) ?_
  refine VL.q (q_extract rfl rfl) (by decide) ?_
  refine VL.alloc (cs := [str [], i64 0, str []]) (by kernel_rfl) (by decide) fun b2_4 => ?_
  refine VL.store (vc := [str y13_3.1.path, i64 y13_3.1.mode, str y13_3.1.data]) (cs' := [str y13_3.1.path, i64 y13_3.1.mode, str y13_3.1.data]) rfl rfl rfl gsz51 rfl rfl (Nat.le_of_ble_eq_true rfl) rfl ?_
  refine VL.q (q_assign rfl) (by decide) ?_
  refine VL.to (fun _ _ h => h) ?_
  refine VC.keep [1, 2, 3] rfl ?_
  refine VC.seq ?_
  refine VC.region ?_
  refine VL.q (q_move rfl) (by decide) ?_
  refine VL.q (q_build (vs := [(0, str [98]), (1, i64 2), (2, str [120])]) (cs := #[str [98], i64 2, str [120]]) rfl (by kernel_rfl)) (by decide) ?_
  obtain ⟨y18_5, ey18_5, hS⟩ := bd_s hS
  refine VL.callF (files_Row_Put_ct q10_2_0 (⟨[98], 2, [120]⟩ : FilesFile) ey18_5) rfl (by decide) ?_
  rintro q18_5_0 rfl
  try dsimp only
  refine VL.q (q_assign rfl) (by decide) ?_
  refine VL.to (fun _ _ h => h) ?_
  refine VC.seq ?_
  refine VC.region ?_
  refine VL.q (q_move rfl) (by decide) ?_
  refine VL.q (q_move rfl) (by decide) ?_
  obtain ⟨y21_6, ey21_6, hS⟩ := bd_s hS
  refine VL.callF (files_Diff_ct q10_2_0 q18_5_0 ey21_6) rfl (by decide) ?_
  rintro q21_6_0 rfl
  try dsimp only
  refine VL.q (q_assign rfl) (by decide) ?_
  refine VL.to (fun _ _ h => h) ?_
  refine VC.seq ?_
  refine VC.region ?_
  refine VL.q (q_move rfl) (by decide) ?_
  refine VL.q (q_move rfl) (by decide) ?_
  refine VL.lit (α := Sv FilesFile) (xs := [.tmp 22, .tmp 23]) (vs := [q10_2_0.val, q18_5_0.val]) [q10_2_0, q18_5_0] Tryd.underlying102 glit34 (by decide) rfl rfl rfl rfl (by decide) (fun h m => List.forall_mem_cons.2 ⟨InM.out (X := q10_2_0.ok) h m, List.forall_mem_cons.2 ⟨InM.out (X := q18_5_0.ok) h m, fun _ h => by cases h⟩⟩) (by decide) (fun s24_7 hs24_7 => ?_) (by decide)
  replace hS := lt_to (congrArg (List.map Sv.l) hs24_7) hS
  obtain ⟨y25_9, ey25_9, hS⟩ := bd_s hS
  refine VL.callF (files_Paths_ct s24_7 ey25_9) rfl (by decide) ?_
  rintro q25_9_0 rfl
  try dsimp only
  refine VL.q (q_assign rfl) (by decide) ?_
  refine VL.to (fun _ _ h => h) ?_
  refine VC.keep [1, 2, 3, 4, 5, 6] rfl ?_
  refine VC.seq ?_
  refine VC.region ?_
  refine VL.q (q_move rfl) (by decide) ?_
  refine VL.q (q_ln (s := q10_2_0) Tryd.underlying34 rfl) (by decide) ?_
  refine VL.q (q_eql rfl rfl) (by decide) ?_
  refine VL.q (q_move rfl) (by decide) ?_
  refine VL.split_dec 29 rfl (fun h29 => ?_) (fun h29 => ?_)
  ·
    replace hS := it_t h29 hS
    refine VL.gy rfl rfl (q_move rfl) (by decide) ?_
    obtain ⟨z31_10, nz31_10, hz31_10, hS⟩ := at_s hS
    refine VL.gy rfl rfl (q_ixm (s := q10_2_0) Tryd.underlying34 gsz51 rfl rfl nz31_10 (lt_of_get nz31_10 hz31_10)) (by decide) ?_
    refine VL.gy rfl rfl (q_field gfa51_0 rfl) (by decide) ?_
    refine VL.gy rfl rfl (q_elf (s := q10_2_0) gone9 rfl hz31_10 rfl) (by decide) ?_
    refine VL.gy rfl rfl (q_seq rfl rfl) (by decide) ?_
    refine VL.q (q_pick_t rfl rfl) (by decide) ?_
    refine VL.q (q_move rfl) (by decide) ?_
    refine VL.split_dec 36 rfl (fun h36 => ?_) (fun h36 => ?_)
    ·
      replace hS := it_t h36 hS
      refine VL.gy rfl rfl (q_field gfa51_2 rfl) (by decide) ?_
      refine VL.gy rfl rfl (q_fe gone9 rfl rfl) (by decide) ?_
      refine VL.gy rfl rfl (q_seq rfl rfl) (by decide) ?_
      refine VL.q (q_pick_t rfl rfl) (by decide) ?_
      refine VL.q (q_move rfl) (by decide) ?_
      refine VL.split_dec 41 rfl (fun h41 => ?_) (fun h41 => ?_)
      ·
        replace hS := it_t h41 hS
        refine VL.gy rfl rfl (q_move rfl) (by decide) ?_
        refine VL.q (q_pick_t rfl rfl) (by decide) ?_
        refine VL.q (q_move rfl) (by decide) ?_
        refine VL.split 44 rfl (fun h44 => ?_) (fun h44 => ?_)
        ·
          replace hS := it_t h44 hS
          refine VL.gy rfl rfl (q_move rfl) (by decide) ?_
          refine VL.guard rfl rfl ?_
          obtain ⟨y46_11, ey46_11, hS⟩ := bd_s hS
          refine VL.callF (files_Row_Check_ct q10_2_0 ey46_11) rfl (by decide) ?_
          rintro q46_11_0 rfl
          try dsimp only
          refine VL.gy rfl rfl (q_ereq Tryd.underlying29 rfl) (by decide) ?_
          refine VL.q (q_pick_t rfl rfl) (by decide) ?_
          refine VL.q (q_move rfl) (by decide) ?_
          refine VL.split_dec 49 rfl (fun h49 => ?_) (fun h49 => ?_)
          ·
            replace hS := it_t h49 hS
            refine VL.gy rfl rfl (q_move rfl) (by decide) ?_
            refine VL.gy rfl rfl (q_ln (s := q21_6_0) Tryd.underlying41 rfl) (by decide) ?_
            refine VL.gy rfl rfl (q_eql rfl rfl) (by decide) ?_
            refine VL.q (q_pick_t rfl rfl) (by decide) ?_
            refine VL.q (q_move rfl) (by decide) ?_
            refine VL.split_dec 54 rfl (fun h54 => ?_) (fun h54 => ?_)
            ·
              replace hS := it_t h54 hS
              refine VL.gy rfl rfl (q_move rfl) (by decide) ?_
              obtain ⟨z56_12, nz56_12, hz56_12, hS⟩ := at_s hS
              refine VL.gy rfl rfl (q_ixm (s := q21_6_0) Tryd.underlying41 gsz45 rfl rfl nz56_12 (lt_of_get nz56_12 hz56_12)) (by decide) ?_
              refine VL.gy rfl rfl (q_field gfa45_1 rfl) (by decide) ?_
              refine VL.gy rfl rfl (q_elf (s := q21_6_0) gone9 rfl hz56_12 rfl) (by decide) ?_
              refine VL.gy rfl rfl (q_seq rfl rfl) (by decide) ?_
              refine VL.q (q_pick_t rfl rfl) (by decide) ?_
              refine VL.q (q_move rfl) (by decide) ?_
              refine VL.split_dec 61 rfl (fun h61 => ?_) (fun h61 => ?_)
              ·
                replace hS := it_t h61 hS
                refine VL.gy rfl rfl (q_move rfl) (by decide) ?_
                refine VL.gy rfl rfl (q_ln (s := q25_9_0) Tryd.underlying38 rfl) (by decide) ?_
                refine VL.gy rfl rfl (q_eql rfl rfl) (by decide) ?_
                refine VL.q (q_pick_t rfl rfl) (by decide) ?_
                refine VL.q (q_move rfl) (by decide) ?_
                refine VL.split_dec 66 rfl (fun h66 => ?_) (fun h66 => ?_)
                ·
                  replace hS := it_t h66 hS
                  refine VL.gy rfl rfl (q_move rfl) (by decide) ?_
                  refine VL.guard rfl rfl ?_
                  obtain ⟨y68_13, ey68_13, hS⟩ := bd_s hS
                  refine VL.callF (files_Row_Cut_ct q10_2_0 [97] ey68_13) rfl (by decide) ?_
                  rintro q68_13_0 rfl
                  try dsimp only
                  refine VL.gy rfl rfl (q_ln (s := q68_13_0) Tryd.underlying34 rfl) (by decide) ?_
                  refine VL.gy rfl rfl (q_eql rfl rfl) (by decide) ?_
                  refine VL.q (q_pick_t rfl rfl) (by decide) ?_
                  refine VL.q (q_move rfl) (by decide) ?_
                  refine VL.split_dec 72 rfl (fun h72 => ?_) (fun h72 => ?_)
                  ·
                    replace hS := it_t h72 hS
                    refine VL.gy rfl rfl (q_move rfl) (by decide) ?_
                    refine VL.guard rfl rfl ?_
                    obtain ⟨y74_14, ey74_14, hS⟩ := bd_s hS
                    refine VL.callF (files_Row_Clear_ct q10_2_0 [97, 47, 120] ey74_14) rfl (by decide) ?_
                    rintro q74_14_0 rfl
                    try dsimp only
                    refine VL.gy rfl rfl (q_ln (s := q74_14_0) Tryd.underlying34 rfl) (by decide) ?_
                    refine VL.gy rfl rfl (q_eql rfl rfl) (by decide) ?_
                    refine VL.q (q_pick_t rfl rfl) (by decide) ?_
                    refine VL.q (q_move rfl) (by decide) ?_
                    refine VL.split_dec 78 rfl (fun h78 => ?_) (fun h78 => ?_)
                    ·
                      replace hS := it_t h78 hS
                      refine VL.gy rfl rfl (q_move rfl) (by decide) ?_
                      refine VL.gy rfl rfl (q_move rfl) (by decide) ?_
                      obtain ⟨y81_15, ey81_15, hS⟩ := bd_s hS
                      refine VL.gy rfl rfl (q_call (files_Row_Same_ct q10_2_0 q18_5_0 ey81_15) rfl (fun _ _ => rfl)) (by decide) ?_
                      refine VL.gy rfl rfl (q_not rfl) (by decide) ?_
                      refine VL.q (q_pick_t rfl rfl) (by decide) ?_
                      refine VL.q (q_assign rfl) (by decide) ?_
                      refine VL.to (fun _ _ h => h) ?_
                      refine VC.keep [0] rfl ?_
                      cases hS
                      exact VC.ret (fin1 (.inr rfl) rfl rfl () rfl trivial (fun _ _ => trivial) (fun _ _ => trivial))
                    ·
                      replace hS := it_f h78 hS
                      refine VL.gn rfl rfl rfl (by decide) ?_
                      refine VL.gn rfl rfl rfl (by decide) ?_
                      refine VL.gn rfl rfl rfl (by decide) ?_
                      refine VL.gn rfl rfl rfl (by decide) ?_
                      refine VL.q (q_pick_f rfl rfl) (by decide) ?_
                      refine VL.q (q_assign rfl) (by decide) ?_
                      refine VL.to (fun _ _ h => h) ?_
                      refine VC.keep [0] rfl ?_
                      cases hS
                      exact VC.ret (fin1 (.inr rfl) rfl rfl () rfl trivial (fun _ _ => trivial) (fun _ _ => trivial))
                  ·
                    replace hS := it_f h72 hS
                    refine VL.gn rfl rfl rfl (by decide) ?_
                    refine VL.gn rfl rfl rfl (by decide) ?_
                    refine VL.gn rfl rfl rfl (by decide) ?_
                    refine VL.gn rfl rfl rfl (by decide) ?_
                    refine VL.q (q_pick_f rfl rfl) (by decide) ?_
                    refine VL.q (q_move rfl) (by decide) ?_
                    refine VL.gn rfl rfl rfl (by decide) ?_
                    refine VL.gn rfl rfl rfl (by decide) ?_
                    refine VL.gn rfl rfl rfl (by decide) ?_
                    refine VL.gn rfl rfl rfl (by decide) ?_
                    refine VL.q (q_pick_f rfl rfl) (by decide) ?_
                    refine VL.q (q_assign rfl) (by decide) ?_
                    refine VL.to (fun _ _ h => h) ?_
                    refine VC.keep [0] rfl ?_
                    cases hS
                    exact VC.ret (fin1 (.inr rfl) rfl rfl () rfl trivial (fun _ _ => trivial) (fun _ _ => trivial))
                ·
                  replace hS := it_f h66 hS
                  refine VL.gn rfl rfl rfl (by decide) ?_
                  refine VL.gn rfl rfl rfl (by decide) ?_
                  refine VL.gn rfl rfl rfl (by decide) ?_
                  refine VL.gn rfl rfl rfl (by decide) ?_
                  refine VL.q (q_pick_f rfl rfl) (by decide) ?_
                  refine VL.q (q_move rfl) (by decide) ?_
                  refine VL.gn rfl rfl rfl (by decide) ?_
                  refine VL.gn rfl rfl rfl (by decide) ?_
                  refine VL.gn rfl rfl rfl (by decide) ?_
                  refine VL.gn rfl rfl rfl (by decide) ?_
                  refine VL.q (q_pick_f rfl rfl) (by decide) ?_
                  refine VL.q (q_move rfl) (by decide) ?_
                  refine VL.gn rfl rfl rfl (by decide) ?_
                  refine VL.gn rfl rfl rfl (by decide) ?_
                  refine VL.gn rfl rfl rfl (by decide) ?_
                  refine VL.gn rfl rfl rfl (by decide) ?_
                  refine VL.q (q_pick_f rfl rfl) (by decide) ?_
                  refine VL.q (q_assign rfl) (by decide) ?_
                  refine VL.to (fun _ _ h => h) ?_
                  refine VC.keep [0] rfl ?_
                  cases hS
                  exact VC.ret (fin1 (.inr rfl) rfl rfl () rfl trivial (fun _ _ => trivial) (fun _ _ => trivial))
              ·
                replace hS := it_f h61 hS
                refine VL.gn rfl rfl rfl (by decide) ?_
                refine VL.gn rfl rfl rfl (by decide) ?_
                refine VL.gn rfl rfl rfl (by decide) ?_
                refine VL.q (q_pick_f rfl rfl) (by decide) ?_
                refine VL.q (q_move rfl) (by decide) ?_
                refine VL.gn rfl rfl rfl (by decide) ?_
                refine VL.gn rfl rfl rfl (by decide) ?_
                refine VL.gn rfl rfl rfl (by decide) ?_
                refine VL.gn rfl rfl rfl (by decide) ?_
                refine VL.q (q_pick_f rfl rfl) (by decide) ?_
                refine VL.q (q_move rfl) (by decide) ?_
                refine VL.gn rfl rfl rfl (by decide) ?_
                refine VL.gn rfl rfl rfl (by decide) ?_
                refine VL.gn rfl rfl rfl (by decide) ?_
                refine VL.gn rfl rfl rfl (by decide) ?_
                refine VL.q (q_pick_f rfl rfl) (by decide) ?_
                refine VL.q (q_move rfl) (by decide) ?_
                refine VL.gn rfl rfl rfl (by decide) ?_
                refine VL.gn rfl rfl rfl (by decide) ?_
                refine VL.gn rfl rfl rfl (by decide) ?_
                refine VL.gn rfl rfl rfl (by decide) ?_
                refine VL.q (q_pick_f rfl rfl) (by decide) ?_
                refine VL.q (q_assign rfl) (by decide) ?_
                refine VL.to (fun _ _ h => h) ?_
                refine VC.keep [0] rfl ?_
                cases hS
                exact VC.ret (fin1 (.inr rfl) rfl rfl () rfl trivial (fun _ _ => trivial) (fun _ _ => trivial))
            ·
              replace hS := it_f h54 hS
              refine VL.gn rfl rfl rfl (by decide) ?_
              refine VL.gn rfl rfl rfl (by decide) ?_
              refine VL.gn rfl rfl rfl (by decide) ?_
              refine VL.gn rfl rfl rfl (by decide) ?_
              refine VL.gn rfl rfl rfl (by decide) ?_
              refine VL.q (q_pick_f rfl rfl) (by decide) ?_
              refine VL.q (q_move rfl) (by decide) ?_
              refine VL.gn rfl rfl rfl (by decide) ?_
              refine VL.gn rfl rfl rfl (by decide) ?_
              refine VL.gn rfl rfl rfl (by decide) ?_
              refine VL.q (q_pick_f rfl rfl) (by decide) ?_
              refine VL.q (q_move rfl) (by decide) ?_
              refine VL.gn rfl rfl rfl (by decide) ?_
              refine VL.gn rfl rfl rfl (by decide) ?_
              refine VL.gn rfl rfl rfl (by decide) ?_
              refine VL.gn rfl rfl rfl (by decide) ?_
              refine VL.q (q_pick_f rfl rfl) (by decide) ?_
              refine VL.q (q_move rfl) (by decide) ?_
              refine VL.gn rfl rfl rfl (by decide) ?_
              refine VL.gn rfl rfl rfl (by decide) ?_
              refine VL.gn rfl rfl rfl (by decide) ?_
              refine VL.gn rfl rfl rfl (by decide) ?_
              refine VL.q (q_pick_f rfl rfl) (by decide) ?_
              refine VL.q (q_move rfl) (by decide) ?_
              refine VL.gn rfl rfl rfl (by decide) ?_
              refine VL.gn rfl rfl rfl (by decide) ?_
              refine VL.gn rfl rfl rfl (by decide) ?_
              refine VL.gn rfl rfl rfl (by decide) ?_
              refine VL.q (q_pick_f rfl rfl) (by decide) ?_
              refine VL.q (q_assign rfl) (by decide) ?_
              refine VL.to (fun _ _ h => h) ?_
              refine VC.keep [0] rfl ?_
              cases hS
              exact VC.ret (fin1 (.inr rfl) rfl rfl () rfl trivial (fun _ _ => trivial) (fun _ _ => trivial))
          ·
            replace hS := it_f h49 hS
            refine VL.gn rfl rfl rfl (by decide) ?_
            refine VL.gn rfl rfl rfl (by decide) ?_
            refine VL.gn rfl rfl rfl (by decide) ?_
            refine VL.q (q_pick_f rfl rfl) (by decide) ?_
            refine VL.q (q_move rfl) (by decide) ?_
            refine VL.gn rfl rfl rfl (by decide) ?_
            refine VL.gn rfl rfl rfl (by decide) ?_
            refine VL.gn rfl rfl rfl (by decide) ?_
            refine VL.gn rfl rfl rfl (by decide) ?_
            refine VL.gn rfl rfl rfl (by decide) ?_
            refine VL.q (q_pick_f rfl rfl) (by decide) ?_
            refine VL.q (q_move rfl) (by decide) ?_
            refine VL.gn rfl rfl rfl (by decide) ?_
            refine VL.gn rfl rfl rfl (by decide) ?_
            refine VL.gn rfl rfl rfl (by decide) ?_
            refine VL.q (q_pick_f rfl rfl) (by decide) ?_
            refine VL.q (q_move rfl) (by decide) ?_
            refine VL.gn rfl rfl rfl (by decide) ?_
            refine VL.gn rfl rfl rfl (by decide) ?_
            refine VL.gn rfl rfl rfl (by decide) ?_
            refine VL.gn rfl rfl rfl (by decide) ?_
            refine VL.q (q_pick_f rfl rfl) (by decide) ?_
            refine VL.q (q_move rfl) (by decide) ?_
            refine VL.gn rfl rfl rfl (by decide) ?_
            refine VL.gn rfl rfl rfl (by decide) ?_
            refine VL.gn rfl rfl rfl (by decide) ?_
            refine VL.gn rfl rfl rfl (by decide) ?_
            refine VL.q (q_pick_f rfl rfl) (by decide) ?_
            refine VL.q (q_move rfl) (by decide) ?_
            refine VL.gn rfl rfl rfl (by decide) ?_
            refine VL.gn rfl rfl rfl (by decide) ?_
            refine VL.gn rfl rfl rfl (by decide) ?_
            refine VL.gn rfl rfl rfl (by decide) ?_
            refine VL.q (q_pick_f rfl rfl) (by decide) ?_
            refine VL.q (q_assign rfl) (by decide) ?_
            refine VL.to (fun _ _ h => h) ?_
            refine VC.keep [0] rfl ?_
            cases hS
            exact VC.ret (fin1 (.inr rfl) rfl rfl () rfl trivial (fun _ _ => trivial) (fun _ _ => trivial))
        ·
          replace hS := it_b h44 hS
          refine VL.gn rfl rfl rfl (by decide) ?_
          refine VL.gn rfl rfl rfl (by decide) ?_
          refine VL.gn rfl rfl rfl (by decide) ?_
          refine VL.q (q_pick_f rfl rfl) (by decide) ?_
          refine VL.q (q_move rfl) (by decide) ?_
          refine VL.gn rfl rfl rfl (by decide) ?_
          refine VL.gn rfl rfl rfl (by decide) ?_
          refine VL.gn rfl rfl rfl (by decide) ?_
          refine VL.q (q_pick_f rfl rfl) (by decide) ?_
          refine VL.q (q_move rfl) (by decide) ?_
          refine VL.gn rfl rfl rfl (by decide) ?_
          refine VL.gn rfl rfl rfl (by decide) ?_
          refine VL.gn rfl rfl rfl (by decide) ?_
          refine VL.gn rfl rfl rfl (by decide) ?_
          refine VL.gn rfl rfl rfl (by decide) ?_
          refine VL.q (q_pick_f rfl rfl) (by decide) ?_
          refine VL.q (q_move rfl) (by decide) ?_
          refine VL.gn rfl rfl rfl (by decide) ?_
          refine VL.gn rfl rfl rfl (by decide) ?_
          refine VL.gn rfl rfl rfl (by decide) ?_
          refine VL.q (q_pick_f rfl rfl) (by decide) ?_
          refine VL.q (q_move rfl) (by decide) ?_
          refine VL.gn rfl rfl rfl (by decide) ?_
          refine VL.gn rfl rfl rfl (by decide) ?_
          refine VL.gn rfl rfl rfl (by decide) ?_
          refine VL.gn rfl rfl rfl (by decide) ?_
          refine VL.q (q_pick_f rfl rfl) (by decide) ?_
          refine VL.q (q_move rfl) (by decide) ?_
          refine VL.gn rfl rfl rfl (by decide) ?_
          refine VL.gn rfl rfl rfl (by decide) ?_
          refine VL.gn rfl rfl rfl (by decide) ?_
          refine VL.gn rfl rfl rfl (by decide) ?_
          refine VL.q (q_pick_f rfl rfl) (by decide) ?_
          refine VL.q (q_move rfl) (by decide) ?_
          refine VL.gn rfl rfl rfl (by decide) ?_
          refine VL.gn rfl rfl rfl (by decide) ?_
          refine VL.gn rfl rfl rfl (by decide) ?_
          refine VL.gn rfl rfl rfl (by decide) ?_
          refine VL.q (q_pick_f rfl rfl) (by decide) ?_
          refine VL.q (q_assign rfl) (by decide) ?_
          refine VL.to (fun _ _ h => h) ?_
          refine VC.keep [0] rfl ?_
          cases hS
          exact VC.ret (fin1 (.inr rfl) rfl rfl () rfl trivial (fun _ _ => trivial) (fun _ _ => trivial))
      ·
        replace hS := it_f h41 hS
        refine VL.gn rfl rfl rfl (by decide) ?_
        refine VL.q (q_pick_f rfl rfl) (by decide) ?_
        refine VL.q (q_move rfl) (by decide) ?_
        refine VL.gn rfl rfl rfl (by decide) ?_
        refine VL.gn rfl rfl rfl (by decide) ?_
        refine VL.gn rfl rfl rfl (by decide) ?_
        refine VL.q (q_pick_f rfl rfl) (by decide) ?_
        refine VL.q (q_move rfl) (by decide) ?_
        refine VL.gn rfl rfl rfl (by decide) ?_
        refine VL.gn rfl rfl rfl (by decide) ?_
        refine VL.gn rfl rfl rfl (by decide) ?_
        refine VL.q (q_pick_f rfl rfl) (by decide) ?_
        refine VL.q (q_move rfl) (by decide) ?_
        refine VL.gn rfl rfl rfl (by decide) ?_
        refine VL.gn rfl rfl rfl (by decide) ?_
        refine VL.gn rfl rfl rfl (by decide) ?_
        refine VL.gn rfl rfl rfl (by decide) ?_
        refine VL.gn rfl rfl rfl (by decide) ?_
        refine VL.q (q_pick_f rfl rfl) (by decide) ?_
        refine VL.q (q_move rfl) (by decide) ?_
        refine VL.gn rfl rfl rfl (by decide) ?_
        refine VL.gn rfl rfl rfl (by decide) ?_
        refine VL.gn rfl rfl rfl (by decide) ?_
        refine VL.q (q_pick_f rfl rfl) (by decide) ?_
        refine VL.q (q_move rfl) (by decide) ?_
        refine VL.gn rfl rfl rfl (by decide) ?_
        refine VL.gn rfl rfl rfl (by decide) ?_
        refine VL.gn rfl rfl rfl (by decide) ?_
        refine VL.gn rfl rfl rfl (by decide) ?_
        refine VL.q (q_pick_f rfl rfl) (by decide) ?_
        refine VL.q (q_move rfl) (by decide) ?_
        refine VL.gn rfl rfl rfl (by decide) ?_
        refine VL.gn rfl rfl rfl (by decide) ?_
        refine VL.gn rfl rfl rfl (by decide) ?_
        refine VL.gn rfl rfl rfl (by decide) ?_
        refine VL.q (q_pick_f rfl rfl) (by decide) ?_
        refine VL.q (q_move rfl) (by decide) ?_
        refine VL.gn rfl rfl rfl (by decide) ?_
        refine VL.gn rfl rfl rfl (by decide) ?_
        refine VL.gn rfl rfl rfl (by decide) ?_
        refine VL.gn rfl rfl rfl (by decide) ?_
        refine VL.q (q_pick_f rfl rfl) (by decide) ?_
        refine VL.q (q_assign rfl) (by decide) ?_
        refine VL.to (fun _ _ h => h) ?_
        refine VC.keep [0] rfl ?_
        cases hS
        exact VC.ret (fin1 (.inr rfl) rfl rfl () rfl trivial (fun _ _ => trivial) (fun _ _ => trivial))
    ·
      replace hS := it_f h36 hS
      refine VL.gn rfl rfl rfl (by decide) ?_
      refine VL.gn rfl rfl rfl (by decide) ?_
      refine VL.gn rfl rfl rfl (by decide) ?_
      refine VL.q (q_pick_f rfl rfl) (by decide) ?_
      refine VL.q (q_move rfl) (by decide) ?_
      refine VL.gn rfl rfl rfl (by decide) ?_
      refine VL.q (q_pick_f rfl rfl) (by decide) ?_
      refine VL.q (q_move rfl) (by decide) ?_
      refine VL.gn rfl rfl rfl (by decide) ?_
      refine VL.gn rfl rfl rfl (by decide) ?_
      refine VL.gn rfl rfl rfl (by decide) ?_
      refine VL.q (q_pick_f rfl rfl) (by decide) ?_
      refine VL.q (q_move rfl) (by decide) ?_
      refine VL.gn rfl rfl rfl (by decide) ?_
      refine VL.gn rfl rfl rfl (by decide) ?_
      refine VL.gn rfl rfl rfl (by decide) ?_
      refine VL.q (q_pick_f rfl rfl) (by decide) ?_
      refine VL.q (q_move rfl) (by decide) ?_
      refine VL.gn rfl rfl rfl (by decide) ?_
      refine VL.gn rfl rfl rfl (by decide) ?_
      refine VL.gn rfl rfl rfl (by decide) ?_
      refine VL.gn rfl rfl rfl (by decide) ?_
      refine VL.gn rfl rfl rfl (by decide) ?_
      refine VL.q (q_pick_f rfl rfl) (by decide) ?_
      refine VL.q (q_move rfl) (by decide) ?_
      refine VL.gn rfl rfl rfl (by decide) ?_
      refine VL.gn rfl rfl rfl (by decide) ?_
      refine VL.gn rfl rfl rfl (by decide) ?_
      refine VL.q (q_pick_f rfl rfl) (by decide) ?_
      refine VL.q (q_move rfl) (by decide) ?_
      refine VL.gn rfl rfl rfl (by decide) ?_
      refine VL.gn rfl rfl rfl (by decide) ?_
      refine VL.gn rfl rfl rfl (by decide) ?_
      refine VL.gn rfl rfl rfl (by decide) ?_
      refine VL.q (q_pick_f rfl rfl) (by decide) ?_
      refine VL.q (q_move rfl) (by decide) ?_
      refine VL.gn rfl rfl rfl (by decide) ?_
      refine VL.gn rfl rfl rfl (by decide) ?_
      refine VL.gn rfl rfl rfl (by decide) ?_
      refine VL.gn rfl rfl rfl (by decide) ?_
      refine VL.q (q_pick_f rfl rfl) (by decide) ?_
      refine VL.q (q_move rfl) (by decide) ?_
      refine VL.gn rfl rfl rfl (by decide) ?_
      refine VL.gn rfl rfl rfl (by decide) ?_
      refine VL.gn rfl rfl rfl (by decide) ?_
      refine VL.gn rfl rfl rfl (by decide) ?_
      refine VL.q (q_pick_f rfl rfl) (by decide) ?_
      refine VL.q (q_assign rfl) (by decide) ?_
      refine VL.to (fun _ _ h => h) ?_
      refine VC.keep [0] rfl ?_
      cases hS
      exact VC.ret (fin1 (.inr rfl) rfl rfl () rfl trivial (fun _ _ => trivial) (fun _ _ => trivial))
  ·
    replace hS := it_f h29 hS
    refine VL.gn rfl rfl rfl (by decide) ?_
    refine VL.gn rfl rfl rfl (by decide) ?_
    refine VL.gn rfl rfl rfl (by decide) ?_
    refine VL.gn rfl rfl rfl (by decide) ?_
    refine VL.gn rfl rfl rfl (by decide) ?_
    refine VL.q (q_pick_f rfl rfl) (by decide) ?_
    refine VL.q (q_move rfl) (by decide) ?_
    refine VL.gn rfl rfl rfl (by decide) ?_
    refine VL.gn rfl rfl rfl (by decide) ?_
    refine VL.gn rfl rfl rfl (by decide) ?_
    refine VL.q (q_pick_f rfl rfl) (by decide) ?_
    refine VL.q (q_move rfl) (by decide) ?_
    refine VL.gn rfl rfl rfl (by decide) ?_
    refine VL.q (q_pick_f rfl rfl) (by decide) ?_
    refine VL.q (q_move rfl) (by decide) ?_
    refine VL.gn rfl rfl rfl (by decide) ?_
    refine VL.gn rfl rfl rfl (by decide) ?_
    refine VL.gn rfl rfl rfl (by decide) ?_
    refine VL.q (q_pick_f rfl rfl) (by decide) ?_
    refine VL.q (q_move rfl) (by decide) ?_
    refine VL.gn rfl rfl rfl (by decide) ?_
    refine VL.gn rfl rfl rfl (by decide) ?_
    refine VL.gn rfl rfl rfl (by decide) ?_
    refine VL.q (q_pick_f rfl rfl) (by decide) ?_
    refine VL.q (q_move rfl) (by decide) ?_
    refine VL.gn rfl rfl rfl (by decide) ?_
    refine VL.gn rfl rfl rfl (by decide) ?_
    refine VL.gn rfl rfl rfl (by decide) ?_
    refine VL.gn rfl rfl rfl (by decide) ?_
    refine VL.gn rfl rfl rfl (by decide) ?_
    refine VL.q (q_pick_f rfl rfl) (by decide) ?_
    refine VL.q (q_move rfl) (by decide) ?_
    refine VL.gn rfl rfl rfl (by decide) ?_
    refine VL.gn rfl rfl rfl (by decide) ?_
    refine VL.gn rfl rfl rfl (by decide) ?_
    refine VL.q (q_pick_f rfl rfl) (by decide) ?_
    refine VL.q (q_move rfl) (by decide) ?_
    refine VL.gn rfl rfl rfl (by decide) ?_
    refine VL.gn rfl rfl rfl (by decide) ?_
    refine VL.gn rfl rfl rfl (by decide) ?_
    refine VL.gn rfl rfl rfl (by decide) ?_
    refine VL.q (q_pick_f rfl rfl) (by decide) ?_
    refine VL.q (q_move rfl) (by decide) ?_
    refine VL.gn rfl rfl rfl (by decide) ?_
    refine VL.gn rfl rfl rfl (by decide) ?_
    refine VL.gn rfl rfl rfl (by decide) ?_
    refine VL.gn rfl rfl rfl (by decide) ?_
    refine VL.q (q_pick_f rfl rfl) (by decide) ?_
    refine VL.q (q_move rfl) (by decide) ?_
    refine VL.gn rfl rfl rfl (by decide) ?_
    refine VL.gn rfl rfl rfl (by decide) ?_
    refine VL.gn rfl rfl rfl (by decide) ?_
    refine VL.gn rfl rfl rfl (by decide) ?_
    refine VL.q (q_pick_f rfl rfl) (by decide) ?_
    refine VL.q (q_assign rfl) (by decide) ?_
    refine VL.to (fun _ _ h => h) ?_
    refine VC.keep [0] rfl ?_
    cases hS
    exact VC.ret (fin1 (.inr rfl) rfl rfl () rfl trivial (fun _ _ => trivial) (fun _ _ => trivial))

set_option maxHeartbeats 4000000 in
set_option maxRecDepth 100000 in
theorem rectolaw14_Few_ct (r_0 : Sv FilesFile) {r : Bool} (hS : Sh.rectolaw14_Few r_0.l = some r) :
    Ct Tryd.prog 13 [r_0.val] r_0.ok (Ow.emp) (X := Unit) (fun _ => .bool r) (fun _ => True) (fun _ => Mo.tt) (fun _ => Ow.emp) := by
  refine Ct.of Tryd.func13 rfl (by kernel_rfl) Tryd.ntmps13 (by simp) fun c => ?_
  unfold Sh.rectolaw14_Few at hS
  refine VC.seq ?_
  refine VC.region ?_
  refine VL.q (q_assign rfl) (by decide) ?_
  refine VL.to (fun _ _ h => h) ?_
  refine VC.seq ?_
  refine VC.seq ?_
  refine VC.region ?_
  refine VL.q (q_move rfl) (by decide) ?_
  refine VL.q (q_ln (s := r_0) Tryd.underlying34 rfl) (by decide) ?_
  refine VL.q (q_gtr rfl rfl) (by decide) ?_
  refine VL.to (fun _ _ h => h) ?_
  refine VC.cond_dec rfl (fun h6 => ?_) (fun h6 => ?_)
  ·
    replace hS := it_t h6 hS
    refine VC.seq ?_
    refine VC.region ?_
    refine VL.q (q_assign rfl) (by decide) ?_
    refine VL.to (fun _ _ h => h) ?_
    cases hS
    exact VC.ret (fin1 (.inr rfl) rfl rfl () rfl trivial (fun _ _ => trivial) (fun _ _ => trivial))
  ·
    replace hS := it_f h6 hS
    refine VC.skip_to (fun _ _ h => h) ?_
    refine VC.seq ?_
    refine VC.seq ?_
    refine VC.region ?_
    refine VL.q (q_assign rfl) (by decide) ?_
    refine VL.to (fun _ _ h => h) ?_
    refine VC.block ?_
    refine VC.iter (S := Int) (fun (i3_1 : Int) => i3_1) (fun (i3_1 : Int) => [(0, r_0.val), (3, i64 i3_1)]) (fun (i3_1 : Int) => Mo.tt) (fun (i3_1 : Int) => Ow.emp) 0 [0, 3] hS rfl ?_
    clear hS
    rintro i3_1 m1 y1 hS hK1
    show VC _ _ _ _ _ [(0, r_0.val), (3, i64 i3_1)] (Mo.and Mo.tt _) (Ow.emp)
    refine VC.seq ?_
    refine VC.seq ?_
    refine VC.region ?_
    refine VL.q (q_move rfl) (by decide) ?_
    refine VL.q (q_move rfl) (by decide) ?_
    refine VL.q (q_ln (s := r_0) Tryd.underlying34 rfl) (by decide) ?_
    refine VL.q (q_lss rfl rfl) (by decide) ?_
    refine VL.to (fun _ _ h => h) ?_
    refine VC.cond_dec rfl (fun h10 => ?_) (fun h10 => ?_)
    ·
      replace hS := it_t h10 hS
      refine VC.skip_to (fun _ _ h => h) ?_
      refine VC.seq ?_
      refine VC.block ?_
      refine VC.cutJ (S := Bool) (fun (x28_2 : Bool) => x28_2) (fun (x28_2 : Bool) => [(0, r_0.val), (3, i64 i3_1), (28, .bool x28_2)]) (fun (x28_2 : Bool) => Mo.tt) (fun (x28_2 : Bool) => Ow.emp) hS ?_ ?_
      · -- up to where ways meet
        clear hS
        intro k3 hS
        refine VC.region ?_
        refine VL.q (q_move rfl) (by decide) ?_
        refine VL.q (q_move rfl) (by decide) ?_
        obtain ⟨z15_4, nz15_4, hz15_4, hS⟩ := at_s hS
        refine VL.q (q_ixm (s := r_0) Tryd.underlying34 gsz51 rfl rfl nz15_4 (lt_of_get nz15_4 hz15_4)) (by decide) ?_
        refine VL.q (q_field gfa51_0 rfl) (by decide) ?_
        refine VL.q (q_elf (s := r_0) gone9 rfl hz15_4 rfl) (by decide) ?_
        refine VL.q (q_slen Tryd.underlying9 rfl) (by decide) ?_
        refine VL.q (q_gtr rfl rfl) (by decide) ?_
        refine VL.q (q_move rfl) (by decide) ?_
        refine VL.split_dec 20 rfl (fun h20 => ?_) (fun h20 => ?_)
        ·
          replace hS := it_t h20 hS
          refine VL.gn rfl rfl rfl (by decide) ?_
          refine VL.gn rfl rfl rfl (by decide) ?_
          refine VL.gn rfl rfl rfl (by decide) ?_
          refine VL.gn rfl rfl rfl (by decide) ?_
          refine VL.gn rfl rfl rfl (by decide) ?_
          refine VL.gn rfl rfl rfl (by decide) ?_
          refine VL.gn rfl rfl rfl (by decide) ?_
          refine VL.q (q_pick_t rfl rfl) (by decide) ?_
          refine VL.mt true [0, 3, 28] (fun _ _ h => h) hS rfl
        ·
          replace hS := it_f h20 hS
          refine VL.gy rfl rfl (q_move rfl) (by decide) ?_
          refine VL.gy rfl rfl (q_move rfl) (by decide) ?_
          obtain ⟨z23_5, nz23_5, hz23_5, hS⟩ := at_s hS
          refine VL.gy rfl rfl (q_ixm (s := r_0) Tryd.underlying34 gsz51 rfl rfl nz23_5 (lt_of_get nz23_5 hz23_5)) (by decide) ?_
          refine VL.gy rfl rfl (q_field gfa51_2 rfl) (by decide) ?_
          refine VL.gy rfl rfl (q_elf (s := r_0) gone9 rfl hz23_5 rfl) (by decide) ?_
          refine VL.gy rfl rfl (q_slen Tryd.underlying9 rfl) (by decide) ?_
          refine VL.gy rfl rfl (q_gtr rfl rfl) (by decide) ?_
          refine VL.q (q_pick_f rfl rfl) (by decide) ?_
          refine VL.mt (decide (5000 < (z23_5.data.length : Int))) [0, 3, 28] (fun _ _ h => h) hS rfl
      · -- from there
        clear hS
        rintro x28_2 hS
        show VC _ _ _ _ _ [(0, r_0.val), (3, i64 i3_1), (28, .bool x28_2)] (Mo.and Mo.tt _) (Ow.emp)
        refine VC.cond rfl (fun h28 => ?_) (fun h28 => ?_)
        ·
          replace hS := it_t h28 hS
          refine VC.seq ?_
          refine VC.region ?_
          refine VL.q (q_assign rfl) (by decide) ?_
          refine VL.to (fun _ _ h => h) ?_
          replace hS := up2 hS hK1
          cases hS
          exact VC.ret (fin1 (.inr rfl) rfl rfl () rfl trivial (fun _ _ => trivial) (fun _ _ => trivial))
        ·
          replace hS := it_b h28 hS
          refine VC.skip_to (fun _ _ h => h) ?_
          refine VC.region ?_
          refine VL.q (q_move rfl) (by decide) ?_
          obtain ⟨b12, hS⟩ := gd_s hS
          refine VL.q (q_add rfl rfl b12) (by decide) ?_
          refine VL.q (q_assign rfl) (by decide) ?_
          refine VL.rnd (i3_1 + 1) [0, 3] (fun _ _ h => h) (go2 hS hK1) rfl
    ·
      replace hS := it_f h10 hS
      replace hS := up2 hS hK1
      refine VC.exit_to (fun _ _ h => h) ?_
      refine VC.seq ?_
      refine VC.region ?_
      refine VL.q (q_assign rfl) (by decide) ?_
      refine VL.to (fun _ _ h => h) ?_
      cases hS
      exact VC.ret (fin1 (.inr rfl) rfl rfl () rfl trivial (fun _ _ => trivial) (fun _ _ => trivial))

set_option maxHeartbeats 4000000 in
set_option maxRecDepth 100000 in
theorem rectoref1_Parts_ct (p_0 : Str) {r : List Str} (hS : Sh.rectoref1_Parts p_0 = some r) :
    Ct Tryd.prog 101 [str p_0] Mo.tt (Ow.emp) (X := Sv Str) (fun x => x.val) (fun x => r = x.l) (fun x => Mo.tt) (fun x => Sv.own x 9) := by
  refine Ct.of Tryd.func101 rfl (by kernel_rfl) Tryd.ntmps101 (by simp) fun c => ?_
  unfold Sh.rectoref1_Parts at hS
  refine VC.seq ?_
  refine VC.region ?_
  refine VL.q (q_assign rfl) (by decide) ?_
  refine VL.to (fun _ _ h => h) ?_
  refine VC.seq ?_
  refine VC.seq ?_
  refine VC.region ?_
  refine VL.q (q_move rfl) (by decide) ?_
  refine VL.q (q_seq rfl rfl) (by decide) ?_
  refine VL.to (fun _ _ h => h) ?_
  refine VC.cond_dec rfl (fun h6 => ?_) (fun h6 => ?_)
  ·
    replace hS := it_t h6 hS
    refine VC.seq ?_
    refine VC.region ?_
    refine VL.q (q_assign rfl) (by decide) ?_
    refine VL.to (fun _ _ h => h) ?_
    refine VC.nilO (⟨none, 0, []⟩ : Sv Str) 9 ⟨rfl, rfl⟩ ?_
    cases hS
    exact VC.ret (fin1 (.inr rfl) rfl rfl ⟨none, 0, []⟩ rfl rfl (by (try dsimp only); exact InM.out) (by (try dsimp only); exact EntO.out))
  ·
    replace hS := it_f h6 hS
    refine VC.skip_to (fun _ _ h => h) ?_
    refine VC.seq ?_
    refine VC.region ?_
    refine VL.litO (α := Str) (xs := [.const (str [])]) (vs := [str []]) [[]] Tryd.underlying38 glit9 (by decide) rfl rfl rfl rfl (by decide) (by decide) (fun s7_1 hs7_1 => ?_) (by decide)
    replace hS := lt_to hs7_1 hS
    refine VL.q (q_assign rfl) (by decide) ?_
    refine VL.to (fun _ _ h => h) ?_
    refine VC.seq ?_
    refine VC.seq ?_
    refine VC.region ?_
    refine VL.q (q_assign rfl) (by decide) ?_
    refine VL.to (fun _ _ h => h) ?_
    refine VC.block ?_
    refine VC.iter (S := Sv Str × Int) (fun sg => (sg.1.l, sg.2)) (fun sg => [(0, str p_0), (3, sg.1.val), (4, i64 sg.2)]) (fun sg => Mo.tt) (fun sg => Ow.star (Sv.own sg.1 9) (Ow.emp)) (s7_1, 0) [0, 3, 4] hS rfl ?_
    clear hS
    rintro ⟨out3_3, i4_4⟩ m1 y1 hS hK1
    show VC _ _ _ _ _ [(0, str p_0), (3, out3_3.val), (4, i64 i4_4)] (Mo.and Mo.tt _) (Ow.star (Sv.own out3_3 9) (Ow.emp))
    refine VC.seq ?_
    refine VC.seq ?_
    refine VC.region ?_
    refine VL.q (q_move rfl) (by decide) ?_
    refine VL.q (q_move rfl) (by decide) ?_
    refine VL.q (q_slen Tryd.underlying9 rfl) (by decide) ?_
    refine VL.q (q_lss rfl rfl) (by decide) ?_
    refine VL.to (fun _ _ h => h) ?_
    refine VC.cond_dec rfl (fun h11 => ?_) (fun h11 => ?_)
    ·
      replace hS := it_t h11 hS
      refine VC.skip_to (fun _ _ h => h) ?_
      refine VC.cutJ (S := Sv Str) (fun (out3_5 : Sv Str) => out3_5.l) (fun (out3_5 : Sv Str) => [(0, str p_0), (3, out3_5.val), (4, i64 i4_4)]) (fun (out3_5 : Sv Str) => Mo.tt) (fun (out3_5 : Sv Str) => Ow.star (Sv.own out3_5 9) (Ow.emp)) hS ?_ ?_
      · -- up to where ways meet
        clear hS
        intro k6 hS
        refine VC.block ?_
        refine VC.seq ?_
        refine VC.seq ?_
        refine VC.region ?_
        refine VL.q (q_move rfl) (by decide) ?_
        refine VL.q (q_move rfl) (by decide) ?_
        obtain ⟨z16_7, nz16_7, hz16_7, hS⟩ := at_s hS
        refine VL.q (q_sidx Tryd.underlying9 rfl rfl nz16_7 hz16_7) (by decide) ?_
        refine VL.q (q_eql rfl rfl) (by decide) ?_
        refine VL.to (fun _ _ h => h) ?_
        refine VC.keep [0, 3, 4, 17] rfl ?_
        refine VC.cond_dec rfl (fun h17 => ?_) (fun h17 => ?_)
        ·
          replace hS := it_t h17 hS
          refine VC.seq ?_
          refine VC.region ?_
          refine VL.q (q_move rfl) (by decide) ?_
          refine VL.lit (α := Str) (xs := [.const (str [])]) (vs := [str []]) [[]] Tryd.underlying38 glit9 (by decide) rfl rfl rfl rfl (by decide) (fun _ _ _ _ => trivial) (by decide) (fun s19_8 hs19_8 => ?_) (by decide)
          replace hS := lt_to hs19_8 hS
          obtain ⟨b20, hS⟩ := gd_s hS
          refine VL.app (s := out3_3) (r := s19_8) Tryd.underlying38 gapp9 (by decide) rfl Fo.out (ap1 b20) (ap2 b20 (by decide)) (by decide) (fun s20_10 hs20_10 => ?_)
          replace hS := lt_to hs20_10 hS
          refine VL.q (q_assign rfl) (by decide) ?_
          refine VL.to (fun _ _ h => h) ?_
          refine VC.exit_mt s20_10 [0, 3, 4] (fun _ _ h => h) hS rfl
        ·
          replace hS := it_f h17 hS
          refine VC.skip_to (fun _ _ h => h) ?_
          refine VC.draw [(0, true), (1, true), (2, true), (3, true), (4, true), (5, true), (6, true), (7, true), (8, true), (9, true), (10, true), (11, true), (12, true), (13, true), (14, true), (15, true), (16, true), (17, false)] mixed (by kernel_rfl) (by kernel_rfl) (by kernel_rfl) ?_
          refine VD.q rfl (q_move rfl) (by decide) ?_
          refine VD.q rfl (q_move rfl) (by decide) ?_
          refine VD.q rfl (q_ln (s := out3_3) Tryd.underlying38 rfl) (by decide) ?_
          obtain ⟨b24, hS⟩ := gd_s hS
          refine VD.q rfl (q_sub rfl rfl b24) (by decide) ?_
          refine VD.q rfl (q_move rfl) (by decide) ?_
          refine VD.q rfl (q_move rfl) (by decide) ?_
          refine VD.q rfl (q_ln (s := out3_3) Tryd.underlying38 rfl) (by decide) ?_
          obtain ⟨b28, hS⟩ := gd_s hS
          refine VD.q rfl (q_sub rfl rfl b28) (by decide) ?_
          obtain ⟨z29_12, nz29_12, hz29_12, hS⟩ := at_s hS
          refine VD.q rfl (q_ixo (s := out3_3) Tryd.underlying38 gsz9 rfl rfl nz29_12 (lt_of_get nz29_12 hz29_12)) (by decide) ?_
          refine VD.q rfl (q_elo (s := out3_3) 9 gone9 rfl hz29_12 rfl) (by decide) ?_
          refine VD.q rfl (q_move rfl) (by decide) ?_
          refine VD.q rfl (q_move rfl) (by decide) ?_
          refine VD.q rfl (q_move rfl) (by decide) ?_
          obtain ⟨b34, hS⟩ := gd_s hS
          refine VD.q rfl (q_add rfl rfl b34) (by decide) ?_
          obtain ⟨b35, hS⟩ := gd_s hS
          obtain ⟨y35_13, ey35_13, hS⟩ := lt_s hS
          refine VD.q rfl (q_smidE Tryd.underlying9 rfl rfl rfl b35.1 b35.2.1 b35.2.2 ey35_13) (by decide) ?_
          obtain ⟨b36, hS⟩ := gd_s hS
          obtain ⟨y36_14, ey36_14, hS⟩ := lt_s hS
          refine VD.q rfl (q_catE rfl rfl b36 ey36_14) (by decide) ?_
          obtain ⟨z37_15, nz37_15, hz37_15, hS⟩ := at_s hS
          refine VD.q rfl (q_ixo (s := out3_3) Tryd.underlying38 gsz9 rfl rfl nz37_15 (lt_of_get nz37_15 hz37_15)) (by decide) ?_
          refine VD.one rfl ?_
          refine VL.storeE (s := out3_3) (T := 9) (j := 0) (vc := [str y36_14]) (y36_14 : Str) (by decide) rfl rfl hz37_15 rfl gsz9 rfl rfl (Nat.le_of_ble_eq_true rfl) rfl (fun w16 hw16 haw16 hcw16 hvw16 hbw16 how16 => ?_)
          rw [← hvw16]
          replace hS := lt_to hw16 hS
          refine VL.back (D' := []) (by kernel_rfl) (Pend.nil) ?_
          refine VD.mt w16 [0, 3, 4] (fun _ _ h => h) hS rfl
      · -- from there
        clear hS
        rintro out3_5 hS
        show VC _ _ _ _ _ [(0, str p_0), (3, out3_5.val), (4, i64 i4_4)] (Mo.and Mo.tt _) (Ow.star (Sv.own out3_5 9) (Ow.emp))
        refine VC.region ?_
        refine VL.q (q_move rfl) (by decide) ?_
        obtain ⟨b13, hS⟩ := gd_s hS
        refine VL.q (q_add rfl rfl b13) (by decide) ?_
        refine VL.q (q_assign rfl) (by decide) ?_
        refine VL.rnd (out3_5, (i4_4 + 1)) [0, 3, 4] (fun _ _ h => h) (go2 hS hK1) rfl
    ·
      replace hS := it_f h11 hS
      replace hS := up2 hS hK1
      refine VC.exit_to (fun _ _ h => h) ?_
      refine VC.seq ?_
      refine VC.region ?_
      refine VL.q (q_move rfl) (by decide) ?_
      refine VL.q (q_assign rfl) (by decide) ?_
      refine VL.to (fun _ _ h => h) ?_
      cases hS
      exact VC.ret (fin1 (.inr rfl) rfl rfl out3_3 rfl rfl (by (try dsimp only); exact InM.out) (by (try dsimp only); exact EntO.out))

end Go.Proofs.YtipnlckfohhkbaaDoor
end
