/- Part of the proofs of: The steps that bring what one commit has, and another not, are those of the document and can be done, for any graph and any two commits. -/
import Derived.Test.YtnkoilkmnpmlmaaDoorRows
import Derived.Test.YtnkoilkmnpmlmaaDoorTB
set_option linter.unusedVariables false
set_option linter.unusedSimpArgs false
set_option linter.unusedSectionVars false
section
set_option linter.unusedVariables false
namespace Go.Proofs.YtnkoilkmnpmlmaaDoor
open Go.RowKit Go.V
open Go.S hiding Str
theorem mixed : Tryd.prog.follows .mixedOrders = true := by kernel_rfl
theorem gszb : (Tryd.prog.info? 101).map (·.size) = some 2 := by kernel_rfl
theorem gappb : ((Tryd.prog.info? 5).map fun i => (i.size, i.bytes, i.zero)) = some (1, 1, some (.int .u8 0)) := by kernel_rfl
theorem gfa101_0 : FieldAt Tryd.prog 101 0 0 := fieldAt_sz (n := 0) (f := ⟨_, _, 0, _, _, _, _⟩) Tryd.underlying101 rfl (by kernel_rfl)
theorem gfa101_1 : FieldAt Tryd.prog 101 1 1 := fieldAt_sz (n := 0) (f := ⟨_, _, 1, _, _, _, _⟩) Tryd.underlying101 rfl (by kernel_rfl)
theorem gone99 : OneCell Tryd.prog 99 := oneCell_of Tryd.underlying99 rfl
theorem gone22 : OneCell Tryd.prog 22 := oneCell_of Tryd.underlying22 rfl
theorem gsz99 : (Tryd.prog.info? 99).map (·.size) = some 1 := by kernel_rfl
theorem gsz22 : (Tryd.prog.info? 22).map (·.size) = some 1 := by kernel_rfl
theorem gmk9 : ((Tryd.prog.info? 9).map fun i => (i.size, i.bytes, i.zero.map fun z => z.cells.toList)) = some (1, 16, some [str []]) := by kernel_rfl
theorem gsz9 : (Tryd.prog.info? 9).map (·.size) = some 1 := by kernel_rfl
theorem gone9 : OneCell Tryd.prog 9 := oneCell_of Tryd.underlying9 rfl
theorem gsz48 : (Tryd.prog.info? 48).map (·.size) = some 3 := by kernel_rfl
theorem gsz5 : (Tryd.prog.info? 5).map (·.size) = some 1 := by kernel_rfl
theorem gone5 : OneCell Tryd.prog 5 := oneCell_of Tryd.underlying5 rfl
theorem gagg48 : AggOf Tryd.prog 48 3 := aggOf_of Tryd.underlying48 rfl (by kernel_rfl)
theorem glit48 : ((Tryd.prog.info? 48).map fun i => (i.size, i.zero.isSome)) = some (3, true) := by kernel_rfl
theorem gapp48 : ((Tryd.prog.info? 48).map fun i => (i.size, i.bytes, (i.zero.map fun z => z.cells.size))) = some (3, 40, some 3) := by kernel_rfl
theorem glit3 : ((Tryd.prog.info? 3).map fun i => (i.size, i.zero.isSome)) = some (1, true) := by kernel_rfl
theorem glit24 : ((Tryd.prog.info? 24).map fun i => (i.size, i.zero.isSome)) = some (1, true) := by kernel_rfl
theorem gmk4 : ((Tryd.prog.info? 4).map fun i => (i.size, i.bytes, i.zero.map fun z => z.cells.toList)) = some (1, 1, some [.bool false]) := by kernel_rfl
theorem ghas3 : ((Tryd.prog.info? 3).map (·.size)).isSome = true := by kernel_rfl
theorem gapp3 : ((Tryd.prog.info? 3).map fun i => (i.size, i.bytes, (i.zero.map fun z => z.cells.size))) = some (1, 8, some 1) := by kernel_rfl
theorem gsz3 : (Tryd.prog.info? 3).map (·.size) = some 1 := by kernel_rfl
theorem gone3 : OneCell Tryd.prog 3 := oneCell_of Tryd.underlying3 rfl
theorem gsz4 : (Tryd.prog.info? 4).map (·.size) = some 1 := by kernel_rfl
theorem gone4 : OneCell Tryd.prog 4 := oneCell_of Tryd.underlying4 rfl
theorem gsz24 : (Tryd.prog.info? 24).map (·.size) = some 1 := by kernel_rfl
theorem gone24 : OneCell Tryd.prog 24 := oneCell_of Tryd.underlying24 rfl
theorem gfa48_2 : FieldAt Tryd.prog 48 2 2 := fieldAt_sz (n := 0) (f := ⟨_, _, 2, _, _, _, _⟩) Tryd.underlying48 rfl (by kernel_rfl)
theorem gfa48_0 : FieldAt Tryd.prog 48 0 0 := fieldAt_sz (n := 0) (f := ⟨_, _, 0, _, _, _, _⟩) Tryd.underlying48 rfl (by kernel_rfl)
theorem gfa48_1 : FieldAt Tryd.prog 48 1 1 := fieldAt_sz (n := 0) (f := ⟨_, _, 1, _, _, _, _⟩) Tryd.underlying48 rfl (by kernel_rfl)
theorem glit94 : ((Tryd.prog.info? 94).map fun i => (i.size, i.zero.isSome)) = some (3, true) := by kernel_rfl
theorem gapp94 : ((Tryd.prog.info? 94).map fun i => (i.size, i.bytes, (i.zero.map fun z => z.cells.size))) = some (3, 40, some 3) := by kernel_rfl
theorem gsz94 : (Tryd.prog.info? 94).map (·.size) = some 3 := by kernel_rfl
theorem gfa94_0 : FieldAt Tryd.prog 94 0 0 := fieldAt_sz (n := 0) (f := ⟨_, _, 0, _, _, _, _⟩) Tryd.underlying94 rfl (by kernel_rfl)
theorem gfa94_1 : FieldAt Tryd.prog 94 1 1 := fieldAt_sz (n := 0) (f := ⟨_, _, 1, _, _, _, _⟩) Tryd.underlying94 rfl (by kernel_rfl)
theorem gfa94_2 : FieldAt Tryd.prog 94 2 2 := fieldAt_sz (n := 0) (f := ⟨_, _, 2, _, _, _, _⟩) Tryd.underlying94 rfl (by kernel_rfl)
theorem geqs48 : ∀ (x0 : List UInt8) (x1 : Int) (x2 : List UInt8) (y0 : List UInt8) (y1 : Int) (y2 : List UInt8) (w : World), (Op.equalIn 10000 48 (.agg #[str x0, i64 x1, str x2]) (.agg #[str y0, i64 y1, str y2])).run Tryd.prog w = .ok (decide (x0 = y0 ∧ x1 = y1 ∧ x2 = y2)) w := by
  intro x0 x1 x2 y0 y1 y2 w
  have hS : Tryd.prog.underlying 48 = some (.struct (Tryd.prog.fieldsOf 48)) := by kernel_rfl
  rw [show (10000 : Nat) = 9999 + 1 from rfl, run_equalIn_agg w 9999 48 _ _ hS (by kernel_rfl)]
  simp only [Program.fieldsOf, Tryd.underlying48]
  go_simp
  by_cases h0 : x0 = y0 <;> by_cases h1 : x1 = y1 <;> by_cases h2 : x2 = y2 <;> simp [h0, h1, h2]
theorem geqg48 : Tryd.prog.eqGuardType Tryd.prog.depth 48 = false := by kernel_rfl
set_option maxRecDepth 100000 in
theorem copyCheck_ct (b : Nat) (p u : Value) (hp : p = .pointer none ∨ p = ptr b 0) (hu : u.oneCell' = true) : Ct Tryd.prog 94 [ptr b 0] Mo.tt (Blk b [p, u] 101) (X := Unit) (fun _ => .tuple #[]) (fun _ => True) (fun _ => Mo.tt) (fun _ => Blk b [ptr b 0, u] 101) := by
  refine Ct.of Tryd.func94 rfl (by kernel_rfl) Tryd.ntmps94 (by simp) fun c => ?_
  rcases hp with rfl | rfl
  · refine VC.seq ?_
    refine VC.region ?_
    refine VL.q (q_move rfl) (by decide) ?_
    refine VL.q (q_nilCheck rfl) (by decide) ?_
    refine VL.q (q_field gfa101_0 rfl) (by decide) ?_
    refine VL.q (q_fe gone99 rfl rfl) (by decide) ?_
    refine VL.q (q_peqn Tryd.underlying99 rfl) (by decide) ?_
    refine VL.to (fun _ _ h => h) ?_
    refine VC.cond_t rfl ?_
    refine VC.region ?_
    refine VL.q (q_move rfl) (by decide) ?_
    refine VL.q (q_move rfl) (by decide) ?_
    refine VL.q (q_tou (n := 1) Tryd.underlying99 Tryd.underlying191 gszb rfl (by simp)) (by decide) ?_
    refine VL.q (q_noEscape Tryd.func132 rfl rfl (by kernel_rfl) (by kernel_rfl) rfl) (by decide) ?_
    refine VL.q (q_fromu (n := 2) (cs := [.pointer none, u]) Tryd.underlying191 Tryd.underlying99 gszb rfl (by kernel_rfl)) (by decide) ?_
    refine VL.q (q_nilCheck rfl) (by decide) ?_
    refine VL.q (q_field gfa101_0 rfl) (by decide) ?_
    refine VL.store (vc := [ptr b 0]) (cs' := [ptr b 0, u]) rfl rfl rfl gsz99 rfl rfl (Nat.le_of_ble_eq_true rfl) rfl ?_
    exact VL.nil (fin0 (.inl rfl) rfl () rfl trivial (fun _ _ => trivial) (by exact EntO.out))
  · refine VC.seq ?_
    refine VC.region ?_
    refine VL.q (q_move rfl) (by decide) ?_
    refine VL.q (q_nilCheck rfl) (by decide) ?_
    refine VL.q (q_field gfa101_0 rfl) (by decide) ?_
    refine VL.q (q_fe gone99 rfl rfl) (by decide) ?_
    refine VL.q (q_peqn Tryd.underlying99 rfl) (by decide) ?_
    refine VL.to (fun _ _ h => h) ?_
    refine VC.cond_f rfl ?_
    refine VC.seq ?_
    refine VC.region ?_
    refine VL.q (q_move rfl) (by decide) ?_
    refine VL.q (q_nilCheck rfl) (by decide) ?_
    refine VL.q (q_field gfa101_0 rfl) (by decide) ?_
    refine VL.q (q_fe gone99 rfl rfl) (by decide) ?_
    refine VL.q (q_move rfl) (by decide) ?_
    refine VL.q (q_pne Tryd.underlying99 gszb rfl rfl) (by decide) ?_
    refine VL.to (fun _ _ h => h) ?_
    refine VC.cond_f rfl ?_
    exact VC.skip (fin0 (.inl rfl) rfl () rfl trivial (fun _ _ => trivial) (by exact EntO.out))

set_option maxRecDepth 100000 in
theorem writeString_ct (b : Nat) (l s : Str) (hb : l.length + s.length ≤ 4294967296) : Ct Tryd.prog 51 [ptr b 0, str s] Mo.tt (Bd 101 5 b l) (X := Unit) (fun _ => .tuple #[i64 s.length, .nilIface]) (fun _ => True) (fun _ => Mo.tt) (fun _ => Bd 101 5 b (l ++ s)) := by
  refine Ct.monoE (E1 := fun z => ∃ q : Value × Sv UInt8, ((q.1 = .pointer none ∨ q.1 = ptr b 0) ∧ q.2.l = l ∧ (q.2.c = 0 → q.2.a = none)) ∧ Ow.star (Blk b [q.1, q.2.val] 101) (q.2.own 5) z) (Ct.exE (entry_of Tryd.func51 rfl (by kernel_rfl)) ?_) (fun z ⟨p, q, h1, h2, h3, h4⟩ => ⟨(p, q), ⟨h1, h2, h3⟩, h4⟩)
  rintro ⟨p, q⟩ ⟨hp, hl, hc⟩
  dsimp only at hp hl hc ⊢
  refine Ct.of Tryd.func51 rfl (by kernel_rfl) Tryd.ntmps51 (by simp) fun c => ?_
  refine VC.seq ?_
  refine VC.region ?_
  refine VL.q (q_assign rfl) (by decide) ?_
  refine VL.q (q_assign rfl) (by decide) ?_
  refine VL.to (fun _ _ h => h) ?_
  refine VC.seq ?_
  refine VC.region ?_
  refine VL.q (q_move rfl) (by decide) ?_
  refine VL.callO (copyCheck_ct b p q.val hp rfl) rfl (by decide) ?_
  rintro _ _
  refine VL.to (fun _ _ h => h) ?_
  refine VC.seq ?_
  refine VC.region ?_
  refine VL.q (q_move rfl) (by decide) ?_
  refine VL.q (q_move rfl) (by decide) ?_
  refine VL.q (q_nilCheck rfl) (by decide) ?_
  refine VL.q (q_field gfa101_1 rfl) (by decide) ?_
  refine VL.q (q_fe gone22 rfl rfl) (by decide) ?_
  refine VL.q (q_move rfl) (by decide) ?_
  refine VL.appS (s := q) (r := s) Tryd.underlying22 Tryd.underlying9 gappb rfl Fo.out (by rw [hl]; exact hb) (by decide) fun q2 hq2 hc2 => ?_
  refine VL.q (q_nilCheck rfl) (by decide) ?_
  refine VL.q (q_field gfa101_1 rfl) (by decide) ?_
  refine VL.store (vc := [q2.val]) (cs' := [ptr b 0, q2.val]) rfl rfl rfl gsz22 rfl rfl (Nat.le_of_ble_eq_true rfl) rfl ?_
  refine VL.to (fun _ _ h => h) ?_
  refine VC.seq ?_
  refine VC.region ?_
  refine VL.q (q_move rfl) (by decide) ?_
  refine VL.q (q_slen Tryd.underlying9 rfl) (by decide) ?_
  refine VL.q (q_assign rfl) (by decide) ?_
  refine VL.q (q_assign rfl) (by decide) ?_
  refine VL.to (fun _ _ h => h) ?_
  exact VC.ret (fin2 (.inr rfl) rfl rfl rfl () rfl trivial (fun _ _ => trivial) (fun z hz => Bd.mk (p := ptr b 0) (s := q2) (.inr rfl) (by rw [hq2, hl]) (hc2 hc) ((EntO.out (E' := Ow.star (Blk b [ptr b 0, q2.val] 101) (q2.own 5))) z hz)))

set_option maxRecDepth 100000 in
theorem string_ct (b : Nat) (l : Str) : Ct Tryd.prog 53 [ptr b 0] Mo.tt (Bd 101 5 b l) (X := Unit) (fun _ => str l) (fun _ => True) (fun _ => Mo.tt) (fun _ => Ow.emp) := by
  refine Ct.monoE (E1 := fun z => ∃ q : Value × Sv UInt8, ((q.1 = .pointer none ∨ q.1 = ptr b 0) ∧ q.2.l = l ∧ (q.2.c = 0 → q.2.a = none)) ∧ Ow.star (Blk b [q.1, q.2.val] 101) (q.2.own 5) z) (Ct.exE (entry_of Tryd.func53 rfl (by kernel_rfl)) ?_) (fun z ⟨p, q, h1, h2, h3, h4⟩ => ⟨(p, q), ⟨h1, h2, h3⟩, h4⟩)
  rintro ⟨p, q⟩ ⟨hp, rfl, hc⟩
  dsimp only at hp hc ⊢
  refine Ct.of Tryd.func53 rfl (by kernel_rfl) Tryd.ntmps53 (by simp) fun c => ?_
  refine VC.seq ?_
  refine VC.region ?_
  refine VL.q (q_assign rfl) (by decide) ?_
  refine VL.to (fun _ _ h => h) ?_
  refine VC.seq ?_
  refine VC.draw [(0, true), (1, true), (2, true), (3, true), (4, true), (5, true), (6, true), (7, true), (8, true), (9, true), (10, false), (11, true)] mixed (by kernel_rfl) (by kernel_rfl) (by kernel_rfl) ?_
  refine VD.q rfl (q_move rfl) (by decide) ?_
  refine VD.q rfl (q_nilCheck rfl) (by decide) ?_
  refine VD.q rfl (q_field gfa101_1 rfl) (by decide) ?_
  refine VD.q rfl (q_fe gone22 rfl rfl) (by decide) ?_
  refine VD.q rfl (q_sdata (s := q) rfl hc) (by decide) ?_
  refine VD.q rfl (q_move rfl) (by decide) ?_
  refine VD.q rfl (q_nilCheck rfl) (by decide) ?_
  refine VD.q rfl (q_field gfa101_1 rfl) (by decide) ?_
  refine VD.q rfl (q_fe gone22 rfl rfl) (by decide) ?_
  refine VD.q rfl (q_ln (s := q) Tryd.underlying22 rfl) (by decide) ?_
  refine VD.one rfl ?_
  refine VL.ustr (s := q) (e := 5) rfl Fo.out (by decide) (fun w h z o l k m => St.ustr (e := 5) Tryd.underlying155 (by kernel_rfl) o l k m) ?_
  refine VL.back (D' := []) (by kernel_rfl) Pend.nil ?_
  refine VD.q rfl (q_assign rfl) (by decide) ?_
  refine VD.to (fun _ _ h => h) ?_
  exact VC.ret (fin1 (.inr rfl) rfl rfl () rfl trivial (fun _ _ => trivial) (fun _ _ => trivial))

theorem itoa_ct (n : Int) (b : Go.S.I64 n) : Ct Tryd.prog 52 [i64 n] Gl Ow.emp (X := Unit) (fun _ => str (Go.S.itoaS n)) (fun _ => True) (fun _ => Mo.tt) (fun _ => Ow.emp) :=
  Ct.of_gr (entry_of Tryd.func52 rfl (by kernel_rfl)) fun w h m l => (Tryd.strconv_Itoa n b.1 b.2 w (GBlk.var (by kernel_rfl) (InM.out (X := GBlk 0 _) h m) l)).mono fun e w' ⟨h1, k, os, h2⟩ => ⟨by rw [h1, itoaS_eq b], h2 ▸ Gr.grown w k os⟩

set_option maxHeartbeats 4000000 in
set_option maxRecDepth 100000 in
theorem unicode_utf8_RuneCountInString_ct (s_0 : Str) {r : Int} (hS : Sh.unicode_utf8_RuneCountInString s_0 = some r) :
    Ct Tryd.prog 163 [str s_0] Mo.tt (Ow.emp) (X := Unit) (fun _ => i64 r) (fun _ => True) (fun _ => Mo.tt) (fun _ => Ow.emp) := by
  refine Ct.of Tryd.func163 rfl (by kernel_rfl) Tryd.ntmps163 (by simp) fun c => ?_
  unfold Sh.unicode_utf8_RuneCountInString at hS
  refine VC.seq ?_
  refine VC.region ?_
  refine VL.q (q_assign rfl) (by decide) ?_
  refine VL.to (fun _ _ h => h) ?_
  refine VC.seq ?_
  refine VC.seq ?_
  refine VC.region ?_
  refine VL.q (q_move rfl) (by decide) ?_
  cases hS

set_option maxHeartbeats 4000000 in
set_option maxRecDepth 100000 in
theorem unicode_utf8_decodeRuneInStringSlow_ct (a_0 : Str) {r : Int × Int} (hS : Sh.unicode_utf8_decodeRuneInStringSlow a_0 = some r) :
    Ct Tryd.prog 166 [str a_0] Mo.tt (Ow.emp) (X := Unit) (fun _ => .tuple #[.int .i32 r.1, i64 r.2]) (fun _ => True) (fun _ => Mo.tt) (fun _ => Ow.emp) := by
  refine Ct.of Tryd.func166 rfl (by kernel_rfl) Tryd.ntmps166 (by simp) fun c => ?_
  unfold Sh.unicode_utf8_decodeRuneInStringSlow at hS
  refine VC.seq ?_
  refine VC.region ?_
  refine VL.q (q_assign rfl) (by decide) ?_
  refine VL.q (q_assign rfl) (by decide) ?_
  refine VL.to (fun _ _ h => h) ?_
  refine VC.seq ?_
  refine VC.region ?_
  refine VL.q (q_move rfl) (by decide) ?_
  refine VL.q (q_slen Tryd.underlying9 rfl) (by decide) ?_
  refine VL.q (q_assign rfl) (by decide) ?_
  refine VL.to (fun _ _ h => h) ?_
  refine VC.seq ?_
  refine VC.seq ?_
  refine VC.region ?_
  refine VL.q (q_move rfl) (by decide) ?_
  refine VL.q (q_lss rfl rfl) (by decide) ?_
  refine VL.to (fun _ _ h => h) ?_
  refine VC.cond_dec rfl (fun h16 => ?_) (fun h16 => ?_)
  ·
    replace hS := it_t h16 hS
    refine VC.seq ?_
    refine VC.region ?_
    refine VL.q (q_assign rfl) (by decide) ?_
    refine VL.q (q_assign rfl) (by decide) ?_
    refine VL.to (fun _ _ h => h) ?_
    cases hS
    exact VC.ret (fin2 (.inr rfl) rfl rfl rfl () rfl trivial (fun _ _ => trivial) (fun _ _ => trivial))
  ·
    replace hS := it_f h16 hS
    refine VC.skip_to (fun _ _ h => h) ?_
    refine VC.seq ?_
    refine VC.region ?_
    refine VL.q (q_move rfl) (by decide) ?_
    obtain ⟨z18_1, nz18_1, hz18_1, hS⟩ := at_s hS
    refine VL.q (q_sidx Tryd.underlying9 rfl rfl nz18_1 hz18_1) (by decide) ?_
    refine VL.q (q_assign rfl) (by decide) ?_
    refine VL.to (fun _ _ h => h) ?_
    refine VC.keep [0, 4, 5] rfl ?_
    refine VC.seq ?_
    refine VC.region ?_
    refine VL.q (q_move rfl) (by decide) ?_
    cases hS

set_option maxHeartbeats 4000000 in
set_option maxRecDepth 100000 in
theorem unicode_utf8_DecodeRuneInString_ct (s_0 : Str) {r : Int × Int} (hS : Sh.unicode_utf8_DecodeRuneInString s_0 = some r) :
    Ct Tryd.prog 138 [str s_0] Mo.tt (Ow.emp) (X := Unit) (fun _ => .tuple #[.int .i32 r.1, i64 r.2]) (fun _ => True) (fun _ => Mo.tt) (fun _ => Ow.emp) := by
  refine Ct.of Tryd.func138 rfl (by kernel_rfl) Tryd.ntmps138 (by simp) fun c => ?_
  unfold Sh.unicode_utf8_DecodeRuneInString at hS
  refine VC.seq ?_
  refine VC.region ?_
  refine VL.q (q_assign rfl) (by decide) ?_
  refine VL.q (q_assign rfl) (by decide) ?_
  refine VL.to (fun _ _ h => h) ?_
  refine VC.seq ?_
  refine VC.cutJ (S := Bool) (fun (x10_1 : Bool) => x10_1) (fun (x10_1 : Bool) => [(0, str s_0), (10, .bool x10_1)]) (fun (x10_1 : Bool) => Mo.tt) (fun (x10_1 : Bool) => Ow.emp) hS ?_ ?_
  · -- up to where ways meet
    clear hS
    intro k2 hS
    refine VC.region ?_
    refine VL.q (q_move rfl) (by decide) ?_
    refine VL.q (q_sne rfl rfl) (by decide) ?_
    refine VL.q (q_move rfl) (by decide) ?_
    refine VL.split_ndec 6 rfl (fun h6 => ?_) (fun h6 => ?_)
    ·
      replace hS := it_f h6 hS
      refine VL.gy rfl rfl (q_move rfl) (by decide) ?_
      obtain ⟨z8_3, nz8_3, hz8_3, hS⟩ := at_s hS
      refine VL.gy rfl rfl (q_sidx Tryd.underlying9 rfl rfl nz8_3 hz8_3) (by decide) ?_
      refine VL.gy rfl rfl (q_lss rfl rfl) (by decide) ?_
      refine VL.q (q_pick_t rfl rfl) (by decide) ?_
      refine VL.mt (decide ((z8_3.toNat : Int) < 128)) [0, 10] (fun _ _ h => h) hS rfl
    ·
      replace hS := it_t h6 hS
      refine VL.gn rfl rfl rfl (by decide) ?_
      refine VL.gn rfl rfl rfl (by decide) ?_
      refine VL.gn rfl rfl rfl (by decide) ?_
      refine VL.q (q_pick_f rfl rfl) (by decide) ?_
      refine VL.mt false [0, 10] (fun _ _ h => h) hS rfl
  · -- from there
    clear hS
    rintro x10_1 hS
    show VC _ _ _ _ _ [(0, str s_0), (10, .bool x10_1)] (Mo.and Mo.tt _) (Ow.emp)
    refine VC.cond rfl (fun h10 => ?_) (fun h10 => ?_)
    ·
      replace hS := it_t h10 hS
      refine VC.seq ?_
      refine VC.region ?_
      refine VL.q (q_move rfl) (by decide) ?_
      obtain ⟨z12_4, nz12_4, hz12_4, hS⟩ := at_s hS
      refine VL.q (q_sidx Tryd.underlying9 rfl rfl nz12_4 hz12_4) (by decide) ?_
      refine VL.q (q_conv Tryd.underlying5 Tryd.underlying21 rfl (wr_i32 z12_4)) (by decide) ?_
      refine VL.q (q_assign rfl) (by decide) ?_
      refine VL.q (q_assign rfl) (by decide) ?_
      refine VL.to (fun _ _ h => h) ?_
      cases hS
      exact VC.ret (fin2 (.inr rfl) rfl rfl rfl () rfl trivial (fun _ _ => trivial) (fun _ _ => trivial))
    ·
      replace hS := it_b h10 hS
      refine VC.region ?_
      refine VL.q (q_move rfl) (by decide) ?_
      obtain ⟨y16_5, ey16_5, hS⟩ := bd_s hS
      refine VL.q (q_call (unicode_utf8_decodeRuneInStringSlow_ct s_0 ey16_5) rfl (fun _ _ => rfl)) (by decide) ?_
      refine VL.q (q_move rfl) (by decide) ?_
      refine VL.q (q_extract rfl rfl) (by decide) ?_
      refine VL.q (q_extract rfl rfl) (by decide) ?_
      refine VL.q (q_assign rfl) (by decide) ?_
      refine VL.q (q_assign rfl) (by decide) ?_
      refine VL.to (fun _ _ h => h) ?_
      cases hS
      exact VC.ret (fin2 (.inr rfl) rfl rfl rfl () rfl trivial (fun _ _ => trivial) (fun _ _ => trivial))

set_option maxHeartbeats 4000000 in
set_option maxRecDepth 100000 in
theorem strings_explode_ct (s_0 : Str) (n_1 : Int) {r : List Str} (hS : Sh.strings_explode s_0 n_1 = some r) :
    Ct Tryd.prog 134 [str s_0, i64 n_1] Mo.tt (Ow.emp) (X := Sv Str) (fun x => x.val) (fun x => r = x.l) (fun x => Mo.tt) (fun x => Sv.own x 9) := by
  refine Ct.of Tryd.func134 rfl (by kernel_rfl) Tryd.ntmps134 (by simp) fun c => ?_
  unfold Sh.strings_explode at hS
  refine VC.seq ?_
  refine VC.region ?_
  refine VL.q (q_assign rfl) (by decide) ?_
  refine VL.to (fun _ _ h => h) ?_
  refine VC.seq ?_
  refine VC.region ?_
  refine VL.q (q_move rfl) (by decide) ?_
  obtain ⟨y11_1, ey11_1, hS⟩ := bd_s hS
  refine VL.q (q_call (unicode_utf8_RuneCountInString_ct s_0 ey11_1) rfl (fun _ _ => rfl)) (by decide) ?_
  refine VL.q (q_assign rfl) (by decide) ?_
  refine VL.to (fun _ _ h => h) ?_
  refine VC.cutJ (S := Int) (fun (n1_2 : Int) => n1_2) (fun (n1_2 : Int) => [(0, str s_0), (1, i64 n1_2)]) (fun (n1_2 : Int) => Mo.tt) (fun (n1_2 : Int) => Ow.emp) hS ?_ ?_
  · -- up to where ways meet
    clear hS
    intro k3 hS
    refine VC.cutJ (S := Bool) (fun (x18_4 : Bool) => x18_4) (fun (x18_4 : Bool) => [(0, str s_0), (1, i64 n_1), (5, i64 y11_1), (18, .bool x18_4)]) (fun (x18_4 : Bool) => Mo.tt) (fun (x18_4 : Bool) => Ow.emp) hS ?_ ?_
    · -- up to where ways meet
      clear hS
      intro k5 hS
      refine VC.region ?_
      refine VL.q (q_move rfl) (by decide) ?_
      refine VL.q (q_lss rfl rfl) (by decide) ?_
      refine VL.q (q_move rfl) (by decide) ?_
      refine VL.split_dec 14 rfl (fun h14 => ?_) (fun h14 => ?_)
      ·
        replace hS := it_t h14 hS
        refine VL.gn rfl rfl rfl (by decide) ?_
        refine VL.gn rfl rfl rfl (by decide) ?_
        refine VL.gn rfl rfl rfl (by decide) ?_
        refine VL.q (q_pick_t rfl rfl) (by decide) ?_
        refine VL.mt true [0, 1, 5, 18] (fun _ _ h => h) hS rfl
      ·
        replace hS := it_f h14 hS
        refine VL.gy rfl rfl (q_move rfl) (by decide) ?_
        refine VL.gy rfl rfl (q_move rfl) (by decide) ?_
        refine VL.gy rfl rfl (q_gtr rfl rfl) (by decide) ?_
        refine VL.q (q_pick_f rfl rfl) (by decide) ?_
        refine VL.mt (decide (y11_1 < n_1)) [0, 1, 5, 18] (fun _ _ h => h) hS rfl
    · -- from there
      clear hS
      rintro x18_4 hS
      show VC _ _ _ _ _ [(0, str s_0), (1, i64 n_1), (5, i64 y11_1), (18, .bool x18_4)] (Mo.and Mo.tt _) (Ow.emp)
      refine VC.cond rfl (fun h18 => ?_) (fun h18 => ?_)
      ·
        replace hS := it_t h18 hS
        refine VC.region ?_
        refine VL.q (q_move rfl) (by decide) ?_
        refine VL.q (q_assign rfl) (by decide) ?_
        refine VL.mt y11_1 [0, 1] (fun _ _ h => h) hS rfl
      ·
        replace hS := it_b h18 hS
        refine VC.skip_mt n_1 [0, 1] (fun _ _ h => h) hS rfl
  · -- from there
    clear hS
    rintro n1_2 hS
    show VC _ _ _ _ _ [(0, str s_0), (1, i64 n1_2)] (Mo.and Mo.tt _) (Ow.emp)
    refine VC.seq ?_
    refine VC.region ?_
    refine VL.q (q_move rfl) (by decide) ?_
    obtain ⟨b21, hS⟩ := gd_s hS
    refine VL.make (α := Str) (z := []) Tryd.underlying58 gmk9 (by decide) rfl rfl b21.1 (Int.le_refl _) (by omega) (by omega) (by decide) (fun s21_6 hs21_6 => ?_)
    replace hS := lt_to hs21_6 hS
    refine VL.q (q_assign rfl) (by decide) ?_
    refine VL.to (fun _ _ h => h) ?_
    refine VC.seq ?_
    refine VC.seq ?_
    refine VC.region ?_
    refine VL.q (q_assign rfl) (by decide) ?_
    refine VL.to (fun _ _ h => h) ?_
    refine VC.block ?_
    refine VC.iter (S := Str × Sv Str × Int) (fun sg => (sg.1, sg.2.1.l, sg.2.2)) (fun sg => [(0, str sg.1), (1, i64 n1_2), (6, sg.2.1.val), (7, i64 sg.2.2)]) (fun sg => Mo.tt) (fun sg => Ow.star (Sv.own sg.2.1 9) (Ow.emp)) (s_0, s21_6, 0) [0, 1, 6, 7] hS rfl ?_
    clear hS
    rintro ⟨s0_8, a6_9, i7_10⟩ m1 y1 hS hK1
    show VC _ _ _ _ _ [(0, str s0_8), (1, i64 n1_2), (6, a6_9.val), (7, i64 i7_10)] (Mo.and Mo.tt _) (Ow.star (Sv.own a6_9 9) (Ow.emp))
    refine VC.seq ?_
    refine VC.seq ?_
    refine VC.region ?_
    refine VL.q (q_move rfl) (by decide) ?_
    refine VL.q (q_move rfl) (by decide) ?_
    obtain ⟨b24, hS⟩ := gd_s hS
    refine VL.q (q_sub rfl rfl b24) (by decide) ?_
    refine VL.q (q_lss rfl rfl) (by decide) ?_
    refine VL.to (fun _ _ h => h) ?_
    refine VC.cond_dec rfl (fun h25 => ?_) (fun h25 => ?_)
    ·
      replace hS := it_t h25 hS
      refine VC.skip_to (fun _ _ h => h) ?_
      refine VC.seq ?_
      refine VC.block ?_
      refine VC.seq ?_
      refine VC.region ?_
      refine VL.q (q_move rfl) (by decide) ?_
      obtain ⟨y30_11, ey30_11, hS⟩ := bd_s hS
      refine VL.q (q_call (unicode_utf8_DecodeRuneInString_ct s0_8 ey30_11) rfl (fun _ _ => rfl)) (by decide) ?_
      refine VL.q (q_move rfl) (by decide) ?_
      refine VL.q (q_extract rfl rfl) (by decide) ?_
      refine VL.q (q_extract rfl rfl) (by decide) ?_
      refine VL.q (q_assign rfl) (by decide) ?_
      refine VL.q (q_assign rfl) (by decide) ?_
      refine VL.to (fun _ _ h => h) ?_
      refine VC.keep [0, 1, 6, 7, 9] rfl ?_
      refine VC.seq ?_
      refine VC.region ?_
      refine VL.q (q_move rfl) (by decide) ?_
      refine VL.q (q_move rfl) (by decide) ?_
      refine VL.q (q_move rfl) (by decide) ?_
      refine VL.q (q_move rfl) (by decide) ?_
      obtain ⟨b37, hS⟩ := gd_s hS
      obtain ⟨y37_12, ey37_12, hS⟩ := lt_s hS
      refine VL.q (q_stoE Tryd.underlying9 rfl rfl b37.1 b37.2 ey37_12) (by decide) ?_
      obtain ⟨z38_13, nz38_13, hz38_13, hS⟩ := at_s hS
      refine VL.q (q_ixo (s := a6_9) Tryd.underlying58 gsz9 rfl rfl nz38_13 (lt_of_get nz38_13 hz38_13)) (by decide) ?_
      refine VL.storeE (s := a6_9) (T := 9) (j := 0) (vc := [str y37_12]) (y37_12 : Str) (by decide) rfl rfl hz38_13 rfl gsz9 rfl rfl (Nat.le_of_ble_eq_true rfl) rfl (fun w14 hw14 haw14 hcw14 hvw14 hbw14 how14 => ?_)
      rw [← hvw14]
      replace hS := lt_to hw14 hS
      refine VL.to (fun _ _ h => h) ?_
      refine VC.region ?_
      refine VL.q (q_move rfl) (by decide) ?_
      refine VL.q (q_move rfl) (by decide) ?_
      obtain ⟨b41, hS⟩ := gd_s hS
      obtain ⟨y41_16, ey41_16, hS⟩ := lt_s hS
      refine VL.q (q_sfromE Tryd.underlying9 rfl rfl b41.1 b41.2 ey41_16) (by decide) ?_
      refine VL.q (q_assign rfl) (by decide) ?_
      refine VL.to (fun _ _ h => h) ?_
      refine VC.keep [0, 1, 6, 7] rfl ?_
      refine VC.region ?_
      refine VL.q (q_move rfl) (by decide) ?_
      obtain ⟨b27, hS⟩ := gd_s hS
      refine VL.q (q_add rfl rfl b27) (by decide) ?_
      refine VL.q (q_assign rfl) (by decide) ?_
      refine VL.rnd (y41_16, w14, (i7_10 + 1)) [0, 1, 6, 7] (fun _ _ h => h) (go2 hS hK1) rfl
    ·
      replace hS := it_f h25 hS
      replace hS := up2 hS hK1
      refine VC.exit_to (fun _ _ h => h) ?_
      refine VC.seq ?_
      refine VC.seq ?_
      refine VC.region ?_
      refine VL.q (q_move rfl) (by decide) ?_
      refine VL.q (q_gtr rfl rfl) (by decide) ?_
      refine VL.to (fun _ _ h => h) ?_
      refine VC.cond_dec rfl (fun h43 => ?_) (fun h43 => ?_)
      ·
        replace hS := it_t h43 hS
        refine VC.region ?_
        refine VL.q (q_move rfl) (by decide) ?_
        refine VL.q (q_move rfl) (by decide) ?_
        obtain ⟨b46, hS⟩ := gd_s hS
        refine VL.q (q_sub rfl rfl b46) (by decide) ?_
        refine VL.q (q_move rfl) (by decide) ?_
        obtain ⟨z48_17, nz48_17, hz48_17, hS⟩ := at_s hS
        refine VL.q (q_ixo (s := a6_9) Tryd.underlying58 gsz9 rfl rfl nz48_17 (lt_of_get nz48_17 hz48_17)) (by decide) ?_
        refine VL.storeE (s := a6_9) (T := 9) (j := 0) (vc := [str s0_8]) (s0_8 : Str) (by decide) rfl rfl hz48_17 rfl gsz9 rfl rfl (Nat.le_of_ble_eq_true rfl) rfl (fun w18 hw18 haw18 hcw18 hvw18 hbw18 how18 => ?_)
        rw [← hvw18]
        replace hS := lt_to hw18 hS
        refine VL.to (fun _ _ h => h) ?_
        refine VC.keep [6] rfl ?_
        refine VC.seq ?_
        refine VC.region ?_
        refine VL.q (q_move rfl) (by decide) ?_
        refine VL.q (q_assign rfl) (by decide) ?_
        refine VL.to (fun _ _ h => h) ?_
        cases hS
        exact VC.ret (fin1 (.inr rfl) rfl rfl w18 rfl rfl (by (try dsimp only); exact InM.out) (by (try dsimp only); exact EntO.out))
      ·
        replace hS := it_f h43 hS
        refine VC.skip_to (fun _ _ h => h) ?_
        refine VC.seq ?_
        refine VC.region ?_
        refine VL.q (q_move rfl) (by decide) ?_
        refine VL.q (q_assign rfl) (by decide) ?_
        refine VL.to (fun _ _ h => h) ?_
        refine VC.keep [4] rfl ?_
        cases hS
        exact VC.ret (fin1 (.inr rfl) rfl rfl a6_9 rfl rfl (by (try dsimp only); exact InM.out) (by (try dsimp only); exact EntO.out))

set_option maxHeartbeats 4000000 in
set_option maxRecDepth 100000 in
theorem internal_stringslite_IndexByte_ct (s_0 : Str) (c_1 : Int) {r : Int} (hS : Sh.internal_stringslite_IndexByte s_0 c_1 = some r) :
    Ct Tryd.prog 192 [str s_0, .int .u8 c_1] Mo.tt (Ow.emp) (X := Unit) (fun _ => i64 r) (fun _ => True) (fun _ => Mo.tt) (fun _ => Ow.emp) := by
  refine Ct.of Tryd.func192 rfl (by kernel_rfl) Tryd.ntmps192 (by simp) fun c => ?_
  unfold Sh.internal_stringslite_IndexByte at hS
  refine VC.seq ?_
  refine VC.region ?_
  refine VL.q (q_assign rfl) (by decide) ?_
  refine VL.to (fun _ _ h => h) ?_
  refine VC.seq ?_
  refine VC.region ?_
  refine VL.q (q_move rfl) (by decide) ?_
  refine VL.q (q_move rfl) (by decide) ?_
  refine VL.q (q_extern Tryd.func207 rfl rfl (by kernel_rfl) (by kernel_rfl) rfl (fun w => x_ixS s_0 c_1 w)) (by decide) ?_
  refine VL.q (q_assign rfl) (by decide) ?_
  refine VL.to (fun _ _ h => h) ?_
  cases hS
  exact VC.ret (fin1 (.inr rfl) rfl rfl () rfl trivial (fun _ _ => trivial) (fun _ _ => trivial))

set_option maxHeartbeats 4000000 in
set_option maxRecDepth 100000 in
theorem internal_stringslite_Index_ct (a_0 : Str) (a_1 : Str) {r : Int} (hS : Sh.internal_stringslite_Index a_0 a_1 = some r) :
    Ct Tryd.prog 165 [str a_0, str a_1] Mo.tt (Ow.emp) (X := Unit) (fun _ => i64 r) (fun _ => True) (fun _ => Mo.tt) (fun _ => Ow.emp) := by
  refine Ct.of Tryd.func165 rfl (by kernel_rfl) Tryd.ntmps165 (by simp) fun c => ?_
  unfold Sh.internal_stringslite_Index at hS
  refine VC.seq ?_
  refine VC.region ?_
  refine VL.q (q_assign rfl) (by decide) ?_
  refine VL.to (fun _ _ h => h) ?_
  refine VC.seq ?_
  refine VC.region ?_
  refine VL.q (q_move rfl) (by decide) ?_
  refine VL.q (q_slen Tryd.underlying9 rfl) (by decide) ?_
  refine VL.q (q_assign rfl) (by decide) ?_
  refine VL.to (fun _ _ h => h) ?_
  refine VC.seq ?_
  refine VC.block ?_
  refine VC.cutJ (S := Bool) (fun (x16_1 : Bool) => x16_1) (fun (x16_1 : Bool) => [(0, str a_0), (1, str a_1), (5, i64 (a_1.length : Int)), (16, .bool x16_1)]) (fun (x16_1 : Bool) => Mo.tt) (fun (x16_1 : Bool) => Ow.emp) hS ?_ ?_
  · -- up to where ways meet
    clear hS
    intro k2 hS
    refine VC.region ?_
    refine VL.q (q_move rfl) (by decide) ?_
    refine VL.q (q_eql rfl rfl) (by decide) ?_
    refine VL.q (q_move rfl) (by decide) ?_
    refine VL.split_dec 19 rfl (fun h19 => ?_) (fun h19 => ?_)
    ·
      replace hS := it_t h19 hS
      refine VL.gn rfl rfl rfl (by decide) ?_
      refine VL.gn rfl rfl rfl (by decide) ?_
      refine VL.gn rfl rfl rfl (by decide) ?_
      refine VL.q (q_pick_t rfl rfl) (by decide) ?_
      refine VL.q (q_assign rfl) (by decide) ?_
      refine VL.mt true [0, 1, 5, 16] (fun _ _ h => h) hS rfl
    ·
      replace hS := it_f h19 hS
      refine VL.gy rfl rfl (q_move rfl) (by decide) ?_
      refine VL.gy rfl rfl (q_move rfl) (by decide) ?_
      refine VL.gy rfl rfl (q_seq rfl rfl) (by decide) ?_
      refine VL.q (q_pick_f rfl rfl) (by decide) ?_
      refine VL.q (q_assign rfl) (by decide) ?_
      refine VL.mt (decide (a_1 = a_0)) [0, 1, 5, 16] (fun _ _ h => h) hS rfl
  · -- from there
    clear hS
    rintro x16_1 hS
    show VC _ _ _ _ _ [(0, str a_0), (1, str a_1), (5, i64 (a_1.length : Int)), (16, .bool x16_1)] (Mo.and Mo.tt _) (Ow.emp)
    refine VC.cond rfl (fun h16 => ?_) (fun h16 => ?_)
    ·
      replace hS := it_t h16 hS
      refine VC.seq ?_
      refine VC.region ?_
      refine VL.q (q_assign rfl) (by decide) ?_
      refine VL.to (fun _ _ h => h) ?_
      cases hS
      exact VC.ret (fin1 (.inr rfl) rfl rfl () rfl trivial (fun _ _ => trivial) (fun _ _ => trivial))
    ·
      replace hS := it_b h16 hS
      refine VC.seq ?_
      refine VC.region ?_
      refine VL.q (q_move rfl) (by decide) ?_
      refine VL.q (q_eql rfl rfl) (by decide) ?_
      refine VL.q (q_assign rfl) (by decide) ?_
      refine VL.to (fun _ _ h => h) ?_
      refine VC.cond_dec rfl (fun h24 => ?_) (fun h24 => ?_)
      ·
        replace hS := it_t h24 hS
        refine VC.seq ?_
        refine VC.region ?_
        refine VL.q (q_move rfl) (by decide) ?_
        refine VL.q (q_move rfl) (by decide) ?_
        obtain ⟨z29_3, nz29_3, hz29_3, hS⟩ := at_s hS
        refine VL.q (q_sidx Tryd.underlying9 rfl rfl nz29_3 hz29_3) (by decide) ?_
        obtain ⟨y30_4, ey30_4, hS⟩ := bd_s hS
        refine VL.q (q_call (internal_stringslite_IndexByte_ct a_0 (z29_3.toNat : Int) ey30_4) rfl (fun _ _ => rfl)) (by decide) ?_
        refine VL.q (q_assign rfl) (by decide) ?_
        refine VL.to (fun _ _ h => h) ?_
        refine VC.keep [4] rfl ?_
        cases hS
        exact VC.ret (fin1 (.inr rfl) rfl rfl () rfl trivial (fun _ _ => trivial) (fun _ _ => trivial))
      ·
        replace hS := it_f h24 hS
        refine VC.seq ?_
        refine VC.region ?_
        refine VL.q (q_move rfl) (by decide) ?_
        refine VL.q (q_move rfl) (by decide) ?_
        refine VL.q (q_slen Tryd.underlying9 rfl) (by decide) ?_
        refine VL.q (q_geq rfl rfl) (by decide) ?_
        refine VL.q (q_assign rfl) (by decide) ?_
        refine VL.to (fun _ _ h => h) ?_
        refine VC.keep [0, 1, 5, 31] rfl ?_
        refine VC.cond_dec rfl (fun h31 => ?_) (fun h31 => ?_)
        ·
          replace hS := it_t h31 hS
          refine VC.seq ?_
          refine VC.region ?_
          refine VL.q (q_assign rfl) (by decide) ?_
          refine VL.to (fun _ _ h => h) ?_
          cases hS
          exact VC.ret (fin1 (.inr rfl) rfl rfl () rfl trivial (fun _ _ => trivial) (fun _ _ => trivial))
        ·
          replace hS := it_f h31 hS
          refine VC.seq ?_
          refine VC.region ?_
          refine VL.q (q_move rfl) (by decide) ?_
          cases hS

set_option maxHeartbeats 4000000 in
set_option maxRecDepth 100000 in
theorem strings_Index_ct (s_0 : Str) (substr_1 : Str) {r : Int} (hS : Sh.strings_Index s_0 substr_1 = some r) :
    Ct Tryd.prog 136 [str s_0, str substr_1] Mo.tt (Ow.emp) (X := Unit) (fun _ => i64 r) (fun _ => True) (fun _ => Mo.tt) (fun _ => Ow.emp) := by
  refine Ct.of Tryd.func136 rfl (by kernel_rfl) Tryd.ntmps136 (by simp) fun c => ?_
  unfold Sh.strings_Index at hS
  refine VC.seq ?_
  refine VC.region ?_
  refine VL.q (q_assign rfl) (by decide) ?_
  refine VL.to (fun _ _ h => h) ?_
  refine VC.seq ?_
  refine VC.region ?_
  refine VL.q (q_move rfl) (by decide) ?_
  refine VL.q (q_move rfl) (by decide) ?_
  obtain ⟨y7_1, ey7_1, hS⟩ := bd_s hS
  refine VL.q (q_call (internal_stringslite_Index_ct s_0 substr_1 ey7_1) rfl (fun _ _ => rfl)) (by decide) ?_
  refine VL.q (q_assign rfl) (by decide) ?_
  refine VL.to (fun _ _ h => h) ?_
  cases hS
  exact VC.ret (fin1 (.inr rfl) rfl rfl () rfl trivial (fun _ _ => trivial) (fun _ _ => trivial))

set_option maxHeartbeats 4000000 in
set_option maxRecDepth 100000 in
theorem strings_Count_ct (s_0 : Str) (substr_1 : Str) {r : Int} (hS : Sh.strings_Count s_0 substr_1 = some r) :
    Ct Tryd.prog 135 [str s_0, str substr_1] Mo.tt (Ow.emp) (X := Unit) (fun _ => i64 r) (fun _ => True) (fun _ => Mo.tt) (fun _ => Ow.emp) := by
  refine Ct.of Tryd.func135 rfl (by kernel_rfl) Tryd.ntmps135 (by simp) fun c => ?_
  unfold Sh.strings_Count at hS
  refine VC.seq ?_
  refine VC.region ?_
  refine VL.q (q_assign rfl) (by decide) ?_
  refine VL.to (fun _ _ h => h) ?_
  refine VC.seq ?_
  refine VC.seq ?_
  refine VC.region ?_
  refine VL.q (q_move rfl) (by decide) ?_
  refine VL.q (q_slen Tryd.underlying9 rfl) (by decide) ?_
  refine VL.q (q_eql rfl rfl) (by decide) ?_
  refine VL.to (fun _ _ h => h) ?_
  refine VC.cond_dec rfl (fun h9 => ?_) (fun h9 => ?_)
  ·
    replace hS := it_t h9 hS
    refine VC.seq ?_
    refine VC.region ?_
    refine VL.q (q_move rfl) (by decide) ?_
    obtain ⟨y11_1, ey11_1, hS⟩ := bd_s hS
    refine VL.q (q_call (unicode_utf8_RuneCountInString_ct s_0 ey11_1) rfl (fun _ _ => rfl)) (by decide) ?_
    obtain ⟨b12, hS⟩ := gd_s hS
    refine VL.q (q_add rfl rfl b12) (by decide) ?_
    refine VL.q (q_assign rfl) (by decide) ?_
    refine VL.to (fun _ _ h => h) ?_
    cases hS
    exact VC.ret (fin1 (.inr rfl) rfl rfl () rfl trivial (fun _ _ => trivial) (fun _ _ => trivial))
  ·
    replace hS := it_f h9 hS
    refine VC.skip_to (fun _ _ h => h) ?_
    refine VC.seq ?_
    refine VC.seq ?_
    refine VC.region ?_
    refine VL.q (q_move rfl) (by decide) ?_
    refine VL.q (q_slen Tryd.underlying9 rfl) (by decide) ?_
    refine VL.q (q_eql rfl rfl) (by decide) ?_
    refine VL.to (fun _ _ h => h) ?_
    refine VC.cond_dec rfl (fun h15 => ?_) (fun h15 => ?_)
    ·
      replace hS := it_t h15 hS
      refine VC.seq ?_
      refine VC.region ?_
      refine VL.q (q_move rfl) (by decide) ?_
      refine VL.q (q_move rfl) (by decide) ?_
      obtain ⟨z18_2, nz18_2, hz18_2, hS⟩ := at_s hS
      refine VL.q (q_sidx Tryd.underlying9 rfl rfl nz18_2 hz18_2) (by decide) ?_
      refine VL.q (q_extern Tryd.func164 rfl rfl (by kernel_rfl) (by kernel_rfl) rfl (fun w => x_cntS s_0 (z18_2.toNat : Int) w)) (by decide) ?_
      refine VL.q (q_assign rfl) (by decide) ?_
      refine VL.to (fun _ _ h => h) ?_
      refine VC.keep [4] rfl ?_
      cases hS
      exact VC.ret (fin1 (.inr rfl) rfl rfl () rfl trivial (fun _ _ => trivial) (fun _ _ => trivial))
    ·
      replace hS := it_f h15 hS
      refine VC.skip_to (fun _ _ h => h) ?_
      refine VC.seq ?_
      refine VC.region ?_
      refine VL.q (q_assign rfl) (by decide) ?_
      refine VL.to (fun _ _ h => h) ?_
      refine VC.block ?_
      refine VC.iter (S := Str × Int) (fun sg => (sg.1, sg.2)) (fun sg => [(0, str sg.1), (1, str substr_1), (5, i64 sg.2)]) (fun sg => Mo.tt) (fun sg => Ow.emp) (s_0, 0) [0, 1, 5] hS rfl ?_
      clear hS
      rintro ⟨s0_3, n5_4⟩ m1 y1 hS hK1
      show VC _ _ _ _ _ [(0, str s0_3), (1, str substr_1), (5, i64 n5_4)] (Mo.and Mo.tt _) (Ow.emp)
      refine VC.block ?_
      refine VC.seq ?_
      refine VC.region ?_
      refine VL.q (q_move rfl) (by decide) ?_
      refine VL.q (q_move rfl) (by decide) ?_
      obtain ⟨y22_5, ey22_5, hS⟩ := bd_s hS
      refine VL.q (q_call (strings_Index_ct s0_3 substr_1 ey22_5) rfl (fun _ _ => rfl)) (by decide) ?_
      refine VL.q (q_assign rfl) (by decide) ?_
      refine VL.to (fun _ _ h => h) ?_
      refine VC.seq ?_
      refine VC.seq ?_
      refine VC.region ?_
      refine VL.q (q_move rfl) (by decide) ?_
      refine VL.q (q_eql rfl rfl) (by decide) ?_
      refine VL.to (fun _ _ h => h) ?_
      refine VC.cond_dec rfl (fun h24 => ?_) (fun h24 => ?_)
      ·
        replace hS := it_t h24 hS
        refine VC.seq ?_
        refine VC.region ?_
        refine VL.q (q_move rfl) (by decide) ?_
        refine VL.q (q_assign rfl) (by decide) ?_
        refine VL.to (fun _ _ h => h) ?_
        refine VC.keep [4] rfl ?_
        replace hS := up2 hS hK1
        cases hS
        exact VC.ret (fin1 (.inr rfl) rfl rfl () rfl trivial (fun _ _ => trivial) (fun _ _ => trivial))
      ·
        replace hS := it_f h24 hS
        refine VC.skip_to (fun _ _ h => h) ?_
        refine VC.seq ?_
        refine VC.region ?_
        refine VL.q (q_move rfl) (by decide) ?_
        obtain ⟨b27, hS⟩ := gd_s hS
        refine VL.q (q_add rfl rfl b27) (by decide) ?_
        refine VL.q (q_assign rfl) (by decide) ?_
        refine VL.to (fun _ _ h => h) ?_
        refine VC.keep [0, 1, 5, 6] rfl ?_
        refine VC.region ?_
        refine VL.q (q_move rfl) (by decide) ?_
        refine VL.q (q_move rfl) (by decide) ?_
        refine VL.q (q_move rfl) (by decide) ?_
        refine VL.q (q_slen Tryd.underlying9 rfl) (by decide) ?_
        obtain ⟨b32, hS⟩ := gd_s hS
        refine VL.q (q_add rfl rfl b32) (by decide) ?_
        obtain ⟨b33, hS⟩ := gd_s hS
        obtain ⟨y33_6, ey33_6, hS⟩ := lt_s hS
        refine VL.q (q_sfromE Tryd.underlying9 rfl rfl b33.1 b33.2 ey33_6) (by decide) ?_
        refine VL.q (q_assign rfl) (by decide) ?_
        refine VL.rnd (y33_6, (n5_4 + 1)) [0, 1, 5] (fun _ _ h => h) (go2 hS hK1) rfl

set_option maxHeartbeats 4000000 in
set_option maxRecDepth 100000 in
theorem strings_genSplit_ct (a_0 : Str) (a_1 : Str) (a_2 : Int) (a_3 : Int) {r : List Str} (hS : Sh.strings_genSplit a_0 a_1 a_2 a_3 = some r) :
    Ct Tryd.prog 96 [str a_0, str a_1, i64 a_2, i64 a_3] Mo.tt (Ow.emp) (X := Sv Str) (fun x => x.val) (fun x => r = x.l) (fun x => x.ok) (fun x => Ow.emp) := by
  refine Ct.of Tryd.func96 rfl (by kernel_rfl) Tryd.ntmps96 (by simp) fun c => ?_
  unfold Sh.strings_genSplit at hS
  refine VC.seq ?_
  refine VC.region ?_
  refine VL.q (q_assign rfl) (by decide) ?_
  refine VL.to (fun _ _ h => h) ?_
  refine VC.seq ?_
  refine VC.seq ?_
  refine VC.region ?_
  refine VL.q (q_move rfl) (by decide) ?_
  refine VL.q (q_eql rfl rfl) (by decide) ?_
  refine VL.to (fun _ _ h => h) ?_
  refine VC.cond_dec rfl (fun h13 => ?_) (fun h13 => ?_)
  ·
    replace hS := it_t h13 hS
    refine VC.seq ?_
    refine VC.region ?_
    refine VL.q (q_assign rfl) (by decide) ?_
    refine VL.to (fun _ _ h => h) ?_
    cases hS
    exact VC.ret (fin1 (.inr rfl) rfl rfl ⟨none, 0, []⟩ rfl rfl (by (try dsimp only); exact InM.out) (fun _ _ => trivial))
  ·
    replace hS := it_f h13 hS
    refine VC.skip_to (fun _ _ h => h) ?_
    refine VC.seq ?_
    refine VC.seq ?_
    refine VC.region ?_
    refine VL.q (q_move rfl) (by decide) ?_
    refine VL.q (q_seq rfl rfl) (by decide) ?_
    refine VL.to (fun _ _ h => h) ?_
    refine VC.cond_dec rfl (fun h15 => ?_) (fun h15 => ?_)
    ·
      replace hS := it_t h15 hS
      refine VC.seq ?_
      refine VC.region ?_
      refine VL.q (q_move rfl) (by decide) ?_
      refine VL.q (q_move rfl) (by decide) ?_
      obtain ⟨y18_1, ey18_1, hS⟩ := bd_s hS
      refine VL.callO (strings_explode_ct a_0 a_3 ey18_1) rfl (by decide) ?_
      rintro q18_1_0 rfl
      try dsimp only
      refine VL.q (q_assign rfl) (by decide) ?_
      refine VL.to (fun _ _ h => h) ?_
      refine VC.keep [8] rfl ?_
      refine VC.shut q18_1_0 9 (fun _ _ _ _ => trivial) ?_
      cases hS
      exact VC.ret (fin1 (.inr rfl) rfl rfl q18_1_0 rfl rfl (by (try dsimp only); exact InM.out) (fun _ _ => trivial))
    ·
      replace hS := it_f h15 hS
      refine VC.skip_to (fun _ _ h => h) ?_
      refine VC.cutJ (S := Int) (fun (x3_2 : Int) => x3_2) (fun (x3_2 : Int) => [(0, str a_0), (1, str a_1), (2, i64 a_2), (3, i64 x3_2)]) (fun (x3_2 : Int) => Mo.tt) (fun (x3_2 : Int) => Ow.emp) hS ?_ ?_
      · -- up to where ways meet
        clear hS
        intro k3 hS
        refine VC.seq ?_
        refine VC.region ?_
        refine VL.q (q_move rfl) (by decide) ?_
        refine VL.q (q_lss rfl rfl) (by decide) ?_
        refine VL.to (fun _ _ h => h) ?_
        refine VC.cond_dec rfl (fun h20 => ?_) (fun h20 => ?_)
        ·
          replace hS := it_t h20 hS
          refine VC.region ?_
          refine VL.q (q_move rfl) (by decide) ?_
          refine VL.q (q_move rfl) (by decide) ?_
          obtain ⟨y23_4, ey23_4, hS⟩ := bd_s hS
          refine VL.q (q_call (strings_Count_ct a_0 a_1 ey23_4) rfl (fun _ _ => rfl)) (by decide) ?_
          obtain ⟨b24, hS⟩ := gd_s hS
          refine VL.q (q_add rfl rfl b24) (by decide) ?_
          refine VL.q (q_assign rfl) (by decide) ?_
          refine VL.mt (y23_4 + 1) [0, 1, 2, 3] (fun _ _ h => h) hS rfl
        ·
          replace hS := it_f h20 hS
          refine VC.skip_mt a_3 [0, 1, 2, 3] (fun _ _ h => h) hS rfl
      · -- from there
        clear hS
        rintro x3_2 hS
        show VC _ _ _ _ _ [(0, str a_0), (1, str a_1), (2, i64 a_2), (3, i64 x3_2)] (Mo.and Mo.tt _) (Ow.emp)
        refine VC.seq ?_
        refine VC.region ?_
        refine VL.q (q_move rfl) (by decide) ?_
        refine VL.q (q_move rfl) (by decide) ?_
        refine VL.q (q_slen Tryd.underlying9 rfl) (by decide) ?_
        obtain ⟨b28, hS⟩ := gd_s hS
        refine VL.q (q_add rfl rfl b28) (by decide) ?_
        refine VL.q (q_min rfl) (by decide) ?_
        refine VL.q (q_assign rfl) (by decide) ?_
        refine VL.to (fun _ _ h => h) ?_
        refine VC.seq ?_
        refine VC.region ?_
        refine VL.q (q_move rfl) (by decide) ?_
        obtain ⟨b31, hS⟩ := gd_s hS
        refine VL.make (α := Str) (z := []) Tryd.underlying58 gmk9 (by decide) rfl rfl b31.1 (Int.le_refl _) (by omega) (by omega) (by decide) (fun s31_5 hs31_5 => ?_)
        replace hS := lt_to hs31_5 hS
        refine VL.q (q_assign rfl) (by decide) ?_
        refine VL.to (fun _ _ h => h) ?_
        refine VC.keep [0, 1, 2, 3, 9] rfl ?_
        refine VC.seq ?_
        refine VC.region ?_
        refine VL.q (q_move rfl) (by decide) ?_
        obtain ⟨b33, hS⟩ := gd_s hS
        refine VL.q (q_sub rfl rfl b33) (by decide) ?_
        refine VL.q (q_assign rfl) (by decide) ?_
        refine VL.to (fun _ _ h => h) ?_
        refine VC.seq ?_
        refine VC.region ?_
        refine VL.q (q_assign rfl) (by decide) ?_
        refine VL.to (fun _ _ h => h) ?_
        refine VC.cutJ (S := Str × Sv Str × Int) (fun sg => (sg.1, sg.2.1.l, sg.2.2)) (fun sg => [(0, str sg.1), (9, sg.2.1.val), (10, i64 sg.2.2)]) (fun sg => Mo.tt) (fun sg => Ow.star (Sv.own sg.2.1 9) (Ow.emp)) hS ?_ ?_
        · -- up to where ways meet
          clear hS
          intro k10 hS
          refine VC.block ?_
          refine VC.iter (S := Str × Sv Str × Int) (fun sg => (sg.1, sg.2.1.l, sg.2.2)) (fun sg => [(0, str sg.1), (1, str a_1), (2, i64 a_2), (3, i64 ((min x3_2 ((a_0.length : Int) + 1)) - 1)), (9, sg.2.1.val), (10, i64 sg.2.2)]) (fun sg => Mo.tt) (fun sg => Ow.star (Sv.own sg.2.1 9) (Ow.emp)) (a_0, s31_5, 0) [0, 1, 2, 3, 9, 10] hS rfl ?_
          clear hS
          rintro ⟨x0_11, x9_12, x10_13⟩ m1 y1 hS hK1
          show VC _ _ _ _ _ [(0, str x0_11), (1, str a_1), (2, i64 a_2), (3, i64 ((min x3_2 ((a_0.length : Int) + 1)) - 1)), (9, x9_12.val), (10, i64 x10_13)] (Mo.and Mo.tt _) (Ow.star (Sv.own x9_12 9) (Ow.emp))
          refine VC.seq ?_
          refine VC.seq ?_
          refine VC.region ?_
          refine VL.q (q_move rfl) (by decide) ?_
          refine VL.q (q_move rfl) (by decide) ?_
          refine VL.q (q_lss rfl rfl) (by decide) ?_
          refine VL.to (fun _ _ h => h) ?_
          refine VC.cond_dec rfl (fun h36 => ?_) (fun h36 => ?_)
          ·
            replace hS := it_t h36 hS
            refine VC.skip_to (fun _ _ h => h) ?_
            refine VC.block ?_
            refine VC.seq ?_
            refine VC.region ?_
            refine VL.q (q_move rfl) (by decide) ?_
            refine VL.q (q_move rfl) (by decide) ?_
            obtain ⟨y39_14, ey39_14, hS⟩ := bd_s hS
            refine VL.q (q_call (strings_Index_ct x0_11 a_1 ey39_14) rfl (fun _ _ => rfl)) (by decide) ?_
            refine VL.q (q_assign rfl) (by decide) ?_
            refine VL.to (fun _ _ h => h) ?_
            refine VC.seq ?_
            refine VC.seq ?_
            refine VC.region ?_
            refine VL.q (q_move rfl) (by decide) ?_
            refine VL.q (q_lss rfl rfl) (by decide) ?_
            refine VL.to (fun _ _ h => h) ?_
            refine VC.keep [0, 1, 2, 3, 9, 10, 11, 41] rfl ?_
            refine VC.cond_dec rfl (fun h41 => ?_) (fun h41 => ?_)
            ·
              replace hS := it_t h41 hS
              replace hS := up2 hS hK1
              refine VC.exit_mt (x0_11, x9_12, x10_13) [0, 9, 10] (fun _ _ h => h) hS rfl
            ·
              replace hS := it_f h41 hS
              refine VC.skip_to (fun _ _ h => h) ?_
              refine VC.seq ?_
              refine VC.region ?_
              refine VL.q (q_move rfl) (by decide) ?_
              refine VL.q (q_move rfl) (by decide) ?_
              refine VL.q (q_move rfl) (by decide) ?_
              refine VL.q (q_move rfl) (by decide) ?_
              refine VL.q (q_move rfl) (by decide) ?_
              obtain ⟨b47, hS⟩ := gd_s hS
              refine VL.q (q_add rfl rfl b47) (by decide) ?_
              obtain ⟨b48, hS⟩ := gd_s hS
              obtain ⟨y48_15, ey48_15, hS⟩ := lt_s hS
              refine VL.q (q_stoE Tryd.underlying9 rfl rfl b48.1 b48.2 ey48_15) (by decide) ?_
              obtain ⟨z49_16, nz49_16, hz49_16, hS⟩ := at_s hS
              refine VL.q (q_ixo (s := x9_12) Tryd.underlying58 gsz9 rfl rfl nz49_16 (lt_of_get nz49_16 hz49_16)) (by decide) ?_
              refine VL.storeE (s := x9_12) (T := 9) (j := 0) (vc := [str y48_15]) (y48_15 : Str) (by decide) rfl rfl hz49_16 rfl gsz9 rfl rfl (Nat.le_of_ble_eq_true rfl) rfl (fun w17 hw17 haw17 hcw17 hvw17 hbw17 how17 => ?_)
              rw [← hvw17]
              replace hS := lt_to hw17 hS
              refine VL.to (fun _ _ h => h) ?_
              refine VC.keep [0, 1, 2, 3, 9, 10, 11] rfl ?_
              refine VC.seq ?_
              refine VC.region ?_
              refine VL.q (q_move rfl) (by decide) ?_
              refine VL.q (q_move rfl) (by decide) ?_
              refine VL.q (q_move rfl) (by decide) ?_
              refine VL.q (q_slen Tryd.underlying9 rfl) (by decide) ?_
              obtain ⟨b54, hS⟩ := gd_s hS
              refine VL.q (q_add rfl rfl b54) (by decide) ?_
              obtain ⟨b55, hS⟩ := gd_s hS
              obtain ⟨y55_19, ey55_19, hS⟩ := lt_s hS
              refine VL.q (q_sfromE Tryd.underlying9 rfl rfl b55.1 b55.2 ey55_19) (by decide) ?_
              refine VL.q (q_assign rfl) (by decide) ?_
              refine VL.to (fun _ _ h => h) ?_
              refine VC.keep [0, 1, 2, 3, 9, 10] rfl ?_
              refine VC.region ?_
              refine VL.q (q_move rfl) (by decide) ?_
              obtain ⟨b57, hS⟩ := gd_s hS
              refine VL.q (q_add rfl rfl b57) (by decide) ?_
              refine VL.q (q_assign rfl) (by decide) ?_
              refine VL.rnd (y55_19, w17, (x10_13 + 1)) [0, 1, 2, 3, 9, 10] (fun _ _ h => h) (go2 hS hK1) rfl
          ·
            replace hS := it_f h36 hS
            replace hS := up2 hS hK1
            refine VC.exit_mt (x0_11, x9_12, x10_13) [0, 9, 10] (fun _ _ h => h) hS rfl
        · -- from there
          clear hS
          rintro ⟨x0_7, x9_8, x10_9⟩ hS
          show VC _ _ _ _ _ [(0, str x0_7), (9, x9_8.val), (10, i64 x10_9)] (Mo.and Mo.tt _) (Ow.star (Sv.own x9_8 9) (Ow.emp))
          refine VC.seq ?_
          refine VC.region ?_
          refine VL.q (q_move rfl) (by decide) ?_
          refine VL.q (q_move rfl) (by decide) ?_
          refine VL.q (q_move rfl) (by decide) ?_
          obtain ⟨z61_20, nz61_20, hz61_20, hS⟩ := at_s hS
          refine VL.q (q_ixo (s := x9_8) Tryd.underlying58 gsz9 rfl rfl nz61_20 (lt_of_get nz61_20 hz61_20)) (by decide) ?_
          refine VL.storeE (s := x9_8) (T := 9) (j := 0) (vc := [str x0_7]) (x0_7 : Str) (by decide) rfl rfl hz61_20 rfl gsz9 rfl rfl (Nat.le_of_ble_eq_true rfl) rfl (fun w21 hw21 haw21 hcw21 hvw21 hbw21 how21 => ?_)
          rw [← hvw21]
          replace hS := lt_to hw21 hS
          refine VL.to (fun _ _ h => h) ?_
          refine VC.seq ?_
          refine VC.region ?_
          refine VL.q (q_move rfl) (by decide) ?_
          refine VL.q (q_move rfl) (by decide) ?_
          obtain ⟨b64, hS⟩ := gd_s hS
          refine VL.q (q_add rfl rfl b64) (by decide) ?_
          refine VL.shut w21 9 (fun _ _ _ _ => trivial) ?_
          obtain ⟨b65, hS⟩ := gd_s hS
          refine VL.sto Tryd.underlying58 gsz9 rfl rfl b65.1 (b65.2) (by decide) fun s65_23 hs65_23 => ?_
          replace hS := lt_to hs65_23 hS
          refine VL.q (q_assign rfl) (by decide) ?_
          refine VL.to (fun _ _ h => h) ?_
          refine VC.keep [8] rfl ?_
          cases hS
          exact VC.ret (fin1 (.inr rfl) rfl rfl s65_23 rfl rfl (by (try dsimp only); exact InM.out) (fun _ _ => trivial))

set_option maxHeartbeats 4000000 in
set_option maxRecDepth 100000 in
theorem strings_Split_ct (s_0 : Str) (sep_1 : Str) {r : List Str} (hS : Sh.strings_Split s_0 sep_1 = some r) :
    Ct Tryd.prog 54 [str s_0, str sep_1] Mo.tt (Ow.emp) (X := Sv Str) (fun x => x.val) (fun x => r = x.l) (fun x => x.ok) (fun x => Ow.emp) := by
  refine Ct.of Tryd.func54 rfl (by kernel_rfl) Tryd.ntmps54 (by simp) fun c => ?_
  unfold Sh.strings_Split at hS
  refine VC.seq ?_
  refine VC.region ?_
  refine VL.q (q_assign rfl) (by decide) ?_
  refine VL.to (fun _ _ h => h) ?_
  refine VC.seq ?_
  refine VC.region ?_
  refine VL.q (q_move rfl) (by decide) ?_
  refine VL.q (q_move rfl) (by decide) ?_
  obtain ⟨y7_1, ey7_1, hS⟩ := bd_s hS
  refine VL.callF (strings_genSplit_ct s_0 sep_1 0 (-1) ey7_1) rfl (by decide) ?_
  rintro q7_1_0 rfl
  try dsimp only
  refine VL.q (q_assign rfl) (by decide) ?_
  refine VL.to (fun _ _ h => h) ?_
  cases hS
  exact VC.ret (fin1 (.inr rfl) rfl rfl q7_1_0 rfl rfl (by (try dsimp only); exact InM.out) (fun _ _ => trivial))

set_option maxHeartbeats 4000000 in
set_option maxRecDepth 100000 in
theorem strings_trimLeftByte_ct (s_0 : Str) (c_1 : Int) {r : Str} (hS : Sh.strings_trimLeftByte s_0 c_1 = some r) :
    Ct Tryd.prog 97 [str s_0, .int .u8 c_1] Mo.tt (Ow.emp) (X := Unit) (fun _ => str r) (fun _ => True) (fun _ => Mo.tt) (fun _ => Ow.emp) := by
  refine Ct.of Tryd.func97 rfl (by kernel_rfl) Tryd.ntmps97 (by simp) fun c => ?_
  unfold Sh.strings_trimLeftByte at hS
  refine VC.seq ?_
  refine VC.region ?_
  refine VL.q (q_assign rfl) (by decide) ?_
  refine VL.to (fun _ _ h => h) ?_
  refine VC.seq ?_
  refine VC.block ?_
  refine VC.iter (S := Str) (fun (s0_1 : Str) => s0_1) (fun (s0_1 : Str) => [(0, str s0_1), (1, .int .u8 c_1)]) (fun (s0_1 : Str) => Mo.tt) (fun (s0_1 : Str) => Ow.emp) s_0 [0, 1] hS rfl ?_
  clear hS
  rintro s0_1 m1 y1 hS hK1
  show VC _ _ _ _ _ [(0, str s0_1), (1, .int .u8 c_1)] (Mo.and Mo.tt _) (Ow.emp)
  refine VC.seq ?_
  refine VC.seq ?_
  refine VC.region ?_
  refine VL.q (q_move rfl) (by decide) ?_
  refine VL.q (q_slen Tryd.underlying9 rfl) (by decide) ?_
  refine VL.q (q_gtr rfl rfl) (by decide) ?_
  refine VL.q (q_move rfl) (by decide) ?_
  refine VL.split_dec 8 rfl (fun h8 => ?_) (fun h8 => ?_)
  ·
    replace hS := it_t h8 hS
    refine VL.gy rfl rfl (q_move rfl) (by decide) ?_
    obtain ⟨z10_2, nz10_2, hz10_2, hS⟩ := at_s hS
    refine VL.gy rfl rfl (q_sidx Tryd.underlying9 rfl rfl nz10_2 hz10_2) (by decide) ?_
    refine VL.gy rfl rfl (q_move rfl) (by decide) ?_
    refine VL.gy rfl rfl (q_eql rfl rfl) (by decide) ?_
    refine VL.q (q_pick_t rfl rfl) (by decide) ?_
    refine VL.to (fun _ _ h => h) ?_
    refine VC.keep [0, 1, 13] rfl ?_
    refine VC.cond_dec rfl (fun h13 => ?_) (fun h13 => ?_)
    ·
      replace hS := it_t h13 hS
      refine VC.skip_to (fun _ _ h => h) ?_
      refine VC.block ?_
      refine VC.region ?_
      refine VL.q (q_move rfl) (by decide) ?_
      obtain ⟨b15, hS⟩ := gd_s hS
      obtain ⟨y15_3, ey15_3, hS⟩ := lt_s hS
      refine VL.q (q_sfromE Tryd.underlying9 rfl rfl b15.1 b15.2 ey15_3) (by decide) ?_
      refine VL.q (q_assign rfl) (by decide) ?_
      refine VL.rnd y15_3 [0, 1] (fun _ _ h => h) (go2 hS hK1) rfl
    ·
      replace hS := it_f h13 hS
      replace hS := up2 hS hK1
      refine VC.exit_to (fun _ _ h => h) ?_
      refine VC.seq ?_
      refine VC.region ?_
      refine VL.q (q_move rfl) (by decide) ?_
      refine VL.q (q_assign rfl) (by decide) ?_
      refine VL.to (fun _ _ h => h) ?_
      cases hS
      exact VC.ret (fin1 (.inr rfl) rfl rfl () rfl trivial (fun _ _ => trivial) (fun _ _ => trivial))
  ·
    replace hS := it_f h8 hS
    refine VL.gn rfl rfl rfl (by decide) ?_
    refine VL.gn rfl rfl rfl (by decide) ?_
    refine VL.gn rfl rfl rfl (by decide) ?_
    refine VL.gn rfl rfl rfl (by decide) ?_
    refine VL.q (q_pick_f rfl rfl) (by decide) ?_
    refine VL.to (fun _ _ h => h) ?_
    refine VC.keep [0, 1, 13] rfl ?_
    refine VC.cond_f rfl ?_
    replace hS := up2 hS hK1
    refine VC.exit_to (fun _ _ h => h) ?_
    refine VC.seq ?_
    refine VC.region ?_
    refine VL.q (q_move rfl) (by decide) ?_
    refine VL.q (q_assign rfl) (by decide) ?_
    refine VL.to (fun _ _ h => h) ?_
    cases hS
    exact VC.ret (fin1 (.inr rfl) rfl rfl () rfl trivial (fun _ _ => trivial) (fun _ _ => trivial))

set_option maxHeartbeats 4000000 in
set_option maxRecDepth 100000 in
theorem strings_TrimLeft_ct (s_0 : Str) (cutset_1 : Str) {r : Str} (hS : Sh.strings_TrimLeft s_0 cutset_1 = some r) :
    Ct Tryd.prog 55 [str s_0, str cutset_1] Mo.tt (Ow.emp) (X := Unit) (fun _ => str r) (fun _ => True) (fun _ => Mo.tt) (fun _ => Ow.emp) := by
  refine Ct.of Tryd.func55 rfl (by kernel_rfl) Tryd.ntmps55 (by simp) fun c => ?_
  unfold Sh.strings_TrimLeft at hS
  refine VC.seq ?_
  refine VC.region ?_
  refine VL.q (q_assign rfl) (by decide) ?_
  refine VL.to (fun _ _ h => h) ?_
  refine VC.seq ?_
  refine VC.cutJ (S := Bool) (fun (x12_1 : Bool) => x12_1) (fun (x12_1 : Bool) => [(0, str s_0), (1, str cutset_1), (12, .bool x12_1)]) (fun (x12_1 : Bool) => Mo.tt) (fun (x12_1 : Bool) => Ow.emp) hS ?_ ?_
  · -- up to where ways meet
    clear hS
    intro k2 hS
    refine VC.region ?_
    refine VL.q (q_move rfl) (by decide) ?_
    refine VL.q (q_seq rfl rfl) (by decide) ?_
    refine VL.q (q_move rfl) (by decide) ?_
    refine VL.split_dec 9 rfl (fun h9 => ?_) (fun h9 => ?_)
    ·
      replace hS := it_t h9 hS
      refine VL.gn rfl rfl rfl (by decide) ?_
      refine VL.gn rfl rfl rfl (by decide) ?_
      refine VL.q (q_pick_t rfl rfl) (by decide) ?_
      refine VL.mt true [0, 1, 12] (fun _ _ h => h) hS rfl
    ·
      replace hS := it_f h9 hS
      refine VL.gy rfl rfl (q_move rfl) (by decide) ?_
      refine VL.gy rfl rfl (q_seq rfl rfl) (by decide) ?_
      refine VL.q (q_pick_f rfl rfl) (by decide) ?_
      refine VL.mt (decide (cutset_1 = [])) [0, 1, 12] (fun _ _ h => h) hS rfl
  · -- from there
    clear hS
    rintro x12_1 hS
    show VC _ _ _ _ _ [(0, str s_0), (1, str cutset_1), (12, .bool x12_1)] (Mo.and Mo.tt _) (Ow.emp)
    refine VC.cond rfl (fun h12 => ?_) (fun h12 => ?_)
    ·
      replace hS := it_t h12 hS
      refine VC.seq ?_
      refine VC.region ?_
      refine VL.q (q_move rfl) (by decide) ?_
      refine VL.q (q_assign rfl) (by decide) ?_
      refine VL.to (fun _ _ h => h) ?_
      cases hS
      exact VC.ret (fin1 (.inr rfl) rfl rfl () rfl trivial (fun _ _ => trivial) (fun _ _ => trivial))
    ·
      replace hS := it_b h12 hS
      refine VC.skip_to (fun _ _ h => h) ?_
      refine VC.seq ?_
      refine VC.cutJ (S := Bool) (fun (x21_3 : Bool) => x21_3) (fun (x21_3 : Bool) => [(0, str s_0), (1, str cutset_1), (21, .bool x21_3)]) (fun (x21_3 : Bool) => Mo.tt) (fun (x21_3 : Bool) => Ow.emp) hS ?_ ?_
      · -- up to where ways meet
        clear hS
        intro k4 hS
        refine VC.region ?_
        refine VL.q (q_move rfl) (by decide) ?_
        refine VL.q (q_slen Tryd.underlying9 rfl) (by decide) ?_
        refine VL.q (q_eql rfl rfl) (by decide) ?_
        refine VL.q (q_move rfl) (by decide) ?_
        refine VL.split_dec 17 rfl (fun h17 => ?_) (fun h17 => ?_)
        ·
          replace hS := it_t h17 hS
          refine VL.gy rfl rfl (q_move rfl) (by decide) ?_
          obtain ⟨z19_5, nz19_5, hz19_5, hS⟩ := at_s hS
          refine VL.gy rfl rfl (q_sidx Tryd.underlying9 rfl rfl nz19_5 hz19_5) (by decide) ?_
          refine VL.gy rfl rfl (q_lss rfl rfl) (by decide) ?_
          refine VL.q (q_pick_t rfl rfl) (by decide) ?_
          refine VL.mt (decide ((z19_5.toNat : Int) < 128)) [0, 1, 21] (fun _ _ h => h) hS rfl
        ·
          replace hS := it_f h17 hS
          refine VL.gn rfl rfl rfl (by decide) ?_
          refine VL.gn rfl rfl rfl (by decide) ?_
          refine VL.gn rfl rfl rfl (by decide) ?_
          refine VL.q (q_pick_f rfl rfl) (by decide) ?_
          refine VL.mt false [0, 1, 21] (fun _ _ h => h) hS rfl
      · -- from there
        clear hS
        rintro x21_3 hS
        show VC _ _ _ _ _ [(0, str s_0), (1, str cutset_1), (21, .bool x21_3)] (Mo.and Mo.tt _) (Ow.emp)
        refine VC.cond rfl (fun h21 => ?_) (fun h21 => ?_)
        ·
          replace hS := it_t h21 hS
          refine VC.seq ?_
          refine VC.region ?_
          refine VL.q (q_move rfl) (by decide) ?_
          refine VL.q (q_move rfl) (by decide) ?_
          obtain ⟨z24_6, nz24_6, hz24_6, hS⟩ := at_s hS
          refine VL.q (q_sidx Tryd.underlying9 rfl rfl nz24_6 hz24_6) (by decide) ?_
          obtain ⟨y25_7, ey25_7, hS⟩ := bd_s hS
          refine VL.q (q_call (strings_trimLeftByte_ct s_0 (z24_6.toNat : Int) ey25_7) rfl (fun _ _ => rfl)) (by decide) ?_
          refine VL.q (q_assign rfl) (by decide) ?_
          refine VL.to (fun _ _ h => h) ?_
          cases hS
          exact VC.ret (fin1 (.inr rfl) rfl rfl () rfl trivial (fun _ _ => trivial) (fun _ _ => trivial))
        ·
          replace hS := it_b h21 hS
          refine VC.skip_to (fun _ _ h => h) ?_
          refine VC.seq ?_
          refine VC.seq ?_
          refine VC.region ?_
          refine VL.q (q_move rfl) (by decide) ?_
          cases hS

set_option maxHeartbeats 4000000 in
set_option maxRecDepth 100000 in
theorem todo_cut_ct (s_0 : Str) {r : Str × Str} (hS : Sh.todo_cut s_0 = some r) :
    Ct Tryd.prog 101 [str s_0] Mo.tt (Ow.emp) (X := Unit) (fun _ => .tuple #[str r.1, str r.2]) (fun _ => True) (fun _ => Mo.tt) (fun _ => Ow.emp) := by
  refine Ct.of Tryd.func101 rfl (by kernel_rfl) Tryd.ntmps101 (by simp) fun c => ?_
  unfold Sh.todo_cut at hS
  refine VC.seq ?_
  refine VC.region ?_
  refine VL.q (q_assign rfl) (by decide) ?_
  refine VL.q (q_assign rfl) (by decide) ?_
  refine VL.to (fun _ _ h => h) ?_
  refine VC.seq ?_
  refine VC.region ?_
  refine VL.q (q_move rfl) (by decide) ?_
  obtain ⟨y6_1, ey6_1, hS⟩ := bd_s hS
  refine VL.q (q_call (strings_Index_ct s_0 [32] ey6_1) rfl (fun _ _ => rfl)) (by decide) ?_
  refine VL.q (q_assign rfl) (by decide) ?_
  refine VL.to (fun _ _ h => h) ?_
  refine VC.seq ?_
  refine VC.seq ?_
  refine VC.region ?_
  refine VL.q (q_move rfl) (by decide) ?_
  refine VL.q (q_lss rfl rfl) (by decide) ?_
  refine VL.to (fun _ _ h => h) ?_
  refine VC.cond_dec rfl (fun h8 => ?_) (fun h8 => ?_)
  ·
    replace hS := it_t h8 hS
    refine VC.seq ?_
    refine VC.region ?_
    refine VL.q (q_move rfl) (by decide) ?_
    refine VL.q (q_assign rfl) (by decide) ?_
    refine VL.q (q_assign rfl) (by decide) ?_
    refine VL.to (fun _ _ h => h) ?_
    cases hS
    exact VC.ret (fin2 (.inr rfl) rfl rfl rfl () rfl trivial (fun _ _ => trivial) (fun _ _ => trivial))
  ·
    replace hS := it_f h8 hS
    refine VC.skip_to (fun _ _ h => h) ?_
    refine VC.seq ?_
    refine VC.draw ((List.range 9).map fun k => (k, true)) mixed (by kernel_rfl) (by kernel_rfl) (by kernel_rfl) ?_
    refine VD.q rfl (q_move rfl) (by decide) ?_
    refine VD.q rfl (q_move rfl) (by decide) ?_
    obtain ⟨b12, hS⟩ := gd_s hS
    obtain ⟨y12_2, ey12_2, hS⟩ := lt_s hS
    refine VD.q rfl (q_stoE Tryd.underlying9 rfl rfl b12.1 b12.2 ey12_2) (by decide) ?_
    refine VD.q rfl (q_move rfl) (by decide) ?_
    refine VD.q rfl (q_move rfl) (by decide) ?_
    obtain ⟨b15, hS⟩ := gd_s hS
    obtain ⟨y15_3, ey15_3, hS⟩ := lt_s hS
    refine VD.q rfl (q_sfromE Tryd.underlying9 rfl rfl b15.1 b15.2 ey15_3) (by decide) ?_
    obtain ⟨y16_4, ey16_4, hS⟩ := bd_s hS
    refine VD.q rfl (q_call (strings_TrimLeft_ct y15_3 [32] ey16_4) rfl (fun _ _ => rfl)) (by decide) ?_
    refine VD.q rfl (q_assign rfl) (by decide) ?_
    refine VD.q rfl (q_assign rfl) (by decide) ?_
    refine VD.to (fun _ _ h => h) ?_
    refine VC.keep [2, 3] rfl ?_
    cases hS
    exact VC.ret (fin2 (.inr rfl) rfl rfl rfl () rfl trivial (fun _ _ => trivial) (fun _ _ => trivial))

set_option maxHeartbeats 4000000 in
set_option maxRecDepth 100000 in
theorem strings_trimRightByte_ct (s_0 : Str) (c_1 : Int) {r : Str} (hS : Sh.strings_trimRightByte s_0 c_1 = some r) :
    Ct Tryd.prog 140 [str s_0, .int .u8 c_1] Mo.tt (Ow.emp) (X := Unit) (fun _ => str r) (fun _ => True) (fun _ => Mo.tt) (fun _ => Ow.emp) := by
  refine Ct.of Tryd.func140 rfl (by kernel_rfl) Tryd.ntmps140 (by simp) fun c => ?_
  unfold Sh.strings_trimRightByte at hS
  refine VC.seq ?_
  refine VC.region ?_
  refine VL.q (q_assign rfl) (by decide) ?_
  refine VL.to (fun _ _ h => h) ?_
  refine VC.seq ?_
  refine VC.block ?_
  refine VC.iter (S := Str) (fun (s0_1 : Str) => s0_1) (fun (s0_1 : Str) => [(0, str s0_1), (1, .int .u8 c_1)]) (fun (s0_1 : Str) => Mo.tt) (fun (s0_1 : Str) => Ow.emp) s_0 [0, 1] hS rfl ?_
  clear hS
  rintro s0_1 m1 y1 hS hK1
  show VC _ _ _ _ _ [(0, str s0_1), (1, .int .u8 c_1)] (Mo.and Mo.tt _) (Ow.emp)
  refine VC.seq ?_
  refine VC.seq ?_
  refine VC.region ?_
  refine VL.q (q_move rfl) (by decide) ?_
  refine VL.q (q_slen Tryd.underlying9 rfl) (by decide) ?_
  refine VL.q (q_gtr rfl rfl) (by decide) ?_
  refine VL.q (q_move rfl) (by decide) ?_
  refine VL.split_dec 8 rfl (fun h8 => ?_) (fun h8 => ?_)
  ·
    replace hS := it_t h8 hS
    refine VL.gy rfl rfl (q_move rfl) (by decide) ?_
    refine VL.gy rfl rfl (q_move rfl) (by decide) ?_
    refine VL.gy rfl rfl (q_slen Tryd.underlying9 rfl) (by decide) ?_
    obtain ⟨b12, hS⟩ := gd_s hS
    refine VL.gy rfl rfl (q_sub rfl rfl b12) (by decide) ?_
    obtain ⟨z13_2, nz13_2, hz13_2, hS⟩ := at_s hS
    refine VL.gy rfl rfl (q_sidx Tryd.underlying9 rfl rfl nz13_2 hz13_2) (by decide) ?_
    refine VL.gy rfl rfl (q_move rfl) (by decide) ?_
    refine VL.gy rfl rfl (q_eql rfl rfl) (by decide) ?_
    refine VL.q (q_pick_t rfl rfl) (by decide) ?_
    refine VL.to (fun _ _ h => h) ?_
    refine VC.keep [0, 1, 16] rfl ?_
    refine VC.cond_dec rfl (fun h16 => ?_) (fun h16 => ?_)
    ·
      replace hS := it_t h16 hS
      refine VC.skip_to (fun _ _ h => h) ?_
      refine VC.block ?_
      refine VC.region ?_
      refine VL.q (q_move rfl) (by decide) ?_
      refine VL.q (q_move rfl) (by decide) ?_
      refine VL.q (q_slen Tryd.underlying9 rfl) (by decide) ?_
      obtain ⟨b20, hS⟩ := gd_s hS
      refine VL.q (q_sub rfl rfl b20) (by decide) ?_
      obtain ⟨b21, hS⟩ := gd_s hS
      obtain ⟨y21_3, ey21_3, hS⟩ := lt_s hS
      refine VL.q (q_stoE Tryd.underlying9 rfl rfl b21.1 b21.2 ey21_3) (by decide) ?_
      refine VL.q (q_assign rfl) (by decide) ?_
      refine VL.rnd y21_3 [0, 1] (fun _ _ h => h) (go2 hS hK1) rfl
    ·
      replace hS := it_f h16 hS
      replace hS := up2 hS hK1
      refine VC.exit_to (fun _ _ h => h) ?_
      refine VC.seq ?_
      refine VC.region ?_
      refine VL.q (q_move rfl) (by decide) ?_
      refine VL.q (q_assign rfl) (by decide) ?_
      refine VL.to (fun _ _ h => h) ?_
      cases hS
      exact VC.ret (fin1 (.inr rfl) rfl rfl () rfl trivial (fun _ _ => trivial) (fun _ _ => trivial))
  ·
    replace hS := it_f h8 hS
    refine VL.gn rfl rfl rfl (by decide) ?_
    refine VL.gn rfl rfl rfl (by decide) ?_
    refine VL.gn rfl rfl rfl (by decide) ?_
    refine VL.gn rfl rfl rfl (by decide) ?_
    refine VL.gn rfl rfl rfl (by decide) ?_
    refine VL.gn rfl rfl rfl (by decide) ?_
    refine VL.gn rfl rfl rfl (by decide) ?_
    refine VL.q (q_pick_f rfl rfl) (by decide) ?_
    refine VL.to (fun _ _ h => h) ?_
    refine VC.keep [0, 1, 16] rfl ?_
    refine VC.cond_f rfl ?_
    replace hS := up2 hS hK1
    refine VC.exit_to (fun _ _ h => h) ?_
    refine VC.seq ?_
    refine VC.region ?_
    refine VL.q (q_move rfl) (by decide) ?_
    refine VL.q (q_assign rfl) (by decide) ?_
    refine VL.to (fun _ _ h => h) ?_
    cases hS
    exact VC.ret (fin1 (.inr rfl) rfl rfl () rfl trivial (fun _ _ => trivial) (fun _ _ => trivial))

set_option maxHeartbeats 4000000 in
set_option maxRecDepth 100000 in
theorem strings_Trim_ct (s_0 : Str) (cutset_1 : Str) {r : Str} (hS : Sh.strings_Trim s_0 cutset_1 = some r) :
    Ct Tryd.prog 102 [str s_0, str cutset_1] Mo.tt (Ow.emp) (X := Unit) (fun _ => str r) (fun _ => True) (fun _ => Mo.tt) (fun _ => Ow.emp) := by
  refine Ct.of Tryd.func102 rfl (by kernel_rfl) Tryd.ntmps102 (by simp) fun c => ?_
  unfold Sh.strings_Trim at hS
  refine VC.seq ?_
  refine VC.region ?_
  refine VL.q (q_assign rfl) (by decide) ?_
  refine VL.to (fun _ _ h => h) ?_
  refine VC.seq ?_
  refine VC.cutJ (S := Bool) (fun (x12_1 : Bool) => x12_1) (fun (x12_1 : Bool) => [(0, str s_0), (1, str cutset_1), (12, .bool x12_1)]) (fun (x12_1 : Bool) => Mo.tt) (fun (x12_1 : Bool) => Ow.emp) hS ?_ ?_
  · -- up to where ways meet
    clear hS
    intro k2 hS
    refine VC.region ?_
    refine VL.q (q_move rfl) (by decide) ?_
    refine VL.q (q_seq rfl rfl) (by decide) ?_
    refine VL.q (q_move rfl) (by decide) ?_
    refine VL.split_dec 9 rfl (fun h9 => ?_) (fun h9 => ?_)
    ·
      replace hS := it_t h9 hS
      refine VL.gn rfl rfl rfl (by decide) ?_
      refine VL.gn rfl rfl rfl (by decide) ?_
      refine VL.q (q_pick_t rfl rfl) (by decide) ?_
      refine VL.mt true [0, 1, 12] (fun _ _ h => h) hS rfl
    ·
      replace hS := it_f h9 hS
      refine VL.gy rfl rfl (q_move rfl) (by decide) ?_
      refine VL.gy rfl rfl (q_seq rfl rfl) (by decide) ?_
      refine VL.q (q_pick_f rfl rfl) (by decide) ?_
      refine VL.mt (decide (cutset_1 = [])) [0, 1, 12] (fun _ _ h => h) hS rfl
  · -- from there
    clear hS
    rintro x12_1 hS
    show VC _ _ _ _ _ [(0, str s_0), (1, str cutset_1), (12, .bool x12_1)] (Mo.and Mo.tt _) (Ow.emp)
    refine VC.cond rfl (fun h12 => ?_) (fun h12 => ?_)
    ·
      replace hS := it_t h12 hS
      refine VC.seq ?_
      refine VC.region ?_
      refine VL.q (q_move rfl) (by decide) ?_
      refine VL.q (q_assign rfl) (by decide) ?_
      refine VL.to (fun _ _ h => h) ?_
      cases hS
      exact VC.ret (fin1 (.inr rfl) rfl rfl () rfl trivial (fun _ _ => trivial) (fun _ _ => trivial))
    ·
      replace hS := it_b h12 hS
      refine VC.skip_to (fun _ _ h => h) ?_
      refine VC.seq ?_
      refine VC.cutJ (S := Bool) (fun (x21_3 : Bool) => x21_3) (fun (x21_3 : Bool) => [(0, str s_0), (1, str cutset_1), (21, .bool x21_3)]) (fun (x21_3 : Bool) => Mo.tt) (fun (x21_3 : Bool) => Ow.emp) hS ?_ ?_
      · -- up to where ways meet
        clear hS
        intro k4 hS
        refine VC.region ?_
        refine VL.q (q_move rfl) (by decide) ?_
        refine VL.q (q_slen Tryd.underlying9 rfl) (by decide) ?_
        refine VL.q (q_eql rfl rfl) (by decide) ?_
        refine VL.q (q_move rfl) (by decide) ?_
        refine VL.split_dec 17 rfl (fun h17 => ?_) (fun h17 => ?_)
        ·
          replace hS := it_t h17 hS
          refine VL.gy rfl rfl (q_move rfl) (by decide) ?_
          obtain ⟨z19_5, nz19_5, hz19_5, hS⟩ := at_s hS
          refine VL.gy rfl rfl (q_sidx Tryd.underlying9 rfl rfl nz19_5 hz19_5) (by decide) ?_
          refine VL.gy rfl rfl (q_lss rfl rfl) (by decide) ?_
          refine VL.q (q_pick_t rfl rfl) (by decide) ?_
          refine VL.mt (decide ((z19_5.toNat : Int) < 128)) [0, 1, 21] (fun _ _ h => h) hS rfl
        ·
          replace hS := it_f h17 hS
          refine VL.gn rfl rfl rfl (by decide) ?_
          refine VL.gn rfl rfl rfl (by decide) ?_
          refine VL.gn rfl rfl rfl (by decide) ?_
          refine VL.q (q_pick_f rfl rfl) (by decide) ?_
          refine VL.mt false [0, 1, 21] (fun _ _ h => h) hS rfl
      · -- from there
        clear hS
        rintro x21_3 hS
        show VC _ _ _ _ _ [(0, str s_0), (1, str cutset_1), (21, .bool x21_3)] (Mo.and Mo.tt _) (Ow.emp)
        refine VC.cond rfl (fun h21 => ?_) (fun h21 => ?_)
        ·
          replace hS := it_t h21 hS
          refine VC.seq ?_
          refine VC.draw ((List.range 8).map fun k => (k, true)) mixed (by kernel_rfl) (by kernel_rfl) (by kernel_rfl) ?_
          refine VD.q rfl (q_move rfl) (by decide) ?_
          refine VD.q rfl (q_move rfl) (by decide) ?_
          obtain ⟨z24_6, nz24_6, hz24_6, hS⟩ := at_s hS
          refine VD.q rfl (q_sidx Tryd.underlying9 rfl rfl nz24_6 hz24_6) (by decide) ?_
          obtain ⟨y25_7, ey25_7, hS⟩ := bd_s hS
          refine VD.q rfl (q_call (strings_trimRightByte_ct s_0 (z24_6.toNat : Int) ey25_7) rfl (fun _ _ => rfl)) (by decide) ?_
          refine VD.q rfl (q_move rfl) (by decide) ?_
          obtain ⟨z27_8, nz27_8, hz27_8, hS⟩ := at_s hS
          refine VD.q rfl (q_sidx Tryd.underlying9 rfl rfl nz27_8 hz27_8) (by decide) ?_
          obtain ⟨y28_9, ey28_9, hS⟩ := bd_s hS
          refine VD.q rfl (q_call (strings_trimLeftByte_ct y25_7 (z27_8.toNat : Int) ey28_9) rfl (fun _ _ => rfl)) (by decide) ?_
          refine VD.q rfl (q_assign rfl) (by decide) ?_
          refine VD.to (fun _ _ h => h) ?_
          refine VC.keep [4] rfl ?_
          cases hS
          exact VC.ret (fin1 (.inr rfl) rfl rfl () rfl trivial (fun _ _ => trivial) (fun _ _ => trivial))
        ·
          replace hS := it_b h21 hS
          refine VC.skip_to (fun _ _ h => h) ?_
          refine VC.seq ?_
          refine VC.seq ?_
          refine VC.region ?_
          refine VL.q (q_move rfl) (by decide) ?_
          cases hS

set_option maxHeartbeats 4000000 in
set_option maxRecDepth 100000 in
theorem todo_verb_ct (s_0 : Str) {r : Bool × Bool} (hS : Sh.todo_verb s_0 = some r) :
    Ct Tryd.prog 93 [str s_0] Mo.tt (Ow.emp) (X := Unit) (fun _ => .tuple #[.bool r.1, .bool r.2]) (fun _ => True) (fun _ => Mo.tt) (fun _ => Ow.emp) := by
  refine Ct.of Tryd.func93 rfl (by kernel_rfl) Tryd.ntmps93 (by simp) fun c => ?_
  unfold Sh.todo_verb at hS
  refine VC.seq ?_
  refine VC.region ?_
  refine VL.q (q_assign rfl) (by decide) ?_
  refine VL.q (q_assign rfl) (by decide) ?_
  refine VL.to (fun _ _ h => h) ?_
  refine VC.seq ?_
  refine VC.seq ?_
  refine VC.region ?_
  refine VL.q (q_move rfl) (by decide) ?_
  refine VL.to (fun _ _ h => h) ?_
  refine VC.block ?_
  refine VC.cutJ (S := Unit) (fun (_ : Unit) => ()) (fun (_ : Unit) => []) (fun (_ : Unit) => Mo.tt) (fun (_ : Unit) => Ow.emp) hS ?_ ?_
  · -- up to where ways meet
    clear hS
    intro k1 hS
    refine VC.block ?_
    refine VC.block ?_
    refine VC.block ?_
    refine VC.block ?_
    refine VC.cutJ (S := Unit) (fun (_ : Unit) => ()) (fun (_ : Unit) => []) (fun (_ : Unit) => Mo.tt) (fun (_ : Unit) => Ow.emp) hS ?_ ?_
    · -- up to where ways meet
      clear hS
      intro k2 hS
      refine VC.block ?_
      refine VC.block ?_
      refine VC.seq ?_
      refine VC.seq ?_
      refine VC.seq ?_
      refine VC.region ?_
      refine VL.q (q_seq rfl rfl) (by decide) ?_
      refine VL.q (q_assign rfl) (by decide) ?_
      refine VL.to (fun _ _ h => h) ?_
      refine VC.cond_dec rfl (fun h5 => ?_) (fun h5 => ?_)
      ·
        replace hS := it_t h5 hS
        refine VC.exit_mt () [] (fun _ _ h => h) hS rfl
      ·
        replace hS := it_f h5 hS
        refine VC.skip_to (fun _ _ h => h) ?_
        refine VC.seq ?_
        refine VC.seq ?_
        refine VC.region ?_
        refine VL.q (q_seq rfl rfl) (by decide) ?_
        refine VL.q (q_assign rfl) (by decide) ?_
        refine VL.to (fun _ _ h => h) ?_
        refine VC.cond_dec rfl (fun h7 => ?_) (fun h7 => ?_)
        ·
          replace hS := it_t h7 hS
          refine VC.exit_mt () [] (fun _ _ h => h) hS rfl
        ·
          replace hS := it_f h7 hS
          refine VC.skip_to (fun _ _ h => h) ?_
          refine VC.seq ?_
          refine VC.seq ?_
          refine VC.region ?_
          refine VL.q (q_seq rfl rfl) (by decide) ?_
          refine VL.q (q_assign rfl) (by decide) ?_
          refine VL.to (fun _ _ h => h) ?_
          refine VC.cond_dec rfl (fun h9 => ?_) (fun h9 => ?_)
          ·
            replace hS := it_t h9 hS
            refine VC.exit_mt () [] (fun _ _ h => h) hS rfl
          ·
            replace hS := it_f h9 hS
            refine VC.skip_to (fun _ _ h => h) ?_
            refine VC.seq ?_
            refine VC.seq ?_
            refine VC.region ?_
            refine VL.q (q_seq rfl rfl) (by decide) ?_
            refine VL.q (q_assign rfl) (by decide) ?_
            refine VL.to (fun _ _ h => h) ?_
            refine VC.keep [4, 11] rfl ?_
            refine VC.cond_dec rfl (fun h11 => ?_) (fun h11 => ?_)
            ·
              replace hS := it_t h11 hS
              refine VC.exit_mt () [] (fun _ _ h => h) hS rfl
            ·
              replace hS := it_f h11 hS
              refine VC.skip_to (fun _ _ h => h) ?_
              refine VC.seq ?_
              refine VC.seq ?_
              refine VC.region ?_
              refine VL.q (q_seq rfl rfl) (by decide) ?_
              refine VL.q (q_assign rfl) (by decide) ?_
              refine VL.to (fun _ _ h => h) ?_
              refine VC.cond_dec rfl (fun h13 => ?_) (fun h13 => ?_)
              ·
                replace hS := it_t h13 hS
                refine VC.exit_mt () [] (fun _ _ h => h) hS rfl
              ·
                replace hS := it_f h13 hS
                refine VC.skip_to (fun _ _ h => h) ?_
                refine VC.seq ?_
                refine VC.region ?_
                refine VL.q (q_seq rfl rfl) (by decide) ?_
                refine VL.q (q_assign rfl) (by decide) ?_
                refine VL.to (fun _ _ h => h) ?_
                refine VC.cond_dec rfl (fun h15 => ?_) (fun h15 => ?_)
                ·
                  replace hS := it_t h15 hS
                  refine VC.exit_mt () [] (fun _ _ h => h) hS rfl
                ·
                  replace hS := it_f h15 hS
                  refine VC.skip_to (fun _ _ h => h) ?_
                  refine VC.exit_to (fun _ _ h => h) ?_
                  refine VC.seq ?_
                  refine VC.region ?_
                  refine VL.q (q_assign rfl) (by decide) ?_
                  refine VL.q (q_assign rfl) (by decide) ?_
                  refine VL.to (fun _ _ h => h) ?_
                  cases hS
                  exact VC.ret (fin2 (.inr rfl) rfl rfl rfl () rfl trivial (fun _ _ => trivial) (fun _ _ => trivial))
    · -- from there
      clear hS
      rintro _ hS
      show VC _ _ _ _ _ [] (Mo.and Mo.tt _) (Ow.emp)
      refine VC.seq ?_
      refine VC.seq ?_
      refine VC.region ?_
      refine VL.q (q_assign rfl) (by decide) ?_
      refine VL.q (q_assign rfl) (by decide) ?_
      refine VL.to (fun _ _ h => h) ?_
      cases hS
      exact VC.ret (fin2 (.inr rfl) rfl rfl rfl () rfl trivial (fun _ _ => trivial) (fun _ _ => trivial))
  · -- from there
    clear hS
    rintro _ hS
    show VC _ _ _ _ _ [] (Mo.and Mo.tt _) (Ow.emp)
    refine VC.seq ?_
    refine VC.seq ?_
    refine VC.region ?_
    refine VL.q (q_assign rfl) (by decide) ?_
    refine VL.q (q_assign rfl) (by decide) ?_
    refine VL.to (fun _ _ h => h) ?_
    cases hS
    exact VC.ret (fin2 (.inr rfl) rfl rfl rfl () rfl trivial (fun _ _ => trivial) (fun _ _ => trivial))

set_option maxHeartbeats 4000000 in
set_option maxRecDepth 100000 in
theorem internal_stringslite_Cut_ct (s_0 : Str) (sep_1 : Str) {r : Str × Str × Bool} (hS : Sh.internal_stringslite_Cut s_0 sep_1 = some r) :
    Ct Tryd.prog 143 [str s_0, str sep_1] Mo.tt (Ow.emp) (X := Unit) (fun _ => .tuple #[str r.1, str r.2.1, .bool r.2.2]) (fun _ => True) (fun _ => Mo.tt) (fun _ => Ow.emp) := by
  refine Ct.of Tryd.func143 rfl (by kernel_rfl) Tryd.ntmps143 (by simp) fun c => ?_
  unfold Sh.internal_stringslite_Cut at hS
  refine VC.seq ?_
  refine VC.region ?_
  refine VL.q (q_assign rfl) (by decide) ?_
  refine VL.q (q_assign rfl) (by decide) ?_
  refine VL.q (q_assign rfl) (by decide) ?_
  refine VL.to (fun _ _ h => h) ?_
  refine VC.seq ?_
  refine VC.seq ?_
  refine VC.region ?_
  refine VL.q (q_move rfl) (by decide) ?_
  refine VL.q (q_move rfl) (by decide) ?_
  obtain ⟨y10_1, ey10_1, hS⟩ := bd_s hS
  refine VL.q (q_call (internal_stringslite_Index_ct s_0 sep_1 ey10_1) rfl (fun _ _ => rfl)) (by decide) ?_
  refine VL.q (q_assign rfl) (by decide) ?_
  refine VL.to (fun _ _ h => h) ?_
  refine VC.seq ?_
  refine VC.region ?_
  refine VL.q (q_move rfl) (by decide) ?_
  refine VL.q (q_geq rfl rfl) (by decide) ?_
  refine VL.to (fun _ _ h => h) ?_
  refine VC.keep [0, 1, 7, 12] rfl ?_
  refine VC.cond_dec rfl (fun h12 => ?_) (fun h12 => ?_)
  ·
    replace hS := it_t h12 hS
    refine VC.seq ?_
    refine VC.draw ((List.range 12).map fun k => (k, true)) mixed (by kernel_rfl) (by kernel_rfl) (by kernel_rfl) ?_
    refine VD.q rfl (q_move rfl) (by decide) ?_
    refine VD.q rfl (q_move rfl) (by decide) ?_
    obtain ⟨b15, hS⟩ := gd_s hS
    obtain ⟨y15_2, ey15_2, hS⟩ := lt_s hS
    refine VD.q rfl (q_stoE Tryd.underlying9 rfl rfl b15.1 b15.2 ey15_2) (by decide) ?_
    refine VD.q rfl (q_move rfl) (by decide) ?_
    refine VD.q rfl (q_move rfl) (by decide) ?_
    refine VD.q rfl (q_move rfl) (by decide) ?_
    refine VD.q rfl (q_slen Tryd.underlying9 rfl) (by decide) ?_
    obtain ⟨b20, hS⟩ := gd_s hS
    refine VD.q rfl (q_add rfl rfl b20) (by decide) ?_
    obtain ⟨b21, hS⟩ := gd_s hS
    obtain ⟨y21_3, ey21_3, hS⟩ := lt_s hS
    refine VD.q rfl (q_sfromE Tryd.underlying9 rfl rfl b21.1 b21.2 ey21_3) (by decide) ?_
    refine VD.q rfl (q_assign rfl) (by decide) ?_
    refine VD.q rfl (q_assign rfl) (by decide) ?_
    refine VD.q rfl (q_assign rfl) (by decide) ?_
    refine VD.to (fun _ _ h => h) ?_
    refine VC.keep [4, 5, 6] rfl ?_
    cases hS
    exact VC.ret (fin3 (.inr rfl) rfl rfl rfl rfl () rfl trivial (fun _ _ => trivial) (fun _ _ => trivial))
  ·
    replace hS := it_f h12 hS
    refine VC.skip_to (fun _ _ h => h) ?_
    refine VC.seq ?_
    refine VC.region ?_
    refine VL.q (q_move rfl) (by decide) ?_
    refine VL.q (q_assign rfl) (by decide) ?_
    refine VL.q (q_assign rfl) (by decide) ?_
    refine VL.q (q_assign rfl) (by decide) ?_
    refine VL.to (fun _ _ h => h) ?_
    cases hS
    exact VC.ret (fin3 (.inr rfl) rfl rfl rfl rfl () rfl trivial (fun _ _ => trivial) (fun _ _ => trivial))

set_option maxHeartbeats 4000000 in
set_option maxRecDepth 100000 in
theorem strings_Cut_ct (s_0 : Str) (sep_1 : Str) {r : Str × Str × Bool} (hS : Sh.strings_Cut s_0 sep_1 = some r) :
    Ct Tryd.prog 103 [str s_0, str sep_1] Mo.tt (Ow.emp) (X := Unit) (fun _ => .tuple #[str r.1, str r.2.1, .bool r.2.2]) (fun _ => True) (fun _ => Mo.tt) (fun _ => Ow.emp) := by
  refine Ct.of Tryd.func103 rfl (by kernel_rfl) Tryd.ntmps103 (by simp) fun c => ?_
  unfold Sh.strings_Cut at hS
  refine VC.seq ?_
  refine VC.region ?_
  refine VL.q (q_assign rfl) (by decide) ?_
  refine VL.q (q_assign rfl) (by decide) ?_
  refine VL.q (q_assign rfl) (by decide) ?_
  refine VL.to (fun _ _ h => h) ?_
  refine VC.seq ?_
  refine VC.region ?_
  refine VL.q (q_move rfl) (by decide) ?_
  refine VL.q (q_move rfl) (by decide) ?_
  obtain ⟨y9_1, ey9_1, hS⟩ := bd_s hS
  refine VL.q (q_call (internal_stringslite_Cut_ct s_0 sep_1 ey9_1) rfl (fun _ _ => rfl)) (by decide) ?_
  refine VL.q (q_extract rfl rfl) (by decide) ?_
  refine VL.q (q_extract rfl rfl) (by decide) ?_
  refine VL.q (q_extract rfl rfl) (by decide) ?_
  refine VL.q (q_assign rfl) (by decide) ?_
  refine VL.q (q_assign rfl) (by decide) ?_
  refine VL.q (q_assign rfl) (by decide) ?_
  refine VL.to (fun _ _ h => h) ?_
  refine VC.keep [4, 5, 6] rfl ?_
  cases hS
  exact VC.ret (fin3 (.inr rfl) rfl rfl rfl rfl () rfl trivial (fun _ _ => trivial) (fun _ _ => trivial))

set_option maxHeartbeats 4000000 in
set_option maxRecDepth 100000 in
theorem todo_number_ct (s_0 : Str) {r : Int × Bool} (hS : Sh.todo_number s_0 = some r) :
    Ct Tryd.prog 104 [str s_0] Mo.tt (Ow.emp) (X := Unit) (fun _ => .tuple #[i64 r.1, .bool r.2]) (fun _ => True) (fun _ => Mo.tt) (fun _ => Ow.emp) := by
  refine Ct.of Tryd.func104 rfl (by kernel_rfl) Tryd.ntmps104 (by simp) fun c => ?_
  unfold Sh.todo_number at hS
  refine VC.seq ?_
  refine VC.region ?_
  refine VL.q (q_assign rfl) (by decide) ?_
  refine VL.q (q_assign rfl) (by decide) ?_
  refine VL.to (fun _ _ h => h) ?_
  refine VC.seq ?_
  refine VC.cutJ (S := Bool) (fun (x18_1 : Bool) => x18_1) (fun (x18_1 : Bool) => [(0, str s_0), (18, .bool x18_1)]) (fun (x18_1 : Bool) => Mo.tt) (fun (x18_1 : Bool) => Ow.emp) hS ?_ ?_
  · -- up to where ways meet
    clear hS
    intro k2 hS
    refine VC.region ?_
    refine VL.q (q_move rfl) (by decide) ?_
    refine VL.q (q_seq rfl rfl) (by decide) ?_
    refine VL.q (q_move rfl) (by decide) ?_
    refine VL.split_dec 9 rfl (fun h9 => ?_) (fun h9 => ?_)
    ·
      replace hS := it_t h9 hS
      refine VL.gn rfl rfl rfl (by decide) ?_
      refine VL.gn rfl rfl rfl (by decide) ?_
      refine VL.gn rfl rfl rfl (by decide) ?_
      refine VL.q (q_pick_t rfl rfl) (by decide) ?_
      refine VL.q (q_move rfl) (by decide) ?_
      refine VL.gn rfl rfl rfl (by decide) ?_
      refine VL.gn rfl rfl rfl (by decide) ?_
      refine VL.gn rfl rfl rfl (by decide) ?_
      refine VL.q (q_pick_t rfl rfl) (by decide) ?_
      refine VL.mt true [0, 18] (fun _ _ h => h) hS rfl
    ·
      replace hS := it_f h9 hS
      refine VL.gy rfl rfl (q_move rfl) (by decide) ?_
      refine VL.gy rfl rfl (q_slen Tryd.underlying9 rfl) (by decide) ?_
      refine VL.gy rfl rfl (q_gtr rfl rfl) (by decide) ?_
      refine VL.q (q_pick_f rfl rfl) (by decide) ?_
      refine VL.q (q_move rfl) (by decide) ?_
      refine VL.split_dec 14 rfl (fun h14 => ?_) (fun h14 => ?_)
      ·
        replace hS := it_t h14 hS
        refine VL.gn rfl rfl rfl (by decide) ?_
        refine VL.gn rfl rfl rfl (by decide) ?_
        refine VL.gn rfl rfl rfl (by decide) ?_
        refine VL.q (q_pick_t rfl rfl) (by decide) ?_
        refine VL.mt true [0, 18] (fun _ _ h => h) hS rfl
      ·
        replace hS := it_f h14 hS
        refine VL.gy rfl rfl (q_move rfl) (by decide) ?_
        obtain ⟨z16_3, nz16_3, hz16_3, hS⟩ := at_s hS
        refine VL.gy rfl rfl (q_sidx Tryd.underlying9 rfl rfl nz16_3 hz16_3) (by decide) ?_
        refine VL.gy rfl rfl (q_eql rfl rfl) (by decide) ?_
        refine VL.q (q_pick_f rfl rfl) (by decide) ?_
        refine VL.mt (decide ((z16_3.toNat : Int) = 48)) [0, 18] (fun _ _ h => h) hS rfl
  · -- from there
    clear hS
    rintro x18_1 hS
    show VC _ _ _ _ _ [(0, str s_0), (18, .bool x18_1)] (Mo.and Mo.tt _) (Ow.emp)
    refine VC.cond rfl (fun h18 => ?_) (fun h18 => ?_)
    ·
      replace hS := it_t h18 hS
      refine VC.seq ?_
      refine VC.region ?_
      refine VL.q (q_assign rfl) (by decide) ?_
      refine VL.q (q_assign rfl) (by decide) ?_
      refine VL.to (fun _ _ h => h) ?_
      cases hS
      exact VC.ret (fin2 (.inr rfl) rfl rfl rfl () rfl trivial (fun _ _ => trivial) (fun _ _ => trivial))
    ·
      replace hS := it_b h18 hS
      refine VC.skip_to (fun _ _ h => h) ?_
      refine VC.seq ?_
      refine VC.region ?_
      refine VL.q (q_assign rfl) (by decide) ?_
      refine VL.to (fun _ _ h => h) ?_
      refine VC.seq ?_
      refine VC.seq ?_
      refine VC.region ?_
      refine VL.q (q_move rfl) (by decide) ?_
      obtain ⟨b20, hS⟩ := gd_s hS
      refine VL.s2b Tryd.underlying9 Tryd.underlying22 Tryd.underlying5 rfl b20 (by decide) fun s20_4 hs20_4 => ?_
      replace hS := lt_to hs20_4 hS
      refine VL.q (q_ln (s := s20_4) Tryd.underlying22 rfl) (by decide) ?_
      refine VL.q (q_move rfl) (by decide) ?_
      refine VL.to (fun _ _ h => h) ?_
      refine VC.block ?_
      refine VC.iter (S := Int × Int) (fun sg => (sg.1, sg.2)) (fun sg => [(4, i64 sg.1), (20, s20_4.val), (21, i64 (s20_4.l.length : Int)), (22, i64 sg.2)]) (fun sg => Mo.tt) (fun sg => Ow.emp) (0, 0) [4, 20, 21, 22] hS rfl ?_
      clear hS
      rintro ⟨n4_6, x22_7⟩ m1 y1 hS hK1
      show VC _ _ _ _ _ [(4, i64 n4_6), (20, s20_4.val), (21, i64 (s20_4.l.length : Int)), (22, i64 x22_7)] (Mo.and Mo.tt _) (Ow.emp)
      refine VC.seq ?_
      refine VC.region ?_
      refine VL.q (q_lss rfl rfl) (by decide) ?_
      refine VL.to (fun _ _ h => h) ?_
      refine VC.seq ?_
      refine VC.cond_dec rfl (fun h23 => ?_) (fun h23 => ?_)
      ·
        replace hS := it_t h23 hS
        refine VC.skip_to (fun _ _ h => h) ?_
        refine VC.seq ?_
        refine VC.block ?_
        refine VC.seq ?_
        refine VC.region ?_
        obtain ⟨z24_8, nz24_8, hz24_8, hS⟩ := at_s hS
        refine VL.q (q_ixm (s := s20_4) Tryd.underlying22 gsz5 rfl rfl nz24_8 (lt_of_get nz24_8 hz24_8)) (by decide) ?_
        refine VL.q (q_el (s := s20_4) gone5 rfl hz24_8 rfl) (by decide) ?_
        refine VL.q (q_assign rfl) (by decide) ?_
        refine VL.to (fun _ _ h => h) ?_
        refine VC.seq ?_
        refine VC.cutJ (S := Bool) (fun (x31_9 : Bool) => x31_9) (fun (x31_9 : Bool) => [(4, i64 n4_6), (6, .int .u8 (z24_8.toNat : Int)), (20, s20_4.val), (21, i64 (s20_4.l.length : Int)), (22, i64 x22_7), (31, .bool x31_9)]) (fun (x31_9 : Bool) => Mo.tt) (fun (x31_9 : Bool) => Ow.emp) hS ?_ ?_
        · -- up to where ways meet
          clear hS
          intro k10 hS
          refine VC.region ?_
          refine VL.q (q_move rfl) (by decide) ?_
          refine VL.q (q_lss rfl rfl) (by decide) ?_
          refine VL.q (q_move rfl) (by decide) ?_
          refine VL.split_dec 28 rfl (fun h28 => ?_) (fun h28 => ?_)
          ·
            replace hS := it_t h28 hS
            refine VL.gn rfl rfl rfl (by decide) ?_
            refine VL.gn rfl rfl rfl (by decide) ?_
            refine VL.q (q_pick_t rfl rfl) (by decide) ?_
            refine VL.mt true [4, 6, 20, 21, 22, 31] (fun _ _ h => h) hS rfl
          ·
            replace hS := it_f h28 hS
            refine VL.gy rfl rfl (q_move rfl) (by decide) ?_
            refine VL.gy rfl rfl (q_gtr rfl rfl) (by decide) ?_
            refine VL.q (q_pick_f rfl rfl) (by decide) ?_
            refine VL.mt (decide (57 < (z24_8.toNat : Int))) [4, 6, 20, 21, 22, 31] (fun _ _ h => h) hS rfl
        · -- from there
          clear hS
          rintro x31_9 hS
          show VC _ _ _ _ _ [(4, i64 n4_6), (6, .int .u8 (z24_8.toNat : Int)), (20, s20_4.val), (21, i64 (s20_4.l.length : Int)), (22, i64 x22_7), (31, .bool x31_9)] (Mo.and Mo.tt _) (Ow.emp)
          refine VC.cond rfl (fun h31 => ?_) (fun h31 => ?_)
          ·
            replace hS := it_t h31 hS
            refine VC.seq ?_
            refine VC.region ?_
            refine VL.q (q_assign rfl) (by decide) ?_
            refine VL.q (q_assign rfl) (by decide) ?_
            refine VL.to (fun _ _ h => h) ?_
            replace hS := up2 hS hK1
            cases hS
            exact VC.ret (fin2 (.inr rfl) rfl rfl rfl () rfl trivial (fun _ _ => trivial) (fun _ _ => trivial))
          ·
            replace hS := it_b h31 hS
            refine VC.skip_to (fun _ _ h => h) ?_
            refine VC.region ?_
            refine VL.q (q_move rfl) (by decide) ?_
            obtain ⟨b33, hS⟩ := gd_s hS
            refine VL.q (q_mul rfl rfl b33) (by decide) ?_
            refine VL.q (q_move rfl) (by decide) ?_
            obtain ⟨b35, hS⟩ := gd_s hS
            refine VL.q (q_subW rfl rfl (wu8_in b35)) (by decide) ?_
            refine VL.q (q_convW Tryd.underlying5 Tryd.underlying3 rfl) (by decide) ?_
            obtain ⟨b37, hS⟩ := gd_s hS
            refine VL.q (q_add rfl rfl b37) (by decide) ?_
            refine VL.q (q_assign rfl) (by decide) ?_
            refine VL.to (fun _ _ h => h) ?_
            refine VC.keep [4, 20, 21, 22] rfl ?_
            refine VC.region ?_
            obtain ⟨b38, hS⟩ := gd_s hS
            refine VL.q (q_add rfl rfl b38) (by decide) ?_
            refine VL.q (q_move rfl) (by decide) ?_
            refine VL.rnd (((10 * n4_6) + (IntKind.wrap .i64 ((z24_8.toNat : Int) - 48))), (x22_7 + 1)) [4, 20, 21, 22] (fun _ _ h => h) (go2 hS hK1) rfl
      ·
        replace hS := it_f h23 hS
        replace hS := up2 hS hK1
        refine VC.exit_to (fun _ _ h => h) ?_
        refine VC.seq ?_
        refine VC.region ?_
        refine VL.q (q_move rfl) (by decide) ?_
        refine VL.q (q_move rfl) (by decide) ?_
        refine VL.q (q_leq rfl rfl) (by decide) ?_
        refine VL.q (q_assign rfl) (by decide) ?_
        refine VL.q (q_assign rfl) (by decide) ?_
        refine VL.to (fun _ _ h => h) ?_
        cases hS
        exact VC.ret (fin2 (.inr rfl) rfl rfl rfl () rfl trivial (fun _ _ => trivial) (fun _ _ => trivial))

set_option maxHeartbeats 4000000 in
set_option maxRecDepth 100000 in
theorem todo_line_ct (a_0 : Str) {r : TodoStep × Int} (hS : Sh.todo_line a_0 = some r) :
    Ct Tryd.prog 56 [str a_0] Mo.tt (Ow.emp) (X := Unit) (fun _ => .tuple #[.agg #[str r.1.verb, i64 r.1.commit, str r.1.text], i64 r.2]) (fun _ => True) (fun _ => Mo.tt) (fun _ => Ow.emp) := by
  refine Ct.of Tryd.func56 rfl (by kernel_rfl) Tryd.ntmps56 (by simp) fun c => ?_
  unfold Sh.todo_line at hS
  refine VC.seq ?_
  refine VC.region ?_
  refine VL.alloc (cs := [str [], i64 0, str []]) (by kernel_rfl) (by decide) fun b2_1 => ?_
  refine VL.q (q_assign rfl) (by decide) ?_
  refine VL.to (fun _ _ h => h) ?_
  refine VC.seq ?_
  refine VC.region ?_
  refine VL.q (q_move rfl) (by decide) ?_
  obtain ⟨y15_2, ey15_2, hS⟩ := bd_s hS
  refine VL.q (q_call (todo_cut_ct a_0 ey15_2) rfl (fun _ _ => rfl)) (by decide) ?_
  refine VL.q (q_move rfl) (by decide) ?_
  refine VL.q (q_extract rfl rfl) (by decide) ?_
  refine VL.q (q_extract rfl rfl) (by decide) ?_
  refine VL.q (q_assign rfl) (by decide) ?_
  refine VL.q (q_assign rfl) (by decide) ?_
  refine VL.to (fun _ _ h => h) ?_
  refine VC.seq ?_
  refine VC.seq ?_
  refine VC.region ?_
  refine VL.q (q_move rfl) (by decide) ?_
  obtain ⟨y19_3, ey19_3, hS⟩ := bd_s hS
  refine VL.q (q_call (strings_Trim_ct y15_2.2 [32] ey19_3) rfl (fun _ _ => rfl)) (by decide) ?_
  refine VL.q (q_seq rfl rfl) (by decide) ?_
  refine VL.to (fun _ _ h => h) ?_
  refine VC.keep [2, 4, 5, 20] rfl ?_
  refine VC.cond_dec rfl (fun h20 => ?_) (fun h20 => ?_)
  ·
    replace hS := it_t h20 hS
    refine VC.seq ?_
    refine VC.region ?_
    refine VL.q (q_build (vs := []) (cs := #[str [], i64 0, str []]) rfl (by kernel_rfl)) (by decide) ?_
    refine VL.store (vc := [str [], i64 0, str []]) (cs' := [str [], i64 0, str []]) rfl rfl rfl gsz48 rfl rfl (Nat.le_of_ble_eq_true rfl) rfl ?_
    refine VL.q (q_assign rfl) (by decide) ?_
    refine VL.to (fun _ _ h => h) ?_
    cases hS
    exact VC.ret (finG (vs := [.agg #[str [], i64 0, str []], i64 2]) (.inr rfl) rfl (RVs.cell gagg48 rfl rfl Rd.blk (RVs.tmp rfl (RVs.nil))) () rfl trivial (by (try dsimp only); exact InM.out) (fun _ _ => trivial))
  ·
    replace hS := it_f h20 hS
    refine VC.skip_to (fun _ _ h => h) ?_
    refine VC.seq ?_
    refine VC.seq ?_
    refine VC.region ?_
    refine VL.q (q_move rfl) (by decide) ?_
    obtain ⟨y24_4, ey24_4, hS⟩ := bd_s hS
    refine VL.q (q_call (todo_verb_ct y15_2.1 ey24_4) rfl (fun _ _ => rfl)) (by decide) ?_
    refine VL.q (q_move rfl) (by decide) ?_
    refine VL.q (q_extract rfl rfl) (by decide) ?_
    refine VL.q (q_extract rfl rfl) (by decide) ?_
    refine VL.q (q_assign rfl) (by decide) ?_
    refine VL.q (q_assign rfl) (by decide) ?_
    refine VL.to (fun _ _ h => h) ?_
    refine VC.keep [2, 4, 5, 6] rfl ?_
    refine VC.seq ?_
    refine VC.region ?_
    refine VL.q (q_move rfl) (by decide) ?_
    refine VL.q (q_not rfl) (by decide) ?_
    refine VL.to (fun _ _ h => h) ?_
    refine VC.cond rfl (fun h28 => ?_) (fun h28 => ?_)
    ·
      replace hS := it_t h28 hS
      refine VC.seq ?_
      refine VC.region ?_
      refine VL.q (q_build (vs := []) (cs := #[str [], i64 0, str []]) rfl (by kernel_rfl)) (by decide) ?_
      refine VL.store (vc := [str [], i64 0, str []]) (cs' := [str [], i64 0, str []]) rfl rfl rfl gsz48 rfl rfl (Nat.le_of_ble_eq_true rfl) rfl ?_
      refine VL.q (q_assign rfl) (by decide) ?_
      refine VL.to (fun _ _ h => h) ?_
      cases hS
      exact VC.ret (finG (vs := [.agg #[str [], i64 0, str []], i64 5]) (.inr rfl) rfl (RVs.cell gagg48 rfl rfl Rd.blk (RVs.tmp rfl (RVs.nil))) () rfl trivial (by (try dsimp only); exact InM.out) (fun _ _ => trivial))
    ·
      replace hS := it_b h28 hS
      refine VC.skip_to (fun _ _ h => h) ?_
      refine VC.seq ?_
      refine VC.region ?_
      refine VL.q (q_move rfl) (by decide) ?_
      obtain ⟨y32_5, ey32_5, hS⟩ := bd_s hS
      refine VL.q (q_call (strings_Cut_ct y15_2.2 [32] ey32_5) rfl (fun _ _ => rfl)) (by decide) ?_
      refine VL.q (q_move rfl) (by decide) ?_
      refine VL.q (q_extract rfl rfl) (by decide) ?_
      refine VL.q (q_extract rfl rfl) (by decide) ?_
      refine VL.q (q_extract rfl rfl) (by decide) ?_
      refine VL.q (q_assign rfl) (by decide) ?_
      refine VL.q (q_assign rfl) (by decide) ?_
      refine VL.q (q_assign rfl) (by decide) ?_
      refine VL.to (fun _ _ h => h) ?_
      refine VC.keep [2, 4, 8, 9, 10] rfl ?_
      refine VC.seq ?_
      refine VC.region ?_
      refine VL.q (q_move rfl) (by decide) ?_
      obtain ⟨y38_6, ey38_6, hS⟩ := bd_s hS
      refine VL.q (q_call (todo_number_ct y32_5.1 ey38_6) rfl (fun _ _ => rfl)) (by decide) ?_
      refine VL.q (q_move rfl) (by decide) ?_
      refine VL.q (q_extract rfl rfl) (by decide) ?_
      refine VL.q (q_extract rfl rfl) (by decide) ?_
      refine VL.q (q_assign rfl) (by decide) ?_
      refine VL.q (q_assign rfl) (by decide) ?_
      refine VL.to (fun _ _ h => h) ?_
      refine VC.seq ?_
      refine VC.seq ?_
      refine VC.region ?_
      refine VL.q (q_move rfl) (by decide) ?_
      refine VL.q (q_not rfl) (by decide) ?_
      refine VL.to (fun _ _ h => h) ?_
      refine VC.keep [2, 4, 9, 10, 11, 42] rfl ?_
      refine VC.cond rfl (fun h42 => ?_) (fun h42 => ?_)
      ·
        replace hS := it_t h42 hS
        refine VC.seq ?_
        refine VC.region ?_
        refine VL.q (q_build (vs := []) (cs := #[str [], i64 0, str []]) rfl (by kernel_rfl)) (by decide) ?_
        refine VL.store (vc := [str [], i64 0, str []]) (cs' := [str [], i64 0, str []]) rfl rfl rfl gsz48 rfl rfl (Nat.le_of_ble_eq_true rfl) rfl ?_
        refine VL.q (q_assign rfl) (by decide) ?_
        refine VL.to (fun _ _ h => h) ?_
        cases hS
        exact VC.ret (finG (vs := [.agg #[str [], i64 0, str []], i64 1]) (.inr rfl) rfl (RVs.cell gagg48 rfl rfl Rd.blk (RVs.tmp rfl (RVs.nil))) () rfl trivial (by (try dsimp only); exact InM.out) (fun _ _ => trivial))
      ·
        replace hS := it_b h42 hS
        refine VC.skip_to (fun _ _ h => h) ?_
        refine VC.cutJ (S := Str) (fun (x9_7 : Str) => x9_7) (fun (x9_7 : Str) => [(2, ptr b2_1 0), (4, str y15_2.1), (9, str x9_7), (11, i64 y38_6.1)]) (fun (x9_7 : Str) => Mo.tt) (fun (x9_7 : Str) => Ow.star (Blk b2_1 [str [], i64 0, str []] 48) (Ow.emp)) hS ?_ ?_
        · -- up to where ways meet
          clear hS
          intro k8 hS
          refine VC.seq ?_
          refine VC.region ?_
          refine VL.q (q_move rfl) (by decide) ?_
          refine VL.to (fun _ _ h => h) ?_
          refine VC.block ?_
          refine VC.seq ?_
          refine VC.region ?_
          refine VL.q (q_seq rfl rfl) (by decide) ?_
          refine VL.q (q_assign rfl) (by decide) ?_
          refine VL.to (fun _ _ h => h) ?_
          refine VC.cond_dec rfl (fun h49 => ?_) (fun h49 => ?_)
          ·
            replace hS := it_t h49 hS
            refine VC.seq ?_
            refine VC.cutJ (S := Bool) (fun (x56_9 : Bool) => x56_9) (fun (x56_9 : Bool) => [(2, ptr b2_1 0), (4, str y15_2.1), (9, str y32_5.2.1), (11, i64 y38_6.1), (56, .bool x56_9)]) (fun (x56_9 : Bool) => Mo.tt) (fun (x56_9 : Bool) => Ow.star (Blk b2_1 [str [], i64 0, str []] 48) (Ow.emp)) hS ?_ ?_
            · -- up to where ways meet
              clear hS
              intro k10 hS
              refine VC.region ?_
              refine VL.q (q_move rfl) (by decide) ?_
              refine VL.q (q_not rfl) (by decide) ?_
              refine VL.q (q_move rfl) (by decide) ?_
              refine VL.split 53 rfl (fun h53 => ?_) (fun h53 => ?_)
              ·
                replace hS := it_t h53 hS
                refine VL.gn rfl rfl rfl (by decide) ?_
                refine VL.gn rfl rfl rfl (by decide) ?_
                refine VL.q (q_pick_t rfl rfl) (by decide) ?_
                refine VL.mt true [2, 4, 9, 11, 56] (fun _ _ h => h) hS rfl
              ·
                replace hS := it_b h53 hS
                refine VL.gy rfl rfl (q_move rfl) (by decide) ?_
                refine VL.gy rfl rfl (q_seq rfl rfl) (by decide) ?_
                refine VL.q (q_pick_f rfl rfl) (by decide) ?_
                refine VL.mt (decide (y32_5.2.1 = [])) [2, 4, 9, 11, 56] (fun _ _ h => h) hS rfl
            · -- from there
              clear hS
              rintro x56_9 hS
              show VC _ _ _ _ _ [(2, ptr b2_1 0), (4, str y15_2.1), (9, str y32_5.2.1), (11, i64 y38_6.1), (56, .bool x56_9)] (Mo.and Mo.tt _) (Ow.star (Blk b2_1 [str [], i64 0, str []] 48) (Ow.emp))
              refine VC.cond rfl (fun h56 => ?_) (fun h56 => ?_)
              ·
                replace hS := it_t h56 hS
                refine VC.seq ?_
                refine VC.region ?_
                refine VL.q (q_build (vs := []) (cs := #[str [], i64 0, str []]) rfl (by kernel_rfl)) (by decide) ?_
                refine VL.store (vc := [str [], i64 0, str []]) (cs' := [str [], i64 0, str []]) rfl rfl rfl gsz48 rfl rfl (Nat.le_of_ble_eq_true rfl) rfl ?_
                refine VL.q (q_assign rfl) (by decide) ?_
                refine VL.to (fun _ _ h => h) ?_
                cases hS
                exact VC.ret (finG (vs := [.agg #[str [], i64 0, str []], i64 2]) (.inr rfl) rfl (RVs.cell gagg48 rfl rfl Rd.blk (RVs.tmp rfl (RVs.nil))) () rfl trivial (by (try dsimp only); exact InM.out) (fun _ _ => trivial))
              ·
                replace hS := it_b h56 hS
                refine VC.skip_to (fun _ _ h => h) ?_
                refine VC.seq ?_
                refine VC.region ?_
                refine VL.q (q_move rfl) (by decide) ?_
                refine VL.q (q_slen Tryd.underlying9 rfl) (by decide) ?_
                refine VL.q (q_gtr rfl rfl) (by decide) ?_
                refine VL.to (fun _ _ h => h) ?_
                refine VC.cond_dec rfl (fun h60 => ?_) (fun h60 => ?_)
                ·
                  replace hS := it_t h60 hS
                  refine VC.seq ?_
                  refine VC.region ?_
                  refine VL.q (q_build (vs := []) (cs := #[str [], i64 0, str []]) rfl (by kernel_rfl)) (by decide) ?_
                  refine VL.store (vc := [str [], i64 0, str []]) (cs' := [str [], i64 0, str []]) rfl rfl rfl gsz48 rfl rfl (Nat.le_of_ble_eq_true rfl) rfl ?_
                  refine VL.q (q_assign rfl) (by decide) ?_
                  refine VL.to (fun _ _ h => h) ?_
                  cases hS
                  exact VC.ret (finG (vs := [.agg #[str [], i64 0, str []], i64 4]) (.inr rfl) rfl (RVs.cell gagg48 rfl rfl Rd.blk (RVs.tmp rfl (RVs.nil))) () rfl trivial (by (try dsimp only); exact InM.out) (fun _ _ => trivial))
                ·
                  replace hS := it_f h60 hS
                  refine VC.skip_mt y32_5.2.1 [2, 4, 9, 11] (fun _ _ h => h) hS rfl
          ·
            replace hS := it_f h49 hS
            refine VC.seq ?_
            refine VC.seq ?_
            refine VC.region ?_
            refine VL.q (q_move rfl) (by decide) ?_
            obtain ⟨y46_11, ey46_11, hS⟩ := bd_s hS
            refine VL.q (q_call (strings_Trim_ct y32_5.2.1 [32] ey46_11) rfl (fun _ _ => rfl)) (by decide) ?_
            refine VL.q (q_sne rfl rfl) (by decide) ?_
            refine VL.to (fun _ _ h => h) ?_
            refine VC.keep [2, 4, 11, 47] rfl ?_
            refine VC.cond_ndec rfl (fun h47 => ?_) (fun h47 => ?_)
            ·
              replace hS := it_f h47 hS
              refine VC.seq ?_
              refine VC.region ?_
              refine VL.q (q_build (vs := []) (cs := #[str [], i64 0, str []]) rfl (by kernel_rfl)) (by decide) ?_
              refine VL.store (vc := [str [], i64 0, str []]) (cs' := [str [], i64 0, str []]) rfl rfl rfl gsz48 rfl rfl (Nat.le_of_ble_eq_true rfl) rfl ?_
              refine VL.q (q_assign rfl) (by decide) ?_
              refine VL.to (fun _ _ h => h) ?_
              cases hS
              exact VC.ret (finG (vs := [.agg #[str [], i64 0, str []], i64 2]) (.inr rfl) rfl (RVs.cell gagg48 rfl rfl Rd.blk (RVs.tmp rfl (RVs.nil))) () rfl trivial (by (try dsimp only); exact InM.out) (fun _ _ => trivial))
            ·
              replace hS := it_t h47 hS
              refine VC.skip_to (fun _ _ h => h) ?_
              refine VC.region ?_
              refine VL.q (q_assign rfl) (by decide) ?_
              refine VL.mt [] [2, 4, 9, 11] (fun _ _ h => h) hS rfl
        · -- from there
          clear hS
          rintro x9_7 hS
          show VC _ _ _ _ _ [(2, ptr b2_1 0), (4, str y15_2.1), (9, str x9_7), (11, i64 y38_6.1)] (Mo.and Mo.tt _) (Ow.star (Blk b2_1 [str [], i64 0, str []] 48) (Ow.emp))
          refine VC.seq ?_
          refine VC.region ?_
          refine VL.q (q_move rfl) (by decide) ?_
          refine VL.q (q_move rfl) (by decide) ?_
          refine VL.q (q_move rfl) (by decide) ?_
          refine VL.q (q_build (vs := [(0, str y15_2.1), (1, i64 y38_6.1), (2, str x9_7)]) (cs := #[str y15_2.1, i64 y38_6.1, str x9_7]) rfl (by kernel_rfl)) (by decide) ?_
          refine VL.store (vc := [str y15_2.1, i64 y38_6.1, str x9_7]) (cs' := [str y15_2.1, i64 y38_6.1, str x9_7]) rfl rfl rfl gsz48 rfl rfl (Nat.le_of_ble_eq_true rfl) rfl ?_
          refine VL.q (q_assign rfl) (by decide) ?_
          refine VL.to (fun _ _ h => h) ?_
          cases hS
          exact VC.ret (finG (vs := [.agg #[str y15_2.1, i64 y38_6.1, str x9_7], i64 0]) (.inr rfl) rfl (RVs.cell gagg48 rfl rfl Rd.blk (RVs.tmp rfl (RVs.nil))) () rfl trivial (by (try dsimp only); exact InM.out) (fun _ _ => trivial))

set_option maxHeartbeats 4000000 in
set_option maxRecDepth 100000 in
theorem slices_Clip_todo_Step_todo_Step_ct (s_0 : Sv TodoStep) {r : List TodoStep} (hS : Sh.slices_Clip_todo_Step_todo_Step s_0.l = some r) :
    Ct Tryd.prog 47 [s_0.val] s_0.ok (Ow.emp) (X := Sv TodoStep) (fun x => x.val) (fun x => r = x.l) (fun x => x.ok) (fun x => Ow.emp) := by
  refine Ct.of Tryd.func47 rfl (by kernel_rfl) Tryd.ntmps47 (by simp) fun c => ?_
  unfold Sh.slices_Clip_todo_Step_todo_Step at hS
  refine VC.seq ?_
  refine VC.region ?_
  refine VL.q (q_assign rfl) (by decide) ?_
  refine VL.to (fun _ _ h => h) ?_
  refine VC.seq ?_
  refine VC.region ?_
  refine VL.q (q_move rfl) (by decide) ?_
  refine VL.q (q_move rfl) (by decide) ?_
  refine VL.q (q_ln (s := s_0) Tryd.underlying38 rfl) (by decide) ?_
  refine VL.q (q_move rfl) (by decide) ?_
  refine VL.q (q_ln (s := s_0) Tryd.underlying38 rfl) (by decide) ?_
  obtain ⟨b8, hS⟩ := gd_s hS
  refine VL.stom Tryd.underlying38 gsz48 rfl rfl rfl b8.1 (b8.2) (by decide) fun s8_1 hs8_1 => ?_
  replace hS := lt_to hs8_1 hS
  refine VL.q (q_assign rfl) (by decide) ?_
  refine VL.to (fun _ _ h => h) ?_
  cases hS
  exact VC.ret (fin1 (.inr rfl) rfl rfl s8_1 rfl rfl (by (try dsimp only); exact InM.out) (fun _ _ => trivial))

set_option maxHeartbeats 4000000 in
set_option maxRecDepth 100000 in
theorem todo_Parse_ct (s_0 : Str) {r : List TodoStep × Err} (hS : Sh.todo_Parse s_0 = some r) :
    Ct Tryd.prog 21 [str s_0] Mo.tt (Ow.emp) (X := Sv TodoStep × Er) (fun x => .tuple #[x.1.val, x.2.val]) (fun x => r = (x.1.l, x.2.pl)) (fun x => (x.1.ok.and x.2.ok)) (fun x => Ow.emp) := by
  refine Ct.of Tryd.func21 rfl (by kernel_rfl) Tryd.ntmps21 (by simp) fun c => ?_
  unfold Sh.todo_Parse at hS
  refine VC.seq ?_
  refine VC.region ?_
  refine VL.q (q_assign rfl) (by decide) ?_
  refine VL.q (q_assign rfl) (by decide) ?_
  refine VL.to (fun _ _ h => h) ?_
  refine VC.seq ?_
  refine VC.region ?_
  refine VL.q (q_assign rfl) (by decide) ?_
  refine VL.to (fun _ _ h => h) ?_
  refine VC.seq ?_
  refine VC.seq ?_
  refine VC.region ?_
  refine VL.q (q_move rfl) (by decide) ?_
  obtain ⟨y10_1, ey10_1, hS⟩ := bd_s hS
  refine VL.callF (strings_Split_ct s_0 [10] ey10_1) rfl (by decide) ?_
  rintro q10_1_0 rfl
  try dsimp only
  refine VL.q (q_ln (s := q10_1_0) Tryd.underlying58 rfl) (by decide) ?_
  refine VL.q (q_move rfl) (by decide) ?_
  refine VL.to (fun _ _ h => h) ?_
  refine VC.block ?_
  refine VC.nilO (⟨none, 0, []⟩ : Sv TodoStep) 48 ⟨rfl, rfl⟩ ?_
  refine VC.iter (S := Sv TodoStep × Int) (fun sg => (sg.1.l, sg.2)) (fun sg => [(4, sg.1.val), (10, q10_1_0.val), (11, i64 (q10_1_0.l.length : Int)), (12, i64 sg.2)]) (fun sg => Mo.tt) (fun sg => Ow.star (Sv.own sg.1 48) (Ow.emp)) (⟨none, 0, []⟩, 0) [4, 10, 11, 12] hS rfl ?_
  clear hS
  rintro ⟨out4_2, x12_3⟩ m1 y1 hS hK1
  show VC _ _ _ _ _ [(4, out4_2.val), (10, q10_1_0.val), (11, i64 (q10_1_0.l.length : Int)), (12, i64 x12_3)] (Mo.and Mo.tt _) (Ow.star (Sv.own out4_2 48) (Ow.emp))
  refine VC.seq ?_
  refine VC.region ?_
  refine VL.q (q_lss rfl rfl) (by decide) ?_
  refine VL.to (fun _ _ h => h) ?_
  refine VC.seq ?_
  refine VC.cond_dec rfl (fun h13 => ?_) (fun h13 => ?_)
  ·
    replace hS := it_t h13 hS
    refine VC.skip_to (fun _ _ h => h) ?_
    refine VC.seq ?_
    refine VC.block ?_
    refine VC.seq ?_
    refine VC.region ?_
    refine VL.q (q_move rfl) (by decide) ?_
    obtain ⟨z15_4, nz15_4, hz15_4, hS⟩ := at_s hS
    refine VL.q (q_ixm (s := q10_1_0) Tryd.underlying58 gsz9 rfl rfl nz15_4 (lt_of_get nz15_4 hz15_4)) (by decide) ?_
    refine VL.q (q_el (s := q10_1_0) gone9 rfl hz15_4 rfl) (by decide) ?_
    refine VL.q (q_assign rfl) (by decide) ?_
    refine VL.q (q_assign rfl) (by decide) ?_
    refine VL.to (fun _ _ h => h) ?_
    refine VC.seq ?_
    refine VC.region ?_
    refine VL.q (q_move rfl) (by decide) ?_
    obtain ⟨y18_5, ey18_5, hS⟩ := bd_s hS
    refine VL.q (q_call (strings_TrimLeft_ct z15_4 [32] ey18_5) rfl (fun _ _ => rfl)) (by decide) ?_
    refine VL.q (q_assign rfl) (by decide) ?_
    refine VL.to (fun _ _ h => h) ?_
    refine VC.seq ?_
    refine VC.seq ?_
    refine VC.region ?_
    refine VL.q (q_move rfl) (by decide) ?_
    refine VL.q (q_seq rfl rfl) (by decide) ?_
    refine VL.q (q_move rfl) (by decide) ?_
    refine VL.split_dec 21 rfl (fun h21 => ?_) (fun h21 => ?_)
    ·
      replace hS := it_t h21 hS
      refine VL.gn rfl rfl rfl (by decide) ?_
      refine VL.gn rfl rfl rfl (by decide) ?_
      refine VL.gn rfl rfl rfl (by decide) ?_
      refine VL.q (q_pick_t rfl rfl) (by decide) ?_
      refine VL.to (fun _ _ h => h) ?_
      refine VC.keep [4, 10, 11, 12, 5, 6, 25] rfl ?_
      refine VC.cond_t rfl ?_
      refine VC.exit_to (fun _ _ h => h) ?_
      refine VC.region ?_
      obtain ⟨b50, hS⟩ := gd_s hS
      refine VL.q (q_add rfl rfl b50) (by decide) ?_
      refine VL.q (q_move rfl) (by decide) ?_
      refine VL.rnd (out4_2, (x12_3 + 1)) [4, 10, 11, 12] (fun _ _ h => h) (go2 hS hK1) rfl
    ·
      replace hS := it_f h21 hS
      refine VL.gy rfl rfl (q_move rfl) (by decide) ?_
      obtain ⟨z23_6, nz23_6, hz23_6, hS⟩ := at_s hS
      refine VL.gy rfl rfl (q_sidx Tryd.underlying9 rfl rfl nz23_6 hz23_6) (by decide) ?_
      refine VL.gy rfl rfl (q_eql rfl rfl) (by decide) ?_
      refine VL.q (q_pick_f rfl rfl) (by decide) ?_
      refine VL.to (fun _ _ h => h) ?_
      refine VC.keep [4, 10, 11, 12, 5, 6, 25] rfl ?_
      refine VC.cond_dec rfl (fun h25 => ?_) (fun h25 => ?_)
      ·
        replace hS := it_t h25 hS
        refine VC.exit_to (fun _ _ h => h) ?_
        refine VC.region ?_
        obtain ⟨b50, hS⟩ := gd_s hS
        refine VL.q (q_add rfl rfl b50) (by decide) ?_
        refine VL.q (q_move rfl) (by decide) ?_
        refine VL.rnd (out4_2, (x12_3 + 1)) [4, 10, 11, 12] (fun _ _ h => h) (go2 hS hK1) rfl
      ·
        replace hS := it_f h25 hS
        refine VC.skip_to (fun _ _ h => h) ?_
        refine VC.seq ?_
        refine VC.region ?_
        refine VL.q (q_move rfl) (by decide) ?_
        obtain ⟨y28_7, ey28_7, hS⟩ := bd_s hS
        refine VL.q (q_call (todo_line_ct y18_5 ey28_7) rfl (fun _ _ => rfl)) (by decide) ?_
        refine VL.q (q_move rfl) (by decide) ?_
        refine VL.q (q_extract rfl rfl) (by decide) ?_
        refine VL.q (q_extract rfl rfl) (by decide) ?_
        refine VL.alloc (cs := [str [], i64 0, str []]) (by kernel_rfl) (by decide) fun b7_8 => ?_
        refine VL.store (vc := [str y28_7.1.verb, i64 y28_7.1.commit, str y28_7.1.text]) (cs' := [str y28_7.1.verb, i64 y28_7.1.commit, str y28_7.1.text]) rfl rfl rfl gsz48 rfl rfl (Nat.le_of_ble_eq_true rfl) rfl ?_
        refine VL.q (q_assign rfl) (by decide) ?_
        refine VL.to (fun _ _ h => h) ?_
        refine VC.keep [4, 10, 11, 12, 5, 7, 8] rfl ?_
        refine VC.seq ?_
        refine VC.seq ?_
        refine VC.region ?_
        refine VL.q (q_move rfl) (by decide) ?_
        refine VL.q (q_neq rfl rfl) (by decide) ?_
        refine VL.to (fun _ _ h => h) ?_
        refine VC.cond_ndec rfl (fun h32 => ?_) (fun h32 => ?_)
        ·
          replace hS := it_f h32 hS
          refine VC.seq ?_
          refine VC.region ?_
          refine VL.q (q_move rfl) (by decide) ?_
          refine VL.q (q_move rfl) (by decide) ?_
          refine VL.q (q_mkif Tryd.underlying97 (fun _ h => by cases h) rfl) (by decide) ?_
          refine VL.q (q_build (vs := [(0, str [108, 105, 110, 101]), (1, i64 x12_3), (2, (Er.no y28_7.2).val)]) (cs := #[str [108, 105, 110, 101], i64 x12_3, (Er.no y28_7.2).val]) rfl (by kernel_rfl)) (by decide) ?_
          refine VL.box (cs := [str [108, 105, 110, 101], i64 x12_3, (Er.no y28_7.2).val]) rfl rfl (by decide) fun b37_9 => ?_
          refine VL.shutB b37_9 ?_
          refine VL.q (q_mkif Tryd.underlying110 (fun _ h => by cases h) rfl) (by decide) ?_
          refine VL.q (q_assign rfl) (by decide) ?_
          refine VL.q (q_assign rfl) (by decide) ?_
          refine VL.to (fun _ _ h => h) ?_
          refine VC.keep [2, 3] rfl ?_
          replace hS := up2 hS hK1
          cases hS
          exact VC.ret (fin2 (.inr rfl) rfl rfl rfl (⟨none, 0, []⟩, (Er.fault b37_9 [108, 105, 110, 101] x12_3 (Er.no y28_7.2))) rfl rfl (by (try dsimp only); exact InM.out) (fun _ _ => trivial))
        ·
          replace hS := it_t h32 hS
          refine VC.skip_to (fun _ _ h => h) ?_
          refine VC.seq ?_
          refine VC.seq ?_
          refine VC.region ?_
          refine VL.q (q_move rfl) (by decide) ?_
          refine VL.q (q_ln (s := out4_2) Tryd.underlying38 rfl) (by decide) ?_
          refine VL.q (q_eql rfl rfl) (by decide) ?_
          refine VL.to (fun _ _ h => h) ?_
          refine VC.cond_dec rfl (fun h41 => ?_) (fun h41 => ?_)
          ·
            replace hS := it_t h41 hS
            refine VC.seq ?_
            refine VC.region ?_
            refine VL.q (q_mkif Tryd.underlying97 (fun _ h => by cases h) rfl) (by decide) ?_
            refine VL.q (q_build (vs := [(0, str [108, 105, 110, 101]), (1, i64 32), (2, (Er.no 4).val)]) (cs := #[str [108, 105, 110, 101], i64 32, (Er.no 4).val]) rfl (by kernel_rfl)) (by decide) ?_
            refine VL.box (cs := [str [108, 105, 110, 101], i64 32, (Er.no 4).val]) rfl rfl (by decide) fun b44_10 => ?_
            refine VL.shutB b44_10 ?_
            refine VL.q (q_mkif Tryd.underlying110 (fun _ h => by cases h) rfl) (by decide) ?_
            refine VL.q (q_assign rfl) (by decide) ?_
            refine VL.q (q_assign rfl) (by decide) ?_
            refine VL.to (fun _ _ h => h) ?_
            refine VC.keep [2, 3] rfl ?_
            replace hS := up2 hS hK1
            cases hS
            exact VC.ret (fin2 (.inr rfl) rfl rfl rfl (⟨none, 0, []⟩, (Er.fault b44_10 [108, 105, 110, 101] 32 (Er.no 4))) rfl rfl (by (try dsimp only); exact InM.out) (fun _ _ => trivial))
          ·
            replace hS := it_f h41 hS
            refine VC.skip_to (fun _ _ h => h) ?_
            refine VC.keep [4, 10, 11, 12, 7] rfl ?_
            refine VC.region ?_
            refine VL.q (q_move rfl) (by decide) ?_
            refine VL.q (q_fes gagg48 rfl rfl) (by decide) ?_
            refine VL.lit (α := TodoStep) (xs := [.tmp 47]) (vs := [.agg #[str y28_7.1.verb, i64 y28_7.1.commit, str y28_7.1.text]]) [⟨y28_7.1.verb, y28_7.1.commit, y28_7.1.text⟩] Tryd.underlying38 glit48 (by decide) rfl rfl rfl rfl (by decide) (fun _ _ _ _ => trivial) (by decide) (fun s48_11 hs48_11 => ?_) (by decide)
            replace hS := lt_to hs48_11 hS
            obtain ⟨b49, hS⟩ := gd_s hS
            refine VL.app (s := out4_2) (r := s48_11) Tryd.underlying38 gapp48 (by decide) rfl Fo.out (ap1 b49) (ap2 b49 (by decide)) (by decide) (fun s49_13 hs49_13 => ?_)
            replace hS := lt_to hs49_13 hS
            refine VL.q (q_assign rfl) (by decide) ?_
            refine VL.to (fun _ _ h => h) ?_
            refine VC.region ?_
            obtain ⟨b50, hS⟩ := gd_s hS
            refine VL.q (q_add rfl rfl b50) (by decide) ?_
            refine VL.q (q_move rfl) (by decide) ?_
            refine VL.rnd (s49_13, (x12_3 + 1)) [4, 10, 11, 12] (fun _ _ h => h) (go2 hS hK1) rfl
  ·
    replace hS := it_f h13 hS
    replace hS := up2 hS hK1
    refine VC.exit_to (fun _ _ h => h) ?_
    refine VC.seq ?_
    refine VC.region ?_
    refine VL.q (q_move rfl) (by decide) ?_
    refine VL.shut out4_2 48 (fun _ _ _ _ => trivial) ?_
    obtain ⟨y52_15, ey52_15, hS⟩ := bd_s hS
    refine VL.callF (slices_Clip_todo_Step_todo_Step_ct out4_2 ey52_15) rfl (by decide) ?_
    rintro q52_15_0 rfl
    try dsimp only
    refine VL.q (q_assign rfl) (by decide) ?_
    refine VL.q (q_assign rfl) (by decide) ?_
    refine VL.to (fun _ _ h => h) ?_
    cases hS
    exact VC.ret (fin2 (.inr rfl) rfl rfl rfl (q52_15_0, .nil) rfl rfl (by (try dsimp only); exact InM.out) (fun _ _ => trivial))

set_option maxHeartbeats 4000000 in
set_option maxRecDepth 100000 in
theorem slices_Clone_int_int_ct (s_0 : Sv Int) {r : List Int} (hS : Sh.slices_Clone_int_int s_0.l = some r) :
    Ct Tryd.prog 130 [s_0.val] s_0.ok (Ow.emp) (X := Sv Int) (fun x => x.val) (fun x => r = x.l) (fun x => Mo.tt) (fun x => Sv.own x 3) := by
  refine Ct.of Tryd.func130 rfl (by kernel_rfl) Tryd.ntmps130 (by simp) fun c => ?_
  unfold Sh.slices_Clone_int_int at hS
  refine VC.seq ?_
  refine VC.region ?_
  refine VL.q (q_assign rfl) (by decide) ?_
  refine VL.to (fun _ _ h => h) ?_
  refine VC.seq ?_
  refine VC.seq ?_
  refine VC.region ?_
  refine VL.q (q_move rfl) (by decide) ?_
  refine VL.q (q_slnil (s := s_0) Tryd.underlying24 rfl) (by decide) ?_
  refine VL.to (fun _ _ h => h) ?_
  refine VC.slnil (s := s_0) rfl (fun h4 => ?_) ?_
  ·
    have hS : (some []) = some r := by
      simp [lt, gd, h4] at hS ⊢
      try exact hS
    refine VC.seq ?_
    refine VC.region ?_
    refine VL.q (q_assign rfl) (by decide) ?_
    refine VL.to (fun _ _ h => h) ?_
    refine VC.nilO (⟨none, 0, []⟩ : Sv Int) 3 ⟨rfl, rfl⟩ ?_
    cases hS
    exact VC.ret (fin1 (.inr rfl) rfl rfl ⟨none, 0, []⟩ rfl rfl (by (try dsimp only); exact InM.out) (by (try dsimp only); exact EntO.out))
  ·
    refine VC.skip_to (fun _ _ h => h) ?_
    refine VC.seq ?_
    refine VC.region ?_
    refine VL.lit0 (α := Int) Tryd.underlying24 ghas3 (by decide) (fun s5_1 hs5_1 hcs5_1 => ?_)
    refine VL.nilO s5_1 3 ⟨hcs5_1, hs5_1⟩ ?_
    replace hS := lt_to hs5_1 hS
    refine VL.q (q_move rfl) (by decide) ?_
    obtain ⟨b7, hS⟩ := gd_s hS
    refine VL.app (s := s5_1) (r := s_0) Tryd.underlying24 gapp3 (by decide) rfl Fo.out (ap1 b7) (ap2 b7 (by decide)) (by decide) (fun s7_3 hs7_3 => ?_)
    replace hS := lt_to hs7_3 hS
    refine VL.q (q_assign rfl) (by decide) ?_
    refine VL.to (fun _ _ h => h) ?_
    cases hS
    exact VC.ret (fin1 (.inr rfl) rfl rfl s7_3 rfl rfl (by (try dsimp only); exact InM.out) (by (try dsimp only); exact EntO.out))

set_option maxHeartbeats 4000000 in
set_option maxRecDepth 100000 in
theorem graph_Graph_seen_ct (g_0 : Sv (Sv Int)) (c_1 : Sv Int) {r : List Bool} (hS : Sh.graph_Graph_seen (g_0.l.map Sv.l) c_1.l = some r) :
    Ct Tryd.prog 89 [g_0.val, c_1.val] (g_0.ok.and c_1.ok) (Ow.emp) (X := Sv Bool) (fun x => x.val) (fun x => r = x.l) (fun x => Mo.tt) (fun x => Sv.own x 4) := by
  refine Ct.of Tryd.func89 rfl (by kernel_rfl) Tryd.ntmps89 (by simp) fun c => ?_
  unfold Sh.graph_Graph_seen at hS
  refine VC.seq ?_
  refine VC.region ?_
  refine VL.q (q_assign rfl) (by decide) ?_
  refine VL.to (fun _ _ h => h) ?_
  refine VC.seq ?_
  refine VC.region ?_
  refine VL.q (q_move rfl) (by decide) ?_
  refine VL.q (q_lnm Sv.l (s := g_0) Tryd.underlying36 rfl) (by decide) ?_
  obtain ⟨b10, hS⟩ := gd_s hS
  refine VL.q (q_add rfl rfl b10) (by decide) ?_
  obtain ⟨b11, hS⟩ := gd_s hS
  refine VL.make (α := Bool) (z := false) Tryd.underlying149 gmk4 (by decide) rfl rfl b11.1 (Int.le_refl _) (by omega) (by omega) (by decide) (fun s11_1 hs11_1 => ?_)
  replace hS := lt_to hs11_1 hS
  refine VL.q (q_assign rfl) (by decide) ?_
  refine VL.to (fun _ _ h => h) ?_
  refine VC.seq ?_
  refine VC.region ?_
  refine VL.q (q_move rfl) (by decide) ?_
  obtain ⟨y13_3, ey13_3, hS⟩ := bd_s hS
  refine VL.callO (slices_Clone_int_int_ct c_1 ey13_3) rfl (by decide) ?_
  rintro q13_3_0 rfl
  try dsimp only
  refine VL.q (q_assign rfl) (by decide) ?_
  refine VL.to (fun _ _ h => h) ?_
  refine VC.keep [0, 5, 6] rfl ?_
  refine VC.seq ?_
  refine VC.block ?_
  refine VC.iter (S := Sv Bool × Sv Int) (fun sg => (sg.1.l, sg.2.l)) (fun sg => [(0, g_0.val), (5, sg.1.val), (6, sg.2.val)]) (fun sg => Mo.tt) (fun sg => Ow.star (Sv.own sg.1 4) (Ow.star (Sv.own sg.2 3) (Ow.emp))) (s11_1, q13_3_0) [0, 5, 6] hS rfl ?_
  clear hS
  rintro ⟨out5_4, wait6_5⟩ m1 y1 hS hK1
  show VC _ _ _ _ _ [(0, g_0.val), (5, out5_4.val), (6, wait6_5.val)] (Mo.and Mo.tt _) (Ow.star (Sv.own out5_4 4) (Ow.star (Sv.own wait6_5 3) (Ow.emp)))
  refine VC.seq ?_
  refine VC.seq ?_
  refine VC.region ?_
  refine VL.q (q_move rfl) (by decide) ?_
  refine VL.q (q_ln (s := wait6_5) Tryd.underlying24 rfl) (by decide) ?_
  refine VL.q (q_gtr rfl rfl) (by decide) ?_
  refine VL.to (fun _ _ h => h) ?_
  refine VC.cond_dec rfl (fun h16 => ?_) (fun h16 => ?_)
  ·
    replace hS := it_t h16 hS
    refine VC.skip_to (fun _ _ h => h) ?_
    refine VC.block ?_
    refine VC.seq ?_
    refine VC.region ?_
    refine VL.q (q_move rfl) (by decide) ?_
    refine VL.q (q_move rfl) (by decide) ?_
    refine VL.q (q_ln (s := wait6_5) Tryd.underlying24 rfl) (by decide) ?_
    obtain ⟨b20, hS⟩ := gd_s hS
    refine VL.q (q_sub rfl rfl b20) (by decide) ?_
    obtain ⟨z21_6, nz21_6, hz21_6, hS⟩ := at_s hS
    refine VL.q (q_ixo (s := wait6_5) Tryd.underlying24 gsz3 rfl rfl nz21_6 (lt_of_get nz21_6 hz21_6)) (by decide) ?_
    refine VL.q (q_elo (s := wait6_5) 3 gone3 rfl hz21_6 rfl) (by decide) ?_
    refine VL.q (q_assign rfl) (by decide) ?_
    refine VL.to (fun _ _ h => h) ?_
    refine VC.keep [0, 5, 6, 7] rfl ?_
    refine VC.seq ?_
    refine VC.region ?_
    refine VL.q (q_move rfl) (by decide) ?_
    refine VL.q (q_move rfl) (by decide) ?_
    refine VL.q (q_ln (s := wait6_5) Tryd.underlying24 rfl) (by decide) ?_
    obtain ⟨b26, hS⟩ := gd_s hS
    refine VL.q (q_sub rfl rfl b26) (by decide) ?_
    obtain ⟨b27, hS⟩ := gd_s hS
    refine VL.ownT (s := wait6_5) Tryd.underlying24 gsz3 rfl rfl b27.1 b27.2 Fo.out (by decide) fun s27_7 hs27_7 => ?_
    replace hS := lt_to hs27_7 hS
    refine VL.q (q_assign rfl) (by decide) ?_
    refine VL.to (fun _ _ h => h) ?_
    refine VC.seq ?_
    refine VC.seq ?_
    refine VC.region ?_
    refine VL.q (q_move rfl) (by decide) ?_
    refine VL.q (q_lss rfl rfl) (by decide) ?_
    refine VL.q (q_move rfl) (by decide) ?_
    refine VL.split_dec 30 rfl (fun h30 => ?_) (fun h30 => ?_)
    ·
      replace hS := it_t h30 hS
      refine VL.gn rfl rfl rfl (by decide) ?_
      refine VL.gn rfl rfl rfl (by decide) ?_
      refine VL.gn rfl rfl rfl (by decide) ?_
      refine VL.gn rfl rfl rfl (by decide) ?_
      refine VL.q (q_pick_t rfl rfl) (by decide) ?_
      refine VL.q (q_move rfl) (by decide) ?_
      refine VL.gn rfl rfl rfl (by decide) ?_
      refine VL.gn rfl rfl rfl (by decide) ?_
      refine VL.gn rfl rfl rfl (by decide) ?_
      refine VL.gn rfl rfl rfl (by decide) ?_
      refine VL.q (q_pick_t rfl rfl) (by decide) ?_
      refine VL.to (fun _ _ h => h) ?_
      refine VC.keep [0, 5, 6, 7, 41] rfl ?_
      refine VC.cond_t rfl ?_
      refine VC.exit_rnd (out5_4, s27_7) [0, 5, 6] (fun _ _ h => h) (go2 hS hK1) rfl
    ·
      replace hS := it_f h30 hS
      refine VL.gy rfl rfl (q_move rfl) (by decide) ?_
      refine VL.gy rfl rfl (q_move rfl) (by decide) ?_
      refine VL.gy rfl rfl (q_lnm Sv.l (s := g_0) Tryd.underlying36 rfl) (by decide) ?_
      refine VL.gy rfl rfl (q_gtr rfl rfl) (by decide) ?_
      refine VL.q (q_pick_f rfl rfl) (by decide) ?_
      refine VL.q (q_move rfl) (by decide) ?_
      refine VL.split_dec 36 rfl (fun h36 => ?_) (fun h36 => ?_)
      ·
        replace hS := it_t h36 hS
        refine VL.gn rfl rfl rfl (by decide) ?_
        refine VL.gn rfl rfl rfl (by decide) ?_
        refine VL.gn rfl rfl rfl (by decide) ?_
        refine VL.gn rfl rfl rfl (by decide) ?_
        refine VL.q (q_pick_t rfl rfl) (by decide) ?_
        refine VL.to (fun _ _ h => h) ?_
        refine VC.keep [0, 5, 6, 7, 41] rfl ?_
        refine VC.cond_t rfl ?_
        refine VC.exit_rnd (out5_4, s27_7) [0, 5, 6] (fun _ _ h => h) (go2 hS hK1) rfl
      ·
        replace hS := it_f h36 hS
        refine VL.gy rfl rfl (q_move rfl) (by decide) ?_
        refine VL.gy rfl rfl (q_move rfl) (by decide) ?_
        obtain ⟨z39_9, nz39_9, hz39_9, hS⟩ := at_s hS
        refine VL.gy rfl rfl (q_ixo (s := out5_4) Tryd.underlying149 gsz4 rfl rfl nz39_9 (lt_of_get nz39_9 hz39_9)) (by decide) ?_
        refine VL.gy rfl rfl (q_elo (s := out5_4) 4 gone4 rfl hz39_9 rfl) (by decide) ?_
        refine VL.q (q_pick_f rfl rfl) (by decide) ?_
        refine VL.to (fun _ _ h => h) ?_
        refine VC.keep [0, 5, 6, 7, 41] rfl ?_
        refine VC.cond rfl (fun h41 => ?_) (fun h41 => ?_)
        ·
          replace hS := it_t h41 hS
          refine VC.exit_rnd (out5_4, s27_7) [0, 5, 6] (fun _ _ h => h) (go2 hS hK1) rfl
        ·
          replace hS := it_b h41 hS
          refine VC.skip_to (fun _ _ h => h) ?_
          refine VC.seq ?_
          refine VC.region ?_
          refine VL.q (q_move rfl) (by decide) ?_
          refine VL.q (q_move rfl) (by decide) ?_
          obtain ⟨z44_10, nz44_10, hz44_10, hS⟩ := at_s hS
          refine VL.q (q_ixo (s := out5_4) Tryd.underlying149 gsz4 rfl rfl nz44_10 (lt_of_get nz44_10 hz44_10)) (by decide) ?_
          refine VL.storeE (s := out5_4) (T := 4) (j := 0) (vc := [.bool true]) (true : Bool) (by decide) rfl rfl hz44_10 rfl gsz4 rfl rfl (Nat.le_of_ble_eq_true rfl) rfl (fun w11 hw11 haw11 hcw11 hvw11 hbw11 how11 => ?_)
          rw [← hvw11]
          replace hS := lt_to hw11 hS
          refine VL.to (fun _ _ h => h) ?_
          refine VC.region ?_
          refine VL.q (q_move rfl) (by decide) ?_
          refine VL.q (q_move rfl) (by decide) ?_
          refine VL.q (q_move rfl) (by decide) ?_
          obtain ⟨b48, hS⟩ := gd_s hS
          refine VL.q (q_sub rfl rfl b48) (by decide) ?_
          obtain ⟨z49_13, nz49_13, hz49_13, hS⟩ := atm_s hS
          refine VL.deep z49_13.ok hz49_13 (fun _ q => q) ?_
          refine VL.q (q_ixm (s := g_0) Tryd.underlying36 gsz24 rfl rfl nz49_13 (lt_of_get nz49_13 hz49_13)) (by decide) ?_
          refine VL.q (q_el (s := g_0) gone24 rfl hz49_13 rfl) (by decide) ?_
          obtain ⟨b51, hS⟩ := gd_s hS
          refine VL.app (s := s27_7) (r := z49_13) Tryd.underlying24 gapp3 (by decide) rfl Fo.out (ap1 b51) (ap2 b51 (by decide)) (by decide) (fun s51_14 hs51_14 => ?_)
          replace hS := lt_to hs51_14 hS
          refine VL.q (q_assign rfl) (by decide) ?_
          refine VL.rnd (w11, s51_14) [0, 5, 6] (fun _ _ h => h) (go2 hS hK1) rfl
  ·
    replace hS := it_f h16 hS
    replace hS := up2 hS hK1
    refine VC.exit_to (fun _ _ h => h) ?_
    refine VC.seq ?_
    refine VC.region ?_
    refine VL.q (q_move rfl) (by decide) ?_
    refine VL.q (q_assign rfl) (by decide) ?_
    refine VL.to (fun _ _ h => h) ?_
    cases hS
    exact VC.ret (fin1 (.inr rfl) rfl rfl out5_4 rfl rfl (by (try dsimp only); exact InM.out) (by (try dsimp only); exact EntO.out))

set_option maxHeartbeats 4000000 in
set_option maxRecDepth 100000 in
theorem slices_Clip_int_int_ct (s_0 : Sv Int) {r : List Int} (hS : Sh.slices_Clip_int_int s_0.l = some r) :
    Ct Tryd.prog 131 [s_0.val] s_0.ok (Ow.emp) (X := Sv Int) (fun x => x.val) (fun x => r = x.l) (fun x => x.ok) (fun x => Ow.emp) := by
  refine Ct.of Tryd.func131 rfl (by kernel_rfl) Tryd.ntmps131 (by simp) fun c => ?_
  unfold Sh.slices_Clip_int_int at hS
  refine VC.seq ?_
  refine VC.region ?_
  refine VL.q (q_assign rfl) (by decide) ?_
  refine VL.to (fun _ _ h => h) ?_
  refine VC.seq ?_
  refine VC.region ?_
  refine VL.q (q_move rfl) (by decide) ?_
  refine VL.q (q_move rfl) (by decide) ?_
  refine VL.q (q_ln (s := s_0) Tryd.underlying24 rfl) (by decide) ?_
  refine VL.q (q_move rfl) (by decide) ?_
  refine VL.q (q_ln (s := s_0) Tryd.underlying24 rfl) (by decide) ?_
  obtain ⟨b8, hS⟩ := gd_s hS
  refine VL.stom Tryd.underlying24 gsz3 rfl rfl rfl b8.1 (b8.2) (by decide) fun s8_1 hs8_1 => ?_
  replace hS := lt_to hs8_1 hS
  refine VL.q (q_assign rfl) (by decide) ?_
  refine VL.to (fun _ _ h => h) ?_
  cases hS
  exact VC.ret (fin1 (.inr rfl) rfl rfl s8_1 rfl rfl (by (try dsimp only); exact InM.out) (fun _ _ => trivial))

set_option maxHeartbeats 4000000 in
set_option maxRecDepth 100000 in
theorem graph_row_ct (l_0 : Sv Bool) {r : List Int} (hS : Sh.graph_row l_0.l = some r) :
    Ct Tryd.prog 90 [l_0.val] l_0.ok (Ow.emp) (X := Sv Int) (fun x => x.val) (fun x => r = x.l) (fun x => x.ok) (fun x => Ow.emp) := by
  refine Ct.of Tryd.func90 rfl (by kernel_rfl) Tryd.ntmps90 (by simp) fun c => ?_
  unfold Sh.graph_row at hS
  refine VC.seq ?_
  refine VC.region ?_
  refine VL.q (q_assign rfl) (by decide) ?_
  refine VL.to (fun _ _ h => h) ?_
  refine VC.seq ?_
  refine VC.region ?_
  refine VL.q (q_assign rfl) (by decide) ?_
  refine VL.to (fun _ _ h => h) ?_
  refine VC.seq ?_
  refine VC.seq ?_
  refine VC.region ?_
  refine VL.q (q_move rfl) (by decide) ?_
  refine VL.q (q_ln (s := l_0) Tryd.underlying149 rfl) (by decide) ?_
  refine VL.q (q_move rfl) (by decide) ?_
  refine VL.to (fun _ _ h => h) ?_
  refine VC.block ?_
  refine VC.nilO (⟨none, 0, []⟩ : Sv Int) 3 ⟨rfl, rfl⟩ ?_
  refine VC.iter (S := Sv Int × Int) (fun sg => (sg.1.l, sg.2)) (fun sg => [(3, sg.1.val), (6, l_0.val), (7, i64 (l_0.l.length : Int)), (8, i64 sg.2)]) (fun sg => Mo.tt) (fun sg => Ow.star (Sv.own sg.1 3) (Ow.emp)) (⟨none, 0, []⟩, 0) [3, 6, 7, 8] hS rfl ?_
  clear hS
  rintro ⟨out3_1, x8_2⟩ m1 y1 hS hK1
  show VC _ _ _ _ _ [(3, out3_1.val), (6, l_0.val), (7, i64 (l_0.l.length : Int)), (8, i64 x8_2)] (Mo.and Mo.tt _) (Ow.star (Sv.own out3_1 3) (Ow.emp))
  refine VC.seq ?_
  refine VC.region ?_
  refine VL.q (q_lss rfl rfl) (by decide) ?_
  refine VL.to (fun _ _ h => h) ?_
  refine VC.seq ?_
  refine VC.cond_dec rfl (fun h9 => ?_) (fun h9 => ?_)
  ·
    replace hS := it_t h9 hS
    refine VC.skip_to (fun _ _ h => h) ?_
    refine VC.seq ?_
    refine VC.block ?_
    refine VC.seq ?_
    refine VC.region ?_
    refine VL.q (q_move rfl) (by decide) ?_
    obtain ⟨z11_3, nz11_3, hz11_3, hS⟩ := at_s hS
    refine VL.q (q_ixm (s := l_0) Tryd.underlying149 gsz4 rfl rfl nz11_3 (lt_of_get nz11_3 hz11_3)) (by decide) ?_
    refine VL.q (q_el (s := l_0) gone4 rfl hz11_3 rfl) (by decide) ?_
    refine VL.q (q_assign rfl) (by decide) ?_
    refine VL.q (q_assign rfl) (by decide) ?_
    refine VL.to (fun _ _ h => h) ?_
    refine VC.seq ?_
    refine VC.region ?_
    refine VL.q (q_move rfl) (by decide) ?_
    refine VL.to (fun _ _ h => h) ?_
    refine VC.cond rfl (fun h13 => ?_) (fun h13 => ?_)
    ·
      replace hS := it_t h13 hS
      refine VC.region ?_
      refine VL.q (q_move rfl) (by decide) ?_
      refine VL.q (q_move rfl) (by decide) ?_
      refine VL.lit (α := Int) (xs := [.tmp 15]) (vs := [i64 x8_2]) [x8_2] Tryd.underlying24 glit3 (by decide) rfl rfl rfl rfl (by decide) (fun _ _ _ _ => trivial) (by decide) (fun s16_4 hs16_4 => ?_) (by decide)
      replace hS := lt_to hs16_4 hS
      obtain ⟨b17, hS⟩ := gd_s hS
      refine VL.app (s := out3_1) (r := s16_4) Tryd.underlying24 gapp3 (by decide) rfl Fo.out (ap1 b17) (ap2 b17 (by decide)) (by decide) (fun s17_6 hs17_6 => ?_)
      replace hS := lt_to hs17_6 hS
      refine VL.q (q_assign rfl) (by decide) ?_
      refine VL.to (fun _ _ h => h) ?_
      refine VC.keep [3, 6, 7, 8] rfl ?_
      refine VC.region ?_
      obtain ⟨b18, hS⟩ := gd_s hS
      refine VL.q (q_add rfl rfl b18) (by decide) ?_
      refine VL.q (q_move rfl) (by decide) ?_
      refine VL.rnd (s17_6, (x8_2 + 1)) [3, 6, 7, 8] (fun _ _ h => h) (go2 hS hK1) rfl
    ·
      replace hS := it_b h13 hS
      refine VC.skip_to (fun _ _ h => h) ?_
      refine VC.keep [3, 6, 7, 8] rfl ?_
      refine VC.region ?_
      obtain ⟨b18, hS⟩ := gd_s hS
      refine VL.q (q_add rfl rfl b18) (by decide) ?_
      refine VL.q (q_move rfl) (by decide) ?_
      refine VL.rnd (out3_1, (x8_2 + 1)) [3, 6, 7, 8] (fun _ _ h => h) (go2 hS hK1) rfl
  ·
    replace hS := it_f h9 hS
    replace hS := up2 hS hK1
    refine VC.exit_to (fun _ _ h => h) ?_
    refine VC.seq ?_
    refine VC.region ?_
    refine VL.q (q_move rfl) (by decide) ?_
    refine VL.shut out3_1 3 (fun _ _ _ _ => trivial) ?_
    obtain ⟨y20_8, ey20_8, hS⟩ := bd_s hS
    refine VL.callF (slices_Clip_int_int_ct out3_1 ey20_8) rfl (by decide) ?_
    rintro q20_8_0 rfl
    try dsimp only
    refine VL.q (q_assign rfl) (by decide) ?_
    refine VL.to (fun _ _ h => h) ?_
    cases hS
    exact VC.ret (fin1 (.inr rfl) rfl rfl q20_8_0 rfl rfl (by (try dsimp only); exact InM.out) (fun _ _ => trivial))

set_option maxHeartbeats 4000000 in
set_option maxRecDepth 100000 in
theorem graph_Graph_Only_ct (g_0 : Sv (Sv Int)) (a_1 : Int) (b_2 : Int) {r : List Int} (hS : Sh.graph_Graph_Only (g_0.l.map Sv.l) a_1 b_2 = some r) :
    Ct Tryd.prog 46 [g_0.val, i64 a_1, i64 b_2] g_0.ok (Ow.emp) (X := Sv Int) (fun x => x.val) (fun x => r = x.l) (fun x => x.ok) (fun x => Ow.emp) := by
  refine Ct.of Tryd.func46 rfl (by kernel_rfl) Tryd.ntmps46 (by simp) fun c => ?_
  unfold Sh.graph_Graph_Only at hS
  refine VC.seq ?_
  refine VC.region ?_
  refine VL.q (q_assign rfl) (by decide) ?_
  refine VL.to (fun _ _ h => h) ?_
  refine VC.seq ?_
  refine VC.region ?_
  refine VL.q (q_move rfl) (by decide) ?_
  refine VL.q (q_move rfl) (by decide) ?_
  refine VL.lit (α := Int) (xs := [.tmp 11]) (vs := [i64 a_1]) [a_1] Tryd.underlying24 glit3 (by decide) rfl rfl rfl rfl (by decide) (fun _ _ _ _ => trivial) (by decide) (fun s12_1 hs12_1 => ?_) (by decide)
  replace hS := lt_to hs12_1 hS
  obtain ⟨y13_3, ey13_3, hS⟩ := bd_s hS
  refine VL.callO (graph_Graph_seen_ct g_0 s12_1 ey13_3) rfl (by decide) ?_
  rintro q13_3_0 rfl
  try dsimp only
  refine VL.q (q_move rfl) (by decide) ?_
  refine VL.q (q_move rfl) (by decide) ?_
  refine VL.lit (α := Int) (xs := [.tmp 15]) (vs := [i64 b_2]) [b_2] Tryd.underlying24 glit3 (by decide) rfl rfl rfl rfl (by decide) (fun _ _ _ _ => trivial) (by decide) (fun s16_4 hs16_4 => ?_) (by decide)
  replace hS := lt_to hs16_4 hS
  obtain ⟨y17_6, ey17_6, hS⟩ := bd_s hS
  refine VL.callO (graph_Graph_seen_ct g_0 s16_4 ey17_6) rfl (by decide) ?_
  rintro q17_6_0 rfl
  try dsimp only
  refine VL.q (q_assign rfl) (by decide) ?_
  refine VL.q (q_assign rfl) (by decide) ?_
  refine VL.to (fun _ _ h => h) ?_
  refine VC.keep [7, 8] rfl ?_
  refine VC.seq ?_
  refine VC.seq ?_
  refine VC.region ?_
  refine VL.q (q_move rfl) (by decide) ?_
  refine VL.q (q_ln (s := q13_3_0) Tryd.underlying149 rfl) (by decide) ?_
  refine VL.q (q_move rfl) (by decide) ?_
  refine VL.to (fun _ _ h => h) ?_
  refine VC.block ?_
  refine VC.iter (S := Sv Bool × Int) (fun sg => (sg.1.l, sg.2)) (fun sg => [(7, sg.1.val), (8, q17_6_0.val), (19, i64 (q13_3_0.l.length : Int)), (20, i64 sg.2)]) (fun sg => Mo.tt) (fun sg => Ow.star (Sv.own q17_6_0 4) (Ow.star (Sv.own sg.1 4) (Ow.emp))) (q13_3_0, 0) [7, 8, 19, 20] hS rfl ?_
  clear hS
  rintro ⟨x7_7, x20_8⟩ m1 y1 hS hK1
  show VC _ _ _ _ _ [(7, x7_7.val), (8, q17_6_0.val), (19, i64 (q13_3_0.l.length : Int)), (20, i64 x20_8)] (Mo.and Mo.tt _) (Ow.star (Sv.own q17_6_0 4) (Ow.star (Sv.own x7_7 4) (Ow.emp)))
  refine VC.seq ?_
  refine VC.region ?_
  refine VL.q (q_lss rfl rfl) (by decide) ?_
  refine VL.to (fun _ _ h => h) ?_
  refine VC.seq ?_
  refine VC.cond_dec rfl (fun h21 => ?_) (fun h21 => ?_)
  ·
    replace hS := it_t h21 hS
    refine VC.skip_to (fun _ _ h => h) ?_
    refine VC.seq ?_
    refine VC.block ?_
    refine VC.seq ?_
    refine VC.region ?_
    refine VL.q (q_move rfl) (by decide) ?_
    refine VL.q (q_assign rfl) (by decide) ?_
    refine VL.to (fun _ _ h => h) ?_
    refine VC.region ?_
    refine VL.q (q_move rfl) (by decide) ?_
    refine VL.q (q_move rfl) (by decide) ?_
    refine VL.q (q_move rfl) (by decide) ?_
    refine VL.q (q_move rfl) (by decide) ?_
    obtain ⟨z27_9, nz27_9, hz27_9, hS⟩ := at_s hS
    refine VL.q (q_ixo (s := x7_7) Tryd.underlying149 gsz4 rfl rfl nz27_9 (lt_of_get nz27_9 hz27_9)) (by decide) ?_
    refine VL.q (q_elo (s := x7_7) 4 gone4 rfl hz27_9 rfl) (by decide) ?_
    refine VL.q (q_move rfl) (by decide) ?_
    refine VL.split 29 rfl (fun h29 => ?_) (fun h29 => ?_)
    ·
      replace hS := it_t h29 hS
      refine VL.gy rfl rfl (q_move rfl) (by decide) ?_
      refine VL.gy rfl rfl (q_move rfl) (by decide) ?_
      obtain ⟨z32_10, nz32_10, hz32_10, hS⟩ := at_s hS
      refine VL.gy rfl rfl (q_ixo (s := q17_6_0) Tryd.underlying149 gsz4 rfl rfl nz32_10 (lt_of_get nz32_10 hz32_10)) (by decide) ?_
      refine VL.gy rfl rfl (q_elo (s := q17_6_0) 4 gone4 rfl hz32_10 rfl) (by decide) ?_
      refine VL.gy rfl rfl (q_not rfl) (by decide) ?_
      refine VL.q (q_pick_t rfl rfl) (by decide) ?_
      obtain ⟨z36_11, nz36_11, hz36_11, hS⟩ := at_s hS
      refine VL.q (q_ixo (s := x7_7) Tryd.underlying149 gsz4 rfl rfl nz36_11 (lt_of_get nz36_11 hz36_11)) (by decide) ?_
      refine VL.storeE (s := x7_7) (T := 4) (j := 0) (vc := [.bool (!z32_10)]) ((!z32_10) : Bool) (by decide) rfl rfl hz36_11 rfl gsz4 rfl rfl (Nat.le_of_ble_eq_true rfl) rfl (fun w12 hw12 haw12 hcw12 hvw12 hbw12 how12 => ?_)
      rw [← hvw12]
      replace hS := lt_to hw12 hS
      refine VL.to (fun _ _ h => h) ?_
      refine VC.keep [7, 8, 19, 20] rfl ?_
      refine VC.region ?_
      obtain ⟨b37, hS⟩ := gd_s hS
      refine VL.q (q_add rfl rfl b37) (by decide) ?_
      refine VL.q (q_move rfl) (by decide) ?_
      refine VL.rnd (w12, (x20_8 + 1)) [7, 8, 19, 20] (fun _ _ h => h) (go2 hS hK1) rfl
    ·
      replace hS := it_b h29 hS
      refine VL.gn rfl rfl rfl (by decide) ?_
      refine VL.gn rfl rfl rfl (by decide) ?_
      refine VL.gn rfl rfl rfl (by decide) ?_
      refine VL.gn rfl rfl rfl (by decide) ?_
      refine VL.gn rfl rfl rfl (by decide) ?_
      refine VL.q (q_pick_f rfl rfl) (by decide) ?_
      obtain ⟨z36_14, nz36_14, hz36_14, hS⟩ := at_s hS
      refine VL.q (q_ixo (s := x7_7) Tryd.underlying149 gsz4 rfl rfl nz36_14 (lt_of_get nz36_14 hz36_14)) (by decide) ?_
      refine VL.storeE (s := x7_7) (T := 4) (j := 0) (vc := [.bool false]) (false : Bool) (by decide) rfl rfl hz36_14 rfl gsz4 rfl rfl (Nat.le_of_ble_eq_true rfl) rfl (fun w15 hw15 haw15 hcw15 hvw15 hbw15 how15 => ?_)
      rw [← hvw15]
      replace hS := lt_to hw15 hS
      refine VL.to (fun _ _ h => h) ?_
      refine VC.keep [7, 8, 19, 20] rfl ?_
      refine VC.region ?_
      obtain ⟨b37, hS⟩ := gd_s hS
      refine VL.q (q_add rfl rfl b37) (by decide) ?_
      refine VL.q (q_move rfl) (by decide) ?_
      refine VL.rnd (w15, (x20_8 + 1)) [7, 8, 19, 20] (fun _ _ h => h) (go2 hS hK1) rfl
  ·
    replace hS := it_f h21 hS
    replace hS := up2 hS hK1
    refine VC.exit_to (fun _ _ h => h) ?_
    refine VC.seq ?_
    refine VC.region ?_
    refine VL.q (q_move rfl) (by decide) ?_
    refine VL.shut x7_7 4 (fun _ _ _ _ => trivial) ?_
    obtain ⟨y39_17, ey39_17, hS⟩ := bd_s hS
    refine VL.callF (graph_row_ct x7_7 ey39_17) rfl (by decide) ?_
    rintro q39_17_0 rfl
    try dsimp only
    refine VL.q (q_assign rfl) (by decide) ?_
    refine VL.to (fun _ _ h => h) ?_
    cases hS
    exact VC.ret (fin1 (.inr rfl) rfl rfl q39_17_0 rfl rfl (by (try dsimp only); exact InM.out) (fun _ _ => trivial))

set_option maxHeartbeats 4000000 in
set_option maxRecDepth 100000 in
theorem todo_Plain_ct (g_0 : Sv (Sv Int)) (onto_1 : Int) (from_2 : Int) {r : List TodoStep} (hS : Sh.todo_Plain (g_0.l.map Sv.l) onto_1 from_2 = some r) :
    Ct Tryd.prog 16 [g_0.val, i64 onto_1, i64 from_2] g_0.ok (Ow.emp) (X := Sv TodoStep) (fun x => x.val) (fun x => r = x.l) (fun x => x.ok) (fun x => Ow.emp) := by
  refine Ct.of Tryd.func16 rfl (by kernel_rfl) Tryd.ntmps16 (by simp) fun c => ?_
  unfold Sh.todo_Plain at hS
  refine VC.seq ?_
  refine VC.region ?_
  refine VL.q (q_assign rfl) (by decide) ?_
  refine VL.to (fun _ _ h => h) ?_
  refine VC.seq ?_
  refine VC.region ?_
  refine VL.q (q_assign rfl) (by decide) ?_
  refine VL.to (fun _ _ h => h) ?_
  refine VC.seq ?_
  refine VC.seq ?_
  refine VC.region ?_
  refine VL.q (q_move rfl) (by decide) ?_
  refine VL.q (q_move rfl) (by decide) ?_
  refine VL.q (q_move rfl) (by decide) ?_
  obtain ⟨y13_1, ey13_1, hS⟩ := bd_s hS
  refine VL.callF (graph_Graph_Only_ct g_0 from_2 onto_1 ey13_1) rfl (by decide) ?_
  rintro q13_1_0 rfl
  try dsimp only
  refine VL.q (q_ln (s := q13_1_0) Tryd.underlying24 rfl) (by decide) ?_
  refine VL.q (q_move rfl) (by decide) ?_
  refine VL.to (fun _ _ h => h) ?_
  refine VC.block ?_
  refine VC.nilO (⟨none, 0, []⟩ : Sv TodoStep) 48 ⟨rfl, rfl⟩ ?_
  refine VC.iter (S := Sv TodoStep × Int) (fun sg => (sg.1.l, sg.2)) (fun sg => [(0, g_0.val), (7, sg.1.val), (13, q13_1_0.val), (14, i64 (q13_1_0.l.length : Int)), (15, i64 sg.2)]) (fun sg => Mo.tt) (fun sg => Ow.star (Sv.own sg.1 48) (Ow.emp)) (⟨none, 0, []⟩, 0) [0, 7, 13, 14, 15] hS rfl ?_
  clear hS
  rintro ⟨out7_2, x15_3⟩ m1 y1 hS hK1
  show VC _ _ _ _ _ [(0, g_0.val), (7, out7_2.val), (13, q13_1_0.val), (14, i64 (q13_1_0.l.length : Int)), (15, i64 x15_3)] (Mo.and Mo.tt _) (Ow.star (Sv.own out7_2 48) (Ow.emp))
  refine VC.seq ?_
  refine VC.region ?_
  refine VL.q (q_lss rfl rfl) (by decide) ?_
  refine VL.to (fun _ _ h => h) ?_
  refine VC.seq ?_
  refine VC.cond_dec rfl (fun h16 => ?_) (fun h16 => ?_)
  ·
    replace hS := it_t h16 hS
    refine VC.skip_to (fun _ _ h => h) ?_
    refine VC.seq ?_
    refine VC.block ?_
    refine VC.seq ?_
    refine VC.region ?_
    obtain ⟨z17_4, nz17_4, hz17_4, hS⟩ := at_s hS
    refine VL.q (q_ixm (s := q13_1_0) Tryd.underlying24 gsz3 rfl rfl nz17_4 (lt_of_get nz17_4 hz17_4)) (by decide) ?_
    refine VL.q (q_el (s := q13_1_0) gone3 rfl hz17_4 rfl) (by decide) ?_
    refine VL.q (q_assign rfl) (by decide) ?_
    refine VL.to (fun _ _ h => h) ?_
    refine VC.seq ?_
    refine VC.region ?_
    refine VL.q (q_move rfl) (by decide) ?_
    refine VL.q (q_move rfl) (by decide) ?_
    obtain ⟨b21, hS⟩ := gd_s hS
    refine VL.q (q_sub rfl rfl b21) (by decide) ?_
    obtain ⟨z22_5, nz22_5, hz22_5, hS⟩ := atm_s hS
    refine VL.deep z22_5.ok hz22_5 (fun _ q => q) ?_
    refine VL.q (q_ixm (s := g_0) Tryd.underlying36 gsz24 rfl rfl nz22_5 (lt_of_get nz22_5 hz22_5)) (by decide) ?_
    refine VL.q (q_el (s := g_0) gone24 rfl hz22_5 rfl) (by decide) ?_
    refine VL.q (q_ln (s := z22_5) Tryd.underlying24 rfl) (by decide) ?_
    refine VL.q (q_lss rfl rfl) (by decide) ?_
    refine VL.to (fun _ _ h => h) ?_
    refine VC.keep [0, 7, 13, 14, 15, 9, 25] rfl ?_
    refine VC.cond_dec rfl (fun h25 => ?_) (fun h25 => ?_)
    ·
      replace hS := it_t h25 hS
      refine VC.region ?_
      refine VL.q (q_move rfl) (by decide) ?_
      refine VL.q (q_move rfl) (by decide) ?_
      refine VL.q (q_build (vs := [(0, str [112, 105, 99, 107]), (1, i64 z17_4)]) (cs := #[str [112, 105, 99, 107], i64 z17_4, str []]) rfl (by kernel_rfl)) (by decide) ?_
      refine VL.lit (α := TodoStep) (xs := [.tmp 28]) (vs := [.agg #[str [112, 105, 99, 107], i64 z17_4, str []]]) [⟨[112, 105, 99, 107], z17_4, []⟩] Tryd.underlying38 glit48 (by decide) rfl rfl rfl rfl (by decide) (fun _ _ _ _ => trivial) (by decide) (fun s29_6 hs29_6 => ?_) (by decide)
      replace hS := lt_to hs29_6 hS
      obtain ⟨b30, hS⟩ := gd_s hS
      refine VL.app (s := out7_2) (r := s29_6) Tryd.underlying38 gapp48 (by decide) rfl Fo.out (ap1 b30) (ap2 b30 (by decide)) (by decide) (fun s30_8 hs30_8 => ?_)
      replace hS := lt_to hs30_8 hS
      refine VL.q (q_assign rfl) (by decide) ?_
      refine VL.to (fun _ _ h => h) ?_
      refine VC.keep [0, 7, 13, 14, 15] rfl ?_
      refine VC.region ?_
      obtain ⟨b31, hS⟩ := gd_s hS
      refine VL.q (q_add rfl rfl b31) (by decide) ?_
      refine VL.q (q_move rfl) (by decide) ?_
      refine VL.rnd (s30_8, (x15_3 + 1)) [0, 7, 13, 14, 15] (fun _ _ h => h) (go2 hS hK1) rfl
    ·
      replace hS := it_f h25 hS
      refine VC.skip_to (fun _ _ h => h) ?_
      refine VC.region ?_
      obtain ⟨b31, hS⟩ := gd_s hS
      refine VL.q (q_add rfl rfl b31) (by decide) ?_
      refine VL.q (q_move rfl) (by decide) ?_
      refine VL.rnd (out7_2, (x15_3 + 1)) [0, 7, 13, 14, 15] (fun _ _ h => h) (go2 hS hK1) rfl
  ·
    replace hS := it_f h16 hS
    replace hS := up2 hS hK1
    refine VC.exit_to (fun _ _ h => h) ?_
    refine VC.seq ?_
    refine VC.region ?_
    refine VL.q (q_move rfl) (by decide) ?_
    refine VL.shut out7_2 48 (fun _ _ _ _ => trivial) ?_
    obtain ⟨y33_10, ey33_10, hS⟩ := bd_s hS
    refine VL.callF (slices_Clip_todo_Step_todo_Step_ct out7_2 ey33_10) rfl (by decide) ?_
    rintro q33_10_0 rfl
    try dsimp only
    refine VL.q (q_assign rfl) (by decide) ?_
    refine VL.to (fun _ _ h => h) ?_
    cases hS
    exact VC.ret (fin1 (.inr rfl) rfl rfl q33_10_0 rfl rfl (by (try dsimp only); exact InM.out) (fun _ _ => trivial))

set_option maxHeartbeats 4000000 in
set_option maxRecDepth 100000 in
theorem todo_Text_ct (l_0 : Sv TodoStep) {r : Str} (hS : Sh.todo_Text l_0.l = some r) :
    Ct Tryd.prog 20 [l_0.val] (l_0.ok.and Gl) (Ow.emp) (X := Unit) (fun _ => str r) (fun _ => True) (fun _ => Mo.tt) (fun _ => Ow.emp) := by
  refine Ct.of Tryd.func20 rfl (by kernel_rfl) Tryd.ntmps20 (by simp) fun c => ?_
  unfold Sh.todo_Text at hS
  refine VC.seq ?_
  refine VC.region ?_
  refine VL.q (q_assign rfl) (by decide) ?_
  refine VL.to (fun _ _ h => h) ?_
  refine VC.seq ?_
  refine VC.region ?_
  refine VL.alloc (cs := [.pointer none, .slice none 0 0]) (by kernel_rfl) (by decide) fun b3_1 => ?_
  refine VL.toBd 5 b3_1 ?_
  refine VL.to (fun _ _ h => h) ?_
  refine VC.seq ?_
  refine VC.seq ?_
  refine VC.region ?_
  refine VL.q (q_move rfl) (by decide) ?_
  refine VL.q (q_ln (s := l_0) Tryd.underlying38 rfl) (by decide) ?_
  refine VL.q (q_move rfl) (by decide) ?_
  refine VL.to (fun _ _ h => h) ?_
  refine VC.block ?_
  refine VC.iter (S := Int × Str) (fun sg => (sg.1, sg.2)) (fun sg => [(3, ptr b3_1 0), (6, l_0.val), (7, i64 (l_0.l.length : Int)), (8, i64 sg.1)]) (fun sg => Mo.tt) (fun sg => Ow.star (Bd 101 5 b3_1 sg.2) (Ow.emp)) (0, []) [3, 6, 7, 8] hS rfl ?_
  clear hS
  rintro ⟨x8_2, acc_3⟩ m1 y1 hS hK1
  show VC _ _ _ _ _ [(3, ptr b3_1 0), (6, l_0.val), (7, i64 (l_0.l.length : Int)), (8, i64 x8_2)] (Mo.and Mo.tt _) (Ow.star (Bd 101 5 b3_1 acc_3) (Ow.emp))
  refine VC.seq ?_
  refine VC.region ?_
  refine VL.q (q_lss rfl rfl) (by decide) ?_
  refine VL.to (fun _ _ h => h) ?_
  refine VC.seq ?_
  refine VC.cond_dec rfl (fun h9 => ?_) (fun h9 => ?_)
  ·
    replace hS := it_t h9 hS
    refine VC.skip_to (fun _ _ h => h) ?_
    refine VC.seq ?_
    refine VC.block ?_
    refine VC.seq ?_
    refine VC.region ?_
    obtain ⟨z10_4, nz10_4, hz10_4, hS⟩ := at_s hS
    refine VL.q (q_ixm (s := l_0) Tryd.underlying38 gsz48 rfl rfl nz10_4 (lt_of_get nz10_4 hz10_4)) (by decide) ?_
    refine VL.q (q_els (s := l_0) gagg48 rfl rfl hz10_4) (by decide) ?_
    refine VL.alloc (cs := [str [], i64 0, str []]) (by kernel_rfl) (by decide) fun b5_5 => ?_
    refine VL.store (vc := [str z10_4.verb, i64 z10_4.commit, str z10_4.text]) (cs' := [str z10_4.verb, i64 z10_4.commit, str z10_4.text]) rfl rfl rfl gsz48 rfl rfl (Nat.le_of_ble_eq_true rfl) rfl ?_
    refine VL.to (fun _ _ h => h) ?_
    refine VC.seq ?_
    refine VC.draw [(0, true), (1, true), (2, true), (3, true), (4, true), (5, true), (6, true), (7, false)] mixed (by kernel_rfl) (by kernel_rfl) (by kernel_rfl) ?_
    refine VD.q rfl (q_field gfa48_0 rfl) (by decide) ?_
    refine VD.q rfl (q_fe gone9 rfl rfl) (by decide) ?_
    obtain ⟨b14, hS⟩ := gd_s hS
    obtain ⟨y14_6, ey14_6, hS⟩ := lt_s hS
    refine VD.q rfl (q_catE rfl rfl b14 ey14_6) (by decide) ?_
    refine VD.q rfl (q_field gfa48_1 rfl) (by decide) ?_
    refine VD.q rfl (q_fe gone3 rfl rfl) (by decide) ?_
    obtain ⟨b17, hS⟩ := gd_s hS
    refine VD.q rfl (q_call (itoa_ct z10_4.commit b17) rfl (fun _ _ => rfl)) (by decide) ?_
    obtain ⟨b18, hS⟩ := gd_s hS
    obtain ⟨y18_7, ey18_7, hS⟩ := lt_s hS
    refine VD.q rfl (q_catE rfl rfl b18 ey18_7) (by decide) ?_
    refine VD.one rfl ?_
    obtain ⟨b19, hS⟩ := gd_s hS
    refine VL.callO (writeString_ct b3_1 acc_3 y18_7 b19) rfl (by decide) ?_
    rintro _ _
    obtain ⟨acc19_8, eacc19_8, hS⟩ := lt_s hS
    rw [eacc19_8]
    refine VL.back (D' := []) (by kernel_rfl) (Pend.nil) ?_
    refine VD.to (fun _ _ h => h) ?_
    refine VC.keep [3, 6, 7, 8, 5] rfl ?_
    refine VC.seq ?_
    refine VC.seq ?_
    refine VC.region ?_
    refine VL.q (q_field gfa48_0 rfl) (by decide) ?_
    refine VL.q (q_fe gone9 rfl rfl) (by decide) ?_
    refine VL.q (q_seq rfl rfl) (by decide) ?_
    refine VL.to (fun _ _ h => h) ?_
    refine VC.cond_dec rfl (fun h22 => ?_) (fun h22 => ?_)
    ·
      replace hS := it_t h22 hS
      refine VC.region ?_
      refine VL.q (q_field gfa48_2 rfl) (by decide) ?_
      refine VL.q (q_fe gone9 rfl rfl) (by decide) ?_
      obtain ⟨b25, hS⟩ := gd_s hS
      obtain ⟨y25_9, ey25_9, hS⟩ := lt_s hS
      refine VL.q (q_catE rfl rfl b25 ey25_9) (by decide) ?_
      obtain ⟨b26, hS⟩ := gd_s hS
      refine VL.callO (writeString_ct b3_1 acc19_8 y25_9 b26) rfl (by decide) ?_
      rintro _ _
      obtain ⟨acc26_10, eacc26_10, hS⟩ := lt_s hS
      rw [eacc26_10]
      refine VL.to (fun _ _ h => h) ?_
      refine VC.keep [3, 6, 7, 8] rfl ?_
      refine VC.region ?_
      obtain ⟨b27, hS⟩ := gd_s hS
      refine VL.callO (writeString_ct b3_1 acc26_10 [10] b27) rfl (by decide) ?_
      rintro _ _
      obtain ⟨acc27_11, eacc27_11, hS⟩ := lt_s hS
      rw [eacc27_11]
      refine VL.to (fun _ _ h => h) ?_
      refine VC.region ?_
      obtain ⟨b28, hS⟩ := gd_s hS
      refine VL.q (q_add rfl rfl b28) (by decide) ?_
      refine VL.q (q_move rfl) (by decide) ?_
      refine VL.rnd ((x8_2 + 1), acc27_11) [3, 6, 7, 8] (fun _ _ h => h) (go2 hS hK1) rfl
    ·
      replace hS := it_f h22 hS
      refine VC.skip_to (fun _ _ h => h) ?_
      refine VC.region ?_
      obtain ⟨b27, hS⟩ := gd_s hS
      refine VL.callO (writeString_ct b3_1 acc19_8 [10] b27) rfl (by decide) ?_
      rintro _ _
      obtain ⟨acc27_12, eacc27_12, hS⟩ := lt_s hS
      rw [eacc27_12]
      refine VL.to (fun _ _ h => h) ?_
      refine VC.region ?_
      obtain ⟨b28, hS⟩ := gd_s hS
      refine VL.q (q_add rfl rfl b28) (by decide) ?_
      refine VL.q (q_move rfl) (by decide) ?_
      refine VL.rnd ((x8_2 + 1), acc27_12) [3, 6, 7, 8] (fun _ _ h => h) (go2 hS hK1) rfl
  ·
    replace hS := it_f h9 hS
    replace hS := up2 hS hK1
    refine VC.exit_to (fun _ _ h => h) ?_
    refine VC.seq ?_
    refine VC.region ?_
    refine VL.callO (string_ct b3_1 acc_3) rfl (by decide) ?_
    rintro _ _
    refine VL.q (q_assign rfl) (by decide) ?_
    refine VL.to (fun _ _ h => h) ?_
    cases hS
    exact VC.ret (fin1 (.inr rfl) rfl rfl () rfl trivial (fun _ _ => trivial) (fun _ _ => trivial))

set_option maxHeartbeats 4000000 in
set_option maxRecDepth 100000 in
theorem todo_fault_ct (at_0 : Int) (e_1 : Int) {r : Err} (hS : Sh.todo_fault at_0 e_1 = some r) :
    Ct Tryd.prog 49 [i64 at_0, i64 e_1] Mo.tt (Ow.emp) (X := Er) (fun x => x.val) (fun x => r = x.pl) (fun x => x.ok) (fun x => Ow.emp) := by
  refine Ct.of Tryd.func49 rfl (by kernel_rfl) Tryd.ntmps49 (by simp) fun c => ?_
  unfold Sh.todo_fault at hS
  refine VC.seq ?_
  refine VC.region ?_
  refine VL.q (q_assign rfl) (by decide) ?_
  refine VL.to (fun _ _ h => h) ?_
  refine VC.seq ?_
  refine VC.region ?_
  refine VL.q (q_move rfl) (by decide) ?_
  refine VL.q (q_move rfl) (by decide) ?_
  refine VL.q (q_mkif Tryd.underlying97 (fun _ h => by cases h) rfl) (by decide) ?_
  refine VL.q (q_build (vs := [(0, str [115, 116, 101, 112]), (1, i64 at_0), (2, (Er.no e_1).val)]) (cs := #[str [115, 116, 101, 112], i64 at_0, (Er.no e_1).val]) rfl (by kernel_rfl)) (by decide) ?_
  refine VL.box (cs := [str [115, 116, 101, 112], i64 at_0, (Er.no e_1).val]) rfl rfl (by decide) fun b9_1 => ?_
  refine VL.shutB b9_1 ?_
  refine VL.q (q_mkif Tryd.underlying110 (fun _ h => by cases h) rfl) (by decide) ?_
  refine VL.q (q_assign rfl) (by decide) ?_
  refine VL.to (fun _ _ h => h) ?_
  cases hS
  exact VC.ret (fin1 (.inr rfl) rfl rfl (Er.fault b9_1 [115, 116, 101, 112] at_0 (Er.no e_1)) rfl rfl (by (try dsimp only); exact InM.out) (fun _ _ => trivial))

set_option maxHeartbeats 4000000 in
set_option maxRecDepth 100000 in
theorem todo_step_ct (s_0 : TodoStep) (g_1 : Sv (Sv Int)) (first_2 : Bool) {r : Int} (hS : Sh.todo_step s_0 (g_1.l.map Sv.l) first_2 = some r) :
    Ct Tryd.prog 50 [.agg #[str s_0.verb, i64 s_0.commit, str s_0.text], g_1.val, .bool first_2] g_1.ok (Ow.emp) (X := Unit) (fun _ => i64 r) (fun _ => True) (fun _ => Mo.tt) (fun _ => Ow.emp) := by
  refine Ct.of Tryd.func50 rfl (by kernel_rfl) Tryd.ntmps50 (by simp) fun c => ?_
  unfold Sh.todo_step at hS
  refine VC.seq ?_
  refine VC.region ?_
  refine VL.box (cs := [str s_0.verb, i64 s_0.commit, str s_0.text]) rfl rfl (by decide) fun b3_1 => ?_
  refine VL.q (q_assign rfl) (by decide) ?_
  refine VL.to (fun _ _ h => h) ?_
  refine VC.seq ?_
  refine VC.region ?_
  refine VL.q (q_field gfa48_0 rfl) (by decide) ?_
  refine VL.q (q_fe gone9 rfl rfl) (by decide) ?_
  obtain ⟨y12_2, ey12_2, hS⟩ := bd_s hS
  refine VL.q (q_call (todo_verb_ct s_0.verb ey12_2) rfl (fun _ _ => rfl)) (by decide) ?_
  refine VL.q (q_move rfl) (by decide) ?_
  refine VL.q (q_extract rfl rfl) (by decide) ?_
  refine VL.q (q_extract rfl rfl) (by decide) ?_
  refine VL.q (q_assign rfl) (by decide) ?_
  refine VL.q (q_assign rfl) (by decide) ?_
  refine VL.to (fun _ _ h => h) ?_
  refine VC.keep [1, 2, 3, 7, 8] rfl ?_
  refine VC.seq ?_
  refine VC.block ?_
  refine VC.seq ?_
  refine VC.region ?_
  refine VL.q (q_move rfl) (by decide) ?_
  refine VL.q (q_not rfl) (by decide) ?_
  refine VL.q (q_assign rfl) (by decide) ?_
  refine VL.to (fun _ _ h => h) ?_
  refine VC.cond rfl (fun h15 => ?_) (fun h15 => ?_)
  ·
    replace hS := it_t h15 hS
    refine VC.seq ?_
    refine VC.region ?_
    refine VL.q (q_assign rfl) (by decide) ?_
    refine VL.to (fun _ _ h => h) ?_
    cases hS
    exact VC.ret (fin1 (.inr rfl) rfl rfl () rfl trivial (fun _ _ => trivial) (fun _ _ => trivial))
  ·
    replace hS := it_b h15 hS
    refine VC.cutJ (S := Bool) (fun (x18_3 : Bool) => x18_3) (fun (x18_3 : Bool) => [(2, .bool first_2), (8, .bool y12_2.2), (18, .bool x18_3)]) (fun (x18_3 : Bool) => Mo.tt) (fun (x18_3 : Bool) => Ow.star (Blk b3_1 [str s_0.verb, i64 s_0.commit, str s_0.text] 48) (Ow.emp)) hS ?_ ?_
    · -- up to where ways meet
      clear hS
      intro k4 hS
      refine VC.region ?_
      refine VL.q (q_field gfa48_1 rfl) (by decide) ?_
      refine VL.q (q_fe gone3 rfl rfl) (by decide) ?_
      refine VL.q (q_lss rfl rfl) (by decide) ?_
      refine VL.q (q_move rfl) (by decide) ?_
      refine VL.split_dec 22 rfl (fun h22 => ?_) (fun h22 => ?_)
      ·
        replace hS := it_t h22 hS
        refine VL.gn rfl rfl rfl (by decide) ?_
        refine VL.gn rfl rfl rfl (by decide) ?_
        refine VL.gn rfl rfl rfl (by decide) ?_
        refine VL.gn rfl rfl rfl (by decide) ?_
        refine VL.gn rfl rfl rfl (by decide) ?_
        refine VL.q (q_pick_t rfl rfl) (by decide) ?_
        refine VL.q (q_move rfl) (by decide) ?_
        refine VL.gn rfl rfl rfl (by decide) ?_
        refine VL.gn rfl rfl rfl (by decide) ?_
        refine VL.gn rfl rfl rfl (by decide) ?_
        refine VL.gn rfl rfl rfl (by decide) ?_
        refine VL.gn rfl rfl rfl (by decide) ?_
        refine VL.gn rfl rfl rfl (by decide) ?_
        refine VL.gn rfl rfl rfl (by decide) ?_
        refine VL.gn rfl rfl rfl (by decide) ?_
        refine VL.q (q_pick_t rfl rfl) (by decide) ?_
        refine VL.q (q_assign rfl) (by decide) ?_
        refine VL.mt true [2, 8, 18] (fun _ _ h => h) hS rfl
      ·
        replace hS := it_f h22 hS
        refine VL.gy rfl rfl (q_field gfa48_1 rfl) (by decide) ?_
        refine VL.gy rfl rfl (q_fe gone3 rfl rfl) (by decide) ?_
        refine VL.gy rfl rfl (q_move rfl) (by decide) ?_
        refine VL.gy rfl rfl (q_lnm Sv.l (s := g_1) Tryd.underlying36 rfl) (by decide) ?_
        refine VL.gy rfl rfl (q_gtr rfl rfl) (by decide) ?_
        refine VL.q (q_pick_f rfl rfl) (by decide) ?_
        refine VL.q (q_move rfl) (by decide) ?_
        refine VL.split_dec 29 rfl (fun h29 => ?_) (fun h29 => ?_)
        ·
          replace hS := it_t h29 hS
          refine VL.gn rfl rfl rfl (by decide) ?_
          refine VL.gn rfl rfl rfl (by decide) ?_
          refine VL.gn rfl rfl rfl (by decide) ?_
          refine VL.gn rfl rfl rfl (by decide) ?_
          refine VL.gn rfl rfl rfl (by decide) ?_
          refine VL.gn rfl rfl rfl (by decide) ?_
          refine VL.gn rfl rfl rfl (by decide) ?_
          refine VL.gn rfl rfl rfl (by decide) ?_
          refine VL.q (q_pick_t rfl rfl) (by decide) ?_
          refine VL.q (q_assign rfl) (by decide) ?_
          refine VL.mt true [2, 8, 18] (fun _ _ h => h) hS rfl
        ·
          replace hS := it_f h29 hS
          refine VL.gy rfl rfl (q_move rfl) (by decide) ?_
          refine VL.gy rfl rfl (q_field gfa48_1 rfl) (by decide) ?_
          refine VL.gy rfl rfl (q_fe gone3 rfl rfl) (by decide) ?_
          obtain ⟨b33, hS⟩ := gd_s hS
          refine VL.gy rfl rfl (q_sub rfl rfl b33) (by decide) ?_
          obtain ⟨z34_5, nz34_5, hz34_5, hS⟩ := atm_s hS
          refine VL.deep z34_5.ok hz34_5 (fun _ q => q) ?_
          refine VL.gy rfl rfl (q_ixm (s := g_1) Tryd.underlying36 gsz24 rfl rfl nz34_5 (lt_of_get nz34_5 hz34_5)) (by decide) ?_
          refine VL.gy rfl rfl (q_el (s := g_1) gone24 rfl hz34_5 rfl) (by decide) ?_
          refine VL.gy rfl rfl (q_ln (s := z34_5) Tryd.underlying24 rfl) (by decide) ?_
          refine VL.gy rfl rfl (q_gtr rfl rfl) (by decide) ?_
          refine VL.q (q_pick_f rfl rfl) (by decide) ?_
          refine VL.q (q_assign rfl) (by decide) ?_
          refine VL.mt (decide (1 < (z34_5.l.length : Int))) [2, 8, 18] (fun _ _ h => h) hS rfl
    · -- from there
      clear hS
      rintro x18_3 hS
      show VC _ _ _ _ _ [(2, .bool first_2), (8, .bool y12_2.2), (18, .bool x18_3)] (Mo.and Mo.tt _) (Ow.star (Blk b3_1 [str s_0.verb, i64 s_0.commit, str s_0.text] 48) (Ow.emp))
      refine VC.cond rfl (fun h18 => ?_) (fun h18 => ?_)
      ·
        replace hS := it_t h18 hS
        refine VC.seq ?_
        refine VC.region ?_
        refine VL.q (q_assign rfl) (by decide) ?_
        refine VL.to (fun _ _ h => h) ?_
        cases hS
        exact VC.ret (fin1 (.inr rfl) rfl rfl () rfl trivial (fun _ _ => trivial) (fun _ _ => trivial))
      ·
        replace hS := it_b h18 hS
        refine VC.cutJ (S := Bool) (fun (x39_6 : Bool) => x39_6) (fun (x39_6 : Bool) => [(39, .bool x39_6)]) (fun (x39_6 : Bool) => Mo.tt) (fun (x39_6 : Bool) => Ow.star (Blk b3_1 [str s_0.verb, i64 s_0.commit, str s_0.text] 48) (Ow.emp)) hS ?_ ?_
        · -- up to where ways meet
          clear hS
          intro k7 hS
          refine VC.region ?_
          refine VL.q (q_move rfl) (by decide) ?_
          refine VL.q (q_move rfl) (by decide) ?_
          refine VL.split 41 rfl (fun h41 => ?_) (fun h41 => ?_)
          ·
            replace hS := it_t h41 hS
            refine VL.gy rfl rfl (q_move rfl) (by decide) ?_
            refine VL.q (q_pick_t rfl rfl) (by decide) ?_
            refine VL.q (q_assign rfl) (by decide) ?_
            refine VL.mt first_2 [39] (fun _ _ h => h) hS rfl
          ·
            replace hS := it_b h41 hS
            refine VL.gn rfl rfl rfl (by decide) ?_
            refine VL.q (q_pick_f rfl rfl) (by decide) ?_
            refine VL.q (q_assign rfl) (by decide) ?_
            refine VL.mt false [39] (fun _ _ h => h) hS rfl
        · -- from there
          clear hS
          rintro x39_6 hS
          show VC _ _ _ _ _ [(39, .bool x39_6)] (Mo.and Mo.tt _) (Ow.star (Blk b3_1 [str s_0.verb, i64 s_0.commit, str s_0.text] 48) (Ow.emp))
          refine VC.cond rfl (fun h39 => ?_) (fun h39 => ?_)
          ·
            replace hS := it_t h39 hS
            refine VC.seq ?_
            refine VC.region ?_
            refine VL.q (q_assign rfl) (by decide) ?_
            refine VL.to (fun _ _ h => h) ?_
            cases hS
            exact VC.ret (fin1 (.inr rfl) rfl rfl () rfl trivial (fun _ _ => trivial) (fun _ _ => trivial))
          ·
            replace hS := it_b h39 hS
            refine VC.skip_to (fun _ _ h => h) ?_
            refine VC.seq ?_
            refine VC.region ?_
            refine VL.q (q_assign rfl) (by decide) ?_
            refine VL.to (fun _ _ h => h) ?_
            cases hS
            exact VC.ret (fin1 (.inr rfl) rfl rfl () rfl trivial (fun _ _ => trivial) (fun _ _ => trivial))

set_option maxHeartbeats 4000000 in
set_option maxRecDepth 100000 in
theorem todo_Check_ct (l_0 : Sv TodoStep) (g_1 : Sv (Sv Int)) {r : Err} (hS : Sh.todo_Check l_0.l (g_1.l.map Sv.l) = some r) :
    Ct Tryd.prog 19 [l_0.val, g_1.val] (l_0.ok.and g_1.ok) (Ow.emp) (X := Er) (fun x => x.val) (fun x => r = x.pl) (fun x => x.ok) (fun x => Ow.emp) := by
  refine Ct.of Tryd.func19 rfl (by kernel_rfl) Tryd.ntmps19 (by simp) fun c => ?_
  unfold Sh.todo_Check at hS
  refine VC.seq ?_
  refine VC.region ?_
  refine VL.q (q_assign rfl) (by decide) ?_
  refine VL.to (fun _ _ h => h) ?_
  refine VC.seq ?_
  refine VC.seq ?_
  refine VC.region ?_
  refine VL.q (q_move rfl) (by decide) ?_
  refine VL.q (q_ln (s := l_0) Tryd.underlying38 rfl) (by decide) ?_
  refine VL.q (q_gtr rfl rfl) (by decide) ?_
  refine VL.to (fun _ _ h => h) ?_
  refine VC.cond_dec rfl (fun h11 => ?_) (fun h11 => ?_)
  ·
    replace hS := it_t h11 hS
    refine VC.seq ?_
    refine VC.region ?_
    obtain ⟨y12_1, ey12_1, hS⟩ := bd_s hS
    refine VL.callF (todo_fault_ct 32 4 ey12_1) rfl (by decide) ?_
    rintro q12_1_0 rfl
    try dsimp only
    refine VL.q (q_assign rfl) (by decide) ?_
    refine VL.to (fun _ _ h => h) ?_
    cases hS
    exact VC.ret (fin1 (.inr rfl) rfl rfl q12_1_0 rfl rfl (by (try dsimp only); exact InM.out) (fun _ _ => trivial))
  ·
    replace hS := it_f h11 hS
    refine VC.skip_to (fun _ _ h => h) ?_
    refine VC.seq ?_
    refine VC.region ?_
    refine VL.q (q_assign rfl) (by decide) ?_
    refine VL.to (fun _ _ h => h) ?_
    refine VC.seq ?_
    refine VC.seq ?_
    refine VC.region ?_
    refine VL.q (q_move rfl) (by decide) ?_
    refine VL.q (q_ln (s := l_0) Tryd.underlying38 rfl) (by decide) ?_
    refine VL.q (q_move rfl) (by decide) ?_
    refine VL.to (fun _ _ h => h) ?_
    refine VC.block ?_
    refine VC.iter (S := Bool × Int) (fun sg => (sg.1, sg.2)) (fun sg => [(1, g_1.val), (5, .bool sg.1), (13, l_0.val), (14, i64 (l_0.l.length : Int)), (15, i64 sg.2)]) (fun sg => Mo.tt) (fun sg => Ow.emp) (true, 0) [1, 5, 13, 14, 15] hS rfl ?_
    clear hS
    rintro ⟨first5_2, x15_3⟩ m1 y1 hS hK1
    show VC _ _ _ _ _ [(1, g_1.val), (5, .bool first5_2), (13, l_0.val), (14, i64 (l_0.l.length : Int)), (15, i64 x15_3)] (Mo.and Mo.tt _) (Ow.emp)
    refine VC.seq ?_
    refine VC.region ?_
    refine VL.q (q_lss rfl rfl) (by decide) ?_
    refine VL.to (fun _ _ h => h) ?_
    refine VC.seq ?_
    refine VC.cond_dec rfl (fun h16 => ?_) (fun h16 => ?_)
    ·
      replace hS := it_t h16 hS
      refine VC.skip_to (fun _ _ h => h) ?_
      refine VC.seq ?_
      refine VC.block ?_
      refine VC.seq ?_
      refine VC.region ?_
      refine VL.q (q_move rfl) (by decide) ?_
      obtain ⟨z18_4, nz18_4, hz18_4, hS⟩ := at_s hS
      refine VL.q (q_ixm (s := l_0) Tryd.underlying38 gsz48 rfl rfl nz18_4 (lt_of_get nz18_4 hz18_4)) (by decide) ?_
      refine VL.q (q_els (s := l_0) gagg48 rfl rfl hz18_4) (by decide) ?_
      refine VL.alloc (cs := [str [], i64 0, str []]) (by kernel_rfl) (by decide) fun b7_5 => ?_
      refine VL.q (q_assign rfl) (by decide) ?_
      refine VL.store (vc := [str z18_4.verb, i64 z18_4.commit, str z18_4.text]) (cs' := [str z18_4.verb, i64 z18_4.commit, str z18_4.text]) rfl rfl rfl gsz48 rfl rfl (Nat.le_of_ble_eq_true rfl) rfl ?_
      refine VL.to (fun _ _ h => h) ?_
      refine VC.seq ?_
      refine VC.seq ?_
      refine VC.region ?_
      refine VL.q (q_fes gagg48 rfl rfl) (by decide) ?_
      refine VL.q (q_move rfl) (by decide) ?_
      refine VL.q (q_move rfl) (by decide) ?_
      obtain ⟨y23_6, ey23_6, hS⟩ := bd_s hS
      refine VL.q (q_call (todo_step_ct z18_4 g_1 first5_2 ey23_6) rfl (fun _ _ => rfl)) (by decide) ?_
      refine VL.q (q_assign rfl) (by decide) ?_
      refine VL.to (fun _ _ h => h) ?_
      refine VC.keep [1, 5, 13, 14, 15, 7, 6, 8] rfl ?_
      refine VC.seq ?_
      refine VC.region ?_
      refine VL.q (q_move rfl) (by decide) ?_
      refine VL.q (q_neq rfl rfl) (by decide) ?_
      refine VL.to (fun _ _ h => h) ?_
      refine VC.cond_ndec rfl (fun h25 => ?_) (fun h25 => ?_)
      ·
        replace hS := it_f h25 hS
        refine VC.seq ?_
        refine VC.region ?_
        refine VL.q (q_move rfl) (by decide) ?_
        refine VL.q (q_move rfl) (by decide) ?_
        obtain ⟨y28_7, ey28_7, hS⟩ := bd_s hS
        refine VL.callF (todo_fault_ct x15_3 y23_6 ey28_7) rfl (by decide) ?_
        rintro q28_7_0 rfl
        try dsimp only
        refine VL.q (q_assign rfl) (by decide) ?_
        refine VL.to (fun _ _ h => h) ?_
        refine VC.keep [4] rfl ?_
        replace hS := up2 hS hK1
        cases hS
        exact VC.ret (fin1 (.inr rfl) rfl rfl q28_7_0 rfl rfl (by (try dsimp only); exact InM.out) (fun _ _ => trivial))
      ·
        replace hS := it_t h25 hS
        refine VC.skip_to (fun _ _ h => h) ?_
        refine VC.region ?_
        refine VL.q (q_move rfl) (by decide) ?_
        refine VL.q (q_move rfl) (by decide) ?_
        refine VL.split 30 rfl (fun h30 => ?_) (fun h30 => ?_)
        ·
          replace hS := it_t h30 hS
          refine VL.gy rfl rfl (q_field gfa48_0 rfl) (by decide) ?_
          refine VL.gy rfl rfl (q_fe gone9 rfl rfl) (by decide) ?_
          refine VL.gy rfl rfl (q_seq rfl rfl) (by decide) ?_
          refine VL.q (q_pick_t rfl rfl) (by decide) ?_
          refine VL.q (q_assign rfl) (by decide) ?_
          refine VL.to (fun _ _ h => h) ?_
          refine VC.keep [1, 5, 13, 14, 15] rfl ?_
          refine VC.region ?_
          obtain ⟨b35, hS⟩ := gd_s hS
          refine VL.q (q_add rfl rfl b35) (by decide) ?_
          refine VL.q (q_move rfl) (by decide) ?_
          refine VL.rnd ((decide (z18_4.verb = [100, 114, 111, 112])), (x15_3 + 1)) [1, 5, 13, 14, 15] (fun _ _ h => h) (go2 hS hK1) rfl
        ·
          replace hS := it_b h30 hS
          refine VL.gn rfl rfl rfl (by decide) ?_
          refine VL.gn rfl rfl rfl (by decide) ?_
          refine VL.gn rfl rfl rfl (by decide) ?_
          refine VL.q (q_pick_f rfl rfl) (by decide) ?_
          refine VL.q (q_assign rfl) (by decide) ?_
          refine VL.to (fun _ _ h => h) ?_
          refine VC.keep [1, 5, 13, 14, 15] rfl ?_
          refine VC.region ?_
          obtain ⟨b35, hS⟩ := gd_s hS
          refine VL.q (q_add rfl rfl b35) (by decide) ?_
          refine VL.q (q_move rfl) (by decide) ?_
          refine VL.rnd (false, (x15_3 + 1)) [1, 5, 13, 14, 15] (fun _ _ h => h) (go2 hS hK1) rfl
    ·
      replace hS := it_f h16 hS
      replace hS := up2 hS hK1
      refine VC.exit_to (fun _ _ h => h) ?_
      refine VC.seq ?_
      refine VC.region ?_
      refine VL.q (q_assign rfl) (by decide) ?_
      refine VL.to (fun _ _ h => h) ?_
      cases hS
      exact VC.ret (fin1 (.inr rfl) rfl rfl .nil rfl rfl (by (try dsimp only); exact InM.out) (fun _ _ => trivial))

set_option maxHeartbeats 4000000 in
set_option maxRecDepth 100000 in
theorem rectolaw21_known_ct  {r : Bool} (hS : Sh.rectolaw21_known = some r) :
    Ct Tryd.prog 14 [] Gl (Ow.emp) (X := Unit) (fun _ => .bool r) (fun _ => True) (fun _ => Mo.tt) (fun _ => Ow.emp) := by
  refine Ct.of Tryd.func14 rfl (by kernel_rfl) Tryd.ntmps14 (by simp) fun c => ?_
  unfold Sh.rectolaw21_known at hS
  refine VC.seq ?_
  refine VC.region ?_
  refine VL.q (q_assign rfl) (by decide) ?_
  refine VL.to (fun _ _ h => h) ?_
  refine VC.seq ?_
  refine VC.region ?_
  obtain ⟨y8_1, ey8_1, hS⟩ := bd_s hS
  refine VL.callF (todo_Parse_ct [35, 32, 120, 10, 112, 105, 99, 107, 32, 51, 10, 10, 114, 101, 119, 111, 114, 100, 32, 52, 32, 110, 101, 119, 32, 119, 111, 114, 100, 115, 10] ey8_1) rfl (by decide) ?_
  rintro ⟨q8_1_0, q8_1_1⟩ rfl
  try dsimp only
  refine VL.q (q_move rfl) (by decide) ?_
  refine VL.q (q_extract rfl rfl) (by decide) ?_
  refine VL.q (q_extract rfl rfl) (by decide) ?_
  refine VL.q (q_assign rfl) (by decide) ?_
  refine VL.q (q_assign rfl) (by decide) ?_
  refine VL.to (fun _ _ h => h) ?_
  refine VC.seq ?_
  refine VC.region ?_
  obtain ⟨y12_2, ey12_2, hS⟩ := bd_s hS
  refine VL.callF (todo_Parse_ct [112, 105, 99, 107, 32, 120] ey12_2) rfl (by decide) ?_
  rintro ⟨q12_2_0, q12_2_1⟩ rfl
  try dsimp only
  refine VL.q (q_move rfl) (by decide) ?_
  refine VL.q (q_extract rfl rfl) (by decide) ?_
  refine VL.q (q_extract rfl rfl) (by decide) ?_
  refine VL.q (q_assign rfl) (by decide) ?_
  refine VL.q (q_assign rfl) (by decide) ?_
  refine VL.to (fun _ _ h => h) ?_
  refine VC.keep [1, 2, 4] rfl ?_
  refine VC.seq ?_
  refine VC.region ?_
  refine VL.lit (α := Int) (xs := [.const (i64 1)]) (vs := [i64 1]) [1] Tryd.underlying24 glit3 (by decide) rfl rfl rfl rfl (by decide) (fun _ _ _ _ => trivial) (by decide) (fun s15_3 hs15_3 => ?_) (by decide)
  replace hS := lt_to hs15_3 hS
  refine VL.lit (α := Int) (xs := [.const (i64 2)]) (vs := [i64 2]) [2] Tryd.underlying24 glit3 (by decide) rfl rfl rfl rfl (by decide) (fun _ _ _ _ => trivial) (by decide) (fun s16_5 hs16_5 => ?_) (by decide)
  replace hS := lt_to hs16_5 hS
  refine VL.lit (α := Sv Int) (xs := [.const (.slice none 0 0), .tmp 15, .tmp 16]) (vs := [.slice none 0 0, s15_3.val, s16_5.val]) [⟨none, 0, []⟩, s15_3, s16_5] Tryd.underlying36 glit24 (by decide) rfl rfl rfl rfl (by decide) (fun h m => List.forall_mem_cons.2 ⟨InM.out (X := ((⟨none, 0, []⟩ : Sv Int).ok)) h m, List.forall_mem_cons.2 ⟨InM.out (X := s15_3.ok) h m, List.forall_mem_cons.2 ⟨InM.out (X := s16_5.ok) h m, fun _ h => by cases h⟩⟩⟩) (by decide) (fun s17_7 hs17_7 => ?_) (by decide)
  replace hS := lt_to (congrArg (List.map Sv.l) hs17_7) hS
  refine VL.q (q_assign rfl) (by decide) ?_
  refine VL.to (fun _ _ h => h) ?_
  refine VC.seq ?_
  refine VC.region ?_
  refine VL.q (q_move rfl) (by decide) ?_
  obtain ⟨y19_9, ey19_9, hS⟩ := bd_s hS
  refine VL.callF (todo_Plain_ct s17_7 1 3 ey19_9) rfl (by decide) ?_
  rintro q19_9_0 rfl
  try dsimp only
  refine VL.q (q_assign rfl) (by decide) ?_
  refine VL.to (fun _ _ h => h) ?_
  refine VC.seq ?_
  refine VC.region ?_
  refine VL.q (q_move rfl) (by decide) ?_
  refine VL.q (q_ereq Tryd.underlying44 rfl) (by decide) ?_
  refine VL.q (q_move rfl) (by decide) ?_
  refine VL.split_dec 22 rfl (fun h22 => ?_) (fun h22 => ?_)
  ·
    replace hS := it_t h22 hS
    refine VL.gy rfl rfl (q_move rfl) (by decide) ?_
    refine VL.gy rfl rfl (q_erne Tryd.underlying44 rfl) (by decide) ?_
    refine VL.q (q_pick_t rfl rfl) (by decide) ?_
    refine VL.q (q_move rfl) (by decide) ?_
    refine VL.split_ndec 26 rfl (fun h26 => ?_) (fun h26 => ?_)
    ·
      replace hS := it_f h26 hS
      refine VL.gy rfl rfl (q_move rfl) (by decide) ?_
      refine VL.gy rfl rfl (q_ln (s := q8_1_0) Tryd.underlying38 rfl) (by decide) ?_
      refine VL.gy rfl rfl (q_eql rfl rfl) (by decide) ?_
      refine VL.q (q_pick_t rfl rfl) (by decide) ?_
      refine VL.q (q_move rfl) (by decide) ?_
      refine VL.split_dec 31 rfl (fun h31 => ?_) (fun h31 => ?_)
      ·
        replace hS := it_t h31 hS
        refine VL.gy rfl rfl (q_move rfl) (by decide) ?_
        obtain ⟨z33_10, nz33_10, hz33_10, hS⟩ := at_s hS
        refine VL.gy rfl rfl (q_ixm (s := q8_1_0) Tryd.underlying38 gsz48 rfl rfl nz33_10 (lt_of_get nz33_10 hz33_10)) (by decide) ?_
        refine VL.gy rfl rfl (q_field gfa48_2 rfl) (by decide) ?_
        refine VL.gy rfl rfl (q_elf (s := q8_1_0) gone9 rfl hz33_10 rfl) (by decide) ?_
        refine VL.gy rfl rfl (q_seq rfl rfl) (by decide) ?_
        refine VL.q (q_pick_t rfl rfl) (by decide) ?_
        refine VL.q (q_move rfl) (by decide) ?_
        refine VL.split_dec 38 rfl (fun h38 => ?_) (fun h38 => ?_)
        ·
          replace hS := it_t h38 hS
          refine VL.gy rfl rfl (q_move rfl) (by decide) ?_
          obtain ⟨y40_11, ey40_11, hS⟩ := bd_s hS
          refine VL.gy rfl rfl (q_call (todo_Text_ct q8_1_0 ey40_11) rfl (fun _ _ => rfl)) (by decide) ?_
          refine VL.gy rfl rfl (q_seq rfl rfl) (by decide) ?_
          refine VL.q (q_pick_t rfl rfl) (by decide) ?_
          refine VL.q (q_move rfl) (by decide) ?_
          refine VL.split_dec 43 rfl (fun h43 => ?_) (fun h43 => ?_)
          ·
            replace hS := it_t h43 hS
            refine VL.gy rfl rfl (q_move rfl) (by decide) ?_
            refine VL.gy rfl rfl (q_ln (s := q19_9_0) Tryd.underlying38 rfl) (by decide) ?_
            refine VL.gy rfl rfl (q_eql rfl rfl) (by decide) ?_
            refine VL.q (q_pick_t rfl rfl) (by decide) ?_
            refine VL.q (q_move rfl) (by decide) ?_
            refine VL.split_dec 48 rfl (fun h48 => ?_) (fun h48 => ?_)
            ·
              replace hS := it_t h48 hS
              refine VL.gy rfl rfl (q_move rfl) (by decide) ?_
              obtain ⟨z50_12, nz50_12, hz50_12, hS⟩ := at_s hS
              refine VL.gy rfl rfl (q_ixm (s := q19_9_0) Tryd.underlying38 gsz48 rfl rfl nz50_12 (lt_of_get nz50_12 hz50_12)) (by decide) ?_
              refine VL.gy rfl rfl (q_field gfa48_1 rfl) (by decide) ?_
              refine VL.gy rfl rfl (q_elf (s := q19_9_0) gone3 rfl hz50_12 rfl) (by decide) ?_
              refine VL.gy rfl rfl (q_eql rfl rfl) (by decide) ?_
              refine VL.q (q_pick_t rfl rfl) (by decide) ?_
              refine VL.q (q_move rfl) (by decide) ?_
              refine VL.split_dec 55 rfl (fun h55 => ?_) (fun h55 => ?_)
              ·
                replace hS := it_t h55 hS
                refine VL.gy rfl rfl (q_move rfl) (by decide) ?_
                refine VL.gy rfl rfl (q_move rfl) (by decide) ?_
                refine VL.guard rfl rfl ?_
                obtain ⟨y58_13, ey58_13, hS⟩ := bd_s hS
                refine VL.callF (todo_Check_ct q19_9_0 s17_7 ey58_13) rfl (by decide) ?_
                rintro q58_13_0 rfl
                try dsimp only
                refine VL.gy rfl rfl (q_ereq Tryd.underlying44 rfl) (by decide) ?_
                refine VL.q (q_pick_t rfl rfl) (by decide) ?_
                refine VL.q (q_move rfl) (by decide) ?_
                refine VL.split_dec 61 rfl (fun h61 => ?_) (fun h61 => ?_)
                ·
                  replace hS := it_t h61 hS
                  refine VL.gy rfl rfl (q_move rfl) (by decide) ?_
                  refine VL.gy rfl rfl (q_move rfl) (by decide) ?_
                  refine VL.guard rfl rfl ?_
                  obtain ⟨y64_14, ey64_14, hS⟩ := bd_s hS
                  refine VL.callF (todo_Check_ct q8_1_0 s17_7 ey64_14) rfl (by decide) ?_
                  rintro q64_14_0 rfl
                  try dsimp only
                  refine VL.gy rfl rfl (q_erne Tryd.underlying44 rfl) (by decide) ?_
                  refine VL.q (q_pick_t rfl rfl) (by decide) ?_
                  refine VL.q (q_assign rfl) (by decide) ?_
                  refine VL.to (fun _ _ h => h) ?_
                  refine VC.keep [0] rfl ?_
                  cases hS
                  exact VC.ret (fin1 (.inr rfl) rfl rfl () rfl trivial (fun _ _ => trivial) (fun _ _ => trivial))
                ·
                  replace hS := it_f h61 hS
                  refine VL.gn rfl rfl rfl (by decide) ?_
                  refine VL.gn rfl rfl rfl (by decide) ?_
                  refine VL.gn rfl rfl rfl (by decide) ?_
                  refine VL.gn rfl rfl rfl (by decide) ?_
                  refine VL.q (q_pick_f rfl rfl) (by decide) ?_
                  refine VL.q (q_assign rfl) (by decide) ?_
                  refine VL.to (fun _ _ h => h) ?_
                  refine VC.keep [0] rfl ?_
                  cases hS
                  exact VC.ret (fin1 (.inr rfl) rfl rfl () rfl trivial (fun _ _ => trivial) (fun _ _ => trivial))
              ·
                replace hS := it_f h55 hS
                refine VL.gn rfl rfl rfl (by decide) ?_
                refine VL.gn rfl rfl rfl (by decide) ?_
                refine VL.gn rfl rfl rfl (by decide) ?_
                refine VL.gn rfl rfl rfl (by decide) ?_
                refine VL.q (q_pick_f rfl rfl) (by decide) ?_
                refine VL.q (q_move rfl) (by decide) ?_
                refine VL.gn rfl rfl rfl (by decide) ?_
                refine VL.gn rfl rfl rfl (by decide) ?_
                refine VL.gn rfl rfl rfl (by decide) ?_
                refine VL.gn rfl rfl rfl (by decide) ?_
                refine VL.q (q_pick_f rfl rfl) (by decide) ?_
                refine VL.q (q_assign rfl) (by decide) ?_
                refine VL.to (fun _ _ h => h) ?_
                refine VC.keep [0] rfl ?_
                cases hS
                exact VC.ret (fin1 (.inr rfl) rfl rfl () rfl trivial (fun _ _ => trivial) (fun _ _ => trivial))
            ·
              replace hS := it_f h48 hS
              refine VL.gn rfl rfl rfl (by decide) ?_
              refine VL.gn rfl rfl rfl (by decide) ?_
              refine VL.gn rfl rfl rfl (by decide) ?_
              refine VL.gn rfl rfl rfl (by decide) ?_
              refine VL.gn rfl rfl rfl (by decide) ?_
              refine VL.q (q_pick_f rfl rfl) (by decide) ?_
              refine VL.q (q_move rfl) (by decide) ?_
              refine VL.gn rfl rfl rfl (by decide) ?_
              refine VL.gn rfl rfl rfl (by decide) ?_
              refine VL.gn rfl rfl rfl (by decide) ?_
              refine VL.gn rfl rfl rfl (by decide) ?_
              refine VL.q (q_pick_f rfl rfl) (by decide) ?_
              refine VL.q (q_move rfl) (by decide) ?_
              refine VL.gn rfl rfl rfl (by decide) ?_
              refine VL.gn rfl rfl rfl (by decide) ?_
              refine VL.gn rfl rfl rfl (by decide) ?_
              refine VL.gn rfl rfl rfl (by decide) ?_
              refine VL.q (q_pick_f rfl rfl) (by decide) ?_
              refine VL.q (q_assign rfl) (by decide) ?_
              refine VL.to (fun _ _ h => h) ?_
              refine VC.keep [0] rfl ?_
              cases hS
              exact VC.ret (fin1 (.inr rfl) rfl rfl () rfl trivial (fun _ _ => trivial) (fun _ _ => trivial))
          ·
            replace hS := it_f h43 hS
            refine VL.gn rfl rfl rfl (by decide) ?_
            refine VL.gn rfl rfl rfl (by decide) ?_
            refine VL.gn rfl rfl rfl (by decide) ?_
            refine VL.q (q_pick_f rfl rfl) (by decide) ?_
            refine VL.q (q_move rfl) (by decide) ?_
            refine VL.gn rfl rfl rfl (by decide) ?_
            refine VL.gn rfl rfl rfl (by decide) ?_
            refine VL.gn rfl rfl rfl (by decide) ?_
            refine VL.gn rfl rfl rfl (by decide) ?_
            refine VL.gn rfl rfl rfl (by decide) ?_
            refine VL.q (q_pick_f rfl rfl) (by decide) ?_
            refine VL.q (q_move rfl) (by decide) ?_
            refine VL.gn rfl rfl rfl (by decide) ?_
            refine VL.gn rfl rfl rfl (by decide) ?_
            refine VL.gn rfl rfl rfl (by decide) ?_
            refine VL.gn rfl rfl rfl (by decide) ?_
            refine VL.q (q_pick_f rfl rfl) (by decide) ?_
            refine VL.q (q_move rfl) (by decide) ?_
            refine VL.gn rfl rfl rfl (by decide) ?_
            refine VL.gn rfl rfl rfl (by decide) ?_
            refine VL.gn rfl rfl rfl (by decide) ?_
            refine VL.gn rfl rfl rfl (by decide) ?_
            refine VL.q (q_pick_f rfl rfl) (by decide) ?_
            refine VL.q (q_assign rfl) (by decide) ?_
            refine VL.to (fun _ _ h => h) ?_
            refine VC.keep [0] rfl ?_
            cases hS
            exact VC.ret (fin1 (.inr rfl) rfl rfl () rfl trivial (fun _ _ => trivial) (fun _ _ => trivial))
        ·
          replace hS := it_f h38 hS
          refine VL.gn rfl rfl rfl (by decide) ?_
          refine VL.gn rfl rfl rfl (by decide) ?_
          refine VL.gn rfl rfl rfl (by decide) ?_
          refine VL.q (q_pick_f rfl rfl) (by decide) ?_
          refine VL.q (q_move rfl) (by decide) ?_
          refine VL.gn rfl rfl rfl (by decide) ?_
          refine VL.gn rfl rfl rfl (by decide) ?_
          refine VL.gn rfl rfl rfl (by decide) ?_
          refine VL.q (q_pick_f rfl rfl) (by decide) ?_
          refine VL.q (q_move rfl) (by decide) ?_
          refine VL.gn rfl rfl rfl (by decide) ?_
          refine VL.gn rfl rfl rfl (by decide) ?_
          refine VL.gn rfl rfl rfl (by decide) ?_
          refine VL.gn rfl rfl rfl (by decide) ?_
          refine VL.gn rfl rfl rfl (by decide) ?_
          refine VL.q (q_pick_f rfl rfl) (by decide) ?_
          refine VL.q (q_move rfl) (by decide) ?_
          refine VL.gn rfl rfl rfl (by decide) ?_
          refine VL.gn rfl rfl rfl (by decide) ?_
          refine VL.gn rfl rfl rfl (by decide) ?_
          refine VL.gn rfl rfl rfl (by decide) ?_
          refine VL.q (q_pick_f rfl rfl) (by decide) ?_
          refine VL.q (q_move rfl) (by decide) ?_
          refine VL.gn rfl rfl rfl (by decide) ?_
          refine VL.gn rfl rfl rfl (by decide) ?_
          refine VL.gn rfl rfl rfl (by decide) ?_
          refine VL.gn rfl rfl rfl (by decide) ?_
          refine VL.q (q_pick_f rfl rfl) (by decide) ?_
          refine VL.q (q_assign rfl) (by decide) ?_
          refine VL.to (fun _ _ h => h) ?_
          refine VC.keep [0] rfl ?_
          cases hS
          exact VC.ret (fin1 (.inr rfl) rfl rfl () rfl trivial (fun _ _ => trivial) (fun _ _ => trivial))
      ·
        replace hS := it_f h31 hS
        refine VL.gn rfl rfl rfl (by decide) ?_
        refine VL.gn rfl rfl rfl (by decide) ?_
        refine VL.gn rfl rfl rfl (by decide) ?_
        refine VL.gn rfl rfl rfl (by decide) ?_
        refine VL.gn rfl rfl rfl (by decide) ?_
        refine VL.q (q_pick_f rfl rfl) (by decide) ?_
        refine VL.q (q_move rfl) (by decide) ?_
        refine VL.gn rfl rfl rfl (by decide) ?_
        refine VL.gn rfl rfl rfl (by decide) ?_
        refine VL.gn rfl rfl rfl (by decide) ?_
        refine VL.q (q_pick_f rfl rfl) (by decide) ?_
        refine VL.q (q_move rfl) (by decide) ?_
        refine VL.gn rfl rfl rfl (by decide) ?_
        refine VL.gn rfl rfl rfl (by decide) ?_
        refine VL.gn rfl rfl rfl (by decide) ?_
        refine VL.q (q_pick_f rfl rfl) (by decide) ?_
        refine VL.q (q_move rfl) (by decide) ?_
        refine VL.gn rfl rfl rfl (by decide) ?_
        refine VL.gn rfl rfl rfl (by decide) ?_
        refine VL.gn rfl rfl rfl (by decide) ?_
        refine VL.gn rfl rfl rfl (by decide) ?_
        refine VL.gn rfl rfl rfl (by decide) ?_
        refine VL.q (q_pick_f rfl rfl) (by decide) ?_
        refine VL.q (q_move rfl) (by decide) ?_
        refine VL.gn rfl rfl rfl (by decide) ?_
        refine VL.gn rfl rfl rfl (by decide) ?_
        refine VL.gn rfl rfl rfl (by decide) ?_
        refine VL.gn rfl rfl rfl (by decide) ?_
        refine VL.q (q_pick_f rfl rfl) (by decide) ?_
        refine VL.q (q_move rfl) (by decide) ?_
        refine VL.gn rfl rfl rfl (by decide) ?_
        refine VL.gn rfl rfl rfl (by decide) ?_
        refine VL.gn rfl rfl rfl (by decide) ?_
        refine VL.gn rfl rfl rfl (by decide) ?_
        refine VL.q (q_pick_f rfl rfl) (by decide) ?_
        refine VL.q (q_assign rfl) (by decide) ?_
        refine VL.to (fun _ _ h => h) ?_
        refine VC.keep [0] rfl ?_
        cases hS
        exact VC.ret (fin1 (.inr rfl) rfl rfl () rfl trivial (fun _ _ => trivial) (fun _ _ => trivial))
    ·
      replace hS := it_t h26 hS
      refine VL.gn rfl rfl rfl (by decide) ?_
      refine VL.gn rfl rfl rfl (by decide) ?_
      refine VL.gn rfl rfl rfl (by decide) ?_
      refine VL.q (q_pick_f rfl rfl) (by decide) ?_
      refine VL.q (q_move rfl) (by decide) ?_
      refine VL.gn rfl rfl rfl (by decide) ?_
      refine VL.gn rfl rfl rfl (by decide) ?_
      refine VL.gn rfl rfl rfl (by decide) ?_
      refine VL.gn rfl rfl rfl (by decide) ?_
      refine VL.gn rfl rfl rfl (by decide) ?_
      refine VL.q (q_pick_f rfl rfl) (by decide) ?_
      refine VL.q (q_move rfl) (by decide) ?_
      refine VL.gn rfl rfl rfl (by decide) ?_
      refine VL.gn rfl rfl rfl (by decide) ?_
      refine VL.gn rfl rfl rfl (by decide) ?_
      refine VL.q (q_pick_f rfl rfl) (by decide) ?_
      refine VL.q (q_move rfl) (by decide) ?_
      refine VL.gn rfl rfl rfl (by decide) ?_
      refine VL.gn rfl rfl rfl (by decide) ?_
      refine VL.gn rfl rfl rfl (by decide) ?_
      refine VL.q (q_pick_f rfl rfl) (by decide) ?_
      refine VL.q (q_move rfl) (by decide) ?_
      refine VL.gn rfl rfl rfl (by decide) ?_
      refine VL.gn rfl rfl rfl (by decide) ?_
      refine VL.gn rfl rfl rfl (by decide) ?_
      refine VL.gn rfl rfl rfl (by decide) ?_
      refine VL.gn rfl rfl rfl (by decide) ?_
      refine VL.q (q_pick_f rfl rfl) (by decide) ?_
      refine VL.q (q_move rfl) (by decide) ?_
      refine VL.gn rfl rfl rfl (by decide) ?_
      refine VL.gn rfl rfl rfl (by decide) ?_
      refine VL.gn rfl rfl rfl (by decide) ?_
      refine VL.gn rfl rfl rfl (by decide) ?_
      refine VL.q (q_pick_f rfl rfl) (by decide) ?_
      refine VL.q (q_move rfl) (by decide) ?_
      refine VL.gn rfl rfl rfl (by decide) ?_
      refine VL.gn rfl rfl rfl (by decide) ?_
      refine VL.gn rfl rfl rfl (by decide) ?_
      refine VL.gn rfl rfl rfl (by decide) ?_
      refine VL.q (q_pick_f rfl rfl) (by decide) ?_
      refine VL.q (q_assign rfl) (by decide) ?_
      refine VL.to (fun _ _ h => h) ?_
      refine VC.keep [0] rfl ?_
      cases hS
      exact VC.ret (fin1 (.inr rfl) rfl rfl () rfl trivial (fun _ _ => trivial) (fun _ _ => trivial))
  ·
    replace hS := it_f h22 hS
    refine VL.gn rfl rfl rfl (by decide) ?_
    refine VL.gn rfl rfl rfl (by decide) ?_
    refine VL.q (q_pick_f rfl rfl) (by decide) ?_
    refine VL.q (q_move rfl) (by decide) ?_
    refine VL.gn rfl rfl rfl (by decide) ?_
    refine VL.gn rfl rfl rfl (by decide) ?_
    refine VL.gn rfl rfl rfl (by decide) ?_
    refine VL.q (q_pick_f rfl rfl) (by decide) ?_
    refine VL.q (q_move rfl) (by decide) ?_
    refine VL.gn rfl rfl rfl (by decide) ?_
    refine VL.gn rfl rfl rfl (by decide) ?_
    refine VL.gn rfl rfl rfl (by decide) ?_
    refine VL.gn rfl rfl rfl (by decide) ?_
    refine VL.gn rfl rfl rfl (by decide) ?_
    refine VL.q (q_pick_f rfl rfl) (by decide) ?_
    refine VL.q (q_move rfl) (by decide) ?_
    refine VL.gn rfl rfl rfl (by decide) ?_
    refine VL.gn rfl rfl rfl (by decide) ?_
    refine VL.gn rfl rfl rfl (by decide) ?_
    refine VL.q (q_pick_f rfl rfl) (by decide) ?_
    refine VL.q (q_move rfl) (by decide) ?_
    refine VL.gn rfl rfl rfl (by decide) ?_
    refine VL.gn rfl rfl rfl (by decide) ?_
    refine VL.gn rfl rfl rfl (by decide) ?_
    refine VL.q (q_pick_f rfl rfl) (by decide) ?_
    refine VL.q (q_move rfl) (by decide) ?_
    refine VL.gn rfl rfl rfl (by decide) ?_
    refine VL.gn rfl rfl rfl (by decide) ?_
    refine VL.gn rfl rfl rfl (by decide) ?_
    refine VL.gn rfl rfl rfl (by decide) ?_
    refine VL.gn rfl rfl rfl (by decide) ?_
    refine VL.q (q_pick_f rfl rfl) (by decide) ?_
    refine VL.q (q_move rfl) (by decide) ?_
    refine VL.gn rfl rfl rfl (by decide) ?_
    refine VL.gn rfl rfl rfl (by decide) ?_
    refine VL.gn rfl rfl rfl (by decide) ?_
    refine VL.gn rfl rfl rfl (by decide) ?_
    refine VL.q (q_pick_f rfl rfl) (by decide) ?_
    refine VL.q (q_move rfl) (by decide) ?_
    refine VL.gn rfl rfl rfl (by decide) ?_
    refine VL.gn rfl rfl rfl (by decide) ?_
    refine VL.gn rfl rfl rfl (by decide) ?_
    refine VL.gn rfl rfl rfl (by decide) ?_
    refine VL.q (q_pick_f rfl rfl) (by decide) ?_
    refine VL.q (q_assign rfl) (by decide) ?_
    refine VL.to (fun _ _ h => h) ?_
    refine VC.keep [0] rfl ?_
    cases hS
    exact VC.ret (fin1 (.inr rfl) rfl rfl () rfl trivial (fun _ _ => trivial) (fun _ _ => trivial))

set_option maxHeartbeats 4000000 in
set_option maxRecDepth 100000 in
theorem rectoref17_Check_ct (a_0 : Sv (Sv Int)) {r : Int} (hS : Sh.rectoref17_Check (a_0.l.map Sv.l) = some r) :
    Ct Tryd.prog 15 [a_0.val] a_0.ok (Ow.emp) (X := Unit) (fun _ => i64 r) (fun _ => True) (fun _ => Mo.tt) (fun _ => Ow.emp) := by
  refine Ct.of Tryd.func15 rfl (by kernel_rfl) Tryd.ntmps15 (by simp) fun c => ?_
  unfold Sh.rectoref17_Check at hS
  refine VC.seq ?_
  refine VC.region ?_
  refine VL.q (q_assign rfl) (by decide) ?_
  refine VL.to (fun _ _ h => h) ?_
  refine VC.seq ?_
  refine VC.seq ?_
  refine VC.region ?_
  refine VL.q (q_move rfl) (by decide) ?_
  refine VL.q (q_lnm Sv.l (s := a_0) Tryd.underlying35 rfl) (by decide) ?_
  refine VL.q (q_gtr rfl rfl) (by decide) ?_
  refine VL.to (fun _ _ h => h) ?_
  refine VC.cond_dec rfl (fun h7 => ?_) (fun h7 => ?_)
  ·
    replace hS := it_t h7 hS
    refine VC.seq ?_
    refine VC.region ?_
    refine VL.q (q_assign rfl) (by decide) ?_
    refine VL.to (fun _ _ h => h) ?_
    cases hS
    exact VC.ret (fin1 (.inr rfl) rfl rfl () rfl trivial (fun _ _ => trivial) (fun _ _ => trivial))
  ·
    replace hS := it_f h7 hS
    refine VC.skip_to (fun _ _ h => h) ?_
    refine VC.seq ?_
    refine VC.seq ?_
    refine VC.region ?_
    refine VL.q (q_assign rfl) (by decide) ?_
    refine VL.to (fun _ _ h => h) ?_
    refine VC.block ?_
    refine VC.iter (S := Int) (fun (x3_1 : Int) => x3_1) (fun (x3_1 : Int) => [(0, a_0.val), (3, i64 x3_1)]) (fun (x3_1 : Int) => Mo.tt) (fun (x3_1 : Int) => Ow.emp) 0 [0, 3] hS rfl ?_
    clear hS
    rintro x3_1 m1 y1 hS hK1
    show VC _ _ _ _ _ [(0, a_0.val), (3, i64 x3_1)] (Mo.and Mo.tt _) (Ow.emp)
    refine VC.seq ?_
    refine VC.seq ?_
    refine VC.region ?_
    refine VL.q (q_move rfl) (by decide) ?_
    refine VL.q (q_move rfl) (by decide) ?_
    refine VL.q (q_lnm Sv.l (s := a_0) Tryd.underlying35 rfl) (by decide) ?_
    refine VL.q (q_lss rfl rfl) (by decide) ?_
    refine VL.to (fun _ _ h => h) ?_
    refine VC.cond_dec rfl (fun h11 => ?_) (fun h11 => ?_)
    ·
      replace hS := it_t h11 hS
      refine VC.skip_to (fun _ _ h => h) ?_
      refine VC.cutJ (S := Unit) (fun (_ : Unit) => ()) (fun (_ : Unit) => [(0, a_0.val), (3, i64 x3_1)]) (fun (_ : Unit) => Mo.tt) (fun (_ : Unit) => Ow.emp) hS ?_ ?_
      · -- up to where ways meet
        clear hS
        intro k2 hS
        refine VC.block ?_
        refine VC.seq ?_
        refine VC.seq ?_
        refine VC.region ?_
        refine VL.q (q_move rfl) (by decide) ?_
        refine VL.q (q_move rfl) (by decide) ?_
        obtain ⟨z16_3, nz16_3, hz16_3, hS⟩ := atm_s hS
        refine VL.deep z16_3.ok hz16_3 (fun _ q => q) ?_
        refine VL.q (q_ixm (s := a_0) Tryd.underlying35 gsz24 rfl rfl nz16_3 (lt_of_get nz16_3 hz16_3)) (by decide) ?_
        refine VL.q (q_el (s := a_0) gone24 rfl hz16_3 rfl) (by decide) ?_
        refine VL.q (q_ln (s := z16_3) Tryd.underlying24 rfl) (by decide) ?_
        refine VL.q (q_gtr rfl rfl) (by decide) ?_
        refine VL.to (fun _ _ h => h) ?_
        refine VC.keep [0, 3, 19] rfl ?_
        refine VC.cond_dec rfl (fun h19 => ?_) (fun h19 => ?_)
        ·
          replace hS := it_t h19 hS
          refine VC.seq ?_
          refine VC.region ?_
          refine VL.q (q_assign rfl) (by decide) ?_
          refine VL.to (fun _ _ h => h) ?_
          replace hS := up2 hS hK1
          cases hS
          exact VC.ret (fin1 (.inr rfl) rfl rfl () rfl trivial (fun _ _ => trivial) (fun _ _ => trivial))
        ·
          replace hS := it_f h19 hS
          refine VC.skip_to (fun _ _ h => h) ?_
          refine VC.seq ?_
          refine VC.seq ?_
          refine VC.region ?_
          refine VL.q (q_assign rfl) (by decide) ?_
          refine VL.to (fun _ _ h => h) ?_
          refine VC.block ?_
          refine VC.iter (S := Int) (fun (x4_4 : Int) => x4_4) (fun (x4_4 : Int) => [(0, a_0.val), (3, i64 x3_1), (4, i64 x4_4)]) (fun (x4_4 : Int) => Mo.tt) (fun (x4_4 : Int) => Ow.emp) 0 [0, 3, 4] hS rfl ?_
          clear hS
          rintro x4_4 m2 y2 hS hK2
          show VC _ _ _ _ _ [(0, a_0.val), (3, i64 x3_1), (4, i64 x4_4)] (Mo.and Mo.tt _) (Ow.emp)
          refine VC.seq ?_
          refine VC.seq ?_
          refine VC.region ?_
          refine VL.q (q_move rfl) (by decide) ?_
          refine VL.q (q_move rfl) (by decide) ?_
          refine VL.q (q_move rfl) (by decide) ?_
          obtain ⟨z23_5, nz23_5, hz23_5, hS⟩ := atm_s hS
          refine VL.deep z23_5.ok hz23_5 (fun _ q => q) ?_
          refine VL.q (q_ixm (s := a_0) Tryd.underlying35 gsz24 rfl rfl nz23_5 (lt_of_get nz23_5 hz23_5)) (by decide) ?_
          refine VL.q (q_el (s := a_0) gone24 rfl hz23_5 rfl) (by decide) ?_
          refine VL.q (q_ln (s := z23_5) Tryd.underlying24 rfl) (by decide) ?_
          refine VL.q (q_lss rfl rfl) (by decide) ?_
          refine VL.to (fun _ _ h => h) ?_
          refine VC.cond_dec rfl (fun h26 => ?_) (fun h26 => ?_)
          ·
            replace hS := it_t h26 hS
            refine VC.skip_to (fun _ _ h => h) ?_
            refine VC.seq ?_
            refine VC.block ?_
            refine VC.cutJ (S := Bool) (fun (x47_6 : Bool) => x47_6) (fun (x47_6 : Bool) => [(0, a_0.val), (3, i64 x3_1), (4, i64 x4_4), (47, .bool x47_6)]) (fun (x47_6 : Bool) => Mo.tt) (fun (x47_6 : Bool) => Ow.emp) hS ?_ ?_
            · -- up to where ways meet
              clear hS
              intro k7 hS
              refine VC.region ?_
              refine VL.q (q_move rfl) (by decide) ?_
              refine VL.q (q_move rfl) (by decide) ?_
              obtain ⟨z31_8, nz31_8, hz31_8, hS⟩ := atm_s hS
              refine VL.deep z31_8.ok hz31_8 (fun _ q => q) ?_
              refine VL.q (q_ixm (s := a_0) Tryd.underlying35 gsz24 rfl rfl nz31_8 (lt_of_get nz31_8 hz31_8)) (by decide) ?_
              refine VL.q (q_el (s := a_0) gone24 rfl hz31_8 rfl) (by decide) ?_
              refine VL.q (q_move rfl) (by decide) ?_
              obtain ⟨z34_9, nz34_9, hz34_9, hS⟩ := at_s hS
              refine VL.q (q_ixm (s := z31_8) Tryd.underlying24 gsz3 rfl rfl nz34_9 (lt_of_get nz34_9 hz34_9)) (by decide) ?_
              refine VL.q (q_el (s := z31_8) gone3 rfl hz34_9 rfl) (by decide) ?_
              refine VL.q (q_lss rfl rfl) (by decide) ?_
              refine VL.q (q_move rfl) (by decide) ?_
              refine VL.split_dec 37 rfl (fun h37 => ?_) (fun h37 => ?_)
              ·
                replace hS := it_t h37 hS
                refine VL.gn rfl rfl rfl (by decide) ?_
                refine VL.gn rfl rfl rfl (by decide) ?_
                refine VL.gn rfl rfl rfl (by decide) ?_
                refine VL.gn rfl rfl rfl (by decide) ?_
                refine VL.gn rfl rfl rfl (by decide) ?_
                refine VL.gn rfl rfl rfl (by decide) ?_
                refine VL.gn rfl rfl rfl (by decide) ?_
                refine VL.gn rfl rfl rfl (by decide) ?_
                refine VL.gn rfl rfl rfl (by decide) ?_
                refine VL.q (q_pick_t rfl rfl) (by decide) ?_
                refine VL.mt true [0, 3, 4, 47] (fun _ _ h => h) hS rfl
              ·
                replace hS := it_f h37 hS
                refine VL.gy rfl rfl (q_move rfl) (by decide) ?_
                refine VL.gy rfl rfl (q_move rfl) (by decide) ?_
                obtain ⟨z40_10, nz40_10, hz40_10, hS⟩ := atm_s hS
                refine VL.deep z40_10.ok hz40_10 (fun _ q => q) ?_
                refine VL.gy rfl rfl (q_ixm (s := a_0) Tryd.underlying35 gsz24 rfl rfl nz40_10 (lt_of_get nz40_10 hz40_10)) (by decide) ?_
                refine VL.gy rfl rfl (q_el (s := a_0) gone24 rfl hz40_10 rfl) (by decide) ?_
                refine VL.gy rfl rfl (q_move rfl) (by decide) ?_
                obtain ⟨z43_11, nz43_11, hz43_11, hS⟩ := at_s hS
                refine VL.gy rfl rfl (q_ixm (s := z40_10) Tryd.underlying24 gsz3 rfl rfl nz43_11 (lt_of_get nz43_11 hz43_11)) (by decide) ?_
                refine VL.gy rfl rfl (q_el (s := z40_10) gone3 rfl hz43_11 rfl) (by decide) ?_
                refine VL.gy rfl rfl (q_move rfl) (by decide) ?_
                refine VL.gy rfl rfl (q_gtr rfl rfl) (by decide) ?_
                refine VL.q (q_pick_f rfl rfl) (by decide) ?_
                refine VL.mt (decide (x3_1 < z43_11)) [0, 3, 4, 47] (fun _ _ h => h) hS rfl
            · -- from there
              clear hS
              rintro x47_6 hS
              show VC _ _ _ _ _ [(0, a_0.val), (3, i64 x3_1), (4, i64 x4_4), (47, .bool x47_6)] (Mo.and Mo.tt _) (Ow.emp)
              refine VC.cond rfl (fun h47 => ?_) (fun h47 => ?_)
              ·
                replace hS := it_t h47 hS
                refine VC.seq ?_
                refine VC.region ?_
                refine VL.q (q_assign rfl) (by decide) ?_
                refine VL.to (fun _ _ h => h) ?_
                replace hS := up2 hS hK2
                replace hS := up2 hS hK1
                cases hS
                exact VC.ret (fin1 (.inr rfl) rfl rfl () rfl trivial (fun _ _ => trivial) (fun _ _ => trivial))
              ·
                replace hS := it_b h47 hS
                refine VC.skip_to (fun _ _ h => h) ?_
                refine VC.region ?_
                refine VL.q (q_move rfl) (by decide) ?_
                obtain ⟨b28, hS⟩ := gd_s hS
                refine VL.q (q_add rfl rfl b28) (by decide) ?_
                refine VL.q (q_assign rfl) (by decide) ?_
                refine VL.rnd (x4_4 + 1) [0, 3, 4] (fun _ _ h => h) (go2 hS hK2) rfl
          ·
            replace hS := it_f h26 hS
            replace hS := up2 hS hK2
            refine VC.exit_to (fun _ _ h => h) ?_
            refine VC.cutJ (S := Bool) (fun (x68_12 : Bool) => x68_12) (fun (x68_12 : Bool) => [(0, a_0.val), (3, i64 x3_1), (68, .bool x68_12)]) (fun (x68_12 : Bool) => Mo.tt) (fun (x68_12 : Bool) => Ow.emp) hS ?_ ?_
            · -- up to where ways meet
              clear hS
              intro k13 hS
              refine VC.draw ((List.range 21).map fun k => (k, true)) mixed (by kernel_rfl) (by kernel_rfl) (by kernel_rfl) ?_
              refine VD.q rfl (q_move rfl) (by decide) ?_
              refine VD.q rfl (q_move rfl) (by decide) ?_
              obtain ⟨z50_14, nz50_14, hz50_14, hS⟩ := atm_s hS
              refine VD.deep z50_14.ok hz50_14 (fun _ q => q) ?_
              refine VD.q rfl (q_ixm (s := a_0) Tryd.underlying35 gsz24 rfl rfl nz50_14 (lt_of_get nz50_14 hz50_14)) (by decide) ?_
              refine VD.q rfl (q_el (s := a_0) gone24 rfl hz50_14 rfl) (by decide) ?_
              refine VD.q rfl (q_ln (s := z50_14) Tryd.underlying24 rfl) (by decide) ?_
              refine VD.q rfl (q_eql rfl rfl) (by decide) ?_
              refine VD.q rfl (q_move rfl) (by decide) ?_
              refine VD.split_dec 54 rfl (fun h54 => ?_) (fun h54 => ?_)
              ·
                replace hS := it_t h54 hS
                refine VD.gy rfl rfl rfl (q_move rfl) (by decide) ?_
                refine VD.gy rfl rfl rfl (q_move rfl) (by decide) ?_
                obtain ⟨z57_15, nz57_15, hz57_15, hS⟩ := atm_s hS
                refine VD.deep z57_15.ok hz57_15 (fun _ q => q) ?_
                refine VD.gy rfl rfl rfl (q_ixm (s := a_0) Tryd.underlying35 gsz24 rfl rfl nz57_15 (lt_of_get nz57_15 hz57_15)) (by decide) ?_
                refine VD.gy rfl rfl rfl (q_el (s := a_0) gone24 rfl hz57_15 rfl) (by decide) ?_
                obtain ⟨z59_16, nz59_16, hz59_16, hS⟩ := at_s hS
                refine VD.gy rfl rfl rfl (q_ixm (s := z57_15) Tryd.underlying24 gsz3 rfl rfl nz59_16 (lt_of_get nz59_16 hz59_16)) (by decide) ?_
                refine VD.gy rfl rfl rfl (q_el (s := z57_15) gone3 rfl hz59_16 rfl) (by decide) ?_
                refine VD.gy rfl rfl rfl (q_move rfl) (by decide) ?_
                refine VD.gy rfl rfl rfl (q_move rfl) (by decide) ?_
                obtain ⟨z63_17, nz63_17, hz63_17, hS⟩ := atm_s hS
                refine VD.deep z63_17.ok hz63_17 (fun _ q => q) ?_
                refine VD.gy rfl rfl rfl (q_ixm (s := a_0) Tryd.underlying35 gsz24 rfl rfl nz63_17 (lt_of_get nz63_17 hz63_17)) (by decide) ?_
                refine VD.gy rfl rfl rfl (q_el (s := a_0) gone24 rfl hz63_17 rfl) (by decide) ?_
                obtain ⟨z65_18, nz65_18, hz65_18, hS⟩ := at_s hS
                refine VD.gy rfl rfl rfl (q_ixm (s := z63_17) Tryd.underlying24 gsz3 rfl rfl nz65_18 (lt_of_get nz65_18 hz65_18)) (by decide) ?_
                refine VD.gy rfl rfl rfl (q_el (s := z63_17) gone3 rfl hz65_18 rfl) (by decide) ?_
                refine VD.gy rfl rfl rfl (q_eql rfl rfl) (by decide) ?_
                refine VD.q rfl (q_pick_t rfl rfl) (by decide) ?_
                refine VD.mt (decide (z59_16 = z65_18)) [0, 3, 68] (fun _ _ h => h) hS rfl
              ·
                replace hS := it_f h54 hS
                refine VD.gn rfl rfl rfl rfl (by decide) ?_
                refine VD.gn rfl rfl rfl rfl (by decide) ?_
                refine VD.gn rfl rfl rfl rfl (by decide) ?_
                refine VD.gn rfl rfl rfl rfl (by decide) ?_
                refine VD.gn rfl rfl rfl rfl (by decide) ?_
                refine VD.gn rfl rfl rfl rfl (by decide) ?_
                refine VD.gn rfl rfl rfl rfl (by decide) ?_
                refine VD.gn rfl rfl rfl rfl (by decide) ?_
                refine VD.gn rfl rfl rfl rfl (by decide) ?_
                refine VD.gn rfl rfl rfl rfl (by decide) ?_
                refine VD.gn rfl rfl rfl rfl (by decide) ?_
                refine VD.gn rfl rfl rfl rfl (by decide) ?_
                refine VD.gn rfl rfl rfl rfl (by decide) ?_
                refine VD.q rfl (q_pick_f rfl rfl) (by decide) ?_
                refine VD.mt false [0, 3, 68] (fun _ _ h => h) hS rfl
            · -- from there
              clear hS
              rintro x68_12 hS
              show VC _ _ _ _ _ [(0, a_0.val), (3, i64 x3_1), (68, .bool x68_12)] (Mo.and Mo.tt _) (Ow.emp)
              refine VC.cond rfl (fun h68 => ?_) (fun h68 => ?_)
              ·
                replace hS := it_t h68 hS
                refine VC.seq ?_
                refine VC.region ?_
                refine VL.q (q_assign rfl) (by decide) ?_
                refine VL.to (fun _ _ h => h) ?_
                replace hS := up2 hS hK1
                cases hS
                exact VC.ret (fin1 (.inr rfl) rfl rfl () rfl trivial (fun _ _ => trivial) (fun _ _ => trivial))
              ·
                replace hS := it_b h68 hS
                refine VC.skip_mt () [0, 3] (fun _ _ h => h) hS rfl
      · -- from there
        clear hS
        rintro _ hS
        show VC _ _ _ _ _ [(0, a_0.val), (3, i64 x3_1)] (Mo.and Mo.tt _) (Ow.emp)
        refine VC.region ?_
        refine VL.q (q_move rfl) (by decide) ?_
        obtain ⟨b13, hS⟩ := gd_s hS
        refine VL.q (q_add rfl rfl b13) (by decide) ?_
        refine VL.q (q_assign rfl) (by decide) ?_
        refine VL.rnd (x3_1 + 1) [0, 3] (fun _ _ h => h) (go2 hS hK1) rfl
    ·
      replace hS := it_f h11 hS
      replace hS := up2 hS hK1
      refine VC.exit_to (fun _ _ h => h) ?_
      refine VC.seq ?_
      refine VC.region ?_
      refine VL.q (q_assign rfl) (by decide) ?_
      refine VL.to (fun _ _ h => h) ?_
      cases hS
      exact VC.ret (fin1 (.inr rfl) rfl rfl () rfl trivial (fun _ _ => trivial) (fun _ _ => trivial))

set_option maxHeartbeats 4000000 in
set_option maxRecDepth 100000 in
theorem rectoref17_Marks_ct (a_0 : Sv (Sv Int)) (a_1 : Sv Int) {r : List Bool} (hS : Sh.rectoref17_Marks (a_0.l.map Sv.l) a_1.l = some r) :
    Ct Tryd.prog 91 [a_0.val, a_1.val] (a_0.ok.and a_1.ok) (Ow.emp) (X := Sv Bool) (fun x => x.val) (fun x => r = x.l) (fun x => Mo.tt) (fun x => Sv.own x 4) := by
  refine Ct.of Tryd.func91 rfl (by kernel_rfl) Tryd.ntmps91 (by simp) fun c => ?_
  unfold Sh.rectoref17_Marks at hS
  refine VC.seq ?_
  refine VC.region ?_
  refine VL.q (q_assign rfl) (by decide) ?_
  refine VL.to (fun _ _ h => h) ?_
  refine VC.seq ?_
  refine VC.region ?_
  refine VL.q (q_move rfl) (by decide) ?_
  refine VL.q (q_lnm Sv.l (s := a_0) Tryd.underlying35 rfl) (by decide) ?_
  obtain ⟨b11, hS⟩ := gd_s hS
  refine VL.make (α := Bool) (z := false) Tryd.underlying149 gmk4 (by decide) rfl rfl b11.1 (Int.le_refl _) (by omega) (by omega) (by decide) (fun s11_1 hs11_1 => ?_)
  replace hS := lt_to hs11_1 hS
  refine VL.q (q_assign rfl) (by decide) ?_
  refine VL.to (fun _ _ h => h) ?_
  refine VC.seq ?_
  refine VC.seq ?_
  refine VC.region ?_
  refine VL.q (q_assign rfl) (by decide) ?_
  refine VL.to (fun _ _ h => h) ?_
  refine VC.block ?_
  refine VC.iter (S := Sv Bool × Int) (fun sg => (sg.1.l, sg.2)) (fun sg => [(0, a_0.val), (1, a_1.val), (5, sg.1.val), (6, i64 sg.2)]) (fun sg => Mo.tt) (fun sg => Ow.star (Sv.own sg.1 4) (Ow.emp)) (s11_1, 0) [0, 1, 5, 6] hS rfl ?_
  clear hS
  rintro ⟨x5_3, x6_4⟩ m1 y1 hS hK1
  show VC _ _ _ _ _ [(0, a_0.val), (1, a_1.val), (5, x5_3.val), (6, i64 x6_4)] (Mo.and Mo.tt _) (Ow.star (Sv.own x5_3 4) (Ow.emp))
  refine VC.seq ?_
  refine VC.seq ?_
  refine VC.region ?_
  refine VL.q (q_move rfl) (by decide) ?_
  refine VL.q (q_move rfl) (by decide) ?_
  refine VL.q (q_ln (s := a_1) Tryd.underlying24 rfl) (by decide) ?_
  refine VL.q (q_lss rfl rfl) (by decide) ?_
  refine VL.to (fun _ _ h => h) ?_
  refine VC.cond_dec rfl (fun h15 => ?_) (fun h15 => ?_)
  ·
    replace hS := it_t h15 hS
    refine VC.skip_to (fun _ _ h => h) ?_
    refine VC.cutJ (S := Sv Bool) (fun (x5_5 : Sv Bool) => x5_5.l) (fun (x5_5 : Sv Bool) => [(0, a_0.val), (1, a_1.val), (5, x5_5.val), (6, i64 x6_4)]) (fun (x5_5 : Sv Bool) => Mo.tt) (fun (x5_5 : Sv Bool) => Ow.star (Sv.own x5_5 4) (Ow.emp)) hS ?_ ?_
    · -- up to where ways meet
      clear hS
      intro k6 hS
      refine VC.block ?_
      refine VC.cutJ (S := Bool) (fun (x31_7 : Bool) => x31_7) (fun (x31_7 : Bool) => [(0, a_0.val), (1, a_1.val), (5, x5_3.val), (6, i64 x6_4), (31, .bool x31_7)]) (fun (x31_7 : Bool) => Mo.tt) (fun (x31_7 : Bool) => Ow.star (Sv.own x5_3 4) (Ow.emp)) hS ?_ ?_
      · -- up to where ways meet
        clear hS
        intro k8 hS
        refine VC.region ?_
        refine VL.q (q_move rfl) (by decide) ?_
        refine VL.q (q_move rfl) (by decide) ?_
        obtain ⟨z20_9, nz20_9, hz20_9, hS⟩ := at_s hS
        refine VL.q (q_ixm (s := a_1) Tryd.underlying24 gsz3 rfl rfl nz20_9 (lt_of_get nz20_9 hz20_9)) (by decide) ?_
        refine VL.q (q_el (s := a_1) gone3 rfl hz20_9 rfl) (by decide) ?_
        refine VL.q (q_geq rfl rfl) (by decide) ?_
        refine VL.q (q_move rfl) (by decide) ?_
        refine VL.split_dec 23 rfl (fun h23 => ?_) (fun h23 => ?_)
        ·
          replace hS := it_t h23 hS
          refine VL.gy rfl rfl (q_move rfl) (by decide) ?_
          refine VL.gy rfl rfl (q_move rfl) (by decide) ?_
          obtain ⟨z26_10, nz26_10, hz26_10, hS⟩ := at_s hS
          refine VL.gy rfl rfl (q_ixm (s := a_1) Tryd.underlying24 gsz3 rfl rfl nz26_10 (lt_of_get nz26_10 hz26_10)) (by decide) ?_
          refine VL.gy rfl rfl (q_el (s := a_1) gone3 rfl hz26_10 rfl) (by decide) ?_
          refine VL.gy rfl rfl (q_move rfl) (by decide) ?_
          refine VL.gy rfl rfl (q_lnm Sv.l (s := a_0) Tryd.underlying35 rfl) (by decide) ?_
          refine VL.gy rfl rfl (q_leq rfl rfl) (by decide) ?_
          refine VL.q (q_pick_t rfl rfl) (by decide) ?_
          refine VL.mt (decide (z26_10 ≤ ((a_0.l.map Sv.l).length : Int))) [0, 1, 5, 6, 31] (fun _ _ h => h) hS rfl
        ·
          replace hS := it_f h23 hS
          refine VL.gn rfl rfl rfl (by decide) ?_
          refine VL.gn rfl rfl rfl (by decide) ?_
          refine VL.gn rfl rfl rfl (by decide) ?_
          refine VL.gn rfl rfl rfl (by decide) ?_
          refine VL.gn rfl rfl rfl (by decide) ?_
          refine VL.gn rfl rfl rfl (by decide) ?_
          refine VL.gn rfl rfl rfl (by decide) ?_
          refine VL.q (q_pick_f rfl rfl) (by decide) ?_
          refine VL.mt false [0, 1, 5, 6, 31] (fun _ _ h => h) hS rfl
      · -- from there
        clear hS
        rintro x31_7 hS
        show VC _ _ _ _ _ [(0, a_0.val), (1, a_1.val), (5, x5_3.val), (6, i64 x6_4), (31, .bool x31_7)] (Mo.and Mo.tt _) (Ow.star (Sv.own x5_3 4) (Ow.emp))
        refine VC.cond rfl (fun h31 => ?_) (fun h31 => ?_)
        ·
          replace hS := it_t h31 hS
          refine VC.region ?_
          refine VL.q (q_move rfl) (by decide) ?_
          refine VL.q (q_move rfl) (by decide) ?_
          refine VL.q (q_move rfl) (by decide) ?_
          obtain ⟨z35_11, nz35_11, hz35_11, hS⟩ := at_s hS
          refine VL.q (q_ixm (s := a_1) Tryd.underlying24 gsz3 rfl rfl nz35_11 (lt_of_get nz35_11 hz35_11)) (by decide) ?_
          refine VL.q (q_el (s := a_1) gone3 rfl hz35_11 rfl) (by decide) ?_
          obtain ⟨b37, hS⟩ := gd_s hS
          refine VL.q (q_sub rfl rfl b37) (by decide) ?_
          obtain ⟨z38_12, nz38_12, hz38_12, hS⟩ := at_s hS
          refine VL.q (q_ixo (s := x5_3) Tryd.underlying149 gsz4 rfl rfl nz38_12 (lt_of_get nz38_12 hz38_12)) (by decide) ?_
          refine VL.storeE (s := x5_3) (T := 4) (j := 0) (vc := [.bool true]) (true : Bool) (by decide) rfl rfl hz38_12 rfl gsz4 rfl rfl (Nat.le_of_ble_eq_true rfl) rfl (fun w13 hw13 haw13 hcw13 hvw13 hbw13 how13 => ?_)
          rw [← hvw13]
          replace hS := lt_to hw13 hS
          refine VL.mt w13 [0, 1, 5, 6] (fun _ _ h => h) hS rfl
        ·
          replace hS := it_b h31 hS
          refine VC.skip_mt x5_3 [0, 1, 5, 6] (fun _ _ h => h) hS rfl
    · -- from there
      clear hS
      rintro x5_5 hS
      show VC _ _ _ _ _ [(0, a_0.val), (1, a_1.val), (5, x5_5.val), (6, i64 x6_4)] (Mo.and Mo.tt _) (Ow.star (Sv.own x5_5 4) (Ow.emp))
      refine VC.region ?_
      refine VL.q (q_move rfl) (by decide) ?_
      obtain ⟨b17, hS⟩ := gd_s hS
      refine VL.q (q_add rfl rfl b17) (by decide) ?_
      refine VL.q (q_assign rfl) (by decide) ?_
      refine VL.rnd (x5_5, (x6_4 + 1)) [0, 1, 5, 6] (fun _ _ h => h) (go2 hS hK1) rfl
  ·
    replace hS := it_f h15 hS
    replace hS := up2 hS hK1
    refine VC.exit_to (fun _ _ h => h) ?_
    refine VC.seq ?_
    refine VC.seq ?_
    refine VC.region ?_
    refine VL.q (q_move rfl) (by decide) ?_
    refine VL.q (q_lnm Sv.l (s := a_0) Tryd.underlying35 rfl) (by decide) ?_
    obtain ⟨b41, hS⟩ := gd_s hS
    refine VL.q (q_sub rfl rfl b41) (by decide) ?_
    refine VL.q (q_assign rfl) (by decide) ?_
    refine VL.to (fun _ _ h => h) ?_
    refine VC.keep [0, 5, 7] rfl ?_
    refine VC.block ?_
    refine VC.iter (S := Sv Bool × Int) (fun sg => (sg.1.l, sg.2)) (fun sg => [(0, a_0.val), (5, sg.1.val), (7, i64 sg.2)]) (fun sg => Mo.tt) (fun sg => Ow.star (Sv.own sg.1 4) (Ow.emp)) (x5_3, (((a_0.l.map Sv.l).length : Int) - 1)) [0, 5, 7] hS rfl ?_
    clear hS
    rintro ⟨x5_15, x7_16⟩ m1 y1 hS hK1
    show VC _ _ _ _ _ [(0, a_0.val), (5, x5_15.val), (7, i64 x7_16)] (Mo.and Mo.tt _) (Ow.star (Sv.own x5_15 4) (Ow.emp))
    refine VC.seq ?_
    refine VC.seq ?_
    refine VC.region ?_
    refine VL.q (q_move rfl) (by decide) ?_
    refine VL.q (q_geq rfl rfl) (by decide) ?_
    refine VL.to (fun _ _ h => h) ?_
    refine VC.cond_dec rfl (fun h43 => ?_) (fun h43 => ?_)
    ·
      replace hS := it_t h43 hS
      refine VC.skip_to (fun _ _ h => h) ?_
      refine VC.cutJ (S := Sv Bool) (fun (x5_17 : Sv Bool) => x5_17.l) (fun (x5_17 : Sv Bool) => [(0, a_0.val), (5, x5_17.val), (7, i64 x7_16)]) (fun (x5_17 : Sv Bool) => Mo.tt) (fun (x5_17 : Sv Bool) => Ow.star (Sv.own x5_17 4) (Ow.emp)) hS ?_ ?_
      · -- up to where ways meet
        clear hS
        intro k18 hS
        refine VC.block ?_
        refine VC.seq ?_
        refine VC.region ?_
        refine VL.q (q_assign rfl) (by decide) ?_
        refine VL.to (fun _ _ h => h) ?_
        refine VC.block ?_
        refine VC.iter (S := Sv Bool × Int) (fun sg => (sg.1.l, sg.2)) (fun sg => [(0, a_0.val), (5, sg.1.val), (7, i64 x7_16), (8, i64 sg.2)]) (fun sg => Mo.tt) (fun sg => Ow.star (Sv.own sg.1 4) (Ow.emp)) (x5_15, 0) [0, 5, 7, 8] hS rfl ?_
        clear hS
        rintro ⟨x5_19, x8_20⟩ m2 y2 hS hK2
        show VC _ _ _ _ _ [(0, a_0.val), (5, x5_19.val), (7, i64 x7_16), (8, i64 x8_20)] (Mo.and Mo.tt _) (Ow.star (Sv.own x5_19 4) (Ow.emp))
        refine VC.seq ?_
        refine VC.seq ?_
        refine VC.region ?_
        refine VL.q (q_move rfl) (by decide) ?_
        refine VL.q (q_move rfl) (by decide) ?_
        refine VL.q (q_move rfl) (by decide) ?_
        obtain ⟨z49_21, nz49_21, hz49_21, hS⟩ := atm_s hS
        refine VL.deep z49_21.ok hz49_21 (fun _ q => q) ?_
        refine VL.q (q_ixm (s := a_0) Tryd.underlying35 gsz24 rfl rfl nz49_21 (lt_of_get nz49_21 hz49_21)) (by decide) ?_
        refine VL.q (q_el (s := a_0) gone24 rfl hz49_21 rfl) (by decide) ?_
        refine VL.q (q_ln (s := z49_21) Tryd.underlying24 rfl) (by decide) ?_
        refine VL.q (q_lss rfl rfl) (by decide) ?_
        refine VL.q (q_move rfl) (by decide) ?_
        refine VL.split_dec 53 rfl (fun h53 => ?_) (fun h53 => ?_)
        ·
          replace hS := it_t h53 hS
          refine VL.gy rfl rfl (q_move rfl) (by decide) ?_
          refine VL.gy rfl rfl (q_move rfl) (by decide) ?_
          obtain ⟨z56_22, nz56_22, hz56_22, hS⟩ := at_s hS
          refine VL.gy rfl rfl (q_ixo (s := x5_19) Tryd.underlying149 gsz4 rfl rfl nz56_22 (lt_of_get nz56_22 hz56_22)) (by decide) ?_
          refine VL.gy rfl rfl (q_elo (s := x5_19) 4 gone4 rfl hz56_22 rfl) (by decide) ?_
          refine VL.q (q_pick_t rfl rfl) (by decide) ?_
          refine VL.to (fun _ _ h => h) ?_
          refine VC.keep [0, 5, 7, 8, 58] rfl ?_
          refine VC.cond rfl (fun h58 => ?_) (fun h58 => ?_)
          ·
            replace hS := it_t h58 hS
            refine VC.skip_to (fun _ _ h => h) ?_
            refine VC.seq ?_
            refine VC.block ?_
            refine VC.region ?_
            refine VL.q (q_move rfl) (by decide) ?_
            refine VL.q (q_move rfl) (by decide) ?_
            refine VL.q (q_move rfl) (by decide) ?_
            obtain ⟨z64_23, nz64_23, hz64_23, hS⟩ := atm_s hS
            refine VL.deep z64_23.ok hz64_23 (fun _ q => q) ?_
            refine VL.q (q_ixm (s := a_0) Tryd.underlying35 gsz24 rfl rfl nz64_23 (lt_of_get nz64_23 hz64_23)) (by decide) ?_
            refine VL.q (q_el (s := a_0) gone24 rfl hz64_23 rfl) (by decide) ?_
            refine VL.q (q_move rfl) (by decide) ?_
            obtain ⟨z67_24, nz67_24, hz67_24, hS⟩ := at_s hS
            refine VL.q (q_ixm (s := z64_23) Tryd.underlying24 gsz3 rfl rfl nz67_24 (lt_of_get nz67_24 hz67_24)) (by decide) ?_
            refine VL.q (q_el (s := z64_23) gone3 rfl hz67_24 rfl) (by decide) ?_
            obtain ⟨b69, hS⟩ := gd_s hS
            refine VL.q (q_sub rfl rfl b69) (by decide) ?_
            obtain ⟨z70_25, nz70_25, hz70_25, hS⟩ := at_s hS
            refine VL.q (q_ixo (s := x5_19) Tryd.underlying149 gsz4 rfl rfl nz70_25 (lt_of_get nz70_25 hz70_25)) (by decide) ?_
            refine VL.storeE (s := x5_19) (T := 4) (j := 0) (vc := [.bool true]) (true : Bool) (by decide) rfl rfl hz70_25 rfl gsz4 rfl rfl (Nat.le_of_ble_eq_true rfl) rfl (fun w26 hw26 haw26 hcw26 hvw26 hbw26 how26 => ?_)
            rw [← hvw26]
            replace hS := lt_to hw26 hS
            refine VL.to (fun _ _ h => h) ?_
            refine VC.keep [0, 5, 7, 8] rfl ?_
            refine VC.region ?_
            refine VL.q (q_move rfl) (by decide) ?_
            obtain ⟨b60, hS⟩ := gd_s hS
            refine VL.q (q_add rfl rfl b60) (by decide) ?_
            refine VL.q (q_assign rfl) (by decide) ?_
            refine VL.rnd (w26, (x8_20 + 1)) [0, 5, 7, 8] (fun _ _ h => h) (go2 hS hK2) rfl
          ·
            replace hS := it_b h58 hS
            replace hS := up2 hS hK2
            refine VC.exit_mt x5_19 [0, 5, 7] (fun _ _ h => h) hS rfl
        ·
          replace hS := it_f h53 hS
          refine VL.gn rfl rfl rfl (by decide) ?_
          refine VL.gn rfl rfl rfl (by decide) ?_
          refine VL.gn rfl rfl rfl (by decide) ?_
          refine VL.gn rfl rfl rfl (by decide) ?_
          refine VL.q (q_pick_f rfl rfl) (by decide) ?_
          refine VL.to (fun _ _ h => h) ?_
          refine VC.keep [0, 5, 7, 8, 58] rfl ?_
          refine VC.cond_f rfl ?_
          replace hS := up2 hS hK2
          refine VC.exit_mt x5_19 [0, 5, 7] (fun _ _ h => h) hS rfl
      · -- from there
        clear hS
        rintro x5_17 hS
        show VC _ _ _ _ _ [(0, a_0.val), (5, x5_17.val), (7, i64 x7_16)] (Mo.and Mo.tt _) (Ow.star (Sv.own x5_17 4) (Ow.emp))
        refine VC.region ?_
        refine VL.q (q_move rfl) (by decide) ?_
        obtain ⟨b45, hS⟩ := gd_s hS
        refine VL.q (q_sub rfl rfl b45) (by decide) ?_
        refine VL.q (q_assign rfl) (by decide) ?_
        refine VL.rnd (x5_17, (x7_16 - 1)) [0, 5, 7] (fun _ _ h => h) (go2 hS hK1) rfl
    ·
      replace hS := it_f h43 hS
      replace hS := up2 hS hK1
      refine VC.exit_to (fun _ _ h => h) ?_
      refine VC.seq ?_
      refine VC.region ?_
      refine VL.q (q_move rfl) (by decide) ?_
      refine VL.q (q_assign rfl) (by decide) ?_
      refine VL.to (fun _ _ h => h) ?_
      cases hS
      exact VC.ret (fin1 (.inr rfl) rfl rfl x5_15 rfl rfl (by (try dsimp only); exact InM.out) (by (try dsimp only); exact EntO.out))

set_option maxHeartbeats 4000000 in
set_option maxRecDepth 100000 in
theorem rectoref17_rising_ct (in_0 : Sv Bool) {r : List Int} (hS : Sh.rectoref17_rising in_0.l = some r) :
    Ct Tryd.prog 92 [in_0.val] in_0.ok (Ow.emp) (X := Sv Int) (fun x => x.val) (fun x => r = x.l) (fun x => Mo.tt) (fun x => Sv.own x 3) := by
  refine Ct.of Tryd.func92 rfl (by kernel_rfl) Tryd.ntmps92 (by simp) fun c => ?_
  unfold Sh.rectoref17_rising at hS
  refine VC.seq ?_
  refine VC.region ?_
  refine VL.q (q_assign rfl) (by decide) ?_
  refine VL.to (fun _ _ h => h) ?_
  refine VC.seq ?_
  refine VC.region ?_
  refine VL.q (q_assign rfl) (by decide) ?_
  refine VL.to (fun _ _ h => h) ?_
  refine VC.seq ?_
  refine VC.seq ?_
  refine VC.region ?_
  refine VL.q (q_assign rfl) (by decide) ?_
  refine VL.to (fun _ _ h => h) ?_
  refine VC.block ?_
  refine VC.nilO (⟨none, 0, []⟩ : Sv Int) 3 ⟨rfl, rfl⟩ ?_
  refine VC.iter (S := Sv Int × Int) (fun sg => (sg.1.l, sg.2)) (fun sg => [(0, in_0.val), (3, sg.1.val), (4, i64 sg.2)]) (fun sg => Mo.tt) (fun sg => Ow.star (Sv.own sg.1 3) (Ow.emp)) (⟨none, 0, []⟩, 0) [0, 3, 4] hS rfl ?_
  clear hS
  rintro ⟨out3_1, i4_2⟩ m1 y1 hS hK1
  show VC _ _ _ _ _ [(0, in_0.val), (3, out3_1.val), (4, i64 i4_2)] (Mo.and Mo.tt _) (Ow.star (Sv.own out3_1 3) (Ow.emp))
  refine VC.seq ?_
  refine VC.seq ?_
  refine VC.region ?_
  refine VL.q (q_move rfl) (by decide) ?_
  refine VL.q (q_move rfl) (by decide) ?_
  refine VL.q (q_ln (s := in_0) Tryd.underlying149 rfl) (by decide) ?_
  refine VL.q (q_lss rfl rfl) (by decide) ?_
  refine VL.to (fun _ _ h => h) ?_
  refine VC.cond_dec rfl (fun h8 => ?_) (fun h8 => ?_)
  ·
    replace hS := it_t h8 hS
    refine VC.skip_to (fun _ _ h => h) ?_
    refine VC.cutJ (S := Sv Int) (fun (out3_3 : Sv Int) => out3_3.l) (fun (out3_3 : Sv Int) => [(0, in_0.val), (3, out3_3.val), (4, i64 i4_2)]) (fun (out3_3 : Sv Int) => Mo.tt) (fun (out3_3 : Sv Int) => Ow.star (Sv.own out3_3 3) (Ow.emp)) hS ?_ ?_
    · -- up to where ways meet
      clear hS
      intro k4 hS
      refine VC.block ?_
      refine VC.seq ?_
      refine VC.region ?_
      refine VL.q (q_move rfl) (by decide) ?_
      refine VL.q (q_move rfl) (by decide) ?_
      obtain ⟨z13_5, nz13_5, hz13_5, hS⟩ := at_s hS
      refine VL.q (q_ixm (s := in_0) Tryd.underlying149 gsz4 rfl rfl nz13_5 (lt_of_get nz13_5 hz13_5)) (by decide) ?_
      refine VL.q (q_el (s := in_0) gone4 rfl hz13_5 rfl) (by decide) ?_
      refine VL.to (fun _ _ h => h) ?_
      refine VC.keep [0, 3, 4, 14] rfl ?_
      refine VC.cond rfl (fun h14 => ?_) (fun h14 => ?_)
      ·
        replace hS := it_t h14 hS
        refine VC.region ?_
        refine VL.q (q_move rfl) (by decide) ?_
        refine VL.q (q_move rfl) (by decide) ?_
        obtain ⟨b17, hS⟩ := gd_s hS
        refine VL.q (q_add rfl rfl b17) (by decide) ?_
        refine VL.lit (α := Int) (xs := [.tmp 17]) (vs := [i64 (i4_2 + 1)]) [(i4_2 + 1)] Tryd.underlying24 glit3 (by decide) rfl rfl rfl rfl (by decide) (fun _ _ _ _ => trivial) (by decide) (fun s18_6 hs18_6 => ?_) (by decide)
        replace hS := lt_to hs18_6 hS
        obtain ⟨b19, hS⟩ := gd_s hS
        refine VL.app (s := out3_1) (r := s18_6) Tryd.underlying24 gapp3 (by decide) rfl Fo.out (ap1 b19) (ap2 b19 (by decide)) (by decide) (fun s19_8 hs19_8 => ?_)
        replace hS := lt_to hs19_8 hS
        refine VL.q (q_assign rfl) (by decide) ?_
        refine VL.mt s19_8 [0, 3, 4] (fun _ _ h => h) hS rfl
      ·
        replace hS := it_b h14 hS
        refine VC.skip_mt out3_1 [0, 3, 4] (fun _ _ h => h) hS rfl
    · -- from there
      clear hS
      rintro out3_3 hS
      show VC _ _ _ _ _ [(0, in_0.val), (3, out3_3.val), (4, i64 i4_2)] (Mo.and Mo.tt _) (Ow.star (Sv.own out3_3 3) (Ow.emp))
      refine VC.region ?_
      refine VL.q (q_move rfl) (by decide) ?_
      obtain ⟨b10, hS⟩ := gd_s hS
      refine VL.q (q_add rfl rfl b10) (by decide) ?_
      refine VL.q (q_assign rfl) (by decide) ?_
      refine VL.rnd (out3_3, (i4_2 + 1)) [0, 3, 4] (fun _ _ h => h) (go2 hS hK1) rfl
  ·
    replace hS := it_f h8 hS
    replace hS := up2 hS hK1
    refine VC.exit_to (fun _ _ h => h) ?_
    refine VC.seq ?_
    refine VC.region ?_
    refine VL.q (q_move rfl) (by decide) ?_
    refine VL.q (q_assign rfl) (by decide) ?_
    refine VL.to (fun _ _ h => h) ?_
    cases hS
    exact VC.ret (fin1 (.inr rfl) rfl rfl out3_1 rfl rfl (by (try dsimp only); exact InM.out) (by (try dsimp only); exact EntO.out))

set_option maxHeartbeats 4000000 in
set_option maxRecDepth 100000 in
theorem rectoref17_Only_ct (g_0 : Sv (Sv Int)) (a_1 : Int) (b_2 : Int) {r : List Int} (hS : Sh.rectoref17_Only (g_0.l.map Sv.l) a_1 b_2 = some r) :
    Ct Tryd.prog 48 [g_0.val, i64 a_1, i64 b_2] g_0.ok (Ow.emp) (X := Sv Int) (fun x => x.val) (fun x => r = x.l) (fun x => Mo.tt) (fun x => Sv.own x 3) := by
  refine Ct.of Tryd.func48 rfl (by kernel_rfl) Tryd.ntmps48 (by simp) fun c => ?_
  unfold Sh.rectoref17_Only at hS
  refine VC.seq ?_
  refine VC.region ?_
  refine VL.q (q_assign rfl) (by decide) ?_
  refine VL.to (fun _ _ h => h) ?_
  refine VC.seq ?_
  refine VC.region ?_
  refine VL.q (q_move rfl) (by decide) ?_
  refine VL.q (q_move rfl) (by decide) ?_
  refine VL.lit (α := Int) (xs := [.tmp 11]) (vs := [i64 a_1]) [a_1] Tryd.underlying24 glit3 (by decide) rfl rfl rfl rfl (by decide) (fun _ _ _ _ => trivial) (by decide) (fun s12_1 hs12_1 => ?_) (by decide)
  replace hS := lt_to hs12_1 hS
  obtain ⟨y13_3, ey13_3, hS⟩ := bd_s hS
  refine VL.callO (rectoref17_Marks_ct g_0 s12_1 ey13_3) rfl (by decide) ?_
  rintro q13_3_0 rfl
  try dsimp only
  refine VL.q (q_assign rfl) (by decide) ?_
  refine VL.to (fun _ _ h => h) ?_
  refine VC.seq ?_
  refine VC.region ?_
  refine VL.q (q_move rfl) (by decide) ?_
  refine VL.q (q_move rfl) (by decide) ?_
  refine VL.lit (α := Int) (xs := [.tmp 15]) (vs := [i64 b_2]) [b_2] Tryd.underlying24 glit3 (by decide) rfl rfl rfl rfl (by decide) (fun _ _ _ _ => trivial) (by decide) (fun s16_4 hs16_4 => ?_) (by decide)
  replace hS := lt_to hs16_4 hS
  obtain ⟨y17_6, ey17_6, hS⟩ := bd_s hS
  refine VL.callO (rectoref17_Marks_ct g_0 s16_4 ey17_6) rfl (by decide) ?_
  rintro q17_6_0 rfl
  try dsimp only
  refine VL.q (q_assign rfl) (by decide) ?_
  refine VL.to (fun _ _ h => h) ?_
  refine VC.keep [0, 7, 8] rfl ?_
  refine VC.seq ?_
  refine VC.seq ?_
  refine VC.region ?_
  refine VL.q (q_assign rfl) (by decide) ?_
  refine VL.to (fun _ _ h => h) ?_
  refine VC.block ?_
  refine VC.iter (S := Sv Bool × Int) (fun sg => (sg.1.l, sg.2)) (fun sg => [(0, g_0.val), (7, sg.1.val), (8, q17_6_0.val), (9, i64 sg.2)]) (fun sg => Mo.tt) (fun sg => Ow.star (Sv.own q17_6_0 4) (Ow.star (Sv.own sg.1 4) (Ow.emp))) (q13_3_0, 0) [0, 7, 8, 9] hS rfl ?_
  clear hS
  rintro ⟨x7_7, i9_8⟩ m1 y1 hS hK1
  show VC _ _ _ _ _ [(0, g_0.val), (7, x7_7.val), (8, q17_6_0.val), (9, i64 i9_8)] (Mo.and Mo.tt _) (Ow.star (Sv.own q17_6_0 4) (Ow.star (Sv.own x7_7 4) (Ow.emp)))
  refine VC.seq ?_
  refine VC.seq ?_
  refine VC.region ?_
  refine VL.q (q_move rfl) (by decide) ?_
  refine VL.q (q_move rfl) (by decide) ?_
  refine VL.q (q_lnm Sv.l (s := g_0) Tryd.underlying35 rfl) (by decide) ?_
  refine VL.q (q_lss rfl rfl) (by decide) ?_
  refine VL.to (fun _ _ h => h) ?_
  refine VC.cond_dec rfl (fun h21 => ?_) (fun h21 => ?_)
  ·
    replace hS := it_t h21 hS
    refine VC.skip_to (fun _ _ h => h) ?_
    refine VC.cutJ (S := Sv Bool) (fun (x7_9 : Sv Bool) => x7_9.l) (fun (x7_9 : Sv Bool) => [(0, g_0.val), (7, x7_9.val), (8, q17_6_0.val), (9, i64 i9_8)]) (fun (x7_9 : Sv Bool) => Mo.tt) (fun (x7_9 : Sv Bool) => Ow.star (Sv.own q17_6_0 4) (Ow.star (Sv.own x7_9 4) (Ow.emp))) hS ?_ ?_
    · -- up to where ways meet
      clear hS
      intro k10 hS
      refine VC.block ?_
      refine VC.region ?_
      refine VL.q (q_move rfl) (by decide) ?_
      refine VL.q (q_move rfl) (by decide) ?_
      refine VL.q (q_move rfl) (by decide) ?_
      refine VL.q (q_move rfl) (by decide) ?_
      obtain ⟨z28_11, nz28_11, hz28_11, hS⟩ := at_s hS
      refine VL.q (q_ixo (s := x7_7) Tryd.underlying149 gsz4 rfl rfl nz28_11 (lt_of_get nz28_11 hz28_11)) (by decide) ?_
      refine VL.q (q_elo (s := x7_7) 4 gone4 rfl hz28_11 rfl) (by decide) ?_
      refine VL.q (q_move rfl) (by decide) ?_
      refine VL.split 30 rfl (fun h30 => ?_) (fun h30 => ?_)
      ·
        replace hS := it_t h30 hS
        refine VL.gy rfl rfl (q_move rfl) (by decide) ?_
        refine VL.gy rfl rfl (q_move rfl) (by decide) ?_
        obtain ⟨z33_12, nz33_12, hz33_12, hS⟩ := at_s hS
        refine VL.gy rfl rfl (q_ixo (s := q17_6_0) Tryd.underlying149 gsz4 rfl rfl nz33_12 (lt_of_get nz33_12 hz33_12)) (by decide) ?_
        refine VL.gy rfl rfl (q_elo (s := q17_6_0) 4 gone4 rfl hz33_12 rfl) (by decide) ?_
        refine VL.gy rfl rfl (q_not rfl) (by decide) ?_
        refine VL.q (q_pick_t rfl rfl) (by decide) ?_
        obtain ⟨z37_13, nz37_13, hz37_13, hS⟩ := at_s hS
        refine VL.q (q_ixo (s := x7_7) Tryd.underlying149 gsz4 rfl rfl nz37_13 (lt_of_get nz37_13 hz37_13)) (by decide) ?_
        refine VL.storeE (s := x7_7) (T := 4) (j := 0) (vc := [.bool (!z33_12)]) ((!z33_12) : Bool) (by decide) rfl rfl hz37_13 rfl gsz4 rfl rfl (Nat.le_of_ble_eq_true rfl) rfl (fun w14 hw14 haw14 hcw14 hvw14 hbw14 how14 => ?_)
        rw [← hvw14]
        replace hS := lt_to hw14 hS
        refine VL.mt w14 [0, 7, 8, 9] (fun _ _ h => h) hS rfl
      ·
        replace hS := it_b h30 hS
        refine VL.gn rfl rfl rfl (by decide) ?_
        refine VL.gn rfl rfl rfl (by decide) ?_
        refine VL.gn rfl rfl rfl (by decide) ?_
        refine VL.gn rfl rfl rfl (by decide) ?_
        refine VL.gn rfl rfl rfl (by decide) ?_
        refine VL.q (q_pick_f rfl rfl) (by decide) ?_
        obtain ⟨z37_16, nz37_16, hz37_16, hS⟩ := at_s hS
        refine VL.q (q_ixo (s := x7_7) Tryd.underlying149 gsz4 rfl rfl nz37_16 (lt_of_get nz37_16 hz37_16)) (by decide) ?_
        refine VL.storeE (s := x7_7) (T := 4) (j := 0) (vc := [.bool false]) (false : Bool) (by decide) rfl rfl hz37_16 rfl gsz4 rfl rfl (Nat.le_of_ble_eq_true rfl) rfl (fun w17 hw17 haw17 hcw17 hvw17 hbw17 how17 => ?_)
        rw [← hvw17]
        replace hS := lt_to hw17 hS
        refine VL.mt w17 [0, 7, 8, 9] (fun _ _ h => h) hS rfl
    · -- from there
      clear hS
      rintro x7_9 hS
      show VC _ _ _ _ _ [(0, g_0.val), (7, x7_9.val), (8, q17_6_0.val), (9, i64 i9_8)] (Mo.and Mo.tt _) (Ow.star (Sv.own q17_6_0 4) (Ow.star (Sv.own x7_9 4) (Ow.emp)))
      refine VC.region ?_
      refine VL.q (q_move rfl) (by decide) ?_
      obtain ⟨b23, hS⟩ := gd_s hS
      refine VL.q (q_add rfl rfl b23) (by decide) ?_
      refine VL.q (q_assign rfl) (by decide) ?_
      refine VL.rnd (x7_9, (i9_8 + 1)) [0, 7, 8, 9] (fun _ _ h => h) (go2 hS hK1) rfl
  ·
    replace hS := it_f h21 hS
    replace hS := up2 hS hK1
    refine VC.exit_to (fun _ _ h => h) ?_
    refine VC.seq ?_
    refine VC.region ?_
    refine VL.q (q_move rfl) (by decide) ?_
    obtain ⟨y39_19, ey39_19, hS⟩ := bd_s hS
    refine VL.callOR (rectoref17_rising_ct x7_7 ey39_19) rfl (by decide) ?_
    rintro q39_19_0 rfl
    try dsimp only
    refine VL.q (q_assign rfl) (by decide) ?_
    refine VL.to (fun _ _ h => h) ?_
    refine VC.keep [6] rfl ?_
    cases hS
    exact VC.ret (fin1 (.inr rfl) rfl rfl q39_19_0 rfl rfl (by (try dsimp only); exact InM.out) (by (try dsimp only); exact EntO.out))

set_option maxHeartbeats 4000000 in
set_option maxRecDepth 100000 in
theorem rectoref17_Plain_ct (g_0 : Sv (Sv Int)) (onto_1 : Int) (from_2 : Int) {r : List Rectoref17Step} (hS : Sh.rectoref17_Plain (g_0.l.map Sv.l) onto_1 from_2 = some r) :
    Ct Tryd.prog 18 [g_0.val, i64 onto_1, i64 from_2] g_0.ok (Ow.emp) (X := Sv Rectoref17Step) (fun x => x.val) (fun x => r = x.l) (fun x => Mo.tt) (fun x => Sv.own x 94) := by
  refine Ct.of Tryd.func18 rfl (by kernel_rfl) Tryd.ntmps18 (by simp) fun c => ?_
  unfold Sh.rectoref17_Plain at hS
  refine VC.seq ?_
  refine VC.region ?_
  refine VL.q (q_assign rfl) (by decide) ?_
  refine VL.to (fun _ _ h => h) ?_
  refine VC.seq ?_
  refine VC.region ?_
  refine VL.q (q_move rfl) (by decide) ?_
  refine VL.q (q_move rfl) (by decide) ?_
  refine VL.q (q_move rfl) (by decide) ?_
  obtain ⟨y13_1, ey13_1, hS⟩ := bd_s hS
  refine VL.callO (rectoref17_Only_ct g_0 from_2 onto_1 ey13_1) rfl (by decide) ?_
  rintro q13_1_0 rfl
  try dsimp only
  refine VL.q (q_assign rfl) (by decide) ?_
  refine VL.to (fun _ _ h => h) ?_
  refine VC.seq ?_
  refine VC.region ?_
  refine VL.q (q_assign rfl) (by decide) ?_
  refine VL.to (fun _ _ h => h) ?_
  refine VC.seq ?_
  refine VC.seq ?_
  refine VC.region ?_
  refine VL.q (q_assign rfl) (by decide) ?_
  refine VL.to (fun _ _ h => h) ?_
  refine VC.keep [0, 7, 8, 9] rfl ?_
  refine VC.block ?_
  refine VC.nilO (⟨none, 0, []⟩ : Sv Rectoref17Step) 94 ⟨rfl, rfl⟩ ?_
  refine VC.iter (S := Sv Rectoref17Step × Int) (fun sg => (sg.1.l, sg.2)) (fun sg => [(0, g_0.val), (7, q13_1_0.val), (8, sg.1.val), (9, i64 sg.2)]) (fun sg => Mo.tt) (fun sg => Ow.star (Sv.own q13_1_0 3) (Ow.star (Sv.own sg.1 94) (Ow.emp))) (⟨none, 0, []⟩, 0) [0, 7, 8, 9] hS rfl ?_
  clear hS
  rintro ⟨out8_2, i9_3⟩ m1 y1 hS hK1
  show VC _ _ _ _ _ [(0, g_0.val), (7, q13_1_0.val), (8, out8_2.val), (9, i64 i9_3)] (Mo.and Mo.tt _) (Ow.star (Sv.own q13_1_0 3) (Ow.star (Sv.own out8_2 94) (Ow.emp)))
  refine VC.seq ?_
  refine VC.seq ?_
  refine VC.region ?_
  refine VL.q (q_move rfl) (by decide) ?_
  refine VL.q (q_move rfl) (by decide) ?_
  refine VL.q (q_ln (s := q13_1_0) Tryd.underlying24 rfl) (by decide) ?_
  refine VL.q (q_lss rfl rfl) (by decide) ?_
  refine VL.to (fun _ _ h => h) ?_
  refine VC.cond_dec rfl (fun h17 => ?_) (fun h17 => ?_)
  ·
    replace hS := it_t h17 hS
    refine VC.skip_to (fun _ _ h => h) ?_
    refine VC.cutJ (S := Sv Rectoref17Step) (fun (out8_4 : Sv Rectoref17Step) => out8_4.l) (fun (out8_4 : Sv Rectoref17Step) => [(0, g_0.val), (7, q13_1_0.val), (8, out8_4.val), (9, i64 i9_3)]) (fun (out8_4 : Sv Rectoref17Step) => Mo.tt) (fun (out8_4 : Sv Rectoref17Step) => Ow.star (Sv.own q13_1_0 3) (Ow.star (Sv.own out8_4 94) (Ow.emp))) hS ?_ ?_
    · -- up to where ways meet
      clear hS
      intro k5 hS
      refine VC.block ?_
      refine VC.seq ?_
      refine VC.region ?_
      refine VL.q (q_move rfl) (by decide) ?_
      refine VL.q (q_move rfl) (by decide) ?_
      refine VL.q (q_move rfl) (by decide) ?_
      obtain ⟨z23_6, nz23_6, hz23_6, hS⟩ := at_s hS
      refine VL.q (q_ixo (s := q13_1_0) Tryd.underlying24 gsz3 rfl rfl nz23_6 (lt_of_get nz23_6 hz23_6)) (by decide) ?_
      refine VL.q (q_elo (s := q13_1_0) 3 gone3 rfl hz23_6 rfl) (by decide) ?_
      obtain ⟨b25, hS⟩ := gd_s hS
      refine VL.q (q_sub rfl rfl b25) (by decide) ?_
      obtain ⟨z26_7, nz26_7, hz26_7, hS⟩ := atm_s hS
      refine VL.deep z26_7.ok hz26_7 (fun _ q => q) ?_
      refine VL.q (q_ixm (s := g_0) Tryd.underlying35 gsz24 rfl rfl nz26_7 (lt_of_get nz26_7 hz26_7)) (by decide) ?_
      refine VL.q (q_el (s := g_0) gone24 rfl hz26_7 rfl) (by decide) ?_
      refine VL.q (q_ln (s := z26_7) Tryd.underlying24 rfl) (by decide) ?_
      refine VL.q (q_lss rfl rfl) (by decide) ?_
      refine VL.to (fun _ _ h => h) ?_
      refine VC.keep [0, 7, 8, 9, 29] rfl ?_
      refine VC.cond_dec rfl (fun h29 => ?_) (fun h29 => ?_)
      ·
        replace hS := it_t h29 hS
        refine VC.region ?_
        refine VL.q (q_move rfl) (by decide) ?_
        refine VL.q (q_move rfl) (by decide) ?_
        refine VL.q (q_move rfl) (by decide) ?_
        obtain ⟨z33_8, nz33_8, hz33_8, hS⟩ := at_s hS
        refine VL.q (q_ixo (s := q13_1_0) Tryd.underlying24 gsz3 rfl rfl nz33_8 (lt_of_get nz33_8 hz33_8)) (by decide) ?_
        refine VL.q (q_elo (s := q13_1_0) 3 gone3 rfl hz33_8 rfl) (by decide) ?_
        refine VL.q (q_build (vs := [(0, str [112, 105, 99, 107]), (1, i64 z33_8)]) (cs := #[str [112, 105, 99, 107], i64 z33_8, str []]) rfl (by kernel_rfl)) (by decide) ?_
        refine VL.lit (α := Rectoref17Step) (xs := [.tmp 35]) (vs := [.agg #[str [112, 105, 99, 107], i64 z33_8, str []]]) [⟨[112, 105, 99, 107], z33_8, []⟩] Tryd.underlying41 glit94 (by decide) rfl rfl rfl rfl (by decide) (fun _ _ _ _ => trivial) (by decide) (fun s36_9 hs36_9 => ?_) (by decide)
        replace hS := lt_to hs36_9 hS
        obtain ⟨b37, hS⟩ := gd_s hS
        refine VL.app (s := out8_2) (r := s36_9) Tryd.underlying41 gapp94 (by decide) rfl Fo.out (ap1 b37) (ap2 b37 (by decide)) (by decide) (fun s37_11 hs37_11 => ?_)
        replace hS := lt_to hs37_11 hS
        refine VL.q (q_assign rfl) (by decide) ?_
        refine VL.mt s37_11 [0, 7, 8, 9] (fun _ _ h => h) hS rfl
      ·
        replace hS := it_f h29 hS
        refine VC.skip_mt out8_2 [0, 7, 8, 9] (fun _ _ h => h) hS rfl
    · -- from there
      clear hS
      rintro out8_4 hS
      show VC _ _ _ _ _ [(0, g_0.val), (7, q13_1_0.val), (8, out8_4.val), (9, i64 i9_3)] (Mo.and Mo.tt _) (Ow.star (Sv.own q13_1_0 3) (Ow.star (Sv.own out8_4 94) (Ow.emp)))
      refine VC.region ?_
      refine VL.q (q_move rfl) (by decide) ?_
      obtain ⟨b19, hS⟩ := gd_s hS
      refine VL.q (q_add rfl rfl b19) (by decide) ?_
      refine VL.q (q_assign rfl) (by decide) ?_
      refine VL.rnd (out8_4, (i9_3 + 1)) [0, 7, 8, 9] (fun _ _ h => h) (go2 hS hK1) rfl
  ·
    replace hS := it_f h17 hS
    replace hS := up2 hS hK1
    refine VC.exit_to (fun _ _ h => h) ?_
    refine VC.seq ?_
    refine VC.region ?_
    refine VL.q (q_move rfl) (by decide) ?_
    refine VL.q (q_assign rfl) (by decide) ?_
    refine VL.to (fun _ _ h => h) ?_
    cases hS
    exact VC.ret (fin1 (.inr rfl) rfl rfl out8_2 rfl rfl (by (try dsimp only); exact InM.out) (by (try dsimp only); exact EntO.out))

end Go.Proofs.YtnkoilkmnpmlmaaDoor
end

section
set_option linter.unusedVariables false
namespace Go.Proofs.YtnkoilkmnpmlmaaDoor
open Go.RowKit Go.V
open Go.S hiding Str
set_option maxHeartbeats 4000000 in
set_option maxRecDepth 100000 in
theorem rectolaw21_Same_ct (a_0 : Sv TodoStep) (b_1 : Sv Rectoref17Step) {r : Bool} (hS : Sh.rectolaw21_Same a_0.l b_1.l = some r) :
    Ct Tryd.prog 17 [a_0.val, b_1.val] (a_0.ok.and b_1.ok) (Ow.emp) (X := Unit) (fun _ => .bool r) (fun _ => True) (fun _ => Mo.tt) (fun _ => Ow.emp) := by
  refine Ct.of Tryd.func17 rfl (by kernel_rfl) Tryd.ntmps17 (by simp) fun c => ?_
  unfold Sh.rectolaw21_Same at hS
  refine VC.seq ?_
  refine VC.region ?_
  refine VL.q (q_assign rfl) (by decide) ?_
  refine VL.to (fun _ _ h => h) ?_
  refine VC.seq ?_
  refine VC.seq ?_
  refine VC.region ?_
  refine VL.q (q_move rfl) (by decide) ?_
  refine VL.q (q_ln (s := a_0) Tryd.underlying38 rfl) (by decide) ?_
  refine VL.q (q_move rfl) (by decide) ?_
  refine VL.q (q_ln (s := b_1) Tryd.underlying41 rfl) (by decide) ?_
  refine VL.q (q_neq rfl rfl) (by decide) ?_
  refine VL.to (fun _ _ h => h) ?_
  refine VC.cond_ndec rfl (fun h10 => ?_) (fun h10 => ?_)
  ·
    replace hS := it_f h10 hS
    refine VC.seq ?_
    refine VC.region ?_
    refine VL.q (q_assign rfl) (by decide) ?_
    refine VL.to (fun _ _ h => h) ?_
    cases hS
    exact VC.ret (fin1 (.inr rfl) rfl rfl () rfl trivial (fun _ _ => trivial) (fun _ _ => trivial))
  ·
    replace hS := it_t h10 hS
    refine VC.skip_to (fun _ _ h => h) ?_
    refine VC.seq ?_
    refine VC.seq ?_
    refine VC.region ?_
    refine VL.q (q_assign rfl) (by decide) ?_
    refine VL.to (fun _ _ h => h) ?_
    refine VC.block ?_
    refine VC.iter (S := Int) (fun (i5_1 : Int) => i5_1) (fun (i5_1 : Int) => [(0, a_0.val), (1, b_1.val), (5, i64 i5_1)]) (fun (i5_1 : Int) => Mo.tt) (fun (i5_1 : Int) => Ow.emp) 0 [0, 1, 5] hS rfl ?_
    clear hS
    rintro i5_1 m1 y1 hS hK1
    show VC _ _ _ _ _ [(0, a_0.val), (1, b_1.val), (5, i64 i5_1)] (Mo.and Mo.tt _) (Ow.emp)
    refine VC.seq ?_
    refine VC.seq ?_
    refine VC.region ?_
    refine VL.q (q_move rfl) (by decide) ?_
    refine VL.q (q_move rfl) (by decide) ?_
    refine VL.q (q_ln (s := a_0) Tryd.underlying38 rfl) (by decide) ?_
    refine VL.q (q_lss rfl rfl) (by decide) ?_
    refine VL.to (fun _ _ h => h) ?_
    refine VC.cond_dec rfl (fun h14 => ?_) (fun h14 => ?_)
    ·
      replace hS := it_t h14 hS
      refine VC.skip_to (fun _ _ h => h) ?_
      refine VC.seq ?_
      refine VC.block ?_
      refine VC.cutJ (S := Bool) (fun (x53_2 : Bool) => x53_2) (fun (x53_2 : Bool) => [(0, a_0.val), (1, b_1.val), (5, i64 i5_1), (53, .bool x53_2)]) (fun (x53_2 : Bool) => Mo.tt) (fun (x53_2 : Bool) => Ow.emp) hS ?_ ?_
      · -- up to where ways meet
        clear hS
        intro k3 hS
        refine VC.draw ((List.range 37).map fun k => (k, true)) mixed (by kernel_rfl) (by kernel_rfl) (by kernel_rfl) ?_
        refine VD.q rfl (q_move rfl) (by decide) ?_
        refine VD.q rfl (q_move rfl) (by decide) ?_
        obtain ⟨z19_4, nz19_4, hz19_4, hS⟩ := at_s hS
        refine VD.q rfl (q_ixm (s := a_0) Tryd.underlying38 gsz48 rfl rfl nz19_4 (lt_of_get nz19_4 hz19_4)) (by decide) ?_
        refine VD.q rfl (q_field gfa48_0 rfl) (by decide) ?_
        refine VD.q rfl (q_elf (s := a_0) gone9 rfl hz19_4 rfl) (by decide) ?_
        refine VD.q rfl (q_move rfl) (by decide) ?_
        refine VD.q rfl (q_move rfl) (by decide) ?_
        obtain ⟨z24_5, nz24_5, hz24_5, hS⟩ := at_s hS
        refine VD.q rfl (q_ixm (s := b_1) Tryd.underlying41 gsz94 rfl rfl nz24_5 (lt_of_get nz24_5 hz24_5)) (by decide) ?_
        refine VD.q rfl (q_field gfa94_0 rfl) (by decide) ?_
        refine VD.q rfl (q_elf (s := b_1) gone9 rfl hz24_5 rfl) (by decide) ?_
        refine VD.q rfl (q_sne rfl rfl) (by decide) ?_
        refine VD.q rfl (q_move rfl) (by decide) ?_
        refine VD.split_ndec 28 rfl (fun h28 => ?_) (fun h28 => ?_)
        ·
          replace hS := it_f h28 hS
          refine VD.gn rfl rfl rfl rfl (by decide) ?_
          refine VD.gn rfl rfl rfl rfl (by decide) ?_
          refine VD.gn rfl rfl rfl rfl (by decide) ?_
          refine VD.gn rfl rfl rfl rfl (by decide) ?_
          refine VD.gn rfl rfl rfl rfl (by decide) ?_
          refine VD.gn rfl rfl rfl rfl (by decide) ?_
          refine VD.gn rfl rfl rfl rfl (by decide) ?_
          refine VD.gn rfl rfl rfl rfl (by decide) ?_
          refine VD.gn rfl rfl rfl rfl (by decide) ?_
          refine VD.gn rfl rfl rfl rfl (by decide) ?_
          refine VD.gn rfl rfl rfl rfl (by decide) ?_
          refine VD.q rfl (q_pick_t rfl rfl) (by decide) ?_
          refine VD.q rfl (q_move rfl) (by decide) ?_
          refine VD.gn rfl rfl rfl rfl (by decide) ?_
          refine VD.gn rfl rfl rfl rfl (by decide) ?_
          refine VD.gn rfl rfl rfl rfl (by decide) ?_
          refine VD.gn rfl rfl rfl rfl (by decide) ?_
          refine VD.gn rfl rfl rfl rfl (by decide) ?_
          refine VD.gn rfl rfl rfl rfl (by decide) ?_
          refine VD.gn rfl rfl rfl rfl (by decide) ?_
          refine VD.gn rfl rfl rfl rfl (by decide) ?_
          refine VD.gn rfl rfl rfl rfl (by decide) ?_
          refine VD.gn rfl rfl rfl rfl (by decide) ?_
          refine VD.gn rfl rfl rfl rfl (by decide) ?_
          refine VD.q rfl (q_pick_t rfl rfl) (by decide) ?_
          refine VD.mt true [0, 1, 5, 53] (fun _ _ h => h) hS rfl
        ·
          replace hS := it_t h28 hS
          refine VD.gy rfl rfl rfl (q_move rfl) (by decide) ?_
          refine VD.gy rfl rfl rfl (q_move rfl) (by decide) ?_
          obtain ⟨z31_6, nz31_6, hz31_6, hS⟩ := at_s hS
          refine VD.gy rfl rfl rfl (q_ixm (s := a_0) Tryd.underlying38 gsz48 rfl rfl nz31_6 (lt_of_get nz31_6 hz31_6)) (by decide) ?_
          refine VD.gy rfl rfl rfl (q_field gfa48_1 rfl) (by decide) ?_
          refine VD.gy rfl rfl rfl (q_elf (s := a_0) gone3 rfl hz31_6 rfl) (by decide) ?_
          refine VD.gy rfl rfl rfl (q_move rfl) (by decide) ?_
          refine VD.gy rfl rfl rfl (q_move rfl) (by decide) ?_
          obtain ⟨z36_7, nz36_7, hz36_7, hS⟩ := at_s hS
          refine VD.gy rfl rfl rfl (q_ixm (s := b_1) Tryd.underlying41 gsz94 rfl rfl nz36_7 (lt_of_get nz36_7 hz36_7)) (by decide) ?_
          refine VD.gy rfl rfl rfl (q_field gfa94_1 rfl) (by decide) ?_
          refine VD.gy rfl rfl rfl (q_elf (s := b_1) gone3 rfl hz36_7 rfl) (by decide) ?_
          refine VD.gy rfl rfl rfl (q_neq rfl rfl) (by decide) ?_
          refine VD.q rfl (q_pick_f rfl rfl) (by decide) ?_
          refine VD.q rfl (q_move rfl) (by decide) ?_
          refine VD.split_ndec 41 rfl (fun h41 => ?_) (fun h41 => ?_)
          ·
            replace hS := it_f h41 hS
            refine VD.gn rfl rfl rfl rfl (by decide) ?_
            refine VD.gn rfl rfl rfl rfl (by decide) ?_
            refine VD.gn rfl rfl rfl rfl (by decide) ?_
            refine VD.gn rfl rfl rfl rfl (by decide) ?_
            refine VD.gn rfl rfl rfl rfl (by decide) ?_
            refine VD.gn rfl rfl rfl rfl (by decide) ?_
            refine VD.gn rfl rfl rfl rfl (by decide) ?_
            refine VD.gn rfl rfl rfl rfl (by decide) ?_
            refine VD.gn rfl rfl rfl rfl (by decide) ?_
            refine VD.gn rfl rfl rfl rfl (by decide) ?_
            refine VD.gn rfl rfl rfl rfl (by decide) ?_
            refine VD.q rfl (q_pick_t rfl rfl) (by decide) ?_
            refine VD.mt true [0, 1, 5, 53] (fun _ _ h => h) hS rfl
          ·
            replace hS := it_t h41 hS
            refine VD.gy rfl rfl rfl (q_move rfl) (by decide) ?_
            refine VD.gy rfl rfl rfl (q_move rfl) (by decide) ?_
            obtain ⟨z44_8, nz44_8, hz44_8, hS⟩ := at_s hS
            refine VD.gy rfl rfl rfl (q_ixm (s := a_0) Tryd.underlying38 gsz48 rfl rfl nz44_8 (lt_of_get nz44_8 hz44_8)) (by decide) ?_
            refine VD.gy rfl rfl rfl (q_field gfa48_2 rfl) (by decide) ?_
            refine VD.gy rfl rfl rfl (q_elf (s := a_0) gone9 rfl hz44_8 rfl) (by decide) ?_
            refine VD.gy rfl rfl rfl (q_move rfl) (by decide) ?_
            refine VD.gy rfl rfl rfl (q_move rfl) (by decide) ?_
            obtain ⟨z49_9, nz49_9, hz49_9, hS⟩ := at_s hS
            refine VD.gy rfl rfl rfl (q_ixm (s := b_1) Tryd.underlying41 gsz94 rfl rfl nz49_9 (lt_of_get nz49_9 hz49_9)) (by decide) ?_
            refine VD.gy rfl rfl rfl (q_field gfa94_2 rfl) (by decide) ?_
            refine VD.gy rfl rfl rfl (q_elf (s := b_1) gone9 rfl hz49_9 rfl) (by decide) ?_
            refine VD.gy rfl rfl rfl (q_sne rfl rfl) (by decide) ?_
            refine VD.q rfl (q_pick_f rfl rfl) (by decide) ?_
            refine VD.mt (!decide (z44_8.text = z49_9.text)) [0, 1, 5, 53] (fun _ _ h => h) hS rfl
      · -- from there
        clear hS
        rintro x53_2 hS
        show VC _ _ _ _ _ [(0, a_0.val), (1, b_1.val), (5, i64 i5_1), (53, .bool x53_2)] (Mo.and Mo.tt _) (Ow.emp)
        refine VC.cond rfl (fun h53 => ?_) (fun h53 => ?_)
        ·
          replace hS := it_t h53 hS
          refine VC.seq ?_
          refine VC.region ?_
          refine VL.q (q_assign rfl) (by decide) ?_
          refine VL.to (fun _ _ h => h) ?_
          replace hS := up2 hS hK1
          cases hS
          exact VC.ret (fin1 (.inr rfl) rfl rfl () rfl trivial (fun _ _ => trivial) (fun _ _ => trivial))
        ·
          replace hS := it_b h53 hS
          refine VC.skip_to (fun _ _ h => h) ?_
          refine VC.region ?_
          refine VL.q (q_move rfl) (by decide) ?_
          obtain ⟨b16, hS⟩ := gd_s hS
          refine VL.q (q_add rfl rfl b16) (by decide) ?_
          refine VL.q (q_assign rfl) (by decide) ?_
          refine VL.rnd (i5_1 + 1) [0, 1, 5] (fun _ _ h => h) (go2 hS hK1) rfl
    ·
      replace hS := it_f h14 hS
      replace hS := up2 hS hK1
      refine VC.exit_to (fun _ _ h => h) ?_
      refine VC.seq ?_
      refine VC.region ?_
      refine VL.q (q_assign rfl) (by decide) ?_
      refine VL.to (fun _ _ h => h) ?_
      cases hS
      exact VC.ret (fin1 (.inr rfl) rfl rfl () rfl trivial (fun _ _ => trivial) (fun _ _ => trivial))

set_option maxHeartbeats 4000000 in
set_option maxRecDepth 100000 in
theorem rectolaw21_TodoPlain_ct (g_0 : Sv (Sv Int)) (onto_1 : Int) (from_2 : Int) {r : Bool} (hS : Sh.rectolaw21_TodoPlain (g_0.l.map Sv.l) onto_1 from_2 = some r) :
    Ct Tryd.prog 4 [g_0.val, i64 onto_1, i64 from_2] (g_0.ok.and Gl) (Ow.emp) (X := Unit) (fun _ => .bool r) (fun _ => True) (fun _ => Mo.tt) (fun _ => Ow.emp) := by
  refine Ct.of Tryd.func4 rfl (by kernel_rfl) Tryd.ntmps4 (by simp) fun c => ?_
  unfold Sh.rectolaw21_TodoPlain at hS
  refine VC.seq ?_
  refine VC.region ?_
  refine VL.q (q_assign rfl) (by decide) ?_
  refine VL.to (fun _ _ h => h) ?_
  refine VC.seq ?_
  refine VC.seq ?_
  refine VC.region ?_
  obtain ⟨y8_1, ey8_1, hS⟩ := bd_s hS
  refine VL.q (q_call (rectolaw21_known_ct ey8_1) rfl (fun _ _ => rfl)) (by decide) ?_
  refine VL.q (q_not rfl) (by decide) ?_
  refine VL.to (fun _ _ h => h) ?_
  refine VC.cond rfl (fun h9 => ?_) (fun h9 => ?_)
  ·
    replace hS := it_t h9 hS
    refine VC.seq ?_
    refine VC.region ?_
    refine VL.q (q_assign rfl) (by decide) ?_
    refine VL.to (fun _ _ h => h) ?_
    cases hS
    exact VC.ret (fin1 (.inr rfl) rfl rfl () rfl trivial (fun _ _ => trivial) (fun _ _ => trivial))
  ·
    replace hS := it_b h9 hS
    refine VC.skip_to (fun _ _ h => h) ?_
    refine VC.seq ?_
    refine VC.cutJ (S := Bool) (fun (x17_2 : Bool) => x17_2) (fun (x17_2 : Bool) => [(0, g_0.val), (1, i64 onto_1), (2, i64 from_2), (17, .bool x17_2)]) (fun (x17_2 : Bool) => Mo.tt) (fun (x17_2 : Bool) => Ow.emp) hS ?_ ?_
    · -- up to where ways meet
      clear hS
      intro k3 hS
      refine VC.region ?_
      refine VL.q (q_move rfl) (by decide) ?_
      refine VL.q (q_lnm Sv.l (s := g_0) Tryd.underlying36 rfl) (by decide) ?_
      refine VL.q (q_gtr rfl rfl) (by decide) ?_
      refine VL.q (q_move rfl) (by decide) ?_
      refine VL.split_dec 13 rfl (fun h13 => ?_) (fun h13 => ?_)
      ·
        replace hS := it_t h13 hS
        refine VL.gn rfl rfl rfl (by decide) ?_
        refine VL.gn rfl rfl rfl (by decide) ?_
        refine VL.gn rfl rfl rfl (by decide) ?_
        refine VL.q (q_pick_t rfl rfl) (by decide) ?_
        refine VL.mt true [0, 1, 2, 17] (fun _ _ h => h) hS rfl
      ·
        replace hS := it_f h13 hS
        refine VL.gy rfl rfl (q_move rfl) (by decide) ?_
        obtain ⟨y15_4, ey15_4, hS⟩ := bd_s hS
        refine VL.gy rfl rfl (q_call (rectoref17_Check_ct g_0 ey15_4) rfl (fun _ _ => rfl)) (by decide) ?_
        refine VL.gy rfl rfl (q_neq rfl rfl) (by decide) ?_
        refine VL.q (q_pick_f rfl rfl) (by decide) ?_
        refine VL.mt (!decide (y15_4 = 0)) [0, 1, 2, 17] (fun _ _ h => h) hS rfl
    · -- from there
      clear hS
      rintro x17_2 hS
      show VC _ _ _ _ _ [(0, g_0.val), (1, i64 onto_1), (2, i64 from_2), (17, .bool x17_2)] (Mo.and Mo.tt _) (Ow.emp)
      refine VC.cond rfl (fun h17 => ?_) (fun h17 => ?_)
      ·
        replace hS := it_t h17 hS
        refine VC.seq ?_
        refine VC.region ?_
        refine VL.q (q_assign rfl) (by decide) ?_
        refine VL.to (fun _ _ h => h) ?_
        cases hS
        exact VC.ret (fin1 (.inr rfl) rfl rfl () rfl trivial (fun _ _ => trivial) (fun _ _ => trivial))
      ·
        replace hS := it_b h17 hS
        refine VC.skip_to (fun _ _ h => h) ?_
        refine VC.seq ?_
        refine VC.region ?_
        refine VL.q (q_move rfl) (by decide) ?_
        refine VL.q (q_move rfl) (by decide) ?_
        refine VL.q (q_move rfl) (by decide) ?_
        obtain ⟨y21_5, ey21_5, hS⟩ := bd_s hS
        refine VL.callF (todo_Plain_ct g_0 onto_1 from_2 ey21_5) rfl (by decide) ?_
        rintro q21_5_0 rfl
        try dsimp only
        refine VL.q (q_assign rfl) (by decide) ?_
        refine VL.to (fun _ _ h => h) ?_
        refine VC.seq ?_
        refine VC.region ?_
        refine VL.q (q_move rfl) (by decide) ?_
        refine VL.q (q_move rfl) (by decide) ?_
        refine VL.q (q_move rfl) (by decide) ?_
        refine VL.q (q_move rfl) (by decide) ?_
        obtain ⟨y26_6, ey26_6, hS⟩ := bd_s hS
        refine VL.callO (rectoref17_Plain_ct g_0 onto_1 from_2 ey26_6) rfl (by decide) ?_
        rintro q26_6_0 rfl
        try dsimp only
        obtain ⟨y27_7, ey27_7, hS⟩ := bd_s hS
        refine VL.q (q_callR (rectolaw21_Same_ct q21_5_0 q26_6_0 ey27_7) rfl (fun _ _ => rfl)) (by decide) ?_
        refine VL.q (q_move rfl) (by decide) ?_
        refine VL.split 28 rfl (fun h28 => ?_) (fun h28 => ?_)
        ·
          replace hS := it_t h28 hS
          refine VL.gy rfl rfl (q_move rfl) (by decide) ?_
          refine VL.gy rfl rfl (q_ln (s := q21_5_0) Tryd.underlying38 rfl) (by decide) ?_
          refine VL.gy rfl rfl (q_gtr rfl rfl) (by decide) ?_
          refine VL.gy rfl rfl (q_move rfl) (by decide) ?_
          refine VL.split_dec 32 rfl (fun h32 => ?_) (fun h32 => ?_)
          ·
            replace hS := it_t h32 hS
            refine VL.gn rfl rfl rfl (by decide) ?_
            refine VL.gn rfl rfl rfl (by decide) ?_
            refine VL.gn rfl rfl rfl (by decide) ?_
            refine VL.gn rfl rfl rfl (by decide) ?_
            refine VL.gy rfl rfl (q_pick_t rfl rfl) (by decide) ?_
            refine VL.q (q_pick_t rfl rfl) (by decide) ?_
            refine VL.q (q_assign rfl) (by decide) ?_
            refine VL.to (fun _ _ h => h) ?_
            refine VC.keep [6] rfl ?_
            cases hS
            exact VC.ret (fin1 (.inr rfl) rfl rfl () rfl trivial (fun _ _ => trivial) (fun _ _ => trivial))
          ·
            replace hS := it_f h32 hS
            refine VL.gy rfl rfl (q_move rfl) (by decide) ?_
            refine VL.gy rfl rfl (q_move rfl) (by decide) ?_
            refine VL.guard rfl rfl ?_
            obtain ⟨y35_8, ey35_8, hS⟩ := bd_s hS
            refine VL.callF (todo_Check_ct q21_5_0 g_0 ey35_8) rfl (by decide) ?_
            rintro q35_8_0 rfl
            try dsimp only
            refine VL.gy rfl rfl (q_ereq Tryd.underlying44 rfl) (by decide) ?_
            refine VL.gy rfl rfl (q_pick_f rfl rfl) (by decide) ?_
            refine VL.q (q_pick_t rfl rfl) (by decide) ?_
            refine VL.q (q_assign rfl) (by decide) ?_
            refine VL.to (fun _ _ h => h) ?_
            refine VC.keep [6] rfl ?_
            cases hS
            exact VC.ret (fin1 (.inr rfl) rfl rfl () rfl trivial (fun _ _ => trivial) (fun _ _ => trivial))
        ·
          replace hS := it_b h28 hS
          refine VL.gn rfl rfl rfl (by decide) ?_
          refine VL.gn rfl rfl rfl (by decide) ?_
          refine VL.gn rfl rfl rfl (by decide) ?_
          refine VL.gn rfl rfl rfl (by decide) ?_
          refine VL.gu rfl rfl (by decide) ?_
          refine VL.gu rfl rfl (by decide) ?_
          refine VL.gu rfl rfl (by decide) ?_
          refine VL.gu rfl rfl (by decide) ?_
          refine VL.gn rfl rfl rfl (by decide) ?_
          refine VL.q (q_pick_f rfl rfl) (by decide) ?_
          refine VL.q (q_assign rfl) (by decide) ?_
          refine VL.to (fun _ _ h => h) ?_
          refine VC.keep [6] rfl ?_
          cases hS
          exact VC.ret (fin1 (.inr rfl) rfl rfl () rfl trivial (fun _ _ => trivial) (fun _ _ => trivial))

set_option maxHeartbeats 4000000 in
set_option maxRecDepth 100000 in
theorem rectolaw21_TodoLines_ct (a_0 : Sv TodoStep) (a_1 : Sv UInt8) {r : Bool} (hS : Sh.rectolaw21_TodoLines a_0.l a_1.l = some r) :
    Ct Tryd.prog 5 [a_0.val, a_1.val] (a_0.ok.and (a_1.ok.and Gl)) (Ow.emp) (X := Unit) (fun _ => .bool r) (fun _ => True) (fun _ => Mo.tt) (fun _ => Ow.emp) := by
  refine Ct.of Tryd.func5 rfl (by kernel_rfl) Tryd.ntmps5 (by simp) fun c => ?_
  unfold Sh.rectolaw21_TodoLines at hS
  refine VC.seq ?_
  refine VC.region ?_
  refine VL.q (q_assign rfl) (by decide) ?_
  refine VL.to (fun _ _ h => h) ?_
  refine VC.seq ?_
  refine VC.seq ?_
  refine VC.region ?_
  obtain ⟨y12_1, ey12_1, hS⟩ := bd_s hS
  refine VL.q (q_call (rectolaw21_known_ct ey12_1) rfl (fun _ _ => rfl)) (by decide) ?_
  refine VL.q (q_not rfl) (by decide) ?_
  refine VL.to (fun _ _ h => h) ?_
  refine VC.cond rfl (fun h13 => ?_) (fun h13 => ?_)
  ·
    replace hS := it_t h13 hS
    refine VC.seq ?_
    refine VC.region ?_
    refine VL.q (q_assign rfl) (by decide) ?_
    refine VL.to (fun _ _ h => h) ?_
    cases hS
    exact VC.ret (fin1 (.inr rfl) rfl rfl () rfl trivial (fun _ _ => trivial) (fun _ _ => trivial))
  ·
    replace hS := it_b h13 hS
    refine VC.skip_to (fun _ _ h => h) ?_
    refine VC.seq ?_
    refine VC.cutJ (S := Bool) (fun (x23_2 : Bool) => x23_2) (fun (x23_2 : Bool) => [(0, a_0.val), (1, a_1.val), (23, .bool x23_2)]) (fun (x23_2 : Bool) => Mo.tt) (fun (x23_2 : Bool) => Ow.emp) hS ?_ ?_
    · -- up to where ways meet
      clear hS
      intro k3 hS
      refine VC.region ?_
      refine VL.q (q_move rfl) (by decide) ?_
      refine VL.q (q_ln (s := a_0) Tryd.underlying38 rfl) (by decide) ?_
      refine VL.q (q_gtr rfl rfl) (by decide) ?_
      refine VL.q (q_move rfl) (by decide) ?_
      refine VL.split_dec 17 rfl (fun h17 => ?_) (fun h17 => ?_)
      ·
        replace hS := it_t h17 hS
        refine VL.gn rfl rfl rfl (by decide) ?_
        refine VL.gn rfl rfl rfl (by decide) ?_
        refine VL.gn rfl rfl rfl (by decide) ?_
        refine VL.gn rfl rfl rfl (by decide) ?_
        refine VL.gn rfl rfl rfl (by decide) ?_
        refine VL.q (q_pick_t rfl rfl) (by decide) ?_
        refine VL.mt true [0, 1, 23] (fun _ _ h => h) hS rfl
      ·
        replace hS := it_f h17 hS
        refine VL.gy rfl rfl (q_move rfl) (by decide) ?_
        refine VL.gy rfl rfl (q_ln (s := a_1) Tryd.underlying22 rfl) (by decide) ?_
        refine VL.gy rfl rfl (q_move rfl) (by decide) ?_
        refine VL.gy rfl rfl (q_ln (s := a_0) Tryd.underlying38 rfl) (by decide) ?_
        refine VL.gy rfl rfl (q_lss rfl rfl) (by decide) ?_
        refine VL.q (q_pick_f rfl rfl) (by decide) ?_
        refine VL.mt (decide ((a_1.l.length : Int) < (a_0.l.length : Int))) [0, 1, 23] (fun _ _ h => h) hS rfl
    · -- from there
      clear hS
      rintro x23_2 hS
      show VC _ _ _ _ _ [(0, a_0.val), (1, a_1.val), (23, .bool x23_2)] (Mo.and Mo.tt _) (Ow.emp)
      refine VC.cond rfl (fun h23 => ?_) (fun h23 => ?_)
      ·
        replace hS := it_t h23 hS
        refine VC.seq ?_
        refine VC.region ?_
        refine VL.q (q_assign rfl) (by decide) ?_
        refine VL.to (fun _ _ h => h) ?_
        cases hS
        exact VC.ret (fin1 (.inr rfl) rfl rfl () rfl trivial (fun _ _ => trivial) (fun _ _ => trivial))
      ·
        replace hS := it_b h23 hS
        refine VC.skip_to (fun _ _ h => h) ?_
        refine VC.seq ?_
        refine VC.region ?_
        refine VL.q (q_assign rfl) (by decide) ?_
        refine VL.to (fun _ _ h => h) ?_
        refine VC.seq ?_
        refine VC.seq ?_
        refine VC.region ?_
        refine VL.q (q_assign rfl) (by decide) ?_
        refine VL.to (fun _ _ h => h) ?_
        refine VC.block ?_
        refine VC.iter (S := Str × Int) (fun sg => (sg.1, sg.2)) (fun sg => [(0, a_0.val), (1, a_1.val), (5, str sg.1), (6, i64 sg.2)]) (fun sg => Mo.tt) (fun sg => Ow.emp) ([], 0) [0, 1, 5, 6] hS rfl ?_
        clear hS
        rintro ⟨x5_4, x6_5⟩ m1 y1 hS hK1
        show VC _ _ _ _ _ [(0, a_0.val), (1, a_1.val), (5, str x5_4), (6, i64 x6_5)] (Mo.and Mo.tt _) (Ow.emp)
        refine VC.seq ?_
        refine VC.seq ?_
        refine VC.region ?_
        refine VL.q (q_move rfl) (by decide) ?_
        refine VL.q (q_move rfl) (by decide) ?_
        refine VL.q (q_ln (s := a_0) Tryd.underlying38 rfl) (by decide) ?_
        refine VL.q (q_lss rfl rfl) (by decide) ?_
        refine VL.to (fun _ _ h => h) ?_
        refine VC.cond_dec rfl (fun h27 => ?_) (fun h27 => ?_)
        ·
          replace hS := it_t h27 hS
          refine VC.skip_to (fun _ _ h => h) ?_
          refine VC.seq ?_
          refine VC.block ?_
          refine VC.seq ?_
          refine VC.seq ?_
          refine VC.region ?_
          refine VL.q (q_move rfl) (by decide) ?_
          refine VL.q (q_move rfl) (by decide) ?_
          obtain ⟨z32_6, nz32_6, hz32_6, hS⟩ := at_s hS
          refine VL.q (q_ixm (s := a_0) Tryd.underlying38 gsz48 rfl rfl nz32_6 (lt_of_get nz32_6 hz32_6)) (by decide) ?_
          refine VL.q (q_field gfa48_2 rfl) (by decide) ?_
          refine VL.q (q_elf (s := a_0) gone9 rfl hz32_6 rfl) (by decide) ?_
          refine VL.q (q_slen Tryd.underlying9 rfl) (by decide) ?_
          refine VL.q (q_gtr rfl rfl) (by decide) ?_
          refine VL.to (fun _ _ h => h) ?_
          refine VC.keep [0, 1, 5, 6, 36] rfl ?_
          refine VC.cond_dec rfl (fun h36 => ?_) (fun h36 => ?_)
          ·
            replace hS := it_t h36 hS
            refine VC.seq ?_
            refine VC.region ?_
            refine VL.q (q_assign rfl) (by decide) ?_
            refine VL.to (fun _ _ h => h) ?_
            replace hS := up2 hS hK1
            cases hS
            exact VC.ret (fin1 (.inr rfl) rfl rfl () rfl trivial (fun _ _ => trivial) (fun _ _ => trivial))
          ·
            replace hS := it_f h36 hS
            refine VC.skip_to (fun _ _ h => h) ?_
            refine VC.cutJ (S := Str) (fun (x5_7 : Str) => x5_7) (fun (x5_7 : Str) => [(0, a_0.val), (1, a_1.val), (5, str x5_7), (6, i64 x6_5)]) (fun (x5_7 : Str) => Mo.tt) (fun (x5_7 : Str) => Ow.emp) hS ?_ ?_
            · -- up to where ways meet
              clear hS
              intro k8 hS
              refine VC.seq ?_
              refine VC.region ?_
              refine VL.q (q_move rfl) (by decide) ?_
              refine VL.q (q_move rfl) (by decide) ?_
              obtain ⟨z39_9, nz39_9, hz39_9, hS⟩ := at_s hS
              refine VL.q (q_ixm (s := a_1) Tryd.underlying22 gsz5 rfl rfl nz39_9 (lt_of_get nz39_9 hz39_9)) (by decide) ?_
              refine VL.q (q_el (s := a_1) gone5 rfl hz39_9 rfl) (by decide) ?_
              obtain ⟨b41, hS⟩ := gd_s hS
              refine VL.q (q_rem rfl rfl b41) (by decide) ?_
              refine VL.to (fun _ _ h => h) ?_
              refine VC.block ?_
              refine VC.seq ?_
              refine VC.region ?_
              refine VL.q (q_eql rfl rfl) (by decide) ?_
              refine VL.q (q_assign rfl) (by decide) ?_
              refine VL.to (fun _ _ h => h) ?_
              refine VC.cond_dec rfl (fun h42 => ?_) (fun h42 => ?_)
              ·
                replace hS := it_t h42 hS
                refine VC.region ?_
                refine VL.q (q_move rfl) (by decide) ?_
                obtain ⟨b45, hS⟩ := gd_s hS
                obtain ⟨y45_10, ey45_10, hS⟩ := lt_s hS
                refine VL.q (q_catE rfl rfl b45 ey45_10) (by decide) ?_
                refine VL.q (q_assign rfl) (by decide) ?_
                refine VL.mt y45_10 [0, 1, 5, 6] (fun _ _ h => h) hS rfl
              ·
                replace hS := it_f h42 hS
                refine VC.seq ?_
                refine VC.region ?_
                refine VL.q (q_eql rfl rfl) (by decide) ?_
                refine VL.q (q_assign rfl) (by decide) ?_
                refine VL.to (fun _ _ h => h) ?_
                refine VC.keep [0, 1, 5, 6, 41, 46] rfl ?_
                refine VC.cond_dec rfl (fun h46 => ?_) (fun h46 => ?_)
                ·
                  replace hS := it_t h46 hS
                  refine VC.region ?_
                  refine VL.q (q_move rfl) (by decide) ?_
                  obtain ⟨b49, hS⟩ := gd_s hS
                  obtain ⟨y49_11, ey49_11, hS⟩ := lt_s hS
                  refine VL.q (q_catE rfl rfl b49 ey49_11) (by decide) ?_
                  refine VL.q (q_assign rfl) (by decide) ?_
                  refine VL.mt y49_11 [0, 1, 5, 6] (fun _ _ h => h) hS rfl
                ·
                  replace hS := it_f h46 hS
                  refine VC.seq ?_
                  refine VC.region ?_
                  refine VL.q (q_eql rfl rfl) (by decide) ?_
                  refine VL.q (q_assign rfl) (by decide) ?_
                  refine VL.to (fun _ _ h => h) ?_
                  refine VC.cond_dec rfl (fun h50 => ?_) (fun h50 => ?_)
                  ·
                    replace hS := it_t h50 hS
                    refine VC.region ?_
                    refine VL.q (q_move rfl) (by decide) ?_
                    obtain ⟨b53, hS⟩ := gd_s hS
                    obtain ⟨y53_12, ey53_12, hS⟩ := lt_s hS
                    refine VL.q (q_catE rfl rfl b53 ey53_12) (by decide) ?_
                    refine VL.q (q_assign rfl) (by decide) ?_
                    refine VL.mt y53_12 [0, 1, 5, 6] (fun _ _ h => h) hS rfl
                  ·
                    replace hS := it_f h50 hS
                    refine VC.skip_mt x5_4 [0, 1, 5, 6] (fun _ _ h => h) hS rfl
            · -- from there
              clear hS
              rintro x5_7 hS
              show VC _ _ _ _ _ [(0, a_0.val), (1, a_1.val), (5, str x5_7), (6, i64 x6_5)] (Mo.and Mo.tt _) (Ow.emp)
              refine VC.region ?_
              refine VL.q (q_move rfl) (by decide) ?_
              refine VL.q (q_move rfl) (by decide) ?_
              refine VL.q (q_move rfl) (by decide) ?_
              refine VL.q (q_move rfl) (by decide) ?_
              obtain ⟨b58, hS⟩ := gd_s hS
              refine VL.q (q_add rfl rfl b58) (by decide) ?_
              obtain ⟨b59, hS⟩ := gd_s hS
              refine VL.smid Tryd.underlying38 gsz48 rfl rfl rfl b59.1 b59.2.1 (b59.2.2) (by decide) fun s59_13 hs59_13 => ?_
              replace hS := lt_to hs59_13 hS
              obtain ⟨y60_15, ey60_15, hS⟩ := bd_s hS
              refine VL.q (q_call (todo_Text_ct s59_13 ey60_15) rfl (fun _ _ => rfl)) (by decide) ?_
              obtain ⟨b61, hS⟩ := gd_s hS
              obtain ⟨y61_16, ey61_16, hS⟩ := lt_s hS
              refine VL.q (q_catE rfl rfl b61 ey61_16) (by decide) ?_
              refine VL.q (q_assign rfl) (by decide) ?_
              refine VL.to (fun _ _ h => h) ?_
              refine VC.keep [0, 1, 5, 6] rfl ?_
              refine VC.region ?_
              refine VL.q (q_move rfl) (by decide) ?_
              obtain ⟨b29, hS⟩ := gd_s hS
              refine VL.q (q_add rfl rfl b29) (by decide) ?_
              refine VL.q (q_assign rfl) (by decide) ?_
              refine VL.rnd (y61_16, (x6_5 + 1)) [0, 1, 5, 6] (fun _ _ h => h) (go2 hS hK1) rfl
        ·
          replace hS := it_f h27 hS
          replace hS := up2 hS hK1
          refine VC.exit_to (fun _ _ h => h) ?_
          refine VC.seq ?_
          refine VC.region ?_
          refine VL.q (q_move rfl) (by decide) ?_
          obtain ⟨y64_17, ey64_17, hS⟩ := bd_s hS
          refine VL.callF (todo_Parse_ct x5_4 ey64_17) rfl (by decide) ?_
          rintro ⟨q64_17_0, q64_17_1⟩ rfl
          try dsimp only
          refine VL.q (q_move rfl) (by decide) ?_
          refine VL.q (q_extract rfl rfl) (by decide) ?_
          refine VL.q (q_extract rfl rfl) (by decide) ?_
          refine VL.q (q_assign rfl) (by decide) ?_
          refine VL.q (q_assign rfl) (by decide) ?_
          refine VL.to (fun _ _ h => h) ?_
          refine VC.keep [0, 7, 8] rfl ?_
          refine VC.seq ?_
          refine VC.region ?_
          refine VL.q (q_move rfl) (by decide) ?_
          obtain ⟨y69_18, ey69_18, hS⟩ := bd_s hS
          refine VL.q (q_call (todo_Text_ct a_0 ey69_18) rfl (fun _ _ => rfl)) (by decide) ?_
          obtain ⟨y70_19, ey70_19, hS⟩ := bd_s hS
          refine VL.callF (todo_Parse_ct y69_18 ey70_19) rfl (by decide) ?_
          rintro ⟨q70_19_0, q70_19_1⟩ rfl
          try dsimp only
          refine VL.q (q_move rfl) (by decide) ?_
          refine VL.q (q_extract rfl rfl) (by decide) ?_
          refine VL.q (q_extract rfl rfl) (by decide) ?_
          refine VL.q (q_assign rfl) (by decide) ?_
          refine VL.q (q_assign rfl) (by decide) ?_
          refine VL.to (fun _ _ h => h) ?_
          refine VC.keep [7, 8, 9, 10] rfl ?_
          refine VC.seq ?_
          refine VC.cutJ (S := Bool) (fun (x78_20 : Bool) => x78_20) (fun (x78_20 : Bool) => [(7, q64_17_0.val), (8, q64_17_1.val), (9, q70_19_0.val), (10, q70_19_1.val), (78, .bool x78_20)]) (fun (x78_20 : Bool) => Mo.tt) (fun (x78_20 : Bool) => Ow.emp) hS ?_ ?_
          · -- up to where ways meet
            clear hS
            intro k21 hS
            refine VC.region ?_
            refine VL.q (q_move rfl) (by decide) ?_
            refine VL.q (q_erne Tryd.underlying44 rfl) (by decide) ?_
            refine VL.q (q_move rfl) (by decide) ?_
            refine VL.split_ndec 75 rfl (fun h75 => ?_) (fun h75 => ?_)
            ·
              replace hS := it_f h75 hS
              refine VL.gn rfl rfl rfl (by decide) ?_
              refine VL.gn rfl rfl rfl (by decide) ?_
              refine VL.q (q_pick_t rfl rfl) (by decide) ?_
              refine VL.mt true [7, 8, 9, 10, 78] (fun _ _ h => h) hS rfl
            ·
              replace hS := it_t h75 hS
              refine VL.gy rfl rfl (q_move rfl) (by decide) ?_
              refine VL.gy rfl rfl (q_erne Tryd.underlying44 rfl) (by decide) ?_
              refine VL.q (q_pick_f rfl rfl) (by decide) ?_
              refine VL.mt (!decide (q70_19_1.pl.isNil = true)) [7, 8, 9, 10, 78] (fun _ _ h => h) hS rfl
          · -- from there
            clear hS
            rintro x78_20 hS
            show VC _ _ _ _ _ [(7, q64_17_0.val), (8, q64_17_1.val), (9, q70_19_0.val), (10, q70_19_1.val), (78, .bool x78_20)] (Mo.and Mo.tt _) (Ow.emp)
            refine VC.cond rfl (fun h78 => ?_) (fun h78 => ?_)
            ·
              replace hS := it_t h78 hS
              refine VC.seq ?_
              refine VC.draw ((List.range 6).map fun k => (k, true)) mixed (by kernel_rfl) (by kernel_rfl) (by kernel_rfl) ?_
              refine VD.q rfl (q_move rfl) (by decide) ?_
              refine VD.q rfl (q_ereq Tryd.underlying44 rfl) (by decide) ?_
              refine VD.q rfl (q_move rfl) (by decide) ?_
              refine VD.q rfl (q_ereq Tryd.underlying44 rfl) (by decide) ?_
              refine VD.q rfl (q_beql Tryd.underlying4 rfl rfl) (by decide) ?_
              refine VD.q rfl (q_assign rfl) (by decide) ?_
              refine VD.to (fun _ _ h => h) ?_
              refine VC.keep [4] rfl ?_
              cases hS
              exact VC.ret (fin1 (.inr rfl) rfl rfl () rfl trivial (fun _ _ => trivial) (fun _ _ => trivial))
            ·
              replace hS := it_b h78 hS
              refine VC.skip_to (fun _ _ h => h) ?_
              refine VC.seq ?_
              refine VC.seq ?_
              refine VC.region ?_
              refine VL.q (q_move rfl) (by decide) ?_
              refine VL.q (q_ln (s := q64_17_0) Tryd.underlying38 rfl) (by decide) ?_
              refine VL.q (q_move rfl) (by decide) ?_
              refine VL.q (q_ln (s := q70_19_0) Tryd.underlying38 rfl) (by decide) ?_
              refine VL.q (q_neq rfl rfl) (by decide) ?_
              refine VL.to (fun _ _ h => h) ?_
              refine VC.cond_ndec rfl (fun h88 => ?_) (fun h88 => ?_)
              ·
                replace hS := it_f h88 hS
                refine VC.seq ?_
                refine VC.region ?_
                refine VL.q (q_assign rfl) (by decide) ?_
                refine VL.to (fun _ _ h => h) ?_
                refine VC.keep [4] rfl ?_
                cases hS
                exact VC.ret (fin1 (.inr rfl) rfl rfl () rfl trivial (fun _ _ => trivial) (fun _ _ => trivial))
              ·
                replace hS := it_t h88 hS
                refine VC.skip_to (fun _ _ h => h) ?_
                refine VC.seq ?_
                refine VC.seq ?_
                refine VC.region ?_
                refine VL.q (q_assign rfl) (by decide) ?_
                refine VL.to (fun _ _ h => h) ?_
                refine VC.keep [7, 9, 11] rfl ?_
                refine VC.block ?_
                refine VC.iter (S := Int) (fun (x11_22 : Int) => x11_22) (fun (x11_22 : Int) => [(7, q64_17_0.val), (9, q70_19_0.val), (11, i64 x11_22)]) (fun (x11_22 : Int) => Mo.tt) (fun (x11_22 : Int) => Ow.emp) 0 [7, 9, 11] hS rfl ?_
                clear hS
                rintro x11_22 m1 y1 hS hK1
                show VC _ _ _ _ _ [(7, q64_17_0.val), (9, q70_19_0.val), (11, i64 x11_22)] (Mo.and Mo.tt _) (Ow.emp)
                refine VC.seq ?_
                refine VC.seq ?_
                refine VC.region ?_
                refine VL.q (q_move rfl) (by decide) ?_
                refine VL.q (q_move rfl) (by decide) ?_
                refine VL.q (q_ln (s := q64_17_0) Tryd.underlying38 rfl) (by decide) ?_
                refine VL.q (q_lss rfl rfl) (by decide) ?_
                refine VL.to (fun _ _ h => h) ?_
                refine VC.cond_dec rfl (fun h92 => ?_) (fun h92 => ?_)
                ·
                  replace hS := it_t h92 hS
                  refine VC.skip_to (fun _ _ h => h) ?_
                  refine VC.seq ?_
                  refine VC.block ?_
                  refine VC.seq ?_
                  refine VC.draw ((List.range 9).map fun k => (k, true)) mixed (by kernel_rfl) (by kernel_rfl) (by kernel_rfl) ?_
                  refine VD.q rfl (q_move rfl) (by decide) ?_
                  refine VD.q rfl (q_move rfl) (by decide) ?_
                  obtain ⟨z97_23, nz97_23, hz97_23, hS⟩ := at_s hS
                  refine VD.q rfl (q_ixm (s := q64_17_0) Tryd.underlying38 gsz48 rfl rfl nz97_23 (lt_of_get nz97_23 hz97_23)) (by decide) ?_
                  refine VD.q rfl (q_els (s := q64_17_0) gagg48 rfl rfl hz97_23) (by decide) ?_
                  refine VD.q rfl (q_move rfl) (by decide) ?_
                  refine VD.q rfl (q_move rfl) (by decide) ?_
                  obtain ⟨z101_24, nz101_24, hz101_24, hS⟩ := at_s hS
                  refine VD.q rfl (q_ixm (s := q70_19_0) Tryd.underlying38 gsz48 rfl rfl nz101_24 (lt_of_get nz101_24 hz101_24)) (by decide) ?_
                  refine VD.q rfl (q_els (s := q70_19_0) gagg48 rfl rfl hz101_24) (by decide) ?_
                  refine VD.q rfl (q_stneq geqg48 (geqs48 z97_23.verb z97_23.commit z97_23.text z101_24.verb z101_24.commit z101_24.text) rfl rfl) (by decide) ?_
                  refine VD.to (fun _ _ h => h) ?_
                  refine VC.keep [7, 9, 11, 103] rfl ?_
                  refine VC.cond_ndec rfl (fun h103 => ?_) (fun h103 => ?_)
                  ·
                    replace hS := it_f h103 hS
                    refine VC.seq ?_
                    refine VC.region ?_
                    refine VL.q (q_assign rfl) (by decide) ?_
                    refine VL.to (fun _ _ h => h) ?_
                    replace hS := up2 hS hK1
                    cases hS
                    exact VC.ret (fin1 (.inr rfl) rfl rfl () rfl trivial (fun _ _ => trivial) (fun _ _ => trivial))
                  ·
                    replace hS := it_t h103 hS
                    refine VC.skip_to (fun _ _ h => h) ?_
                    refine VC.region ?_
                    refine VL.q (q_move rfl) (by decide) ?_
                    obtain ⟨b94, hS⟩ := gd_s hS
                    refine VL.q (q_add rfl rfl b94) (by decide) ?_
                    refine VL.q (q_assign rfl) (by decide) ?_
                    refine VL.rnd (x11_22 + 1) [7, 9, 11] (fun _ _ h => h) (go2 hS hK1) rfl
                ·
                  replace hS := it_f h92 hS
                  replace hS := up2 hS hK1
                  refine VC.exit_to (fun _ _ h => h) ?_
                  refine VC.seq ?_
                  refine VC.region ?_
                  refine VL.q (q_assign rfl) (by decide) ?_
                  refine VL.to (fun _ _ h => h) ?_
                  cases hS
                  exact VC.ret (fin1 (.inr rfl) rfl rfl () rfl trivial (fun _ _ => trivial) (fun _ _ => trivial))

end Go.Proofs.YtnkoilkmnpmlmaaDoor
end

section
/- Plain laws on loops that compare two rows. No program in sight. -/
namespace Go.S
theorem at_get {α : Type} {l : List α} {i : Int} (h0 : 0 ≤ i) (h : i < l.length) : ∃ z, l[i.toNat]? = some z := ⟨_, List.getElem?_eq_getElem (by omega)⟩
theorem eqloop {α : Type} [DecidableEq α] (P : α → α → Prop) [∀ z w, Decidable (P z w)] (hP : ∀ z w, P z w ↔ z = w) (l r : List α) (hl : (l.length : Int) = r.length) (hb : (l.length : Int) ≤ 1000000000) (B : Int → Option (Int ⊕ Bool))
    (hB : ∀ i, B i = if i < (l.length : Int) then (at_ l i).bind (fun z => (at_ r i).bind (fun w => if P z w then gd (I64 (i + 1)) (go (i + 1)) else up (some false))) else up (some true)) : iter B 0 = some (decide (l = r)) := by
  apply Ok.eq
  refine ok_iter (I := fun i => 0 ≤ i ∧ i ≤ l.length ∧ l.take i.toNat = r.take i.toNat) (μ := fun i => (l.length - i).toNat) ?_ ⟨by omega, by omega, rfl⟩
  rintro i ⟨h0, h1, h2⟩
  rw [hB]
  simp only [ok_if, ok_up, ok_bd, ok_gd, ok_go, ok_some, ok_at]
  refine ⟨fun h => ?_, fun h => ?_⟩
  · obtain ⟨z, hz⟩ := at_get h0 h
    obtain ⟨w, hw⟩ := at_get (l := r) h0 (by omega)
    refine ⟨h0, z, hz, h0, w, hw, fun hp => ?_, fun hp => ?_⟩
    · have e := (hP z w).1 hp
      refine ⟨⟨by omega, by omega⟩, ⟨by omega, by omega, ?_⟩, by omega⟩
      rw [show (i + 1).toNat = i.toNat + 1 by omega, List.take_add_one, List.take_add_one, h2, hz, hw, e]
    · have e : z ≠ w := fun e => hp ((hP z w).2 e)
      refine (decide_eq_false fun q => e ?_).symm
      subst q
      rw [hz] at hw
      exact Option.some.inj hw
  · have e : i.toNat = l.length := by omega
    rw [e, List.take_length] at h2
    rw [show l.length = r.length by omega, List.take_length] at h2
    exact (decide_eq_true h2).symm
end Go.S
end
