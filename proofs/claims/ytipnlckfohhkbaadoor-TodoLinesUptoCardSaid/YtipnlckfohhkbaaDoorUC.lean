/- Part of the proofs of: Empty lines and remarks between steps are as if they were not there: the law of the lines that count. -/
import Derived.Test.YtipnlckfohhkbaaDoorRows
import Derived.Test.YtipnlckfohhkbaaDoorUB
set_option linter.unusedVariables false
set_option linter.unusedSimpArgs false
set_option linter.unusedSectionVars false
section
set_option linter.unusedVariables false
namespace Go.Proofs.YtipnlckfohhkbaaDoor
open Go.RowKit Go.V
open Go.S hiding Str
theorem mixed : Tryd.prog.follows .mixedOrders = true := by kernel_rfl
theorem gszb : (Tryd.prog.info? 83).map (·.size) = some 2 := by kernel_rfl
theorem gappb : ((Tryd.prog.info? 5).map fun i => (i.size, i.bytes, i.zero)) = some (1, 1, some (.int .u8 0)) := by kernel_rfl
theorem gfa83_0 : FieldAt Tryd.prog 83 0 0 := fieldAt_sz (n := 0) (f := ⟨_, _, 0, _, _, _, _⟩) Tryd.underlying83 rfl (by kernel_rfl)
theorem gfa83_1 : FieldAt Tryd.prog 83 1 1 := fieldAt_sz (n := 0) (f := ⟨_, _, 1, _, _, _, _⟩) Tryd.underlying83 rfl (by kernel_rfl)
theorem gone81 : OneCell Tryd.prog 81 := oneCell_of Tryd.underlying81 rfl
theorem gone23 : OneCell Tryd.prog 23 := oneCell_of Tryd.underlying23 rfl
theorem gsz81 : (Tryd.prog.info? 81).map (·.size) = some 1 := by kernel_rfl
theorem gsz23 : (Tryd.prog.info? 23).map (·.size) = some 1 := by kernel_rfl
theorem gmk9 : ((Tryd.prog.info? 9).map fun i => (i.size, i.bytes, i.zero.map fun z => z.cells.toList)) = some (1, 16, some [str []]) := by kernel_rfl
theorem gsz9 : (Tryd.prog.info? 9).map (·.size) = some 1 := by kernel_rfl
theorem gone9 : OneCell Tryd.prog 9 := oneCell_of Tryd.underlying9 rfl
theorem gsz26 : (Tryd.prog.info? 26).map (·.size) = some 3 := by kernel_rfl
theorem gsz5 : (Tryd.prog.info? 5).map (·.size) = some 1 := by kernel_rfl
theorem gone5 : OneCell Tryd.prog 5 := oneCell_of Tryd.underlying5 rfl
theorem gagg26 : AggOf Tryd.prog 26 3 := aggOf_of Tryd.underlying26 rfl (by kernel_rfl)
theorem glit26 : ((Tryd.prog.info? 26).map fun i => (i.size, i.zero.isSome)) = some (3, true) := by kernel_rfl
theorem gapp26 : ((Tryd.prog.info? 26).map fun i => (i.size, i.bytes, (i.zero.map fun z => z.cells.size))) = some (3, 40, some 3) := by kernel_rfl
theorem glit3 : ((Tryd.prog.info? 3).map fun i => (i.size, i.zero.isSome)) = some (1, true) := by kernel_rfl
theorem glit76 : ((Tryd.prog.info? 76).map fun i => (i.size, i.zero.isSome)) = some (1, true) := by kernel_rfl
theorem gmk4 : ((Tryd.prog.info? 4).map fun i => (i.size, i.bytes, i.zero.map fun z => z.cells.toList)) = some (1, 1, some [.bool false]) := by kernel_rfl
theorem ghas3 : ((Tryd.prog.info? 3).map (·.size)).isSome = true := by kernel_rfl
theorem gapp3 : ((Tryd.prog.info? 3).map fun i => (i.size, i.bytes, (i.zero.map fun z => z.cells.size))) = some (1, 8, some 1) := by kernel_rfl
theorem gsz3 : (Tryd.prog.info? 3).map (·.size) = some 1 := by kernel_rfl
theorem gone3 : OneCell Tryd.prog 3 := oneCell_of Tryd.underlying3 rfl
theorem gsz4 : (Tryd.prog.info? 4).map (·.size) = some 1 := by kernel_rfl
theorem gone4 : OneCell Tryd.prog 4 := oneCell_of Tryd.underlying4 rfl
theorem gsz76 : (Tryd.prog.info? 76).map (·.size) = some 1 := by kernel_rfl
theorem gone76 : OneCell Tryd.prog 76 := oneCell_of Tryd.underlying76 rfl
theorem gfa26_2 : FieldAt Tryd.prog 26 2 2 := fieldAt_sz (n := 0) (f := ⟨_, _, 2, _, _, _, _⟩) Tryd.underlying26 rfl (by kernel_rfl)
theorem gfa26_0 : FieldAt Tryd.prog 26 0 0 := fieldAt_sz (n := 0) (f := ⟨_, _, 0, _, _, _, _⟩) Tryd.underlying26 rfl (by kernel_rfl)
theorem gfa26_1 : FieldAt Tryd.prog 26 1 1 := fieldAt_sz (n := 0) (f := ⟨_, _, 1, _, _, _, _⟩) Tryd.underlying26 rfl (by kernel_rfl)
theorem geqs26 : ∀ (x0 : List UInt8) (x1 : Int) (x2 : List UInt8) (y0 : List UInt8) (y1 : Int) (y2 : List UInt8) (w : World), (Op.equalIn 10000 26 (.agg #[str x0, i64 x1, str x2]) (.agg #[str y0, i64 y1, str y2])).run Tryd.prog w = .ok (decide (x0 = y0 ∧ x1 = y1 ∧ x2 = y2)) w := by
  intro x0 x1 x2 y0 y1 y2 w
  have hS : Tryd.prog.underlying 26 = some (.struct (Tryd.prog.fieldsOf 26)) := by kernel_rfl
  rw [show (10000 : Nat) = 9999 + 1 from rfl, run_equalIn_agg w 9999 26 _ _ hS (by kernel_rfl)]
  simp only [Program.fieldsOf, Tryd.underlying26]
  go_simp
  by_cases h0 : x0 = y0 <;> by_cases h1 : x1 = y1 <;> by_cases h2 : x2 = y2 <;> simp [h0, h1, h2]
theorem geqg26 : Tryd.prog.eqGuardType Tryd.prog.depth 26 = false := by kernel_rfl
set_option maxRecDepth 100000 in
theorem copyCheck_ct (b : Nat) (p u : Value) (hp : p = .pointer none ∨ p = ptr b 0) (hu : u.oneCell' = true) : Ct Tryd.prog 83 [ptr b 0] Mo.tt (Blk b [p, u] 83) (X := Unit) (fun _ => .tuple #[]) (fun _ => True) (fun _ => Mo.tt) (fun _ => Blk b [ptr b 0, u] 83) := by
  refine Ct.of Tryd.func83 rfl (by kernel_rfl) Tryd.ntmps83 (by simp) fun c => ?_
  rcases hp with rfl | rfl
  · refine VC.seq ?_
    refine VC.region ?_
    refine VL.q (q_move rfl) (by decide) ?_
    refine VL.q (q_nilCheck rfl) (by decide) ?_
    refine VL.q (q_field gfa83_0 rfl) (by decide) ?_
    refine VL.q (q_fe gone81 rfl rfl) (by decide) ?_
    refine VL.q (q_peqn Tryd.underlying81 rfl) (by decide) ?_
    refine VL.to (fun _ _ h => h) ?_
    refine VC.cond_t rfl ?_
    refine VC.region ?_
    refine VL.q (q_move rfl) (by decide) ?_
    refine VL.q (q_move rfl) (by decide) ?_
    refine VL.q (q_tou (n := 1) Tryd.underlying81 Tryd.underlying167 gszb rfl (by simp)) (by decide) ?_
    refine VL.q (q_noEscape Tryd.func118 rfl rfl (by kernel_rfl) (by kernel_rfl) rfl) (by decide) ?_
    refine VL.q (q_fromu (n := 2) (cs := [.pointer none, u]) Tryd.underlying167 Tryd.underlying81 gszb rfl (by kernel_rfl)) (by decide) ?_
    refine VL.q (q_nilCheck rfl) (by decide) ?_
    refine VL.q (q_field gfa83_0 rfl) (by decide) ?_
    refine VL.store (vc := [ptr b 0]) (cs' := [ptr b 0, u]) rfl rfl rfl gsz81 rfl rfl (Nat.le_of_ble_eq_true rfl) rfl ?_
    exact VL.nil (fin0 (.inl rfl) rfl () rfl trivial (fun _ _ => trivial) (by exact EntO.out))
  · refine VC.seq ?_
    refine VC.region ?_
    refine VL.q (q_move rfl) (by decide) ?_
    refine VL.q (q_nilCheck rfl) (by decide) ?_
    refine VL.q (q_field gfa83_0 rfl) (by decide) ?_
    refine VL.q (q_fe gone81 rfl rfl) (by decide) ?_
    refine VL.q (q_peqn Tryd.underlying81 rfl) (by decide) ?_
    refine VL.to (fun _ _ h => h) ?_
    refine VC.cond_f rfl ?_
    refine VC.seq ?_
    refine VC.region ?_
    refine VL.q (q_move rfl) (by decide) ?_
    refine VL.q (q_nilCheck rfl) (by decide) ?_
    refine VL.q (q_field gfa83_0 rfl) (by decide) ?_
    refine VL.q (q_fe gone81 rfl rfl) (by decide) ?_
    refine VL.q (q_move rfl) (by decide) ?_
    refine VL.q (q_pne Tryd.underlying81 gszb rfl rfl) (by decide) ?_
    refine VL.to (fun _ _ h => h) ?_
    refine VC.cond_f rfl ?_
    exact VC.skip (fin0 (.inl rfl) rfl () rfl trivial (fun _ _ => trivial) (by exact EntO.out))

set_option maxRecDepth 100000 in
theorem writeString_ct (b : Nat) (l s : Str) (hb : l.length + s.length ≤ 4294967296) : Ct Tryd.prog 41 [ptr b 0, str s] Mo.tt (Bd 83 5 b l) (X := Unit) (fun _ => .tuple #[i64 s.length, .nilIface]) (fun _ => True) (fun _ => Mo.tt) (fun _ => Bd 83 5 b (l ++ s)) := by
  refine Ct.monoE (E1 := fun z => ∃ q : Value × Sv UInt8, ((q.1 = .pointer none ∨ q.1 = ptr b 0) ∧ q.2.l = l ∧ (q.2.c = 0 → q.2.a = none)) ∧ Ow.star (Blk b [q.1, q.2.val] 83) (q.2.own 5) z) (Ct.exE (entry_of Tryd.func41 rfl (by kernel_rfl)) ?_) (fun z ⟨p, q, h1, h2, h3, h4⟩ => ⟨(p, q), ⟨h1, h2, h3⟩, h4⟩)
  rintro ⟨p, q⟩ ⟨hp, hl, hc⟩
  dsimp only at hp hl hc ⊢
  refine Ct.of Tryd.func41 rfl (by kernel_rfl) Tryd.ntmps41 (by simp) fun c => ?_
  refine VC.seq ?_
  refine VC.region ?_
  refine VL.q (q_assign rfl) (by decide) ?_
  refine VL.q (q_assign rfl) (by decide) ?_
  refine VL.to (fun _ _ h => h) ?_
  refine VC.seq ?_
  refine VC.region ?_
  refine VL.q (q_move rfl) (by decide) ?_
  refine VL.callO (copyCheck_ct b p q.val hp rfl) rfl (by decide) ?_
  rintro _ _
  refine VL.to (fun _ _ h => h) ?_
  refine VC.seq ?_
  refine VC.region ?_
  refine VL.q (q_move rfl) (by decide) ?_
  refine VL.q (q_move rfl) (by decide) ?_
  refine VL.q (q_nilCheck rfl) (by decide) ?_
  refine VL.q (q_field gfa83_1 rfl) (by decide) ?_
  refine VL.q (q_fe gone23 rfl rfl) (by decide) ?_
  refine VL.q (q_move rfl) (by decide) ?_
  refine VL.appS (s := q) (r := s) Tryd.underlying23 Tryd.underlying9 gappb rfl Fo.out (by rw [hl]; exact hb) (by decide) fun q2 hq2 hc2 => ?_
  refine VL.q (q_nilCheck rfl) (by decide) ?_
  refine VL.q (q_field gfa83_1 rfl) (by decide) ?_
  refine VL.store (vc := [q2.val]) (cs' := [ptr b 0, q2.val]) rfl rfl rfl gsz23 rfl rfl (Nat.le_of_ble_eq_true rfl) rfl ?_
  refine VL.to (fun _ _ h => h) ?_
  refine VC.seq ?_
  refine VC.region ?_
  refine VL.q (q_move rfl) (by decide) ?_
  refine VL.q (q_slen Tryd.underlying9 rfl) (by decide) ?_
  refine VL.q (q_assign rfl) (by decide) ?_
  refine VL.q (q_assign rfl) (by decide) ?_
  refine VL.to (fun _ _ h => h) ?_
  exact VC.ret (fin2 (.inr rfl) rfl rfl rfl () rfl trivial (fun _ _ => trivial) (fun z hz => Bd.mk (p := ptr b 0) (s := q2) (.inr rfl) (by rw [hq2, hl]) (hc2 hc) ((EntO.out (E' := Ow.star (Blk b [ptr b 0, q2.val] 83) (q2.own 5))) z hz)))

set_option maxRecDepth 100000 in
theorem string_ct (b : Nat) (l : Str) : Ct Tryd.prog 43 [ptr b 0] Mo.tt (Bd 83 5 b l) (X := Unit) (fun _ => str l) (fun _ => True) (fun _ => Mo.tt) (fun _ => Ow.emp) := by
  refine Ct.monoE (E1 := fun z => ∃ q : Value × Sv UInt8, ((q.1 = .pointer none ∨ q.1 = ptr b 0) ∧ q.2.l = l ∧ (q.2.c = 0 → q.2.a = none)) ∧ Ow.star (Blk b [q.1, q.2.val] 83) (q.2.own 5) z) (Ct.exE (entry_of Tryd.func43 rfl (by kernel_rfl)) ?_) (fun z ⟨p, q, h1, h2, h3, h4⟩ => ⟨(p, q), ⟨h1, h2, h3⟩, h4⟩)
  rintro ⟨p, q⟩ ⟨hp, rfl, hc⟩
  dsimp only at hp hc ⊢
  refine Ct.of Tryd.func43 rfl (by kernel_rfl) Tryd.ntmps43 (by simp) fun c => ?_
  refine VC.seq ?_
  refine VC.region ?_
  refine VL.q (q_assign rfl) (by decide) ?_
  refine VL.to (fun _ _ h => h) ?_
  refine VC.seq ?_
  refine VC.draw [(0, true), (1, true), (2, true), (3, true), (4, true), (5, true), (6, true), (7, true), (8, true), (9, true), (10, false), (11, true)] mixed (by kernel_rfl) (by kernel_rfl) (by kernel_rfl) ?_
  refine VD.q rfl (q_move rfl) (by decide) ?_
  refine VD.q rfl (q_nilCheck rfl) (by decide) ?_
  refine VD.q rfl (q_field gfa83_1 rfl) (by decide) ?_
  refine VD.q rfl (q_fe gone23 rfl rfl) (by decide) ?_
  refine VD.q rfl (q_sdata (s := q) rfl hc) (by decide) ?_
  refine VD.q rfl (q_move rfl) (by decide) ?_
  refine VD.q rfl (q_nilCheck rfl) (by decide) ?_
  refine VD.q rfl (q_field gfa83_1 rfl) (by decide) ?_
  refine VD.q rfl (q_fe gone23 rfl rfl) (by decide) ?_
  refine VD.q rfl (q_ln (s := q) Tryd.underlying23 rfl) (by decide) ?_
  refine VD.one rfl ?_
  refine VL.ustr (s := q) (e := 5) rfl Fo.out (by decide) (fun w h z o l k m => St.ustr (e := 5) Tryd.underlying134 (by kernel_rfl) o l k m) ?_
  refine VL.back (D' := []) (by kernel_rfl) Pend.nil ?_
  refine VD.q rfl (q_assign rfl) (by decide) ?_
  refine VD.to (fun _ _ h => h) ?_
  exact VC.ret (fin1 (.inr rfl) rfl rfl () rfl trivial (fun _ _ => trivial) (fun _ _ => trivial))

set_option maxHeartbeats 4000000 in
set_option maxRecDepth 100000 in
theorem unicode_utf8_RuneCountInString_ct (s_0 : Str) {r : Int} (hS : Sh.unicode_utf8_RuneCountInString s_0 = some r) :
    Ct Tryd.prog 148 [str s_0] Mo.tt (Ow.emp) (X := Unit) (fun _ => i64 r) (fun _ => True) (fun _ => Mo.tt) (fun _ => Ow.emp) := by
  refine Ct.of Tryd.func148 rfl (by kernel_rfl) Tryd.ntmps148 (by simp) fun c => ?_
  unfold Sh.unicode_utf8_RuneCountInString at hS
  refine VC.seq ?_
  refine VC.region ?_
  refine VL.q (q_assign rfl) (by decide) ?_
  refine VL.to (fun _ _ h => h) ?_
  refine VC.seq ?_
  refine VC.seq ?_
  refine VC.region ?_
  refine VL.q (q_move rfl) (by decide) ?_
  cases hS

set_option maxHeartbeats 4000000 in
set_option maxRecDepth 100000 in
theorem unicode_utf8_decodeRuneInStringSlow_ct (a_0 : Str) {r : Int × Int} (hS : Sh.unicode_utf8_decodeRuneInStringSlow a_0 = some r) :
    Ct Tryd.prog 150 [str a_0] Mo.tt (Ow.emp) (X := Unit) (fun _ => .tuple #[.int .i32 r.1, i64 r.2]) (fun _ => True) (fun _ => Mo.tt) (fun _ => Ow.emp) := by
  refine Ct.of Tryd.func150 rfl (by kernel_rfl) Tryd.ntmps150 (by simp) fun c => ?_
  unfold Sh.unicode_utf8_decodeRuneInStringSlow at hS
  refine VC.seq ?_
  refine VC.region ?_
  refine VL.q (q_assign rfl) (by decide) ?_
  refine VL.q (q_assign rfl) (by decide) ?_
  refine VL.to (fun _ _ h => h) ?_
  refine VC.seq ?_
  refine VC.region ?_
  refine VL.q (q_move rfl) (by decide) ?_
  refine VL.q (q_slen Tryd.underlying9 rfl) (by decide) ?_
  refine VL.q (q_assign rfl) (by decide) ?_
  refine VL.to (fun _ _ h => h) ?_
  refine VC.seq ?_
  refine VC.seq ?_
  refine VC.region ?_
  refine VL.q (q_move rfl) (by decide) ?_
  refine VL.q (q_lss rfl rfl) (by decide) ?_
  refine VL.to (fun _ _ h => h) ?_
  refine VC.cond_dec rfl (fun h16 => ?_) (fun h16 => ?_)
  ·
    replace hS := it_t h16 hS
    refine VC.seq ?_
    refine VC.region ?_
    refine VL.q (q_assign rfl) (by decide) ?_
    refine VL.q (q_assign rfl) (by decide) ?_
    refine VL.to (fun _ _ h => h) ?_
    cases hS
    exact VC.ret (fin2 (.inr rfl) rfl rfl rfl () rfl trivial (fun _ _ => trivial) (fun _ _ => trivial))
  ·
    replace hS := it_f h16 hS
    refine VC.skip_to (fun _ _ h => h) ?_
    refine VC.seq ?_
    refine VC.region ?_
    refine VL.q (q_move rfl) (by decide) ?_
    obtain ⟨z18_1, nz18_1, hz18_1, hS⟩ := at_s hS
    refine VL.q (q_sidx Tryd.underlying9 rfl rfl nz18_1 hz18_1) (by decide) ?_
    refine VL.q (q_assign rfl) (by decide) ?_
    refine VL.to (fun _ _ h => h) ?_
    refine VC.keep [0, 4, 5] rfl ?_
    refine VC.seq ?_
    refine VC.region ?_
    refine VL.q (q_move rfl) (by decide) ?_
    cases hS

set_option maxHeartbeats 4000000 in
set_option maxRecDepth 100000 in
theorem unicode_utf8_DecodeRuneInString_ct (s_0 : Str) {r : Int × Int} (hS : Sh.unicode_utf8_DecodeRuneInString s_0 = some r) :
    Ct Tryd.prog 124 [str s_0] Mo.tt (Ow.emp) (X := Unit) (fun _ => .tuple #[.int .i32 r.1, i64 r.2]) (fun _ => True) (fun _ => Mo.tt) (fun _ => Ow.emp) := by
  refine Ct.of Tryd.func124 rfl (by kernel_rfl) Tryd.ntmps124 (by simp) fun c => ?_
  unfold Sh.unicode_utf8_DecodeRuneInString at hS
  refine VC.seq ?_
  refine VC.region ?_
  refine VL.q (q_assign rfl) (by decide) ?_
  refine VL.q (q_assign rfl) (by decide) ?_
  refine VL.to (fun _ _ h => h) ?_
  refine VC.seq ?_
  refine VC.cutJ (S := Bool) (fun (x10_1 : Bool) => x10_1) (fun (x10_1 : Bool) => [(0, str s_0), (10, .bool x10_1)]) (fun (x10_1 : Bool) => Mo.tt) (fun (x10_1 : Bool) => Ow.emp) hS ?_ ?_
  · -- up to where ways meet
    clear hS
    intro k2 hS
    refine VC.region ?_
    refine VL.q (q_move rfl) (by decide) ?_
    refine VL.q (q_sne rfl rfl) (by decide) ?_
    refine VL.q (q_move rfl) (by decide) ?_
    refine VL.split_ndec 6 rfl (fun h6 => ?_) (fun h6 => ?_)
    ·
      replace hS := it_f h6 hS
      refine VL.gy rfl rfl (q_move rfl) (by decide) ?_
      obtain ⟨z8_3, nz8_3, hz8_3, hS⟩ := at_s hS
      refine VL.gy rfl rfl (q_sidx Tryd.underlying9 rfl rfl nz8_3 hz8_3) (by decide) ?_
      refine VL.gy rfl rfl (q_lss rfl rfl) (by decide) ?_
      refine VL.q (q_pick_t rfl rfl) (by decide) ?_
      refine VL.mt (decide ((z8_3.toNat : Int) < 128)) [0, 10] (fun _ _ h => h) hS rfl
    ·
      replace hS := it_t h6 hS
      refine VL.gn rfl rfl rfl (by decide) ?_
      refine VL.gn rfl rfl rfl (by decide) ?_
      refine VL.gn rfl rfl rfl (by decide) ?_
      refine VL.q (q_pick_f rfl rfl) (by decide) ?_
      refine VL.mt false [0, 10] (fun _ _ h => h) hS rfl
  · -- from there
    clear hS
    rintro x10_1 hS
    show VC _ _ _ _ _ [(0, str s_0), (10, .bool x10_1)] (Mo.and Mo.tt _) (Ow.emp)
    refine VC.cond rfl (fun h10 => ?_) (fun h10 => ?_)
    ·
      replace hS := it_t h10 hS
      refine VC.seq ?_
      refine VC.region ?_
      refine VL.q (q_move rfl) (by decide) ?_
      obtain ⟨z12_4, nz12_4, hz12_4, hS⟩ := at_s hS
      refine VL.q (q_sidx Tryd.underlying9 rfl rfl nz12_4 hz12_4) (by decide) ?_
      refine VL.q (q_conv Tryd.underlying5 Tryd.underlying21 rfl (wr_i32 z12_4)) (by decide) ?_
      refine VL.q (q_assign rfl) (by decide) ?_
      refine VL.q (q_assign rfl) (by decide) ?_
      refine VL.to (fun _ _ h => h) ?_
      cases hS
      exact VC.ret (fin2 (.inr rfl) rfl rfl rfl () rfl trivial (fun _ _ => trivial) (fun _ _ => trivial))
    ·
      replace hS := it_b h10 hS
      refine VC.region ?_
      refine VL.q (q_move rfl) (by decide) ?_
      obtain ⟨y16_5, ey16_5, hS⟩ := bd_s hS
      refine VL.q (q_call (unicode_utf8_decodeRuneInStringSlow_ct s_0 ey16_5) rfl (fun _ _ => rfl)) (by decide) ?_
      refine VL.q (q_move rfl) (by decide) ?_
      refine VL.q (q_extract rfl rfl) (by decide) ?_
      refine VL.q (q_extract rfl rfl) (by decide) ?_
      refine VL.q (q_assign rfl) (by decide) ?_
      refine VL.q (q_assign rfl) (by decide) ?_
      refine VL.to (fun _ _ h => h) ?_
      cases hS
      exact VC.ret (fin2 (.inr rfl) rfl rfl rfl () rfl trivial (fun _ _ => trivial) (fun _ _ => trivial))

set_option maxHeartbeats 4000000 in
set_option maxRecDepth 100000 in
theorem strings_explode_ct (s_0 : Str) (n_1 : Int) {r : List Str} (hS : Sh.strings_explode s_0 n_1 = some r) :
    Ct Tryd.prog 120 [str s_0, i64 n_1] Mo.tt (Ow.emp) (X := Sv Str) (fun x => x.val) (fun x => r = x.l) (fun x => Mo.tt) (fun x => Sv.own x 9) := by
  refine Ct.of Tryd.func120 rfl (by kernel_rfl) Tryd.ntmps120 (by simp) fun c => ?_
  unfold Sh.strings_explode at hS
  refine VC.seq ?_
  refine VC.region ?_
  refine VL.q (q_assign rfl) (by decide) ?_
  refine VL.to (fun _ _ h => h) ?_
  refine VC.seq ?_
  refine VC.region ?_
  refine VL.q (q_move rfl) (by decide) ?_
  obtain ⟨y11_1, ey11_1, hS⟩ := bd_s hS
  refine VL.q (q_call (unicode_utf8_RuneCountInString_ct s_0 ey11_1) rfl (fun _ _ => rfl)) (by decide) ?_
  refine VL.q (q_assign rfl) (by decide) ?_
  refine VL.to (fun _ _ h => h) ?_
  refine VC.cutJ (S := Int) (fun (n1_2 : Int) => n1_2) (fun (n1_2 : Int) => [(0, str s_0), (1, i64 n1_2)]) (fun (n1_2 : Int) => Mo.tt) (fun (n1_2 : Int) => Ow.emp) hS ?_ ?_
  · -- up to where ways meet
    clear hS
    intro k3 hS
    refine VC.cutJ (S := Bool) (fun (x18_4 : Bool) => x18_4) (fun (x18_4 : Bool) => [(0, str s_0), (1, i64 n_1), (5, i64 y11_1), (18, .bool x18_4)]) (fun (x18_4 : Bool) => Mo.tt) (fun (x18_4 : Bool) => Ow.emp) hS ?_ ?_
    · -- up to where ways meet
      clear hS
      intro k5 hS
      refine VC.region ?_
      refine VL.q (q_move rfl) (by decide) ?_
      refine VL.q (q_lss rfl rfl) (by decide) ?_
      refine VL.q (q_move rfl) (by decide) ?_
      refine VL.split_dec 14 rfl (fun h14 => ?_) (fun h14 => ?_)
      ·
        replace hS := it_t h14 hS
        refine VL.gn rfl rfl rfl (by decide) ?_
        refine VL.gn rfl rfl rfl (by decide) ?_
        refine VL.gn rfl rfl rfl (by decide) ?_
        refine VL.q (q_pick_t rfl rfl) (by decide) ?_
        refine VL.mt true [0, 1, 5, 18] (fun _ _ h => h) hS rfl
      ·
        replace hS := it_f h14 hS
        refine VL.gy rfl rfl (q_move rfl) (by decide) ?_
        refine VL.gy rfl rfl (q_move rfl) (by decide) ?_
        refine VL.gy rfl rfl (q_gtr rfl rfl) (by decide) ?_
        refine VL.q (q_pick_f rfl rfl) (by decide) ?_
        refine VL.mt (decide (y11_1 < n_1)) [0, 1, 5, 18] (fun _ _ h => h) hS rfl
    · -- from there
      clear hS
      rintro x18_4 hS
      show VC _ _ _ _ _ [(0, str s_0), (1, i64 n_1), (5, i64 y11_1), (18, .bool x18_4)] (Mo.and Mo.tt _) (Ow.emp)
      refine VC.cond rfl (fun h18 => ?_) (fun h18 => ?_)
      ·
        replace hS := it_t h18 hS
        refine VC.region ?_
        refine VL.q (q_move rfl) (by decide) ?_
        refine VL.q (q_assign rfl) (by decide) ?_
        refine VL.mt y11_1 [0, 1] (fun _ _ h => h) hS rfl
      ·
        replace hS := it_b h18 hS
        refine VC.skip_mt n_1 [0, 1] (fun _ _ h => h) hS rfl
  · -- from there
    clear hS
    rintro n1_2 hS
    show VC _ _ _ _ _ [(0, str s_0), (1, i64 n1_2)] (Mo.and Mo.tt _) (Ow.emp)
    refine VC.seq ?_
    refine VC.region ?_
    refine VL.q (q_move rfl) (by decide) ?_
    obtain ⟨b21, hS⟩ := gd_s hS
    refine VL.make (α := Str) (z := []) Tryd.underlying38 gmk9 (by decide) rfl rfl b21.1 (Int.le_refl _) (by omega) (by omega) (by decide) (fun s21_6 hs21_6 => ?_)
    replace hS := lt_to hs21_6 hS
    refine VL.q (q_assign rfl) (by decide) ?_
    refine VL.to (fun _ _ h => h) ?_
    refine VC.seq ?_
    refine VC.seq ?_
    refine VC.region ?_
    refine VL.q (q_assign rfl) (by decide) ?_
    refine VL.to (fun _ _ h => h) ?_
    refine VC.block ?_
    refine VC.iter (S := Str × Sv Str × Int) (fun sg => (sg.1, sg.2.1.l, sg.2.2)) (fun sg => [(0, str sg.1), (1, i64 n1_2), (6, sg.2.1.val), (7, i64 sg.2.2)]) (fun sg => Mo.tt) (fun sg => Ow.star (Sv.own sg.2.1 9) (Ow.emp)) (s_0, s21_6, 0) [0, 1, 6, 7] hS rfl ?_
    clear hS
    rintro ⟨s0_8, a6_9, i7_10⟩ m1 y1 hS hK1
    show VC _ _ _ _ _ [(0, str s0_8), (1, i64 n1_2), (6, a6_9.val), (7, i64 i7_10)] (Mo.and Mo.tt _) (Ow.star (Sv.own a6_9 9) (Ow.emp))
    refine VC.seq ?_
    refine VC.seq ?_
    refine VC.region ?_
    refine VL.q (q_move rfl) (by decide) ?_
    refine VL.q (q_move rfl) (by decide) ?_
    obtain ⟨b24, hS⟩ := gd_s hS
    refine VL.q (q_sub rfl rfl b24) (by decide) ?_
    refine VL.q (q_lss rfl rfl) (by decide) ?_
    refine VL.to (fun _ _ h => h) ?_
    refine VC.cond_dec rfl (fun h25 => ?_) (fun h25 => ?_)
    ·
      replace hS := it_t h25 hS
      refine VC.skip_to (fun _ _ h => h) ?_
      refine VC.seq ?_
      refine VC.block ?_
      refine VC.seq ?_
      refine VC.region ?_
      refine VL.q (q_move rfl) (by decide) ?_
      obtain ⟨y30_11, ey30_11, hS⟩ := bd_s hS
      refine VL.q (q_call (unicode_utf8_DecodeRuneInString_ct s0_8 ey30_11) rfl (fun _ _ => rfl)) (by decide) ?_
      refine VL.q (q_move rfl) (by decide) ?_
      refine VL.q (q_extract rfl rfl) (by decide) ?_
      refine VL.q (q_extract rfl rfl) (by decide) ?_
      refine VL.q (q_assign rfl) (by decide) ?_
      refine VL.q (q_assign rfl) (by decide) ?_
      refine VL.to (fun _ _ h => h) ?_
      refine VC.keep [0, 1, 6, 7, 9] rfl ?_
      refine VC.seq ?_
      refine VC.region ?_
      refine VL.q (q_move rfl) (by decide) ?_
      refine VL.q (q_move rfl) (by decide) ?_
      refine VL.q (q_move rfl) (by decide) ?_
      refine VL.q (q_move rfl) (by decide) ?_
      obtain ⟨b37, hS⟩ := gd_s hS
      obtain ⟨y37_12, ey37_12, hS⟩ := lt_s hS
      refine VL.q (q_stoE Tryd.underlying9 rfl rfl b37.1 b37.2 ey37_12) (by decide) ?_
      obtain ⟨z38_13, nz38_13, hz38_13, hS⟩ := at_s hS
      refine VL.q (q_ixo (s := a6_9) Tryd.underlying38 gsz9 rfl rfl nz38_13 (lt_of_get nz38_13 hz38_13)) (by decide) ?_
      refine VL.storeE (s := a6_9) (T := 9) (j := 0) (vc := [str y37_12]) (y37_12 : Str) (by decide) rfl rfl hz38_13 rfl gsz9 rfl rfl (Nat.le_of_ble_eq_true rfl) rfl (fun w14 hw14 haw14 hcw14 hvw14 hbw14 how14 => ?_)
      rw [← hvw14]
      replace hS := lt_to hw14 hS
      refine VL.to (fun _ _ h => h) ?_
      refine VC.region ?_
      refine VL.q (q_move rfl) (by decide) ?_
      refine VL.q (q_move rfl) (by decide) ?_
      obtain ⟨b41, hS⟩ := gd_s hS
      obtain ⟨y41_16, ey41_16, hS⟩ := lt_s hS
      refine VL.q (q_sfromE Tryd.underlying9 rfl rfl b41.1 b41.2 ey41_16) (by decide) ?_
      refine VL.q (q_assign rfl) (by decide) ?_
      refine VL.to (fun _ _ h => h) ?_
      refine VC.keep [0, 1, 6, 7] rfl ?_
      refine VC.region ?_
      refine VL.q (q_move rfl) (by decide) ?_
      obtain ⟨b27, hS⟩ := gd_s hS
      refine VL.q (q_add rfl rfl b27) (by decide) ?_
      refine VL.q (q_assign rfl) (by decide) ?_
      refine VL.rnd (y41_16, w14, (i7_10 + 1)) [0, 1, 6, 7] (fun _ _ h => h) (go2 hS hK1) rfl
    ·
      replace hS := it_f h25 hS
      replace hS := up2 hS hK1
      refine VC.exit_to (fun _ _ h => h) ?_
      refine VC.seq ?_
      refine VC.seq ?_
      refine VC.region ?_
      refine VL.q (q_move rfl) (by decide) ?_
      refine VL.q (q_gtr rfl rfl) (by decide) ?_
      refine VL.to (fun _ _ h => h) ?_
      refine VC.cond_dec rfl (fun h43 => ?_) (fun h43 => ?_)
      ·
        replace hS := it_t h43 hS
        refine VC.region ?_
        refine VL.q (q_move rfl) (by decide) ?_
        refine VL.q (q_move rfl) (by decide) ?_
        obtain ⟨b46, hS⟩ := gd_s hS
        refine VL.q (q_sub rfl rfl b46) (by decide) ?_
        refine VL.q (q_move rfl) (by decide) ?_
        obtain ⟨z48_17, nz48_17, hz48_17, hS⟩ := at_s hS
        refine VL.q (q_ixo (s := a6_9) Tryd.underlying38 gsz9 rfl rfl nz48_17 (lt_of_get nz48_17 hz48_17)) (by decide) ?_
        refine VL.storeE (s := a6_9) (T := 9) (j := 0) (vc := [str s0_8]) (s0_8 : Str) (by decide) rfl rfl hz48_17 rfl gsz9 rfl rfl (Nat.le_of_ble_eq_true rfl) rfl (fun w18 hw18 haw18 hcw18 hvw18 hbw18 how18 => ?_)
        rw [← hvw18]
        replace hS := lt_to hw18 hS
        refine VL.to (fun _ _ h => h) ?_
        refine VC.keep [6] rfl ?_
        refine VC.seq ?_
        refine VC.region ?_
        refine VL.q (q_move rfl) (by decide) ?_
        refine VL.q (q_assign rfl) (by decide) ?_
        refine VL.to (fun _ _ h => h) ?_
        cases hS
        exact VC.ret (fin1 (.inr rfl) rfl rfl w18 rfl rfl (by (try dsimp only); exact InM.out) (by (try dsimp only); exact EntO.out))
      ·
        replace hS := it_f h43 hS
        refine VC.skip_to (fun _ _ h => h) ?_
        refine VC.seq ?_
        refine VC.region ?_
        refine VL.q (q_move rfl) (by decide) ?_
        refine VL.q (q_assign rfl) (by decide) ?_
        refine VL.to (fun _ _ h => h) ?_
        refine VC.keep [4] rfl ?_
        cases hS
        exact VC.ret (fin1 (.inr rfl) rfl rfl a6_9 rfl rfl (by (try dsimp only); exact InM.out) (by (try dsimp only); exact EntO.out))

set_option maxHeartbeats 4000000 in
set_option maxRecDepth 100000 in
theorem internal_stringslite_IndexByte_ct (s_0 : Str) (c_1 : Int) {r : Int} (hS : Sh.internal_stringslite_IndexByte s_0 c_1 = some r) :
    Ct Tryd.prog 168 [str s_0, .int .u8 c_1] Mo.tt (Ow.emp) (X := Unit) (fun _ => i64 r) (fun _ => True) (fun _ => Mo.tt) (fun _ => Ow.emp) := by
  refine Ct.of Tryd.func168 rfl (by kernel_rfl) Tryd.ntmps168 (by simp) fun c => ?_
  unfold Sh.internal_stringslite_IndexByte at hS
  refine VC.seq ?_
  refine VC.region ?_
  refine VL.q (q_assign rfl) (by decide) ?_
  refine VL.to (fun _ _ h => h) ?_
  refine VC.seq ?_
  refine VC.region ?_
  refine VL.q (q_move rfl) (by decide) ?_
  refine VL.q (q_move rfl) (by decide) ?_
  refine VL.q (q_extern Tryd.func185 rfl rfl (by kernel_rfl) (by kernel_rfl) rfl (fun w => x_ixS s_0 c_1 w)) (by decide) ?_
  refine VL.q (q_assign rfl) (by decide) ?_
  refine VL.to (fun _ _ h => h) ?_
  cases hS
  exact VC.ret (fin1 (.inr rfl) rfl rfl () rfl trivial (fun _ _ => trivial) (fun _ _ => trivial))

set_option maxHeartbeats 4000000 in
set_option maxRecDepth 100000 in
theorem internal_stringslite_Index_ct (a_0 : Str) (a_1 : Str) {r : Int} (hS : Sh.internal_stringslite_Index a_0 a_1 = some r) :
    Ct Tryd.prog 136 [str a_0, str a_1] Mo.tt (Ow.emp) (X := Unit) (fun _ => i64 r) (fun _ => True) (fun _ => Mo.tt) (fun _ => Ow.emp) := by
  refine Ct.of Tryd.func136 rfl (by kernel_rfl) Tryd.ntmps136 (by simp) fun c => ?_
  unfold Sh.internal_stringslite_Index at hS
  refine VC.seq ?_
  refine VC.region ?_
  refine VL.q (q_assign rfl) (by decide) ?_
  refine VL.to (fun _ _ h => h) ?_
  refine VC.seq ?_
  refine VC.region ?_
  refine VL.q (q_move rfl) (by decide) ?_
  refine VL.q (q_slen Tryd.underlying9 rfl) (by decide) ?_
  refine VL.q (q_assign rfl) (by decide) ?_
  refine VL.to (fun _ _ h => h) ?_
  refine VC.seq ?_
  refine VC.block ?_
  refine VC.cutJ (S := Bool) (fun (x16_1 : Bool) => x16_1) (fun (x16_1 : Bool) => [(0, str a_0), (1, str a_1), (5, i64 (a_1.length : Int)), (16, .bool x16_1)]) (fun (x16_1 : Bool) => Mo.tt) (fun (x16_1 : Bool) => Ow.emp) hS ?_ ?_
  · -- up to where ways meet
    clear hS
    intro k2 hS
    refine VC.region ?_
    refine VL.q (q_move rfl) (by decide) ?_
    refine VL.q (q_eql rfl rfl) (by decide) ?_
    refine VL.q (q_move rfl) (by decide) ?_
    refine VL.split_dec 19 rfl (fun h19 => ?_) (fun h19 => ?_)
    ·
      replace hS := it_t h19 hS
      refine VL.gn rfl rfl rfl (by decide) ?_
      refine VL.gn rfl rfl rfl (by decide) ?_
      refine VL.gn rfl rfl rfl (by decide) ?_
      refine VL.q (q_pick_t rfl rfl) (by decide) ?_
      refine VL.q (q_assign rfl) (by decide) ?_
      refine VL.mt true [0, 1, 5, 16] (fun _ _ h => h) hS rfl
    ·
      replace hS := it_f h19 hS
      refine VL.gy rfl rfl (q_move rfl) (by decide) ?_
      refine VL.gy rfl rfl (q_move rfl) (by decide) ?_
      refine VL.gy rfl rfl (q_seq rfl rfl) (by decide) ?_
      refine VL.q (q_pick_f rfl rfl) (by decide) ?_
      refine VL.q (q_assign rfl) (by decide) ?_
      refine VL.mt (decide (a_1 = a_0)) [0, 1, 5, 16] (fun _ _ h => h) hS rfl
  · -- from there
    clear hS
    rintro x16_1 hS
    show VC _ _ _ _ _ [(0, str a_0), (1, str a_1), (5, i64 (a_1.length : Int)), (16, .bool x16_1)] (Mo.and Mo.tt _) (Ow.emp)
    refine VC.cond rfl (fun h16 => ?_) (fun h16 => ?_)
    ·
      replace hS := it_t h16 hS
      refine VC.seq ?_
      refine VC.region ?_
      refine VL.q (q_assign rfl) (by decide) ?_
      refine VL.to (fun _ _ h => h) ?_
      cases hS
      exact VC.ret (fin1 (.inr rfl) rfl rfl () rfl trivial (fun _ _ => trivial) (fun _ _ => trivial))
    ·
      replace hS := it_b h16 hS
      refine VC.seq ?_
      refine VC.region ?_
      refine VL.q (q_move rfl) (by decide) ?_
      refine VL.q (q_eql rfl rfl) (by decide) ?_
      refine VL.q (q_assign rfl) (by decide) ?_
      refine VL.to (fun _ _ h => h) ?_
      refine VC.cond_dec rfl (fun h24 => ?_) (fun h24 => ?_)
      ·
        replace hS := it_t h24 hS
        refine VC.seq ?_
        refine VC.region ?_
        refine VL.q (q_move rfl) (by decide) ?_
        refine VL.q (q_move rfl) (by decide) ?_
        obtain ⟨z29_3, nz29_3, hz29_3, hS⟩ := at_s hS
        refine VL.q (q_sidx Tryd.underlying9 rfl rfl nz29_3 hz29_3) (by decide) ?_
        obtain ⟨y30_4, ey30_4, hS⟩ := bd_s hS
        refine VL.q (q_call (internal_stringslite_IndexByte_ct a_0 (z29_3.toNat : Int) ey30_4) rfl (fun _ _ => rfl)) (by decide) ?_
        refine VL.q (q_assign rfl) (by decide) ?_
        refine VL.to (fun _ _ h => h) ?_
        refine VC.keep [4] rfl ?_
        cases hS
        exact VC.ret (fin1 (.inr rfl) rfl rfl () rfl trivial (fun _ _ => trivial) (fun _ _ => trivial))
      ·
        replace hS := it_f h24 hS
        refine VC.seq ?_
        refine VC.region ?_
        refine VL.q (q_move rfl) (by decide) ?_
        refine VL.q (q_move rfl) (by decide) ?_
        refine VL.q (q_slen Tryd.underlying9 rfl) (by decide) ?_
        refine VL.q (q_geq rfl rfl) (by decide) ?_
        refine VL.q (q_assign rfl) (by decide) ?_
        refine VL.to (fun _ _ h => h) ?_
        refine VC.keep [0, 1, 5, 31] rfl ?_
        refine VC.cond_dec rfl (fun h31 => ?_) (fun h31 => ?_)
        ·
          replace hS := it_t h31 hS
          refine VC.seq ?_
          refine VC.region ?_
          refine VL.q (q_assign rfl) (by decide) ?_
          refine VL.to (fun _ _ h => h) ?_
          cases hS
          exact VC.ret (fin1 (.inr rfl) rfl rfl () rfl trivial (fun _ _ => trivial) (fun _ _ => trivial))
        ·
          replace hS := it_f h31 hS
          refine VC.seq ?_
          refine VC.region ?_
          refine VL.q (q_move rfl) (by decide) ?_
          cases hS

set_option maxHeartbeats 4000000 in
set_option maxRecDepth 100000 in
theorem strings_Index_ct (s_0 : Str) (substr_1 : Str) {r : Int} (hS : Sh.strings_Index s_0 substr_1 = some r) :
    Ct Tryd.prog 122 [str s_0, str substr_1] Mo.tt (Ow.emp) (X := Unit) (fun _ => i64 r) (fun _ => True) (fun _ => Mo.tt) (fun _ => Ow.emp) := by
  refine Ct.of Tryd.func122 rfl (by kernel_rfl) Tryd.ntmps122 (by simp) fun c => ?_
  unfold Sh.strings_Index at hS
  refine VC.seq ?_
  refine VC.region ?_
  refine VL.q (q_assign rfl) (by decide) ?_
  refine VL.to (fun _ _ h => h) ?_
  refine VC.seq ?_
  refine VC.region ?_
  refine VL.q (q_move rfl) (by decide) ?_
  refine VL.q (q_move rfl) (by decide) ?_
  obtain ⟨y7_1, ey7_1, hS⟩ := bd_s hS
  refine VL.q (q_call (internal_stringslite_Index_ct s_0 substr_1 ey7_1) rfl (fun _ _ => rfl)) (by decide) ?_
  refine VL.q (q_assign rfl) (by decide) ?_
  refine VL.to (fun _ _ h => h) ?_
  cases hS
  exact VC.ret (fin1 (.inr rfl) rfl rfl () rfl trivial (fun _ _ => trivial) (fun _ _ => trivial))

set_option maxHeartbeats 4000000 in
set_option maxRecDepth 100000 in
theorem strings_Count_ct (s_0 : Str) (substr_1 : Str) {r : Int} (hS : Sh.strings_Count s_0 substr_1 = some r) :
    Ct Tryd.prog 121 [str s_0, str substr_1] Mo.tt (Ow.emp) (X := Unit) (fun _ => i64 r) (fun _ => True) (fun _ => Mo.tt) (fun _ => Ow.emp) := by
  refine Ct.of Tryd.func121 rfl (by kernel_rfl) Tryd.ntmps121 (by simp) fun c => ?_
  unfold Sh.strings_Count at hS
  refine VC.seq ?_
  refine VC.region ?_
  refine VL.q (q_assign rfl) (by decide) ?_
  refine VL.to (fun _ _ h => h) ?_
  refine VC.seq ?_
  refine VC.seq ?_
  refine VC.region ?_
  refine VL.q (q_move rfl) (by decide) ?_
  refine VL.q (q_slen Tryd.underlying9 rfl) (by decide) ?_
  refine VL.q (q_eql rfl rfl) (by decide) ?_
  refine VL.to (fun _ _ h => h) ?_
  refine VC.cond_dec rfl (fun h9 => ?_) (fun h9 => ?_)
  ·
    replace hS := it_t h9 hS
    refine VC.seq ?_
    refine VC.region ?_
    refine VL.q (q_move rfl) (by decide) ?_
    obtain ⟨y11_1, ey11_1, hS⟩ := bd_s hS
    refine VL.q (q_call (unicode_utf8_RuneCountInString_ct s_0 ey11_1) rfl (fun _ _ => rfl)) (by decide) ?_
    obtain ⟨b12, hS⟩ := gd_s hS
    refine VL.q (q_add rfl rfl b12) (by decide) ?_
    refine VL.q (q_assign rfl) (by decide) ?_
    refine VL.to (fun _ _ h => h) ?_
    cases hS
    exact VC.ret (fin1 (.inr rfl) rfl rfl () rfl trivial (fun _ _ => trivial) (fun _ _ => trivial))
  ·
    replace hS := it_f h9 hS
    refine VC.skip_to (fun _ _ h => h) ?_
    refine VC.seq ?_
    refine VC.seq ?_
    refine VC.region ?_
    refine VL.q (q_move rfl) (by decide) ?_
    refine VL.q (q_slen Tryd.underlying9 rfl) (by decide) ?_
    refine VL.q (q_eql rfl rfl) (by decide) ?_
    refine VL.to (fun _ _ h => h) ?_
    refine VC.cond_dec rfl (fun h15 => ?_) (fun h15 => ?_)
    ·
      replace hS := it_t h15 hS
      refine VC.seq ?_
      refine VC.region ?_
      refine VL.q (q_move rfl) (by decide) ?_
      refine VL.q (q_move rfl) (by decide) ?_
      obtain ⟨z18_2, nz18_2, hz18_2, hS⟩ := at_s hS
      refine VL.q (q_sidx Tryd.underlying9 rfl rfl nz18_2 hz18_2) (by decide) ?_
      refine VL.q (q_extern Tryd.func149 rfl rfl (by kernel_rfl) (by kernel_rfl) rfl (fun w => x_cntS s_0 (z18_2.toNat : Int) w)) (by decide) ?_
      refine VL.q (q_assign rfl) (by decide) ?_
      refine VL.to (fun _ _ h => h) ?_
      refine VC.keep [4] rfl ?_
      cases hS
      exact VC.ret (fin1 (.inr rfl) rfl rfl () rfl trivial (fun _ _ => trivial) (fun _ _ => trivial))
    ·
      replace hS := it_f h15 hS
      refine VC.skip_to (fun _ _ h => h) ?_
      refine VC.seq ?_
      refine VC.region ?_
      refine VL.q (q_assign rfl) (by decide) ?_
      refine VL.to (fun _ _ h => h) ?_
      refine VC.block ?_
      refine VC.iter (S := Str × Int) (fun sg => (sg.1, sg.2)) (fun sg => [(0, str sg.1), (1, str substr_1), (5, i64 sg.2)]) (fun sg => Mo.tt) (fun sg => Ow.emp) (s_0, 0) [0, 1, 5] hS rfl ?_
      clear hS
      rintro ⟨s0_3, n5_4⟩ m1 y1 hS hK1
      show VC _ _ _ _ _ [(0, str s0_3), (1, str substr_1), (5, i64 n5_4)] (Mo.and Mo.tt _) (Ow.emp)
      refine VC.block ?_
      refine VC.seq ?_
      refine VC.region ?_
      refine VL.q (q_move rfl) (by decide) ?_
      refine VL.q (q_move rfl) (by decide) ?_
      obtain ⟨y22_5, ey22_5, hS⟩ := bd_s hS
      refine VL.q (q_call (strings_Index_ct s0_3 substr_1 ey22_5) rfl (fun _ _ => rfl)) (by decide) ?_
      refine VL.q (q_assign rfl) (by decide) ?_
      refine VL.to (fun _ _ h => h) ?_
      refine VC.seq ?_
      refine VC.seq ?_
      refine VC.region ?_
      refine VL.q (q_move rfl) (by decide) ?_
      refine VL.q (q_eql rfl rfl) (by decide) ?_
      refine VL.to (fun _ _ h => h) ?_
      refine VC.cond_dec rfl (fun h24 => ?_) (fun h24 => ?_)
      ·
        replace hS := it_t h24 hS
        refine VC.seq ?_
        refine VC.region ?_
        refine VL.q (q_move rfl) (by decide) ?_
        refine VL.q (q_assign rfl) (by decide) ?_
        refine VL.to (fun _ _ h => h) ?_
        refine VC.keep [4] rfl ?_
        replace hS := up2 hS hK1
        cases hS
        exact VC.ret (fin1 (.inr rfl) rfl rfl () rfl trivial (fun _ _ => trivial) (fun _ _ => trivial))
      ·
        replace hS := it_f h24 hS
        refine VC.skip_to (fun _ _ h => h) ?_
        refine VC.seq ?_
        refine VC.region ?_
        refine VL.q (q_move rfl) (by decide) ?_
        obtain ⟨b27, hS⟩ := gd_s hS
        refine VL.q (q_add rfl rfl b27) (by decide) ?_
        refine VL.q (q_assign rfl) (by decide) ?_
        refine VL.to (fun _ _ h => h) ?_
        refine VC.keep [0, 1, 5, 6] rfl ?_
        refine VC.region ?_
        refine VL.q (q_move rfl) (by decide) ?_
        refine VL.q (q_move rfl) (by decide) ?_
        refine VL.q (q_move rfl) (by decide) ?_
        refine VL.q (q_slen Tryd.underlying9 rfl) (by decide) ?_
        obtain ⟨b32, hS⟩ := gd_s hS
        refine VL.q (q_add rfl rfl b32) (by decide) ?_
        obtain ⟨b33, hS⟩ := gd_s hS
        obtain ⟨y33_6, ey33_6, hS⟩ := lt_s hS
        refine VL.q (q_sfromE Tryd.underlying9 rfl rfl b33.1 b33.2 ey33_6) (by decide) ?_
        refine VL.q (q_assign rfl) (by decide) ?_
        refine VL.rnd (y33_6, (n5_4 + 1)) [0, 1, 5] (fun _ _ h => h) (go2 hS hK1) rfl

set_option maxHeartbeats 4000000 in
set_option maxRecDepth 100000 in
theorem strings_genSplit_ct (a_0 : Str) (a_1 : Str) (a_2 : Int) (a_3 : Int) {r : List Str} (hS : Sh.strings_genSplit a_0 a_1 a_2 a_3 = some r) :
    Ct Tryd.prog 85 [str a_0, str a_1, i64 a_2, i64 a_3] Mo.tt (Ow.emp) (X := Sv Str) (fun x => x.val) (fun x => r = x.l) (fun x => x.ok) (fun x => Ow.emp) := by
  refine Ct.of Tryd.func85 rfl (by kernel_rfl) Tryd.ntmps85 (by simp) fun c => ?_
  unfold Sh.strings_genSplit at hS
  refine VC.seq ?_
  refine VC.region ?_
  refine VL.q (q_assign rfl) (by decide) ?_
  refine VL.to (fun _ _ h => h) ?_
  refine VC.seq ?_
  refine VC.seq ?_
  refine VC.region ?_
  refine VL.q (q_move rfl) (by decide) ?_
  refine VL.q (q_eql rfl rfl) (by decide) ?_
  refine VL.to (fun _ _ h => h) ?_
  refine VC.cond_dec rfl (fun h13 => ?_) (fun h13 => ?_)
  ·
    replace hS := it_t h13 hS
    refine VC.seq ?_
    refine VC.region ?_
    refine VL.q (q_assign rfl) (by decide) ?_
    refine VL.to (fun _ _ h => h) ?_
    cases hS
    exact VC.ret (fin1 (.inr rfl) rfl rfl ⟨none, 0, []⟩ rfl rfl (by (try dsimp only); exact InM.out) (fun _ _ => trivial))
  ·
    replace hS := it_f h13 hS
    refine VC.skip_to (fun _ _ h => h) ?_
    refine VC.seq ?_
    refine VC.seq ?_
    refine VC.region ?_
    refine VL.q (q_move rfl) (by decide) ?_
    refine VL.q (q_seq rfl rfl) (by decide) ?_
    refine VL.to (fun _ _ h => h) ?_
    refine VC.cond_dec rfl (fun h15 => ?_) (fun h15 => ?_)
    ·
      replace hS := it_t h15 hS
      refine VC.seq ?_
      refine VC.region ?_
      refine VL.q (q_move rfl) (by decide) ?_
      refine VL.q (q_move rfl) (by decide) ?_
      obtain ⟨y18_1, ey18_1, hS⟩ := bd_s hS
      refine VL.callO (strings_explode_ct a_0 a_3 ey18_1) rfl (by decide) ?_
      rintro q18_1_0 rfl
      try dsimp only
      refine VL.q (q_assign rfl) (by decide) ?_
      refine VL.to (fun _ _ h => h) ?_
      refine VC.keep [8] rfl ?_
      refine VC.shut q18_1_0 9 (fun _ _ _ _ => trivial) ?_
      cases hS
      exact VC.ret (fin1 (.inr rfl) rfl rfl q18_1_0 rfl rfl (by (try dsimp only); exact InM.out) (fun _ _ => trivial))
    ·
      replace hS := it_f h15 hS
      refine VC.skip_to (fun _ _ h => h) ?_
      refine VC.cutJ (S := Int) (fun (x3_2 : Int) => x3_2) (fun (x3_2 : Int) => [(0, str a_0), (1, str a_1), (2, i64 a_2), (3, i64 x3_2)]) (fun (x3_2 : Int) => Mo.tt) (fun (x3_2 : Int) => Ow.emp) hS ?_ ?_
      · -- up to where ways meet
        clear hS
        intro k3 hS
        refine VC.seq ?_
        refine VC.region ?_
        refine VL.q (q_move rfl) (by decide) ?_
        refine VL.q (q_lss rfl rfl) (by decide) ?_
        refine VL.to (fun _ _ h => h) ?_
        refine VC.cond_dec rfl (fun h20 => ?_) (fun h20 => ?_)
        ·
          replace hS := it_t h20 hS
          refine VC.region ?_
          refine VL.q (q_move rfl) (by decide) ?_
          refine VL.q (q_move rfl) (by decide) ?_
          obtain ⟨y23_4, ey23_4, hS⟩ := bd_s hS
          refine VL.q (q_call (strings_Count_ct a_0 a_1 ey23_4) rfl (fun _ _ => rfl)) (by decide) ?_
          obtain ⟨b24, hS⟩ := gd_s hS
          refine VL.q (q_add rfl rfl b24) (by decide) ?_
          refine VL.q (q_assign rfl) (by decide) ?_
          refine VL.mt (y23_4 + 1) [0, 1, 2, 3] (fun _ _ h => h) hS rfl
        ·
          replace hS := it_f h20 hS
          refine VC.skip_mt a_3 [0, 1, 2, 3] (fun _ _ h => h) hS rfl
      · -- from there
        clear hS
        rintro x3_2 hS
        show VC _ _ _ _ _ [(0, str a_0), (1, str a_1), (2, i64 a_2), (3, i64 x3_2)] (Mo.and Mo.tt _) (Ow.emp)
        refine VC.seq ?_
        refine VC.region ?_
        refine VL.q (q_move rfl) (by decide) ?_
        refine VL.q (q_move rfl) (by decide) ?_
        refine VL.q (q_slen Tryd.underlying9 rfl) (by decide) ?_
        obtain ⟨b28, hS⟩ := gd_s hS
        refine VL.q (q_add rfl rfl b28) (by decide) ?_
        refine VL.q (q_min rfl) (by decide) ?_
        refine VL.q (q_assign rfl) (by decide) ?_
        refine VL.to (fun _ _ h => h) ?_
        refine VC.seq ?_
        refine VC.region ?_
        refine VL.q (q_move rfl) (by decide) ?_
        obtain ⟨b31, hS⟩ := gd_s hS
        refine VL.make (α := Str) (z := []) Tryd.underlying38 gmk9 (by decide) rfl rfl b31.1 (Int.le_refl _) (by omega) (by omega) (by decide) (fun s31_5 hs31_5 => ?_)
        replace hS := lt_to hs31_5 hS
        refine VL.q (q_assign rfl) (by decide) ?_
        refine VL.to (fun _ _ h => h) ?_
        refine VC.keep [0, 1, 2, 3, 9] rfl ?_
        refine VC.seq ?_
        refine VC.region ?_
        refine VL.q (q_move rfl) (by decide) ?_
        obtain ⟨b33, hS⟩ := gd_s hS
        refine VL.q (q_sub rfl rfl b33) (by decide) ?_
        refine VL.q (q_assign rfl) (by decide) ?_
        refine VL.to (fun _ _ h => h) ?_
        refine VC.seq ?_
        refine VC.region ?_
        refine VL.q (q_assign rfl) (by decide) ?_
        refine VL.to (fun _ _ h => h) ?_
        refine VC.cutJ (S := Str × Sv Str × Int) (fun sg => (sg.1, sg.2.1.l, sg.2.2)) (fun sg => [(0, str sg.1), (9, sg.2.1.val), (10, i64 sg.2.2)]) (fun sg => Mo.tt) (fun sg => Ow.star (Sv.own sg.2.1 9) (Ow.emp)) hS ?_ ?_
        · -- up to where ways meet
          clear hS
          intro k10 hS
          refine VC.block ?_
          refine VC.iter (S := Str × Sv Str × Int) (fun sg => (sg.1, sg.2.1.l, sg.2.2)) (fun sg => [(0, str sg.1), (1, str a_1), (2, i64 a_2), (3, i64 ((min x3_2 ((a_0.length : Int) + 1)) - 1)), (9, sg.2.1.val), (10, i64 sg.2.2)]) (fun sg => Mo.tt) (fun sg => Ow.star (Sv.own sg.2.1 9) (Ow.emp)) (a_0, s31_5, 0) [0, 1, 2, 3, 9, 10] hS rfl ?_
          clear hS
          rintro ⟨x0_11, x9_12, x10_13⟩ m1 y1 hS hK1
          show VC _ _ _ _ _ [(0, str x0_11), (1, str a_1), (2, i64 a_2), (3, i64 ((min x3_2 ((a_0.length : Int) + 1)) - 1)), (9, x9_12.val), (10, i64 x10_13)] (Mo.and Mo.tt _) (Ow.star (Sv.own x9_12 9) (Ow.emp))
          refine VC.seq ?_
          refine VC.seq ?_
          refine VC.region ?_
          refine VL.q (q_move rfl) (by decide) ?_
          refine VL.q (q_move rfl) (by decide) ?_
          refine VL.q (q_lss rfl rfl) (by decide) ?_
          refine VL.to (fun _ _ h => h) ?_
          refine VC.cond_dec rfl (fun h36 => ?_) (fun h36 => ?_)
          ·
            replace hS := it_t h36 hS
            refine VC.skip_to (fun _ _ h => h) ?_
            refine VC.block ?_
            refine VC.seq ?_
            refine VC.region ?_
            refine VL.q (q_move rfl) (by decide) ?_
            refine VL.q (q_move rfl) (by decide) ?_
            obtain ⟨y39_14, ey39_14, hS⟩ := bd_s hS
            refine VL.q (q_call (strings_Index_ct x0_11 a_1 ey39_14) rfl (fun _ _ => rfl)) (by decide) ?_
            refine VL.q (q_assign rfl) (by decide) ?_
            refine VL.to (fun _ _ h => h) ?_
            refine VC.seq ?_
            refine VC.seq ?_
            refine VC.region ?_
            refine VL.q (q_move rfl) (by decide) ?_
            refine VL.q (q_lss rfl rfl) (by decide) ?_
            refine VL.to (fun _ _ h => h) ?_
            refine VC.keep [0, 1, 2, 3, 9, 10, 11, 41] rfl ?_
            refine VC.cond_dec rfl (fun h41 => ?_) (fun h41 => ?_)
            ·
              replace hS := it_t h41 hS
              replace hS := up2 hS hK1
              refine VC.exit_mt (x0_11, x9_12, x10_13) [0, 9, 10] (fun _ _ h => h) hS rfl
            ·
              replace hS := it_f h41 hS
              refine VC.skip_to (fun _ _ h => h) ?_
              refine VC.seq ?_
              refine VC.region ?_
              refine VL.q (q_move rfl) (by decide) ?_
              refine VL.q (q_move rfl) (by decide) ?_
              refine VL.q (q_move rfl) (by decide) ?_
              refine VL.q (q_move rfl) (by decide) ?_
              refine VL.q (q_move rfl) (by decide) ?_
              obtain ⟨b47, hS⟩ := gd_s hS
              refine VL.q (q_add rfl rfl b47) (by decide) ?_
              obtain ⟨b48, hS⟩ := gd_s hS
              obtain ⟨y48_15, ey48_15, hS⟩ := lt_s hS
              refine VL.q (q_stoE Tryd.underlying9 rfl rfl b48.1 b48.2 ey48_15) (by decide) ?_
              obtain ⟨z49_16, nz49_16, hz49_16, hS⟩ := at_s hS
              refine VL.q (q_ixo (s := x9_12) Tryd.underlying38 gsz9 rfl rfl nz49_16 (lt_of_get nz49_16 hz49_16)) (by decide) ?_
              refine VL.storeE (s := x9_12) (T := 9) (j := 0) (vc := [str y48_15]) (y48_15 : Str) (by decide) rfl rfl hz49_16 rfl gsz9 rfl rfl (Nat.le_of_ble_eq_true rfl) rfl (fun w17 hw17 haw17 hcw17 hvw17 hbw17 how17 => ?_)
              rw [← hvw17]
              replace hS := lt_to hw17 hS
              refine VL.to (fun _ _ h => h) ?_
              refine VC.keep [0, 1, 2, 3, 9, 10, 11] rfl ?_
              refine VC.seq ?_
              refine VC.region ?_
              refine VL.q (q_move rfl) (by decide) ?_
              refine VL.q (q_move rfl) (by decide) ?_
              refine VL.q (q_move rfl) (by decide) ?_
              refine VL.q (q_slen Tryd.underlying9 rfl) (by decide) ?_
              obtain ⟨b54, hS⟩ := gd_s hS
              refine VL.q (q_add rfl rfl b54) (by decide) ?_
              obtain ⟨b55, hS⟩ := gd_s hS
              obtain ⟨y55_19, ey55_19, hS⟩ := lt_s hS
              refine VL.q (q_sfromE Tryd.underlying9 rfl rfl b55.1 b55.2 ey55_19) (by decide) ?_
              refine VL.q (q_assign rfl) (by decide) ?_
              refine VL.to (fun _ _ h => h) ?_
              refine VC.keep [0, 1, 2, 3, 9, 10] rfl ?_
              refine VC.region ?_
              refine VL.q (q_move rfl) (by decide) ?_
              obtain ⟨b57, hS⟩ := gd_s hS
              refine VL.q (q_add rfl rfl b57) (by decide) ?_
              refine VL.q (q_assign rfl) (by decide) ?_
              refine VL.rnd (y55_19, w17, (x10_13 + 1)) [0, 1, 2, 3, 9, 10] (fun _ _ h => h) (go2 hS hK1) rfl
          ·
            replace hS := it_f h36 hS
            replace hS := up2 hS hK1
            refine VC.exit_mt (x0_11, x9_12, x10_13) [0, 9, 10] (fun _ _ h => h) hS rfl
        · -- from there
          clear hS
          rintro ⟨x0_7, x9_8, x10_9⟩ hS
          show VC _ _ _ _ _ [(0, str x0_7), (9, x9_8.val), (10, i64 x10_9)] (Mo.and Mo.tt _) (Ow.star (Sv.own x9_8 9) (Ow.emp))
          refine VC.seq ?_
          refine VC.region ?_
          refine VL.q (q_move rfl) (by decide) ?_
          refine VL.q (q_move rfl) (by decide) ?_
          refine VL.q (q_move rfl) (by decide) ?_
          obtain ⟨z61_20, nz61_20, hz61_20, hS⟩ := at_s hS
          refine VL.q (q_ixo (s := x9_8) Tryd.underlying38 gsz9 rfl rfl nz61_20 (lt_of_get nz61_20 hz61_20)) (by decide) ?_
          refine VL.storeE (s := x9_8) (T := 9) (j := 0) (vc := [str x0_7]) (x0_7 : Str) (by decide) rfl rfl hz61_20 rfl gsz9 rfl rfl (Nat.le_of_ble_eq_true rfl) rfl (fun w21 hw21 haw21 hcw21 hvw21 hbw21 how21 => ?_)
          rw [← hvw21]
          replace hS := lt_to hw21 hS
          refine VL.to (fun _ _ h => h) ?_
          refine VC.seq ?_
          refine VC.region ?_
          refine VL.q (q_move rfl) (by decide) ?_
          refine VL.q (q_move rfl) (by decide) ?_
          obtain ⟨b64, hS⟩ := gd_s hS
          refine VL.q (q_add rfl rfl b64) (by decide) ?_
          refine VL.shut w21 9 (fun _ _ _ _ => trivial) ?_
          obtain ⟨b65, hS⟩ := gd_s hS
          refine VL.sto Tryd.underlying38 gsz9 rfl rfl b65.1 (b65.2) (by decide) fun s65_23 hs65_23 => ?_
          replace hS := lt_to hs65_23 hS
          refine VL.q (q_assign rfl) (by decide) ?_
          refine VL.to (fun _ _ h => h) ?_
          refine VC.keep [8] rfl ?_
          cases hS
          exact VC.ret (fin1 (.inr rfl) rfl rfl s65_23 rfl rfl (by (try dsimp only); exact InM.out) (fun _ _ => trivial))

set_option maxHeartbeats 4000000 in
set_option maxRecDepth 100000 in
theorem strings_Split_ct (s_0 : Str) (sep_1 : Str) {r : List Str} (hS : Sh.strings_Split s_0 sep_1 = some r) :
    Ct Tryd.prog 44 [str s_0, str sep_1] Mo.tt (Ow.emp) (X := Sv Str) (fun x => x.val) (fun x => r = x.l) (fun x => x.ok) (fun x => Ow.emp) := by
  refine Ct.of Tryd.func44 rfl (by kernel_rfl) Tryd.ntmps44 (by simp) fun c => ?_
  unfold Sh.strings_Split at hS
  refine VC.seq ?_
  refine VC.region ?_
  refine VL.q (q_assign rfl) (by decide) ?_
  refine VL.to (fun _ _ h => h) ?_
  refine VC.seq ?_
  refine VC.region ?_
  refine VL.q (q_move rfl) (by decide) ?_
  refine VL.q (q_move rfl) (by decide) ?_
  obtain ⟨y7_1, ey7_1, hS⟩ := bd_s hS
  refine VL.callF (strings_genSplit_ct s_0 sep_1 0 (-1) ey7_1) rfl (by decide) ?_
  rintro q7_1_0 rfl
  try dsimp only
  refine VL.q (q_assign rfl) (by decide) ?_
  refine VL.to (fun _ _ h => h) ?_
  cases hS
  exact VC.ret (fin1 (.inr rfl) rfl rfl q7_1_0 rfl rfl (by (try dsimp only); exact InM.out) (fun _ _ => trivial))

set_option maxHeartbeats 4000000 in
set_option maxRecDepth 100000 in
theorem strings_trimLeftByte_ct (s_0 : Str) (c_1 : Int) {r : Str} (hS : Sh.strings_trimLeftByte s_0 c_1 = some r) :
    Ct Tryd.prog 86 [str s_0, .int .u8 c_1] Mo.tt (Ow.emp) (X := Unit) (fun _ => str r) (fun _ => True) (fun _ => Mo.tt) (fun _ => Ow.emp) := by
  refine Ct.of Tryd.func86 rfl (by kernel_rfl) Tryd.ntmps86 (by simp) fun c => ?_
  unfold Sh.strings_trimLeftByte at hS
  refine VC.seq ?_
  refine VC.region ?_
  refine VL.q (q_assign rfl) (by decide) ?_
  refine VL.to (fun _ _ h => h) ?_
  refine VC.seq ?_
  refine VC.block ?_
  refine VC.iter (S := Str) (fun (s0_1 : Str) => s0_1) (fun (s0_1 : Str) => [(0, str s0_1), (1, .int .u8 c_1)]) (fun (s0_1 : Str) => Mo.tt) (fun (s0_1 : Str) => Ow.emp) s_0 [0, 1] hS rfl ?_
  clear hS
  rintro s0_1 m1 y1 hS hK1
  show VC _ _ _ _ _ [(0, str s0_1), (1, .int .u8 c_1)] (Mo.and Mo.tt _) (Ow.emp)
  refine VC.seq ?_
  refine VC.seq ?_
  refine VC.region ?_
  refine VL.q (q_move rfl) (by decide) ?_
  refine VL.q (q_slen Tryd.underlying9 rfl) (by decide) ?_
  refine VL.q (q_gtr rfl rfl) (by decide) ?_
  refine VL.q (q_move rfl) (by decide) ?_
  refine VL.split_dec 8 rfl (fun h8 => ?_) (fun h8 => ?_)
  ·
    replace hS := it_t h8 hS
    refine VL.gy rfl rfl (q_move rfl) (by decide) ?_
    obtain ⟨z10_2, nz10_2, hz10_2, hS⟩ := at_s hS
    refine VL.gy rfl rfl (q_sidx Tryd.underlying9 rfl rfl nz10_2 hz10_2) (by decide) ?_
    refine VL.gy rfl rfl (q_move rfl) (by decide) ?_
    refine VL.gy rfl rfl (q_eql rfl rfl) (by decide) ?_
    refine VL.q (q_pick_t rfl rfl) (by decide) ?_
    refine VL.to (fun _ _ h => h) ?_
    refine VC.keep [0, 1, 13] rfl ?_
    refine VC.cond_dec rfl (fun h13 => ?_) (fun h13 => ?_)
    ·
      replace hS := it_t h13 hS
      refine VC.skip_to (fun _ _ h => h) ?_
      refine VC.block ?_
      refine VC.region ?_
      refine VL.q (q_move rfl) (by decide) ?_
      obtain ⟨b15, hS⟩ := gd_s hS
      obtain ⟨y15_3, ey15_3, hS⟩ := lt_s hS
      refine VL.q (q_sfromE Tryd.underlying9 rfl rfl b15.1 b15.2 ey15_3) (by decide) ?_
      refine VL.q (q_assign rfl) (by decide) ?_
      refine VL.rnd y15_3 [0, 1] (fun _ _ h => h) (go2 hS hK1) rfl
    ·
      replace hS := it_f h13 hS
      replace hS := up2 hS hK1
      refine VC.exit_to (fun _ _ h => h) ?_
      refine VC.seq ?_
      refine VC.region ?_
      refine VL.q (q_move rfl) (by decide) ?_
      refine VL.q (q_assign rfl) (by decide) ?_
      refine VL.to (fun _ _ h => h) ?_
      cases hS
      exact VC.ret (fin1 (.inr rfl) rfl rfl () rfl trivial (fun _ _ => trivial) (fun _ _ => trivial))
  ·
    replace hS := it_f h8 hS
    refine VL.gn rfl rfl rfl (by decide) ?_
    refine VL.gn rfl rfl rfl (by decide) ?_
    refine VL.gn rfl rfl rfl (by decide) ?_
    refine VL.gn rfl rfl rfl (by decide) ?_
    refine VL.q (q_pick_f rfl rfl) (by decide) ?_
    refine VL.to (fun _ _ h => h) ?_
    refine VC.keep [0, 1, 13] rfl ?_
    refine VC.cond_f rfl ?_
    replace hS := up2 hS hK1
    refine VC.exit_to (fun _ _ h => h) ?_
    refine VC.seq ?_
    refine VC.region ?_
    refine VL.q (q_move rfl) (by decide) ?_
    refine VL.q (q_assign rfl) (by decide) ?_
    refine VL.to (fun _ _ h => h) ?_
    cases hS
    exact VC.ret (fin1 (.inr rfl) rfl rfl () rfl trivial (fun _ _ => trivial) (fun _ _ => trivial))

set_option maxHeartbeats 4000000 in
set_option maxRecDepth 100000 in
theorem strings_TrimLeft_ct (s_0 : Str) (cutset_1 : Str) {r : Str} (hS : Sh.strings_TrimLeft s_0 cutset_1 = some r) :
    Ct Tryd.prog 45 [str s_0, str cutset_1] Mo.tt (Ow.emp) (X := Unit) (fun _ => str r) (fun _ => True) (fun _ => Mo.tt) (fun _ => Ow.emp) := by
  refine Ct.of Tryd.func45 rfl (by kernel_rfl) Tryd.ntmps45 (by simp) fun c => ?_
  unfold Sh.strings_TrimLeft at hS
  refine VC.seq ?_
  refine VC.region ?_
  refine VL.q (q_assign rfl) (by decide) ?_
  refine VL.to (fun _ _ h => h) ?_
  refine VC.seq ?_
  refine VC.cutJ (S := Bool) (fun (x12_1 : Bool) => x12_1) (fun (x12_1 : Bool) => [(0, str s_0), (1, str cutset_1), (12, .bool x12_1)]) (fun (x12_1 : Bool) => Mo.tt) (fun (x12_1 : Bool) => Ow.emp) hS ?_ ?_
  · -- up to where ways meet
    clear hS
    intro k2 hS
    refine VC.region ?_
    refine VL.q (q_move rfl) (by decide) ?_
    refine VL.q (q_seq rfl rfl) (by decide) ?_
    refine VL.q (q_move rfl) (by decide) ?_
    refine VL.split_dec 9 rfl (fun h9 => ?_) (fun h9 => ?_)
    ·
      replace hS := it_t h9 hS
      refine VL.gn rfl rfl rfl (by decide) ?_
      refine VL.gn rfl rfl rfl (by decide) ?_
      refine VL.q (q_pick_t rfl rfl) (by decide) ?_
      refine VL.mt true [0, 1, 12] (fun _ _ h => h) hS rfl
    ·
      replace hS := it_f h9 hS
      refine VL.gy rfl rfl (q_move rfl) (by decide) ?_
      refine VL.gy rfl rfl (q_seq rfl rfl) (by decide) ?_
      refine VL.q (q_pick_f rfl rfl) (by decide) ?_
      refine VL.mt (decide (cutset_1 = [])) [0, 1, 12] (fun _ _ h => h) hS rfl
  · -- from there
    clear hS
    rintro x12_1 hS
    show VC _ _ _ _ _ [(0, str s_0), (1, str cutset_1), (12, .bool x12_1)] (Mo.and Mo.tt _) (Ow.emp)
    refine VC.cond rfl (fun h12 => ?_) (fun h12 => ?_)
    ·
      replace hS := it_t h12 hS
      refine VC.seq ?_
      refine VC.region ?_
      refine VL.q (q_move rfl) (by decide) ?_
      refine VL.q (q_assign rfl) (by decide) ?_
      refine VL.to (fun _ _ h => h) ?_
      cases hS
      exact VC.ret (fin1 (.inr rfl) rfl rfl () rfl trivial (fun _ _ => trivial) (fun _ _ => trivial))
    ·
      replace hS := it_b h12 hS
      refine VC.skip_to (fun _ _ h => h) ?_
      refine VC.seq ?_
      refine VC.cutJ (S := Bool) (fun (x21_3 : Bool) => x21_3) (fun (x21_3 : Bool) => [(0, str s_0), (1, str cutset_1), (21, .bool x21_3)]) (fun (x21_3 : Bool) => Mo.tt) (fun (x21_3 : Bool) => Ow.emp) hS ?_ ?_
      · -- up to where ways meet
        clear hS
        intro k4 hS
        refine VC.region ?_
        refine VL.q (q_move rfl) (by decide) ?_
        refine VL.q (q_slen Tryd.underlying9 rfl) (by decide) ?_
        refine VL.q (q_eql rfl rfl) (by decide) ?_
        refine VL.q (q_move rfl) (by decide) ?_
        refine VL.split_dec 17 rfl (fun h17 => ?_) (fun h17 => ?_)
        ·
          replace hS := it_t h17 hS
          refine VL.gy rfl rfl (q_move rfl) (by decide) ?_
          obtain ⟨z19_5, nz19_5, hz19_5, hS⟩ := at_s hS
          refine VL.gy rfl rfl (q_sidx Tryd.underlying9 rfl rfl nz19_5 hz19_5) (by decide) ?_
          refine VL.gy rfl rfl (q_lss rfl rfl) (by decide) ?_
          refine VL.q (q_pick_t rfl rfl) (by decide) ?_
          refine VL.mt (decide ((z19_5.toNat : Int) < 128)) [0, 1, 21] (fun _ _ h => h) hS rfl
        ·
          replace hS := it_f h17 hS
          refine VL.gn rfl rfl rfl (by decide) ?_
          refine VL.gn rfl rfl rfl (by decide) ?_
          refine VL.gn rfl rfl rfl (by decide) ?_
          refine VL.q (q_pick_f rfl rfl) (by decide) ?_
          refine VL.mt false [0, 1, 21] (fun _ _ h => h) hS rfl
      · -- from there
        clear hS
        rintro x21_3 hS
        show VC _ _ _ _ _ [(0, str s_0), (1, str cutset_1), (21, .bool x21_3)] (Mo.and Mo.tt _) (Ow.emp)
        refine VC.cond rfl (fun h21 => ?_) (fun h21 => ?_)
        ·
          replace hS := it_t h21 hS
          refine VC.seq ?_
          refine VC.region ?_
          refine VL.q (q_move rfl) (by decide) ?_
          refine VL.q (q_move rfl) (by decide) ?_
          obtain ⟨z24_6, nz24_6, hz24_6, hS⟩ := at_s hS
          refine VL.q (q_sidx Tryd.underlying9 rfl rfl nz24_6 hz24_6) (by decide) ?_
          obtain ⟨y25_7, ey25_7, hS⟩ := bd_s hS
          refine VL.q (q_call (strings_trimLeftByte_ct s_0 (z24_6.toNat : Int) ey25_7) rfl (fun _ _ => rfl)) (by decide) ?_
          refine VL.q (q_assign rfl) (by decide) ?_
          refine VL.to (fun _ _ h => h) ?_
          cases hS
          exact VC.ret (fin1 (.inr rfl) rfl rfl () rfl trivial (fun _ _ => trivial) (fun _ _ => trivial))
        ·
          replace hS := it_b h21 hS
          refine VC.skip_to (fun _ _ h => h) ?_
          refine VC.seq ?_
          refine VC.seq ?_
          refine VC.region ?_
          refine VL.q (q_move rfl) (by decide) ?_
          cases hS

set_option maxHeartbeats 4000000 in
set_option maxRecDepth 100000 in
theorem todo_cut_ct (s_0 : Str) {r : Str × Str} (hS : Sh.todo_cut s_0 = some r) :
    Ct Tryd.prog 90 [str s_0] Mo.tt (Ow.emp) (X := Unit) (fun _ => .tuple #[str r.1, str r.2]) (fun _ => True) (fun _ => Mo.tt) (fun _ => Ow.emp) := by
  refine Ct.of Tryd.func90 rfl (by kernel_rfl) Tryd.ntmps90 (by simp) fun c => ?_
  unfold Sh.todo_cut at hS
  refine VC.seq ?_
  refine VC.region ?_
  refine VL.q (q_assign rfl) (by decide) ?_
  refine VL.q (q_assign rfl) (by decide) ?_
  refine VL.to (fun _ _ h => h) ?_
  refine VC.seq ?_
  refine VC.region ?_
  refine VL.q (q_move rfl) (by decide) ?_
  obtain ⟨y6_1, ey6_1, hS⟩ := bd_s hS
  refine VL.q (q_call (strings_Index_ct s_0 [32] ey6_1) rfl (fun _ _ => rfl)) (by decide) ?_
  refine VL.q (q_assign rfl) (by decide) ?_
  refine VL.to (fun _ _ h => h) ?_
  refine VC.seq ?_
  refine VC.seq ?_
  refine VC.region ?_
  refine VL.q (q_move rfl) (by decide) ?_
  refine VL.q (q_lss rfl rfl) (by decide) ?_
  refine VL.to (fun _ _ h => h) ?_
  refine VC.cond_dec rfl (fun h8 => ?_) (fun h8 => ?_)
  ·
    replace hS := it_t h8 hS
    refine VC.seq ?_
    refine VC.region ?_
    refine VL.q (q_move rfl) (by decide) ?_
    refine VL.q (q_assign rfl) (by decide) ?_
    refine VL.q (q_assign rfl) (by decide) ?_
    refine VL.to (fun _ _ h => h) ?_
    cases hS
    exact VC.ret (fin2 (.inr rfl) rfl rfl rfl () rfl trivial (fun _ _ => trivial) (fun _ _ => trivial))
  ·
    replace hS := it_f h8 hS
    refine VC.skip_to (fun _ _ h => h) ?_
    refine VC.seq ?_
    refine VC.draw ((List.range 9).map fun k => (k, true)) mixed (by kernel_rfl) (by kernel_rfl) (by kernel_rfl) ?_
    refine VD.q rfl (q_move rfl) (by decide) ?_
    refine VD.q rfl (q_move rfl) (by decide) ?_
    obtain ⟨b12, hS⟩ := gd_s hS
    obtain ⟨y12_2, ey12_2, hS⟩ := lt_s hS
    refine VD.q rfl (q_stoE Tryd.underlying9 rfl rfl b12.1 b12.2 ey12_2) (by decide) ?_
    refine VD.q rfl (q_move rfl) (by decide) ?_
    refine VD.q rfl (q_move rfl) (by decide) ?_
    obtain ⟨b15, hS⟩ := gd_s hS
    obtain ⟨y15_3, ey15_3, hS⟩ := lt_s hS
    refine VD.q rfl (q_sfromE Tryd.underlying9 rfl rfl b15.1 b15.2 ey15_3) (by decide) ?_
    obtain ⟨y16_4, ey16_4, hS⟩ := bd_s hS
    refine VD.q rfl (q_call (strings_TrimLeft_ct y15_3 [32] ey16_4) rfl (fun _ _ => rfl)) (by decide) ?_
    refine VD.q rfl (q_assign rfl) (by decide) ?_
    refine VD.q rfl (q_assign rfl) (by decide) ?_
    refine VD.to (fun _ _ h => h) ?_
    refine VC.keep [2, 3] rfl ?_
    cases hS
    exact VC.ret (fin2 (.inr rfl) rfl rfl rfl () rfl trivial (fun _ _ => trivial) (fun _ _ => trivial))

set_option maxHeartbeats 4000000 in
set_option maxRecDepth 100000 in
theorem strings_trimRightByte_ct (s_0 : Str) (c_1 : Int) {r : Str} (hS : Sh.strings_trimRightByte s_0 c_1 = some r) :
    Ct Tryd.prog 126 [str s_0, .int .u8 c_1] Mo.tt (Ow.emp) (X := Unit) (fun _ => str r) (fun _ => True) (fun _ => Mo.tt) (fun _ => Ow.emp) := by
  refine Ct.of Tryd.func126 rfl (by kernel_rfl) Tryd.ntmps126 (by simp) fun c => ?_
  unfold Sh.strings_trimRightByte at hS
  refine VC.seq ?_
  refine VC.region ?_
  refine VL.q (q_assign rfl) (by decide) ?_
  refine VL.to (fun _ _ h => h) ?_
  refine VC.seq ?_
  refine VC.block ?_
  refine VC.iter (S := Str) (fun (s0_1 : Str) => s0_1) (fun (s0_1 : Str) => [(0, str s0_1), (1, .int .u8 c_1)]) (fun (s0_1 : Str) => Mo.tt) (fun (s0_1 : Str) => Ow.emp) s_0 [0, 1] hS rfl ?_
  clear hS
  rintro s0_1 m1 y1 hS hK1
  show VC _ _ _ _ _ [(0, str s0_1), (1, .int .u8 c_1)] (Mo.and Mo.tt _) (Ow.emp)
  refine VC.seq ?_
  refine VC.seq ?_
  refine VC.region ?_
  refine VL.q (q_move rfl) (by decide) ?_
  refine VL.q (q_slen Tryd.underlying9 rfl) (by decide) ?_
  refine VL.q (q_gtr rfl rfl) (by decide) ?_
  refine VL.q (q_move rfl) (by decide) ?_
  refine VL.split_dec 8 rfl (fun h8 => ?_) (fun h8 => ?_)
  ·
    replace hS := it_t h8 hS
    refine VL.gy rfl rfl (q_move rfl) (by decide) ?_
    refine VL.gy rfl rfl (q_move rfl) (by decide) ?_
    refine VL.gy rfl rfl (q_slen Tryd.underlying9 rfl) (by decide) ?_
    obtain ⟨b12, hS⟩ := gd_s hS
    refine VL.gy rfl rfl (q_sub rfl rfl b12) (by decide) ?_
    obtain ⟨z13_2, nz13_2, hz13_2, hS⟩ := at_s hS
    refine VL.gy rfl rfl (q_sidx Tryd.underlying9 rfl rfl nz13_2 hz13_2) (by decide) ?_
    refine VL.gy rfl rfl (q_move rfl) (by decide) ?_
    refine VL.gy rfl rfl (q_eql rfl rfl) (by decide) ?_
    refine VL.q (q_pick_t rfl rfl) (by decide) ?_
    refine VL.to (fun _ _ h => h) ?_
    refine VC.keep [0, 1, 16] rfl ?_
    refine VC.cond_dec rfl (fun h16 => ?_) (fun h16 => ?_)
    ·
      replace hS := it_t h16 hS
      refine VC.skip_to (fun _ _ h => h) ?_
      refine VC.block ?_
      refine VC.region ?_
      refine VL.q (q_move rfl) (by decide) ?_
      refine VL.q (q_move rfl) (by decide) ?_
      refine VL.q (q_slen Tryd.underlying9 rfl) (by decide) ?_
      obtain ⟨b20, hS⟩ := gd_s hS
      refine VL.q (q_sub rfl rfl b20) (by decide) ?_
      obtain ⟨b21, hS⟩ := gd_s hS
      obtain ⟨y21_3, ey21_3, hS⟩ := lt_s hS
      refine VL.q (q_stoE Tryd.underlying9 rfl rfl b21.1 b21.2 ey21_3) (by decide) ?_
      refine VL.q (q_assign rfl) (by decide) ?_
      refine VL.rnd y21_3 [0, 1] (fun _ _ h => h) (go2 hS hK1) rfl
    ·
      replace hS := it_f h16 hS
      replace hS := up2 hS hK1
      refine VC.exit_to (fun _ _ h => h) ?_
      refine VC.seq ?_
      refine VC.region ?_
      refine VL.q (q_move rfl) (by decide) ?_
      refine VL.q (q_assign rfl) (by decide) ?_
      refine VL.to (fun _ _ h => h) ?_
      cases hS
      exact VC.ret (fin1 (.inr rfl) rfl rfl () rfl trivial (fun _ _ => trivial) (fun _ _ => trivial))
  ·
    replace hS := it_f h8 hS
    refine VL.gn rfl rfl rfl (by decide) ?_
    refine VL.gn rfl rfl rfl (by decide) ?_
    refine VL.gn rfl rfl rfl (by decide) ?_
    refine VL.gn rfl rfl rfl (by decide) ?_
    refine VL.gn rfl rfl rfl (by decide) ?_
    refine VL.gn rfl rfl rfl (by decide) ?_
    refine VL.gn rfl rfl rfl (by decide) ?_
    refine VL.q (q_pick_f rfl rfl) (by decide) ?_
    refine VL.to (fun _ _ h => h) ?_
    refine VC.keep [0, 1, 16] rfl ?_
    refine VC.cond_f rfl ?_
    replace hS := up2 hS hK1
    refine VC.exit_to (fun _ _ h => h) ?_
    refine VC.seq ?_
    refine VC.region ?_
    refine VL.q (q_move rfl) (by decide) ?_
    refine VL.q (q_assign rfl) (by decide) ?_
    refine VL.to (fun _ _ h => h) ?_
    cases hS
    exact VC.ret (fin1 (.inr rfl) rfl rfl () rfl trivial (fun _ _ => trivial) (fun _ _ => trivial))

set_option maxHeartbeats 4000000 in
set_option maxRecDepth 100000 in
theorem strings_Trim_ct (s_0 : Str) (cutset_1 : Str) {r : Str} (hS : Sh.strings_Trim s_0 cutset_1 = some r) :
    Ct Tryd.prog 91 [str s_0, str cutset_1] Mo.tt (Ow.emp) (X := Unit) (fun _ => str r) (fun _ => True) (fun _ => Mo.tt) (fun _ => Ow.emp) := by
  refine Ct.of Tryd.func91 rfl (by kernel_rfl) Tryd.ntmps91 (by simp) fun c => ?_
  unfold Sh.strings_Trim at hS
  refine VC.seq ?_
  refine VC.region ?_
  refine VL.q (q_assign rfl) (by decide) ?_
  refine VL.to (fun _ _ h => h) ?_
  refine VC.seq ?_
  refine VC.cutJ (S := Bool) (fun (x12_1 : Bool) => x12_1) (fun (x12_1 : Bool) => [(0, str s_0), (1, str cutset_1), (12, .bool x12_1)]) (fun (x12_1 : Bool) => Mo.tt) (fun (x12_1 : Bool) => Ow.emp) hS ?_ ?_
  · -- up to where ways meet
    clear hS
    intro k2 hS
    refine VC.region ?_
    refine VL.q (q_move rfl) (by decide) ?_
    refine VL.q (q_seq rfl rfl) (by decide) ?_
    refine VL.q (q_move rfl) (by decide) ?_
    refine VL.split_dec 9 rfl (fun h9 => ?_) (fun h9 => ?_)
    ·
      replace hS := it_t h9 hS
      refine VL.gn rfl rfl rfl (by decide) ?_
      refine VL.gn rfl rfl rfl (by decide) ?_
      refine VL.q (q_pick_t rfl rfl) (by decide) ?_
      refine VL.mt true [0, 1, 12] (fun _ _ h => h) hS rfl
    ·
      replace hS := it_f h9 hS
      refine VL.gy rfl rfl (q_move rfl) (by decide) ?_
      refine VL.gy rfl rfl (q_seq rfl rfl) (by decide) ?_
      refine VL.q (q_pick_f rfl rfl) (by decide) ?_
      refine VL.mt (decide (cutset_1 = [])) [0, 1, 12] (fun _ _ h => h) hS rfl
  · -- from there
    clear hS
    rintro x12_1 hS
    show VC _ _ _ _ _ [(0, str s_0), (1, str cutset_1), (12, .bool x12_1)] (Mo.and Mo.tt _) (Ow.emp)
    refine VC.cond rfl (fun h12 => ?_) (fun h12 => ?_)
    ·
      replace hS := it_t h12 hS
      refine VC.seq ?_
      refine VC.region ?_
      refine VL.q (q_move rfl) (by decide) ?_
      refine VL.q (q_assign rfl) (by decide) ?_
      refine VL.to (fun _ _ h => h) ?_
      cases hS
      exact VC.ret (fin1 (.inr rfl) rfl rfl () rfl trivial (fun _ _ => trivial) (fun _ _ => trivial))
    ·
      replace hS := it_b h12 hS
      refine VC.skip_to (fun _ _ h => h) ?_
      refine VC.seq ?_
      refine VC.cutJ (S := Bool) (fun (x21_3 : Bool) => x21_3) (fun (x21_3 : Bool) => [(0, str s_0), (1, str cutset_1), (21, .bool x21_3)]) (fun (x21_3 : Bool) => Mo.tt) (fun (x21_3 : Bool) => Ow.emp) hS ?_ ?_
      · -- up to where ways meet
        clear hS
        intro k4 hS
        refine VC.region ?_
        refine VL.q (q_move rfl) (by decide) ?_
        refine VL.q (q_slen Tryd.underlying9 rfl) (by decide) ?_
        refine VL.q (q_eql rfl rfl) (by decide) ?_
        refine VL.q (q_move rfl) (by decide) ?_
        refine VL.split_dec 17 rfl (fun h17 => ?_) (fun h17 => ?_)
        ·
          replace hS := it_t h17 hS
          refine VL.gy rfl rfl (q_move rfl) (by decide) ?_
          obtain ⟨z19_5, nz19_5, hz19_5, hS⟩ := at_s hS
          refine VL.gy rfl rfl (q_sidx Tryd.underlying9 rfl rfl nz19_5 hz19_5) (by decide) ?_
          refine VL.gy rfl rfl (q_lss rfl rfl) (by decide) ?_
          refine VL.q (q_pick_t rfl rfl) (by decide) ?_
          refine VL.mt (decide ((z19_5.toNat : Int) < 128)) [0, 1, 21] (fun _ _ h => h) hS rfl
        ·
          replace hS := it_f h17 hS
          refine VL.gn rfl rfl rfl (by decide) ?_
          refine VL.gn rfl rfl rfl (by decide) ?_
          refine VL.gn rfl rfl rfl (by decide) ?_
          refine VL.q (q_pick_f rfl rfl) (by decide) ?_
          refine VL.mt false [0, 1, 21] (fun _ _ h => h) hS rfl
      · -- from there
        clear hS
        rintro x21_3 hS
        show VC _ _ _ _ _ [(0, str s_0), (1, str cutset_1), (21, .bool x21_3)] (Mo.and Mo.tt _) (Ow.emp)
        refine VC.cond rfl (fun h21 => ?_) (fun h21 => ?_)
        ·
          replace hS := it_t h21 hS
          refine VC.seq ?_
          refine VC.draw ((List.range 8).map fun k => (k, true)) mixed (by kernel_rfl) (by kernel_rfl) (by kernel_rfl) ?_
          refine VD.q rfl (q_move rfl) (by decide) ?_
          refine VD.q rfl (q_move rfl) (by decide) ?_
          obtain ⟨z24_6, nz24_6, hz24_6, hS⟩ := at_s hS
          refine VD.q rfl (q_sidx Tryd.underlying9 rfl rfl nz24_6 hz24_6) (by decide) ?_
          obtain ⟨y25_7, ey25_7, hS⟩ := bd_s hS
          refine VD.q rfl (q_call (strings_trimRightByte_ct s_0 (z24_6.toNat : Int) ey25_7) rfl (fun _ _ => rfl)) (by decide) ?_
          refine VD.q rfl (q_move rfl) (by decide) ?_
          obtain ⟨z27_8, nz27_8, hz27_8, hS⟩ := at_s hS
          refine VD.q rfl (q_sidx Tryd.underlying9 rfl rfl nz27_8 hz27_8) (by decide) ?_
          obtain ⟨y28_9, ey28_9, hS⟩ := bd_s hS
          refine VD.q rfl (q_call (strings_trimLeftByte_ct y25_7 (z27_8.toNat : Int) ey28_9) rfl (fun _ _ => rfl)) (by decide) ?_
          refine VD.q rfl (q_assign rfl) (by decide) ?_
          refine VD.to (fun _ _ h => h) ?_
          refine VC.keep [4] rfl ?_
          cases hS
          exact VC.ret (fin1 (.inr rfl) rfl rfl () rfl trivial (fun _ _ => trivial) (fun _ _ => trivial))
        ·
          replace hS := it_b h21 hS
          refine VC.skip_to (fun _ _ h => h) ?_
          refine VC.seq ?_
          refine VC.seq ?_
          refine VC.region ?_
          refine VL.q (q_move rfl) (by decide) ?_
          cases hS

set_option maxHeartbeats 4000000 in
set_option maxRecDepth 100000 in
theorem todo_verb_ct (s_0 : Str) {r : Bool × Bool} (hS : Sh.todo_verb s_0 = some r) :
    Ct Tryd.prog 92 [str s_0] Mo.tt (Ow.emp) (X := Unit) (fun _ => .tuple #[.bool r.1, .bool r.2]) (fun _ => True) (fun _ => Mo.tt) (fun _ => Ow.emp) := by
  refine Ct.of Tryd.func92 rfl (by kernel_rfl) Tryd.ntmps92 (by simp) fun c => ?_
  unfold Sh.todo_verb at hS
  refine VC.seq ?_
  refine VC.region ?_
  refine VL.q (q_assign rfl) (by decide) ?_
  refine VL.q (q_assign rfl) (by decide) ?_
  refine VL.to (fun _ _ h => h) ?_
  refine VC.seq ?_
  refine VC.seq ?_
  refine VC.region ?_
  refine VL.q (q_move rfl) (by decide) ?_
  refine VL.to (fun _ _ h => h) ?_
  refine VC.block ?_
  refine VC.cutJ (S := Unit) (fun (_ : Unit) => ()) (fun (_ : Unit) => []) (fun (_ : Unit) => Mo.tt) (fun (_ : Unit) => Ow.emp) hS ?_ ?_
  · -- up to where ways meet
    clear hS
    intro k1 hS
    refine VC.block ?_
    refine VC.block ?_
    refine VC.block ?_
    refine VC.block ?_
    refine VC.cutJ (S := Unit) (fun (_ : Unit) => ()) (fun (_ : Unit) => []) (fun (_ : Unit) => Mo.tt) (fun (_ : Unit) => Ow.emp) hS ?_ ?_
    · -- up to where ways meet
      clear hS
      intro k2 hS
      refine VC.block ?_
      refine VC.block ?_
      refine VC.seq ?_
      refine VC.seq ?_
      refine VC.seq ?_
      refine VC.region ?_
      refine VL.q (q_seq rfl rfl) (by decide) ?_
      refine VL.q (q_assign rfl) (by decide) ?_
      refine VL.to (fun _ _ h => h) ?_
      refine VC.cond_dec rfl (fun h5 => ?_) (fun h5 => ?_)
      ·
        replace hS := it_t h5 hS
        refine VC.exit_mt () [] (fun _ _ h => h) hS rfl
      ·
        replace hS := it_f h5 hS
        refine VC.skip_to (fun _ _ h => h) ?_
        refine VC.seq ?_
        refine VC.seq ?_
        refine VC.region ?_
        refine VL.q (q_seq rfl rfl) (by decide) ?_
        refine VL.q (q_assign rfl) (by decide) ?_
        refine VL.to (fun _ _ h => h) ?_
        refine VC.cond_dec rfl (fun h7 => ?_) (fun h7 => ?_)
        ·
          replace hS := it_t h7 hS
          refine VC.exit_mt () [] (fun _ _ h => h) hS rfl
        ·
          replace hS := it_f h7 hS
          refine VC.skip_to (fun _ _ h => h) ?_
          refine VC.seq ?_
          refine VC.seq ?_
          refine VC.region ?_
          refine VL.q (q_seq rfl rfl) (by decide) ?_
          refine VL.q (q_assign rfl) (by decide) ?_
          refine VL.to (fun _ _ h => h) ?_
          refine VC.cond_dec rfl (fun h9 => ?_) (fun h9 => ?_)
          ·
            replace hS := it_t h9 hS
            refine VC.exit_mt () [] (fun _ _ h => h) hS rfl
          ·
            replace hS := it_f h9 hS
            refine VC.skip_to (fun _ _ h => h) ?_
            refine VC.seq ?_
            refine VC.seq ?_
            refine VC.region ?_
            refine VL.q (q_seq rfl rfl) (by decide) ?_
            refine VL.q (q_assign rfl) (by decide) ?_
            refine VL.to (fun _ _ h => h) ?_
            refine VC.keep [4, 11] rfl ?_
            refine VC.cond_dec rfl (fun h11 => ?_) (fun h11 => ?_)
            ·
              replace hS := it_t h11 hS
              refine VC.exit_mt () [] (fun _ _ h => h) hS rfl
            ·
              replace hS := it_f h11 hS
              refine VC.skip_to (fun _ _ h => h) ?_
              refine VC.seq ?_
              refine VC.seq ?_
              refine VC.region ?_
              refine VL.q (q_seq rfl rfl) (by decide) ?_
              refine VL.q (q_assign rfl) (by decide) ?_
              refine VL.to (fun _ _ h => h) ?_
              refine VC.cond_dec rfl (fun h13 => ?_) (fun h13 => ?_)
              ·
                replace hS := it_t h13 hS
                refine VC.exit_mt () [] (fun _ _ h => h) hS rfl
              ·
                replace hS := it_f h13 hS
                refine VC.skip_to (fun _ _ h => h) ?_
                refine VC.seq ?_
                refine VC.region ?_
                refine VL.q (q_seq rfl rfl) (by decide) ?_
                refine VL.q (q_assign rfl) (by decide) ?_
                refine VL.to (fun _ _ h => h) ?_
                refine VC.cond_dec rfl (fun h15 => ?_) (fun h15 => ?_)
                ·
                  replace hS := it_t h15 hS
                  refine VC.exit_mt () [] (fun _ _ h => h) hS rfl
                ·
                  replace hS := it_f h15 hS
                  refine VC.skip_to (fun _ _ h => h) ?_
                  refine VC.exit_to (fun _ _ h => h) ?_
                  refine VC.seq ?_
                  refine VC.region ?_
                  refine VL.q (q_assign rfl) (by decide) ?_
                  refine VL.q (q_assign rfl) (by decide) ?_
                  refine VL.to (fun _ _ h => h) ?_
                  cases hS
                  exact VC.ret (fin2 (.inr rfl) rfl rfl rfl () rfl trivial (fun _ _ => trivial) (fun _ _ => trivial))
    · -- from there
      clear hS
      rintro _ hS
      show VC _ _ _ _ _ [] (Mo.and Mo.tt _) (Ow.emp)
      refine VC.seq ?_
      refine VC.seq ?_
      refine VC.region ?_
      refine VL.q (q_assign rfl) (by decide) ?_
      refine VL.q (q_assign rfl) (by decide) ?_
      refine VL.to (fun _ _ h => h) ?_
      cases hS
      exact VC.ret (fin2 (.inr rfl) rfl rfl rfl () rfl trivial (fun _ _ => trivial) (fun _ _ => trivial))
  · -- from there
    clear hS
    rintro _ hS
    show VC _ _ _ _ _ [] (Mo.and Mo.tt _) (Ow.emp)
    refine VC.seq ?_
    refine VC.seq ?_
    refine VC.region ?_
    refine VL.q (q_assign rfl) (by decide) ?_
    refine VL.q (q_assign rfl) (by decide) ?_
    refine VL.to (fun _ _ h => h) ?_
    cases hS
    exact VC.ret (fin2 (.inr rfl) rfl rfl rfl () rfl trivial (fun _ _ => trivial) (fun _ _ => trivial))

set_option maxHeartbeats 4000000 in
set_option maxRecDepth 100000 in
theorem internal_stringslite_Cut_ct (s_0 : Str) (sep_1 : Str) {r : Str × Str × Bool} (hS : Sh.internal_stringslite_Cut s_0 sep_1 = some r) :
    Ct Tryd.prog 109 [str s_0, str sep_1] Mo.tt (Ow.emp) (X := Unit) (fun _ => .tuple #[str r.1, str r.2.1, .bool r.2.2]) (fun _ => True) (fun _ => Mo.tt) (fun _ => Ow.emp) := by
  refine Ct.of Tryd.func109 rfl (by kernel_rfl) Tryd.ntmps109 (by simp) fun c => ?_
  unfold Sh.internal_stringslite_Cut at hS
  refine VC.seq ?_
  refine VC.region ?_
  refine VL.q (q_assign rfl) (by decide) ?_
  refine VL.q (q_assign rfl) (by decide) ?_
  refine VL.q (q_assign rfl) (by decide) ?_
  refine VL.to (fun _ _ h => h) ?_
  refine VC.seq ?_
  refine VC.seq ?_
  refine VC.region ?_
  refine VL.q (q_move rfl) (by decide) ?_
  refine VL.q (q_move rfl) (by decide) ?_
  obtain ⟨y10_1, ey10_1, hS⟩ := bd_s hS
  refine VL.q (q_call (internal_stringslite_Index_ct s_0 sep_1 ey10_1) rfl (fun _ _ => rfl)) (by decide) ?_
  refine VL.q (q_assign rfl) (by decide) ?_
  refine VL.to (fun _ _ h => h) ?_
  refine VC.seq ?_
  refine VC.region ?_
  refine VL.q (q_move rfl) (by decide) ?_
  refine VL.q (q_geq rfl rfl) (by decide) ?_
  refine VL.to (fun _ _ h => h) ?_
  refine VC.keep [0, 1, 7, 12] rfl ?_
  refine VC.cond_dec rfl (fun h12 => ?_) (fun h12 => ?_)
  ·
    replace hS := it_t h12 hS
    refine VC.seq ?_
    refine VC.draw ((List.range 12).map fun k => (k, true)) mixed (by kernel_rfl) (by kernel_rfl) (by kernel_rfl) ?_
    refine VD.q rfl (q_move rfl) (by decide) ?_
    refine VD.q rfl (q_move rfl) (by decide) ?_
    obtain ⟨b15, hS⟩ := gd_s hS
    obtain ⟨y15_2, ey15_2, hS⟩ := lt_s hS
    refine VD.q rfl (q_stoE Tryd.underlying9 rfl rfl b15.1 b15.2 ey15_2) (by decide) ?_
    refine VD.q rfl (q_move rfl) (by decide) ?_
    refine VD.q rfl (q_move rfl) (by decide) ?_
    refine VD.q rfl (q_move rfl) (by decide) ?_
    refine VD.q rfl (q_slen Tryd.underlying9 rfl) (by decide) ?_
    obtain ⟨b20, hS⟩ := gd_s hS
    refine VD.q rfl (q_add rfl rfl b20) (by decide) ?_
    obtain ⟨b21, hS⟩ := gd_s hS
    obtain ⟨y21_3, ey21_3, hS⟩ := lt_s hS
    refine VD.q rfl (q_sfromE Tryd.underlying9 rfl rfl b21.1 b21.2 ey21_3) (by decide) ?_
    refine VD.q rfl (q_assign rfl) (by decide) ?_
    refine VD.q rfl (q_assign rfl) (by decide) ?_
    refine VD.q rfl (q_assign rfl) (by decide) ?_
    refine VD.to (fun _ _ h => h) ?_
    refine VC.keep [4, 5, 6] rfl ?_
    cases hS
    exact VC.ret (fin3 (.inr rfl) rfl rfl rfl rfl () rfl trivial (fun _ _ => trivial) (fun _ _ => trivial))
  ·
    replace hS := it_f h12 hS
    refine VC.skip_to (fun _ _ h => h) ?_
    refine VC.seq ?_
    refine VC.region ?_
    refine VL.q (q_move rfl) (by decide) ?_
    refine VL.q (q_assign rfl) (by decide) ?_
    refine VL.q (q_assign rfl) (by decide) ?_
    refine VL.q (q_assign rfl) (by decide) ?_
    refine VL.to (fun _ _ h => h) ?_
    cases hS
    exact VC.ret (fin3 (.inr rfl) rfl rfl rfl rfl () rfl trivial (fun _ _ => trivial) (fun _ _ => trivial))

set_option maxHeartbeats 4000000 in
set_option maxRecDepth 100000 in
theorem strings_Cut_ct (s_0 : Str) (sep_1 : Str) {r : Str × Str × Bool} (hS : Sh.strings_Cut s_0 sep_1 = some r) :
    Ct Tryd.prog 71 [str s_0, str sep_1] Mo.tt (Ow.emp) (X := Unit) (fun _ => .tuple #[str r.1, str r.2.1, .bool r.2.2]) (fun _ => True) (fun _ => Mo.tt) (fun _ => Ow.emp) := by
  refine Ct.of Tryd.func71 rfl (by kernel_rfl) Tryd.ntmps71 (by simp) fun c => ?_
  unfold Sh.strings_Cut at hS
  refine VC.seq ?_
  refine VC.region ?_
  refine VL.q (q_assign rfl) (by decide) ?_
  refine VL.q (q_assign rfl) (by decide) ?_
  refine VL.q (q_assign rfl) (by decide) ?_
  refine VL.to (fun _ _ h => h) ?_
  refine VC.seq ?_
  refine VC.region ?_
  refine VL.q (q_move rfl) (by decide) ?_
  refine VL.q (q_move rfl) (by decide) ?_
  obtain ⟨y9_1, ey9_1, hS⟩ := bd_s hS
  refine VL.q (q_call (internal_stringslite_Cut_ct s_0 sep_1 ey9_1) rfl (fun _ _ => rfl)) (by decide) ?_
  refine VL.q (q_extract rfl rfl) (by decide) ?_
  refine VL.q (q_extract rfl rfl) (by decide) ?_
  refine VL.q (q_extract rfl rfl) (by decide) ?_
  refine VL.q (q_assign rfl) (by decide) ?_
  refine VL.q (q_assign rfl) (by decide) ?_
  refine VL.q (q_assign rfl) (by decide) ?_
  refine VL.to (fun _ _ h => h) ?_
  refine VC.keep [4, 5, 6] rfl ?_
  cases hS
  exact VC.ret (fin3 (.inr rfl) rfl rfl rfl rfl () rfl trivial (fun _ _ => trivial) (fun _ _ => trivial))

set_option maxHeartbeats 4000000 in
set_option maxRecDepth 100000 in
theorem todo_number_ct (s_0 : Str) {r : Int × Bool} (hS : Sh.todo_number s_0 = some r) :
    Ct Tryd.prog 93 [str s_0] Mo.tt (Ow.emp) (X := Unit) (fun _ => .tuple #[i64 r.1, .bool r.2]) (fun _ => True) (fun _ => Mo.tt) (fun _ => Ow.emp) := by
  refine Ct.of Tryd.func93 rfl (by kernel_rfl) Tryd.ntmps93 (by simp) fun c => ?_
  unfold Sh.todo_number at hS
  refine VC.seq ?_
  refine VC.region ?_
  refine VL.q (q_assign rfl) (by decide) ?_
  refine VL.q (q_assign rfl) (by decide) ?_
  refine VL.to (fun _ _ h => h) ?_
  refine VC.seq ?_
  refine VC.cutJ (S := Bool) (fun (x18_1 : Bool) => x18_1) (fun (x18_1 : Bool) => [(0, str s_0), (18, .bool x18_1)]) (fun (x18_1 : Bool) => Mo.tt) (fun (x18_1 : Bool) => Ow.emp) hS ?_ ?_
  · -- up to where ways meet
    clear hS
    intro k2 hS
    refine VC.region ?_
    refine VL.q (q_move rfl) (by decide) ?_
    refine VL.q (q_seq rfl rfl) (by decide) ?_
    refine VL.q (q_move rfl) (by decide) ?_
    refine VL.split_dec 9 rfl (fun h9 => ?_) (fun h9 => ?_)
    ·
      replace hS := it_t h9 hS
      refine VL.gn rfl rfl rfl (by decide) ?_
      refine VL.gn rfl rfl rfl (by decide) ?_
      refine VL.gn rfl rfl rfl (by decide) ?_
      refine VL.q (q_pick_t rfl rfl) (by decide) ?_
      refine VL.q (q_move rfl) (by decide) ?_
      refine VL.gn rfl rfl rfl (by decide) ?_
      refine VL.gn rfl rfl rfl (by decide) ?_
      refine VL.gn rfl rfl rfl (by decide) ?_
      refine VL.q (q_pick_t rfl rfl) (by decide) ?_
      refine VL.mt true [0, 18] (fun _ _ h => h) hS rfl
    ·
      replace hS := it_f h9 hS
      refine VL.gy rfl rfl (q_move rfl) (by decide) ?_
      refine VL.gy rfl rfl (q_slen Tryd.underlying9 rfl) (by decide) ?_
      refine VL.gy rfl rfl (q_gtr rfl rfl) (by decide) ?_
      refine VL.q (q_pick_f rfl rfl) (by decide) ?_
      refine VL.q (q_move rfl) (by decide) ?_
      refine VL.split_dec 14 rfl (fun h14 => ?_) (fun h14 => ?_)
      ·
        replace hS := it_t h14 hS
        refine VL.gn rfl rfl rfl (by decide) ?_
        refine VL.gn rfl rfl rfl (by decide) ?_
        refine VL.gn rfl rfl rfl (by decide) ?_
        refine VL.q (q_pick_t rfl rfl) (by decide) ?_
        refine VL.mt true [0, 18] (fun _ _ h => h) hS rfl
      ·
        replace hS := it_f h14 hS
        refine VL.gy rfl rfl (q_move rfl) (by decide) ?_
        obtain ⟨z16_3, nz16_3, hz16_3, hS⟩ := at_s hS
        refine VL.gy rfl rfl (q_sidx Tryd.underlying9 rfl rfl nz16_3 hz16_3) (by decide) ?_
        refine VL.gy rfl rfl (q_eql rfl rfl) (by decide) ?_
        refine VL.q (q_pick_f rfl rfl) (by decide) ?_
        refine VL.mt (decide ((z16_3.toNat : Int) = 48)) [0, 18] (fun _ _ h => h) hS rfl
  · -- from there
    clear hS
    rintro x18_1 hS
    show VC _ _ _ _ _ [(0, str s_0), (18, .bool x18_1)] (Mo.and Mo.tt _) (Ow.emp)
    refine VC.cond rfl (fun h18 => ?_) (fun h18 => ?_)
    ·
      replace hS := it_t h18 hS
      refine VC.seq ?_
      refine VC.region ?_
      refine VL.q (q_assign rfl) (by decide) ?_
      refine VL.q (q_assign rfl) (by decide) ?_
      refine VL.to (fun _ _ h => h) ?_
      cases hS
      exact VC.ret (fin2 (.inr rfl) rfl rfl rfl () rfl trivial (fun _ _ => trivial) (fun _ _ => trivial))
    ·
      replace hS := it_b h18 hS
      refine VC.skip_to (fun _ _ h => h) ?_
      refine VC.seq ?_
      refine VC.region ?_
      refine VL.q (q_assign rfl) (by decide) ?_
      refine VL.to (fun _ _ h => h) ?_
      refine VC.seq ?_
      refine VC.seq ?_
      refine VC.region ?_
      refine VL.q (q_move rfl) (by decide) ?_
      obtain ⟨b20, hS⟩ := gd_s hS
      refine VL.s2b Tryd.underlying9 Tryd.underlying23 Tryd.underlying5 rfl b20 (by decide) fun s20_4 hs20_4 => ?_
      replace hS := lt_to hs20_4 hS
      refine VL.q (q_ln (s := s20_4) Tryd.underlying23 rfl) (by decide) ?_
      refine VL.q (q_move rfl) (by decide) ?_
      refine VL.to (fun _ _ h => h) ?_
      refine VC.block ?_
      refine VC.iter (S := Int × Int) (fun sg => (sg.1, sg.2)) (fun sg => [(4, i64 sg.1), (20, s20_4.val), (21, i64 (s20_4.l.length : Int)), (22, i64 sg.2)]) (fun sg => Mo.tt) (fun sg => Ow.emp) (0, 0) [4, 20, 21, 22] hS rfl ?_
      clear hS
      rintro ⟨n4_6, x22_7⟩ m1 y1 hS hK1
      show VC _ _ _ _ _ [(4, i64 n4_6), (20, s20_4.val), (21, i64 (s20_4.l.length : Int)), (22, i64 x22_7)] (Mo.and Mo.tt _) (Ow.emp)
      refine VC.seq ?_
      refine VC.region ?_
      refine VL.q (q_lss rfl rfl) (by decide) ?_
      refine VL.to (fun _ _ h => h) ?_
      refine VC.seq ?_
      refine VC.cond_dec rfl (fun h23 => ?_) (fun h23 => ?_)
      ·
        replace hS := it_t h23 hS
        refine VC.skip_to (fun _ _ h => h) ?_
        refine VC.seq ?_
        refine VC.block ?_
        refine VC.seq ?_
        refine VC.region ?_
        obtain ⟨z24_8, nz24_8, hz24_8, hS⟩ := at_s hS
        refine VL.q (q_ixm (s := s20_4) Tryd.underlying23 gsz5 rfl rfl nz24_8 (lt_of_get nz24_8 hz24_8)) (by decide) ?_
        refine VL.q (q_el (s := s20_4) gone5 rfl hz24_8 rfl) (by decide) ?_
        refine VL.q (q_assign rfl) (by decide) ?_
        refine VL.to (fun _ _ h => h) ?_
        refine VC.seq ?_
        refine VC.cutJ (S := Bool) (fun (x31_9 : Bool) => x31_9) (fun (x31_9 : Bool) => [(4, i64 n4_6), (6, .int .u8 (z24_8.toNat : Int)), (20, s20_4.val), (21, i64 (s20_4.l.length : Int)), (22, i64 x22_7), (31, .bool x31_9)]) (fun (x31_9 : Bool) => Mo.tt) (fun (x31_9 : Bool) => Ow.emp) hS ?_ ?_
        · -- up to where ways meet
          clear hS
          intro k10 hS
          refine VC.region ?_
          refine VL.q (q_move rfl) (by decide) ?_
          refine VL.q (q_lss rfl rfl) (by decide) ?_
          refine VL.q (q_move rfl) (by decide) ?_
          refine VL.split_dec 28 rfl (fun h28 => ?_) (fun h28 => ?_)
          ·
            replace hS := it_t h28 hS
            refine VL.gn rfl rfl rfl (by decide) ?_
            refine VL.gn rfl rfl rfl (by decide) ?_
            refine VL.q (q_pick_t rfl rfl) (by decide) ?_
            refine VL.mt true [4, 6, 20, 21, 22, 31] (fun _ _ h => h) hS rfl
          ·
            replace hS := it_f h28 hS
            refine VL.gy rfl rfl (q_move rfl) (by decide) ?_
            refine VL.gy rfl rfl (q_gtr rfl rfl) (by decide) ?_
            refine VL.q (q_pick_f rfl rfl) (by decide) ?_
            refine VL.mt (decide (57 < (z24_8.toNat : Int))) [4, 6, 20, 21, 22, 31] (fun _ _ h => h) hS rfl
        · -- from there
          clear hS
          rintro x31_9 hS
          show VC _ _ _ _ _ [(4, i64 n4_6), (6, .int .u8 (z24_8.toNat : Int)), (20, s20_4.val), (21, i64 (s20_4.l.length : Int)), (22, i64 x22_7), (31, .bool x31_9)] (Mo.and Mo.tt _) (Ow.emp)
          refine VC.cond rfl (fun h31 => ?_) (fun h31 => ?_)
          ·
            replace hS := it_t h31 hS
            refine VC.seq ?_
            refine VC.region ?_
            refine VL.q (q_assign rfl) (by decide) ?_
            refine VL.q (q_assign rfl) (by decide) ?_
            refine VL.to (fun _ _ h => h) ?_
            replace hS := up2 hS hK1
            cases hS
            exact VC.ret (fin2 (.inr rfl) rfl rfl rfl () rfl trivial (fun _ _ => trivial) (fun _ _ => trivial))
          ·
            replace hS := it_b h31 hS
            refine VC.skip_to (fun _ _ h => h) ?_
            refine VC.region ?_
            refine VL.q (q_move rfl) (by decide) ?_
            obtain ⟨b33, hS⟩ := gd_s hS
            refine VL.q (q_mul rfl rfl b33) (by decide) ?_
            refine VL.q (q_move rfl) (by decide) ?_
            obtain ⟨b35, hS⟩ := gd_s hS
            refine VL.q (q_subW rfl rfl (wu8_in b35)) (by decide) ?_
            refine VL.q (q_convW Tryd.underlying5 Tryd.underlying3 rfl) (by decide) ?_
            obtain ⟨b37, hS⟩ := gd_s hS
            refine VL.q (q_add rfl rfl b37) (by decide) ?_
            refine VL.q (q_assign rfl) (by decide) ?_
            refine VL.to (fun _ _ h => h) ?_
            refine VC.keep [4, 20, 21, 22] rfl ?_
            refine VC.region ?_
            obtain ⟨b38, hS⟩ := gd_s hS
            refine VL.q (q_add rfl rfl b38) (by decide) ?_
            refine VL.q (q_move rfl) (by decide) ?_
            refine VL.rnd (((10 * n4_6) + (IntKind.wrap .i64 ((z24_8.toNat : Int) - 48))), (x22_7 + 1)) [4, 20, 21, 22] (fun _ _ h => h) (go2 hS hK1) rfl
      ·
        replace hS := it_f h23 hS
        replace hS := up2 hS hK1
        refine VC.exit_to (fun _ _ h => h) ?_
        refine VC.seq ?_
        refine VC.region ?_
        refine VL.q (q_move rfl) (by decide) ?_
        refine VL.q (q_move rfl) (by decide) ?_
        refine VL.q (q_leq rfl rfl) (by decide) ?_
        refine VL.q (q_assign rfl) (by decide) ?_
        refine VL.q (q_assign rfl) (by decide) ?_
        refine VL.to (fun _ _ h => h) ?_
        cases hS
        exact VC.ret (fin2 (.inr rfl) rfl rfl rfl () rfl trivial (fun _ _ => trivial) (fun _ _ => trivial))

set_option maxHeartbeats 4000000 in
set_option maxRecDepth 100000 in
theorem todo_line_ct (a_0 : Str) {r : TodoStep × Int} (hS : Sh.todo_line a_0 = some r) :
    Ct Tryd.prog 46 [str a_0] Mo.tt (Ow.emp) (X := Unit) (fun _ => .tuple #[.agg #[str r.1.verb, i64 r.1.commit, str r.1.text], i64 r.2]) (fun _ => True) (fun _ => Mo.tt) (fun _ => Ow.emp) := by
  refine Ct.of Tryd.func46 rfl (by kernel_rfl) Tryd.ntmps46 (by simp) fun c => ?_
  unfold Sh.todo_line at hS
  refine VC.seq ?_
  refine VC.region ?_
  refine VL.alloc (cs := [str [], i64 0, str []]) (by kernel_rfl) (by decide) fun b2_1 => ?_
  refine VL.q (q_assign rfl) (by decide) ?_
  refine VL.to (fun _ _ h => h) ?_
  refine VC.seq ?_
  refine VC.region ?_
  refine VL.q (q_move rfl) (by decide) ?_
  obtain ⟨y15_2, ey15_2, hS⟩ := bd_s hS
  refine VL.q (q_call (todo_cut_ct a_0 ey15_2) rfl (fun _ _ => rfl)) (by decide) ?_
  refine VL.q (q_move rfl) (by decide) ?_
  refine VL.q (q_extract rfl rfl) (by decide) ?_
  refine VL.q (q_extract rfl rfl) (by decide) ?_
  refine VL.q (q_assign rfl) (by decide) ?_
  refine VL.q (q_assign rfl) (by decide) ?_
  refine VL.to (fun _ _ h => h) ?_
  refine VC.seq ?_
  refine VC.seq ?_
  refine VC.region ?_
  refine VL.q (q_move rfl) (by decide) ?_
  obtain ⟨y19_3, ey19_3, hS⟩ := bd_s hS
  refine VL.q (q_call (strings_Trim_ct y15_2.2 [32] ey19_3) rfl (fun _ _ => rfl)) (by decide) ?_
  refine VL.q (q_seq rfl rfl) (by decide) ?_
  refine VL.to (fun _ _ h => h) ?_
  refine VC.keep [2, 4, 5, 20] rfl ?_
  refine VC.cond_dec rfl (fun h20 => ?_) (fun h20 => ?_)
  ·
    replace hS := it_t h20 hS
    refine VC.seq ?_
    refine VC.region ?_
    refine VL.q (q_build (vs := []) (cs := #[str [], i64 0, str []]) rfl (by kernel_rfl)) (by decide) ?_
    refine VL.store (vc := [str [], i64 0, str []]) (cs' := [str [], i64 0, str []]) rfl rfl rfl gsz26 rfl rfl (Nat.le_of_ble_eq_true rfl) rfl ?_
    refine VL.q (q_assign rfl) (by decide) ?_
    refine VL.to (fun _ _ h => h) ?_
    cases hS
    exact VC.ret (finG (vs := [.agg #[str [], i64 0, str []], i64 2]) (.inr rfl) rfl (RVs.cell gagg26 rfl rfl Rd.blk (RVs.tmp rfl (RVs.nil))) () rfl trivial (by (try dsimp only); exact InM.out) (fun _ _ => trivial))
  ·
    replace hS := it_f h20 hS
    refine VC.skip_to (fun _ _ h => h) ?_
    refine VC.seq ?_
    refine VC.seq ?_
    refine VC.region ?_
    refine VL.q (q_move rfl) (by decide) ?_
    obtain ⟨y24_4, ey24_4, hS⟩ := bd_s hS
    refine VL.q (q_call (todo_verb_ct y15_2.1 ey24_4) rfl (fun _ _ => rfl)) (by decide) ?_
    refine VL.q (q_move rfl) (by decide) ?_
    refine VL.q (q_extract rfl rfl) (by decide) ?_
    refine VL.q (q_extract rfl rfl) (by decide) ?_
    refine VL.q (q_assign rfl) (by decide) ?_
    refine VL.q (q_assign rfl) (by decide) ?_
    refine VL.to (fun _ _ h => h) ?_
    refine VC.keep [2, 4, 5, 6] rfl ?_
    refine VC.seq ?_
    refine VC.region ?_
    refine VL.q (q_move rfl) (by decide) ?_
    refine VL.q (q_not rfl) (by decide) ?_
    refine VL.to (fun _ _ h => h) ?_
    refine VC.cond rfl (fun h28 => ?_) (fun h28 => ?_)
    ·
      replace hS := it_t h28 hS
      refine VC.seq ?_
      refine VC.region ?_
      refine VL.q (q_build (vs := []) (cs := #[str [], i64 0, str []]) rfl (by kernel_rfl)) (by decide) ?_
      refine VL.store (vc := [str [], i64 0, str []]) (cs' := [str [], i64 0, str []]) rfl rfl rfl gsz26 rfl rfl (Nat.le_of_ble_eq_true rfl) rfl ?_
      refine VL.q (q_assign rfl) (by decide) ?_
      refine VL.to (fun _ _ h => h) ?_
      cases hS
      exact VC.ret (finG (vs := [.agg #[str [], i64 0, str []], i64 5]) (.inr rfl) rfl (RVs.cell gagg26 rfl rfl Rd.blk (RVs.tmp rfl (RVs.nil))) () rfl trivial (by (try dsimp only); exact InM.out) (fun _ _ => trivial))
    ·
      replace hS := it_b h28 hS
      refine VC.skip_to (fun _ _ h => h) ?_
      refine VC.seq ?_
      refine VC.region ?_
      refine VL.q (q_move rfl) (by decide) ?_
      obtain ⟨y32_5, ey32_5, hS⟩ := bd_s hS
      refine VL.q (q_call (strings_Cut_ct y15_2.2 [32] ey32_5) rfl (fun _ _ => rfl)) (by decide) ?_
      refine VL.q (q_move rfl) (by decide) ?_
      refine VL.q (q_extract rfl rfl) (by decide) ?_
      refine VL.q (q_extract rfl rfl) (by decide) ?_
      refine VL.q (q_extract rfl rfl) (by decide) ?_
      refine VL.q (q_assign rfl) (by decide) ?_
      refine VL.q (q_assign rfl) (by decide) ?_
      refine VL.q (q_assign rfl) (by decide) ?_
      refine VL.to (fun _ _ h => h) ?_
      refine VC.keep [2, 4, 8, 9, 10] rfl ?_
      refine VC.seq ?_
      refine VC.region ?_
      refine VL.q (q_move rfl) (by decide) ?_
      obtain ⟨y38_6, ey38_6, hS⟩ := bd_s hS
      refine VL.q (q_call (todo_number_ct y32_5.1 ey38_6) rfl (fun _ _ => rfl)) (by decide) ?_
      refine VL.q (q_move rfl) (by decide) ?_
      refine VL.q (q_extract rfl rfl) (by decide) ?_
      refine VL.q (q_extract rfl rfl) (by decide) ?_
      refine VL.q (q_assign rfl) (by decide) ?_
      refine VL.q (q_assign rfl) (by decide) ?_
      refine VL.to (fun _ _ h => h) ?_
      refine VC.seq ?_
      refine VC.seq ?_
      refine VC.region ?_
      refine VL.q (q_move rfl) (by decide) ?_
      refine VL.q (q_not rfl) (by decide) ?_
      refine VL.to (fun _ _ h => h) ?_
      refine VC.keep [2, 4, 9, 10, 11, 42] rfl ?_
      refine VC.cond rfl (fun h42 => ?_) (fun h42 => ?_)
      ·
        replace hS := it_t h42 hS
        refine VC.seq ?_
        refine VC.region ?_
        refine VL.q (q_build (vs := []) (cs := #[str [], i64 0, str []]) rfl (by kernel_rfl)) (by decide) ?_
        refine VL.store (vc := [str [], i64 0, str []]) (cs' := [str [], i64 0, str []]) rfl rfl rfl gsz26 rfl rfl (Nat.le_of_ble_eq_true rfl) rfl ?_
        refine VL.q (q_assign rfl) (by decide) ?_
        refine VL.to (fun _ _ h => h) ?_
        cases hS
        exact VC.ret (finG (vs := [.agg #[str [], i64 0, str []], i64 1]) (.inr rfl) rfl (RVs.cell gagg26 rfl rfl Rd.blk (RVs.tmp rfl (RVs.nil))) () rfl trivial (by (try dsimp only); exact InM.out) (fun _ _ => trivial))
      ·
        replace hS := it_b h42 hS
        refine VC.skip_to (fun _ _ h => h) ?_
        refine VC.cutJ (S := Str) (fun (x9_7 : Str) => x9_7) (fun (x9_7 : Str) => [(2, ptr b2_1 0), (4, str y15_2.1), (9, str x9_7), (11, i64 y38_6.1)]) (fun (x9_7 : Str) => Mo.tt) (fun (x9_7 : Str) => Ow.star (Blk b2_1 [str [], i64 0, str []] 26) (Ow.emp)) hS ?_ ?_
        · -- up to where ways meet
          clear hS
          intro k8 hS
          refine VC.seq ?_
          refine VC.region ?_
          refine VL.q (q_move rfl) (by decide) ?_
          refine VL.to (fun _ _ h => h) ?_
          refine VC.block ?_
          refine VC.seq ?_
          refine VC.region ?_
          refine VL.q (q_seq rfl rfl) (by decide) ?_
          refine VL.q (q_assign rfl) (by decide) ?_
          refine VL.to (fun _ _ h => h) ?_
          refine VC.cond_dec rfl (fun h49 => ?_) (fun h49 => ?_)
          ·
            replace hS := it_t h49 hS
            refine VC.seq ?_
            refine VC.cutJ (S := Bool) (fun (x56_9 : Bool) => x56_9) (fun (x56_9 : Bool) => [(2, ptr b2_1 0), (4, str y15_2.1), (9, str y32_5.2.1), (11, i64 y38_6.1), (56, .bool x56_9)]) (fun (x56_9 : Bool) => Mo.tt) (fun (x56_9 : Bool) => Ow.star (Blk b2_1 [str [], i64 0, str []] 26) (Ow.emp)) hS ?_ ?_
            · -- up to where ways meet
              clear hS
              intro k10 hS
              refine VC.region ?_
              refine VL.q (q_move rfl) (by decide) ?_
              refine VL.q (q_not rfl) (by decide) ?_
              refine VL.q (q_move rfl) (by decide) ?_
              refine VL.split 53 rfl (fun h53 => ?_) (fun h53 => ?_)
              ·
                replace hS := it_t h53 hS
                refine VL.gn rfl rfl rfl (by decide) ?_
                refine VL.gn rfl rfl rfl (by decide) ?_
                refine VL.q (q_pick_t rfl rfl) (by decide) ?_
                refine VL.mt true [2, 4, 9, 11, 56] (fun _ _ h => h) hS rfl
              ·
                replace hS := it_b h53 hS
                refine VL.gy rfl rfl (q_move rfl) (by decide) ?_
                refine VL.gy rfl rfl (q_seq rfl rfl) (by decide) ?_
                refine VL.q (q_pick_f rfl rfl) (by decide) ?_
                refine VL.mt (decide (y32_5.2.1 = [])) [2, 4, 9, 11, 56] (fun _ _ h => h) hS rfl
            · -- from there
              clear hS
              rintro x56_9 hS
              show VC _ _ _ _ _ [(2, ptr b2_1 0), (4, str y15_2.1), (9, str y32_5.2.1), (11, i64 y38_6.1), (56, .bool x56_9)] (Mo.and Mo.tt _) (Ow.star (Blk b2_1 [str [], i64 0, str []] 26) (Ow.emp))
              refine VC.cond rfl (fun h56 => ?_) (fun h56 => ?_)
              ·
                replace hS := it_t h56 hS
                refine VC.seq ?_
                refine VC.region ?_
                refine VL.q (q_build (vs := []) (cs := #[str [], i64 0, str []]) rfl (by kernel_rfl)) (by decide) ?_
                refine VL.store (vc := [str [], i64 0, str []]) (cs' := [str [], i64 0, str []]) rfl rfl rfl gsz26 rfl rfl (Nat.le_of_ble_eq_true rfl) rfl ?_
                refine VL.q (q_assign rfl) (by decide) ?_
                refine VL.to (fun _ _ h => h) ?_
                cases hS
                exact VC.ret (finG (vs := [.agg #[str [], i64 0, str []], i64 2]) (.inr rfl) rfl (RVs.cell gagg26 rfl rfl Rd.blk (RVs.tmp rfl (RVs.nil))) () rfl trivial (by (try dsimp only); exact InM.out) (fun _ _ => trivial))
              ·
                replace hS := it_b h56 hS
                refine VC.skip_to (fun _ _ h => h) ?_
                refine VC.seq ?_
                refine VC.region ?_
                refine VL.q (q_move rfl) (by decide) ?_
                refine VL.q (q_slen Tryd.underlying9 rfl) (by decide) ?_
                refine VL.q (q_gtr rfl rfl) (by decide) ?_
                refine VL.to (fun _ _ h => h) ?_
                refine VC.cond_dec rfl (fun h60 => ?_) (fun h60 => ?_)
                ·
                  replace hS := it_t h60 hS
                  refine VC.seq ?_
                  refine VC.region ?_
                  refine VL.q (q_build (vs := []) (cs := #[str [], i64 0, str []]) rfl (by kernel_rfl)) (by decide) ?_
                  refine VL.store (vc := [str [], i64 0, str []]) (cs' := [str [], i64 0, str []]) rfl rfl rfl gsz26 rfl rfl (Nat.le_of_ble_eq_true rfl) rfl ?_
                  refine VL.q (q_assign rfl) (by decide) ?_
                  refine VL.to (fun _ _ h => h) ?_
                  cases hS
                  exact VC.ret (finG (vs := [.agg #[str [], i64 0, str []], i64 4]) (.inr rfl) rfl (RVs.cell gagg26 rfl rfl Rd.blk (RVs.tmp rfl (RVs.nil))) () rfl trivial (by (try dsimp only); exact InM.out) (fun _ _ => trivial))
                ·
                  replace hS := it_f h60 hS
                  refine VC.skip_mt y32_5.2.1 [2, 4, 9, 11] (fun _ _ h => h) hS rfl
          ·
            replace hS := it_f h49 hS
            refine VC.seq ?_
            refine VC.seq ?_
            refine VC.region ?_
            refine VL.q (q_move rfl) (by decide) ?_
            obtain ⟨y46_11, ey46_11, hS⟩ := bd_s hS
            refine VL.q (q_call (strings_Trim_ct y32_5.2.1 [32] ey46_11) rfl (fun _ _ => rfl)) (by decide) ?_
            refine VL.q (q_sne rfl rfl) (by decide) ?_
            refine VL.to (fun _ _ h => h) ?_
            refine VC.keep [2, 4, 11, 47] rfl ?_
            refine VC.cond_ndec rfl (fun h47 => ?_) (fun h47 => ?_)
            ·
              replace hS := it_f h47 hS
              refine VC.seq ?_
              refine VC.region ?_
              refine VL.q (q_build (vs := []) (cs := #[str [], i64 0, str []]) rfl (by kernel_rfl)) (by decide) ?_
              refine VL.store (vc := [str [], i64 0, str []]) (cs' := [str [], i64 0, str []]) rfl rfl rfl gsz26 rfl rfl (Nat.le_of_ble_eq_true rfl) rfl ?_
              refine VL.q (q_assign rfl) (by decide) ?_
              refine VL.to (fun _ _ h => h) ?_
              cases hS
              exact VC.ret (finG (vs := [.agg #[str [], i64 0, str []], i64 2]) (.inr rfl) rfl (RVs.cell gagg26 rfl rfl Rd.blk (RVs.tmp rfl (RVs.nil))) () rfl trivial (by (try dsimp only); exact InM.out) (fun _ _ => trivial))
            ·
              replace hS := it_t h47 hS
              refine VC.skip_to (fun _ _ h => h) ?_
              refine VC.region ?_
              refine VL.q (q_assign rfl) (by decide) ?_
              refine VL.mt [] [2, 4, 9, 11] (fun _ _ h => h) hS rfl
        · -- from there
          clear hS
          rintro x9_7 hS
          show VC _ _ _ _ _ [(2, ptr b2_1 0), (4, str y15_2.1), (9, str x9_7), (11, i64 y38_6.1)] (Mo.and Mo.tt _) (Ow.star (Blk b2_1 [str [], i64 0, str []] 26) (Ow.emp))
          refine VC.seq ?_
          refine VC.region ?_
          refine VL.q (q_move rfl) (by decide) ?_
          refine VL.q (q_move rfl) (by decide) ?_
          refine VL.q (q_move rfl) (by decide) ?_
          refine VL.q (q_build (vs := [(0, str y15_2.1), (1, i64 y38_6.1), (2, str x9_7)]) (cs := #[str y15_2.1, i64 y38_6.1, str x9_7]) rfl (by kernel_rfl)) (by decide) ?_
          refine VL.store (vc := [str y15_2.1, i64 y38_6.1, str x9_7]) (cs' := [str y15_2.1, i64 y38_6.1, str x9_7]) rfl rfl rfl gsz26 rfl rfl (Nat.le_of_ble_eq_true rfl) rfl ?_
          refine VL.q (q_assign rfl) (by decide) ?_
          refine VL.to (fun _ _ h => h) ?_
          cases hS
          exact VC.ret (finG (vs := [.agg #[str y15_2.1, i64 y38_6.1, str x9_7], i64 0]) (.inr rfl) rfl (RVs.cell gagg26 rfl rfl Rd.blk (RVs.tmp rfl (RVs.nil))) () rfl trivial (by (try dsimp only); exact InM.out) (fun _ _ => trivial))

set_option maxHeartbeats 4000000 in
set_option maxRecDepth 100000 in
theorem slices_Clip_todo_Step_todo_Step_ct (s_0 : Sv TodoStep) {r : List TodoStep} (hS : Sh.slices_Clip_todo_Step_todo_Step s_0.l = some r) :
    Ct Tryd.prog 47 [s_0.val] s_0.ok (Ow.emp) (X := Sv TodoStep) (fun x => x.val) (fun x => r = x.l) (fun x => x.ok) (fun x => Ow.emp) := by
  refine Ct.of Tryd.func47 rfl (by kernel_rfl) Tryd.ntmps47 (by simp) fun c => ?_
  unfold Sh.slices_Clip_todo_Step_todo_Step at hS
  refine VC.seq ?_
  refine VC.region ?_
  refine VL.q (q_assign rfl) (by decide) ?_
  refine VL.to (fun _ _ h => h) ?_
  refine VC.seq ?_
  refine VC.region ?_
  refine VL.q (q_move rfl) (by decide) ?_
  refine VL.q (q_move rfl) (by decide) ?_
  refine VL.q (q_ln (s := s_0) Tryd.underlying22 rfl) (by decide) ?_
  refine VL.q (q_move rfl) (by decide) ?_
  refine VL.q (q_ln (s := s_0) Tryd.underlying22 rfl) (by decide) ?_
  obtain ⟨b8, hS⟩ := gd_s hS
  refine VL.stom Tryd.underlying22 gsz26 rfl rfl rfl b8.1 (b8.2) (by decide) fun s8_1 hs8_1 => ?_
  replace hS := lt_to hs8_1 hS
  refine VL.q (q_assign rfl) (by decide) ?_
  refine VL.to (fun _ _ h => h) ?_
  cases hS
  exact VC.ret (fin1 (.inr rfl) rfl rfl s8_1 rfl rfl (by (try dsimp only); exact InM.out) (fun _ _ => trivial))

set_option maxHeartbeats 4000000 in
set_option maxRecDepth 100000 in
theorem todo_Parse_ct (s_0 : Str) {r : List TodoStep × Err} (hS : Sh.todo_Parse s_0 = some r) :
    Ct Tryd.prog 11 [str s_0] Mo.tt (Ow.emp) (X := Sv TodoStep × Er) (fun x => .tuple #[x.1.val, x.2.val]) (fun x => r = (x.1.l, x.2.pl)) (fun x => (x.1.ok.and x.2.ok)) (fun x => Ow.emp) := by
  refine Ct.of Tryd.func11 rfl (by kernel_rfl) Tryd.ntmps11 (by simp) fun c => ?_
  unfold Sh.todo_Parse at hS
  refine VC.seq ?_
  refine VC.region ?_
  refine VL.q (q_assign rfl) (by decide) ?_
  refine VL.q (q_assign rfl) (by decide) ?_
  refine VL.to (fun _ _ h => h) ?_
  refine VC.seq ?_
  refine VC.region ?_
  refine VL.q (q_assign rfl) (by decide) ?_
  refine VL.to (fun _ _ h => h) ?_
  refine VC.seq ?_
  refine VC.seq ?_
  refine VC.region ?_
  refine VL.q (q_move rfl) (by decide) ?_
  obtain ⟨y10_1, ey10_1, hS⟩ := bd_s hS
  refine VL.callF (strings_Split_ct s_0 [10] ey10_1) rfl (by decide) ?_
  rintro q10_1_0 rfl
  try dsimp only
  refine VL.q (q_ln (s := q10_1_0) Tryd.underlying38 rfl) (by decide) ?_
  refine VL.q (q_move rfl) (by decide) ?_
  refine VL.to (fun _ _ h => h) ?_
  refine VC.block ?_
  refine VC.nilO (⟨none, 0, []⟩ : Sv TodoStep) 26 ⟨rfl, rfl⟩ ?_
  refine VC.iter (S := Sv TodoStep × Int) (fun sg => (sg.1.l, sg.2)) (fun sg => [(4, sg.1.val), (10, q10_1_0.val), (11, i64 (q10_1_0.l.length : Int)), (12, i64 sg.2)]) (fun sg => Mo.tt) (fun sg => Ow.star (Sv.own sg.1 26) (Ow.emp)) (⟨none, 0, []⟩, 0) [4, 10, 11, 12] hS rfl ?_
  clear hS
  rintro ⟨out4_2, x12_3⟩ m1 y1 hS hK1
  show VC _ _ _ _ _ [(4, out4_2.val), (10, q10_1_0.val), (11, i64 (q10_1_0.l.length : Int)), (12, i64 x12_3)] (Mo.and Mo.tt _) (Ow.star (Sv.own out4_2 26) (Ow.emp))
  refine VC.seq ?_
  refine VC.region ?_
  refine VL.q (q_lss rfl rfl) (by decide) ?_
  refine VL.to (fun _ _ h => h) ?_
  refine VC.seq ?_
  refine VC.cond_dec rfl (fun h13 => ?_) (fun h13 => ?_)
  ·
    replace hS := it_t h13 hS
    refine VC.skip_to (fun _ _ h => h) ?_
    refine VC.seq ?_
    refine VC.block ?_
    refine VC.seq ?_
    refine VC.region ?_
    refine VL.q (q_move rfl) (by decide) ?_
    obtain ⟨z15_4, nz15_4, hz15_4, hS⟩ := at_s hS
    refine VL.q (q_ixm (s := q10_1_0) Tryd.underlying38 gsz9 rfl rfl nz15_4 (lt_of_get nz15_4 hz15_4)) (by decide) ?_
    refine VL.q (q_el (s := q10_1_0) gone9 rfl hz15_4 rfl) (by decide) ?_
    refine VL.q (q_assign rfl) (by decide) ?_
    refine VL.q (q_assign rfl) (by decide) ?_
    refine VL.to (fun _ _ h => h) ?_
    refine VC.seq ?_
    refine VC.region ?_
    refine VL.q (q_move rfl) (by decide) ?_
    obtain ⟨y18_5, ey18_5, hS⟩ := bd_s hS
    refine VL.q (q_call (strings_TrimLeft_ct z15_4 [32] ey18_5) rfl (fun _ _ => rfl)) (by decide) ?_
    refine VL.q (q_assign rfl) (by decide) ?_
    refine VL.to (fun _ _ h => h) ?_
    refine VC.seq ?_
    refine VC.seq ?_
    refine VC.region ?_
    refine VL.q (q_move rfl) (by decide) ?_
    refine VL.q (q_seq rfl rfl) (by decide) ?_
    refine VL.q (q_move rfl) (by decide) ?_
    refine VL.split_dec 21 rfl (fun h21 => ?_) (fun h21 => ?_)
    ·
      replace hS := it_t h21 hS
      refine VL.gn rfl rfl rfl (by decide) ?_
      refine VL.gn rfl rfl rfl (by decide) ?_
      refine VL.gn rfl rfl rfl (by decide) ?_
      refine VL.q (q_pick_t rfl rfl) (by decide) ?_
      refine VL.to (fun _ _ h => h) ?_
      refine VC.keep [4, 10, 11, 12, 5, 6, 25] rfl ?_
      refine VC.cond_t rfl ?_
      refine VC.exit_to (fun _ _ h => h) ?_
      refine VC.region ?_
      obtain ⟨b50, hS⟩ := gd_s hS
      refine VL.q (q_add rfl rfl b50) (by decide) ?_
      refine VL.q (q_move rfl) (by decide) ?_
      refine VL.rnd (out4_2, (x12_3 + 1)) [4, 10, 11, 12] (fun _ _ h => h) (go2 hS hK1) rfl
    ·
      replace hS := it_f h21 hS
      refine VL.gy rfl rfl (q_move rfl) (by decide) ?_
      obtain ⟨z23_6, nz23_6, hz23_6, hS⟩ := at_s hS
      refine VL.gy rfl rfl (q_sidx Tryd.underlying9 rfl rfl nz23_6 hz23_6) (by decide) ?_
      refine VL.gy rfl rfl (q_eql rfl rfl) (by decide) ?_
      refine VL.q (q_pick_f rfl rfl) (by decide) ?_
      refine VL.to (fun _ _ h => h) ?_
      refine VC.keep [4, 10, 11, 12, 5, 6, 25] rfl ?_
      refine VC.cond_dec rfl (fun h25 => ?_) (fun h25 => ?_)
      ·
        replace hS := it_t h25 hS
        refine VC.exit_to (fun _ _ h => h) ?_
        refine VC.region ?_
        obtain ⟨b50, hS⟩ := gd_s hS
        refine VL.q (q_add rfl rfl b50) (by decide) ?_
        refine VL.q (q_move rfl) (by decide) ?_
        refine VL.rnd (out4_2, (x12_3 + 1)) [4, 10, 11, 12] (fun _ _ h => h) (go2 hS hK1) rfl
      ·
        replace hS := it_f h25 hS
        refine VC.skip_to (fun _ _ h => h) ?_
        refine VC.seq ?_
        refine VC.region ?_
        refine VL.q (q_move rfl) (by decide) ?_
        obtain ⟨y28_7, ey28_7, hS⟩ := bd_s hS
        refine VL.q (q_call (todo_line_ct y18_5 ey28_7) rfl (fun _ _ => rfl)) (by decide) ?_
        refine VL.q (q_move rfl) (by decide) ?_
        refine VL.q (q_extract rfl rfl) (by decide) ?_
        refine VL.q (q_extract rfl rfl) (by decide) ?_
        refine VL.alloc (cs := [str [], i64 0, str []]) (by kernel_rfl) (by decide) fun b7_8 => ?_
        refine VL.store (vc := [str y28_7.1.verb, i64 y28_7.1.commit, str y28_7.1.text]) (cs' := [str y28_7.1.verb, i64 y28_7.1.commit, str y28_7.1.text]) rfl rfl rfl gsz26 rfl rfl (Nat.le_of_ble_eq_true rfl) rfl ?_
        refine VL.q (q_assign rfl) (by decide) ?_
        refine VL.to (fun _ _ h => h) ?_
        refine VC.keep [4, 10, 11, 12, 5, 7, 8] rfl ?_
        refine VC.seq ?_
        refine VC.seq ?_
        refine VC.region ?_
        refine VL.q (q_move rfl) (by decide) ?_
        refine VL.q (q_neq rfl rfl) (by decide) ?_
        refine VL.to (fun _ _ h => h) ?_
        refine VC.cond_ndec rfl (fun h32 => ?_) (fun h32 => ?_)
        ·
          replace hS := it_f h32 hS
          refine VC.seq ?_
          refine VC.region ?_
          refine VL.q (q_move rfl) (by decide) ?_
          refine VL.q (q_move rfl) (by decide) ?_
          refine VL.q (q_mkif Tryd.underlying90 (fun _ h => by cases h) rfl) (by decide) ?_
          refine VL.q (q_build (vs := [(0, str [108, 105, 110, 101]), (1, i64 x12_3), (2, (Er.no y28_7.2).val)]) (cs := #[str [108, 105, 110, 101], i64 x12_3, (Er.no y28_7.2).val]) rfl (by kernel_rfl)) (by decide) ?_
          refine VL.box (cs := [str [108, 105, 110, 101], i64 x12_3, (Er.no y28_7.2).val]) rfl rfl (by decide) fun b37_9 => ?_
          refine VL.shutB b37_9 ?_
          refine VL.q (q_mkif Tryd.underlying93 (fun _ h => by cases h) rfl) (by decide) ?_
          refine VL.q (q_assign rfl) (by decide) ?_
          refine VL.q (q_assign rfl) (by decide) ?_
          refine VL.to (fun _ _ h => h) ?_
          refine VC.keep [2, 3] rfl ?_
          replace hS := up2 hS hK1
          cases hS
          exact VC.ret (fin2 (.inr rfl) rfl rfl rfl (⟨none, 0, []⟩, (Er.fault b37_9 [108, 105, 110, 101] x12_3 (Er.no y28_7.2))) rfl rfl (by (try dsimp only); exact InM.out) (fun _ _ => trivial))
        ·
          replace hS := it_t h32 hS
          refine VC.skip_to (fun _ _ h => h) ?_
          refine VC.seq ?_
          refine VC.seq ?_
          refine VC.region ?_
          refine VL.q (q_move rfl) (by decide) ?_
          refine VL.q (q_ln (s := out4_2) Tryd.underlying22 rfl) (by decide) ?_
          refine VL.q (q_eql rfl rfl) (by decide) ?_
          refine VL.to (fun _ _ h => h) ?_
          refine VC.cond_dec rfl (fun h41 => ?_) (fun h41 => ?_)
          ·
            replace hS := it_t h41 hS
            refine VC.seq ?_
            refine VC.region ?_
            refine VL.q (q_mkif Tryd.underlying90 (fun _ h => by cases h) rfl) (by decide) ?_
            refine VL.q (q_build (vs := [(0, str [108, 105, 110, 101]), (1, i64 32), (2, (Er.no 4).val)]) (cs := #[str [108, 105, 110, 101], i64 32, (Er.no 4).val]) rfl (by kernel_rfl)) (by decide) ?_
            refine VL.box (cs := [str [108, 105, 110, 101], i64 32, (Er.no 4).val]) rfl rfl (by decide) fun b44_10 => ?_
            refine VL.shutB b44_10 ?_
            refine VL.q (q_mkif Tryd.underlying93 (fun _ h => by cases h) rfl) (by decide) ?_
            refine VL.q (q_assign rfl) (by decide) ?_
            refine VL.q (q_assign rfl) (by decide) ?_
            refine VL.to (fun _ _ h => h) ?_
            refine VC.keep [2, 3] rfl ?_
            replace hS := up2 hS hK1
            cases hS
            exact VC.ret (fin2 (.inr rfl) rfl rfl rfl (⟨none, 0, []⟩, (Er.fault b44_10 [108, 105, 110, 101] 32 (Er.no 4))) rfl rfl (by (try dsimp only); exact InM.out) (fun _ _ => trivial))
          ·
            replace hS := it_f h41 hS
            refine VC.skip_to (fun _ _ h => h) ?_
            refine VC.keep [4, 10, 11, 12, 7] rfl ?_
            refine VC.region ?_
            refine VL.q (q_move rfl) (by decide) ?_
            refine VL.q (q_fes gagg26 rfl rfl) (by decide) ?_
            refine VL.lit (α := TodoStep) (xs := [.tmp 47]) (vs := [.agg #[str y28_7.1.verb, i64 y28_7.1.commit, str y28_7.1.text]]) [⟨y28_7.1.verb, y28_7.1.commit, y28_7.1.text⟩] Tryd.underlying22 glit26 (by decide) rfl rfl rfl rfl (by decide) (fun _ _ _ _ => trivial) (by decide) (fun s48_11 hs48_11 => ?_) (by decide)
            replace hS := lt_to hs48_11 hS
            obtain ⟨b49, hS⟩ := gd_s hS
            refine VL.app (s := out4_2) (r := s48_11) Tryd.underlying22 gapp26 (by decide) rfl Fo.out (ap1 b49) (ap2 b49 (by decide)) (by decide) (fun s49_13 hs49_13 => ?_)
            replace hS := lt_to hs49_13 hS
            refine VL.q (q_assign rfl) (by decide) ?_
            refine VL.to (fun _ _ h => h) ?_
            refine VC.region ?_
            obtain ⟨b50, hS⟩ := gd_s hS
            refine VL.q (q_add rfl rfl b50) (by decide) ?_
            refine VL.q (q_move rfl) (by decide) ?_
            refine VL.rnd (s49_13, (x12_3 + 1)) [4, 10, 11, 12] (fun _ _ h => h) (go2 hS hK1) rfl
  ·
    replace hS := it_f h13 hS
    replace hS := up2 hS hK1
    refine VC.exit_to (fun _ _ h => h) ?_
    refine VC.seq ?_
    refine VC.region ?_
    refine VL.q (q_move rfl) (by decide) ?_
    refine VL.shut out4_2 26 (fun _ _ _ _ => trivial) ?_
    obtain ⟨y52_15, ey52_15, hS⟩ := bd_s hS
    refine VL.callF (slices_Clip_todo_Step_todo_Step_ct out4_2 ey52_15) rfl (by decide) ?_
    rintro q52_15_0 rfl
    try dsimp only
    refine VL.q (q_assign rfl) (by decide) ?_
    refine VL.q (q_assign rfl) (by decide) ?_
    refine VL.to (fun _ _ h => h) ?_
    cases hS
    exact VC.ret (fin2 (.inr rfl) rfl rfl rfl (q52_15_0, .nil) rfl rfl (by (try dsimp only); exact InM.out) (fun _ _ => trivial))

set_option maxHeartbeats 4000000 in
set_option maxRecDepth 100000 in
theorem slices_Clone_int_int_ct (s_0 : Sv Int) {r : List Int} (hS : Sh.slices_Clone_int_int s_0.l = some r) :
    Ct Tryd.prog 142 [s_0.val] s_0.ok (Ow.emp) (X := Sv Int) (fun x => x.val) (fun x => r = x.l) (fun x => Mo.tt) (fun x => Sv.own x 3) := by
  refine Ct.of Tryd.func142 rfl (by kernel_rfl) Tryd.ntmps142 (by simp) fun c => ?_
  unfold Sh.slices_Clone_int_int at hS
  refine VC.seq ?_
  refine VC.region ?_
  refine VL.q (q_assign rfl) (by decide) ?_
  refine VL.to (fun _ _ h => h) ?_
  refine VC.seq ?_
  refine VC.seq ?_
  refine VC.region ?_
  refine VL.q (q_move rfl) (by decide) ?_
  refine VL.q (q_slnil (s := s_0) Tryd.underlying76 rfl) (by decide) ?_
  refine VL.to (fun _ _ h => h) ?_
  refine VC.slnil (s := s_0) rfl (fun h4 => ?_) ?_
  ·
    have hS : (some []) = some r := by
      simp [lt, gd, h4] at hS ⊢
      try exact hS
    refine VC.seq ?_
    refine VC.region ?_
    refine VL.q (q_assign rfl) (by decide) ?_
    refine VL.to (fun _ _ h => h) ?_
    refine VC.nilO (⟨none, 0, []⟩ : Sv Int) 3 ⟨rfl, rfl⟩ ?_
    cases hS
    exact VC.ret (fin1 (.inr rfl) rfl rfl ⟨none, 0, []⟩ rfl rfl (by (try dsimp only); exact InM.out) (by (try dsimp only); exact EntO.out))
  ·
    refine VC.skip_to (fun _ _ h => h) ?_
    refine VC.seq ?_
    refine VC.region ?_
    refine VL.lit0 (α := Int) Tryd.underlying76 ghas3 (by decide) (fun s5_1 hs5_1 hcs5_1 => ?_)
    refine VL.nilO s5_1 3 ⟨hcs5_1, hs5_1⟩ ?_
    replace hS := lt_to hs5_1 hS
    refine VL.q (q_move rfl) (by decide) ?_
    obtain ⟨b7, hS⟩ := gd_s hS
    refine VL.app (s := s5_1) (r := s_0) Tryd.underlying76 gapp3 (by decide) rfl Fo.out (ap1 b7) (ap2 b7 (by decide)) (by decide) (fun s7_3 hs7_3 => ?_)
    replace hS := lt_to hs7_3 hS
    refine VL.q (q_assign rfl) (by decide) ?_
    refine VL.to (fun _ _ h => h) ?_
    cases hS
    exact VC.ret (fin1 (.inr rfl) rfl rfl s7_3 rfl rfl (by (try dsimp only); exact InM.out) (by (try dsimp only); exact EntO.out))

set_option maxHeartbeats 4000000 in
set_option maxRecDepth 100000 in
theorem graph_Graph_seen_ct (g_0 : Sv (Sv Int)) (c_1 : Sv Int) {r : List Bool} (hS : Sh.graph_Graph_seen (g_0.l.map Sv.l) c_1.l = some r) :
    Ct Tryd.prog 116 [g_0.val, c_1.val] (g_0.ok.and c_1.ok) (Ow.emp) (X := Sv Bool) (fun x => x.val) (fun x => r = x.l) (fun x => Mo.tt) (fun x => Sv.own x 4) := by
  refine Ct.of Tryd.func116 rfl (by kernel_rfl) Tryd.ntmps116 (by simp) fun c => ?_
  unfold Sh.graph_Graph_seen at hS
  refine VC.seq ?_
  refine VC.region ?_
  refine VL.q (q_assign rfl) (by decide) ?_
  refine VL.to (fun _ _ h => h) ?_
  refine VC.seq ?_
  refine VC.region ?_
  refine VL.q (q_move rfl) (by decide) ?_
  refine VL.q (q_lnm Sv.l (s := g_0) Tryd.underlying78 rfl) (by decide) ?_
  obtain ⟨b10, hS⟩ := gd_s hS
  refine VL.q (q_add rfl rfl b10) (by decide) ?_
  obtain ⟨b11, hS⟩ := gd_s hS
  refine VL.make (α := Bool) (z := false) Tryd.underlying164 gmk4 (by decide) rfl rfl b11.1 (Int.le_refl _) (by omega) (by omega) (by decide) (fun s11_1 hs11_1 => ?_)
  replace hS := lt_to hs11_1 hS
  refine VL.q (q_assign rfl) (by decide) ?_
  refine VL.to (fun _ _ h => h) ?_
  refine VC.seq ?_
  refine VC.region ?_
  refine VL.q (q_move rfl) (by decide) ?_
  obtain ⟨y13_3, ey13_3, hS⟩ := bd_s hS
  refine VL.callO (slices_Clone_int_int_ct c_1 ey13_3) rfl (by decide) ?_
  rintro q13_3_0 rfl
  try dsimp only
  refine VL.q (q_assign rfl) (by decide) ?_
  refine VL.to (fun _ _ h => h) ?_
  refine VC.keep [0, 5, 6] rfl ?_
  refine VC.seq ?_
  refine VC.block ?_
  refine VC.iter (S := Sv Bool × Sv Int) (fun sg => (sg.1.l, sg.2.l)) (fun sg => [(0, g_0.val), (5, sg.1.val), (6, sg.2.val)]) (fun sg => Mo.tt) (fun sg => Ow.star (Sv.own sg.1 4) (Ow.star (Sv.own sg.2 3) (Ow.emp))) (s11_1, q13_3_0) [0, 5, 6] hS rfl ?_
  clear hS
  rintro ⟨out5_4, wait6_5⟩ m1 y1 hS hK1
  show VC _ _ _ _ _ [(0, g_0.val), (5, out5_4.val), (6, wait6_5.val)] (Mo.and Mo.tt _) (Ow.star (Sv.own out5_4 4) (Ow.star (Sv.own wait6_5 3) (Ow.emp)))
  refine VC.seq ?_
  refine VC.seq ?_
  refine VC.region ?_
  refine VL.q (q_move rfl) (by decide) ?_
  refine VL.q (q_ln (s := wait6_5) Tryd.underlying76 rfl) (by decide) ?_
  refine VL.q (q_gtr rfl rfl) (by decide) ?_
  refine VL.to (fun _ _ h => h) ?_
  refine VC.cond_dec rfl (fun h16 => ?_) (fun h16 => ?_)
  ·
    replace hS := it_t h16 hS
    refine VC.skip_to (fun _ _ h => h) ?_
    refine VC.block ?_
    refine VC.seq ?_
    refine VC.region ?_
    refine VL.q (q_move rfl) (by decide) ?_
    refine VL.q (q_move rfl) (by decide) ?_
    refine VL.q (q_ln (s := wait6_5) Tryd.underlying76 rfl) (by decide) ?_
    obtain ⟨b20, hS⟩ := gd_s hS
    refine VL.q (q_sub rfl rfl b20) (by decide) ?_
    obtain ⟨z21_6, nz21_6, hz21_6, hS⟩ := at_s hS
    refine VL.q (q_ixo (s := wait6_5) Tryd.underlying76 gsz3 rfl rfl nz21_6 (lt_of_get nz21_6 hz21_6)) (by decide) ?_
    refine VL.q (q_elo (s := wait6_5) 3 gone3 rfl hz21_6 rfl) (by decide) ?_
    refine VL.q (q_assign rfl) (by decide) ?_
    refine VL.to (fun _ _ h => h) ?_
    refine VC.keep [0, 5, 6, 7] rfl ?_
    refine VC.seq ?_
    refine VC.region ?_
    refine VL.q (q_move rfl) (by decide) ?_
    refine VL.q (q_move rfl) (by decide) ?_
    refine VL.q (q_ln (s := wait6_5) Tryd.underlying76 rfl) (by decide) ?_
    obtain ⟨b26, hS⟩ := gd_s hS
    refine VL.q (q_sub rfl rfl b26) (by decide) ?_
    obtain ⟨b27, hS⟩ := gd_s hS
    refine VL.ownT (s := wait6_5) Tryd.underlying76 gsz3 rfl rfl b27.1 b27.2 Fo.out (by decide) fun s27_7 hs27_7 => ?_
    replace hS := lt_to hs27_7 hS
    refine VL.q (q_assign rfl) (by decide) ?_
    refine VL.to (fun _ _ h => h) ?_
    refine VC.seq ?_
    refine VC.seq ?_
    refine VC.region ?_
    refine VL.q (q_move rfl) (by decide) ?_
    refine VL.q (q_lss rfl rfl) (by decide) ?_
    refine VL.q (q_move rfl) (by decide) ?_
    refine VL.split_dec 30 rfl (fun h30 => ?_) (fun h30 => ?_)
    ·
      replace hS := it_t h30 hS
      refine VL.gn rfl rfl rfl (by decide) ?_
      refine VL.gn rfl rfl rfl (by decide) ?_
      refine VL.gn rfl rfl rfl (by decide) ?_
      refine VL.gn rfl rfl rfl (by decide) ?_
      refine VL.q (q_pick_t rfl rfl) (by decide) ?_
      refine VL.q (q_move rfl) (by decide) ?_
      refine VL.gn rfl rfl rfl (by decide) ?_
      refine VL.gn rfl rfl rfl (by decide) ?_
      refine VL.gn rfl rfl rfl (by decide) ?_
      refine VL.gn rfl rfl rfl (by decide) ?_
      refine VL.q (q_pick_t rfl rfl) (by decide) ?_
      refine VL.to (fun _ _ h => h) ?_
      refine VC.keep [0, 5, 6, 7, 41] rfl ?_
      refine VC.cond_t rfl ?_
      refine VC.exit_rnd (out5_4, s27_7) [0, 5, 6] (fun _ _ h => h) (go2 hS hK1) rfl
    ·
      replace hS := it_f h30 hS
      refine VL.gy rfl rfl (q_move rfl) (by decide) ?_
      refine VL.gy rfl rfl (q_move rfl) (by decide) ?_
      refine VL.gy rfl rfl (q_lnm Sv.l (s := g_0) Tryd.underlying78 rfl) (by decide) ?_
      refine VL.gy rfl rfl (q_gtr rfl rfl) (by decide) ?_
      refine VL.q (q_pick_f rfl rfl) (by decide) ?_
      refine VL.q (q_move rfl) (by decide) ?_
      refine VL.split_dec 36 rfl (fun h36 => ?_) (fun h36 => ?_)
      ·
        replace hS := it_t h36 hS
        refine VL.gn rfl rfl rfl (by decide) ?_
        refine VL.gn rfl rfl rfl (by decide) ?_
        refine VL.gn rfl rfl rfl (by decide) ?_
        refine VL.gn rfl rfl rfl (by decide) ?_
        refine VL.q (q_pick_t rfl rfl) (by decide) ?_
        refine VL.to (fun _ _ h => h) ?_
        refine VC.keep [0, 5, 6, 7, 41] rfl ?_
        refine VC.cond_t rfl ?_
        refine VC.exit_rnd (out5_4, s27_7) [0, 5, 6] (fun _ _ h => h) (go2 hS hK1) rfl
      ·
        replace hS := it_f h36 hS
        refine VL.gy rfl rfl (q_move rfl) (by decide) ?_
        refine VL.gy rfl rfl (q_move rfl) (by decide) ?_
        obtain ⟨z39_9, nz39_9, hz39_9, hS⟩ := at_s hS
        refine VL.gy rfl rfl (q_ixo (s := out5_4) Tryd.underlying164 gsz4 rfl rfl nz39_9 (lt_of_get nz39_9 hz39_9)) (by decide) ?_
        refine VL.gy rfl rfl (q_elo (s := out5_4) 4 gone4 rfl hz39_9 rfl) (by decide) ?_
        refine VL.q (q_pick_f rfl rfl) (by decide) ?_
        refine VL.to (fun _ _ h => h) ?_
        refine VC.keep [0, 5, 6, 7, 41] rfl ?_
        refine VC.cond rfl (fun h41 => ?_) (fun h41 => ?_)
        ·
          replace hS := it_t h41 hS
          refine VC.exit_rnd (out5_4, s27_7) [0, 5, 6] (fun _ _ h => h) (go2 hS hK1) rfl
        ·
          replace hS := it_b h41 hS
          refine VC.skip_to (fun _ _ h => h) ?_
          refine VC.seq ?_
          refine VC.region ?_
          refine VL.q (q_move rfl) (by decide) ?_
          refine VL.q (q_move rfl) (by decide) ?_
          obtain ⟨z44_10, nz44_10, hz44_10, hS⟩ := at_s hS
          refine VL.q (q_ixo (s := out5_4) Tryd.underlying164 gsz4 rfl rfl nz44_10 (lt_of_get nz44_10 hz44_10)) (by decide) ?_
          refine VL.storeE (s := out5_4) (T := 4) (j := 0) (vc := [.bool true]) (true : Bool) (by decide) rfl rfl hz44_10 rfl gsz4 rfl rfl (Nat.le_of_ble_eq_true rfl) rfl (fun w11 hw11 haw11 hcw11 hvw11 hbw11 how11 => ?_)
          rw [← hvw11]
          replace hS := lt_to hw11 hS
          refine VL.to (fun _ _ h => h) ?_
          refine VC.region ?_
          refine VL.q (q_move rfl) (by decide) ?_
          refine VL.q (q_move rfl) (by decide) ?_
          refine VL.q (q_move rfl) (by decide) ?_
          obtain ⟨b48, hS⟩ := gd_s hS
          refine VL.q (q_sub rfl rfl b48) (by decide) ?_
          obtain ⟨z49_13, nz49_13, hz49_13, hS⟩ := atm_s hS
          refine VL.deep z49_13.ok hz49_13 (fun _ q => q) ?_
          refine VL.q (q_ixm (s := g_0) Tryd.underlying78 gsz76 rfl rfl nz49_13 (lt_of_get nz49_13 hz49_13)) (by decide) ?_
          refine VL.q (q_el (s := g_0) gone76 rfl hz49_13 rfl) (by decide) ?_
          obtain ⟨b51, hS⟩ := gd_s hS
          refine VL.app (s := s27_7) (r := z49_13) Tryd.underlying76 gapp3 (by decide) rfl Fo.out (ap1 b51) (ap2 b51 (by decide)) (by decide) (fun s51_14 hs51_14 => ?_)
          replace hS := lt_to hs51_14 hS
          refine VL.q (q_assign rfl) (by decide) ?_
          refine VL.rnd (w11, s51_14) [0, 5, 6] (fun _ _ h => h) (go2 hS hK1) rfl
  ·
    replace hS := it_f h16 hS
    replace hS := up2 hS hK1
    refine VC.exit_to (fun _ _ h => h) ?_
    refine VC.seq ?_
    refine VC.region ?_
    refine VL.q (q_move rfl) (by decide) ?_
    refine VL.q (q_assign rfl) (by decide) ?_
    refine VL.to (fun _ _ h => h) ?_
    cases hS
    exact VC.ret (fin1 (.inr rfl) rfl rfl out5_4 rfl rfl (by (try dsimp only); exact InM.out) (by (try dsimp only); exact EntO.out))

set_option maxHeartbeats 4000000 in
set_option maxRecDepth 100000 in
theorem slices_Clip_int_int_ct (s_0 : Sv Int) {r : List Int} (hS : Sh.slices_Clip_int_int s_0.l = some r) :
    Ct Tryd.prog 143 [s_0.val] s_0.ok (Ow.emp) (X := Sv Int) (fun x => x.val) (fun x => r = x.l) (fun x => x.ok) (fun x => Ow.emp) := by
  refine Ct.of Tryd.func143 rfl (by kernel_rfl) Tryd.ntmps143 (by simp) fun c => ?_
  unfold Sh.slices_Clip_int_int at hS
  refine VC.seq ?_
  refine VC.region ?_
  refine VL.q (q_assign rfl) (by decide) ?_
  refine VL.to (fun _ _ h => h) ?_
  refine VC.seq ?_
  refine VC.region ?_
  refine VL.q (q_move rfl) (by decide) ?_
  refine VL.q (q_move rfl) (by decide) ?_
  refine VL.q (q_ln (s := s_0) Tryd.underlying76 rfl) (by decide) ?_
  refine VL.q (q_move rfl) (by decide) ?_
  refine VL.q (q_ln (s := s_0) Tryd.underlying76 rfl) (by decide) ?_
  obtain ⟨b8, hS⟩ := gd_s hS
  refine VL.stom Tryd.underlying76 gsz3 rfl rfl rfl b8.1 (b8.2) (by decide) fun s8_1 hs8_1 => ?_
  replace hS := lt_to hs8_1 hS
  refine VL.q (q_assign rfl) (by decide) ?_
  refine VL.to (fun _ _ h => h) ?_
  cases hS
  exact VC.ret (fin1 (.inr rfl) rfl rfl s8_1 rfl rfl (by (try dsimp only); exact InM.out) (fun _ _ => trivial))

set_option maxHeartbeats 4000000 in
set_option maxRecDepth 100000 in
theorem graph_row_ct (l_0 : Sv Bool) {r : List Int} (hS : Sh.graph_row l_0.l = some r) :
    Ct Tryd.prog 117 [l_0.val] l_0.ok (Ow.emp) (X := Sv Int) (fun x => x.val) (fun x => r = x.l) (fun x => x.ok) (fun x => Ow.emp) := by
  refine Ct.of Tryd.func117 rfl (by kernel_rfl) Tryd.ntmps117 (by simp) fun c => ?_
  unfold Sh.graph_row at hS
  refine VC.seq ?_
  refine VC.region ?_
  refine VL.q (q_assign rfl) (by decide) ?_
  refine VL.to (fun _ _ h => h) ?_
  refine VC.seq ?_
  refine VC.region ?_
  refine VL.q (q_assign rfl) (by decide) ?_
  refine VL.to (fun _ _ h => h) ?_
  refine VC.seq ?_
  refine VC.seq ?_
  refine VC.region ?_
  refine VL.q (q_move rfl) (by decide) ?_
  refine VL.q (q_ln (s := l_0) Tryd.underlying164 rfl) (by decide) ?_
  refine VL.q (q_move rfl) (by decide) ?_
  refine VL.to (fun _ _ h => h) ?_
  refine VC.block ?_
  refine VC.nilO (⟨none, 0, []⟩ : Sv Int) 3 ⟨rfl, rfl⟩ ?_
  refine VC.iter (S := Sv Int × Int) (fun sg => (sg.1.l, sg.2)) (fun sg => [(3, sg.1.val), (6, l_0.val), (7, i64 (l_0.l.length : Int)), (8, i64 sg.2)]) (fun sg => Mo.tt) (fun sg => Ow.star (Sv.own sg.1 3) (Ow.emp)) (⟨none, 0, []⟩, 0) [3, 6, 7, 8] hS rfl ?_
  clear hS
  rintro ⟨out3_1, x8_2⟩ m1 y1 hS hK1
  show VC _ _ _ _ _ [(3, out3_1.val), (6, l_0.val), (7, i64 (l_0.l.length : Int)), (8, i64 x8_2)] (Mo.and Mo.tt _) (Ow.star (Sv.own out3_1 3) (Ow.emp))
  refine VC.seq ?_
  refine VC.region ?_
  refine VL.q (q_lss rfl rfl) (by decide) ?_
  refine VL.to (fun _ _ h => h) ?_
  refine VC.seq ?_
  refine VC.cond_dec rfl (fun h9 => ?_) (fun h9 => ?_)
  ·
    replace hS := it_t h9 hS
    refine VC.skip_to (fun _ _ h => h) ?_
    refine VC.seq ?_
    refine VC.block ?_
    refine VC.seq ?_
    refine VC.region ?_
    refine VL.q (q_move rfl) (by decide) ?_
    obtain ⟨z11_3, nz11_3, hz11_3, hS⟩ := at_s hS
    refine VL.q (q_ixm (s := l_0) Tryd.underlying164 gsz4 rfl rfl nz11_3 (lt_of_get nz11_3 hz11_3)) (by decide) ?_
    refine VL.q (q_el (s := l_0) gone4 rfl hz11_3 rfl) (by decide) ?_
    refine VL.q (q_assign rfl) (by decide) ?_
    refine VL.q (q_assign rfl) (by decide) ?_
    refine VL.to (fun _ _ h => h) ?_
    refine VC.seq ?_
    refine VC.region ?_
    refine VL.q (q_move rfl) (by decide) ?_
    refine VL.to (fun _ _ h => h) ?_
    refine VC.cond rfl (fun h13 => ?_) (fun h13 => ?_)
    ·
      replace hS := it_t h13 hS
      refine VC.region ?_
      refine VL.q (q_move rfl) (by decide) ?_
      refine VL.q (q_move rfl) (by decide) ?_
      refine VL.lit (α := Int) (xs := [.tmp 15]) (vs := [i64 x8_2]) [x8_2] Tryd.underlying76 glit3 (by decide) rfl rfl rfl rfl (by decide) (fun _ _ _ _ => trivial) (by decide) (fun s16_4 hs16_4 => ?_) (by decide)
      replace hS := lt_to hs16_4 hS
      obtain ⟨b17, hS⟩ := gd_s hS
      refine VL.app (s := out3_1) (r := s16_4) Tryd.underlying76 gapp3 (by decide) rfl Fo.out (ap1 b17) (ap2 b17 (by decide)) (by decide) (fun s17_6 hs17_6 => ?_)
      replace hS := lt_to hs17_6 hS
      refine VL.q (q_assign rfl) (by decide) ?_
      refine VL.to (fun _ _ h => h) ?_
      refine VC.keep [3, 6, 7, 8] rfl ?_
      refine VC.region ?_
      obtain ⟨b18, hS⟩ := gd_s hS
      refine VL.q (q_add rfl rfl b18) (by decide) ?_
      refine VL.q (q_move rfl) (by decide) ?_
      refine VL.rnd (s17_6, (x8_2 + 1)) [3, 6, 7, 8] (fun _ _ h => h) (go2 hS hK1) rfl
    ·
      replace hS := it_b h13 hS
      refine VC.skip_to (fun _ _ h => h) ?_
      refine VC.keep [3, 6, 7, 8] rfl ?_
      refine VC.region ?_
      obtain ⟨b18, hS⟩ := gd_s hS
      refine VL.q (q_add rfl rfl b18) (by decide) ?_
      refine VL.q (q_move rfl) (by decide) ?_
      refine VL.rnd (out3_1, (x8_2 + 1)) [3, 6, 7, 8] (fun _ _ h => h) (go2 hS hK1) rfl
  ·
    replace hS := it_f h9 hS
    replace hS := up2 hS hK1
    refine VC.exit_to (fun _ _ h => h) ?_
    refine VC.seq ?_
    refine VC.region ?_
    refine VL.q (q_move rfl) (by decide) ?_
    refine VL.shut out3_1 3 (fun _ _ _ _ => trivial) ?_
    obtain ⟨y20_8, ey20_8, hS⟩ := bd_s hS
    refine VL.callF (slices_Clip_int_int_ct out3_1 ey20_8) rfl (by decide) ?_
    rintro q20_8_0 rfl
    try dsimp only
    refine VL.q (q_assign rfl) (by decide) ?_
    refine VL.to (fun _ _ h => h) ?_
    cases hS
    exact VC.ret (fin1 (.inr rfl) rfl rfl q20_8_0 rfl rfl (by (try dsimp only); exact InM.out) (fun _ _ => trivial))

set_option maxHeartbeats 4000000 in
set_option maxRecDepth 100000 in
theorem graph_Graph_Only_ct (g_0 : Sv (Sv Int)) (a_1 : Int) (b_2 : Int) {r : List Int} (hS : Sh.graph_Graph_Only (g_0.l.map Sv.l) a_1 b_2 = some r) :
    Ct Tryd.prog 80 [g_0.val, i64 a_1, i64 b_2] g_0.ok (Ow.emp) (X := Sv Int) (fun x => x.val) (fun x => r = x.l) (fun x => x.ok) (fun x => Ow.emp) := by
  refine Ct.of Tryd.func80 rfl (by kernel_rfl) Tryd.ntmps80 (by simp) fun c => ?_
  unfold Sh.graph_Graph_Only at hS
  refine VC.seq ?_
  refine VC.region ?_
  refine VL.q (q_assign rfl) (by decide) ?_
  refine VL.to (fun _ _ h => h) ?_
  refine VC.seq ?_
  refine VC.region ?_
  refine VL.q (q_move rfl) (by decide) ?_
  refine VL.q (q_move rfl) (by decide) ?_
  refine VL.lit (α := Int) (xs := [.tmp 11]) (vs := [i64 a_1]) [a_1] Tryd.underlying76 glit3 (by decide) rfl rfl rfl rfl (by decide) (fun _ _ _ _ => trivial) (by decide) (fun s12_1 hs12_1 => ?_) (by decide)
  replace hS := lt_to hs12_1 hS
  obtain ⟨y13_3, ey13_3, hS⟩ := bd_s hS
  refine VL.callO (graph_Graph_seen_ct g_0 s12_1 ey13_3) rfl (by decide) ?_
  rintro q13_3_0 rfl
  try dsimp only
  refine VL.q (q_move rfl) (by decide) ?_
  refine VL.q (q_move rfl) (by decide) ?_
  refine VL.lit (α := Int) (xs := [.tmp 15]) (vs := [i64 b_2]) [b_2] Tryd.underlying76 glit3 (by decide) rfl rfl rfl rfl (by decide) (fun _ _ _ _ => trivial) (by decide) (fun s16_4 hs16_4 => ?_) (by decide)
  replace hS := lt_to hs16_4 hS
  obtain ⟨y17_6, ey17_6, hS⟩ := bd_s hS
  refine VL.callO (graph_Graph_seen_ct g_0 s16_4 ey17_6) rfl (by decide) ?_
  rintro q17_6_0 rfl
  try dsimp only
  refine VL.q (q_assign rfl) (by decide) ?_
  refine VL.q (q_assign rfl) (by decide) ?_
  refine VL.to (fun _ _ h => h) ?_
  refine VC.keep [7, 8] rfl ?_
  refine VC.seq ?_
  refine VC.seq ?_
  refine VC.region ?_
  refine VL.q (q_move rfl) (by decide) ?_
  refine VL.q (q_ln (s := q13_3_0) Tryd.underlying164 rfl) (by decide) ?_
  refine VL.q (q_move rfl) (by decide) ?_
  refine VL.to (fun _ _ h => h) ?_
  refine VC.block ?_
  refine VC.iter (S := Sv Bool × Int) (fun sg => (sg.1.l, sg.2)) (fun sg => [(7, sg.1.val), (8, q17_6_0.val), (19, i64 (q13_3_0.l.length : Int)), (20, i64 sg.2)]) (fun sg => Mo.tt) (fun sg => Ow.star (Sv.own q17_6_0 4) (Ow.star (Sv.own sg.1 4) (Ow.emp))) (q13_3_0, 0) [7, 8, 19, 20] hS rfl ?_
  clear hS
  rintro ⟨x7_7, x20_8⟩ m1 y1 hS hK1
  show VC _ _ _ _ _ [(7, x7_7.val), (8, q17_6_0.val), (19, i64 (q13_3_0.l.length : Int)), (20, i64 x20_8)] (Mo.and Mo.tt _) (Ow.star (Sv.own q17_6_0 4) (Ow.star (Sv.own x7_7 4) (Ow.emp)))
  refine VC.seq ?_
  refine VC.region ?_
  refine VL.q (q_lss rfl rfl) (by decide) ?_
  refine VL.to (fun _ _ h => h) ?_
  refine VC.seq ?_
  refine VC.cond_dec rfl (fun h21 => ?_) (fun h21 => ?_)
  ·
    replace hS := it_t h21 hS
    refine VC.skip_to (fun _ _ h => h) ?_
    refine VC.seq ?_
    refine VC.block ?_
    refine VC.seq ?_
    refine VC.region ?_
    refine VL.q (q_move rfl) (by decide) ?_
    refine VL.q (q_assign rfl) (by decide) ?_
    refine VL.to (fun _ _ h => h) ?_
    refine VC.region ?_
    refine VL.q (q_move rfl) (by decide) ?_
    refine VL.q (q_move rfl) (by decide) ?_
    refine VL.q (q_move rfl) (by decide) ?_
    refine VL.q (q_move rfl) (by decide) ?_
    obtain ⟨z27_9, nz27_9, hz27_9, hS⟩ := at_s hS
    refine VL.q (q_ixo (s := x7_7) Tryd.underlying164 gsz4 rfl rfl nz27_9 (lt_of_get nz27_9 hz27_9)) (by decide) ?_
    refine VL.q (q_elo (s := x7_7) 4 gone4 rfl hz27_9 rfl) (by decide) ?_
    refine VL.q (q_move rfl) (by decide) ?_
    refine VL.split 29 rfl (fun h29 => ?_) (fun h29 => ?_)
    ·
      replace hS := it_t h29 hS
      refine VL.gy rfl rfl (q_move rfl) (by decide) ?_
      refine VL.gy rfl rfl (q_move rfl) (by decide) ?_
      obtain ⟨z32_10, nz32_10, hz32_10, hS⟩ := at_s hS
      refine VL.gy rfl rfl (q_ixo (s := q17_6_0) Tryd.underlying164 gsz4 rfl rfl nz32_10 (lt_of_get nz32_10 hz32_10)) (by decide) ?_
      refine VL.gy rfl rfl (q_elo (s := q17_6_0) 4 gone4 rfl hz32_10 rfl) (by decide) ?_
      refine VL.gy rfl rfl (q_not rfl) (by decide) ?_
      refine VL.q (q_pick_t rfl rfl) (by decide) ?_
      obtain ⟨z36_11, nz36_11, hz36_11, hS⟩ := at_s hS
      refine VL.q (q_ixo (s := x7_7) Tryd.underlying164 gsz4 rfl rfl nz36_11 (lt_of_get nz36_11 hz36_11)) (by decide) ?_
      refine VL.storeE (s := x7_7) (T := 4) (j := 0) (vc := [.bool (!z32_10)]) ((!z32_10) : Bool) (by decide) rfl rfl hz36_11 rfl gsz4 rfl rfl (Nat.le_of_ble_eq_true rfl) rfl (fun w12 hw12 haw12 hcw12 hvw12 hbw12 how12 => ?_)
      rw [← hvw12]
      replace hS := lt_to hw12 hS
      refine VL.to (fun _ _ h => h) ?_
      refine VC.keep [7, 8, 19, 20] rfl ?_
      refine VC.region ?_
      obtain ⟨b37, hS⟩ := gd_s hS
      refine VL.q (q_add rfl rfl b37) (by decide) ?_
      refine VL.q (q_move rfl) (by decide) ?_
      refine VL.rnd (w12, (x20_8 + 1)) [7, 8, 19, 20] (fun _ _ h => h) (go2 hS hK1) rfl
    ·
      replace hS := it_b h29 hS
      refine VL.gn rfl rfl rfl (by decide) ?_
      refine VL.gn rfl rfl rfl (by decide) ?_
      refine VL.gn rfl rfl rfl (by decide) ?_
      refine VL.gn rfl rfl rfl (by decide) ?_
      refine VL.gn rfl rfl rfl (by decide) ?_
      refine VL.q (q_pick_f rfl rfl) (by decide) ?_
      obtain ⟨z36_14, nz36_14, hz36_14, hS⟩ := at_s hS
      refine VL.q (q_ixo (s := x7_7) Tryd.underlying164 gsz4 rfl rfl nz36_14 (lt_of_get nz36_14 hz36_14)) (by decide) ?_
      refine VL.storeE (s := x7_7) (T := 4) (j := 0) (vc := [.bool false]) (false : Bool) (by decide) rfl rfl hz36_14 rfl gsz4 rfl rfl (Nat.le_of_ble_eq_true rfl) rfl (fun w15 hw15 haw15 hcw15 hvw15 hbw15 how15 => ?_)
      rw [← hvw15]
      replace hS := lt_to hw15 hS
      refine VL.to (fun _ _ h => h) ?_
      refine VC.keep [7, 8, 19, 20] rfl ?_
      refine VC.region ?_
      obtain ⟨b37, hS⟩ := gd_s hS
      refine VL.q (q_add rfl rfl b37) (by decide) ?_
      refine VL.q (q_move rfl) (by decide) ?_
      refine VL.rnd (w15, (x20_8 + 1)) [7, 8, 19, 20] (fun _ _ h => h) (go2 hS hK1) rfl
  ·
    replace hS := it_f h21 hS
    replace hS := up2 hS hK1
    refine VC.exit_to (fun _ _ h => h) ?_
    refine VC.seq ?_
    refine VC.region ?_
    refine VL.q (q_move rfl) (by decide) ?_
    refine VL.shut x7_7 4 (fun _ _ _ _ => trivial) ?_
    obtain ⟨y39_17, ey39_17, hS⟩ := bd_s hS
    refine VL.callF (graph_row_ct x7_7 ey39_17) rfl (by decide) ?_
    rintro q39_17_0 rfl
    try dsimp only
    refine VL.q (q_assign rfl) (by decide) ?_
    refine VL.to (fun _ _ h => h) ?_
    cases hS
    exact VC.ret (fin1 (.inr rfl) rfl rfl q39_17_0 rfl rfl (by (try dsimp only); exact InM.out) (fun _ _ => trivial))

set_option maxHeartbeats 4000000 in
set_option maxRecDepth 100000 in
theorem todo_Plain_ct (g_0 : Sv (Sv Int)) (onto_1 : Int) (from_2 : Int) {r : List TodoStep} (hS : Sh.todo_Plain (g_0.l.map Sv.l) onto_1 from_2 = some r) :
    Ct Tryd.prog 39 [g_0.val, i64 onto_1, i64 from_2] g_0.ok (Ow.emp) (X := Sv TodoStep) (fun x => x.val) (fun x => r = x.l) (fun x => x.ok) (fun x => Ow.emp) := by
  refine Ct.of Tryd.func39 rfl (by kernel_rfl) Tryd.ntmps39 (by simp) fun c => ?_
  unfold Sh.todo_Plain at hS
  refine VC.seq ?_
  refine VC.region ?_
  refine VL.q (q_assign rfl) (by decide) ?_
  refine VL.to (fun _ _ h => h) ?_
  refine VC.seq ?_
  refine VC.region ?_
  refine VL.q (q_assign rfl) (by decide) ?_
  refine VL.to (fun _ _ h => h) ?_
  refine VC.seq ?_
  refine VC.seq ?_
  refine VC.region ?_
  refine VL.q (q_move rfl) (by decide) ?_
  refine VL.q (q_move rfl) (by decide) ?_
  refine VL.q (q_move rfl) (by decide) ?_
  obtain ⟨y13_1, ey13_1, hS⟩ := bd_s hS
  refine VL.callF (graph_Graph_Only_ct g_0 from_2 onto_1 ey13_1) rfl (by decide) ?_
  rintro q13_1_0 rfl
  try dsimp only
  refine VL.q (q_ln (s := q13_1_0) Tryd.underlying76 rfl) (by decide) ?_
  refine VL.q (q_move rfl) (by decide) ?_
  refine VL.to (fun _ _ h => h) ?_
  refine VC.block ?_
  refine VC.nilO (⟨none, 0, []⟩ : Sv TodoStep) 26 ⟨rfl, rfl⟩ ?_
  refine VC.iter (S := Sv TodoStep × Int) (fun sg => (sg.1.l, sg.2)) (fun sg => [(0, g_0.val), (7, sg.1.val), (13, q13_1_0.val), (14, i64 (q13_1_0.l.length : Int)), (15, i64 sg.2)]) (fun sg => Mo.tt) (fun sg => Ow.star (Sv.own sg.1 26) (Ow.emp)) (⟨none, 0, []⟩, 0) [0, 7, 13, 14, 15] hS rfl ?_
  clear hS
  rintro ⟨out7_2, x15_3⟩ m1 y1 hS hK1
  show VC _ _ _ _ _ [(0, g_0.val), (7, out7_2.val), (13, q13_1_0.val), (14, i64 (q13_1_0.l.length : Int)), (15, i64 x15_3)] (Mo.and Mo.tt _) (Ow.star (Sv.own out7_2 26) (Ow.emp))
  refine VC.seq ?_
  refine VC.region ?_
  refine VL.q (q_lss rfl rfl) (by decide) ?_
  refine VL.to (fun _ _ h => h) ?_
  refine VC.seq ?_
  refine VC.cond_dec rfl (fun h16 => ?_) (fun h16 => ?_)
  ·
    replace hS := it_t h16 hS
    refine VC.skip_to (fun _ _ h => h) ?_
    refine VC.seq ?_
    refine VC.block ?_
    refine VC.seq ?_
    refine VC.region ?_
    obtain ⟨z17_4, nz17_4, hz17_4, hS⟩ := at_s hS
    refine VL.q (q_ixm (s := q13_1_0) Tryd.underlying76 gsz3 rfl rfl nz17_4 (lt_of_get nz17_4 hz17_4)) (by decide) ?_
    refine VL.q (q_el (s := q13_1_0) gone3 rfl hz17_4 rfl) (by decide) ?_
    refine VL.q (q_assign rfl) (by decide) ?_
    refine VL.to (fun _ _ h => h) ?_
    refine VC.seq ?_
    refine VC.region ?_
    refine VL.q (q_move rfl) (by decide) ?_
    refine VL.q (q_move rfl) (by decide) ?_
    obtain ⟨b21, hS⟩ := gd_s hS
    refine VL.q (q_sub rfl rfl b21) (by decide) ?_
    obtain ⟨z22_5, nz22_5, hz22_5, hS⟩ := atm_s hS
    refine VL.deep z22_5.ok hz22_5 (fun _ q => q) ?_
    refine VL.q (q_ixm (s := g_0) Tryd.underlying78 gsz76 rfl rfl nz22_5 (lt_of_get nz22_5 hz22_5)) (by decide) ?_
    refine VL.q (q_el (s := g_0) gone76 rfl hz22_5 rfl) (by decide) ?_
    refine VL.q (q_ln (s := z22_5) Tryd.underlying76 rfl) (by decide) ?_
    refine VL.q (q_lss rfl rfl) (by decide) ?_
    refine VL.to (fun _ _ h => h) ?_
    refine VC.keep [0, 7, 13, 14, 15, 9, 25] rfl ?_
    refine VC.cond_dec rfl (fun h25 => ?_) (fun h25 => ?_)
    ·
      replace hS := it_t h25 hS
      refine VC.region ?_
      refine VL.q (q_move rfl) (by decide) ?_
      refine VL.q (q_move rfl) (by decide) ?_
      refine VL.q (q_build (vs := [(0, str [112, 105, 99, 107]), (1, i64 z17_4)]) (cs := #[str [112, 105, 99, 107], i64 z17_4, str []]) rfl (by kernel_rfl)) (by decide) ?_
      refine VL.lit (α := TodoStep) (xs := [.tmp 28]) (vs := [.agg #[str [112, 105, 99, 107], i64 z17_4, str []]]) [⟨[112, 105, 99, 107], z17_4, []⟩] Tryd.underlying22 glit26 (by decide) rfl rfl rfl rfl (by decide) (fun _ _ _ _ => trivial) (by decide) (fun s29_6 hs29_6 => ?_) (by decide)
      replace hS := lt_to hs29_6 hS
      obtain ⟨b30, hS⟩ := gd_s hS
      refine VL.app (s := out7_2) (r := s29_6) Tryd.underlying22 gapp26 (by decide) rfl Fo.out (ap1 b30) (ap2 b30 (by decide)) (by decide) (fun s30_8 hs30_8 => ?_)
      replace hS := lt_to hs30_8 hS
      refine VL.q (q_assign rfl) (by decide) ?_
      refine VL.to (fun _ _ h => h) ?_
      refine VC.keep [0, 7, 13, 14, 15] rfl ?_
      refine VC.region ?_
      obtain ⟨b31, hS⟩ := gd_s hS
      refine VL.q (q_add rfl rfl b31) (by decide) ?_
      refine VL.q (q_move rfl) (by decide) ?_
      refine VL.rnd (s30_8, (x15_3 + 1)) [0, 7, 13, 14, 15] (fun _ _ h => h) (go2 hS hK1) rfl
    ·
      replace hS := it_f h25 hS
      refine VC.skip_to (fun _ _ h => h) ?_
      refine VC.region ?_
      obtain ⟨b31, hS⟩ := gd_s hS
      refine VL.q (q_add rfl rfl b31) (by decide) ?_
      refine VL.q (q_move rfl) (by decide) ?_
      refine VL.rnd (out7_2, (x15_3 + 1)) [0, 7, 13, 14, 15] (fun _ _ h => h) (go2 hS hK1) rfl
  ·
    replace hS := it_f h16 hS
    replace hS := up2 hS hK1
    refine VC.exit_to (fun _ _ h => h) ?_
    refine VC.seq ?_
    refine VC.region ?_
    refine VL.q (q_move rfl) (by decide) ?_
    refine VL.shut out7_2 26 (fun _ _ _ _ => trivial) ?_
    obtain ⟨y33_10, ey33_10, hS⟩ := bd_s hS
    refine VL.callF (slices_Clip_todo_Step_todo_Step_ct out7_2 ey33_10) rfl (by decide) ?_
    rintro q33_10_0 rfl
    try dsimp only
    refine VL.q (q_assign rfl) (by decide) ?_
    refine VL.to (fun _ _ h => h) ?_
    cases hS
    exact VC.ret (fin1 (.inr rfl) rfl rfl q33_10_0 rfl rfl (by (try dsimp only); exact InM.out) (fun _ _ => trivial))

theorem itoa_ct (n : Int) (b : Go.S.I64 n) : Ct Tryd.prog 42 [i64 n] Gl Ow.emp (X := Unit) (fun _ => str (Go.S.itoaS n)) (fun _ => True) (fun _ => Mo.tt) (fun _ => Ow.emp) :=
  Ct.of_gr (entry_of Tryd.func42 rfl (by kernel_rfl)) fun w h m l => (Tryd.strconv_Itoa n b.1 b.2 w (GBlk.var (by kernel_rfl) (InM.out (X := GBlk 1 _) h m) l)).mono fun e w' ⟨h1, k, os, h2⟩ => ⟨by rw [h1, itoaS_eq b], h2 ▸ Gr.grown w k os⟩

set_option maxHeartbeats 4000000 in
set_option maxRecDepth 100000 in
theorem todo_Text_ct (l_0 : Sv TodoStep) {r : Str} (hS : Sh.todo_Text l_0.l = some r) :
    Ct Tryd.prog 10 [l_0.val] (l_0.ok.and Gl) (Ow.emp) (X := Unit) (fun _ => str r) (fun _ => True) (fun _ => Mo.tt) (fun _ => Ow.emp) := by
  refine Ct.of Tryd.func10 rfl (by kernel_rfl) Tryd.ntmps10 (by simp) fun c => ?_
  unfold Sh.todo_Text at hS
  refine VC.seq ?_
  refine VC.region ?_
  refine VL.q (q_assign rfl) (by decide) ?_
  refine VL.to (fun _ _ h => h) ?_
  refine VC.seq ?_
  refine VC.region ?_
  refine VL.alloc (cs := [.pointer none, .slice none 0 0]) (by kernel_rfl) (by decide) fun b3_1 => ?_
  refine VL.toBd 5 b3_1 ?_
  refine VL.to (fun _ _ h => h) ?_
  refine VC.seq ?_
  refine VC.seq ?_
  refine VC.region ?_
  refine VL.q (q_move rfl) (by decide) ?_
  refine VL.q (q_ln (s := l_0) Tryd.underlying22 rfl) (by decide) ?_
  refine VL.q (q_move rfl) (by decide) ?_
  refine VL.to (fun _ _ h => h) ?_
  refine VC.block ?_
  refine VC.iter (S := Int × Str) (fun sg => (sg.1, sg.2)) (fun sg => [(3, ptr b3_1 0), (6, l_0.val), (7, i64 (l_0.l.length : Int)), (8, i64 sg.1)]) (fun sg => Mo.tt) (fun sg => Ow.star (Bd 83 5 b3_1 sg.2) (Ow.emp)) (0, []) [3, 6, 7, 8] hS rfl ?_
  clear hS
  rintro ⟨x8_2, acc_3⟩ m1 y1 hS hK1
  show VC _ _ _ _ _ [(3, ptr b3_1 0), (6, l_0.val), (7, i64 (l_0.l.length : Int)), (8, i64 x8_2)] (Mo.and Mo.tt _) (Ow.star (Bd 83 5 b3_1 acc_3) (Ow.emp))
  refine VC.seq ?_
  refine VC.region ?_
  refine VL.q (q_lss rfl rfl) (by decide) ?_
  refine VL.to (fun _ _ h => h) ?_
  refine VC.seq ?_
  refine VC.cond_dec rfl (fun h9 => ?_) (fun h9 => ?_)
  ·
    replace hS := it_t h9 hS
    refine VC.skip_to (fun _ _ h => h) ?_
    refine VC.seq ?_
    refine VC.block ?_
    refine VC.seq ?_
    refine VC.region ?_
    obtain ⟨z10_4, nz10_4, hz10_4, hS⟩ := at_s hS
    refine VL.q (q_ixm (s := l_0) Tryd.underlying22 gsz26 rfl rfl nz10_4 (lt_of_get nz10_4 hz10_4)) (by decide) ?_
    refine VL.q (q_els (s := l_0) gagg26 rfl rfl hz10_4) (by decide) ?_
    refine VL.alloc (cs := [str [], i64 0, str []]) (by kernel_rfl) (by decide) fun b5_5 => ?_
    refine VL.store (vc := [str z10_4.verb, i64 z10_4.commit, str z10_4.text]) (cs' := [str z10_4.verb, i64 z10_4.commit, str z10_4.text]) rfl rfl rfl gsz26 rfl rfl (Nat.le_of_ble_eq_true rfl) rfl ?_
    refine VL.to (fun _ _ h => h) ?_
    refine VC.seq ?_
    refine VC.draw [(0, true), (1, true), (2, true), (3, true), (4, true), (5, true), (6, true), (7, false)] mixed (by kernel_rfl) (by kernel_rfl) (by kernel_rfl) ?_
    refine VD.q rfl (q_field gfa26_0 rfl) (by decide) ?_
    refine VD.q rfl (q_fe gone9 rfl rfl) (by decide) ?_
    obtain ⟨b14, hS⟩ := gd_s hS
    obtain ⟨y14_6, ey14_6, hS⟩ := lt_s hS
    refine VD.q rfl (q_catE rfl rfl b14 ey14_6) (by decide) ?_
    refine VD.q rfl (q_field gfa26_1 rfl) (by decide) ?_
    refine VD.q rfl (q_fe gone3 rfl rfl) (by decide) ?_
    obtain ⟨b17, hS⟩ := gd_s hS
    refine VD.q rfl (q_call (itoa_ct z10_4.commit b17) rfl (fun _ _ => rfl)) (by decide) ?_
    obtain ⟨b18, hS⟩ := gd_s hS
    obtain ⟨y18_7, ey18_7, hS⟩ := lt_s hS
    refine VD.q rfl (q_catE rfl rfl b18 ey18_7) (by decide) ?_
    refine VD.one rfl ?_
    obtain ⟨b19, hS⟩ := gd_s hS
    refine VL.callO (writeString_ct b3_1 acc_3 y18_7 b19) rfl (by decide) ?_
    rintro _ _
    obtain ⟨acc19_8, eacc19_8, hS⟩ := lt_s hS
    rw [eacc19_8]
    refine VL.back (D' := []) (by kernel_rfl) (Pend.nil) ?_
    refine VD.to (fun _ _ h => h) ?_
    refine VC.keep [3, 6, 7, 8, 5] rfl ?_
    refine VC.seq ?_
    refine VC.seq ?_
    refine VC.region ?_
    refine VL.q (q_field gfa26_0 rfl) (by decide) ?_
    refine VL.q (q_fe gone9 rfl rfl) (by decide) ?_
    refine VL.q (q_seq rfl rfl) (by decide) ?_
    refine VL.to (fun _ _ h => h) ?_
    refine VC.cond_dec rfl (fun h22 => ?_) (fun h22 => ?_)
    ·
      replace hS := it_t h22 hS
      refine VC.region ?_
      refine VL.q (q_field gfa26_2 rfl) (by decide) ?_
      refine VL.q (q_fe gone9 rfl rfl) (by decide) ?_
      obtain ⟨b25, hS⟩ := gd_s hS
      obtain ⟨y25_9, ey25_9, hS⟩ := lt_s hS
      refine VL.q (q_catE rfl rfl b25 ey25_9) (by decide) ?_
      obtain ⟨b26, hS⟩ := gd_s hS
      refine VL.callO (writeString_ct b3_1 acc19_8 y25_9 b26) rfl (by decide) ?_
      rintro _ _
      obtain ⟨acc26_10, eacc26_10, hS⟩ := lt_s hS
      rw [eacc26_10]
      refine VL.to (fun _ _ h => h) ?_
      refine VC.keep [3, 6, 7, 8] rfl ?_
      refine VC.region ?_
      obtain ⟨b27, hS⟩ := gd_s hS
      refine VL.callO (writeString_ct b3_1 acc26_10 [10] b27) rfl (by decide) ?_
      rintro _ _
      obtain ⟨acc27_11, eacc27_11, hS⟩ := lt_s hS
      rw [eacc27_11]
      refine VL.to (fun _ _ h => h) ?_
      refine VC.region ?_
      obtain ⟨b28, hS⟩ := gd_s hS
      refine VL.q (q_add rfl rfl b28) (by decide) ?_
      refine VL.q (q_move rfl) (by decide) ?_
      refine VL.rnd ((x8_2 + 1), acc27_11) [3, 6, 7, 8] (fun _ _ h => h) (go2 hS hK1) rfl
    ·
      replace hS := it_f h22 hS
      refine VC.skip_to (fun _ _ h => h) ?_
      refine VC.region ?_
      obtain ⟨b27, hS⟩ := gd_s hS
      refine VL.callO (writeString_ct b3_1 acc19_8 [10] b27) rfl (by decide) ?_
      rintro _ _
      obtain ⟨acc27_12, eacc27_12, hS⟩ := lt_s hS
      rw [eacc27_12]
      refine VL.to (fun _ _ h => h) ?_
      refine VC.region ?_
      obtain ⟨b28, hS⟩ := gd_s hS
      refine VL.q (q_add rfl rfl b28) (by decide) ?_
      refine VL.q (q_move rfl) (by decide) ?_
      refine VL.rnd ((x8_2 + 1), acc27_12) [3, 6, 7, 8] (fun _ _ h => h) (go2 hS hK1) rfl
  ·
    replace hS := it_f h9 hS
    replace hS := up2 hS hK1
    refine VC.exit_to (fun _ _ h => h) ?_
    refine VC.seq ?_
    refine VC.region ?_
    refine VL.callO (string_ct b3_1 acc_3) rfl (by decide) ?_
    rintro _ _
    refine VL.q (q_assign rfl) (by decide) ?_
    refine VL.to (fun _ _ h => h) ?_
    cases hS
    exact VC.ret (fin1 (.inr rfl) rfl rfl () rfl trivial (fun _ _ => trivial) (fun _ _ => trivial))

set_option maxHeartbeats 4000000 in
set_option maxRecDepth 100000 in
theorem todo_fault_ct (at_0 : Int) (e_1 : Int) {r : Err} (hS : Sh.todo_fault at_0 e_1 = some r) :
    Ct Tryd.prog 81 [i64 at_0, i64 e_1] Mo.tt (Ow.emp) (X := Er) (fun x => x.val) (fun x => r = x.pl) (fun x => x.ok) (fun x => Ow.emp) := by
  refine Ct.of Tryd.func81 rfl (by kernel_rfl) Tryd.ntmps81 (by simp) fun c => ?_
  unfold Sh.todo_fault at hS
  refine VC.seq ?_
  refine VC.region ?_
  refine VL.q (q_assign rfl) (by decide) ?_
  refine VL.to (fun _ _ h => h) ?_
  refine VC.seq ?_
  refine VC.region ?_
  refine VL.q (q_move rfl) (by decide) ?_
  refine VL.q (q_move rfl) (by decide) ?_
  refine VL.q (q_mkif Tryd.underlying90 (fun _ h => by cases h) rfl) (by decide) ?_
  refine VL.q (q_build (vs := [(0, str [115, 116, 101, 112]), (1, i64 at_0), (2, (Er.no e_1).val)]) (cs := #[str [115, 116, 101, 112], i64 at_0, (Er.no e_1).val]) rfl (by kernel_rfl)) (by decide) ?_
  refine VL.box (cs := [str [115, 116, 101, 112], i64 at_0, (Er.no e_1).val]) rfl rfl (by decide) fun b9_1 => ?_
  refine VL.shutB b9_1 ?_
  refine VL.q (q_mkif Tryd.underlying93 (fun _ h => by cases h) rfl) (by decide) ?_
  refine VL.q (q_assign rfl) (by decide) ?_
  refine VL.to (fun _ _ h => h) ?_
  cases hS
  exact VC.ret (fin1 (.inr rfl) rfl rfl (Er.fault b9_1 [115, 116, 101, 112] at_0 (Er.no e_1)) rfl rfl (by (try dsimp only); exact InM.out) (fun _ _ => trivial))

set_option maxHeartbeats 4000000 in
set_option maxRecDepth 100000 in
theorem todo_step_ct (s_0 : TodoStep) (g_1 : Sv (Sv Int)) (first_2 : Bool) {r : Int} (hS : Sh.todo_step s_0 (g_1.l.map Sv.l) first_2 = some r) :
    Ct Tryd.prog 82 [.agg #[str s_0.verb, i64 s_0.commit, str s_0.text], g_1.val, .bool first_2] g_1.ok (Ow.emp) (X := Unit) (fun _ => i64 r) (fun _ => True) (fun _ => Mo.tt) (fun _ => Ow.emp) := by
  refine Ct.of Tryd.func82 rfl (by kernel_rfl) Tryd.ntmps82 (by simp) fun c => ?_
  unfold Sh.todo_step at hS
  refine VC.seq ?_
  refine VC.region ?_
  refine VL.box (cs := [str s_0.verb, i64 s_0.commit, str s_0.text]) rfl rfl (by decide) fun b3_1 => ?_
  refine VL.q (q_assign rfl) (by decide) ?_
  refine VL.to (fun _ _ h => h) ?_
  refine VC.seq ?_
  refine VC.region ?_
  refine VL.q (q_field gfa26_0 rfl) (by decide) ?_
  refine VL.q (q_fe gone9 rfl rfl) (by decide) ?_
  obtain ⟨y12_2, ey12_2, hS⟩ := bd_s hS
  refine VL.q (q_call (todo_verb_ct s_0.verb ey12_2) rfl (fun _ _ => rfl)) (by decide) ?_
  refine VL.q (q_move rfl) (by decide) ?_
  refine VL.q (q_extract rfl rfl) (by decide) ?_
  refine VL.q (q_extract rfl rfl) (by decide) ?_
  refine VL.q (q_assign rfl) (by decide) ?_
  refine VL.q (q_assign rfl) (by decide) ?_
  refine VL.to (fun _ _ h => h) ?_
  refine VC.keep [1, 2, 3, 7, 8] rfl ?_
  refine VC.seq ?_
  refine VC.block ?_
  refine VC.seq ?_
  refine VC.region ?_
  refine VL.q (q_move rfl) (by decide) ?_
  refine VL.q (q_not rfl) (by decide) ?_
  refine VL.q (q_assign rfl) (by decide) ?_
  refine VL.to (fun _ _ h => h) ?_
  refine VC.cond rfl (fun h15 => ?_) (fun h15 => ?_)
  ·
    replace hS := it_t h15 hS
    refine VC.seq ?_
    refine VC.region ?_
    refine VL.q (q_assign rfl) (by decide) ?_
    refine VL.to (fun _ _ h => h) ?_
    cases hS
    exact VC.ret (fin1 (.inr rfl) rfl rfl () rfl trivial (fun _ _ => trivial) (fun _ _ => trivial))
  ·
    replace hS := it_b h15 hS
    refine VC.cutJ (S := Bool) (fun (x18_3 : Bool) => x18_3) (fun (x18_3 : Bool) => [(2, .bool first_2), (8, .bool y12_2.2), (18, .bool x18_3)]) (fun (x18_3 : Bool) => Mo.tt) (fun (x18_3 : Bool) => Ow.star (Blk b3_1 [str s_0.verb, i64 s_0.commit, str s_0.text] 26) (Ow.emp)) hS ?_ ?_
    · -- up to where ways meet
      clear hS
      intro k4 hS
      refine VC.region ?_
      refine VL.q (q_field gfa26_1 rfl) (by decide) ?_
      refine VL.q (q_fe gone3 rfl rfl) (by decide) ?_
      refine VL.q (q_lss rfl rfl) (by decide) ?_
      refine VL.q (q_move rfl) (by decide) ?_
      refine VL.split_dec 22 rfl (fun h22 => ?_) (fun h22 => ?_)
      ·
        replace hS := it_t h22 hS
        refine VL.gn rfl rfl rfl (by decide) ?_
        refine VL.gn rfl rfl rfl (by decide) ?_
        refine VL.gn rfl rfl rfl (by decide) ?_
        refine VL.gn rfl rfl rfl (by decide) ?_
        refine VL.gn rfl rfl rfl (by decide) ?_
        refine VL.q (q_pick_t rfl rfl) (by decide) ?_
        refine VL.q (q_move rfl) (by decide) ?_
        refine VL.gn rfl rfl rfl (by decide) ?_
        refine VL.gn rfl rfl rfl (by decide) ?_
        refine VL.gn rfl rfl rfl (by decide) ?_
        refine VL.gn rfl rfl rfl (by decide) ?_
        refine VL.gn rfl rfl rfl (by decide) ?_
        refine VL.gn rfl rfl rfl (by decide) ?_
        refine VL.gn rfl rfl rfl (by decide) ?_
        refine VL.gn rfl rfl rfl (by decide) ?_
        refine VL.q (q_pick_t rfl rfl) (by decide) ?_
        refine VL.q (q_assign rfl) (by decide) ?_
        refine VL.mt true [2, 8, 18] (fun _ _ h => h) hS rfl
      ·
        replace hS := it_f h22 hS
        refine VL.gy rfl rfl (q_field gfa26_1 rfl) (by decide) ?_
        refine VL.gy rfl rfl (q_fe gone3 rfl rfl) (by decide) ?_
        refine VL.gy rfl rfl (q_move rfl) (by decide) ?_
        refine VL.gy rfl rfl (q_lnm Sv.l (s := g_1) Tryd.underlying78 rfl) (by decide) ?_
        refine VL.gy rfl rfl (q_gtr rfl rfl) (by decide) ?_
        refine VL.q (q_pick_f rfl rfl) (by decide) ?_
        refine VL.q (q_move rfl) (by decide) ?_
        refine VL.split_dec 29 rfl (fun h29 => ?_) (fun h29 => ?_)
        ·
          replace hS := it_t h29 hS
          refine VL.gn rfl rfl rfl (by decide) ?_
          refine VL.gn rfl rfl rfl (by decide) ?_
          refine VL.gn rfl rfl rfl (by decide) ?_
          refine VL.gn rfl rfl rfl (by decide) ?_
          refine VL.gn rfl rfl rfl (by decide) ?_
          refine VL.gn rfl rfl rfl (by decide) ?_
          refine VL.gn rfl rfl rfl (by decide) ?_
          refine VL.gn rfl rfl rfl (by decide) ?_
          refine VL.q (q_pick_t rfl rfl) (by decide) ?_
          refine VL.q (q_assign rfl) (by decide) ?_
          refine VL.mt true [2, 8, 18] (fun _ _ h => h) hS rfl
        ·
          replace hS := it_f h29 hS
          refine VL.gy rfl rfl (q_move rfl) (by decide) ?_
          refine VL.gy rfl rfl (q_field gfa26_1 rfl) (by decide) ?_
          refine VL.gy rfl rfl (q_fe gone3 rfl rfl) (by decide) ?_
          obtain ⟨b33, hS⟩ := gd_s hS
          refine VL.gy rfl rfl (q_sub rfl rfl b33) (by decide) ?_
          obtain ⟨z34_5, nz34_5, hz34_5, hS⟩ := atm_s hS
          refine VL.deep z34_5.ok hz34_5 (fun _ q => q) ?_
          refine VL.gy rfl rfl (q_ixm (s := g_1) Tryd.underlying78 gsz76 rfl rfl nz34_5 (lt_of_get nz34_5 hz34_5)) (by decide) ?_
          refine VL.gy rfl rfl (q_el (s := g_1) gone76 rfl hz34_5 rfl) (by decide) ?_
          refine VL.gy rfl rfl (q_ln (s := z34_5) Tryd.underlying76 rfl) (by decide) ?_
          refine VL.gy rfl rfl (q_gtr rfl rfl) (by decide) ?_
          refine VL.q (q_pick_f rfl rfl) (by decide) ?_
          refine VL.q (q_assign rfl) (by decide) ?_
          refine VL.mt (decide (1 < (z34_5.l.length : Int))) [2, 8, 18] (fun _ _ h => h) hS rfl
    · -- from there
      clear hS
      rintro x18_3 hS
      show VC _ _ _ _ _ [(2, .bool first_2), (8, .bool y12_2.2), (18, .bool x18_3)] (Mo.and Mo.tt _) (Ow.star (Blk b3_1 [str s_0.verb, i64 s_0.commit, str s_0.text] 26) (Ow.emp))
      refine VC.cond rfl (fun h18 => ?_) (fun h18 => ?_)
      ·
        replace hS := it_t h18 hS
        refine VC.seq ?_
        refine VC.region ?_
        refine VL.q (q_assign rfl) (by decide) ?_
        refine VL.to (fun _ _ h => h) ?_
        cases hS
        exact VC.ret (fin1 (.inr rfl) rfl rfl () rfl trivial (fun _ _ => trivial) (fun _ _ => trivial))
      ·
        replace hS := it_b h18 hS
        refine VC.cutJ (S := Bool) (fun (x39_6 : Bool) => x39_6) (fun (x39_6 : Bool) => [(39, .bool x39_6)]) (fun (x39_6 : Bool) => Mo.tt) (fun (x39_6 : Bool) => Ow.star (Blk b3_1 [str s_0.verb, i64 s_0.commit, str s_0.text] 26) (Ow.emp)) hS ?_ ?_
        · -- up to where ways meet
          clear hS
          intro k7 hS
          refine VC.region ?_
          refine VL.q (q_move rfl) (by decide) ?_
          refine VL.q (q_move rfl) (by decide) ?_
          refine VL.split 41 rfl (fun h41 => ?_) (fun h41 => ?_)
          ·
            replace hS := it_t h41 hS
            refine VL.gy rfl rfl (q_move rfl) (by decide) ?_
            refine VL.q (q_pick_t rfl rfl) (by decide) ?_
            refine VL.q (q_assign rfl) (by decide) ?_
            refine VL.mt first_2 [39] (fun _ _ h => h) hS rfl
          ·
            replace hS := it_b h41 hS
            refine VL.gn rfl rfl rfl (by decide) ?_
            refine VL.q (q_pick_f rfl rfl) (by decide) ?_
            refine VL.q (q_assign rfl) (by decide) ?_
            refine VL.mt false [39] (fun _ _ h => h) hS rfl
        · -- from there
          clear hS
          rintro x39_6 hS
          show VC _ _ _ _ _ [(39, .bool x39_6)] (Mo.and Mo.tt _) (Ow.star (Blk b3_1 [str s_0.verb, i64 s_0.commit, str s_0.text] 26) (Ow.emp))
          refine VC.cond rfl (fun h39 => ?_) (fun h39 => ?_)
          ·
            replace hS := it_t h39 hS
            refine VC.seq ?_
            refine VC.region ?_
            refine VL.q (q_assign rfl) (by decide) ?_
            refine VL.to (fun _ _ h => h) ?_
            cases hS
            exact VC.ret (fin1 (.inr rfl) rfl rfl () rfl trivial (fun _ _ => trivial) (fun _ _ => trivial))
          ·
            replace hS := it_b h39 hS
            refine VC.skip_to (fun _ _ h => h) ?_
            refine VC.seq ?_
            refine VC.region ?_
            refine VL.q (q_assign rfl) (by decide) ?_
            refine VL.to (fun _ _ h => h) ?_
            cases hS
            exact VC.ret (fin1 (.inr rfl) rfl rfl () rfl trivial (fun _ _ => trivial) (fun _ _ => trivial))

set_option maxHeartbeats 4000000 in
set_option maxRecDepth 100000 in
theorem todo_Check_ct (l_0 : Sv TodoStep) (g_1 : Sv (Sv Int)) {r : Err} (hS : Sh.todo_Check l_0.l (g_1.l.map Sv.l) = some r) :
    Ct Tryd.prog 40 [l_0.val, g_1.val] (l_0.ok.and g_1.ok) (Ow.emp) (X := Er) (fun x => x.val) (fun x => r = x.pl) (fun x => x.ok) (fun x => Ow.emp) := by
  refine Ct.of Tryd.func40 rfl (by kernel_rfl) Tryd.ntmps40 (by simp) fun c => ?_
  unfold Sh.todo_Check at hS
  refine VC.seq ?_
  refine VC.region ?_
  refine VL.q (q_assign rfl) (by decide) ?_
  refine VL.to (fun _ _ h => h) ?_
  refine VC.seq ?_
  refine VC.seq ?_
  refine VC.region ?_
  refine VL.q (q_move rfl) (by decide) ?_
  refine VL.q (q_ln (s := l_0) Tryd.underlying22 rfl) (by decide) ?_
  refine VL.q (q_gtr rfl rfl) (by decide) ?_
  refine VL.to (fun _ _ h => h) ?_
  refine VC.cond_dec rfl (fun h11 => ?_) (fun h11 => ?_)
  ·
    replace hS := it_t h11 hS
    refine VC.seq ?_
    refine VC.region ?_
    obtain ⟨y12_1, ey12_1, hS⟩ := bd_s hS
    refine VL.callF (todo_fault_ct 32 4 ey12_1) rfl (by decide) ?_
    rintro q12_1_0 rfl
    try dsimp only
    refine VL.q (q_assign rfl) (by decide) ?_
    refine VL.to (fun _ _ h => h) ?_
    cases hS
    exact VC.ret (fin1 (.inr rfl) rfl rfl q12_1_0 rfl rfl (by (try dsimp only); exact InM.out) (fun _ _ => trivial))
  ·
    replace hS := it_f h11 hS
    refine VC.skip_to (fun _ _ h => h) ?_
    refine VC.seq ?_
    refine VC.region ?_
    refine VL.q (q_assign rfl) (by decide) ?_
    refine VL.to (fun _ _ h => h) ?_
    refine VC.seq ?_
    refine VC.seq ?_
    refine VC.region ?_
    refine VL.q (q_move rfl) (by decide) ?_
    refine VL.q (q_ln (s := l_0) Tryd.underlying22 rfl) (by decide) ?_
    refine VL.q (q_move rfl) (by decide) ?_
    refine VL.to (fun _ _ h => h) ?_
    refine VC.block ?_
    refine VC.iter (S := Bool × Int) (fun sg => (sg.1, sg.2)) (fun sg => [(1, g_1.val), (5, .bool sg.1), (13, l_0.val), (14, i64 (l_0.l.length : Int)), (15, i64 sg.2)]) (fun sg => Mo.tt) (fun sg => Ow.emp) (true, 0) [1, 5, 13, 14, 15] hS rfl ?_
    clear hS
    rintro ⟨first5_2, x15_3⟩ m1 y1 hS hK1
    show VC _ _ _ _ _ [(1, g_1.val), (5, .bool first5_2), (13, l_0.val), (14, i64 (l_0.l.length : Int)), (15, i64 x15_3)] (Mo.and Mo.tt _) (Ow.emp)
    refine VC.seq ?_
    refine VC.region ?_
    refine VL.q (q_lss rfl rfl) (by decide) ?_
    refine VL.to (fun _ _ h => h) ?_
    refine VC.seq ?_
    refine VC.cond_dec rfl (fun h16 => ?_) (fun h16 => ?_)
    ·
      replace hS := it_t h16 hS
      refine VC.skip_to (fun _ _ h => h) ?_
      refine VC.seq ?_
      refine VC.block ?_
      refine VC.seq ?_
      refine VC.region ?_
      refine VL.q (q_move rfl) (by decide) ?_
      obtain ⟨z18_4, nz18_4, hz18_4, hS⟩ := at_s hS
      refine VL.q (q_ixm (s := l_0) Tryd.underlying22 gsz26 rfl rfl nz18_4 (lt_of_get nz18_4 hz18_4)) (by decide) ?_
      refine VL.q (q_els (s := l_0) gagg26 rfl rfl hz18_4) (by decide) ?_
      refine VL.alloc (cs := [str [], i64 0, str []]) (by kernel_rfl) (by decide) fun b7_5 => ?_
      refine VL.q (q_assign rfl) (by decide) ?_
      refine VL.store (vc := [str z18_4.verb, i64 z18_4.commit, str z18_4.text]) (cs' := [str z18_4.verb, i64 z18_4.commit, str z18_4.text]) rfl rfl rfl gsz26 rfl rfl (Nat.le_of_ble_eq_true rfl) rfl ?_
      refine VL.to (fun _ _ h => h) ?_
      refine VC.seq ?_
      refine VC.seq ?_
      refine VC.region ?_
      refine VL.q (q_fes gagg26 rfl rfl) (by decide) ?_
      refine VL.q (q_move rfl) (by decide) ?_
      refine VL.q (q_move rfl) (by decide) ?_
      obtain ⟨y23_6, ey23_6, hS⟩ := bd_s hS
      refine VL.q (q_call (todo_step_ct z18_4 g_1 first5_2 ey23_6) rfl (fun _ _ => rfl)) (by decide) ?_
      refine VL.q (q_assign rfl) (by decide) ?_
      refine VL.to (fun _ _ h => h) ?_
      refine VC.keep [1, 5, 13, 14, 15, 7, 6, 8] rfl ?_
      refine VC.seq ?_
      refine VC.region ?_
      refine VL.q (q_move rfl) (by decide) ?_
      refine VL.q (q_neq rfl rfl) (by decide) ?_
      refine VL.to (fun _ _ h => h) ?_
      refine VC.cond_ndec rfl (fun h25 => ?_) (fun h25 => ?_)
      ·
        replace hS := it_f h25 hS
        refine VC.seq ?_
        refine VC.region ?_
        refine VL.q (q_move rfl) (by decide) ?_
        refine VL.q (q_move rfl) (by decide) ?_
        obtain ⟨y28_7, ey28_7, hS⟩ := bd_s hS
        refine VL.callF (todo_fault_ct x15_3 y23_6 ey28_7) rfl (by decide) ?_
        rintro q28_7_0 rfl
        try dsimp only
        refine VL.q (q_assign rfl) (by decide) ?_
        refine VL.to (fun _ _ h => h) ?_
        refine VC.keep [4] rfl ?_
        replace hS := up2 hS hK1
        cases hS
        exact VC.ret (fin1 (.inr rfl) rfl rfl q28_7_0 rfl rfl (by (try dsimp only); exact InM.out) (fun _ _ => trivial))
      ·
        replace hS := it_t h25 hS
        refine VC.skip_to (fun _ _ h => h) ?_
        refine VC.region ?_
        refine VL.q (q_move rfl) (by decide) ?_
        refine VL.q (q_move rfl) (by decide) ?_
        refine VL.split 30 rfl (fun h30 => ?_) (fun h30 => ?_)
        ·
          replace hS := it_t h30 hS
          refine VL.gy rfl rfl (q_field gfa26_0 rfl) (by decide) ?_
          refine VL.gy rfl rfl (q_fe gone9 rfl rfl) (by decide) ?_
          refine VL.gy rfl rfl (q_seq rfl rfl) (by decide) ?_
          refine VL.q (q_pick_t rfl rfl) (by decide) ?_
          refine VL.q (q_assign rfl) (by decide) ?_
          refine VL.to (fun _ _ h => h) ?_
          refine VC.keep [1, 5, 13, 14, 15] rfl ?_
          refine VC.region ?_
          obtain ⟨b35, hS⟩ := gd_s hS
          refine VL.q (q_add rfl rfl b35) (by decide) ?_
          refine VL.q (q_move rfl) (by decide) ?_
          refine VL.rnd ((decide (z18_4.verb = [100, 114, 111, 112])), (x15_3 + 1)) [1, 5, 13, 14, 15] (fun _ _ h => h) (go2 hS hK1) rfl
        ·
          replace hS := it_b h30 hS
          refine VL.gn rfl rfl rfl (by decide) ?_
          refine VL.gn rfl rfl rfl (by decide) ?_
          refine VL.gn rfl rfl rfl (by decide) ?_
          refine VL.q (q_pick_f rfl rfl) (by decide) ?_
          refine VL.q (q_assign rfl) (by decide) ?_
          refine VL.to (fun _ _ h => h) ?_
          refine VC.keep [1, 5, 13, 14, 15] rfl ?_
          refine VC.region ?_
          obtain ⟨b35, hS⟩ := gd_s hS
          refine VL.q (q_add rfl rfl b35) (by decide) ?_
          refine VL.q (q_move rfl) (by decide) ?_
          refine VL.rnd (false, (x15_3 + 1)) [1, 5, 13, 14, 15] (fun _ _ h => h) (go2 hS hK1) rfl
    ·
      replace hS := it_f h16 hS
      replace hS := up2 hS hK1
      refine VC.exit_to (fun _ _ h => h) ?_
      refine VC.seq ?_
      refine VC.region ?_
      refine VL.q (q_assign rfl) (by decide) ?_
      refine VL.to (fun _ _ h => h) ?_
      cases hS
      exact VC.ret (fin1 (.inr rfl) rfl rfl .nil rfl rfl (by (try dsimp only); exact InM.out) (fun _ _ => trivial))

set_option maxHeartbeats 4000000 in
set_option maxRecDepth 100000 in
theorem rectolaw21_known_ct  {r : Bool} (hS : Sh.rectolaw21_known = some r) :
    Ct Tryd.prog 9 [] Gl (Ow.emp) (X := Unit) (fun _ => .bool r) (fun _ => True) (fun _ => Mo.tt) (fun _ => Ow.emp) := by
  refine Ct.of Tryd.func9 rfl (by kernel_rfl) Tryd.ntmps9 (by simp) fun c => ?_
  unfold Sh.rectolaw21_known at hS
  refine VC.seq ?_
  refine VC.region ?_
  refine VL.q (q_assign rfl) (by decide) ?_
  refine VL.to (fun _ _ h => h) ?_
  refine VC.seq ?_
  refine VC.region ?_
  obtain ⟨y8_1, ey8_1, hS⟩ := bd_s hS
  refine VL.callF (todo_Parse_ct [35, 32, 120, 10, 112, 105, 99, 107, 32, 51, 10, 10, 114, 101, 119, 111, 114, 100, 32, 52, 32, 110, 101, 119, 32, 119, 111, 114, 100, 115, 10] ey8_1) rfl (by decide) ?_
  rintro ⟨q8_1_0, q8_1_1⟩ rfl
  try dsimp only
  refine VL.q (q_move rfl) (by decide) ?_
  refine VL.q (q_extract rfl rfl) (by decide) ?_
  refine VL.q (q_extract rfl rfl) (by decide) ?_
  refine VL.q (q_assign rfl) (by decide) ?_
  refine VL.q (q_assign rfl) (by decide) ?_
  refine VL.to (fun _ _ h => h) ?_
  refine VC.seq ?_
  refine VC.region ?_
  obtain ⟨y12_2, ey12_2, hS⟩ := bd_s hS
  refine VL.callF (todo_Parse_ct [112, 105, 99, 107, 32, 120] ey12_2) rfl (by decide) ?_
  rintro ⟨q12_2_0, q12_2_1⟩ rfl
  try dsimp only
  refine VL.q (q_move rfl) (by decide) ?_
  refine VL.q (q_extract rfl rfl) (by decide) ?_
  refine VL.q (q_extract rfl rfl) (by decide) ?_
  refine VL.q (q_assign rfl) (by decide) ?_
  refine VL.q (q_assign rfl) (by decide) ?_
  refine VL.to (fun _ _ h => h) ?_
  refine VC.keep [1, 2, 4] rfl ?_
  refine VC.seq ?_
  refine VC.region ?_
  refine VL.lit (α := Int) (xs := [.const (i64 1)]) (vs := [i64 1]) [1] Tryd.underlying76 glit3 (by decide) rfl rfl rfl rfl (by decide) (fun _ _ _ _ => trivial) (by decide) (fun s15_3 hs15_3 => ?_) (by decide)
  replace hS := lt_to hs15_3 hS
  refine VL.lit (α := Int) (xs := [.const (i64 2)]) (vs := [i64 2]) [2] Tryd.underlying76 glit3 (by decide) rfl rfl rfl rfl (by decide) (fun _ _ _ _ => trivial) (by decide) (fun s16_5 hs16_5 => ?_) (by decide)
  replace hS := lt_to hs16_5 hS
  refine VL.lit (α := Sv Int) (xs := [.const (.slice none 0 0), .tmp 15, .tmp 16]) (vs := [.slice none 0 0, s15_3.val, s16_5.val]) [⟨none, 0, []⟩, s15_3, s16_5] Tryd.underlying78 glit76 (by decide) rfl rfl rfl rfl (by decide) (fun h m => List.forall_mem_cons.2 ⟨InM.out (X := ((⟨none, 0, []⟩ : Sv Int).ok)) h m, List.forall_mem_cons.2 ⟨InM.out (X := s15_3.ok) h m, List.forall_mem_cons.2 ⟨InM.out (X := s16_5.ok) h m, fun _ h => by cases h⟩⟩⟩) (by decide) (fun s17_7 hs17_7 => ?_) (by decide)
  replace hS := lt_to (congrArg (List.map Sv.l) hs17_7) hS
  refine VL.q (q_assign rfl) (by decide) ?_
  refine VL.to (fun _ _ h => h) ?_
  refine VC.seq ?_
  refine VC.region ?_
  refine VL.q (q_move rfl) (by decide) ?_
  obtain ⟨y19_9, ey19_9, hS⟩ := bd_s hS
  refine VL.callF (todo_Plain_ct s17_7 1 3 ey19_9) rfl (by decide) ?_
  rintro q19_9_0 rfl
  try dsimp only
  refine VL.q (q_assign rfl) (by decide) ?_
  refine VL.to (fun _ _ h => h) ?_
  refine VC.seq ?_
  refine VC.region ?_
  refine VL.q (q_move rfl) (by decide) ?_
  refine VL.q (q_ereq Tryd.underlying29 rfl) (by decide) ?_
  refine VL.q (q_move rfl) (by decide) ?_
  refine VL.split_dec 22 rfl (fun h22 => ?_) (fun h22 => ?_)
  ·
    replace hS := it_t h22 hS
    refine VL.gy rfl rfl (q_move rfl) (by decide) ?_
    refine VL.gy rfl rfl (q_erne Tryd.underlying29 rfl) (by decide) ?_
    refine VL.q (q_pick_t rfl rfl) (by decide) ?_
    refine VL.q (q_move rfl) (by decide) ?_
    refine VL.split_ndec 26 rfl (fun h26 => ?_) (fun h26 => ?_)
    ·
      replace hS := it_f h26 hS
      refine VL.gy rfl rfl (q_move rfl) (by decide) ?_
      refine VL.gy rfl rfl (q_ln (s := q8_1_0) Tryd.underlying22 rfl) (by decide) ?_
      refine VL.gy rfl rfl (q_eql rfl rfl) (by decide) ?_
      refine VL.q (q_pick_t rfl rfl) (by decide) ?_
      refine VL.q (q_move rfl) (by decide) ?_
      refine VL.split_dec 31 rfl (fun h31 => ?_) (fun h31 => ?_)
      ·
        replace hS := it_t h31 hS
        refine VL.gy rfl rfl (q_move rfl) (by decide) ?_
        obtain ⟨z33_10, nz33_10, hz33_10, hS⟩ := at_s hS
        refine VL.gy rfl rfl (q_ixm (s := q8_1_0) Tryd.underlying22 gsz26 rfl rfl nz33_10 (lt_of_get nz33_10 hz33_10)) (by decide) ?_
        refine VL.gy rfl rfl (q_field gfa26_2 rfl) (by decide) ?_
        refine VL.gy rfl rfl (q_elf (s := q8_1_0) gone9 rfl hz33_10 rfl) (by decide) ?_
        refine VL.gy rfl rfl (q_seq rfl rfl) (by decide) ?_
        refine VL.q (q_pick_t rfl rfl) (by decide) ?_
        refine VL.q (q_move rfl) (by decide) ?_
        refine VL.split_dec 38 rfl (fun h38 => ?_) (fun h38 => ?_)
        ·
          replace hS := it_t h38 hS
          refine VL.gy rfl rfl (q_move rfl) (by decide) ?_
          obtain ⟨y40_11, ey40_11, hS⟩ := bd_s hS
          refine VL.gy rfl rfl (q_call (todo_Text_ct q8_1_0 ey40_11) rfl (fun _ _ => rfl)) (by decide) ?_
          refine VL.gy rfl rfl (q_seq rfl rfl) (by decide) ?_
          refine VL.q (q_pick_t rfl rfl) (by decide) ?_
          refine VL.q (q_move rfl) (by decide) ?_
          refine VL.split_dec 43 rfl (fun h43 => ?_) (fun h43 => ?_)
          ·
            replace hS := it_t h43 hS
            refine VL.gy rfl rfl (q_move rfl) (by decide) ?_
            refine VL.gy rfl rfl (q_ln (s := q19_9_0) Tryd.underlying22 rfl) (by decide) ?_
            refine VL.gy rfl rfl (q_eql rfl rfl) (by decide) ?_
            refine VL.q (q_pick_t rfl rfl) (by decide) ?_
            refine VL.q (q_move rfl) (by decide) ?_
            refine VL.split_dec 48 rfl (fun h48 => ?_) (fun h48 => ?_)
            ·
              replace hS := it_t h48 hS
              refine VL.gy rfl rfl (q_move rfl) (by decide) ?_
              obtain ⟨z50_12, nz50_12, hz50_12, hS⟩ := at_s hS
              refine VL.gy rfl rfl (q_ixm (s := q19_9_0) Tryd.underlying22 gsz26 rfl rfl nz50_12 (lt_of_get nz50_12 hz50_12)) (by decide) ?_
              refine VL.gy rfl rfl (q_field gfa26_1 rfl) (by decide) ?_
              refine VL.gy rfl rfl (q_elf (s := q19_9_0) gone3 rfl hz50_12 rfl) (by decide) ?_
              refine VL.gy rfl rfl (q_eql rfl rfl) (by decide) ?_
              refine VL.q (q_pick_t rfl rfl) (by decide) ?_
              refine VL.q (q_move rfl) (by decide) ?_
              refine VL.split_dec 55 rfl (fun h55 => ?_) (fun h55 => ?_)
              ·
                replace hS := it_t h55 hS
                refine VL.gy rfl rfl (q_move rfl) (by decide) ?_
                refine VL.gy rfl rfl (q_move rfl) (by decide) ?_
                refine VL.guard rfl rfl ?_
                obtain ⟨y58_13, ey58_13, hS⟩ := bd_s hS
                refine VL.callF (todo_Check_ct q19_9_0 s17_7 ey58_13) rfl (by decide) ?_
                rintro q58_13_0 rfl
                try dsimp only
                refine VL.gy rfl rfl (q_ereq Tryd.underlying29 rfl) (by decide) ?_
                refine VL.q (q_pick_t rfl rfl) (by decide) ?_
                refine VL.q (q_move rfl) (by decide) ?_
                refine VL.split_dec 61 rfl (fun h61 => ?_) (fun h61 => ?_)
                ·
                  replace hS := it_t h61 hS
                  refine VL.gy rfl rfl (q_move rfl) (by decide) ?_
                  refine VL.gy rfl rfl (q_move rfl) (by decide) ?_
                  refine VL.guard rfl rfl ?_
                  obtain ⟨y64_14, ey64_14, hS⟩ := bd_s hS
                  refine VL.callF (todo_Check_ct q8_1_0 s17_7 ey64_14) rfl (by decide) ?_
                  rintro q64_14_0 rfl
                  try dsimp only
                  refine VL.gy rfl rfl (q_erne Tryd.underlying29 rfl) (by decide) ?_
                  refine VL.q (q_pick_t rfl rfl) (by decide) ?_
                  refine VL.q (q_assign rfl) (by decide) ?_
                  refine VL.to (fun _ _ h => h) ?_
                  refine VC.keep [0] rfl ?_
                  cases hS
                  exact VC.ret (fin1 (.inr rfl) rfl rfl () rfl trivial (fun _ _ => trivial) (fun _ _ => trivial))
                ·
                  replace hS := it_f h61 hS
                  refine VL.gn rfl rfl rfl (by decide) ?_
                  refine VL.gn rfl rfl rfl (by decide) ?_
                  refine VL.gn rfl rfl rfl (by decide) ?_
                  refine VL.gn rfl rfl rfl (by decide) ?_
                  refine VL.q (q_pick_f rfl rfl) (by decide) ?_
                  refine VL.q (q_assign rfl) (by decide) ?_
                  refine VL.to (fun _ _ h => h) ?_
                  refine VC.keep [0] rfl ?_
                  cases hS
                  exact VC.ret (fin1 (.inr rfl) rfl rfl () rfl trivial (fun _ _ => trivial) (fun _ _ => trivial))
              ·
                replace hS := it_f h55 hS
                refine VL.gn rfl rfl rfl (by decide) ?_
                refine VL.gn rfl rfl rfl (by decide) ?_
                refine VL.gn rfl rfl rfl (by decide) ?_
                refine VL.gn rfl rfl rfl (by decide) ?_
                refine VL.q (q_pick_f rfl rfl) (by decide) ?_
                refine VL.q (q_move rfl) (by decide) ?_
                refine VL.gn rfl rfl rfl (by decide) ?_
                refine VL.gn rfl rfl rfl (by decide) ?_
                refine VL.gn rfl rfl rfl (by decide) ?_
                refine VL.gn rfl rfl rfl (by decide) ?_
                refine VL.q (q_pick_f rfl rfl) (by decide) ?_
                refine VL.q (q_assign rfl) (by decide) ?_
                refine VL.to (fun _ _ h => h) ?_
                refine VC.keep [0] rfl ?_
                cases hS
                exact VC.ret (fin1 (.inr rfl) rfl rfl () rfl trivial (fun _ _ => trivial) (fun _ _ => trivial))
            ·
              replace hS := it_f h48 hS
              refine VL.gn rfl rfl rfl (by decide) ?_
              refine VL.gn rfl rfl rfl (by decide) ?_
              refine VL.gn rfl rfl rfl (by decide) ?_
              refine VL.gn rfl rfl rfl (by decide) ?_
              refine VL.gn rfl rfl rfl (by decide) ?_
              refine VL.q (q_pick_f rfl rfl) (by decide) ?_
              refine VL.q (q_move rfl) (by decide) ?_
              refine VL.gn rfl rfl rfl (by decide) ?_
              refine VL.gn rfl rfl rfl (by decide) ?_
              refine VL.gn rfl rfl rfl (by decide) ?_
              refine VL.gn rfl rfl rfl (by decide) ?_
              refine VL.q (q_pick_f rfl rfl) (by decide) ?_
              refine VL.q (q_move rfl) (by decide) ?_
              refine VL.gn rfl rfl rfl (by decide) ?_
              refine VL.gn rfl rfl rfl (by decide) ?_
              refine VL.gn rfl rfl rfl (by decide) ?_
              refine VL.gn rfl rfl rfl (by decide) ?_
              refine VL.q (q_pick_f rfl rfl) (by decide) ?_
              refine VL.q (q_assign rfl) (by decide) ?_
              refine VL.to (fun _ _ h => h) ?_
              refine VC.keep [0] rfl ?_
              cases hS
              exact VC.ret (fin1 (.inr rfl) rfl rfl () rfl trivial (fun _ _ => trivial) (fun _ _ => trivial))
          ·
            replace hS := it_f h43 hS
            refine VL.gn rfl rfl rfl (by decide) ?_
            refine VL.gn rfl rfl rfl (by decide) ?_
            refine VL.gn rfl rfl rfl (by decide) ?_
            refine VL.q (q_pick_f rfl rfl) (by decide) ?_
            refine VL.q (q_move rfl) (by decide) ?_
            refine VL.gn rfl rfl rfl (by decide) ?_
            refine VL.gn rfl rfl rfl (by decide) ?_
            refine VL.gn rfl rfl rfl (by decide) ?_
            refine VL.gn rfl rfl rfl (by decide) ?_
            refine VL.gn rfl rfl rfl (by decide) ?_
            refine VL.q (q_pick_f rfl rfl) (by decide) ?_
            refine VL.q (q_move rfl) (by decide) ?_
            refine VL.gn rfl rfl rfl (by decide) ?_
            refine VL.gn rfl rfl rfl (by decide) ?_
            refine VL.gn rfl rfl rfl (by decide) ?_
            refine VL.gn rfl rfl rfl (by decide) ?_
            refine VL.q (q_pick_f rfl rfl) (by decide) ?_
            refine VL.q (q_move rfl) (by decide) ?_
            refine VL.gn rfl rfl rfl (by decide) ?_
            refine VL.gn rfl rfl rfl (by decide) ?_
            refine VL.gn rfl rfl rfl (by decide) ?_
            refine VL.gn rfl rfl rfl (by decide) ?_
            refine VL.q (q_pick_f rfl rfl) (by decide) ?_
            refine VL.q (q_assign rfl) (by decide) ?_
            refine VL.to (fun _ _ h => h) ?_
            refine VC.keep [0] rfl ?_
            cases hS
            exact VC.ret (fin1 (.inr rfl) rfl rfl () rfl trivial (fun _ _ => trivial) (fun _ _ => trivial))
        ·
          replace hS := it_f h38 hS
          refine VL.gn rfl rfl rfl (by decide) ?_
          refine VL.gn rfl rfl rfl (by decide) ?_
          refine VL.gn rfl rfl rfl (by decide) ?_
          refine VL.q (q_pick_f rfl rfl) (by decide) ?_
          refine VL.q (q_move rfl) (by decide) ?_
          refine VL.gn rfl rfl rfl (by decide) ?_
          refine VL.gn rfl rfl rfl (by decide) ?_
          refine VL.gn rfl rfl rfl (by decide) ?_
          refine VL.q (q_pick_f rfl rfl) (by decide) ?_
          refine VL.q (q_move rfl) (by decide) ?_
          refine VL.gn rfl rfl rfl (by decide) ?_
          refine VL.gn rfl rfl rfl (by decide) ?_
          refine VL.gn rfl rfl rfl (by decide) ?_
          refine VL.gn rfl rfl rfl (by decide) ?_
          refine VL.gn rfl rfl rfl (by decide) ?_
          refine VL.q (q_pick_f rfl rfl) (by decide) ?_
          refine VL.q (q_move rfl) (by decide) ?_
          refine VL.gn rfl rfl rfl (by decide) ?_
          refine VL.gn rfl rfl rfl (by decide) ?_
          refine VL.gn rfl rfl rfl (by decide) ?_
          refine VL.gn rfl rfl rfl (by decide) ?_
          refine VL.q (q_pick_f rfl rfl) (by decide) ?_
          refine VL.q (q_move rfl) (by decide) ?_
          refine VL.gn rfl rfl rfl (by decide) ?_
          refine VL.gn rfl rfl rfl (by decide) ?_
          refine VL.gn rfl rfl rfl (by decide) ?_
          refine VL.gn rfl rfl rfl (by decide) ?_
          refine VL.q (q_pick_f rfl rfl) (by decide) ?_
          refine VL.q (q_assign rfl) (by decide) ?_
          refine VL.to (fun _ _ h => h) ?_
          refine VC.keep [0] rfl ?_
          cases hS
          exact VC.ret (fin1 (.inr rfl) rfl rfl () rfl trivial (fun _ _ => trivial) (fun _ _ => trivial))
      ·
        replace hS := it_f h31 hS
        refine VL.gn rfl rfl rfl (by decide) ?_
        refine VL.gn rfl rfl rfl (by decide) ?_
        refine VL.gn rfl rfl rfl (by decide) ?_
        refine VL.gn rfl rfl rfl (by decide) ?_
        refine VL.gn rfl rfl rfl (by decide) ?_
        refine VL.q (q_pick_f rfl rfl) (by decide) ?_
        refine VL.q (q_move rfl) (by decide) ?_
        refine VL.gn rfl rfl rfl (by decide) ?_
        refine VL.gn rfl rfl rfl (by decide) ?_
        refine VL.gn rfl rfl rfl (by decide) ?_
        refine VL.q (q_pick_f rfl rfl) (by decide) ?_
        refine VL.q (q_move rfl) (by decide) ?_
        refine VL.gn rfl rfl rfl (by decide) ?_
        refine VL.gn rfl rfl rfl (by decide) ?_
        refine VL.gn rfl rfl rfl (by decide) ?_
        refine VL.q (q_pick_f rfl rfl) (by decide) ?_
        refine VL.q (q_move rfl) (by decide) ?_
        refine VL.gn rfl rfl rfl (by decide) ?_
        refine VL.gn rfl rfl rfl (by decide) ?_
        refine VL.gn rfl rfl rfl (by decide) ?_
        refine VL.gn rfl rfl rfl (by decide) ?_
        refine VL.gn rfl rfl rfl (by decide) ?_
        refine VL.q (q_pick_f rfl rfl) (by decide) ?_
        refine VL.q (q_move rfl) (by decide) ?_
        refine VL.gn rfl rfl rfl (by decide) ?_
        refine VL.gn rfl rfl rfl (by decide) ?_
        refine VL.gn rfl rfl rfl (by decide) ?_
        refine VL.gn rfl rfl rfl (by decide) ?_
        refine VL.q (q_pick_f rfl rfl) (by decide) ?_
        refine VL.q (q_move rfl) (by decide) ?_
        refine VL.gn rfl rfl rfl (by decide) ?_
        refine VL.gn rfl rfl rfl (by decide) ?_
        refine VL.gn rfl rfl rfl (by decide) ?_
        refine VL.gn rfl rfl rfl (by decide) ?_
        refine VL.q (q_pick_f rfl rfl) (by decide) ?_
        refine VL.q (q_assign rfl) (by decide) ?_
        refine VL.to (fun _ _ h => h) ?_
        refine VC.keep [0] rfl ?_
        cases hS
        exact VC.ret (fin1 (.inr rfl) rfl rfl () rfl trivial (fun _ _ => trivial) (fun _ _ => trivial))
    ·
      replace hS := it_t h26 hS
      refine VL.gn rfl rfl rfl (by decide) ?_
      refine VL.gn rfl rfl rfl (by decide) ?_
      refine VL.gn rfl rfl rfl (by decide) ?_
      refine VL.q (q_pick_f rfl rfl) (by decide) ?_
      refine VL.q (q_move rfl) (by decide) ?_
      refine VL.gn rfl rfl rfl (by decide) ?_
      refine VL.gn rfl rfl rfl (by decide) ?_
      refine VL.gn rfl rfl rfl (by decide) ?_
      refine VL.gn rfl rfl rfl (by decide) ?_
      refine VL.gn rfl rfl rfl (by decide) ?_
      refine VL.q (q_pick_f rfl rfl) (by decide) ?_
      refine VL.q (q_move rfl) (by decide) ?_
      refine VL.gn rfl rfl rfl (by decide) ?_
      refine VL.gn rfl rfl rfl (by decide) ?_
      refine VL.gn rfl rfl rfl (by decide) ?_
      refine VL.q (q_pick_f rfl rfl) (by decide) ?_
      refine VL.q (q_move rfl) (by decide) ?_
      refine VL.gn rfl rfl rfl (by decide) ?_
      refine VL.gn rfl rfl rfl (by decide) ?_
      refine VL.gn rfl rfl rfl (by decide) ?_
      refine VL.q (q_pick_f rfl rfl) (by decide) ?_
      refine VL.q (q_move rfl) (by decide) ?_
      refine VL.gn rfl rfl rfl (by decide) ?_
      refine VL.gn rfl rfl rfl (by decide) ?_
      refine VL.gn rfl rfl rfl (by decide) ?_
      refine VL.gn rfl rfl rfl (by decide) ?_
      refine VL.gn rfl rfl rfl (by decide) ?_
      refine VL.q (q_pick_f rfl rfl) (by decide) ?_
      refine VL.q (q_move rfl) (by decide) ?_
      refine VL.gn rfl rfl rfl (by decide) ?_
      refine VL.gn rfl rfl rfl (by decide) ?_
      refine VL.gn rfl rfl rfl (by decide) ?_
      refine VL.gn rfl rfl rfl (by decide) ?_
      refine VL.q (q_pick_f rfl rfl) (by decide) ?_
      refine VL.q (q_move rfl) (by decide) ?_
      refine VL.gn rfl rfl rfl (by decide) ?_
      refine VL.gn rfl rfl rfl (by decide) ?_
      refine VL.gn rfl rfl rfl (by decide) ?_
      refine VL.gn rfl rfl rfl (by decide) ?_
      refine VL.q (q_pick_f rfl rfl) (by decide) ?_
      refine VL.q (q_assign rfl) (by decide) ?_
      refine VL.to (fun _ _ h => h) ?_
      refine VC.keep [0] rfl ?_
      cases hS
      exact VC.ret (fin1 (.inr rfl) rfl rfl () rfl trivial (fun _ _ => trivial) (fun _ _ => trivial))
  ·
    replace hS := it_f h22 hS
    refine VL.gn rfl rfl rfl (by decide) ?_
    refine VL.gn rfl rfl rfl (by decide) ?_
    refine VL.q (q_pick_f rfl rfl) (by decide) ?_
    refine VL.q (q_move rfl) (by decide) ?_
    refine VL.gn rfl rfl rfl (by decide) ?_
    refine VL.gn rfl rfl rfl (by decide) ?_
    refine VL.gn rfl rfl rfl (by decide) ?_
    refine VL.q (q_pick_f rfl rfl) (by decide) ?_
    refine VL.q (q_move rfl) (by decide) ?_
    refine VL.gn rfl rfl rfl (by decide) ?_
    refine VL.gn rfl rfl rfl (by decide) ?_
    refine VL.gn rfl rfl rfl (by decide) ?_
    refine VL.gn rfl rfl rfl (by decide) ?_
    refine VL.gn rfl rfl rfl (by decide) ?_
    refine VL.q (q_pick_f rfl rfl) (by decide) ?_
    refine VL.q (q_move rfl) (by decide) ?_
    refine VL.gn rfl rfl rfl (by decide) ?_
    refine VL.gn rfl rfl rfl (by decide) ?_
    refine VL.gn rfl rfl rfl (by decide) ?_
    refine VL.q (q_pick_f rfl rfl) (by decide) ?_
    refine VL.q (q_move rfl) (by decide) ?_
    refine VL.gn rfl rfl rfl (by decide) ?_
    refine VL.gn rfl rfl rfl (by decide) ?_
    refine VL.gn rfl rfl rfl (by decide) ?_
    refine VL.q (q_pick_f rfl rfl) (by decide) ?_
    refine VL.q (q_move rfl) (by decide) ?_
    refine VL.gn rfl rfl rfl (by decide) ?_
    refine VL.gn rfl rfl rfl (by decide) ?_
    refine VL.gn rfl rfl rfl (by decide) ?_
    refine VL.gn rfl rfl rfl (by decide) ?_
    refine VL.gn rfl rfl rfl (by decide) ?_
    refine VL.q (q_pick_f rfl rfl) (by decide) ?_
    refine VL.q (q_move rfl) (by decide) ?_
    refine VL.gn rfl rfl rfl (by decide) ?_
    refine VL.gn rfl rfl rfl (by decide) ?_
    refine VL.gn rfl rfl rfl (by decide) ?_
    refine VL.gn rfl rfl rfl (by decide) ?_
    refine VL.q (q_pick_f rfl rfl) (by decide) ?_
    refine VL.q (q_move rfl) (by decide) ?_
    refine VL.gn rfl rfl rfl (by decide) ?_
    refine VL.gn rfl rfl rfl (by decide) ?_
    refine VL.gn rfl rfl rfl (by decide) ?_
    refine VL.gn rfl rfl rfl (by decide) ?_
    refine VL.q (q_pick_f rfl rfl) (by decide) ?_
    refine VL.q (q_assign rfl) (by decide) ?_
    refine VL.to (fun _ _ h => h) ?_
    refine VC.keep [0] rfl ?_
    cases hS
    exact VC.ret (fin1 (.inr rfl) rfl rfl () rfl trivial (fun _ _ => trivial) (fun _ _ => trivial))

set_option maxHeartbeats 4000000 in
set_option maxRecDepth 100000 in
theorem rectolaw21_TodoLines_ct (l_0 : Sv TodoStep) (at_1 : Sv UInt8) {r : Bool} (hS : Sh.rectolaw21_TodoLines l_0.l at_1.l = some r) :
    Ct Tryd.prog 3 [l_0.val, at_1.val] (l_0.ok.and (at_1.ok.and Gl)) (Ow.emp) (X := Unit) (fun _ => .bool r) (fun _ => True) (fun _ => Mo.tt) (fun _ => Ow.emp) := by
  refine Ct.of Tryd.func3 rfl (by kernel_rfl) Tryd.ntmps3 (by simp) fun c => ?_
  unfold Sh.rectolaw21_TodoLines at hS
  refine VC.seq ?_
  refine VC.region ?_
  refine VL.q (q_assign rfl) (by decide) ?_
  refine VL.to (fun _ _ h => h) ?_
  refine VC.seq ?_
  refine VC.seq ?_
  refine VC.region ?_
  obtain ⟨y12_1, ey12_1, hS⟩ := bd_s hS
  refine VL.q (q_call (rectolaw21_known_ct ey12_1) rfl (fun _ _ => rfl)) (by decide) ?_
  refine VL.q (q_not rfl) (by decide) ?_
  refine VL.to (fun _ _ h => h) ?_
  refine VC.cond rfl (fun h13 => ?_) (fun h13 => ?_)
  ·
    replace hS := it_t h13 hS
    refine VC.seq ?_
    refine VC.region ?_
    refine VL.q (q_assign rfl) (by decide) ?_
    refine VL.to (fun _ _ h => h) ?_
    cases hS
    exact VC.ret (fin1 (.inr rfl) rfl rfl () rfl trivial (fun _ _ => trivial) (fun _ _ => trivial))
  ·
    replace hS := it_b h13 hS
    refine VC.skip_to (fun _ _ h => h) ?_
    refine VC.seq ?_
    refine VC.cutJ (S := Bool) (fun (x23_2 : Bool) => x23_2) (fun (x23_2 : Bool) => [(0, l_0.val), (1, at_1.val), (23, .bool x23_2)]) (fun (x23_2 : Bool) => Mo.tt) (fun (x23_2 : Bool) => Ow.emp) hS ?_ ?_
    · -- up to where ways meet
      clear hS
      intro k3 hS
      refine VC.region ?_
      refine VL.q (q_move rfl) (by decide) ?_
      refine VL.q (q_ln (s := l_0) Tryd.underlying22 rfl) (by decide) ?_
      refine VL.q (q_gtr rfl rfl) (by decide) ?_
      refine VL.q (q_move rfl) (by decide) ?_
      refine VL.split_dec 17 rfl (fun h17 => ?_) (fun h17 => ?_)
      ·
        replace hS := it_t h17 hS
        refine VL.gn rfl rfl rfl (by decide) ?_
        refine VL.gn rfl rfl rfl (by decide) ?_
        refine VL.gn rfl rfl rfl (by decide) ?_
        refine VL.gn rfl rfl rfl (by decide) ?_
        refine VL.gn rfl rfl rfl (by decide) ?_
        refine VL.q (q_pick_t rfl rfl) (by decide) ?_
        refine VL.mt true [0, 1, 23] (fun _ _ h => h) hS rfl
      ·
        replace hS := it_f h17 hS
        refine VL.gy rfl rfl (q_move rfl) (by decide) ?_
        refine VL.gy rfl rfl (q_ln (s := at_1) Tryd.underlying23 rfl) (by decide) ?_
        refine VL.gy rfl rfl (q_move rfl) (by decide) ?_
        refine VL.gy rfl rfl (q_ln (s := l_0) Tryd.underlying22 rfl) (by decide) ?_
        refine VL.gy rfl rfl (q_lss rfl rfl) (by decide) ?_
        refine VL.q (q_pick_f rfl rfl) (by decide) ?_
        refine VL.mt (decide ((at_1.l.length : Int) < (l_0.l.length : Int))) [0, 1, 23] (fun _ _ h => h) hS rfl
    · -- from there
      clear hS
      rintro x23_2 hS
      show VC _ _ _ _ _ [(0, l_0.val), (1, at_1.val), (23, .bool x23_2)] (Mo.and Mo.tt _) (Ow.emp)
      refine VC.cond rfl (fun h23 => ?_) (fun h23 => ?_)
      ·
        replace hS := it_t h23 hS
        refine VC.seq ?_
        refine VC.region ?_
        refine VL.q (q_assign rfl) (by decide) ?_
        refine VL.to (fun _ _ h => h) ?_
        cases hS
        exact VC.ret (fin1 (.inr rfl) rfl rfl () rfl trivial (fun _ _ => trivial) (fun _ _ => trivial))
      ·
        replace hS := it_b h23 hS
        refine VC.skip_to (fun _ _ h => h) ?_
        refine VC.seq ?_
        refine VC.region ?_
        refine VL.q (q_assign rfl) (by decide) ?_
        refine VL.to (fun _ _ h => h) ?_
        refine VC.seq ?_
        refine VC.seq ?_
        refine VC.region ?_
        refine VL.q (q_assign rfl) (by decide) ?_
        refine VL.to (fun _ _ h => h) ?_
        refine VC.block ?_
        refine VC.iter (S := Str × Int) (fun sg => (sg.1, sg.2)) (fun sg => [(0, l_0.val), (1, at_1.val), (5, str sg.1), (6, i64 sg.2)]) (fun sg => Mo.tt) (fun sg => Ow.emp) ([], 0) [0, 1, 5, 6] hS rfl ?_
        clear hS
        rintro ⟨s5_4, i6_5⟩ m1 y1 hS hK1
        show VC _ _ _ _ _ [(0, l_0.val), (1, at_1.val), (5, str s5_4), (6, i64 i6_5)] (Mo.and Mo.tt _) (Ow.emp)
        refine VC.seq ?_
        refine VC.seq ?_
        refine VC.region ?_
        refine VL.q (q_move rfl) (by decide) ?_
        refine VL.q (q_move rfl) (by decide) ?_
        refine VL.q (q_ln (s := l_0) Tryd.underlying22 rfl) (by decide) ?_
        refine VL.q (q_lss rfl rfl) (by decide) ?_
        refine VL.to (fun _ _ h => h) ?_
        refine VC.cond_dec rfl (fun h27 => ?_) (fun h27 => ?_)
        ·
          replace hS := it_t h27 hS
          refine VC.skip_to (fun _ _ h => h) ?_
          refine VC.seq ?_
          refine VC.block ?_
          refine VC.seq ?_
          refine VC.seq ?_
          refine VC.region ?_
          refine VL.q (q_move rfl) (by decide) ?_
          refine VL.q (q_move rfl) (by decide) ?_
          obtain ⟨z32_6, nz32_6, hz32_6, hS⟩ := at_s hS
          refine VL.q (q_ixm (s := l_0) Tryd.underlying22 gsz26 rfl rfl nz32_6 (lt_of_get nz32_6 hz32_6)) (by decide) ?_
          refine VL.q (q_field gfa26_2 rfl) (by decide) ?_
          refine VL.q (q_elf (s := l_0) gone9 rfl hz32_6 rfl) (by decide) ?_
          refine VL.q (q_slen Tryd.underlying9 rfl) (by decide) ?_
          refine VL.q (q_gtr rfl rfl) (by decide) ?_
          refine VL.to (fun _ _ h => h) ?_
          refine VC.keep [0, 1, 5, 6, 36] rfl ?_
          refine VC.cond_dec rfl (fun h36 => ?_) (fun h36 => ?_)
          ·
            replace hS := it_t h36 hS
            refine VC.seq ?_
            refine VC.region ?_
            refine VL.q (q_assign rfl) (by decide) ?_
            refine VL.to (fun _ _ h => h) ?_
            replace hS := up2 hS hK1
            cases hS
            exact VC.ret (fin1 (.inr rfl) rfl rfl () rfl trivial (fun _ _ => trivial) (fun _ _ => trivial))
          ·
            replace hS := it_f h36 hS
            refine VC.skip_to (fun _ _ h => h) ?_
            refine VC.cutJ (S := Str) (fun (s5_7 : Str) => s5_7) (fun (s5_7 : Str) => [(0, l_0.val), (1, at_1.val), (5, str s5_7), (6, i64 i6_5)]) (fun (s5_7 : Str) => Mo.tt) (fun (s5_7 : Str) => Ow.emp) hS ?_ ?_
            · -- up to where ways meet
              clear hS
              intro k8 hS
              refine VC.seq ?_
              refine VC.region ?_
              refine VL.q (q_move rfl) (by decide) ?_
              refine VL.q (q_move rfl) (by decide) ?_
              obtain ⟨z39_9, nz39_9, hz39_9, hS⟩ := at_s hS
              refine VL.q (q_ixm (s := at_1) Tryd.underlying23 gsz5 rfl rfl nz39_9 (lt_of_get nz39_9 hz39_9)) (by decide) ?_
              refine VL.q (q_el (s := at_1) gone5 rfl hz39_9 rfl) (by decide) ?_
              obtain ⟨b41, hS⟩ := gd_s hS
              refine VL.q (q_rem rfl rfl b41) (by decide) ?_
              refine VL.to (fun _ _ h => h) ?_
              refine VC.block ?_
              refine VC.seq ?_
              refine VC.region ?_
              refine VL.q (q_eql rfl rfl) (by decide) ?_
              refine VL.q (q_assign rfl) (by decide) ?_
              refine VL.to (fun _ _ h => h) ?_
              refine VC.cond_dec rfl (fun h42 => ?_) (fun h42 => ?_)
              ·
                replace hS := it_t h42 hS
                refine VC.region ?_
                refine VL.q (q_move rfl) (by decide) ?_
                obtain ⟨b45, hS⟩ := gd_s hS
                obtain ⟨y45_10, ey45_10, hS⟩ := lt_s hS
                refine VL.q (q_catE rfl rfl b45 ey45_10) (by decide) ?_
                refine VL.q (q_assign rfl) (by decide) ?_
                refine VL.mt y45_10 [0, 1, 5, 6] (fun _ _ h => h) hS rfl
              ·
                replace hS := it_f h42 hS
                refine VC.seq ?_
                refine VC.region ?_
                refine VL.q (q_eql rfl rfl) (by decide) ?_
                refine VL.q (q_assign rfl) (by decide) ?_
                refine VL.to (fun _ _ h => h) ?_
                refine VC.keep [0, 1, 5, 6, 41, 46] rfl ?_
                refine VC.cond_dec rfl (fun h46 => ?_) (fun h46 => ?_)
                ·
                  replace hS := it_t h46 hS
                  refine VC.region ?_
                  refine VL.q (q_move rfl) (by decide) ?_
                  obtain ⟨b49, hS⟩ := gd_s hS
                  obtain ⟨y49_11, ey49_11, hS⟩ := lt_s hS
                  refine VL.q (q_catE rfl rfl b49 ey49_11) (by decide) ?_
                  refine VL.q (q_assign rfl) (by decide) ?_
                  refine VL.mt y49_11 [0, 1, 5, 6] (fun _ _ h => h) hS rfl
                ·
                  replace hS := it_f h46 hS
                  refine VC.seq ?_
                  refine VC.region ?_
                  refine VL.q (q_eql rfl rfl) (by decide) ?_
                  refine VL.q (q_assign rfl) (by decide) ?_
                  refine VL.to (fun _ _ h => h) ?_
                  refine VC.cond_dec rfl (fun h50 => ?_) (fun h50 => ?_)
                  ·
                    replace hS := it_t h50 hS
                    refine VC.region ?_
                    refine VL.q (q_move rfl) (by decide) ?_
                    obtain ⟨b53, hS⟩ := gd_s hS
                    obtain ⟨y53_12, ey53_12, hS⟩ := lt_s hS
                    refine VL.q (q_catE rfl rfl b53 ey53_12) (by decide) ?_
                    refine VL.q (q_assign rfl) (by decide) ?_
                    refine VL.mt y53_12 [0, 1, 5, 6] (fun _ _ h => h) hS rfl
                  ·
                    replace hS := it_f h50 hS
                    refine VC.skip_mt s5_4 [0, 1, 5, 6] (fun _ _ h => h) hS rfl
            · -- from there
              clear hS
              rintro s5_7 hS
              show VC _ _ _ _ _ [(0, l_0.val), (1, at_1.val), (5, str s5_7), (6, i64 i6_5)] (Mo.and Mo.tt _) (Ow.emp)
              refine VC.region ?_
              refine VL.q (q_move rfl) (by decide) ?_
              refine VL.q (q_move rfl) (by decide) ?_
              refine VL.q (q_move rfl) (by decide) ?_
              refine VL.q (q_move rfl) (by decide) ?_
              obtain ⟨b58, hS⟩ := gd_s hS
              refine VL.q (q_add rfl rfl b58) (by decide) ?_
              obtain ⟨b59, hS⟩ := gd_s hS
              refine VL.smid Tryd.underlying22 gsz26 rfl rfl rfl b59.1 b59.2.1 (b59.2.2) (by decide) fun s59_13 hs59_13 => ?_
              replace hS := lt_to hs59_13 hS
              obtain ⟨y60_15, ey60_15, hS⟩ := bd_s hS
              refine VL.q (q_call (todo_Text_ct s59_13 ey60_15) rfl (fun _ _ => rfl)) (by decide) ?_
              obtain ⟨b61, hS⟩ := gd_s hS
              obtain ⟨y61_16, ey61_16, hS⟩ := lt_s hS
              refine VL.q (q_catE rfl rfl b61 ey61_16) (by decide) ?_
              refine VL.q (q_assign rfl) (by decide) ?_
              refine VL.to (fun _ _ h => h) ?_
              refine VC.keep [0, 1, 5, 6] rfl ?_
              refine VC.region ?_
              refine VL.q (q_move rfl) (by decide) ?_
              obtain ⟨b29, hS⟩ := gd_s hS
              refine VL.q (q_add rfl rfl b29) (by decide) ?_
              refine VL.q (q_assign rfl) (by decide) ?_
              refine VL.rnd (y61_16, (i6_5 + 1)) [0, 1, 5, 6] (fun _ _ h => h) (go2 hS hK1) rfl
        ·
          replace hS := it_f h27 hS
          replace hS := up2 hS hK1
          refine VC.exit_to (fun _ _ h => h) ?_
          refine VC.seq ?_
          refine VC.region ?_
          refine VL.q (q_move rfl) (by decide) ?_
          obtain ⟨y64_17, ey64_17, hS⟩ := bd_s hS
          refine VL.callF (todo_Parse_ct s5_4 ey64_17) rfl (by decide) ?_
          rintro ⟨q64_17_0, q64_17_1⟩ rfl
          try dsimp only
          refine VL.q (q_move rfl) (by decide) ?_
          refine VL.q (q_extract rfl rfl) (by decide) ?_
          refine VL.q (q_extract rfl rfl) (by decide) ?_
          refine VL.q (q_assign rfl) (by decide) ?_
          refine VL.q (q_assign rfl) (by decide) ?_
          refine VL.to (fun _ _ h => h) ?_
          refine VC.keep [0, 7, 8] rfl ?_
          refine VC.seq ?_
          refine VC.region ?_
          refine VL.q (q_move rfl) (by decide) ?_
          obtain ⟨y69_18, ey69_18, hS⟩ := bd_s hS
          refine VL.q (q_call (todo_Text_ct l_0 ey69_18) rfl (fun _ _ => rfl)) (by decide) ?_
          obtain ⟨y70_19, ey70_19, hS⟩ := bd_s hS
          refine VL.callF (todo_Parse_ct y69_18 ey70_19) rfl (by decide) ?_
          rintro ⟨q70_19_0, q70_19_1⟩ rfl
          try dsimp only
          refine VL.q (q_move rfl) (by decide) ?_
          refine VL.q (q_extract rfl rfl) (by decide) ?_
          refine VL.q (q_extract rfl rfl) (by decide) ?_
          refine VL.q (q_assign rfl) (by decide) ?_
          refine VL.q (q_assign rfl) (by decide) ?_
          refine VL.to (fun _ _ h => h) ?_
          refine VC.keep [7, 8, 9, 10] rfl ?_
          refine VC.seq ?_
          refine VC.cutJ (S := Bool) (fun (x78_20 : Bool) => x78_20) (fun (x78_20 : Bool) => [(7, q64_17_0.val), (8, q64_17_1.val), (9, q70_19_0.val), (10, q70_19_1.val), (78, .bool x78_20)]) (fun (x78_20 : Bool) => Mo.tt) (fun (x78_20 : Bool) => Ow.emp) hS ?_ ?_
          · -- up to where ways meet
            clear hS
            intro k21 hS
            refine VC.region ?_
            refine VL.q (q_move rfl) (by decide) ?_
            refine VL.q (q_erne Tryd.underlying29 rfl) (by decide) ?_
            refine VL.q (q_move rfl) (by decide) ?_
            refine VL.split_ndec 75 rfl (fun h75 => ?_) (fun h75 => ?_)
            ·
              replace hS := it_f h75 hS
              refine VL.gn rfl rfl rfl (by decide) ?_
              refine VL.gn rfl rfl rfl (by decide) ?_
              refine VL.q (q_pick_t rfl rfl) (by decide) ?_
              refine VL.mt true [7, 8, 9, 10, 78] (fun _ _ h => h) hS rfl
            ·
              replace hS := it_t h75 hS
              refine VL.gy rfl rfl (q_move rfl) (by decide) ?_
              refine VL.gy rfl rfl (q_erne Tryd.underlying29 rfl) (by decide) ?_
              refine VL.q (q_pick_f rfl rfl) (by decide) ?_
              refine VL.mt (!decide (q70_19_1.pl.isNil = true)) [7, 8, 9, 10, 78] (fun _ _ h => h) hS rfl
          · -- from there
            clear hS
            rintro x78_20 hS
            show VC _ _ _ _ _ [(7, q64_17_0.val), (8, q64_17_1.val), (9, q70_19_0.val), (10, q70_19_1.val), (78, .bool x78_20)] (Mo.and Mo.tt _) (Ow.emp)
            refine VC.cond rfl (fun h78 => ?_) (fun h78 => ?_)
            ·
              replace hS := it_t h78 hS
              refine VC.seq ?_
              refine VC.draw ((List.range 6).map fun k => (k, true)) mixed (by kernel_rfl) (by kernel_rfl) (by kernel_rfl) ?_
              refine VD.q rfl (q_move rfl) (by decide) ?_
              refine VD.q rfl (q_ereq Tryd.underlying29 rfl) (by decide) ?_
              refine VD.q rfl (q_move rfl) (by decide) ?_
              refine VD.q rfl (q_ereq Tryd.underlying29 rfl) (by decide) ?_
              refine VD.q rfl (q_beql Tryd.underlying4 rfl rfl) (by decide) ?_
              refine VD.q rfl (q_assign rfl) (by decide) ?_
              refine VD.to (fun _ _ h => h) ?_
              refine VC.keep [4] rfl ?_
              cases hS
              exact VC.ret (fin1 (.inr rfl) rfl rfl () rfl trivial (fun _ _ => trivial) (fun _ _ => trivial))
            ·
              replace hS := it_b h78 hS
              refine VC.skip_to (fun _ _ h => h) ?_
              refine VC.seq ?_
              refine VC.seq ?_
              refine VC.region ?_
              refine VL.q (q_move rfl) (by decide) ?_
              refine VL.q (q_ln (s := q64_17_0) Tryd.underlying22 rfl) (by decide) ?_
              refine VL.q (q_move rfl) (by decide) ?_
              refine VL.q (q_ln (s := q70_19_0) Tryd.underlying22 rfl) (by decide) ?_
              refine VL.q (q_neq rfl rfl) (by decide) ?_
              refine VL.to (fun _ _ h => h) ?_
              refine VC.cond_ndec rfl (fun h88 => ?_) (fun h88 => ?_)
              ·
                replace hS := it_f h88 hS
                refine VC.seq ?_
                refine VC.region ?_
                refine VL.q (q_assign rfl) (by decide) ?_
                refine VL.to (fun _ _ h => h) ?_
                refine VC.keep [4] rfl ?_
                cases hS
                exact VC.ret (fin1 (.inr rfl) rfl rfl () rfl trivial (fun _ _ => trivial) (fun _ _ => trivial))
              ·
                replace hS := it_t h88 hS
                refine VC.skip_to (fun _ _ h => h) ?_
                refine VC.seq ?_
                refine VC.seq ?_
                refine VC.region ?_
                refine VL.q (q_assign rfl) (by decide) ?_
                refine VL.to (fun _ _ h => h) ?_
                refine VC.keep [7, 9, 11] rfl ?_
                refine VC.block ?_
                refine VC.iter (S := Int) (fun (i11_22 : Int) => i11_22) (fun (i11_22 : Int) => [(7, q64_17_0.val), (9, q70_19_0.val), (11, i64 i11_22)]) (fun (i11_22 : Int) => Mo.tt) (fun (i11_22 : Int) => Ow.emp) 0 [7, 9, 11] hS rfl ?_
                clear hS
                rintro i11_22 m1 y1 hS hK1
                show VC _ _ _ _ _ [(7, q64_17_0.val), (9, q70_19_0.val), (11, i64 i11_22)] (Mo.and Mo.tt _) (Ow.emp)
                refine VC.seq ?_
                refine VC.seq ?_
                refine VC.region ?_
                refine VL.q (q_move rfl) (by decide) ?_
                refine VL.q (q_move rfl) (by decide) ?_
                refine VL.q (q_ln (s := q64_17_0) Tryd.underlying22 rfl) (by decide) ?_
                refine VL.q (q_lss rfl rfl) (by decide) ?_
                refine VL.to (fun _ _ h => h) ?_
                refine VC.cond_dec rfl (fun h92 => ?_) (fun h92 => ?_)
                ·
                  replace hS := it_t h92 hS
                  refine VC.skip_to (fun _ _ h => h) ?_
                  refine VC.seq ?_
                  refine VC.block ?_
                  refine VC.seq ?_
                  refine VC.draw ((List.range 9).map fun k => (k, true)) mixed (by kernel_rfl) (by kernel_rfl) (by kernel_rfl) ?_
                  refine VD.q rfl (q_move rfl) (by decide) ?_
                  refine VD.q rfl (q_move rfl) (by decide) ?_
                  obtain ⟨z97_23, nz97_23, hz97_23, hS⟩ := at_s hS
                  refine VD.q rfl (q_ixm (s := q64_17_0) Tryd.underlying22 gsz26 rfl rfl nz97_23 (lt_of_get nz97_23 hz97_23)) (by decide) ?_
                  refine VD.q rfl (q_els (s := q64_17_0) gagg26 rfl rfl hz97_23) (by decide) ?_
                  refine VD.q rfl (q_move rfl) (by decide) ?_
                  refine VD.q rfl (q_move rfl) (by decide) ?_
                  obtain ⟨z101_24, nz101_24, hz101_24, hS⟩ := at_s hS
                  refine VD.q rfl (q_ixm (s := q70_19_0) Tryd.underlying22 gsz26 rfl rfl nz101_24 (lt_of_get nz101_24 hz101_24)) (by decide) ?_
                  refine VD.q rfl (q_els (s := q70_19_0) gagg26 rfl rfl hz101_24) (by decide) ?_
                  refine VD.q rfl (q_stneq geqg26 (geqs26 z97_23.verb z97_23.commit z97_23.text z101_24.verb z101_24.commit z101_24.text) rfl rfl) (by decide) ?_
                  refine VD.to (fun _ _ h => h) ?_
                  refine VC.keep [7, 9, 11, 103] rfl ?_
                  refine VC.cond_ndec rfl (fun h103 => ?_) (fun h103 => ?_)
                  ·
                    replace hS := it_f h103 hS
                    refine VC.seq ?_
                    refine VC.region ?_
                    refine VL.q (q_assign rfl) (by decide) ?_
                    refine VL.to (fun _ _ h => h) ?_
                    replace hS := up2 hS hK1
                    cases hS
                    exact VC.ret (fin1 (.inr rfl) rfl rfl () rfl trivial (fun _ _ => trivial) (fun _ _ => trivial))
                  ·
                    replace hS := it_t h103 hS
                    refine VC.skip_to (fun _ _ h => h) ?_
                    refine VC.region ?_
                    refine VL.q (q_move rfl) (by decide) ?_
                    obtain ⟨b94, hS⟩ := gd_s hS
                    refine VL.q (q_add rfl rfl b94) (by decide) ?_
                    refine VL.q (q_assign rfl) (by decide) ?_
                    refine VL.rnd (i11_22 + 1) [7, 9, 11] (fun _ _ h => h) (go2 hS hK1) rfl
                ·
                  replace hS := it_f h92 hS
                  replace hS := up2 hS hK1
                  refine VC.exit_to (fun _ _ h => h) ?_
                  refine VC.seq ?_
                  refine VC.region ?_
                  refine VL.q (q_assign rfl) (by decide) ?_
                  refine VL.to (fun _ _ h => h) ?_
                  cases hS
                  exact VC.ret (fin1 (.inr rfl) rfl rfl () rfl trivial (fun _ _ => trivial) (fun _ _ => trivial))

end Go.Proofs.YtipnlckfohhkbaaDoor
end

section
/- Plain laws on loops that compare two rows. No program in sight. -/
namespace Go.S
theorem at_get {α : Type} {l : List α} {i : Int} (h0 : 0 ≤ i) (h : i < l.length) : ∃ z, l[i.toNat]? = some z := ⟨_, List.getElem?_eq_getElem (by omega)⟩
theorem eqloop {α : Type} [DecidableEq α] (P : α → α → Prop) [∀ z w, Decidable (P z w)] (hP : ∀ z w, P z w ↔ z = w) (l r : List α) (hl : (l.length : Int) = r.length) (hb : (l.length : Int) ≤ 1000000000) (B : Int → Option (Int ⊕ Bool))
    (hB : ∀ i, B i = if i < (l.length : Int) then (at_ l i).bind (fun z => (at_ r i).bind (fun w => if P z w then gd (I64 (i + 1)) (go (i + 1)) else up (some false))) else up (some true)) : iter B 0 = some (decide (l = r)) := by
  apply Ok.eq
  refine ok_iter (I := fun i => 0 ≤ i ∧ i ≤ l.length ∧ l.take i.toNat = r.take i.toNat) (μ := fun i => (l.length - i).toNat) ?_ ⟨by omega, by omega, rfl⟩
  rintro i ⟨h0, h1, h2⟩
  rw [hB]
  simp only [ok_if, ok_up, ok_bd, ok_gd, ok_go, ok_some, ok_at]
  refine ⟨fun h => ?_, fun h => ?_⟩
  · obtain ⟨z, hz⟩ := at_get h0 h
    obtain ⟨w, hw⟩ := at_get (l := r) h0 (by omega)
    refine ⟨h0, z, hz, h0, w, hw, fun hp => ?_, fun hp => ?_⟩
    · have e := (hP z w).1 hp
      refine ⟨⟨by omega, by omega⟩, ⟨by omega, by omega, ?_⟩, by omega⟩
      rw [show (i + 1).toNat = i.toNat + 1 by omega, List.take_add_one, List.take_add_one, h2, hz, hw, e]
    · have e : z ≠ w := fun e => hp ((hP z w).2 e)
      refine (decide_eq_false fun q => e ?_).symm
      subst q
      rw [hz] at hw
      exact Option.some.inj hw
  · have e : i.toNat = l.length := by omega
    rw [e, List.take_length] at h2
    rw [show l.length = r.length by omega, List.take_length] at h2
    exact (decide_eq_true h2).symm
end Go.S
end

section
/- Plain laws on rows. No program in sight. -/
namespace Go.S
theorem get_lt {α : Type} {l : List α} {i : Nat} {x : α} (h : l[i]? = some x) : i < l.length := (List.getElem?_eq_some_iff.1 h).1
theorem at_last {α : Type} (l : List α) (z : α) : (l ++ [z])[(((l ++ [z]).length : Int) - 1).toNat]? = some z := by
  rw [show ((((l ++ [z]).length : Int) - 1).toNat) = l.length by simp]
  simp
theorem take_last {α : Type} (l : List α) (z : α) : (l ++ [z]).take (((l ++ [z]).length : Int) - 1).toNat = l := by
  rw [show ((((l ++ [z]).length : Int) - 1).toNat) = l.length by simp]
  simp
theorem set_get_true {l : List Bool} {i j : Nat} (h : l[j]? = some true) : (l.set i true)[j]? = some true := by
  rw [List.getElem?_set]
  split
  · next e => subst e; rw [if_pos (get_lt h)]
  · exact h
theorem count_set_true {l : List Bool} {i : Nat} (h : l[i]? = some false) : (l.set i true).count false + 1 = l.count false := by
  have hi := get_lt h
  rw [List.count_set hi]
  have h1 : l[i] = false := by
    rw [List.getElem?_eq_getElem hi] at h; exact Option.some.inj h
  have h2 : 0 < l.count false := List.count_pos_iff.2 (h1 ▸ List.getElem_mem hi)
  simp [h1]; omega
theorem take_snoc {α : Type} {l : List α} {i : Int} {z : α} (h0 : 0 ≤ i) (h : l[i.toNat]? = some z) : l.take (i + 1).toNat = l.take i.toNat ++ [z] := by
  rw [show (i + 1).toNat = i.toNat + 1 by omega, List.take_add_one, h]; rfl
theorem set_self {x : List Bool} {i : Nat} (h : i < x.length) : (x.set i true)[i]? = some true := by rw [List.getElem?_set, if_pos rfl, if_pos h]
theorem filter_snoc {α : Type} (p : α → Bool) (l : List α) (z : α) : (l ++ [z]).filter p = l.filter p ++ (if p z then [z] else []) := by
  rw [List.filter_append]; cases h : p z <;> simp [h]
theorem map_at {α β : Type} {f : α → β} {l : List α} {i : Int} (h0 : 0 ≤ i) (h : i < (l.map f).length) : ∃ z, l[i.toNat]? = some z ∧ (l.map f)[i.toNat]? = some (f z) := by
  rw [List.length_map] at h
  obtain ⟨z, hz⟩ := at_get h0 h
  exact ⟨z, hz, by rw [List.getElem?_map, hz]; rfl⟩
theorem part_get {α : Type} {r l : List α} {i : Nat} (hl : r.length = l.length) {j : Nat} (h : i ≤ j) : (r.take i ++ l.drop i)[j]? = l[j]? := by
  by_cases hi : i ≤ r.length
  · rw [List.getElem?_append_right (by rw [List.length_take]; omega), List.length_take, List.getElem?_drop]
    congr 1; omega
  · rw [List.getElem?_eq_none (by simp; omega), List.getElem?_eq_none (by omega)]
theorem part_set {α : Type} {r l : List α} {i : Nat} {z : α} (hl : r.length = l.length) (h : r[i]? = some z) : (r.take i ++ l.drop i).set i z = r.take (i + 1) ++ l.drop (i + 1) := by
  have hi := get_lt h
  rw [List.take_add_one, h, List.set_append_right _ _ (by rw [List.length_take]; omega), List.length_take, show i - min i r.length = 0 by omega]
  have hd : l.drop i = l[i] :: l.drop (i + 1) := List.drop_eq_getElem_cons (by omega)
  rw [hd, List.set_cons_zero]
  simp
theorem ok_jnP {S R : Type} {K : S → Option R} {F : (S → Option R) → Option R} {Q : R → Prop} (P : S → Prop) (hK : ∀ s, P s → Ok (K s) Q) (hF : ∀ K' : S → Option R, (∀ s, P s → Ok (K' s) Q) → Ok (F K') Q) : Ok (jn K F) Q := hF K hK
theorem snoc_ind {α : Type} {P : List α → Prop} (h0 : P []) (h1 : ∀ l b, P l → P (l ++ [b])) (l : List α) : P l := by
  have h : ∀ r : List α, P r.reverse := fun r => by
    induction r with
    | nil => exact h0
    | cons x r ih => rw [List.reverse_cons]; exact h1 _ _ ih
  have := h l.reverse
  rwa [List.reverse_reverse] at this
theorem byte_eq {z : UInt8} {n : Nat} (hn : n < 256) : ((z.toNat : Int) = n) ↔ z = UInt8.ofNat n := by
  constructor
  · intro h
    apply UInt8.toNat_inj.1
    simp [Nat.mod_eq_of_lt hn]; omega
  · intro h
    subst h
    simp [Nat.mod_eq_of_lt hn]
theorem mid1 {α : Type} {s : List α} {i : Int} {z : α} (h0 : 0 ≤ i) (h : s[i.toNat]? = some z) : (s.drop i.toNat).take ((i + 1).toNat - i.toNat) = [z] := by
  obtain ⟨h1, h2⟩ := List.getElem?_eq_some_iff.1 h
  rw [show (i + 1).toNat - i.toNat = 1 by omega, List.drop_eq_getElem_cons h1, h2]
  rfl
theorem drop_cons {α : Type} {s : List α} {i : Int} {z : α} (h0 : 0 ≤ i) (h : s[i.toNat]? = some z) : s.drop i.toNat = z :: s.drop (i + 1).toNat := by
  obtain ⟨h1, h2⟩ := List.getElem?_eq_some_iff.1 h
  rw [show (i + 1).toNat = i.toNat + 1 by omega, List.drop_eq_getElem_cons h1, h2]
end Go.S
end

section
/- Plain laws on texts: split at a byte, blanks at the ends, words. No program in sight. -/
namespace Go.S
open Go
/-- a text, split at a byte -/
def spl (c : UInt8) : List UInt8 → List (List UInt8)
  | [] => [[]]
  | x :: r => if x = c then [] :: spl c r else match spl c r with
    | [] => [[x]]
    | y :: l => (x :: y) :: l
theorem spl_ne (c : UInt8) : ∀ s, spl c s ≠ []
  | [] => by simp [spl]
  | x :: r => by
    unfold spl
    split
    · simp
    · split <;> simp
theorem spl_len (c : UInt8) : ∀ s, (spl c s).length = s.count c + 1
  | [] => by simp [spl]
  | x :: r => by
    have ih := spl_len c r
    unfold spl
    by_cases h : x = c
    · simp [h, ih]
    · rw [if_neg h, List.count_cons_of_ne (by simpa using h)]
      cases hq : spl c r with
      | nil => exact absurd hq (spl_ne c r)
      | cons y l => rw [hq] at ih; simpa using ih
theorem spl_no {c : UInt8} : ∀ {s : List UInt8}, c ∉ s → spl c s = [s]
  | [], _ => rfl
  | x :: r, h => by
    have hx : x ≠ c := fun e => h (by simp [e])
    rw [spl, if_neg hx, spl_no fun e => h (List.mem_cons_of_mem _ e)]
/-- up to the first, and from behind it -/
theorem spl_at {c : UInt8} : ∀ {a : List UInt8} (b : List UInt8), c ∉ a → spl c (a ++ c :: b) = a :: spl c b
  | [], b, _ => by simp [spl]
  | x :: a, b, h => by
    have hx : x ≠ c := fun e => h (by simp [e])
    rw [List.cons_append, spl, if_neg hx, spl_at b fun e => h (List.mem_cons_of_mem _ e)]
/-- one more byte -/
theorem spl_snoc (c x : UInt8) : ∀ s, ∃ l y, spl c s = l ++ [y] ∧ spl c (s ++ [x]) = if x = c then l ++ [y, []] else l ++ [y ++ [x]]
  | [] => ⟨[], [], rfl, by by_cases h : x = c <;> simp [spl, h]⟩
  | z :: r => by
    obtain ⟨l, y, h1, h2⟩ := spl_snoc c x r
    by_cases hz : z = c
    · refine ⟨[] :: l, y, by simp [spl, hz, h1], ?_⟩
      rw [List.cons_append, spl, if_pos hz, h2]
      split <;> rfl
    · cases l with
      | nil =>
        refine ⟨[], z :: y, by simp [spl, hz, h1], ?_⟩
        rw [List.cons_append, spl, if_neg hz, h2]
        by_cases hx : x = c <;> simp [hx]
      | cons a l =>
        refine ⟨(z :: a) :: l, y, by simp [spl, hz, h1], ?_⟩
        rw [List.cons_append, spl, if_neg hz, h2]
        by_cases hx : x = c <;> simp [hx]
theorem ix_no {c : UInt8} : ∀ {s : List UInt8}, c ∉ s → Lib.indexByte s c = -1
  | [], _ => rfl
  | x :: r, h => by
    have hx : (x == c) = false := by simpa using fun e : x = c => h (by simp [e])
    rw [Lib.indexByte, hx, ix_no fun e => h (List.mem_cons_of_mem _ e)]
    rfl
theorem ix_at {c : UInt8} : ∀ {a : List UInt8} (b : List UInt8), c ∉ a → Lib.indexByte (a ++ c :: b) c = a.length
  | [], b, _ => by simp [Lib.indexByte]
  | x :: a, b, h => by
    have hx : (x == c) = false := by simpa using fun e : x = c => h (by simp [e])
    rw [List.cons_append, Lib.indexByte, hx, ix_at b fun e => h (List.mem_cons_of_mem _ e)]
    simp
/-- a text has a byte: what is ahead of it, and behind -/
theorem split_mem {c : UInt8} {s : List UInt8} (h : c ∈ s) : ∃ a b, s = a ++ c :: b ∧ c ∉ a := by
  induction s with
  | nil => cases h
  | cons x r ih =>
    by_cases hx : x = c
    · exact ⟨[], r, by simp [hx], by simp⟩
    · rcases List.mem_cons.1 h with q | q
      · exact absurd q.symm hx
      · obtain ⟨a, b, e, hn⟩ := ih q
        exact ⟨x :: a, b, by simp [e], by simp [hn, Ne.symm hx]⟩
theorem byte_of (c : UInt8) : (c.toNat : Int).toNat.toUInt8 = c := by simp
theorem ixB_eq (s : List UInt8) (c : UInt8) : ixB s (c.toNat : Int) = Lib.indexByte s c := by unfold ixB; rw [byte_of]
theorem index_ok (s : List UInt8) (c : UInt8) : Sh.internal_stringslite_Index s [c] = some (Lib.indexByte s c) := by
  apply Ok.eq
  unfold Sh.internal_stringslite_Index
  simp only [ok_jn, ok_if, ok_bd, ok_some, ok_at]
  refine ⟨fun h => by simp at h, fun _ => ⟨fun h => ?_, fun _ => ⟨fun _ => ⟨by omega, c, rfl, ?_⟩, fun h => by simp at h⟩⟩⟩
  · have : s = [c] := by simpa using (of_decide_eq_true h).symm
    rw [this]; simp [Lib.indexByte]
  · unfold Sh.internal_stringslite_IndexByte
    rw [ixB_eq]; exact Ok.of rfl rfl
theorem sindex_ok (s : List UInt8) (c : UInt8) : Sh.strings_Index s [c] = some (Lib.indexByte s c) := by
  unfold Sh.strings_Index
  rw [index_ok]; rfl
theorem count_ok (s : List UInt8) (c : UInt8) : Sh.strings_Count s [c] = some (s.count c : Int) := by
  apply Ok.eq
  unfold Sh.strings_Count
  rw [if_neg (by simp), if_pos (by simp)]
  simp only [ok_bd, ok_at, ok_some]
  refine ⟨by omega, c, rfl, ?_⟩
  unfold cntB Lib.countByte
  rw [byte_of]
theorem split_ok {s : List UInt8} (c : UInt8) (hs : s.length ≤ 1000000000) : Sh.strings_Split s [c] = some (spl c s) := by
  apply Ok.eq
  unfold Sh.strings_Split Sh.strings_genSplit
  rw [ok_bd]
  have hc : s.count c ≤ s.length := List.count_le_length
  simp only [count_ok, ok_jn, ok_if, ok_bd, ok_gd, ok_lt, ok_some, ok_at]
  refine ⟨fun h => by omega, fun _ => ⟨fun h => by simp at h, fun _ => ⟨fun _ => ?_, fun h => by omega⟩⟩⟩
  have hm : (min ((s.count c : Int) + 1) ((s.length : Int) + 1)) = (s.count c : Int) + 1 := by omega
  rw [hm]
  refine ⟨⟨by omega, by omega⟩, ⟨by omega, by omega⟩, ⟨by omega, by omega⟩, ⟨by omega, by omega⟩, ?_⟩
  refine ok_iter (I := fun t => 0 ≤ t.2.2 ∧ t.2.2 + t.1.count c = s.count c ∧ t.2.1.length = s.count c + 1 ∧ t.2.1.take t.2.2.toNat ++ spl c t.1 = spl c s ∧ t.1.length ≤ s.length) (μ := fun t => t.1.length) ?_ ⟨by simp, by simp, by simp, by simp, by simp⟩
  rintro ⟨x, l, i⟩ ⟨i0, i1, i2, i3, i4⟩
  dsimp only at i0 i1 i2 i3 i4 ⊢
  have fin : c ∉ x → Ok (((at_ l i).bind fun z61_20 => lt (l.set i.toNat x) fun ys4_22 => gd (I64 (i + 1)) (gd ((0 : Int) ≤ (i + 1) ∧ (i + 1) ≤ (ys4_22.length : Int)) (lt (ys4_22.take (i + 1).toNat) fun y65_24 => some y65_24)))) (fun a => a = spl c s) := fun hx => by
    rw [spl_no hx] at i3
    rw [List.count_eq_zero_of_not_mem hx] at i1
    simp only [ok_bd, ok_gd, ok_lt, ok_some, ok_at]
    obtain ⟨z, hz⟩ := at_get (l := l) i0 (by omega)
    refine ⟨i0, z, hz, ⟨by omega, by omega⟩, ⟨by omega, by rw [List.length_set]; omega⟩, ?_⟩
    rw [← i3, show (i + 1).toNat = i.toNat + 1 by omega, List.take_add_one, List.getElem?_set, if_pos rfl, if_pos (get_lt hz), List.take_set_of_le (Nat.le_refl _)]
    simp
  simp only [ok_jn, ok_if, ok_up, ok_bd, ok_gd, ok_lt, ok_go, ok_some, ok_at, sindex_ok] at fin ⊢
  refine ⟨fun hi => ?_, fun hi => ?_⟩
  · have hmem : c ∈ x := List.count_pos_iff.1 (by omega)
    obtain ⟨a, b, e, ha⟩ := split_mem hmem
    subst e
    rw [ix_at b ha]
    have hl : (a ++ c :: b).length = a.length + b.length + 1 := by simp; omega
    have hcb : (a ++ c :: b).count c = b.count c + 1 := by simp [List.count_eq_zero_of_not_mem ha]
    obtain ⟨z, hz⟩ := at_get (l := l) i0 (by omega)
    refine ⟨fun h => by omega, fun _ => ⟨⟨by omega, by omega⟩, ⟨by omega, by omega⟩, i0, z, hz, ⟨by simp; omega, by simp; omega⟩, ⟨by simp; omega, by simp; omega⟩, ⟨by omega, by omega⟩, ⟨by omega, ?_, by simpa using i2, ?_, ?_⟩, ?_⟩⟩
    · simp only [List.length_cons, List.length_nil]
      rw [show ((a.length : Int) + ((0 + 1 : Nat) : Int)).toNat = a.length + 1 by omega]
      have : (a ++ c :: b).drop (a.length + 1) = b := by simp
      rw [this]; omega
    · simp only [List.length_cons, List.length_nil]
      rw [show ((a.length : Int) + ((0 + 1 : Nat) : Int)).toNat = a.length + 1 by omega, show ((a.length : Int) + 0).toNat = a.length by omega]
      have e1 : (a ++ c :: b).drop (a.length + 1) = b := by simp
      have e2 : (a ++ c :: b).take a.length = a := by simp
      rw [e1, e2, ← i3, spl_at b ha, show (i + 1).toNat = i.toNat + 1 by omega, List.take_add_one, List.getElem?_set, if_pos rfl, if_pos (get_lt hz), List.take_set_of_le (Nat.le_refl _)]
      simp
    · simp; omega
    · simp; omega
  · exact fin fun hm => by have := List.count_pos_iff.2 hm; omega
theorem spl_part (c : UInt8) : ∀ (s : List UInt8), ∀ y ∈ spl c s, y.length ≤ s.length
  | [], y, h => by simp [spl] at h; simp [h]
  | x :: r, y, h => by
    have ih := spl_part c r
    unfold spl at h
    split at h
    · rcases List.mem_cons.1 h with q | q
      · simp [q]
      · have := ih y q; simp; omega
    · split at h
      · have := List.mem_singleton.1 h; simp [this]
      · next a l hq =>
        rcases List.mem_cons.1 h with q | q
        · have := ih a (by rw [hq]; simp); simp [q]; omega
        · have := ih y (by rw [hq]; simp [q]); simp; omega
end Go.S
end

section
/- Plain laws on blanks at the ends. No program in sight. -/
namespace Go.S
open Go
theorem drop1 {α : Type} (x : α) (r : List α) : (x :: r).drop (1 : Int).toNat = r := rfl
/-- without the blanks ahead -/
def trL (s : List UInt8) : List UInt8 := s.dropWhile (· == 32)
theorem trimLB_ok (s : List UInt8) : Sh.strings_trimLeftByte s ((32 : UInt8).toNat : Int) = some (trL s) := by
  apply Ok.eq
  unfold Sh.strings_trimLeftByte
  refine ok_iter (I := fun t => trL t = trL s) (μ := fun t => t.length) ?_ rfl
  intro t ht
  simp only [ok_if, ok_up, ok_bd, ok_gd, ok_lt, ok_go, ok_some, ok_at]
  cases t with
  | nil => exact ⟨fun h => by simp at h, fun _ => ht⟩
  | cons x r =>
    refine ⟨fun _ => ⟨by omega, x, rfl, fun h => ⟨⟨by omega, by simp; omega⟩, ?_, by simp⟩, fun h => ?_⟩, fun h => absurd (by simp) h⟩
    · have hx : x = 32 := UInt8.toNat_inj.1 (by omega)
      rw [drop1, ← ht, trL, hx]; simp [trL]
    · have hx : (x == 32) = false := by simpa using fun e : x = 32 => h (by rw [e])
      rw [← ht, trL, List.dropWhile_cons, hx]; rfl
theorem trimL_ok (s : List UInt8) : Sh.strings_TrimLeft s [32] = some (trL s) := by
  apply Ok.eq
  unfold Sh.strings_TrimLeft
  simp only [ok_jn, ok_if, ok_bd, ok_some, ok_at]
  refine ⟨fun h => ⟨fun _ => by rw [h]; rfl, fun h => absurd trivial h⟩, fun _ => ⟨fun h => by simp at h, fun _ => ⟨fun _ => ⟨by omega, 32, rfl, fun _ => ⟨by omega, 32, rfl, Ok.of (trimLB_ok s) rfl⟩, fun h => by simp at h⟩, fun h => by simp at h⟩⟩⟩
theorem trL_nil {s : List UInt8} : trL s = [] ↔ ∀ b ∈ s, b = 32 := by
  unfold trL
  induction s with
  | nil => simp
  | cons x r ih =>
    rw [List.dropWhile_cons]
    by_cases h : x = 32
    · simp [h, ih]
    · simp [h]
theorem trimRB_ok {s : List UInt8} (hs : s.length ≤ 1000000000) : Ok (Sh.strings_trimRightByte s ((32 : UInt8).toNat : Int)) fun r => ∃ b, s = r ++ b ∧ ∀ x ∈ b, x = 32 := by
  unfold Sh.strings_trimRightByte
  refine ok_iter (I := fun t => ∃ b, s = t ++ b ∧ ∀ x ∈ b, x = 32) (μ := fun t => t.length) ?_ ⟨[], by simp, by simp⟩
  rintro t ⟨b, hb, hx⟩
  simp only [ok_if, ok_up, ok_bd, ok_gd, ok_lt, ok_go, ok_some, ok_at]
  refine ⟨fun h => ?_, fun _ => ⟨b, hb, hx⟩⟩
  obtain ⟨w, z, rfl⟩ : ∃ w z, t = w ++ [z] := by
    rcases List.eq_nil_or_concat t with e | ⟨w, z, e⟩
    · subst e; simp at h
    · exact ⟨w, z, by simpa using e⟩
  have hlen : (w ++ [z]).length = w.length + 1 := by simp
  have hlm : (w ++ [z]).length ≤ s.length := by rw [hb]; simp
  rw [at_last, take_last]
  refine ⟨⟨by omega, by omega⟩, by omega, z, rfl, fun h => ⟨⟨by omega, by omega⟩, ⟨by omega, by omega⟩, ⟨z :: b, by simp [hb], fun x hx' => ?_⟩, by omega⟩, fun _ => ⟨b, hb, hx⟩⟩
  rcases List.mem_cons.1 hx' with q | q
  · rw [q]; exact UInt8.toNat_inj.1 (by omega)
  · exact hx x q
theorem trim_ok {s : List UInt8} (hs : s.length ≤ 1000000000) : Ok (Sh.strings_Trim s [32]) fun r => r = [] ↔ trL s = [] := by
  unfold Sh.strings_Trim
  simp only [ok_jn, ok_if, ok_bd, ok_some, ok_at]
  refine ⟨fun h => ⟨fun _ => by rw [h]; simp [trL], fun h => absurd trivial h⟩, fun _ => ⟨fun h => by simp at h, fun _ => ⟨fun _ => ⟨by omega, 32, rfl, fun _ => ⟨by omega, 32, rfl, (trimRB_ok hs).mono fun r hr => ⟨by omega, 32, rfl, Ok.of (trimLB_ok r) ?_⟩⟩, fun h => by simp at h⟩, fun h => by simp at h⟩⟩⟩
  obtain ⟨b, hb, hx⟩ := hr
  rw [trL_nil, trL_nil, hb]
  exact ⟨fun h x hx' => (List.mem_append.1 hx').elim (h x) (hx x), fun h x hx' => h x (List.mem_append_left _ hx')⟩
end Go.S
end

section
/- Plain laws on steps in words (mkTQ.py, from PT2..PT7, with wider bounds). -/
namespace Go.S
open Go
theorem decF_len : ∀ (f u : Nat), (decF f u).length ≤ f
  | 0, u => by simp [decF]
  | f + 1, u => by
    unfold decF
    split
    · simp
    · have := decF_len f (u / 10); simp; omega
theorem itoaS_len (n : Int) : (itoaS n).length ≤ 21 := by
  unfold itoaS
  split
  · have := decF_len 20 n.natAbs; simp; omega
  · have := decF_len 20 n.toNat; omega
theorem clip_step (l : List TodoStep) : Sh.slices_Clip_todo_Step_todo_Step l = some l := by
  unfold Sh.slices_Clip_todo_Step_todo_Step
  simp [gd, lt]
/-- the first word, and what is behind it -/
def wd (s : List UInt8) : List UInt8 := s.takeWhile (· != 32)
def rs (s : List UInt8) : List UInt8 := s.dropWhile (· != 32)
theorem wd_rs (s : List UInt8) : wd s ++ rs s = s := List.takeWhile_append_dropWhile
theorem trL_len (s : List UInt8) : (trL s).length ≤ s.length := by
  unfold trL
  exact (List.dropWhile_suffix _).length_le
theorem rs_len (s : List UInt8) : (rs s).length ≤ s.length := by
  unfold rs
  exact (List.dropWhile_suffix _).length_le
theorem wd_len (s : List UInt8) : (wd s).length ≤ s.length := by
  unfold wd
  exact (List.takeWhile_prefix _).length_le
theorem trL_head {s : List UInt8} {x : UInt8} {r : List UInt8} (h : trL s = x :: r) : x ≠ 32 := by
  unfold trL at h
  induction s with
  | nil => cases h
  | cons y q ih =>
    rw [List.dropWhile_cons] at h
    by_cases hy : y = 32
    · exact ih (by simpa [hy] using h)
    · simp [hy] at h
      rw [← h.1]; exact hy
theorem wd_nil {s : List UInt8} : wd (trL s) = [] ↔ trL s = [] := by
  constructor
  · intro h
    cases hq : trL s with
    | nil => rfl
    | cons x r =>
      have := trL_head hq
      rw [hq, wd, List.takeWhile_cons] at h
      simp [this] at h
  · intro h; rw [h]; rfl
theorem trL_idem (s : List UInt8) : trL (trL s) = trL s := by
  cases hq : trL s with
  | nil => rfl
  | cons x r =>
    have := trL_head hq
    rw [trL, List.dropWhile_cons]
    simp [this]
def verbsL : List (List UInt8) := [[112, 105, 99, 107], [114, 101, 119, 111, 114, 100], [101, 100, 105, 116], [115, 113, 117, 97, 115, 104], [102, 105, 120, 117, 112], [100, 114, 111, 112]]
def isV (s : List UInt8) : Bool := decide (s ∈ verbsL)
theorem verb_ok (s : List UInt8) : ∃ b, Sh.todo_verb s = some (isV s, b) := by
  unfold Sh.todo_verb isV verbsL
  simp only [jn]
  by_cases h1 : s = [115, 113, 117, 97, 115, 104]
  · exact ⟨true, by simp [h1]⟩
  by_cases h2 : s = [102, 105, 120, 117, 112]
  · exact ⟨true, by simp [h2]⟩
  by_cases h3 : s = [112, 105, 99, 107]
  · exact ⟨false, by simp [h3]⟩
  by_cases h4 : s = [114, 101, 119, 111, 114, 100]
  · exact ⟨false, by simp [h4]⟩
  by_cases h5 : s = [101, 100, 105, 116]
  · exact ⟨false, by simp [h5]⟩
  by_cases h6 : s = [100, 114, 111, 112]
  · exact ⟨false, by simp [h6]⟩
  · exact ⟨false, by simp [h1, h2, h3, h4, h5, h6]⟩
/-- a number in digits -/
def val (l : List UInt8) : Int := l.foldl (fun n b => 10 * n + ((b.toNat : Int) - 48)) 0
def dig (b : UInt8) : Prop := 48 ≤ (b.toNat : Int) ∧ (b.toNat : Int) ≤ 57
instance (b : UInt8) : Decidable (dig b) := inferInstanceAs (Decidable (_ ∧ _))
theorem val_snoc (l : List UInt8) (b : UInt8) : val (l ++ [b]) = 10 * val l + ((b.toNat : Int) - 48) := by simp [val]
def numOk (s : List UInt8) : Prop := 1 ≤ s.length ∧ s.length ≤ 7 ∧ s[0]? ≠ some 48 ∧ (∀ b ∈ s, dig b) ∧ val s ≤ 1000000
instance (s : List UInt8) : Decidable (numOk s) := inferInstanceAs (Decidable (_ ∧ _))
theorem val_bound {l : List UInt8} (h : ∀ b ∈ l, dig b) : 0 ≤ val l ∧ val l < 10 ^ l.length := by
  induction l using snoc_ind with
  | h0 => simp [val]
  | h1 l b ih =>
    have ih := ih fun x hx => h x (List.mem_append_left _ hx)
    have hb := h b (by simp)
    obtain ⟨h1, h2⟩ := hb
    rw [val_snoc, List.length_append, List.length_singleton, Int.pow_succ]
    omega
theorem val_pos {l : List UInt8} (h : ∀ b ∈ l, dig b) (h0 : l[0]? ≠ some 48) (hl : 1 ≤ l.length) : 1 ≤ val l := by
  induction l using snoc_ind with
  | h0 => simp at hl
  | h1 l b ih =>
    have hd := h b (by simp)
    obtain ⟨h1, h2⟩ := hd
    rw [val_snoc]
    cases l with
    | nil =>
      have : b.toNat ≠ 48 := fun e => h0 (by simp; exact UInt8.toNat_inj.1 e)
      simp [val]; omega
    | cons x r =>
      have := ih (fun y hy => h y (List.mem_append_left _ hy)) (by simpa using h0) (by simp)
      omega
theorem wrap_b (z : UInt8) : IntKind.wrap .i64 ((z.toNat : Int) - 48) = (z.toNat : Int) - 48 := by
  have := z.toNat_lt
  exact IntWalk.i64_in _ (by omega)
theorem pow7 {n : Nat} (h : n ≤ 7) : (10 : Int) ^ n ≤ 10000000 := by
  have : n = 0 ∨ n = 1 ∨ n = 2 ∨ n = 3 ∨ n = 4 ∨ n = 5 ∨ n = 6 ∨ n = 7 := by omega
  rcases this with h | h | h | h | h | h | h | h <;> subst h <;> decide
theorem number_ok (s : List UInt8) : Ok (Sh.todo_number s) fun r => (r.2 = true ↔ numOk s) ∧ (numOk s → r.1 = val s) := by
  unfold Sh.todo_number
  simp only [ok_jn, ok_if, ok_gd, ok_lt, ok_bd, ok_some, ok_at]
  have no : ¬ numOk s → (((0 : Int), false).2 = true ↔ numOk s) ∧ (numOk s → ((0 : Int), false).1 = val s) := fun h => ⟨⟨fun q => (by cases q), fun q => absurd q h⟩, fun q => absurd q h⟩
  refine ⟨fun h => ⟨fun _ => no fun q => by have := q.1; simp [h] at this, fun h => absurd trivial h⟩, fun hne => ⟨fun h7 => ⟨fun _ => no fun q => by have := q.2.1; omega, fun h => absurd trivial h⟩, fun h7 => ?_⟩⟩
  have hl : 1 ≤ s.length := List.length_pos_iff.2 hne
  obtain ⟨z, hz⟩ := at_get (l := s) (i := 0) (by omega) (by omega)
  refine ⟨by omega, z, hz, fun h => no fun q => q.2.2.1 ?_, fun h => ⟨by omega, ?_⟩⟩
  · have : z = 48 := (byte_eq (n := 48) (by decide)).1 (by simpa using h)
    rw [← this]; exact hz
  have h48 : s[0]? ≠ some 48 := fun e => h (by
    have e' : s[(0 : Int).toNat]? = some 48 := e
    rw [hz] at e'; cases e'; rfl)
  refine ok_iter (I := fun t => 0 ≤ t.2 ∧ t.2 ≤ s.length ∧ (∀ b ∈ s.take t.2.toNat, dig b) ∧ t.1 = val (s.take t.2.toNat)) (μ := fun t => (s.length - t.2).toNat) ?_ ⟨by simp, by simp, by simp, by simp [val]⟩
  rintro ⟨n, i⟩ ⟨i0, i1, i2, i3⟩
  dsimp only at i0 i1 i2 i3 ⊢
  have hb := val_bound i2
  have hp := pow7 (n := (s.take i.toNat).length) (by rw [List.length_take]; omega)
  simp only [ok_jn, ok_if, ok_up, ok_bd, ok_gd, ok_lt, ok_go, ok_some, ok_at, wrap_b]
  refine ⟨fun hi => ?_, fun hi => ?_⟩
  · obtain ⟨b, hb'⟩ := at_get (l := s) i0 hi
    have hmem : b ∈ s := List.mem_of_getElem? hb'
    refine ⟨i0, b, hb', fun h1 => ⟨fun _ => no fun q => by have := (q.2.2.2.1 b hmem).1; omega, fun h => absurd trivial h⟩, fun h1 => ⟨fun h2 => no fun q => by have := (q.2.2.2.1 b hmem).2; simp at h2; omega, fun h2 => ?_⟩⟩
    simp at h2
    refine ⟨⟨by omega, by omega⟩, ⟨by omega, by omega⟩, ⟨by omega, by omega⟩, ⟨by omega, by omega⟩, ⟨by omega, by omega, fun x hx => ?_, ?_⟩, by omega⟩
    · rw [take_snoc i0 hb'] at hx
      rcases List.mem_append.1 hx with q | q
      · exact i2 x q
      · rw [List.mem_singleton.1 q]; exact ⟨by omega, by omega⟩
    · rw [take_snoc i0 hb', val_snoc, i3]
  · have e : s.take i.toNat = s := by rw [show i.toNat = s.length by omega, List.take_length]
    rw [e] at i2 i3
    refine ⟨?_, fun _ => i3⟩
    simp only [decide_eq_true_eq]
    exact ⟨fun q => ⟨hl, by omega, h48, i2, by omega⟩, fun q => by have := q.2.2.2.2; omega⟩
def rewordW : List UInt8 := [114, 101, 119, 111, 114, 100]
theorem isV_re : isV [114, 101, 119, 111, 114, 100] = true := by decide
/-- a line as a step, or why it is none -/
def stepS (x : List UInt8) : TodoStep × Int :=
  if trL (rs x) = [] then (⟨[], 0, []⟩, 2)
  else if isV (wd x) = false then (⟨[], 0, []⟩, 5)
  else if ¬ numOk (wd (trL (rs x))) then (⟨[], 0, []⟩, 1)
  else if wd x = rewordW then
    if (rs (trL (rs x))).length < 2 then (⟨[], 0, []⟩, 2)
    else if 257 < (rs (trL (rs x))).length then (⟨[], 0, []⟩, 4)
    else (⟨wd x, val (wd (trL (rs x))), (rs (trL (rs x))).drop 1⟩, 0)
  else if trL (rs (trL (rs x))) = [] then (⟨wd x, val (wd (trL (rs x))), []⟩, 0)
  else (⟨[], 0, []⟩, 2)
theorem wd_no : ∀ {s : List UInt8}, 32 ∉ s → wd s = s ∧ rs s = []
  | [], _ => ⟨rfl, rfl⟩
  | x :: r, h => by
    have hx : x ≠ 32 := fun e => h (by simp [e])
    obtain ⟨h1, h2⟩ := wd_no (s := r) fun e => h (List.mem_cons_of_mem _ e)
    unfold wd rs at *
    rw [List.takeWhile_cons, List.dropWhile_cons]
    simp [hx, h1, h2]
theorem wd_at : ∀ {a : List UInt8} (b : List UInt8), 32 ∉ a → wd (a ++ 32 :: b) = a ∧ rs (a ++ 32 :: b) = 32 :: b
  | [], b, _ => by simp [wd, rs]
  | x :: r, b, h => by
    have hx : x ≠ 32 := fun e => h (by simp [e])
    obtain ⟨h1, h2⟩ := wd_at (a := r) b fun e => h (List.mem_cons_of_mem _ e)
    unfold wd rs at *
    rw [List.cons_append, List.takeWhile_cons, List.dropWhile_cons]
    simp [hx, h1, h2]
theorem cut_ok {s : List UInt8} (hs : s.length ≤ 100000000) : Sh.todo_cut s = some (wd s, trL (rs s)) := by
  apply Ok.eq
  unfold Sh.todo_cut
  rw [sindex_ok, Option.bind_some]
  by_cases h : (32 : UInt8) ∈ s
  · obtain ⟨a, b, e, ha⟩ := split_mem h
    subst e
    obtain ⟨h1, h2⟩ := wd_at b ha
    have hl : (a ++ 32 :: b).length = a.length + b.length + 1 := by simp; omega
    rw [ix_at b ha, h1, h2]
    simp only [ok_if, ok_gd, ok_lt, ok_bd, ok_some]
    refine ⟨fun h => by omega, fun _ => ⟨⟨by omega, by omega⟩, ⟨by omega, by omega⟩, Ok.of (trimL_ok _) ?_⟩⟩
    simp
  · obtain ⟨h1, h2⟩ := wd_no h
    rw [ix_no h, h1, h2, if_pos (by decide), ok_some]
    rfl
theorem scut_ok {s : List UInt8} (hs : s.length ≤ 100000000) : Sh.strings_Cut s [32] = some (wd s, (rs s).drop 1, decide (rs s ≠ [])) := by
  apply Ok.eq
  unfold Sh.strings_Cut Sh.internal_stringslite_Cut
  rw [index_ok, Option.bind_some]
  by_cases h : (32 : UInt8) ∈ s
  · obtain ⟨a, b, e, ha⟩ := split_mem h
    subst e
    obtain ⟨h1, h2⟩ := wd_at b ha
    have hl : (a ++ 32 :: b).length = a.length + b.length + 1 := by simp; omega
    rw [ix_at b ha, h1, h2]
    simp only [ok_if, ok_gd, ok_lt, ok_bd, ok_some]
    refine ⟨fun _ => ⟨⟨by omega, by omega⟩, ⟨by simp; omega, by simp; omega⟩, ⟨by simp; omega, by simp; omega⟩, ?_⟩, fun h => by omega⟩
    simp only [List.length_cons, List.length_nil]
    rw [show ((a.length : Int) + ((0 + 1 : Nat) : Int)).toNat = a.length + 1 by omega]
    simp
  · obtain ⟨h1, h2⟩ := wd_no h
    rw [ix_no h, h1, h2, if_neg (by decide), ok_bd, ok_some, ok_some]
    rfl
theorem trL_drop1 (s : List UInt8) : trL ((rs s).drop 1) = trL (rs s) := by
  by_cases h : (32 : UInt8) ∈ s
  · obtain ⟨a, b, e, ha⟩ := split_mem h
    subst e
    rw [(wd_at b ha).2]; simp [trL]
  · rw [(wd_no h).2]; rfl
theorem line_ok {x : List UInt8} (hs : x.length ≤ 100000000) : Sh.todo_line x = some (stepS x) := by
  apply Ok.eq
  unfold Sh.todo_line
  have l1 := rs_len x
  have l2 := trL_len (rs x)
  have l3 := rs_len (trL (rs x))
  rw [cut_ok hs, Option.bind_some, ok_bd]
  refine (trim_ok (by dsimp only; omega)).mono fun t ht => ?_
  dsimp only at ht ⊢
  rw [trL_idem] at ht
  obtain ⟨vb, hv⟩ := verb_ok (wd x)
  simp only [ok_if, ok_bd, ok_some, hv, scut_ok (s := trL (rs x)) (by omega)]
  refine ⟨fun h => ?_, fun h => ⟨fun h1 => ?_, fun h1 => ?_⟩⟩
  · simp [stepS, ht.1 h]
  · have : isV (wd x) = false := by simpa using h1
    simp [stepS, mt ht.2 h, this]
  · have hV : ¬ isV (wd x) = false := by simpa using h1
    have hT := mt ht.2 h
    refine (number_ok _).mono fun n hn => ⟨fun h2 => ?_, fun h2 => ?_⟩
    · have : ¬ numOk (wd (trL (rs x))) := fun q => by have := hn.1.2 q; simp [this] at h2
      simp [stepS, hT, hV, this]
    · have hN : numOk (wd (trL (rs x))) := hn.1.1 (by simpa using h2)
      have hval := hn.2 hN
      simp only [ok_jn, ok_if, ok_bd, ok_some, decide_eq_true_eq]
      refine ⟨fun hr => ?_, fun hr => ?_⟩
      · refine ⟨fun he => ⟨fun _ => ?_, fun q => absurd trivial q⟩, fun he => ⟨fun hd => ?_, fun hd => ⟨fun hm => ?_, fun hm => ?_⟩⟩⟩
        · have : rs (trL (rs x)) = [] := by simpa using he
          simp [stepS, hT, hV, isV_re, hN, rewordW, hr, this]
        · have hd' : (rs (trL (rs x))).length < 2 := by have := congrArg List.length hd; simp at this; omega
          simp [stepS, hT, hV, isV_re, hN, rewordW, hr, hd']
        · have hd' : ¬ (rs (trL (rs x))).length < 2 := fun q => hd (List.drop_eq_nil_of_le (by omega))
          have hm' : 257 < (rs (trL (rs x))).length := by simp at hm; omega
          simp [stepS, hT, hV, isV_re, hN, rewordW, hr, hd', hm']
        · have hd' : ¬ (rs (trL (rs x))).length < 2 := fun q => hd (List.drop_eq_nil_of_le (by omega))
          have hm' : ¬ 257 < (rs (trL (rs x))).length := by simp at hm; omega
          simp [stepS, hT, hV, isV_re, hN, rewordW, hr, hd', hm', hval]
      · refine (trim_ok (by simp; omega)).mono fun u hu => ?_
        rw [trL_drop1] at hu
        refine ⟨fun q => ?_, fun q => ?_⟩
        · have := hu.1 q
          simp [stepS, hT, hV, isV_re, hN, rewordW, hr, this, hval]
        · have := mt hu.2 q
          simp [stepS, hT, hV, isV_re, hN, rewordW, hr, this]
theorem stepS_err (x : List UInt8) : (stepS x).2 = 0 ∨ (1 ≤ (stepS x).2 ∧ (stepS x).2 ≤ 5) := by
  unfold stepS
  repeat' split
  all_goals simp
def lineW : List UInt8 := [108, 105, 110, 101]
/-- lines as steps, from one on; or which is none, and why -/
def pS : Int → List TodoStep → List (List UInt8) → List TodoStep × Option (Int × Int)
  | _, out, [] => (out, none)
  | i, out, y :: r =>
    if trL y = [] ∨ (trL y)[0]? = some 35 then pS (i + 1) out r
    else if (stepS (trL y)).2 ≠ 0 then ([], some (i, (stepS (trL y)).2))
    else if out.length = 32 then ([], some (32, 4))
    else pS (i + 1) (out ++ [(stepS (trL y)).1]) r
def errS : Option (Int × Int) → Err
  | none => .nil
  | some (i, e) => .fault lineW i (.no e)
theorem pS_err : ∀ (l : List (List UInt8)) (i : Int) (out : List TodoStep) (a e : Int), 0 ≤ i → (pS i out l).2 = some (a, e) → 0 ≤ a ∧ a ≤ i + l.length + 32 ∧ 1 ≤ e ∧ e ≤ 5
  | [], i, out, a, e, _, h => by simp [pS] at h
  | y :: r, i, out, a, e, h, hq => by
    unfold pS at hq
    simp only [List.length_cons]
    split at hq
    · have := pS_err r (i + 1) out a e (by omega) hq
      omega
    · split at hq
      · next h2 =>
        have := stepS_err (trL y)
        simp at hq
        rcases this with q | q
        · exact absurd q h2
        · omega
      · split at hq
        · simp at hq; omega
        · have := pS_err r (i + 1) (out ++ [(stepS (trL y)).1]) a e (by omega) hq
          omega
theorem pS_len : ∀ (l : List (List UInt8)) (i : Int) (out : List TodoStep), (pS i out l).1.length ≤ out.length + l.length
  | [], i, out => by simp [pS]
  | y :: r, i, out => by
    unfold pS
    have h1 := pS_len r (i + 1) out
    have h2 := pS_len r (i + 1) (out ++ [(stepS (trL y)).1])
    rw [List.length_append] at h2
    simp only [List.length_cons, List.length_nil] at h2 ⊢
    split
    · omega
    · split
      · simp
      · split
        · simp
        · omega
def parseS (s : List UInt8) : List TodoStep × Option (Int × Int) := pS 0 [] (spl 10 s)
theorem parse_ok {s : List UInt8} (hs : s.length ≤ 100000000) : Sh.todo_Parse s = some ((parseS s).1, errS (parseS s).2) := by
  apply Ok.eq
  unfold Sh.todo_Parse parseS
  rw [split_ok 10 (by omega), Option.bind_some]
  have hpart := spl_part 10 s
  have hlen := spl_len 10 s
  have hcnt : s.count 10 ≤ s.length := List.count_le_length
  generalize spl 10 s = L at *
  refine ok_iter (I := fun t => 0 ≤ t.2 ∧ t.2 ≤ L.length ∧ pS t.2 t.1 (L.drop t.2.toNat) = pS 0 [] L ∧ t.1.length ≤ t.2) (μ := fun t => (L.length - t.2).toNat) ?_ ⟨by simp, by simp, by simp, by simp⟩
  rintro ⟨o, i⟩ ⟨i0, i1, i2, i3⟩
  dsimp only at i0 i1 i2 i3 ⊢
  simp only [ok_if, ok_up, ok_bd, ok_gd, ok_lt, ok_go, ok_some, ok_at]
  refine ⟨fun hi => ?_, fun hi => ?_⟩
  · obtain ⟨y, hy⟩ := at_get (l := L) i0 hi
    have hyl := hpart y (List.mem_of_getElem? hy)
    have hd := drop_cons i0 hy
    have htl := trL_len y
    rw [hd, pS] at i2
    refine ⟨i0, y, hy, Ok.of (trimL_ok y) ⟨fun h => ?_, fun h => ?_⟩⟩
    · rw [if_pos (.inl h)] at i2
      exact ⟨⟨by omega, by omega⟩, ⟨by omega, by omega, i2, by omega⟩, by omega⟩
    · obtain ⟨b, hb⟩ := at_get (l := trL y) (i := 0) (by omega) (by have := List.length_pos_iff.2 h; omega)
      have hb' : (trL y)[0]? = some b := hb
      refine ⟨by omega, b, hb, fun h35 => ?_, fun h35 => ?_⟩
      · have : b = 35 := (byte_eq (n := 35) (by decide)).1 h35
        rw [if_pos (.inr (by rw [hb', this]))] at i2
        exact ⟨⟨by omega, by omega⟩, ⟨by omega, by omega, i2, by omega⟩, by omega⟩
      · have hn : ¬ (trL y = [] ∨ (trL y)[0]? = some 35) := fun q => q.elim h fun e => h35 (by rw [hb'] at e; cases e; rfl)
        rw [if_neg hn] at i2
        refine Ok.of (line_ok (by omega)) ⟨fun he => ⟨fun h32 => ?_, fun h32 => ?_⟩, fun he => ?_⟩
        · rw [if_neg (by simpa using he), if_pos (by omega)] at i2
          rw [← i2]; rfl
        · rw [if_neg (by simpa using he), if_neg (by omega)] at i2
          refine ⟨by simp; omega, ⟨by omega, by omega⟩, ⟨by omega, by omega, i2, by simp; omega⟩, by omega⟩
        · rw [if_pos he] at i2
          rw [← i2]; rfl
  · rw [List.drop_eq_nil_of_le (by omega), pS] at i2
    rw [clip_step, ok_some, ← i2]; rfl
/-- a step in words -/
def tailT (x : TodoStep) : List UInt8 := if x.verb = rewordW then 32 :: x.text else []
def lineT (x : TodoStep) : List UInt8 := x.verb ++ 32 :: (itoaS x.commit ++ tailT x)
def textS : List TodoStep → List UInt8
  | [] => []
  | x :: r => lineT x ++ 10 :: textS r
theorem textS_snoc (x : TodoStep) : ∀ l, textS (l ++ [x]) = textS l ++ (lineT x ++ [10])
  | [] => by simp [textS]
  | y :: l => by simp [textS, textS_snoc x l]
/-- small enough -/
def Sml (x : TodoStep) : Prop := x.verb.length ≤ 1048576 ∧ x.text.length ≤ 1048576 ∧ I64 x.commit
theorem lineT_len {x : TodoStep} (h : Sml x) : (lineT x).length ≤ 2100000 := by
  obtain ⟨h1, h2, _⟩ := h
  have := itoaS_len x.commit
  unfold lineT tailT
  split <;> simp <;> omega
theorem textS_len : ∀ {l : List TodoStep}, (∀ x ∈ l, Sml x) → (textS l).length ≤ 2100001 * l.length
  | [], _ => by simp [textS]
  | x :: r, h => by
    have := textS_len fun y hy => h y (List.mem_cons_of_mem _ hy)
    have := lineT_len (h x (List.mem_cons_self ..))
    simp [textS]; omega
theorem text_ok {l : List TodoStep} (hs : ∀ x ∈ l, Sml x) (hl : l.length ≤ 1000) : Sh.todo_Text l = some (textS l) := by
  apply Ok.eq
  unfold Sh.todo_Text
  refine ok_iter (I := fun t => 0 ≤ t.1 ∧ t.1 ≤ l.length ∧ t.2 = textS (l.take t.1.toNat)) (μ := fun t => (l.length - t.1).toNat) ?_ ⟨by simp, by simp, by simp [textS]⟩
  rintro ⟨i, a⟩ ⟨i0, i1, i2⟩
  dsimp only at i0 i1 i2 ⊢
  have hlen := textS_len (l := l.take i.toNat) fun x hx => hs x (List.mem_of_mem_take hx)
  rw [← i2, List.length_take] at hlen
  simp only [ok_if, ok_up, ok_bd, ok_gd, ok_lt, ok_go, ok_some, ok_at]
  refine ⟨fun hi => ?_, fun hi => ?_⟩
  · obtain ⟨x, hx⟩ := at_get (l := l) i0 hi
    obtain ⟨s1, s2, s3⟩ := hs x (List.mem_of_getElem? hx)
    have := itoaS_len x.commit
    refine ⟨i0, x, hx, by simp; omega, s3, by simp; omega, by simp; omega, fun hr => ?_, fun hr => ?_⟩
    · refine ⟨by simp; omega, by simp; omega, by simp; omega, ⟨by omega, by omega⟩, ⟨by omega, by omega, ?_⟩, by omega⟩
      rw [take_snoc i0 hx, textS_snoc, i2]; simp [lineT, tailT, rewordW, hr]
    · refine ⟨by simp; omega, ⟨by omega, by omega⟩, ⟨by omega, by omega, ?_⟩, by omega⟩
      rw [take_snoc i0 hx, textS_snoc, i2]; simp [lineT, tailT, rewordW, hr]
  · rw [i2, show i.toNat = l.length by omega, List.take_length]
/-- digits are so -/
theorem d48 {k : Nat} (h : k < 10) : ((UInt8.ofNat (48 + k)).toNat : Int) = 48 + k := by
  simp [UInt8.toNat_ofNat']; omega
theorem dec_facts (u : Nat) (h : 1 ≤ u) : (∀ b ∈ Lib.decDigits u, dig b) ∧ val (Lib.decDigits u) = u ∧ (Lib.decDigits u)[0]? ≠ some 48 ∧ 1 ≤ (Lib.decDigits u).length := by
  induction u using Nat.strongRecOn with
  | _ u ih =>
    rw [Lib.decDigits]
    by_cases h10 : u < 10
    · rw [dif_pos h10]
      have := d48 h10
      refine ⟨fun b hb => ?_, ?_, ?_, by simp⟩
      · rw [List.mem_singleton.1 hb]; exact ⟨by omega, by omega⟩
      · simp only [val, List.foldl_cons, List.foldl_nil]; omega
      · intro e
        simp only [List.getElem?_cons_zero, Option.some.injEq] at e
        rw [e] at this
        have e2 : ((48 : UInt8).toNat : Int) = 48 := rfl
        omega
    · rw [dif_neg h10]
      obtain ⟨a1, a2, a3, a4⟩ := ih (u / 10) (by omega) (by omega)
      have := d48 (k := u % 10) (by omega)
      refine ⟨fun b hb => ?_, ?_, ?_, by simp⟩
      · rcases List.mem_append.1 hb with q | q
        · exact a1 b q
        · rw [List.mem_singleton.1 q]; exact ⟨by omega, by omega⟩
      · rw [val_snoc, a2]; omega
      · rw [List.getElem?_append_left (by omega)]; exact a3
theorem itoa_facts {c : Int} (h1 : 1 ≤ c) (h2 : c ≤ 1000000) : numOk (itoaS c) ∧ val (itoaS c) = c ∧ (∀ b ∈ itoaS c, dig b) := by
  have e : itoaS c = Lib.decDigits c.toNat := by rw [itoaS_eq ⟨by omega, by omega⟩, Lib.itoa, if_neg (by omega)]
  obtain ⟨a1, a2, a3, a4⟩ := dec_facts c.toNat (by omega)
  have hl : (Lib.decDigits c.toNat).length ≤ 7 := by
    rw [← decF_eq 6 c.toNat (by omega)]; exact decF_len 7 _
  rw [e]
  refine ⟨⟨a4, hl, a3, a1, by omega⟩, by omega, a1⟩
theorem verb_facts : ∀ v ∈ verbsL, (10 : UInt8) ∉ v ∧ (32 : UInt8) ∉ v ∧ v ≠ [] ∧ v[0]? ≠ some 35 := by decide
/-- a step that a text can have -/
def Good21 (x : TodoStep) : Prop := isV x.verb = true ∧ 1 ≤ x.commit ∧ x.commit ≤ 1000000 ∧ (x.verb = rewordW → x.text ≠ [] ∧ x.text.length ≤ 256 ∧ (10 : UInt8) ∉ x.text)
/-- .. as it comes back -/
def norm (x : TodoStep) : TodoStep := ⟨x.verb, x.commit, if x.verb = rewordW then x.text else []⟩
theorem dig_not {l : List UInt8} (h : ∀ b ∈ l, dig b) : (10 : UInt8) ∉ l ∧ (32 : UInt8) ∉ l := ⟨fun q => by have := (h _ q).1; simp at this, fun q => by have := (h _ q).1; simp at this⟩
theorem line_facts {x : TodoStep} (h : Good21 x) : (10 : UInt8) ∉ lineT x ∧ trL (lineT x) = lineT x ∧ lineT x ≠ [] ∧ (lineT x)[0]? ≠ some 35 ∧ stepS (lineT x) = (norm x, 0) := by
  obtain ⟨hv, h1, h2, hr⟩ := h
  have hvm : x.verb ∈ verbsL := of_decide_eq_true hv
  obtain ⟨v1, v2, v3, v4⟩ := verb_facts _ hvm
  obtain ⟨n1, n2, n3⟩ := itoa_facts h1 h2
  obtain ⟨d1, d2⟩ := dig_not n3
  obtain ⟨b, r, hb⟩ := List.exists_cons_of_ne_nil v3
  have hb32 : b ≠ 32 := fun e => v2 (by rw [hb, e]; simp)
  have hwd := wd_at (a := x.verb) (itoaS x.commit ++ tailT x) v2
  have hit : trL (32 :: (itoaS x.commit ++ tailT x)) = itoaS x.commit ++ tailT x := by
    have hne : itoaS x.commit ≠ [] := fun e => by have := n1.1; rw [e] at this; simp at this
    obtain ⟨c, q, hc⟩ := List.exists_cons_of_ne_nil hne
    have hc32 : c ≠ 32 := fun e => d2 (by rw [hc, e]; simp)
    rw [hc]
    simp [trL, hc32]
  have hwd2 : wd (itoaS x.commit ++ tailT x) = itoaS x.commit ∧ rs (itoaS x.commit ++ tailT x) = tailT x := by
    unfold tailT
    split
    · exact wd_at _ d2
    · rw [List.append_nil]; exact wd_no d2
  refine ⟨?_, ?_, ?_, ?_, ?_⟩
  · unfold lineT tailT
    intro q
    rcases List.mem_append.1 q with q | q
    · exact v1 q
    · rcases List.mem_cons.1 q with q | q
      · exact absurd q (by decide)
      · rcases List.mem_append.1 q with q | q
        · exact d1 q
        · split at q
          · next hw =>
            rcases List.mem_cons.1 q with q | q
            · exact absurd q (by decide)
            · exact (hr hw).2.2 q
          · cases q
  · unfold lineT
    rw [hb]
    simp [trL, hb32]
  · unfold lineT; simp
  · unfold lineT
    rw [hb]
    rw [hb] at v4
    simpa using v4
  · unfold stepS lineT
    rw [hwd.1, hwd.2, hit, hwd2.1, hwd2.2, n2]
    have hne : ¬ (itoaS x.commit ++ tailT x = []) := fun e => by
      have := n1.1
      have e2 := congrArg List.length e
      rw [List.length_append, List.length_nil] at e2
      omega
    rw [if_neg hne, if_neg (by rw [hv]; simp), if_neg (by simpa using n1)]
    unfold norm tailT
    by_cases hw : x.verb = rewordW
    · obtain ⟨t1, t2, t3⟩ := hr hw
      have := List.length_pos_iff.2 t1
      simp only [hw, if_true, List.length_cons]
      rw [if_neg (by omega), if_neg (by omega)]
      simp
    · simp only [hw, if_false]
      rw [if_pos (by rfl)]
theorem spl_text : ∀ {l : List TodoStep}, (∀ x ∈ l, Good21 x) → spl 10 (textS l) = l.map lineT ++ [[]]
  | [], _ => rfl
  | x :: r, h => by
    rw [textS, spl_at _ (line_facts (h x (List.mem_cons_self ..))).1, spl_text fun y hy => h y (List.mem_cons_of_mem _ hy)]
    rfl
theorem pS_text : ∀ {l : List TodoStep} (i : Int) (out : List TodoStep), (∀ x ∈ l, Good21 x) → out.length + l.length ≤ 32 → pS i out (l.map lineT ++ [[]]) = (out ++ l.map norm, none)
  | [], i, out, _, _ => by simp [pS, trL]
  | x :: r, i, out, h, hl => by
    obtain ⟨_, f2, f3, f4, f5⟩ := line_facts (h x (List.mem_cons_self ..))
    simp only [List.length_cons] at hl
    rw [List.map_cons, List.cons_append, pS, f2, if_neg (fun q => q.elim f3 f4), f5]
    rw [if_neg (by simp), if_neg (by omega), pS_text (i + 1) _ (fun y hy => h y (List.mem_cons_of_mem _ hy)) (by simp; omega)]
    simp
theorem back_ok {l : List TodoStep} (h : ∀ x ∈ l, Good21 x) (hl : l.length ≤ 32) : parseS (textS l) = (l.map norm, none) := by
  unfold parseS
  rw [spl_text h, pS_text 0 [] h (by simpa using hl)]
  simp
end Go.S
end

section
/- Plain law on steps between remarks: TodoLines. No program in sight. -/
namespace Go.S
open Go
theorem known21l : Sh.rectolaw21_known = some true := by decide +kernel
def keep (y : List UInt8) : Bool := !decide (trL y = [] ∨ (trL y)[0]? = some 35)
/-- as pS, without places -/
def qS : List TodoStep → List (List UInt8) → List TodoStep × Bool
  | out, [] => (out, true)
  | out, y :: r => if (stepS (trL y)).2 ≠ 0 then ([], false) else if out.length = 32 then ([], false) else qS (out ++ [(stepS (trL y)).1]) r
theorem pS_qS : ∀ (l : List (List UInt8)) (i : Int) (out : List TodoStep), ((pS i out l).1, (pS i out l).2.isNone) = qS out (l.filter keep)
  | [], i, out => rfl
  | y :: r, i, out => by
    rw [pS]
    by_cases h : trL y = [] ∨ (trL y)[0]? = some 35
    · rw [if_pos h, List.filter_cons_of_neg (by simp [keep, h]), pS_qS r]
    · rw [if_neg h, List.filter_cons_of_pos (by simp only [keep, h, decide_false, Bool.not_false]), qS]
      by_cases h1 : (stepS (trL y)).2 ≠ 0
      · rw [if_pos h1, if_pos h1]; rfl
      · rw [if_neg h1, if_neg h1]
        by_cases h2 : out.length = 32
        · rw [if_pos h2, if_pos h2]; rfl
        · rw [if_neg h2, if_neg h2, pS_qS r]
theorem spl_app (c : UInt8) (b : List UInt8) : ∀ a, spl c (a ++ c :: b) = spl c a ++ spl c b
  | [] => by simp [spl]
  | x :: r => by
    have ih := spl_app c b r
    by_cases h : x = c
    · simp [spl, h, ih]
    · obtain ⟨y, l, e⟩ := List.exists_cons_of_ne_nil (spl_ne c r)
      rw [e] at ih
      simp [spl, h, ih, e]
/-- the lines that count -/
def kept (u : List UInt8) : List (List UInt8) := (spl 10 u).filter keep
def Nl (u : List UInt8) : Prop := u = [] ∨ ∃ a, u = a ++ [10]
theorem kept_nil : kept [] = [] := by decide +kernel
theorem kept_app {u : List UInt8} (h : Nl u) (b : List UInt8) : kept (u ++ b) = kept u ++ kept b := by
  rcases h with rfl | ⟨a, rfl⟩
  · rw [kept_nil]; rfl
  · have h1 : kept (a ++ [10] ++ b) = kept a ++ kept b := by
      rw [List.append_assoc, List.singleton_append]
      unfold kept
      rw [spl_app, List.filter_append]
    have h2 : kept (a ++ [10]) = kept a ++ kept [] := by
      unfold kept
      rw [spl_app, List.filter_append]
    rw [h1, h2, kept_nil, List.append_nil]
theorem Nl.app {u b : List UInt8} (_ : Nl u) (hb : ∃ a, b = a ++ [10]) : Nl (u ++ b) := by
  obtain ⟨a, rfl⟩ := hb
  exact .inr ⟨u ++ a, by rw [List.append_assoc]⟩
theorem textS_app : ∀ (a b : List TodoStep), textS (a ++ b) = textS a ++ textS b
  | [], b => rfl
  | x :: r, b => by simp [textS, textS_app r b]
theorem textS_one (x : TodoStep) : textS [x] = lineT x ++ [10] := rfl
theorem textS_nl : ∀ (l : List TodoStep), Nl (textS l)
  | [] => .inl rfl
  | x :: r => by
    rcases textS_nl r with h | ⟨a, h⟩
    · exact .inr ⟨lineT x, by simp [textS, h]⟩
    · exact .inr ⟨lineT x ++ 10 :: a, by simp [textS, h]⟩
theorem errS_nil (o : Option (Int × Int)) : (errS o).isNil = o.isNone := by
  cases o <;> rfl
/-- texts whose lines that count are the same are read the same, but for the place of a fault -/
theorem parse_kept {s t : List UInt8} (h : kept s = kept t) : (parseS s).1 = (parseS t).1 ∧ (errS (parseS s).2).isNil = (errS (parseS t).2).isNil := by
  have h1 := pS_qS (spl 10 s) 0 []
  have h2 := pS_qS (spl 10 t) 0 []
  unfold kept at h
  rw [h, ← h2] at h1
  rw [errS_nil, errS_nil]
  exact Prod.mk.inj h1
theorem drop_cl {α : Type} {x : List α} {i : Nat} {z : α} (hz : x[i]? = some z) : x.drop i = z :: x.drop (i + 1) := by
  obtain ⟨h, rfl⟩ := List.getElem?_eq_some_iff.1 hz
  exact List.drop_eq_getElem_cons h
theorem todoLines_ok (l : List TodoStep) (at' : List UInt8) (hI : ∀ x ∈ l, x.verb.length ≤ 1048576 ∧ x.text.length ≤ 1048576 ∧ I64 x.commit) : Sh.rectolaw21_TodoLines l at' = some true := by
  apply Ok.eq
  unfold Sh.rectolaw21_TodoLines
  rw [known21l, Option.bind_some, if_neg (by simp)]
  refine ok_jnP (fun x => x = false → l.length ≤ 20 ∧ l.length ≤ at'.length) ?_ ?_
  · intro x hx
    simp only [ok_if, ok_some]
    refine ⟨fun _ => trivial, fun hxf => ?_⟩
    obtain ⟨hl, ha⟩ := hx (by simpa using hxf)
    refine ok_iter (I := fun t => 0 ≤ t.2 ∧ t.2 ≤ l.length ∧ (t.1.length : Int) ≤ t.2 * 3000000 ∧ Nl t.1 ∧ kept t.1 = kept (textS (l.take t.2.toNat))) (μ := fun t => (l.length - t.2).toNat) ?_ ⟨by simp, by simp, by simp, .inl rfl, by simp [textS]⟩
    rintro ⟨s, i⟩ ⟨i0, i1, i2, i3, i4⟩
    dsimp only at i0 i1 i2 i3 i4 ⊢
    simp only [ok_if, ok_up]
    refine ⟨fun hi => ?_, fun hi => ?_⟩
    · obtain ⟨x, hx⟩ := at_get (l := l) i0 hi
      obtain ⟨z, hz⟩ := at_get (l := at') (i := i) i0 (by omega)
      have hxs := hI x (List.mem_of_getElem? hx)
      have hone : ∀ y ∈ [x], Sml y := fun y hy => by rw [List.mem_singleton.1 hy]; exact hxs
      have hol := textS_len hone
      rw [ok_bd, ok_at]
      refine ⟨i0, x, hx, ?_⟩
      simp only [ok_if, ok_up, ok_some]
      refine ⟨fun _ => trivial, fun _ => ?_⟩
      refine ok_jnP (fun u => (u.length : Int) ≤ i * 3000000 + 100 ∧ Nl u ∧ kept u = kept (textS (l.take i.toNat))) ?_ ?_
      · rintro u ⟨u1, u2, u3⟩
        have hd : (l.drop i.toNat).take ((i + 1).toNat - i.toNat) = [x] := by
          rw [show (i + 1).toNat - i.toNat = 1 by omega, drop_cl hx]; rfl
        simp only [ok_gd, ok_lt]
        refine ⟨⟨by omega, by omega⟩, ⟨by omega, by omega, by omega⟩, ?_⟩
        rw [hd, text_ok hone (by simp), Option.bind_some]
        simp only [List.length_singleton] at hol
        simp only [ok_gd, ok_lt, ok_go]
        refine ⟨by omega, ⟨by omega, by omega⟩, ⟨by omega, by omega, ?_, u2.app ⟨_, textS_one x⟩, ?_⟩, by omega⟩
        · rw [List.length_append, Int.add_mul]; omega
        · rw [kept_app u2, u3, take_snoc i0 hx, textS_app, kept_app (textS_nl _)]
      · intro K hK
        have noise : ∀ b : List UInt8, b.length ≤ 100 → (∃ a, b = a ++ [10]) → kept b = [] → Ok (K (s ++ b)) _ := fun b b1 b2 b3 =>
          hK (s ++ b) ⟨by rw [List.length_append]; omega, i3.app b2, by rw [kept_app i3, b3, List.append_nil, i4]⟩
        rw [ok_bd, ok_at]
        refine ⟨i0, z, hz, ?_⟩
        simp only [ok_gd, ok_if, ok_lt]
        refine ⟨⟨by omega, by omega⟩, fun _ => ⟨by simp; omega, noise _ (by decide) ⟨[], rfl⟩ (by decide +kernel)⟩, fun _ => ⟨fun _ => ⟨by simp; omega, noise _ (by decide) ⟨[35, 32, 112, 105, 99, 107, 32, 57], rfl⟩ (by decide +kernel)⟩, fun _ => ⟨fun _ => ⟨by simp; omega, noise _ (by decide) ⟨[32, 32, 32, 10, 32, 32, 35, 32, 120], rfl⟩ (by decide +kernel)⟩, fun _ => hK s ⟨by omega, i3, i4⟩⟩⟩⟩
    · rw [List.take_of_length_le (by omega)] at i4
      have hall : ∀ y ∈ l, Sml y := hI
      have hT := textS_len hall
      obtain ⟨h1, h2⟩ := parse_kept i4
      rw [parse_ok (by omega), Option.bind_some, text_ok hall (by omega), Option.bind_some, parse_ok (by omega), Option.bind_some]
      rw [h1, h2]
      refine ok_jnP (fun _ => True) ?_ ?_
      · intro u _
        simp only [ok_if, ok_some]
        refine ⟨fun _ => by simp, fun _ => ⟨fun hq => ?_, fun hq => absurd trivial hq⟩⟩
        have hpl := pS_len (spl 10 (textS l)) 0 []
        have hsl := spl_len 10 (textS l)
        have hcl : (textS l).count 10 ≤ (textS l).length := List.count_le_length
        have hb : ((parseS (textS l)).1.length : Int) ≤ 1000000000 := by
          unfold parseS
          simp only [List.length_nil] at hpl
          omega
        rw [eqloop (fun z w => z.verb = w.verb ∧ z.commit = w.commit ∧ z.text = w.text) (fun z w => by cases z; cases w; simp) _ _ rfl hb _ fun i => rfl]
        simp [ok_some]
      · intro K hK
        simp only [ok_if]
        exact ⟨fun _ => hK _ trivial, fun _ => hK _ trivial⟩
  · intro K hK
    simp only [ok_if]
    refine ⟨fun _ => hK _ fun h => (by cases h), fun h => hK _ fun q => ?_⟩
    simp at q
    omega
end Go.S
end
