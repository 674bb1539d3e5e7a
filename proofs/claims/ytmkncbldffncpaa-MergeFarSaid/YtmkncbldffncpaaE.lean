/- Part of the proofs of: Whatever texts a base and two heirs are, the merge keeps one side's edits, its parts, its marks and its turning: MergeSides, MergeParts, MergeMarked and MergeTurned answer true at every input. No condition. -/
import Derived.Test.YtmkncbldffncpaaRows
import Derived.ProofKit
import Derived.OpenShut
import Derived.Test.YtmkncbldffncpaaD
set_option linter.unusedVariables false
set_option linter.unusedSimpArgs false
set_option linter.unusedSectionVars false
section
set_option linter.unusedVariables false
namespace Go.Proofs.Ytmkncbldffncpaa
open Go.RowKit Go.V
open Go.S hiding Str
theorem mixed2 : Try.prog.follows .mixedOrders = true := by kernel_rfl
theorem gszb : (Try.prog.info? 44).map (·.size) = some 2 := by kernel_rfl
theorem gappb : ((Try.prog.info? 5).map fun i => (i.size, i.bytes, i.zero)) = some (1, 1, some (.int .u8 0)) := by kernel_rfl
theorem gfa44_0 : FieldAt Try.prog 44 0 0 := fieldAt_sz (n := 0) (f := ⟨_, _, 0, _, _, _, _⟩) Try.underlying44 rfl (by kernel_rfl)
theorem gfa44_1 : FieldAt Try.prog 44 1 1 := fieldAt_sz (n := 0) (f := ⟨_, _, 1, _, _, _, _⟩) Try.underlying44 rfl (by kernel_rfl)
theorem gone42 : OneCell Try.prog 42 := oneCell_of Try.underlying42 rfl
theorem gone40 : OneCell Try.prog 40 := oneCell_of Try.underlying40 rfl
theorem gsz42 : (Try.prog.info? 42).map (·.size) = some 1 := by kernel_rfl
theorem gsz40 : (Try.prog.info? 40).map (·.size) = some 1 := by kernel_rfl
theorem glit9 : ((Try.prog.info? 9).map fun i => (i.size, i.zero.isSome)) = some (1, true) := by kernel_rfl
theorem gapp9 : ((Try.prog.info? 9).map fun i => (i.size, i.bytes, (i.zero.map fun z => z.cells.size))) = some (1, 16, some 1) := by kernel_rfl
theorem gsz9 : (Try.prog.info? 9).map (·.size) = some 1 := by kernel_rfl
theorem gsz34 : (Try.prog.info? 34).map (·.size) = some 5 := by kernel_rfl
theorem gagg34 : AggOf Try.prog 34 5 := aggOf_of Try.underlying34 rfl (by kernel_rfl)
theorem gfa34_3 : FieldAt Try.prog 34 3 3 := fieldAt_sz (n := 0) (f := ⟨_, _, 3, _, _, _, _⟩) Try.underlying34 rfl (by kernel_rfl)
theorem gone4 : OneCell Try.prog 4 := oneCell_of Try.underlying4 rfl
theorem gfa34_1 : FieldAt Try.prog 34 1 1 := fieldAt_sz (n := 0) (f := ⟨_, _, 1, _, _, _, _⟩) Try.underlying34 rfl (by kernel_rfl)
theorem gone28 : OneCell Try.prog 28 := oneCell_of Try.underlying28 rfl
theorem gfa34_2 : FieldAt Try.prog 34 2 2 := fieldAt_sz (n := 0) (f := ⟨_, _, 2, _, _, _, _⟩) Try.underlying34 rfl (by kernel_rfl)
theorem gfa34_4 : FieldAt Try.prog 34 4 4 := fieldAt_sz (n := 0) (f := ⟨_, _, 4, _, _, _, _⟩) Try.underlying34 rfl (by kernel_rfl)
theorem gone9 : OneCell Try.prog 9 := oneCell_of Try.underlying9 rfl
theorem gfa34_0 : FieldAt Try.prog 34 0 0 := fieldAt_sz (n := 0) (f := ⟨_, _, 0, _, _, _, _⟩) Try.underlying34 rfl (by kernel_rfl)
theorem glit5 : ((Try.prog.info? 5).map fun i => (i.size, i.zero.isSome)) = some (1, true) := by kernel_rfl
theorem join0_ct (s : Sv Str) {r : Str} (hS : Sh.strings_Join0 s.l = some r) : Ct Try.prog 34 [s.val, str []] s.ok Ow.emp (X := Unit) (fun _ => str r) (fun _ => True) (fun _ => Mo.tt) (fun _ => Ow.emp) := by
  obtain ⟨⟨h1, h2⟩, hS⟩ := gd_s hS
  cases hS
  exact join_ct s h1 h2
theorem chunks2_ct (a b d : Sv Str) {r : List P.Chunk × Unit} (hS : Sh.merge_Chunks a.l b.l d.l = some r) :
    Ct Try.prog 11 [a.val, b.val, d.val] (a.ok.and (b.ok.and d.ok)) Ow.emp (X := Sv Ck) (fun q => .tuple #[q.val, .nilIface]) (fun q => r = (q.l.map Ck.pl, ())) (fun q => q.ok) (fun _ => Ow.emp) := by
  obtain ⟨⟨h1, h2, h3⟩, hS⟩ := gd_s hS
  cases hS
  exact (chunks_ct a b d h1 h2 h3).weak (fun _ h => h) fun q hq => by rw [hq]
set_option maxRecDepth 100000 in
theorem copyCheck_ct (b : Nat) (p u : Value) (hp : p = .pointer none ∨ p = ptr b 0) (hu : u.oneCell' = true) : Ct Try.prog 32 [ptr b 0] Mo.tt (Blk b [p, u] 44) (X := Unit) (fun _ => .tuple #[]) (fun _ => True) (fun _ => Mo.tt) (fun _ => Blk b [ptr b 0, u] 44) := by
  refine Ct.of Try.func32 rfl (by kernel_rfl) Try.ntmps32 (by simp) fun c => ?_
  rcases hp with rfl | rfl
  · refine VC.seq ?_
    refine VC.region ?_
    refine VL.q (q_move rfl) (by decide) ?_
    refine VL.q (q_nilCheck rfl) (by decide) ?_
    refine VL.q (q_field gfa44_0 rfl) (by decide) ?_
    refine VL.q (q_fe gone42 rfl rfl) (by decide) ?_
    refine VL.q (q_peqn Try.underlying42 rfl) (by decide) ?_
    refine VL.to (fun _ _ h => h) ?_
    refine VC.cond_t rfl ?_
    refine VC.region ?_
    refine VL.q (q_move rfl) (by decide) ?_
    refine VL.q (q_move rfl) (by decide) ?_
    refine VL.q (q_tou (n := 1) Try.underlying42 Try.underlying71 gszb rfl (by simp)) (by decide) ?_
    refine VL.q (q_noEscape Try.func40 rfl rfl (by kernel_rfl) (by kernel_rfl) rfl) (by decide) ?_
    refine VL.q (q_fromu (n := 2) (cs := [.pointer none, u]) Try.underlying71 Try.underlying42 gszb rfl (by kernel_rfl)) (by decide) ?_
    refine VL.q (q_nilCheck rfl) (by decide) ?_
    refine VL.q (q_field gfa44_0 rfl) (by decide) ?_
    refine VL.store (vc := [ptr b 0]) (cs' := [ptr b 0, u]) rfl rfl rfl gsz42 rfl rfl (Nat.le_of_ble_eq_true rfl) rfl ?_
    exact VL.nil (fin0 (.inl rfl) rfl () rfl trivial (fun _ _ => trivial) (by exact EntO.out))
  · refine VC.seq ?_
    refine VC.region ?_
    refine VL.q (q_move rfl) (by decide) ?_
    refine VL.q (q_nilCheck rfl) (by decide) ?_
    refine VL.q (q_field gfa44_0 rfl) (by decide) ?_
    refine VL.q (q_fe gone42 rfl rfl) (by decide) ?_
    refine VL.q (q_peqn Try.underlying42 rfl) (by decide) ?_
    refine VL.to (fun _ _ h => h) ?_
    refine VC.cond_f rfl ?_
    refine VC.seq ?_
    refine VC.region ?_
    refine VL.q (q_move rfl) (by decide) ?_
    refine VL.q (q_nilCheck rfl) (by decide) ?_
    refine VL.q (q_field gfa44_0 rfl) (by decide) ?_
    refine VL.q (q_fe gone42 rfl rfl) (by decide) ?_
    refine VL.q (q_move rfl) (by decide) ?_
    refine VL.q (q_pne Try.underlying42 gszb rfl rfl) (by decide) ?_
    refine VL.to (fun _ _ h => h) ?_
    refine VC.cond_f rfl ?_
    exact VC.skip (fin0 (.inl rfl) rfl () rfl trivial (fun _ _ => trivial) (by exact EntO.out))

set_option maxRecDepth 100000 in
theorem writeString_ct (b : Nat) (l s : Str) (hb : l.length + s.length ≤ 4294967296) : Ct Try.prog 17 [ptr b 0, str s] Mo.tt (Bd 44 5 b l) (X := Unit) (fun _ => .tuple #[i64 s.length, .nilIface]) (fun _ => True) (fun _ => Mo.tt) (fun _ => Bd 44 5 b (l ++ s)) := by
  refine Ct.monoE (E1 := fun z => ∃ q : Value × Sv UInt8, ((q.1 = .pointer none ∨ q.1 = ptr b 0) ∧ q.2.l = l ∧ (q.2.c = 0 → q.2.a = none)) ∧ Ow.star (Blk b [q.1, q.2.val] 44) (q.2.own 5) z) (Ct.exE (entry_of Try.func17 rfl (by kernel_rfl)) ?_) (fun z ⟨p, q, h1, h2, h3, h4⟩ => ⟨(p, q), ⟨h1, h2, h3⟩, h4⟩)
  rintro ⟨p, q⟩ ⟨hp, hl, hc⟩
  dsimp only at hp hl hc ⊢
  refine Ct.of Try.func17 rfl (by kernel_rfl) Try.ntmps17 (by simp) fun c => ?_
  refine VC.seq ?_
  refine VC.region ?_
  refine VL.q (q_assign rfl) (by decide) ?_
  refine VL.q (q_assign rfl) (by decide) ?_
  refine VL.to (fun _ _ h => h) ?_
  refine VC.seq ?_
  refine VC.region ?_
  refine VL.q (q_move rfl) (by decide) ?_
  refine VL.callO (copyCheck_ct b p q.val hp rfl) rfl (by decide) ?_
  rintro _ _
  refine VL.to (fun _ _ h => h) ?_
  refine VC.seq ?_
  refine VC.region ?_
  refine VL.q (q_move rfl) (by decide) ?_
  refine VL.q (q_move rfl) (by decide) ?_
  refine VL.q (q_nilCheck rfl) (by decide) ?_
  refine VL.q (q_field gfa44_1 rfl) (by decide) ?_
  refine VL.q (q_fe gone40 rfl rfl) (by decide) ?_
  refine VL.q (q_move rfl) (by decide) ?_
  refine VL.appS (s := q) (r := s) Try.underlying40 Try.underlying9 gappb rfl Fo.out (by rw [hl]; exact hb) (by decide) fun q2 hq2 hc2 => ?_
  refine VL.q (q_nilCheck rfl) (by decide) ?_
  refine VL.q (q_field gfa44_1 rfl) (by decide) ?_
  refine VL.store (vc := [q2.val]) (cs' := [ptr b 0, q2.val]) rfl rfl rfl gsz40 rfl rfl (Nat.le_of_ble_eq_true rfl) rfl ?_
  refine VL.to (fun _ _ h => h) ?_
  refine VC.seq ?_
  refine VC.region ?_
  refine VL.q (q_move rfl) (by decide) ?_
  refine VL.q (q_slen Try.underlying9 rfl) (by decide) ?_
  refine VL.q (q_assign rfl) (by decide) ?_
  refine VL.q (q_assign rfl) (by decide) ?_
  refine VL.to (fun _ _ h => h) ?_
  exact VC.ret (fin2 (.inr rfl) rfl rfl rfl () rfl trivial (fun _ _ => trivial) (fun z hz => Bd.mk (p := ptr b 0) (s := q2) (.inr rfl) (by rw [hq2, hl]) (hc2 hc) ((EntO.out (E' := Ow.star (Blk b [ptr b 0, q2.val] 44) (q2.own 5))) z hz)))

set_option maxRecDepth 100000 in
theorem string_ct (b : Nat) (l : Str) : Ct Try.prog 20 [ptr b 0] Mo.tt (Bd 44 5 b l) (X := Unit) (fun _ => str l) (fun _ => True) (fun _ => Mo.tt) (fun _ => Ow.emp) := by
  refine Ct.monoE (E1 := fun z => ∃ q : Value × Sv UInt8, ((q.1 = .pointer none ∨ q.1 = ptr b 0) ∧ q.2.l = l ∧ (q.2.c = 0 → q.2.a = none)) ∧ Ow.star (Blk b [q.1, q.2.val] 44) (q.2.own 5) z) (Ct.exE (entry_of Try.func20 rfl (by kernel_rfl)) ?_) (fun z ⟨p, q, h1, h2, h3, h4⟩ => ⟨(p, q), ⟨h1, h2, h3⟩, h4⟩)
  rintro ⟨p, q⟩ ⟨hp, rfl, hc⟩
  dsimp only at hp hc ⊢
  refine Ct.of Try.func20 rfl (by kernel_rfl) Try.ntmps20 (by simp) fun c => ?_
  refine VC.seq ?_
  refine VC.region ?_
  refine VL.q (q_assign rfl) (by decide) ?_
  refine VL.to (fun _ _ h => h) ?_
  refine VC.seq ?_
  refine VC.draw [(0, true), (1, true), (2, true), (3, true), (4, true), (5, true), (6, true), (7, true), (8, true), (9, true), (10, false), (11, true)] mixed (by kernel_rfl) (by kernel_rfl) (by kernel_rfl) ?_
  refine VD.q rfl (q_move rfl) (by decide) ?_
  refine VD.q rfl (q_nilCheck rfl) (by decide) ?_
  refine VD.q rfl (q_field gfa44_1 rfl) (by decide) ?_
  refine VD.q rfl (q_fe gone40 rfl rfl) (by decide) ?_
  refine VD.q rfl (q_sdata (s := q) rfl hc) (by decide) ?_
  refine VD.q rfl (q_move rfl) (by decide) ?_
  refine VD.q rfl (q_nilCheck rfl) (by decide) ?_
  refine VD.q rfl (q_field gfa44_1 rfl) (by decide) ?_
  refine VD.q rfl (q_fe gone40 rfl rfl) (by decide) ?_
  refine VD.q rfl (q_ln (s := q) Try.underlying40 rfl) (by decide) ?_
  refine VD.one rfl ?_
  refine VL.ustr (s := q) (e := 5) rfl Fo.out (by decide) (fun w h z o l k m => St.ustr (e := 5) Try.underlying63 (by kernel_rfl) o l k m) ?_
  refine VL.back (D' := []) (by kernel_rfl) Pend.nil ?_
  refine VD.q rfl (q_assign rfl) (by decide) ?_
  refine VD.to (fun _ _ h => h) ?_
  exact VC.ret (fin1 (.inr rfl) rfl rfl () rfl trivial (fun _ _ => trivial) (fun _ _ => trivial))

set_option maxHeartbeats 4000000 in
set_option maxRecDepth 100000 in
theorem slices_Clip_string_string_ct (s_0 : Sv Str) {r : List Str} (hS : Sh.slices_Clip_string_string s_0.l = some r) :
    Ct Try.prog 24 [s_0.val] s_0.ok (Ow.emp) (X := Sv Str) (fun x => x.val) (fun x => r = x.l) (fun x => x.ok) (fun x => Ow.emp) := by
  refine Ct.of Try.func24 rfl (by kernel_rfl) Try.ntmps24 (by simp) fun c => ?_
  unfold Sh.slices_Clip_string_string at hS
  refine VC.seq ?_
  refine VC.region ?_
  refine VL.q (q_assign rfl) (by decide) ?_
  refine VL.to (fun _ _ h => h) ?_
  refine VC.seq ?_
  refine VC.region ?_
  refine VL.q (q_move rfl) (by decide) ?_
  refine VL.q (q_move rfl) (by decide) ?_
  refine VL.q (q_ln (s := s_0) Try.underlying28 rfl) (by decide) ?_
  refine VL.q (q_move rfl) (by decide) ?_
  refine VL.q (q_ln (s := s_0) Try.underlying28 rfl) (by decide) ?_
  obtain ⟨b8, hS⟩ := gd_s hS
  refine VL.stom Try.underlying28 gsz9 rfl rfl rfl b8.1 (b8.2) (by decide) fun s8_1 hs8_1 => ?_
  replace hS := lt_to hs8_1 hS
  refine VL.q (q_assign rfl) (by decide) ?_
  refine VL.to (fun _ _ h => h) ?_
  cases hS
  exact VC.ret (fin1 (.inr rfl) rfl rfl s8_1 rfl rfl (by (try dsimp only); exact InM.out) (fun _ _ => trivial))

set_option maxHeartbeats 4000000 in
set_option maxRecDepth 100000 in
theorem lines_Split_ct (s_0 : Str) {r : List Str} (hS : Sh.lines_Split s_0 = some r) :
    Ct Try.prog 16 [str s_0] Mo.tt (Ow.emp) (X := Sv Str) (fun x => x.val) (fun x => r = x.l) (fun x => x.ok) (fun x => Ow.emp) := by
  refine Ct.of Try.func16 rfl (by kernel_rfl) Try.ntmps16 (by simp) fun c => ?_
  unfold Sh.lines_Split at hS
  refine VC.seq ?_
  refine VC.region ?_
  refine VL.q (q_assign rfl) (by decide) ?_
  refine VL.to (fun _ _ h => h) ?_
  refine VC.seq ?_
  refine VC.region ?_
  refine VL.q (q_assign rfl) (by decide) ?_
  refine VL.to (fun _ _ h => h) ?_
  refine VC.seq ?_
  refine VC.block ?_
  refine VC.nilO (⟨none, 0, []⟩ : Sv Str) 9 ⟨rfl, rfl⟩ ?_
  refine VC.iter (S := Str × Sv Str) (fun sg => (sg.1, sg.2.l)) (fun sg => [(0, str sg.1), (3, sg.2.val)]) (fun sg => Mo.tt) (fun sg => Ow.star (Sv.own sg.2 9) (Ow.emp)) (s_0, ⟨none, 0, []⟩) [0, 3] hS rfl ?_
  clear hS
  rintro ⟨s0_1, out3_2⟩ m1 y1 hS hK1
  show VC _ _ _ _ _ [(0, str s0_1), (3, out3_2.val)] (Mo.and Mo.tt _) (Ow.star (Sv.own out3_2 9) (Ow.emp))
  refine VC.seq ?_
  refine VC.seq ?_
  refine VC.region ?_
  refine VL.q (q_move rfl) (by decide) ?_
  refine VL.q (q_sne rfl rfl) (by decide) ?_
  refine VL.to (fun _ _ h => h) ?_
  refine VC.cond_ndec rfl (fun h6 => ?_) (fun h6 => ?_)
  ·
    replace hS := it_f h6 hS
    refine VC.skip_to (fun _ _ h => h) ?_
    refine VC.block ?_
    refine VC.seq ?_
    refine VC.region ?_
    refine VL.q (q_move rfl) (by decide) ?_
    refine VL.q (q_call (index_ct s0_1) rfl (fun _ _ => rfl)) (by decide) ?_
    refine VL.q (q_assign rfl) (by decide) ?_
    refine VL.to (fun _ _ h => h) ?_
    refine VC.cutJ (S := Int) (fun (i4_3 : Int) => i4_3) (fun (i4_3 : Int) => [(0, str s0_1), (3, out3_2.val), (4, i64 i4_3)]) (fun (i4_3 : Int) => Mo.tt) (fun (i4_3 : Int) => Ow.star (Sv.own out3_2 9) (Ow.emp)) hS ?_ ?_
    · -- up to where ways meet
      clear hS
      intro k4 hS
      refine VC.seq ?_
      refine VC.region ?_
      refine VL.q (q_move rfl) (by decide) ?_
      refine VL.q (q_lss rfl rfl) (by decide) ?_
      refine VL.to (fun _ _ h => h) ?_
      refine VC.cond_dec rfl (fun h10 => ?_) (fun h10 => ?_)
      ·
        replace hS := it_t h10 hS
        refine VC.region ?_
        refine VL.q (q_move rfl) (by decide) ?_
        refine VL.q (q_slen Try.underlying9 rfl) (by decide) ?_
        obtain ⟨b13, hS⟩ := gd_s hS
        refine VL.q (q_sub rfl rfl b13) (by decide) ?_
        refine VL.q (q_assign rfl) (by decide) ?_
        refine VL.mt ((s0_1.length : Int) - 1) [0, 3, 4] (fun _ _ h => h) hS rfl
      ·
        replace hS := it_f h10 hS
        refine VC.skip_mt (Lib.indexByte s0_1 10) [0, 3, 4] (fun _ _ h => h) hS rfl
    · -- from there
      clear hS
      rintro i4_3 hS
      show VC _ _ _ _ _ [(0, str s0_1), (3, out3_2.val), (4, i64 i4_3)] (Mo.and Mo.tt _) (Ow.star (Sv.own out3_2 9) (Ow.emp))
      refine VC.seq ?_
      refine VC.region ?_
      refine VL.q (q_move rfl) (by decide) ?_
      refine VL.q (q_move rfl) (by decide) ?_
      refine VL.q (q_move rfl) (by decide) ?_
      obtain ⟨b17, hS⟩ := gd_s hS
      refine VL.q (q_add rfl rfl b17) (by decide) ?_
      obtain ⟨b18, hS⟩ := gd_s hS
      obtain ⟨y18_5, ey18_5, hS⟩ := lt_s hS
      refine VL.q (q_stoE Try.underlying9 rfl rfl b18.1 b18.2 ey18_5) (by decide) ?_
      refine VL.lit (α := Str) (xs := [.tmp 18]) (vs := [str y18_5]) [y18_5] Try.underlying28 glit9 (by decide) rfl rfl rfl rfl (by decide) (fun _ _ _ _ => trivial) (by decide) (fun s19_6 hs19_6 => ?_) (by decide)
      replace hS := lt_to hs19_6 hS
      obtain ⟨b20, hS⟩ := gd_s hS
      refine VL.app (s := out3_2) (r := s19_6) Try.underlying28 gapp9 (by decide) rfl Fo.out (ap1 b20) (ap2 b20 (by decide)) (by decide) (fun s20_8 hs20_8 => ?_)
      replace hS := lt_to hs20_8 hS
      refine VL.q (q_assign rfl) (by decide) ?_
      refine VL.to (fun _ _ h => h) ?_
      refine VC.region ?_
      refine VL.q (q_move rfl) (by decide) ?_
      refine VL.q (q_move rfl) (by decide) ?_
      obtain ⟨b23, hS⟩ := gd_s hS
      refine VL.q (q_add rfl rfl b23) (by decide) ?_
      obtain ⟨b24, hS⟩ := gd_s hS
      obtain ⟨y24_10, ey24_10, hS⟩ := lt_s hS
      refine VL.q (q_sfromE Try.underlying9 rfl rfl b24.1 b24.2 ey24_10) (by decide) ?_
      refine VL.q (q_assign rfl) (by decide) ?_
      refine VL.rnd (y24_10, s20_8) [0, 3] (fun _ _ h => h) (go2 hS hK1) rfl
  ·
    replace hS := it_t h6 hS
    replace hS := up2 hS hK1
    refine VC.exit_to (fun _ _ h => h) ?_
    refine VC.seq ?_
    refine VC.region ?_
    refine VL.q (q_move rfl) (by decide) ?_
    refine VL.shut out3_2 9 (fun _ _ _ _ => trivial) ?_
    obtain ⟨y26_11, ey26_11, hS⟩ := bd_s hS
    refine VL.callF (slices_Clip_string_string_ct out3_2 ey26_11) rfl (by decide) ?_
    rintro q26_11_0 rfl
    try dsimp only
    refine VL.q (q_assign rfl) (by decide) ?_
    refine VL.to (fun _ _ h => h) ?_
    cases hS
    exact VC.ret (fin1 (.inr rfl) rfl rfl q26_11_0 rfl rfl (by (try dsimp only); exact InM.out) (fun _ _ => trivial))

set_option maxHeartbeats 4000000 in
set_option maxRecDepth 100000 in
theorem lines_Join_ct (l_0 : Sv Str) {r : Str} (hS : Sh.lines_Join l_0.l = some r) :
    Ct Try.prog 19 [l_0.val] l_0.ok (Ow.emp) (X := Unit) (fun _ => str r) (fun _ => True) (fun _ => Mo.tt) (fun _ => Ow.emp) := by
  refine Ct.of Try.func19 rfl (by kernel_rfl) Try.ntmps19 (by simp) fun c => ?_
  unfold Sh.lines_Join at hS
  refine VC.seq ?_
  refine VC.region ?_
  refine VL.q (q_assign rfl) (by decide) ?_
  refine VL.to (fun _ _ h => h) ?_
  refine VC.seq ?_
  refine VC.region ?_
  refine VL.q (q_move rfl) (by decide) ?_
  obtain ⟨y4_1, ey4_1, hS⟩ := bd_s hS
  refine VL.q (q_call (join0_ct l_0 ey4_1) rfl (fun _ _ => rfl)) (by decide) ?_
  refine VL.q (q_assign rfl) (by decide) ?_
  refine VL.to (fun _ _ h => h) ?_
  cases hS
  exact VC.ret (fin1 (.inr rfl) rfl rfl () rfl trivial (fun _ _ => trivial) (fun _ _ => trivial))

set_option maxHeartbeats 4000000 in
set_option maxRecDepth 100000 in
theorem internal_stringslite_HasSuffix_ct (s_0 : Str) (suffix_1 : Str) {r : Bool} (hS : Sh.internal_stringslite_HasSuffix s_0 suffix_1 = some r) :
    Ct Try.prog 62 [str s_0, str suffix_1] Mo.tt (Ow.emp) (X := Unit) (fun _ => .bool r) (fun _ => True) (fun _ => Mo.tt) (fun _ => Ow.emp) := by
  refine Ct.of Try.func62 rfl (by kernel_rfl) Try.ntmps62 (by simp) fun c => ?_
  unfold Sh.internal_stringslite_HasSuffix at hS
  refine VC.seq ?_
  refine VC.region ?_
  refine VL.q (q_assign rfl) (by decide) ?_
  refine VL.to (fun _ _ h => h) ?_
  refine VC.seq ?_
  refine VC.region ?_
  refine VL.q (q_move rfl) (by decide) ?_
  refine VL.q (q_slen Try.underlying9 rfl) (by decide) ?_
  refine VL.q (q_move rfl) (by decide) ?_
  refine VL.q (q_slen Try.underlying9 rfl) (by decide) ?_
  refine VL.q (q_geq rfl rfl) (by decide) ?_
  refine VL.q (q_move rfl) (by decide) ?_
  refine VL.split_dec 10 rfl (fun h10 => ?_) (fun h10 => ?_)
  ·
    replace hS := it_t h10 hS
    refine VL.gy rfl rfl (q_move rfl) (by decide) ?_
    refine VL.gy rfl rfl (q_move rfl) (by decide) ?_
    refine VL.gy rfl rfl (q_slen Try.underlying9 rfl) (by decide) ?_
    refine VL.gy rfl rfl (q_move rfl) (by decide) ?_
    refine VL.gy rfl rfl (q_slen Try.underlying9 rfl) (by decide) ?_
    obtain ⟨b16, hS⟩ := gd_s hS
    refine VL.gy rfl rfl (q_sub rfl rfl b16) (by decide) ?_
    obtain ⟨b17, hS⟩ := gd_s hS
    obtain ⟨y17_1, ey17_1, hS⟩ := lt_s hS
    refine VL.gy rfl rfl (q_sfromE Try.underlying9 rfl rfl b17.1 b17.2 ey17_1) (by decide) ?_
    refine VL.gy rfl rfl (q_move rfl) (by decide) ?_
    refine VL.gy rfl rfl (q_seq rfl rfl) (by decide) ?_
    refine VL.q (q_pick_t rfl rfl) (by decide) ?_
    refine VL.q (q_assign rfl) (by decide) ?_
    refine VL.to (fun _ _ h => h) ?_
    refine VC.keep [4] rfl ?_
    cases hS
    exact VC.ret (fin1 (.inr rfl) rfl rfl () rfl trivial (fun _ _ => trivial) (fun _ _ => trivial))
  ·
    replace hS := it_f h10 hS
    refine VL.gn rfl rfl rfl (by decide) ?_
    refine VL.gn rfl rfl rfl (by decide) ?_
    refine VL.gn rfl rfl rfl (by decide) ?_
    refine VL.gn rfl rfl rfl (by decide) ?_
    refine VL.gn rfl rfl rfl (by decide) ?_
    refine VL.gn rfl rfl rfl (by decide) ?_
    refine VL.gn rfl rfl rfl (by decide) ?_
    refine VL.gn rfl rfl rfl (by decide) ?_
    refine VL.gn rfl rfl rfl (by decide) ?_
    refine VL.q (q_pick_f rfl rfl) (by decide) ?_
    refine VL.q (q_assign rfl) (by decide) ?_
    refine VL.to (fun _ _ h => h) ?_
    refine VC.keep [4] rfl ?_
    cases hS
    exact VC.ret (fin1 (.inr rfl) rfl rfl () rfl trivial (fun _ _ => trivial) (fun _ _ => trivial))

set_option maxHeartbeats 4000000 in
set_option maxRecDepth 100000 in
theorem strings_HasSuffix_ct (s_0 : Str) (suffix_1 : Str) {r : Bool} (hS : Sh.strings_HasSuffix s_0 suffix_1 = some r) :
    Ct Try.prog 52 [str s_0, str suffix_1] Mo.tt (Ow.emp) (X := Unit) (fun _ => .bool r) (fun _ => True) (fun _ => Mo.tt) (fun _ => Ow.emp) := by
  refine Ct.of Try.func52 rfl (by kernel_rfl) Try.ntmps52 (by simp) fun c => ?_
  unfold Sh.strings_HasSuffix at hS
  refine VC.seq ?_
  refine VC.region ?_
  refine VL.q (q_assign rfl) (by decide) ?_
  refine VL.to (fun _ _ h => h) ?_
  refine VC.seq ?_
  refine VC.region ?_
  refine VL.q (q_move rfl) (by decide) ?_
  refine VL.q (q_move rfl) (by decide) ?_
  obtain ⟨y7_1, ey7_1, hS⟩ := bd_s hS
  refine VL.q (q_call (internal_stringslite_HasSuffix_ct s_0 suffix_1 ey7_1) rfl (fun _ _ => rfl)) (by decide) ?_
  refine VL.q (q_assign rfl) (by decide) ?_
  refine VL.to (fun _ _ h => h) ?_
  cases hS
  exact VC.ret (fin1 (.inr rfl) rfl rfl () rfl trivial (fun _ _ => trivial) (fun _ _ => trivial))

set_option maxHeartbeats 4000000 in
set_option maxRecDepth 100000 in
theorem lines_Whole_ct (s_0 : Str) {r : Bool} (hS : Sh.lines_Whole s_0 = some r) :
    Ct Try.prog 41 [str s_0] Mo.tt (Ow.emp) (X := Unit) (fun _ => .bool r) (fun _ => True) (fun _ => Mo.tt) (fun _ => Ow.emp) := by
  refine Ct.of Try.func41 rfl (by kernel_rfl) Try.ntmps41 (by simp) fun c => ?_
  unfold Sh.lines_Whole at hS
  refine VC.seq ?_
  refine VC.region ?_
  refine VL.q (q_assign rfl) (by decide) ?_
  refine VL.to (fun _ _ h => h) ?_
  refine VC.seq ?_
  refine VC.region ?_
  refine VL.q (q_move rfl) (by decide) ?_
  refine VL.q (q_seq rfl rfl) (by decide) ?_
  refine VL.q (q_move rfl) (by decide) ?_
  refine VL.split_dec 5 rfl (fun h5 => ?_) (fun h5 => ?_)
  ·
    replace hS := it_t h5 hS
    refine VL.gn rfl rfl rfl (by decide) ?_
    refine VL.gn rfl rfl rfl (by decide) ?_
    refine VL.q (q_pick_t rfl rfl) (by decide) ?_
    refine VL.q (q_assign rfl) (by decide) ?_
    refine VL.to (fun _ _ h => h) ?_
    cases hS
    exact VC.ret (fin1 (.inr rfl) rfl rfl () rfl trivial (fun _ _ => trivial) (fun _ _ => trivial))
  ·
    replace hS := it_f h5 hS
    refine VL.gy rfl rfl (q_move rfl) (by decide) ?_
    obtain ⟨y7_1, ey7_1, hS⟩ := bd_s hS
    refine VL.gy rfl rfl (q_call (strings_HasSuffix_ct s_0 [10] ey7_1) rfl (fun _ _ => rfl)) (by decide) ?_
    refine VL.q (q_pick_f rfl rfl) (by decide) ?_
    refine VL.q (q_assign rfl) (by decide) ?_
    refine VL.to (fun _ _ h => h) ?_
    cases hS
    exact VC.ret (fin1 (.inr rfl) rfl rfl () rfl trivial (fun _ _ => trivial) (fun _ _ => trivial))

set_option maxHeartbeats 4000000 in
set_option maxRecDepth 100000 in
theorem merge_closed_ct (l_0 : Sv Str) {r : Str} (hS : Sh.merge_closed l_0.l = some r) :
    Ct Try.prog 33 [l_0.val] l_0.ok (Ow.emp) (X := Unit) (fun _ => str r) (fun _ => True) (fun _ => Mo.tt) (fun _ => Ow.emp) := by
  refine Ct.of Try.func33 rfl (by kernel_rfl) Try.ntmps33 (by simp) fun c => ?_
  unfold Sh.merge_closed at hS
  refine VC.seq ?_
  refine VC.region ?_
  refine VL.q (q_assign rfl) (by decide) ?_
  refine VL.to (fun _ _ h => h) ?_
  refine VC.seq ?_
  refine VC.region ?_
  refine VL.q (q_move rfl) (by decide) ?_
  obtain ⟨y5_1, ey5_1, hS⟩ := bd_s hS
  refine VL.q (q_call (lines_Join_ct l_0 ey5_1) rfl (fun _ _ => rfl)) (by decide) ?_
  refine VL.q (q_assign rfl) (by decide) ?_
  refine VL.to (fun _ _ h => h) ?_
  refine VC.seq ?_
  refine VC.seq ?_
  refine VC.region ?_
  refine VL.q (q_move rfl) (by decide) ?_
  obtain ⟨y7_2, ey7_2, hS⟩ := bd_s hS
  refine VL.q (q_call (lines_Whole_ct y5_1 ey7_2) rfl (fun _ _ => rfl)) (by decide) ?_
  refine VL.q (q_not rfl) (by decide) ?_
  refine VL.to (fun _ _ h => h) ?_
  refine VC.cond rfl (fun h8 => ?_) (fun h8 => ?_)
  ·
    replace hS := it_t h8 hS
    refine VC.region ?_
    refine VL.q (q_move rfl) (by decide) ?_
    obtain ⟨b10, hS⟩ := gd_s hS
    obtain ⟨y10_3, ey10_3, hS⟩ := lt_s hS
    refine VL.q (q_catE rfl rfl b10 ey10_3) (by decide) ?_
    refine VL.q (q_assign rfl) (by decide) ?_
    refine VL.to (fun _ _ h => h) ?_
    refine VC.seq ?_
    refine VC.region ?_
    refine VL.q (q_move rfl) (by decide) ?_
    refine VL.q (q_assign rfl) (by decide) ?_
    refine VL.to (fun _ _ h => h) ?_
    refine VC.keep [2] rfl ?_
    cases hS
    exact VC.ret (fin1 (.inr rfl) rfl rfl () rfl trivial (fun _ _ => trivial) (fun _ _ => trivial))
  ·
    replace hS := it_b h8 hS
    refine VC.skip_to (fun _ _ h => h) ?_
    refine VC.seq ?_
    refine VC.region ?_
    refine VL.q (q_move rfl) (by decide) ?_
    refine VL.q (q_assign rfl) (by decide) ?_
    refine VL.to (fun _ _ h => h) ?_
    cases hS
    exact VC.ret (fin1 (.inr rfl) rfl rfl () rfl trivial (fun _ _ => trivial) (fun _ _ => trivial))

set_option maxHeartbeats 4000000 in
set_option maxRecDepth 100000 in
theorem merge_clash_ct (c_0 : Ck) (a_1 : Str) (b_2 : Str) {r : Str} (hS : Sh.merge_clash c_0.pl a_1 b_2 = some r) :
    Ct Try.prog 18 [.agg #[c_0.base.val, c_0.ours.val, c_0.theirs.val, .bool c_0.clash, c_0.out.val], str a_1, str b_2] (c_0.base.ok.and (c_0.ours.ok.and (c_0.theirs.ok.and c_0.out.ok))) (Ow.emp) (X := Unit) (fun _ => str r) (fun _ => True) (fun _ => Mo.tt) (fun _ => Ow.emp) := by
  refine Ct.of Try.func18 rfl (by kernel_rfl) Try.ntmps18 (by simp) fun c => ?_
  unfold Sh.merge_clash at hS
  refine VC.seq ?_
  refine VC.region ?_
  refine VL.box (cs := [c_0.base.val, c_0.ours.val, c_0.theirs.val, .bool c_0.clash, c_0.out.val]) rfl rfl (by decide) fun b3_1 => ?_
  refine VL.q (q_assign rfl) (by decide) ?_
  refine VL.to (fun _ _ h => h) ?_
  refine VC.seq ?_
  refine VC.draw ((List.range 17).map fun k => (k, true)) mixed (by kernel_rfl) (by kernel_rfl) (by kernel_rfl) ?_
  refine VD.q rfl (q_move rfl) (by decide) ?_
  obtain ⟨b8, hS⟩ := gd_s hS
  obtain ⟨y8_2, ey8_2, hS⟩ := lt_s hS
  refine VD.q rfl (q_catE rfl rfl b8 ey8_2) (by decide) ?_
  obtain ⟨b9, hS⟩ := gd_s hS
  obtain ⟨y9_3, ey9_3, hS⟩ := lt_s hS
  refine VD.q rfl (q_catE rfl rfl b9 ey9_3) (by decide) ?_
  refine VD.q rfl (q_field gfa34_1 rfl) (by decide) ?_
  refine VD.q rfl (q_fe gone28 rfl rfl) (by decide) ?_
  obtain ⟨y12_4, ey12_4, hS⟩ := bd_s hS
  refine VD.q rfl (q_call (merge_closed_ct c_0.ours ey12_4) rfl (fun _ _ => rfl)) (by decide) ?_
  obtain ⟨b13, hS⟩ := gd_s hS
  obtain ⟨y13_5, ey13_5, hS⟩ := lt_s hS
  refine VD.q rfl (q_catE rfl rfl b13 ey13_5) (by decide) ?_
  obtain ⟨b14, hS⟩ := gd_s hS
  obtain ⟨y14_6, ey14_6, hS⟩ := lt_s hS
  refine VD.q rfl (q_catE rfl rfl b14 ey14_6) (by decide) ?_
  refine VD.q rfl (q_field gfa34_2 rfl) (by decide) ?_
  refine VD.q rfl (q_fe gone28 rfl rfl) (by decide) ?_
  obtain ⟨y17_7, ey17_7, hS⟩ := bd_s hS
  refine VD.q rfl (q_call (merge_closed_ct c_0.theirs ey17_7) rfl (fun _ _ => rfl)) (by decide) ?_
  obtain ⟨b18, hS⟩ := gd_s hS
  obtain ⟨y18_8, ey18_8, hS⟩ := lt_s hS
  refine VD.q rfl (q_catE rfl rfl b18 ey18_8) (by decide) ?_
  obtain ⟨b19, hS⟩ := gd_s hS
  obtain ⟨y19_9, ey19_9, hS⟩ := lt_s hS
  refine VD.q rfl (q_catE rfl rfl b19 ey19_9) (by decide) ?_
  refine VD.q rfl (q_move rfl) (by decide) ?_
  obtain ⟨b21, hS⟩ := gd_s hS
  obtain ⟨y21_10, ey21_10, hS⟩ := lt_s hS
  refine VD.q rfl (q_catE rfl rfl b21 ey21_10) (by decide) ?_
  obtain ⟨b22, hS⟩ := gd_s hS
  obtain ⟨y22_11, ey22_11, hS⟩ := lt_s hS
  refine VD.q rfl (q_catE rfl rfl b22 ey22_11) (by decide) ?_
  refine VD.q rfl (q_assign rfl) (by decide) ?_
  refine VD.to (fun _ _ h => h) ?_
  refine VC.keep [6] rfl ?_
  cases hS
  exact VC.ret (fin1 (.inr rfl) rfl rfl () rfl trivial (fun _ _ => trivial) (fun _ _ => trivial))

set_option maxHeartbeats 4000000 in
set_option maxRecDepth 100000 in
theorem merge_Text_ct (base_0 : Str) (ours_1 : Str) (theirs_2 : Str) (a_3 : Str) (b_4 : Str) {r : Str × Int × Err} (hS : Sh.merge_Text base_0 ours_1 theirs_2 a_3 b_4 = some r) :
    Ct Try.prog 9 [str base_0, str ours_1, str theirs_2, str a_3, str b_4] Mo.tt (Ow.emp) (X := Str × Int × Er) (fun x => .tuple #[str x.1, i64 x.2.1, x.2.2.val]) (fun x => r = (x.1, x.2.1, x.2.2.pl)) (fun x => x.2.2.ok) (fun x => Ow.emp) := by
  refine Ct.of Try.func9 rfl (by kernel_rfl) Try.ntmps9 (by simp) fun c => ?_
  unfold Sh.merge_Text at hS
  refine VC.seq ?_
  refine VC.region ?_
  refine VL.q (q_assign rfl) (by decide) ?_
  refine VL.q (q_assign rfl) (by decide) ?_
  refine VL.q (q_assign rfl) (by decide) ?_
  refine VL.to (fun _ _ h => h) ?_
  refine VC.seq ?_
  refine VC.region ?_
  refine VL.q (q_move rfl) (by decide) ?_
  obtain ⟨y21_1, ey21_1, hS⟩ := bd_s hS
  refine VL.callF (lines_Split_ct base_0 ey21_1) rfl (by decide) ?_
  rintro q21_1_0 rfl
  try dsimp only
  refine VL.q (q_move rfl) (by decide) ?_
  obtain ⟨y23_2, ey23_2, hS⟩ := bd_s hS
  refine VL.callF (lines_Split_ct ours_1 ey23_2) rfl (by decide) ?_
  rintro q23_2_0 rfl
  try dsimp only
  refine VL.q (q_move rfl) (by decide) ?_
  obtain ⟨y25_3, ey25_3, hS⟩ := bd_s hS
  refine VL.callF (lines_Split_ct theirs_2 ey25_3) rfl (by decide) ?_
  rintro q25_3_0 rfl
  try dsimp only
  obtain ⟨y26_4, ey26_4, hS⟩ := bd_s hS
  refine VL.callF (chunks2_ct q21_1_0 q23_2_0 q25_3_0 ey26_4) rfl (by decide) ?_
  rintro q26_4_0 rfl
  try dsimp only
  refine VL.q (q_move rfl) (by decide) ?_
  refine VL.q (q_extract rfl rfl) (by decide) ?_
  refine VL.q (q_extract rfl rfl) (by decide) ?_
  refine VL.q (q_assign rfl) (by decide) ?_
  refine VL.q (q_assign rfl) (by decide) ?_
  refine VL.to (fun _ _ h => h) ?_
  refine VC.keep [3, 4, 13, 14] rfl ?_
  refine VC.seq ?_
  refine VC.seq ?_
  refine VC.region ?_
  refine VL.q (q_move rfl) (by decide) ?_
  refine VL.q (q_nilne Try.underlying24 rfl) (by decide) ?_
  refine VL.to (fun _ _ h => h) ?_
  refine VC.cond_f rfl ?_
  refine VC.skip_to (fun _ _ h => h) ?_
  refine VC.seq ?_
  refine VC.region ?_
  refine VL.alloc (cs := [.pointer none, .slice none 0 0]) (by kernel_rfl) (by decide) fun b15_5 => ?_
  refine VL.toBd 5 b15_5 ?_
  refine VL.to (fun _ _ h => h) ?_
  refine VC.seq ?_
  refine VC.region ?_
  refine VL.q (q_assign rfl) (by decide) ?_
  refine VL.to (fun _ _ h => h) ?_
  refine VC.seq ?_
  refine VC.seq ?_
  refine VC.region ?_
  refine VL.q (q_move rfl) (by decide) ?_
  refine VL.q (q_lnm Ck.pl (s := q26_4_0) Try.underlying30 rfl) (by decide) ?_
  refine VL.q (q_move rfl) (by decide) ?_
  refine VL.to (fun _ _ h => h) ?_
  refine VC.block ?_
  refine VC.iter (S := Int × Int × Str) (fun sg => (sg.1, sg.2.1, sg.2.2)) (fun sg => [(3, str a_3), (4, str b_4), (15, ptr b15_5 0), (16, i64 sg.1), (32, q26_4_0.val), (33, i64 ((q26_4_0.l.map Ck.pl).length : Int)), (34, i64 sg.2.1)]) (fun sg => Mo.tt) (fun sg => Ow.star (Bd 44 5 b15_5 sg.2.2) (Ow.emp)) (0, 0, []) [3, 4, 15, 16, 32, 33, 34] hS rfl ?_
  clear hS
  rintro ⟨n16_6, x34_7, acc_8⟩ m1 y1 hS hK1
  show VC _ _ _ _ _ [(3, str a_3), (4, str b_4), (15, ptr b15_5 0), (16, i64 n16_6), (32, q26_4_0.val), (33, i64 ((q26_4_0.l.map Ck.pl).length : Int)), (34, i64 x34_7)] (Mo.and Mo.tt _) (Ow.star (Bd 44 5 b15_5 acc_8) (Ow.emp))
  refine VC.seq ?_
  refine VC.region ?_
  refine VL.q (q_lss rfl rfl) (by decide) ?_
  refine VL.to (fun _ _ h => h) ?_
  refine VC.seq ?_
  refine VC.cond_dec rfl (fun h35 => ?_) (fun h35 => ?_)
  ·
    replace hS := it_t h35 hS
    refine VC.skip_to (fun _ _ h => h) ?_
    refine VC.seq ?_
    refine VC.block ?_
    refine VC.seq ?_
    refine VC.region ?_
    obtain ⟨z36_9, nz36_9, hz36_9, hS⟩ := atm_s hS
    refine VL.deep z36_9.m hz36_9 (fun _ q => q) ?_
    refine VL.q (q_ixm (s := q26_4_0) Try.underlying30 gsz34 rfl rfl nz36_9 (lt_of_get nz36_9 hz36_9)) (by decide) ?_
    refine VL.q (q_els (s := q26_4_0) gagg34 rfl rfl hz36_9) (by decide) ?_
    refine VL.alloc (cs := [.slice none 0 0, .slice none 0 0, .slice none 0 0, .bool false, .slice none 0 0]) (by kernel_rfl) (by decide) fun b18_10 => ?_
    refine VL.store (vc := [z36_9.base.val, z36_9.ours.val, z36_9.theirs.val, .bool z36_9.clash, z36_9.out.val]) (cs' := [z36_9.base.val, z36_9.ours.val, z36_9.theirs.val, .bool z36_9.clash, z36_9.out.val]) rfl rfl rfl gsz34 rfl rfl (Nat.le_of_ble_eq_true rfl) rfl ?_
    refine VL.to (fun _ _ h => h) ?_
    refine VC.seq ?_
    refine VC.seq ?_
    refine VC.region ?_
    refine VL.q (q_field gfa34_3 rfl) (by decide) ?_
    refine VL.q (q_fe gone4 rfl rfl) (by decide) ?_
    refine VL.to (fun _ _ h => h) ?_
    refine VC.cond rfl (fun h39 => ?_) (fun h39 => ?_)
    ·
      replace hS := it_t h39 hS
      refine VC.seq ?_
      refine VC.region ?_
      refine VL.q (q_move rfl) (by decide) ?_
      obtain ⟨b41, hS⟩ := gd_s hS
      refine VL.q (q_add rfl rfl b41) (by decide) ?_
      refine VL.q (q_assign rfl) (by decide) ?_
      refine VL.to (fun _ _ h => h) ?_
      refine VC.keep [3, 4, 15, 16, 32, 33, 34, 18] rfl ?_
      refine VC.seq ?_
      refine VC.region ?_
      refine VL.q (q_fes gagg34 rfl rfl) (by decide) ?_
      refine VL.q (q_move rfl) (by decide) ?_
      refine VL.q (q_move rfl) (by decide) ?_
      obtain ⟨y45_11, ey45_11, hS⟩ := bd_s hS
      refine VL.q (q_call (merge_clash_ct z36_9 a_3 b_4 ey45_11) rfl (fun _ _ => rfl)) (by decide) ?_
      obtain ⟨b46, hS⟩ := gd_s hS
      refine VL.callO (writeString_ct b15_5 acc_8 y45_11 b46) rfl (by decide) ?_
      rintro _ _
      obtain ⟨acc46_12, eacc46_12, hS⟩ := lt_s hS
      rw [eacc46_12]
      refine VL.to (fun _ _ h => h) ?_
      refine VC.exit_to (fun _ _ h => h) ?_
      refine VC.region ?_
      obtain ⟨b51, hS⟩ := gd_s hS
      refine VL.q (q_add rfl rfl b51) (by decide) ?_
      refine VL.q (q_move rfl) (by decide) ?_
      refine VL.rnd ((n16_6 + 1), (x34_7 + 1), acc46_12) [3, 4, 15, 16, 32, 33, 34] (fun _ _ h => h) (go2 hS hK1) rfl
    ·
      replace hS := it_b h39 hS
      refine VC.skip_to (fun _ _ h => h) ?_
      refine VC.region ?_
      refine VL.q (q_field gfa34_4 rfl) (by decide) ?_
      refine VL.q (q_fe gone28 rfl rfl) (by decide) ?_
      obtain ⟨y49_13, ey49_13, hS⟩ := bd_s hS
      refine VL.q (q_call (lines_Join_ct z36_9.out ey49_13) rfl (fun _ _ => rfl)) (by decide) ?_
      obtain ⟨b50, hS⟩ := gd_s hS
      refine VL.callO (writeString_ct b15_5 acc_8 y49_13 b50) rfl (by decide) ?_
      rintro _ _
      obtain ⟨acc50_14, eacc50_14, hS⟩ := lt_s hS
      rw [eacc50_14]
      refine VL.to (fun _ _ h => h) ?_
      refine VC.keep [3, 4, 15, 16, 32, 33, 34] rfl ?_
      refine VC.region ?_
      obtain ⟨b51, hS⟩ := gd_s hS
      refine VL.q (q_add rfl rfl b51) (by decide) ?_
      refine VL.q (q_move rfl) (by decide) ?_
      refine VL.rnd (n16_6, (x34_7 + 1), acc50_14) [3, 4, 15, 16, 32, 33, 34] (fun _ _ h => h) (go2 hS hK1) rfl
  ·
    replace hS := it_f h35 hS
    replace hS := up2 hS hK1
    refine VC.exit_to (fun _ _ h => h) ?_
    refine VC.seq ?_
    refine VC.region ?_
    refine VL.callO (string_ct b15_5 acc_8) rfl (by decide) ?_
    rintro _ _
    refine VL.q (q_move rfl) (by decide) ?_
    refine VL.q (q_assign rfl) (by decide) ?_
    refine VL.q (q_assign rfl) (by decide) ?_
    refine VL.q (q_assign rfl) (by decide) ?_
    refine VL.to (fun _ _ h => h) ?_
    refine VC.keep [10, 11, 12] rfl ?_
    cases hS
    exact VC.ret (fin3 (.inr rfl) rfl rfl rfl rfl (acc_8, n16_6, .nil) rfl rfl (by (try dsimp only); exact InM.out) (fun _ _ => trivial))

set_option maxHeartbeats 4000000 in
set_option maxRecDepth 100000 in
theorem internal_stringslite_HasPrefix_ct (s_0 : Str) (prefix_1 : Str) {r : Bool} (hS : Sh.internal_stringslite_HasPrefix s_0 prefix_1 = some r) :
    Ct Try.prog 38 [str s_0, str prefix_1] Mo.tt (Ow.emp) (X := Unit) (fun _ => .bool r) (fun _ => True) (fun _ => Mo.tt) (fun _ => Ow.emp) := by
  refine Ct.of Try.func38 rfl (by kernel_rfl) Try.ntmps38 (by simp) fun c => ?_
  unfold Sh.internal_stringslite_HasPrefix at hS
  refine VC.seq ?_
  refine VC.region ?_
  refine VL.q (q_assign rfl) (by decide) ?_
  refine VL.to (fun _ _ h => h) ?_
  refine VC.seq ?_
  refine VC.region ?_
  refine VL.q (q_move rfl) (by decide) ?_
  refine VL.q (q_slen Try.underlying9 rfl) (by decide) ?_
  refine VL.q (q_move rfl) (by decide) ?_
  refine VL.q (q_slen Try.underlying9 rfl) (by decide) ?_
  refine VL.q (q_geq rfl rfl) (by decide) ?_
  refine VL.q (q_move rfl) (by decide) ?_
  refine VL.split_dec 10 rfl (fun h10 => ?_) (fun h10 => ?_)
  ·
    replace hS := it_t h10 hS
    refine VL.gy rfl rfl (q_move rfl) (by decide) ?_
    refine VL.gy rfl rfl (q_move rfl) (by decide) ?_
    refine VL.gy rfl rfl (q_slen Try.underlying9 rfl) (by decide) ?_
    obtain ⟨b14, hS⟩ := gd_s hS
    obtain ⟨y14_1, ey14_1, hS⟩ := lt_s hS
    refine VL.gy rfl rfl (q_stoE Try.underlying9 rfl rfl b14.1 b14.2 ey14_1) (by decide) ?_
    refine VL.gy rfl rfl (q_move rfl) (by decide) ?_
    refine VL.gy rfl rfl (q_seq rfl rfl) (by decide) ?_
    refine VL.q (q_pick_t rfl rfl) (by decide) ?_
    refine VL.q (q_assign rfl) (by decide) ?_
    refine VL.to (fun _ _ h => h) ?_
    refine VC.keep [4] rfl ?_
    cases hS
    exact VC.ret (fin1 (.inr rfl) rfl rfl () rfl trivial (fun _ _ => trivial) (fun _ _ => trivial))
  ·
    replace hS := it_f h10 hS
    refine VL.gn rfl rfl rfl (by decide) ?_
    refine VL.gn rfl rfl rfl (by decide) ?_
    refine VL.gn rfl rfl rfl (by decide) ?_
    refine VL.gn rfl rfl rfl (by decide) ?_
    refine VL.gn rfl rfl rfl (by decide) ?_
    refine VL.gn rfl rfl rfl (by decide) ?_
    refine VL.q (q_pick_f rfl rfl) (by decide) ?_
    refine VL.q (q_assign rfl) (by decide) ?_
    refine VL.to (fun _ _ h => h) ?_
    refine VC.keep [4] rfl ?_
    cases hS
    exact VC.ret (fin1 (.inr rfl) rfl rfl () rfl trivial (fun _ _ => trivial) (fun _ _ => trivial))

set_option maxHeartbeats 4000000 in
set_option maxRecDepth 100000 in
theorem strings_HasPrefix_ct (s_0 : Str) (prefix_1 : Str) {r : Bool} (hS : Sh.strings_HasPrefix s_0 prefix_1 = some r) :
    Ct Try.prog 28 [str s_0, str prefix_1] Mo.tt (Ow.emp) (X := Unit) (fun _ => .bool r) (fun _ => True) (fun _ => Mo.tt) (fun _ => Ow.emp) := by
  refine Ct.of Try.func28 rfl (by kernel_rfl) Try.ntmps28 (by simp) fun c => ?_
  unfold Sh.strings_HasPrefix at hS
  refine VC.seq ?_
  refine VC.region ?_
  refine VL.q (q_assign rfl) (by decide) ?_
  refine VL.to (fun _ _ h => h) ?_
  refine VC.seq ?_
  refine VC.region ?_
  refine VL.q (q_move rfl) (by decide) ?_
  refine VL.q (q_move rfl) (by decide) ?_
  obtain ⟨y7_1, ey7_1, hS⟩ := bd_s hS
  refine VL.q (q_call (internal_stringslite_HasPrefix_ct s_0 prefix_1 ey7_1) rfl (fun _ _ => rfl)) (by decide) ?_
  refine VL.q (q_assign rfl) (by decide) ?_
  refine VL.to (fun _ _ h => h) ?_
  cases hS
  exact VC.ret (fin1 (.inr rfl) rfl rfl () rfl trivial (fun _ _ => trivial) (fun _ _ => trivial))

set_option maxHeartbeats 4000000 in
set_option maxRecDepth 100000 in
theorem merge_Marked_1_ct (x_0 : Str) {r : Bool} (hS : Sh.merge_Marked_1 x_0 = some r) :
    Ct Try.prog 27 [str x_0] Mo.tt (Ow.emp) (X := Unit) (fun _ => .bool r) (fun _ => True) (fun _ => Mo.tt) (fun _ => Ow.emp) := by
  refine Ct.of Try.func27 rfl (by kernel_rfl) Try.ntmps27 (by simp) fun c => ?_
  unfold Sh.merge_Marked_1 at hS
  refine VC.seq ?_
  refine VC.region ?_
  refine VL.q (q_assign rfl) (by decide) ?_
  refine VL.to (fun _ _ h => h) ?_
  refine VC.seq ?_
  refine VC.region ?_
  refine VL.q (q_move rfl) (by decide) ?_
  obtain ⟨y4_1, ey4_1, hS⟩ := bd_s hS
  refine VL.q (q_call (strings_HasPrefix_ct x_0 [60, 60, 60, 60, 60, 60, 60, 32] ey4_1) rfl (fun _ _ => rfl)) (by decide) ?_
  refine VL.q (q_assign rfl) (by decide) ?_
  refine VL.to (fun _ _ h => h) ?_
  cases hS
  exact VC.ret (fin1 (.inr rfl) rfl rfl () rfl trivial (fun _ _ => trivial) (fun _ _ => trivial))

set_option maxHeartbeats 4000000 in
set_option maxRecDepth 100000 in
theorem slices_IndexFunc_string_string_ct (s_0 : Sv Str) {r : Int} (hS : Sh.slices_IndexFunc_string_string s_0.l = some r) :
    Ct Try.prog 26 [s_0.val, .func (.func 27) #[] #[]] s_0.ok (Ow.emp) (X := Unit) (fun _ => i64 r) (fun _ => True) (fun _ => Mo.tt) (fun _ => Ow.emp) := by
  refine Ct.of Try.func26 rfl (by kernel_rfl) Try.ntmps26 (by simp) fun c => ?_
  unfold Sh.slices_IndexFunc_string_string at hS
  refine VC.seq ?_
  refine VC.region ?_
  refine VL.q (q_assign rfl) (by decide) ?_
  refine VL.to (fun _ _ h => h) ?_
  refine VC.seq ?_
  refine VC.seq ?_
  refine VC.region ?_
  refine VL.q (q_move rfl) (by decide) ?_
  refine VL.q (q_ln (s := s_0) Try.underlying28 rfl) (by decide) ?_
  refine VL.q (q_move rfl) (by decide) ?_
  refine VL.to (fun _ _ h => h) ?_
  refine VC.block ?_
  refine VC.iter (S := Int) (fun (x8_1 : Int) => x8_1) (fun (x8_1 : Int) => [(0, s_0.val), (1, .func (.func 27) #[] #[]), (7, i64 (s_0.l.length : Int)), (8, i64 x8_1)]) (fun (x8_1 : Int) => Mo.tt) (fun (x8_1 : Int) => Ow.emp) 0 [0, 1, 7, 8] hS rfl ?_
  clear hS
  rintro x8_1 m1 y1 hS hK1
  show VC _ _ _ _ _ [(0, s_0.val), (1, .func (.func 27) #[] #[]), (7, i64 (s_0.l.length : Int)), (8, i64 x8_1)] (Mo.and Mo.tt _) (Ow.emp)
  refine VC.seq ?_
  refine VC.region ?_
  refine VL.q (q_lss rfl rfl) (by decide) ?_
  refine VL.to (fun _ _ h => h) ?_
  refine VC.seq ?_
  refine VC.cond_dec rfl (fun h9 => ?_) (fun h9 => ?_)
  ·
    replace hS := it_t h9 hS
    refine VC.skip_to (fun _ _ h => h) ?_
    refine VC.seq ?_
    refine VC.block ?_
    refine VC.seq ?_
    refine VC.region ?_
    refine VL.q (q_move rfl) (by decide) ?_
    refine VL.q (q_assign rfl) (by decide) ?_
    refine VL.to (fun _ _ h => h) ?_
    refine VC.seq ?_
    refine VC.region ?_
    refine VL.q (q_move rfl) (by decide) ?_
    refine VL.q (q_move rfl) (by decide) ?_
    refine VL.q (q_move rfl) (by decide) ?_
    obtain ⟨z14_2, nz14_2, hz14_2, hS⟩ := at_s hS
    refine VL.q (q_ixm (s := s_0) Try.underlying28 gsz9 rfl rfl nz14_2 (lt_of_get nz14_2 hz14_2)) (by decide) ?_
    refine VL.q (q_el (s := s_0) gone9 rfl hz14_2 rfl) (by decide) ?_
    obtain ⟨y16_3, ey16_3, hS⟩ := bd_s hS
    refine VL.q (q_callV (merge_Marked_1_ct z14_2 ey16_3) rfl rfl (fun _ _ => rfl)) (by decide) ?_
    refine VL.to (fun _ _ h => h) ?_
    refine VC.keep [0, 1, 7, 8, 5, 16] rfl ?_
    refine VC.cond rfl (fun h16 => ?_) (fun h16 => ?_)
    ·
      replace hS := it_t h16 hS
      refine VC.seq ?_
      refine VC.region ?_
      refine VL.q (q_move rfl) (by decide) ?_
      refine VL.q (q_assign rfl) (by decide) ?_
      refine VL.to (fun _ _ h => h) ?_
      replace hS := up2 hS hK1
      cases hS
      exact VC.ret (fin1 (.inr rfl) rfl rfl () rfl trivial (fun _ _ => trivial) (fun _ _ => trivial))
    ·
      replace hS := it_b h16 hS
      refine VC.skip_to (fun _ _ h => h) ?_
      refine VC.region ?_
      obtain ⟨b18, hS⟩ := gd_s hS
      refine VL.q (q_add rfl rfl b18) (by decide) ?_
      refine VL.q (q_move rfl) (by decide) ?_
      refine VL.rnd (x8_1 + 1) [0, 1, 7, 8] (fun _ _ h => h) (go2 hS hK1) rfl
  ·
    replace hS := it_f h9 hS
    replace hS := up2 hS hK1
    refine VC.exit_to (fun _ _ h => h) ?_
    refine VC.seq ?_
    refine VC.region ?_
    refine VL.q (q_assign rfl) (by decide) ?_
    refine VL.to (fun _ _ h => h) ?_
    cases hS
    exact VC.ret (fin1 (.inr rfl) rfl rfl () rfl trivial (fun _ _ => trivial) (fun _ _ => trivial))

set_option maxHeartbeats 4000000 in
set_option maxRecDepth 100000 in
theorem merge_Marked_2_ct (x_0 : Str) {r : Bool} (hS : Sh.merge_Marked_2 x_0 = some r) :
    Ct Try.prog 30 [str x_0] Mo.tt (Ow.emp) (X := Unit) (fun _ => .bool r) (fun _ => True) (fun _ => Mo.tt) (fun _ => Ow.emp) := by
  refine Ct.of Try.func30 rfl (by kernel_rfl) Try.ntmps30 (by simp) fun c => ?_
  unfold Sh.merge_Marked_2 at hS
  refine VC.seq ?_
  refine VC.region ?_
  refine VL.q (q_assign rfl) (by decide) ?_
  refine VL.to (fun _ _ h => h) ?_
  refine VC.seq ?_
  refine VC.region ?_
  refine VL.q (q_move rfl) (by decide) ?_
  obtain ⟨y4_1, ey4_1, hS⟩ := bd_s hS
  refine VL.q (q_call (strings_HasPrefix_ct x_0 [62, 62, 62, 62, 62, 62, 62, 32] ey4_1) rfl (fun _ _ => rfl)) (by decide) ?_
  refine VL.q (q_assign rfl) (by decide) ?_
  refine VL.to (fun _ _ h => h) ?_
  cases hS
  exact VC.ret (fin1 (.inr rfl) rfl rfl () rfl trivial (fun _ _ => trivial) (fun _ _ => trivial))

set_option maxHeartbeats 4000000 in
set_option maxRecDepth 100000 in
theorem slices_IndexFunc_string_string_v2_ct (s_0 : Sv Str) {r : Int} (hS : Sh.slices_IndexFunc_string_string_v2 s_0.l = some r) :
    Ct Try.prog 26 [s_0.val, .func (.func 30) #[] #[]] s_0.ok (Ow.emp) (X := Unit) (fun _ => i64 r) (fun _ => True) (fun _ => Mo.tt) (fun _ => Ow.emp) := by
  refine Ct.of Try.func26 rfl (by kernel_rfl) Try.ntmps26 (by simp) fun c => ?_
  unfold Sh.slices_IndexFunc_string_string_v2 at hS
  refine VC.seq ?_
  refine VC.region ?_
  refine VL.q (q_assign rfl) (by decide) ?_
  refine VL.to (fun _ _ h => h) ?_
  refine VC.seq ?_
  refine VC.seq ?_
  refine VC.region ?_
  refine VL.q (q_move rfl) (by decide) ?_
  refine VL.q (q_ln (s := s_0) Try.underlying28 rfl) (by decide) ?_
  refine VL.q (q_move rfl) (by decide) ?_
  refine VL.to (fun _ _ h => h) ?_
  refine VC.block ?_
  refine VC.iter (S := Int) (fun (x8_1 : Int) => x8_1) (fun (x8_1 : Int) => [(0, s_0.val), (1, .func (.func 30) #[] #[]), (7, i64 (s_0.l.length : Int)), (8, i64 x8_1)]) (fun (x8_1 : Int) => Mo.tt) (fun (x8_1 : Int) => Ow.emp) 0 [0, 1, 7, 8] hS rfl ?_
  clear hS
  rintro x8_1 m1 y1 hS hK1
  show VC _ _ _ _ _ [(0, s_0.val), (1, .func (.func 30) #[] #[]), (7, i64 (s_0.l.length : Int)), (8, i64 x8_1)] (Mo.and Mo.tt _) (Ow.emp)
  refine VC.seq ?_
  refine VC.region ?_
  refine VL.q (q_lss rfl rfl) (by decide) ?_
  refine VL.to (fun _ _ h => h) ?_
  refine VC.seq ?_
  refine VC.cond_dec rfl (fun h9 => ?_) (fun h9 => ?_)
  ·
    replace hS := it_t h9 hS
    refine VC.skip_to (fun _ _ h => h) ?_
    refine VC.seq ?_
    refine VC.block ?_
    refine VC.seq ?_
    refine VC.region ?_
    refine VL.q (q_move rfl) (by decide) ?_
    refine VL.q (q_assign rfl) (by decide) ?_
    refine VL.to (fun _ _ h => h) ?_
    refine VC.seq ?_
    refine VC.region ?_
    refine VL.q (q_move rfl) (by decide) ?_
    refine VL.q (q_move rfl) (by decide) ?_
    refine VL.q (q_move rfl) (by decide) ?_
    obtain ⟨z14_2, nz14_2, hz14_2, hS⟩ := at_s hS
    refine VL.q (q_ixm (s := s_0) Try.underlying28 gsz9 rfl rfl nz14_2 (lt_of_get nz14_2 hz14_2)) (by decide) ?_
    refine VL.q (q_el (s := s_0) gone9 rfl hz14_2 rfl) (by decide) ?_
    obtain ⟨y16_3, ey16_3, hS⟩ := bd_s hS
    refine VL.q (q_callV (merge_Marked_2_ct z14_2 ey16_3) rfl rfl (fun _ _ => rfl)) (by decide) ?_
    refine VL.to (fun _ _ h => h) ?_
    refine VC.keep [0, 1, 7, 8, 5, 16] rfl ?_
    refine VC.cond rfl (fun h16 => ?_) (fun h16 => ?_)
    ·
      replace hS := it_t h16 hS
      refine VC.seq ?_
      refine VC.region ?_
      refine VL.q (q_move rfl) (by decide) ?_
      refine VL.q (q_assign rfl) (by decide) ?_
      refine VL.to (fun _ _ h => h) ?_
      replace hS := up2 hS hK1
      cases hS
      exact VC.ret (fin1 (.inr rfl) rfl rfl () rfl trivial (fun _ _ => trivial) (fun _ _ => trivial))
    ·
      replace hS := it_b h16 hS
      refine VC.skip_to (fun _ _ h => h) ?_
      refine VC.region ?_
      obtain ⟨b18, hS⟩ := gd_s hS
      refine VL.q (q_add rfl rfl b18) (by decide) ?_
      refine VL.q (q_move rfl) (by decide) ?_
      refine VL.rnd (x8_1 + 1) [0, 1, 7, 8] (fun _ _ h => h) (go2 hS hK1) rfl
  ·
    replace hS := it_f h9 hS
    replace hS := up2 hS hK1
    refine VC.exit_to (fun _ _ h => h) ?_
    refine VC.seq ?_
    refine VC.region ?_
    refine VL.q (q_assign rfl) (by decide) ?_
    refine VL.to (fun _ _ h => h) ?_
    cases hS
    exact VC.ret (fin1 (.inr rfl) rfl rfl () rfl trivial (fun _ _ => trivial) (fun _ _ => trivial))

set_option maxHeartbeats 4000000 in
set_option maxRecDepth 100000 in
theorem slices_ContainsFunc_string_string_ct (s_0 : Sv Str) {r : Bool} (hS : Sh.slices_ContainsFunc_string_string s_0.l = some r) :
    Ct Try.prog 29 [s_0.val, .func (.func 30) #[] #[]] s_0.ok (Ow.emp) (X := Unit) (fun _ => .bool r) (fun _ => True) (fun _ => Mo.tt) (fun _ => Ow.emp) := by
  refine Ct.of Try.func29 rfl (by kernel_rfl) Try.ntmps29 (by simp) fun c => ?_
  unfold Sh.slices_ContainsFunc_string_string at hS
  refine VC.seq ?_
  refine VC.region ?_
  refine VL.q (q_assign rfl) (by decide) ?_
  refine VL.to (fun _ _ h => h) ?_
  refine VC.seq ?_
  refine VC.region ?_
  refine VL.q (q_move rfl) (by decide) ?_
  refine VL.q (q_move rfl) (by decide) ?_
  obtain ⟨y7_1, ey7_1, hS⟩ := bd_s hS
  refine VL.q (q_call (slices_IndexFunc_string_string_v2_ct s_0 ey7_1) rfl (fun _ _ => rfl)) (by decide) ?_
  refine VL.q (q_geq rfl rfl) (by decide) ?_
  refine VL.q (q_assign rfl) (by decide) ?_
  refine VL.to (fun _ _ h => h) ?_
  cases hS
  exact VC.ret (fin1 (.inr rfl) rfl rfl () rfl trivial (fun _ _ => trivial) (fun _ _ => trivial))

set_option maxHeartbeats 4000000 in
set_option maxRecDepth 100000 in
theorem merge_Marked_ct (s_0 : Str) {r : Bool} (hS : Sh.merge_Marked s_0 = some r) :
    Ct Try.prog 14 [str s_0] Mo.tt (Ow.emp) (X := Unit) (fun _ => .bool r) (fun _ => True) (fun _ => Mo.tt) (fun _ => Ow.emp) := by
  refine Ct.of Try.func14 rfl (by kernel_rfl) Try.ntmps14 (by simp) fun c => ?_
  unfold Sh.merge_Marked at hS
  refine VC.seq ?_
  refine VC.region ?_
  refine VL.q (q_assign rfl) (by decide) ?_
  refine VL.to (fun _ _ h => h) ?_
  refine VC.seq ?_
  refine VC.region ?_
  refine VL.q (q_move rfl) (by decide) ?_
  obtain ⟨y6_1, ey6_1, hS⟩ := bd_s hS
  refine VL.callF (lines_Split_ct s_0 ey6_1) rfl (by decide) ?_
  rintro q6_1_0 rfl
  try dsimp only
  refine VL.q (q_assign rfl) (by decide) ?_
  refine VL.to (fun _ _ h => h) ?_
  refine VC.seq ?_
  refine VC.region ?_
  refine VL.q (q_move rfl) (by decide) ?_
  obtain ⟨y8_2, ey8_2, hS⟩ := bd_s hS
  refine VL.q (q_call (slices_IndexFunc_string_string_ct q6_1_0 ey8_2) rfl (fun _ _ => rfl)) (by decide) ?_
  refine VL.q (q_assign rfl) (by decide) ?_
  refine VL.to (fun _ _ h => h) ?_
  refine VC.seq ?_
  refine VC.seq ?_
  refine VC.region ?_
  refine VL.q (q_move rfl) (by decide) ?_
  refine VL.q (q_lss rfl rfl) (by decide) ?_
  refine VL.to (fun _ _ h => h) ?_
  refine VC.cond_dec rfl (fun h10 => ?_) (fun h10 => ?_)
  ·
    replace hS := it_t h10 hS
    refine VC.seq ?_
    refine VC.region ?_
    refine VL.q (q_assign rfl) (by decide) ?_
    refine VL.to (fun _ _ h => h) ?_
    cases hS
    exact VC.ret (fin1 (.inr rfl) rfl rfl () rfl trivial (fun _ _ => trivial) (fun _ _ => trivial))
  ·
    replace hS := it_f h10 hS
    refine VC.skip_to (fun _ _ h => h) ?_
    refine VC.seq ?_
    refine VC.region ?_
    refine VL.q (q_move rfl) (by decide) ?_
    refine VL.q (q_move rfl) (by decide) ?_
    obtain ⟨b13, hS⟩ := gd_s hS
    refine VL.q (q_add rfl rfl b13) (by decide) ?_
    obtain ⟨b14, hS⟩ := gd_s hS
    refine VL.sfrom Try.underlying28 gsz9 rfl rfl b14.1 (b14.2) (by decide) fun s14_3 hs14_3 => ?_
    replace hS := lt_to hs14_3 hS
    obtain ⟨y15_5, ey15_5, hS⟩ := bd_s hS
    refine VL.q (q_call (slices_ContainsFunc_string_string_ct s14_3 ey15_5) rfl (fun _ _ => rfl)) (by decide) ?_
    refine VL.q (q_assign rfl) (by decide) ?_
    refine VL.to (fun _ _ h => h) ?_
    refine VC.keep [2] rfl ?_
    cases hS
    exact VC.ret (fin1 (.inr rfl) rfl rfl () rfl trivial (fun _ _ => trivial) (fun _ _ => trivial))

set_option maxHeartbeats 4000000 in
set_option maxRecDepth 100000 in
theorem rectolaw13_known_ct  {r : Bool} (hS : Sh.rectolaw13_known = some r) :
    Ct Try.prog 8 [] Mo.tt (Ow.emp) (X := Unit) (fun _ => .bool r) (fun _ => True) (fun _ => Mo.tt) (fun _ => Ow.emp) := by
  refine Ct.of Try.func8 rfl (by kernel_rfl) Try.ntmps8 (by simp) fun c => ?_
  unfold Sh.rectolaw13_known at hS
  refine VC.seq ?_
  refine VC.region ?_
  refine VL.q (q_assign rfl) (by decide) ?_
  refine VL.to (fun _ _ h => h) ?_
  refine VC.seq ?_
  refine VC.region ?_
  obtain ⟨y10_1, ey10_1, hS⟩ := bd_s hS
  refine VL.callF (merge_Text_ct [97, 10, 98, 10, 99, 10] [65, 10, 98, 10, 99, 10] [97, 10, 98, 10, 67, 10] [120] [121] ey10_1) rfl (by decide) ?_
  rintro ⟨q10_1_0, q10_1_1, q10_1_2⟩ rfl
  try dsimp only
  refine VL.q (q_move rfl) (by decide) ?_
  refine VL.q (q_extract rfl rfl) (by decide) ?_
  refine VL.q (q_extract rfl rfl) (by decide) ?_
  refine VL.q (q_extract rfl rfl) (by decide) ?_
  refine VL.q (q_assign rfl) (by decide) ?_
  refine VL.q (q_assign rfl) (by decide) ?_
  refine VL.q (q_assign rfl) (by decide) ?_
  refine VL.to (fun _ _ h => h) ?_
  refine VC.seq ?_
  refine VC.region ?_
  obtain ⟨y15_2, ey15_2, hS⟩ := bd_s hS
  refine VL.callF (merge_Text_ct [97, 10] [98, 10] [99] [120] [121] ey15_2) rfl (by decide) ?_
  rintro ⟨q15_2_0, q15_2_1, q15_2_2⟩ rfl
  try dsimp only
  refine VL.q (q_move rfl) (by decide) ?_
  refine VL.q (q_extract rfl rfl) (by decide) ?_
  refine VL.q (q_extract rfl rfl) (by decide) ?_
  refine VL.q (q_extract rfl rfl) (by decide) ?_
  refine VL.q (q_assign rfl) (by decide) ?_
  refine VL.q (q_assign rfl) (by decide) ?_
  refine VL.q (q_assign rfl) (by decide) ?_
  refine VL.to (fun _ _ h => h) ?_
  refine VC.keep [1, 2, 3, 4, 5, 6] rfl ?_
  refine VC.seq ?_
  refine VC.region ?_
  refine VL.lit (α := Str) (xs := [.const (str [97])]) (vs := [str [97]]) [[97]] Try.underlying28 glit9 (by decide) rfl rfl rfl rfl (by decide) (fun _ _ _ _ => trivial) (by decide) (fun s20_3 hs20_3 => ?_) (by decide)
  replace hS := lt_to hs20_3 hS
  refine VL.lit (α := Str) (xs := [.const (str [97])]) (vs := [str [97]]) [[97]] Try.underlying28 glit9 (by decide) rfl rfl rfl rfl (by decide) (fun _ _ _ _ => trivial) (by decide) (fun s21_5 hs21_5 => ?_) (by decide)
  replace hS := lt_to hs21_5 hS
  refine VL.lit (α := Str) (xs := [.const (str [98])]) (vs := [str [98]]) [[98]] Try.underlying28 glit9 (by decide) rfl rfl rfl rfl (by decide) (fun _ _ _ _ => trivial) (by decide) (fun s22_7 hs22_7 => ?_) (by decide)
  replace hS := lt_to hs22_7 hS
  obtain ⟨y23_9, ey23_9, hS⟩ := bd_s hS
  refine VL.callF (chunks2_ct s20_3 s21_5 s22_7 ey23_9) rfl (by decide) ?_
  rintro q23_9_0 rfl
  try dsimp only
  refine VL.q (q_move rfl) (by decide) ?_
  refine VL.q (q_extract rfl rfl) (by decide) ?_
  refine VL.q (q_extract rfl rfl) (by decide) ?_
  refine VL.q (q_assign rfl) (by decide) ?_
  refine VL.q (q_assign rfl) (by decide) ?_
  refine VL.to (fun _ _ h => h) ?_
  refine VC.keep [1, 2, 3, 4, 5, 6, 7, 8] rfl ?_
  refine VC.seq ?_
  refine VC.region ?_
  refine VL.q (q_move rfl) (by decide) ?_
  refine VL.q (q_ereq Try.underlying24 rfl) (by decide) ?_
  refine VL.q (q_move rfl) (by decide) ?_
  refine VL.split_dec 28 rfl (fun h28 => ?_) (fun h28 => ?_)
  ·
    replace hS := it_t h28 hS
    refine VL.gy rfl rfl (q_move rfl) (by decide) ?_
    refine VL.gy rfl rfl (q_ereq Try.underlying24 rfl) (by decide) ?_
    refine VL.q (q_pick_t rfl rfl) (by decide) ?_
    refine VL.q (q_move rfl) (by decide) ?_
    refine VL.split_dec 32 rfl (fun h32 => ?_) (fun h32 => ?_)
    ·
      replace hS := it_t h32 hS
      refine VL.gy rfl rfl (q_move rfl) (by decide) ?_
      refine VL.gy rfl rfl (q_nileq Try.underlying24 rfl) (by decide) ?_
      refine VL.q (q_pick_t rfl rfl) (by decide) ?_
      refine VL.q (q_move rfl) (by decide) ?_
      refine VL.gy rfl rfl (q_move rfl) (by decide) ?_
      refine VL.gy rfl rfl (q_seq rfl rfl) (by decide) ?_
      refine VL.q (q_pick_t rfl rfl) (by decide) ?_
      refine VL.q (q_move rfl) (by decide) ?_
      refine VL.split_dec 40 rfl (fun h40 => ?_) (fun h40 => ?_)
      ·
        replace hS := it_t h40 hS
        refine VL.gy rfl rfl (q_move rfl) (by decide) ?_
        refine VL.gy rfl rfl (q_eql rfl rfl) (by decide) ?_
        refine VL.q (q_pick_t rfl rfl) (by decide) ?_
        refine VL.q (q_move rfl) (by decide) ?_
        refine VL.split_dec 44 rfl (fun h44 => ?_) (fun h44 => ?_)
        ·
          replace hS := it_t h44 hS
          refine VL.gy rfl rfl (q_move rfl) (by decide) ?_
          refine VL.gy rfl rfl (q_eql rfl rfl) (by decide) ?_
          refine VL.q (q_pick_t rfl rfl) (by decide) ?_
          refine VL.q (q_move rfl) (by decide) ?_
          refine VL.split_dec 48 rfl (fun h48 => ?_) (fun h48 => ?_)
          ·
            replace hS := it_t h48 hS
            refine VL.gy rfl rfl (q_move rfl) (by decide) ?_
            refine VL.gy rfl rfl (q_seq rfl rfl) (by decide) ?_
            refine VL.q (q_pick_t rfl rfl) (by decide) ?_
            refine VL.q (q_move rfl) (by decide) ?_
            refine VL.split_dec 52 rfl (fun h52 => ?_) (fun h52 => ?_)
            ·
              replace hS := it_t h52 hS
              refine VL.gy rfl rfl (q_move rfl) (by decide) ?_
              refine VL.gy rfl rfl (q_lnm Ck.pl (s := q23_9_0) Try.underlying30 rfl) (by decide) ?_
              refine VL.gy rfl rfl (q_eql rfl rfl) (by decide) ?_
              refine VL.q (q_pick_t rfl rfl) (by decide) ?_
              refine VL.q (q_move rfl) (by decide) ?_
              refine VL.split_dec 57 rfl (fun h57 => ?_) (fun h57 => ?_)
              ·
                replace hS := it_t h57 hS
                refine VL.gy rfl rfl (q_move rfl) (by decide) ?_
                obtain ⟨z59_10, nz59_10, hz59_10, hS⟩ := atm_s hS
                refine VL.deep z59_10.m hz59_10 (fun _ q => q) ?_
                refine VL.gy rfl rfl (q_ixm (s := q23_9_0) Try.underlying30 gsz34 rfl rfl nz59_10 (lt_of_get nz59_10 hz59_10)) (by decide) ?_
                refine VL.gy rfl rfl (q_field gfa34_3 rfl) (by decide) ?_
                refine VL.gy rfl rfl (q_elf (s := q23_9_0) gone4 rfl hz59_10 rfl) (by decide) ?_
                refine VL.gy rfl rfl (q_not rfl) (by decide) ?_
                refine VL.q (q_pick_t rfl rfl) (by decide) ?_
                refine VL.q (q_move rfl) (by decide) ?_
                refine VL.split 64 rfl (fun h64 => ?_) (fun h64 => ?_)
                ·
                  replace hS := it_t h64 hS
                  refine VL.gy rfl rfl (q_move rfl) (by decide) ?_
                  obtain ⟨z66_11, nz66_11, hz66_11, hS⟩ := atm_s hS
                  refine VL.deep z66_11.m hz66_11 (fun _ q => q) ?_
                  refine VL.gy rfl rfl (q_ixm (s := q23_9_0) Try.underlying30 gsz34 rfl rfl nz66_11 (lt_of_get nz66_11 hz66_11)) (by decide) ?_
                  refine VL.gy rfl rfl (q_field gfa34_4 rfl) (by decide) ?_
                  refine VL.gy rfl rfl (q_elf (s := q23_9_0) gone28 rfl hz66_11 rfl) (by decide) ?_
                  refine VL.gy rfl rfl (q_ln (s := z66_11.out) Try.underlying28 rfl) (by decide) ?_
                  refine VL.gy rfl rfl (q_eql rfl rfl) (by decide) ?_
                  refine VL.q (q_pick_t rfl rfl) (by decide) ?_
                  refine VL.q (q_move rfl) (by decide) ?_
                  refine VL.split_dec 72 rfl (fun h72 => ?_) (fun h72 => ?_)
                  ·
                    replace hS := it_t h72 hS
                    refine VL.gy rfl rfl (q_move rfl) (by decide) ?_
                    obtain ⟨y74_12, ey74_12, hS⟩ := bd_s hS
                    refine VL.gy rfl rfl (q_call (merge_Marked_ct q15_2_0 ey74_12) rfl (fun _ _ => rfl)) (by decide) ?_
                    refine VL.q (q_pick_t rfl rfl) (by decide) ?_
                    refine VL.q (q_move rfl) (by decide) ?_
                    refine VL.split 76 rfl (fun h76 => ?_) (fun h76 => ?_)
                    ·
                      replace hS := it_t h76 hS
                      refine VL.gy rfl rfl (q_move rfl) (by decide) ?_
                      obtain ⟨y78_13, ey78_13, hS⟩ := bd_s hS
                      refine VL.gy rfl rfl (q_call (merge_Marked_ct q10_1_0 ey78_13) rfl (fun _ _ => rfl)) (by decide) ?_
                      refine VL.gy rfl rfl (q_not rfl) (by decide) ?_
                      refine VL.q (q_pick_t rfl rfl) (by decide) ?_
                      refine VL.q (q_assign rfl) (by decide) ?_
                      refine VL.to (fun _ _ h => h) ?_
                      refine VC.keep [0] rfl ?_
                      cases hS
                      exact VC.ret (fin1 (.inr rfl) rfl rfl () rfl trivial (fun _ _ => trivial) (fun _ _ => trivial))
                    ·
                      replace hS := it_b h76 hS
                      refine VL.gn rfl rfl rfl (by decide) ?_
                      refine VL.gn rfl rfl rfl (by decide) ?_
                      refine VL.gn rfl rfl rfl (by decide) ?_
                      refine VL.q (q_pick_f rfl rfl) (by decide) ?_
                      refine VL.q (q_assign rfl) (by decide) ?_
                      refine VL.to (fun _ _ h => h) ?_
                      refine VC.keep [0] rfl ?_
                      cases hS
                      exact VC.ret (fin1 (.inr rfl) rfl rfl () rfl trivial (fun _ _ => trivial) (fun _ _ => trivial))
                  ·
                    replace hS := it_f h72 hS
                    refine VL.gn rfl rfl rfl (by decide) ?_
                    refine VL.gn rfl rfl rfl (by decide) ?_
                    refine VL.q (q_pick_f rfl rfl) (by decide) ?_
                    refine VL.q (q_move rfl) (by decide) ?_
                    refine VL.gn rfl rfl rfl (by decide) ?_
                    refine VL.gn rfl rfl rfl (by decide) ?_
                    refine VL.gn rfl rfl rfl (by decide) ?_
                    refine VL.q (q_pick_f rfl rfl) (by decide) ?_
                    refine VL.q (q_assign rfl) (by decide) ?_
                    refine VL.to (fun _ _ h => h) ?_
                    refine VC.keep [0] rfl ?_
                    cases hS
                    exact VC.ret (fin1 (.inr rfl) rfl rfl () rfl trivial (fun _ _ => trivial) (fun _ _ => trivial))
                ·
                  replace hS := it_b h64 hS
                  refine VL.gn rfl rfl rfl (by decide) ?_
                  refine VL.gn rfl rfl rfl (by decide) ?_
                  refine VL.gn rfl rfl rfl (by decide) ?_
                  refine VL.gn rfl rfl rfl (by decide) ?_
                  refine VL.gn rfl rfl rfl (by decide) ?_
                  refine VL.gn rfl rfl rfl (by decide) ?_
                  refine VL.q (q_pick_f rfl rfl) (by decide) ?_
                  refine VL.q (q_move rfl) (by decide) ?_
                  refine VL.gn rfl rfl rfl (by decide) ?_
                  refine VL.gn rfl rfl rfl (by decide) ?_
                  refine VL.q (q_pick_f rfl rfl) (by decide) ?_
                  refine VL.q (q_move rfl) (by decide) ?_
                  refine VL.gn rfl rfl rfl (by decide) ?_
                  refine VL.gn rfl rfl rfl (by decide) ?_
                  refine VL.gn rfl rfl rfl (by decide) ?_
                  refine VL.q (q_pick_f rfl rfl) (by decide) ?_
                  refine VL.q (q_assign rfl) (by decide) ?_
                  refine VL.to (fun _ _ h => h) ?_
                  refine VC.keep [0] rfl ?_
                  cases hS
                  exact VC.ret (fin1 (.inr rfl) rfl rfl () rfl trivial (fun _ _ => trivial) (fun _ _ => trivial))
              ·
                replace hS := it_f h57 hS
                refine VL.gn rfl rfl rfl (by decide) ?_
                refine VL.gn rfl rfl rfl (by decide) ?_
                refine VL.gn rfl rfl rfl (by decide) ?_
                refine VL.gn rfl rfl rfl (by decide) ?_
                refine VL.gn rfl rfl rfl (by decide) ?_
                refine VL.q (q_pick_f rfl rfl) (by decide) ?_
                refine VL.q (q_move rfl) (by decide) ?_
                refine VL.gn rfl rfl rfl (by decide) ?_
                refine VL.gn rfl rfl rfl (by decide) ?_
                refine VL.gn rfl rfl rfl (by decide) ?_
                refine VL.gn rfl rfl rfl (by decide) ?_
                refine VL.gn rfl rfl rfl (by decide) ?_
                refine VL.gn rfl rfl rfl (by decide) ?_
                refine VL.q (q_pick_f rfl rfl) (by decide) ?_
                refine VL.q (q_move rfl) (by decide) ?_
                refine VL.gn rfl rfl rfl (by decide) ?_
                refine VL.gn rfl rfl rfl (by decide) ?_
                refine VL.q (q_pick_f rfl rfl) (by decide) ?_
                refine VL.q (q_move rfl) (by decide) ?_
                refine VL.gn rfl rfl rfl (by decide) ?_
                refine VL.gn rfl rfl rfl (by decide) ?_
                refine VL.gn rfl rfl rfl (by decide) ?_
                refine VL.q (q_pick_f rfl rfl) (by decide) ?_
                refine VL.q (q_assign rfl) (by decide) ?_
                refine VL.to (fun _ _ h => h) ?_
                refine VC.keep [0] rfl ?_
                cases hS
                exact VC.ret (fin1 (.inr rfl) rfl rfl () rfl trivial (fun _ _ => trivial) (fun _ _ => trivial))
            ·
              replace hS := it_f h52 hS
              refine VL.gn rfl rfl rfl (by decide) ?_
              refine VL.gn rfl rfl rfl (by decide) ?_
              refine VL.gn rfl rfl rfl (by decide) ?_
              refine VL.q (q_pick_f rfl rfl) (by decide) ?_
              refine VL.q (q_move rfl) (by decide) ?_
              refine VL.gn rfl rfl rfl (by decide) ?_
              refine VL.gn rfl rfl rfl (by decide) ?_
              refine VL.gn rfl rfl rfl (by decide) ?_
              refine VL.gn rfl rfl rfl (by decide) ?_
              refine VL.gn rfl rfl rfl (by decide) ?_
              refine VL.q (q_pick_f rfl rfl) (by decide) ?_
              refine VL.q (q_move rfl) (by decide) ?_
              refine VL.gn rfl rfl rfl (by decide) ?_
              refine VL.gn rfl rfl rfl (by decide) ?_
              refine VL.gn rfl rfl rfl (by decide) ?_
              refine VL.gn rfl rfl rfl (by decide) ?_
              refine VL.gn rfl rfl rfl (by decide) ?_
              refine VL.gn rfl rfl rfl (by decide) ?_
              refine VL.q (q_pick_f rfl rfl) (by decide) ?_
              refine VL.q (q_move rfl) (by decide) ?_
              refine VL.gn rfl rfl rfl (by decide) ?_
              refine VL.gn rfl rfl rfl (by decide) ?_
              refine VL.q (q_pick_f rfl rfl) (by decide) ?_
              refine VL.q (q_move rfl) (by decide) ?_
              refine VL.gn rfl rfl rfl (by decide) ?_
              refine VL.gn rfl rfl rfl (by decide) ?_
              refine VL.gn rfl rfl rfl (by decide) ?_
              refine VL.q (q_pick_f rfl rfl) (by decide) ?_
              refine VL.q (q_assign rfl) (by decide) ?_
              refine VL.to (fun _ _ h => h) ?_
              refine VC.keep [0] rfl ?_
              cases hS
              exact VC.ret (fin1 (.inr rfl) rfl rfl () rfl trivial (fun _ _ => trivial) (fun _ _ => trivial))
          ·
            replace hS := it_f h48 hS
            refine VL.gn rfl rfl rfl (by decide) ?_
            refine VL.gn rfl rfl rfl (by decide) ?_
            refine VL.q (q_pick_f rfl rfl) (by decide) ?_
            refine VL.q (q_move rfl) (by decide) ?_
            refine VL.gn rfl rfl rfl (by decide) ?_
            refine VL.gn rfl rfl rfl (by decide) ?_
            refine VL.gn rfl rfl rfl (by decide) ?_
            refine VL.q (q_pick_f rfl rfl) (by decide) ?_
            refine VL.q (q_move rfl) (by decide) ?_
            refine VL.gn rfl rfl rfl (by decide) ?_
            refine VL.gn rfl rfl rfl (by decide) ?_
            refine VL.gn rfl rfl rfl (by decide) ?_
            refine VL.gn rfl rfl rfl (by decide) ?_
            refine VL.gn rfl rfl rfl (by decide) ?_
            refine VL.q (q_pick_f rfl rfl) (by decide) ?_
            refine VL.q (q_move rfl) (by decide) ?_
            refine VL.gn rfl rfl rfl (by decide) ?_
            refine VL.gn rfl rfl rfl (by decide) ?_
            refine VL.gn rfl rfl rfl (by decide) ?_
            refine VL.gn rfl rfl rfl (by decide) ?_
            refine VL.gn rfl rfl rfl (by decide) ?_
            refine VL.gn rfl rfl rfl (by decide) ?_
            refine VL.q (q_pick_f rfl rfl) (by decide) ?_
            refine VL.q (q_move rfl) (by decide) ?_
            refine VL.gn rfl rfl rfl (by decide) ?_
            refine VL.gn rfl rfl rfl (by decide) ?_
            refine VL.q (q_pick_f rfl rfl) (by decide) ?_
            refine VL.q (q_move rfl) (by decide) ?_
            refine VL.gn rfl rfl rfl (by decide) ?_
            refine VL.gn rfl rfl rfl (by decide) ?_
            refine VL.gn rfl rfl rfl (by decide) ?_
            refine VL.q (q_pick_f rfl rfl) (by decide) ?_
            refine VL.q (q_assign rfl) (by decide) ?_
            refine VL.to (fun _ _ h => h) ?_
            refine VC.keep [0] rfl ?_
            cases hS
            exact VC.ret (fin1 (.inr rfl) rfl rfl () rfl trivial (fun _ _ => trivial) (fun _ _ => trivial))
        ·
          replace hS := it_f h44 hS
          refine VL.gn rfl rfl rfl (by decide) ?_
          refine VL.gn rfl rfl rfl (by decide) ?_
          refine VL.q (q_pick_f rfl rfl) (by decide) ?_
          refine VL.q (q_move rfl) (by decide) ?_
          refine VL.gn rfl rfl rfl (by decide) ?_
          refine VL.gn rfl rfl rfl (by decide) ?_
          refine VL.q (q_pick_f rfl rfl) (by decide) ?_
          refine VL.q (q_move rfl) (by decide) ?_
          refine VL.gn rfl rfl rfl (by decide) ?_
          refine VL.gn rfl rfl rfl (by decide) ?_
          refine VL.gn rfl rfl rfl (by decide) ?_
          refine VL.q (q_pick_f rfl rfl) (by decide) ?_
          refine VL.q (q_move rfl) (by decide) ?_
          refine VL.gn rfl rfl rfl (by decide) ?_
          refine VL.gn rfl rfl rfl (by decide) ?_
          refine VL.gn rfl rfl rfl (by decide) ?_
          refine VL.gn rfl rfl rfl (by decide) ?_
          refine VL.gn rfl rfl rfl (by decide) ?_
          refine VL.q (q_pick_f rfl rfl) (by decide) ?_
          refine VL.q (q_move rfl) (by decide) ?_
          refine VL.gn rfl rfl rfl (by decide) ?_
          refine VL.gn rfl rfl rfl (by decide) ?_
          refine VL.gn rfl rfl rfl (by decide) ?_
          refine VL.gn rfl rfl rfl (by decide) ?_
          refine VL.gn rfl rfl rfl (by decide) ?_
          refine VL.gn rfl rfl rfl (by decide) ?_
          refine VL.q (q_pick_f rfl rfl) (by decide) ?_
          refine VL.q (q_move rfl) (by decide) ?_
          refine VL.gn rfl rfl rfl (by decide) ?_
          refine VL.gn rfl rfl rfl (by decide) ?_
          refine VL.q (q_pick_f rfl rfl) (by decide) ?_
          refine VL.q (q_move rfl) (by decide) ?_
          refine VL.gn rfl rfl rfl (by decide) ?_
          refine VL.gn rfl rfl rfl (by decide) ?_
          refine VL.gn rfl rfl rfl (by decide) ?_
          refine VL.q (q_pick_f rfl rfl) (by decide) ?_
          refine VL.q (q_assign rfl) (by decide) ?_
          refine VL.to (fun _ _ h => h) ?_
          refine VC.keep [0] rfl ?_
          cases hS
          exact VC.ret (fin1 (.inr rfl) rfl rfl () rfl trivial (fun _ _ => trivial) (fun _ _ => trivial))
      ·
        replace hS := it_f h40 hS
        refine VL.gn rfl rfl rfl (by decide) ?_
        refine VL.gn rfl rfl rfl (by decide) ?_
        refine VL.q (q_pick_f rfl rfl) (by decide) ?_
        refine VL.q (q_move rfl) (by decide) ?_
        refine VL.gn rfl rfl rfl (by decide) ?_
        refine VL.gn rfl rfl rfl (by decide) ?_
        refine VL.q (q_pick_f rfl rfl) (by decide) ?_
        refine VL.q (q_move rfl) (by decide) ?_
        refine VL.gn rfl rfl rfl (by decide) ?_
        refine VL.gn rfl rfl rfl (by decide) ?_
        refine VL.q (q_pick_f rfl rfl) (by decide) ?_
        refine VL.q (q_move rfl) (by decide) ?_
        refine VL.gn rfl rfl rfl (by decide) ?_
        refine VL.gn rfl rfl rfl (by decide) ?_
        refine VL.gn rfl rfl rfl (by decide) ?_
        refine VL.q (q_pick_f rfl rfl) (by decide) ?_
        refine VL.q (q_move rfl) (by decide) ?_
        refine VL.gn rfl rfl rfl (by decide) ?_
        refine VL.gn rfl rfl rfl (by decide) ?_
        refine VL.gn rfl rfl rfl (by decide) ?_
        refine VL.gn rfl rfl rfl (by decide) ?_
        refine VL.gn rfl rfl rfl (by decide) ?_
        refine VL.q (q_pick_f rfl rfl) (by decide) ?_
        refine VL.q (q_move rfl) (by decide) ?_
        refine VL.gn rfl rfl rfl (by decide) ?_
        refine VL.gn rfl rfl rfl (by decide) ?_
        refine VL.gn rfl rfl rfl (by decide) ?_
        refine VL.gn rfl rfl rfl (by decide) ?_
        refine VL.gn rfl rfl rfl (by decide) ?_
        refine VL.gn rfl rfl rfl (by decide) ?_
        refine VL.q (q_pick_f rfl rfl) (by decide) ?_
        refine VL.q (q_move rfl) (by decide) ?_
        refine VL.gn rfl rfl rfl (by decide) ?_
        refine VL.gn rfl rfl rfl (by decide) ?_
        refine VL.q (q_pick_f rfl rfl) (by decide) ?_
        refine VL.q (q_move rfl) (by decide) ?_
        refine VL.gn rfl rfl rfl (by decide) ?_
        refine VL.gn rfl rfl rfl (by decide) ?_
        refine VL.gn rfl rfl rfl (by decide) ?_
        refine VL.q (q_pick_f rfl rfl) (by decide) ?_
        refine VL.q (q_assign rfl) (by decide) ?_
        refine VL.to (fun _ _ h => h) ?_
        refine VC.keep [0] rfl ?_
        cases hS
        exact VC.ret (fin1 (.inr rfl) rfl rfl () rfl trivial (fun _ _ => trivial) (fun _ _ => trivial))
    ·
      replace hS := it_f h32 hS
      refine VL.gn rfl rfl rfl (by decide) ?_
      refine VL.gn rfl rfl rfl (by decide) ?_
      refine VL.q (q_pick_f rfl rfl) (by decide) ?_
      refine VL.q (q_move rfl) (by decide) ?_
      refine VL.gn rfl rfl rfl (by decide) ?_
      refine VL.gn rfl rfl rfl (by decide) ?_
      refine VL.q (q_pick_f rfl rfl) (by decide) ?_
      refine VL.q (q_move rfl) (by decide) ?_
      refine VL.gn rfl rfl rfl (by decide) ?_
      refine VL.gn rfl rfl rfl (by decide) ?_
      refine VL.q (q_pick_f rfl rfl) (by decide) ?_
      refine VL.q (q_move rfl) (by decide) ?_
      refine VL.gn rfl rfl rfl (by decide) ?_
      refine VL.gn rfl rfl rfl (by decide) ?_
      refine VL.q (q_pick_f rfl rfl) (by decide) ?_
      refine VL.q (q_move rfl) (by decide) ?_
      refine VL.gn rfl rfl rfl (by decide) ?_
      refine VL.gn rfl rfl rfl (by decide) ?_
      refine VL.q (q_pick_f rfl rfl) (by decide) ?_
      refine VL.q (q_move rfl) (by decide) ?_
      refine VL.gn rfl rfl rfl (by decide) ?_
      refine VL.gn rfl rfl rfl (by decide) ?_
      refine VL.gn rfl rfl rfl (by decide) ?_
      refine VL.q (q_pick_f rfl rfl) (by decide) ?_
      refine VL.q (q_move rfl) (by decide) ?_
      refine VL.gn rfl rfl rfl (by decide) ?_
      refine VL.gn rfl rfl rfl (by decide) ?_
      refine VL.gn rfl rfl rfl (by decide) ?_
      refine VL.gn rfl rfl rfl (by decide) ?_
      refine VL.gn rfl rfl rfl (by decide) ?_
      refine VL.q (q_pick_f rfl rfl) (by decide) ?_
      refine VL.q (q_move rfl) (by decide) ?_
      refine VL.gn rfl rfl rfl (by decide) ?_
      refine VL.gn rfl rfl rfl (by decide) ?_
      refine VL.gn rfl rfl rfl (by decide) ?_
      refine VL.gn rfl rfl rfl (by decide) ?_
      refine VL.gn rfl rfl rfl (by decide) ?_
      refine VL.gn rfl rfl rfl (by decide) ?_
      refine VL.q (q_pick_f rfl rfl) (by decide) ?_
      refine VL.q (q_move rfl) (by decide) ?_
      refine VL.gn rfl rfl rfl (by decide) ?_
      refine VL.gn rfl rfl rfl (by decide) ?_
      refine VL.q (q_pick_f rfl rfl) (by decide) ?_
      refine VL.q (q_move rfl) (by decide) ?_
      refine VL.gn rfl rfl rfl (by decide) ?_
      refine VL.gn rfl rfl rfl (by decide) ?_
      refine VL.gn rfl rfl rfl (by decide) ?_
      refine VL.q (q_pick_f rfl rfl) (by decide) ?_
      refine VL.q (q_assign rfl) (by decide) ?_
      refine VL.to (fun _ _ h => h) ?_
      refine VC.keep [0] rfl ?_
      cases hS
      exact VC.ret (fin1 (.inr rfl) rfl rfl () rfl trivial (fun _ _ => trivial) (fun _ _ => trivial))
  ·
    replace hS := it_f h28 hS
    refine VL.gn rfl rfl rfl (by decide) ?_
    refine VL.gn rfl rfl rfl (by decide) ?_
    refine VL.q (q_pick_f rfl rfl) (by decide) ?_
    refine VL.q (q_move rfl) (by decide) ?_
    refine VL.gn rfl rfl rfl (by decide) ?_
    refine VL.gn rfl rfl rfl (by decide) ?_
    refine VL.q (q_pick_f rfl rfl) (by decide) ?_
    refine VL.q (q_move rfl) (by decide) ?_
    refine VL.gn rfl rfl rfl (by decide) ?_
    refine VL.gn rfl rfl rfl (by decide) ?_
    refine VL.q (q_pick_f rfl rfl) (by decide) ?_
    refine VL.q (q_move rfl) (by decide) ?_
    refine VL.gn rfl rfl rfl (by decide) ?_
    refine VL.gn rfl rfl rfl (by decide) ?_
    refine VL.q (q_pick_f rfl rfl) (by decide) ?_
    refine VL.q (q_move rfl) (by decide) ?_
    refine VL.gn rfl rfl rfl (by decide) ?_
    refine VL.gn rfl rfl rfl (by decide) ?_
    refine VL.q (q_pick_f rfl rfl) (by decide) ?_
    refine VL.q (q_move rfl) (by decide) ?_
    refine VL.gn rfl rfl rfl (by decide) ?_
    refine VL.gn rfl rfl rfl (by decide) ?_
    refine VL.q (q_pick_f rfl rfl) (by decide) ?_
    refine VL.q (q_move rfl) (by decide) ?_
    refine VL.gn rfl rfl rfl (by decide) ?_
    refine VL.gn rfl rfl rfl (by decide) ?_
    refine VL.gn rfl rfl rfl (by decide) ?_
    refine VL.q (q_pick_f rfl rfl) (by decide) ?_
    refine VL.q (q_move rfl) (by decide) ?_
    refine VL.gn rfl rfl rfl (by decide) ?_
    refine VL.gn rfl rfl rfl (by decide) ?_
    refine VL.gn rfl rfl rfl (by decide) ?_
    refine VL.gn rfl rfl rfl (by decide) ?_
    refine VL.gn rfl rfl rfl (by decide) ?_
    refine VL.q (q_pick_f rfl rfl) (by decide) ?_
    refine VL.q (q_move rfl) (by decide) ?_
    refine VL.gn rfl rfl rfl (by decide) ?_
    refine VL.gn rfl rfl rfl (by decide) ?_
    refine VL.gn rfl rfl rfl (by decide) ?_
    refine VL.gn rfl rfl rfl (by decide) ?_
    refine VL.gn rfl rfl rfl (by decide) ?_
    refine VL.gn rfl rfl rfl (by decide) ?_
    refine VL.q (q_pick_f rfl rfl) (by decide) ?_
    refine VL.q (q_move rfl) (by decide) ?_
    refine VL.gn rfl rfl rfl (by decide) ?_
    refine VL.gn rfl rfl rfl (by decide) ?_
    refine VL.q (q_pick_f rfl rfl) (by decide) ?_
    refine VL.q (q_move rfl) (by decide) ?_
    refine VL.gn rfl rfl rfl (by decide) ?_
    refine VL.gn rfl rfl rfl (by decide) ?_
    refine VL.gn rfl rfl rfl (by decide) ?_
    refine VL.q (q_pick_f rfl rfl) (by decide) ?_
    refine VL.q (q_assign rfl) (by decide) ?_
    refine VL.to (fun _ _ h => h) ?_
    refine VC.keep [0] rfl ?_
    cases hS
    exact VC.ret (fin1 (.inr rfl) rfl rfl () rfl trivial (fun _ _ => trivial) (fun _ _ => trivial))

set_option maxHeartbeats 4000000 in
set_option maxRecDepth 100000 in
theorem rectolaw13_MergeSides_ct (a_0 : Str) (a_1 : Str) {r : Bool} (hS : Sh.rectolaw13_MergeSides a_0 a_1 = some r) :
    Ct Try.prog 3 [str a_0, str a_1] Mo.tt (Ow.emp) (X := Unit) (fun _ => .bool r) (fun _ => True) (fun _ => Mo.tt) (fun _ => Ow.emp) := by
  refine Ct.of Try.func3 rfl (by kernel_rfl) Try.ntmps3 (by simp) fun c => ?_
  unfold Sh.rectolaw13_MergeSides at hS
  refine VC.seq ?_
  refine VC.region ?_
  refine VL.q (q_assign rfl) (by decide) ?_
  refine VL.to (fun _ _ h => h) ?_
  refine VC.seq ?_
  refine VC.seq ?_
  refine VC.region ?_
  obtain ⟨y14_1, ey14_1, hS⟩ := bd_s hS
  refine VL.q (q_call (rectolaw13_known_ct ey14_1) rfl (fun _ _ => rfl)) (by decide) ?_
  refine VL.q (q_not rfl) (by decide) ?_
  refine VL.to (fun _ _ h => h) ?_
  refine VC.cond rfl (fun h15 => ?_) (fun h15 => ?_)
  ·
    replace hS := it_t h15 hS
    refine VC.seq ?_
    refine VC.region ?_
    refine VL.q (q_assign rfl) (by decide) ?_
    refine VL.to (fun _ _ h => h) ?_
    cases hS
    exact VC.ret (fin1 (.inr rfl) rfl rfl () rfl trivial (fun _ _ => trivial) (fun _ _ => trivial))
  ·
    replace hS := it_b h15 hS
    refine VC.skip_to (fun _ _ h => h) ?_
    refine VC.seq ?_
    refine VC.cutJ (S := Bool) (fun (x23_2 : Bool) => x23_2) (fun (x23_2 : Bool) => [(0, str a_0), (1, str a_1), (23, .bool x23_2)]) (fun (x23_2 : Bool) => Mo.tt) (fun (x23_2 : Bool) => Ow.emp) hS ?_ ?_
    · -- up to where ways meet
      clear hS
      intro k3 hS
      refine VC.region ?_
      refine VL.q (q_move rfl) (by decide) ?_
      refine VL.q (q_slen Try.underlying9 rfl) (by decide) ?_
      refine VL.q (q_gtr rfl rfl) (by decide) ?_
      refine VL.q (q_move rfl) (by decide) ?_
      refine VL.split_dec 19 rfl (fun h19 => ?_) (fun h19 => ?_)
      ·
        replace hS := it_t h19 hS
        refine VL.gn rfl rfl rfl (by decide) ?_
        refine VL.gn rfl rfl rfl (by decide) ?_
        refine VL.gn rfl rfl rfl (by decide) ?_
        refine VL.q (q_pick_t rfl rfl) (by decide) ?_
        refine VL.mt true [0, 1, 23] (fun _ _ h => h) hS rfl
      ·
        replace hS := it_f h19 hS
        refine VL.gy rfl rfl (q_move rfl) (by decide) ?_
        refine VL.gy rfl rfl (q_slen Try.underlying9 rfl) (by decide) ?_
        refine VL.gy rfl rfl (q_gtr rfl rfl) (by decide) ?_
        refine VL.q (q_pick_f rfl rfl) (by decide) ?_
        refine VL.mt (decide (60 < (a_1.length : Int))) [0, 1, 23] (fun _ _ h => h) hS rfl
    · -- from there
      clear hS
      rintro x23_2 hS
      show VC _ _ _ _ _ [(0, str a_0), (1, str a_1), (23, .bool x23_2)] (Mo.and Mo.tt _) (Ow.emp)
      refine VC.cond rfl (fun h23 => ?_) (fun h23 => ?_)
      ·
        replace hS := it_t h23 hS
        refine VC.seq ?_
        refine VC.region ?_
        refine VL.q (q_assign rfl) (by decide) ?_
        refine VL.to (fun _ _ h => h) ?_
        cases hS
        exact VC.ret (fin1 (.inr rfl) rfl rfl () rfl trivial (fun _ _ => trivial) (fun _ _ => trivial))
      ·
        replace hS := it_b h23 hS
        refine VC.skip_to (fun _ _ h => h) ?_
        refine VC.seq ?_
        refine VC.region ?_
        refine VL.q (q_move rfl) (by decide) ?_
        refine VL.q (q_move rfl) (by decide) ?_
        refine VL.q (q_move rfl) (by decide) ?_
        obtain ⟨y28_4, ey28_4, hS⟩ := bd_s hS
        refine VL.callF (merge_Text_ct a_0 a_1 a_0 [120] [121] ey28_4) rfl (by decide) ?_
        rintro ⟨q28_4_0, q28_4_1, q28_4_2⟩ rfl
        try dsimp only
        refine VL.q (q_move rfl) (by decide) ?_
        refine VL.q (q_extract rfl rfl) (by decide) ?_
        refine VL.q (q_extract rfl rfl) (by decide) ?_
        refine VL.q (q_extract rfl rfl) (by decide) ?_
        refine VL.q (q_assign rfl) (by decide) ?_
        refine VL.q (q_assign rfl) (by decide) ?_
        refine VL.q (q_assign rfl) (by decide) ?_
        refine VL.to (fun _ _ h => h) ?_
        refine VC.keep [0, 1, 5, 6, 7] rfl ?_
        refine VC.seq ?_
        refine VC.region ?_
        refine VL.q (q_move rfl) (by decide) ?_
        refine VL.q (q_move rfl) (by decide) ?_
        refine VL.q (q_move rfl) (by decide) ?_
        obtain ⟨y36_5, ey36_5, hS⟩ := bd_s hS
        refine VL.callF (merge_Text_ct a_0 a_0 a_1 [120] [121] ey36_5) rfl (by decide) ?_
        rintro ⟨q36_5_0, q36_5_1, q36_5_2⟩ rfl
        try dsimp only
        refine VL.q (q_move rfl) (by decide) ?_
        refine VL.q (q_extract rfl rfl) (by decide) ?_
        refine VL.q (q_extract rfl rfl) (by decide) ?_
        refine VL.q (q_extract rfl rfl) (by decide) ?_
        refine VL.q (q_assign rfl) (by decide) ?_
        refine VL.q (q_assign rfl) (by decide) ?_
        refine VL.q (q_assign rfl) (by decide) ?_
        refine VL.to (fun _ _ h => h) ?_
        refine VC.keep [0, 1, 5, 6, 7, 8, 9, 10] rfl ?_
        refine VC.seq ?_
        refine VC.region ?_
        refine VL.q (q_move rfl) (by decide) ?_
        refine VL.q (q_move rfl) (by decide) ?_
        refine VL.q (q_move rfl) (by decide) ?_
        obtain ⟨y44_6, ey44_6, hS⟩ := bd_s hS
        refine VL.callF (merge_Text_ct a_0 a_1 a_1 [120] [121] ey44_6) rfl (by decide) ?_
        rintro ⟨q44_6_0, q44_6_1, q44_6_2⟩ rfl
        try dsimp only
        refine VL.q (q_move rfl) (by decide) ?_
        refine VL.q (q_extract rfl rfl) (by decide) ?_
        refine VL.q (q_extract rfl rfl) (by decide) ?_
        refine VL.q (q_extract rfl rfl) (by decide) ?_
        refine VL.q (q_assign rfl) (by decide) ?_
        refine VL.q (q_assign rfl) (by decide) ?_
        refine VL.q (q_assign rfl) (by decide) ?_
        refine VL.to (fun _ _ h => h) ?_
        refine VC.keep [1, 5, 6, 7, 8, 9, 10, 11, 12, 13] rfl ?_
        refine VC.seq ?_
        refine VC.region ?_
        refine VL.q (q_move rfl) (by decide) ?_
        refine VL.q (q_ereq Try.underlying24 rfl) (by decide) ?_
        refine VL.q (q_move rfl) (by decide) ?_
        refine VL.split_dec 50 rfl (fun h50 => ?_) (fun h50 => ?_)
        ·
          replace hS := it_t h50 hS
          refine VL.gy rfl rfl (q_move rfl) (by decide) ?_
          refine VL.gy rfl rfl (q_ereq Try.underlying24 rfl) (by decide) ?_
          refine VL.q (q_pick_t rfl rfl) (by decide) ?_
          refine VL.q (q_move rfl) (by decide) ?_
          refine VL.split_dec 54 rfl (fun h54 => ?_) (fun h54 => ?_)
          ·
            replace hS := it_t h54 hS
            refine VL.gy rfl rfl (q_move rfl) (by decide) ?_
            refine VL.gy rfl rfl (q_ereq Try.underlying24 rfl) (by decide) ?_
            refine VL.q (q_pick_t rfl rfl) (by decide) ?_
            refine VL.q (q_move rfl) (by decide) ?_
            refine VL.split_dec 58 rfl (fun h58 => ?_) (fun h58 => ?_)
            ·
              replace hS := it_t h58 hS
              refine VL.gy rfl rfl (q_move rfl) (by decide) ?_
              refine VL.gy rfl rfl (q_move rfl) (by decide) ?_
              refine VL.gy rfl rfl (q_seq rfl rfl) (by decide) ?_
              refine VL.q (q_pick_t rfl rfl) (by decide) ?_
              refine VL.q (q_move rfl) (by decide) ?_
              refine VL.split_dec 63 rfl (fun h63 => ?_) (fun h63 => ?_)
              ·
                replace hS := it_t h63 hS
                refine VL.gy rfl rfl (q_move rfl) (by decide) ?_
                refine VL.gy rfl rfl (q_move rfl) (by decide) ?_
                refine VL.gy rfl rfl (q_seq rfl rfl) (by decide) ?_
                refine VL.q (q_pick_t rfl rfl) (by decide) ?_
                refine VL.q (q_move rfl) (by decide) ?_
                refine VL.split_dec 68 rfl (fun h68 => ?_) (fun h68 => ?_)
                ·
                  replace hS := it_t h68 hS
                  refine VL.gy rfl rfl (q_move rfl) (by decide) ?_
                  refine VL.gy rfl rfl (q_move rfl) (by decide) ?_
                  refine VL.gy rfl rfl (q_seq rfl rfl) (by decide) ?_
                  refine VL.q (q_pick_t rfl rfl) (by decide) ?_
                  refine VL.q (q_move rfl) (by decide) ?_
                  refine VL.split_dec 73 rfl (fun h73 => ?_) (fun h73 => ?_)
                  ·
                    replace hS := it_t h73 hS
                    refine VL.gy rfl rfl (q_move rfl) (by decide) ?_
                    refine VL.gy rfl rfl (q_move rfl) (by decide) ?_
                    obtain ⟨b76, hS⟩ := gd_s hS
                    refine VL.gy rfl rfl (q_add rfl rfl b76) (by decide) ?_
                    refine VL.gy rfl rfl (q_move rfl) (by decide) ?_
                    obtain ⟨b78, hS⟩ := gd_s hS
                    refine VL.gy rfl rfl (q_add rfl rfl b78) (by decide) ?_
                    refine VL.gy rfl rfl (q_eql rfl rfl) (by decide) ?_
                    refine VL.q (q_pick_t rfl rfl) (by decide) ?_
                    refine VL.q (q_assign rfl) (by decide) ?_
                    refine VL.to (fun _ _ h => h) ?_
                    refine VC.keep [4] rfl ?_
                    cases hS
                    exact VC.ret (fin1 (.inr rfl) rfl rfl () rfl trivial (fun _ _ => trivial) (fun _ _ => trivial))
                  ·
                    replace hS := it_f h73 hS
                    refine VL.gn rfl rfl rfl (by decide) ?_
                    refine VL.gn rfl rfl rfl (by decide) ?_
                    refine VL.gn rfl rfl rfl (by decide) ?_
                    refine VL.gn rfl rfl rfl (by decide) ?_
                    refine VL.gn rfl rfl rfl (by decide) ?_
                    refine VL.gn rfl rfl rfl (by decide) ?_
                    refine VL.q (q_pick_f rfl rfl) (by decide) ?_
                    refine VL.q (q_assign rfl) (by decide) ?_
                    refine VL.to (fun _ _ h => h) ?_
                    refine VC.keep [4] rfl ?_
                    cases hS
                    exact VC.ret (fin1 (.inr rfl) rfl rfl () rfl trivial (fun _ _ => trivial) (fun _ _ => trivial))
                ·
                  replace hS := it_f h68 hS
                  refine VL.gn rfl rfl rfl (by decide) ?_
                  refine VL.gn rfl rfl rfl (by decide) ?_
                  refine VL.gn rfl rfl rfl (by decide) ?_
                  refine VL.q (q_pick_f rfl rfl) (by decide) ?_
                  refine VL.q (q_move rfl) (by decide) ?_
                  refine VL.gn rfl rfl rfl (by decide) ?_
                  refine VL.gn rfl rfl rfl (by decide) ?_
                  refine VL.gn rfl rfl rfl (by decide) ?_
                  refine VL.gn rfl rfl rfl (by decide) ?_
                  refine VL.gn rfl rfl rfl (by decide) ?_
                  refine VL.gn rfl rfl rfl (by decide) ?_
                  refine VL.q (q_pick_f rfl rfl) (by decide) ?_
                  refine VL.q (q_assign rfl) (by decide) ?_
                  refine VL.to (fun _ _ h => h) ?_
                  refine VC.keep [4] rfl ?_
                  cases hS
                  exact VC.ret (fin1 (.inr rfl) rfl rfl () rfl trivial (fun _ _ => trivial) (fun _ _ => trivial))
              ·
                replace hS := it_f h63 hS
                refine VL.gn rfl rfl rfl (by decide) ?_
                refine VL.gn rfl rfl rfl (by decide) ?_
                refine VL.gn rfl rfl rfl (by decide) ?_
                refine VL.q (q_pick_f rfl rfl) (by decide) ?_
                refine VL.q (q_move rfl) (by decide) ?_
                refine VL.gn rfl rfl rfl (by decide) ?_
                refine VL.gn rfl rfl rfl (by decide) ?_
                refine VL.gn rfl rfl rfl (by decide) ?_
                refine VL.q (q_pick_f rfl rfl) (by decide) ?_
                refine VL.q (q_move rfl) (by decide) ?_
                refine VL.gn rfl rfl rfl (by decide) ?_
                refine VL.gn rfl rfl rfl (by decide) ?_
                refine VL.gn rfl rfl rfl (by decide) ?_
                refine VL.gn rfl rfl rfl (by decide) ?_
                refine VL.gn rfl rfl rfl (by decide) ?_
                refine VL.gn rfl rfl rfl (by decide) ?_
                refine VL.q (q_pick_f rfl rfl) (by decide) ?_
                refine VL.q (q_assign rfl) (by decide) ?_
                refine VL.to (fun _ _ h => h) ?_
                refine VC.keep [4] rfl ?_
                cases hS
                exact VC.ret (fin1 (.inr rfl) rfl rfl () rfl trivial (fun _ _ => trivial) (fun _ _ => trivial))
            ·
              replace hS := it_f h58 hS
              refine VL.gn rfl rfl rfl (by decide) ?_
              refine VL.gn rfl rfl rfl (by decide) ?_
              refine VL.gn rfl rfl rfl (by decide) ?_
              refine VL.q (q_pick_f rfl rfl) (by decide) ?_
              refine VL.q (q_move rfl) (by decide) ?_
              refine VL.gn rfl rfl rfl (by decide) ?_
              refine VL.gn rfl rfl rfl (by decide) ?_
              refine VL.gn rfl rfl rfl (by decide) ?_
              refine VL.q (q_pick_f rfl rfl) (by decide) ?_
              refine VL.q (q_move rfl) (by decide) ?_
              refine VL.gn rfl rfl rfl (by decide) ?_
              refine VL.gn rfl rfl rfl (by decide) ?_
              refine VL.gn rfl rfl rfl (by decide) ?_
              refine VL.q (q_pick_f rfl rfl) (by decide) ?_
              refine VL.q (q_move rfl) (by decide) ?_
              refine VL.gn rfl rfl rfl (by decide) ?_
              refine VL.gn rfl rfl rfl (by decide) ?_
              refine VL.gn rfl rfl rfl (by decide) ?_
              refine VL.gn rfl rfl rfl (by decide) ?_
              refine VL.gn rfl rfl rfl (by decide) ?_
              refine VL.gn rfl rfl rfl (by decide) ?_
              refine VL.q (q_pick_f rfl rfl) (by decide) ?_
              refine VL.q (q_assign rfl) (by decide) ?_
              refine VL.to (fun _ _ h => h) ?_
              refine VC.keep [4] rfl ?_
              cases hS
              exact VC.ret (fin1 (.inr rfl) rfl rfl () rfl trivial (fun _ _ => trivial) (fun _ _ => trivial))
          ·
            replace hS := it_f h54 hS
            refine VL.gn rfl rfl rfl (by decide) ?_
            refine VL.gn rfl rfl rfl (by decide) ?_
            refine VL.q (q_pick_f rfl rfl) (by decide) ?_
            refine VL.q (q_move rfl) (by decide) ?_
            refine VL.gn rfl rfl rfl (by decide) ?_
            refine VL.gn rfl rfl rfl (by decide) ?_
            refine VL.gn rfl rfl rfl (by decide) ?_
            refine VL.q (q_pick_f rfl rfl) (by decide) ?_
            refine VL.q (q_move rfl) (by decide) ?_
            refine VL.gn rfl rfl rfl (by decide) ?_
            refine VL.gn rfl rfl rfl (by decide) ?_
            refine VL.gn rfl rfl rfl (by decide) ?_
            refine VL.q (q_pick_f rfl rfl) (by decide) ?_
            refine VL.q (q_move rfl) (by decide) ?_
            refine VL.gn rfl rfl rfl (by decide) ?_
            refine VL.gn rfl rfl rfl (by decide) ?_
            refine VL.gn rfl rfl rfl (by decide) ?_
            refine VL.q (q_pick_f rfl rfl) (by decide) ?_
            refine VL.q (q_move rfl) (by decide) ?_
            refine VL.gn rfl rfl rfl (by decide) ?_
            refine VL.gn rfl rfl rfl (by decide) ?_
            refine VL.gn rfl rfl rfl (by decide) ?_
            refine VL.gn rfl rfl rfl (by decide) ?_
            refine VL.gn rfl rfl rfl (by decide) ?_
            refine VL.gn rfl rfl rfl (by decide) ?_
            refine VL.q (q_pick_f rfl rfl) (by decide) ?_
            refine VL.q (q_assign rfl) (by decide) ?_
            refine VL.to (fun _ _ h => h) ?_
            refine VC.keep [4] rfl ?_
            cases hS
            exact VC.ret (fin1 (.inr rfl) rfl rfl () rfl trivial (fun _ _ => trivial) (fun _ _ => trivial))
        ·
          replace hS := it_f h50 hS
          refine VL.gn rfl rfl rfl (by decide) ?_
          refine VL.gn rfl rfl rfl (by decide) ?_
          refine VL.q (q_pick_f rfl rfl) (by decide) ?_
          refine VL.q (q_move rfl) (by decide) ?_
          refine VL.gn rfl rfl rfl (by decide) ?_
          refine VL.gn rfl rfl rfl (by decide) ?_
          refine VL.q (q_pick_f rfl rfl) (by decide) ?_
          refine VL.q (q_move rfl) (by decide) ?_
          refine VL.gn rfl rfl rfl (by decide) ?_
          refine VL.gn rfl rfl rfl (by decide) ?_
          refine VL.gn rfl rfl rfl (by decide) ?_
          refine VL.q (q_pick_f rfl rfl) (by decide) ?_
          refine VL.q (q_move rfl) (by decide) ?_
          refine VL.gn rfl rfl rfl (by decide) ?_
          refine VL.gn rfl rfl rfl (by decide) ?_
          refine VL.gn rfl rfl rfl (by decide) ?_
          refine VL.q (q_pick_f rfl rfl) (by decide) ?_
          refine VL.q (q_move rfl) (by decide) ?_
          refine VL.gn rfl rfl rfl (by decide) ?_
          refine VL.gn rfl rfl rfl (by decide) ?_
          refine VL.gn rfl rfl rfl (by decide) ?_
          refine VL.q (q_pick_f rfl rfl) (by decide) ?_
          refine VL.q (q_move rfl) (by decide) ?_
          refine VL.gn rfl rfl rfl (by decide) ?_
          refine VL.gn rfl rfl rfl (by decide) ?_
          refine VL.gn rfl rfl rfl (by decide) ?_
          refine VL.gn rfl rfl rfl (by decide) ?_
          refine VL.gn rfl rfl rfl (by decide) ?_
          refine VL.gn rfl rfl rfl (by decide) ?_
          refine VL.q (q_pick_f rfl rfl) (by decide) ?_
          refine VL.q (q_assign rfl) (by decide) ?_
          refine VL.to (fun _ _ h => h) ?_
          refine VC.keep [4] rfl ?_
          cases hS
          exact VC.ret (fin1 (.inr rfl) rfl rfl () rfl trivial (fun _ _ => trivial) (fun _ _ => trivial))

set_option maxHeartbeats 4000000 in
set_option maxRecDepth 100000 in
theorem rectolaw13_few_ct (a_0 : Sv Str) {r : Bool} (hS : Sh.rectolaw13_few a_0.l = some r) :
    Ct Try.prog 10 [a_0.val] a_0.ok (Ow.emp) (X := Unit) (fun _ => .bool r) (fun _ => True) (fun _ => Mo.tt) (fun _ => Ow.emp) := by
  refine Ct.of Try.func10 rfl (by kernel_rfl) Try.ntmps10 (by simp) fun c => ?_
  unfold Sh.rectolaw13_few at hS
  refine VC.seq ?_
  refine VC.region ?_
  refine VL.q (q_assign rfl) (by decide) ?_
  refine VL.to (fun _ _ h => h) ?_
  refine VC.seq ?_
  refine VC.seq ?_
  refine VC.region ?_
  refine VL.q (q_move rfl) (by decide) ?_
  refine VL.q (q_ln (s := a_0) Try.underlying28 rfl) (by decide) ?_
  refine VL.q (q_gtr rfl rfl) (by decide) ?_
  refine VL.to (fun _ _ h => h) ?_
  refine VC.cond_dec rfl (fun h6 => ?_) (fun h6 => ?_)
  ·
    replace hS := it_t h6 hS
    refine VC.seq ?_
    refine VC.region ?_
    refine VL.q (q_assign rfl) (by decide) ?_
    refine VL.to (fun _ _ h => h) ?_
    cases hS
    exact VC.ret (fin1 (.inr rfl) rfl rfl () rfl trivial (fun _ _ => trivial) (fun _ _ => trivial))
  ·
    replace hS := it_f h6 hS
    refine VC.skip_to (fun _ _ h => h) ?_
    refine VC.seq ?_
    refine VC.seq ?_
    refine VC.region ?_
    refine VL.q (q_assign rfl) (by decide) ?_
    refine VL.to (fun _ _ h => h) ?_
    refine VC.block ?_
    refine VC.iter (S := Int) (fun (i3_1 : Int) => i3_1) (fun (i3_1 : Int) => [(0, a_0.val), (3, i64 i3_1)]) (fun (i3_1 : Int) => Mo.tt) (fun (i3_1 : Int) => Ow.emp) 0 [0, 3] hS rfl ?_
    clear hS
    rintro i3_1 m1 y1 hS hK1
    show VC _ _ _ _ _ [(0, a_0.val), (3, i64 i3_1)] (Mo.and Mo.tt _) (Ow.emp)
    refine VC.seq ?_
    refine VC.seq ?_
    refine VC.region ?_
    refine VL.q (q_move rfl) (by decide) ?_
    refine VL.q (q_move rfl) (by decide) ?_
    refine VL.q (q_ln (s := a_0) Try.underlying28 rfl) (by decide) ?_
    refine VL.q (q_lss rfl rfl) (by decide) ?_
    refine VL.to (fun _ _ h => h) ?_
    refine VC.cond_dec rfl (fun h10 => ?_) (fun h10 => ?_)
    ·
      replace hS := it_t h10 hS
      refine VC.skip_to (fun _ _ h => h) ?_
      refine VC.seq ?_
      refine VC.block ?_
      refine VC.seq ?_
      refine VC.region ?_
      refine VL.q (q_move rfl) (by decide) ?_
      refine VL.q (q_move rfl) (by decide) ?_
      obtain ⟨z15_2, nz15_2, hz15_2, hS⟩ := at_s hS
      refine VL.q (q_ixm (s := a_0) Try.underlying28 gsz9 rfl rfl nz15_2 (lt_of_get nz15_2 hz15_2)) (by decide) ?_
      refine VL.q (q_el (s := a_0) gone9 rfl hz15_2 rfl) (by decide) ?_
      refine VL.q (q_slen Try.underlying9 rfl) (by decide) ?_
      refine VL.q (q_gtr rfl rfl) (by decide) ?_
      refine VL.to (fun _ _ h => h) ?_
      refine VC.keep [0, 3, 18] rfl ?_
      refine VC.cond_dec rfl (fun h18 => ?_) (fun h18 => ?_)
      ·
        replace hS := it_t h18 hS
        refine VC.seq ?_
        refine VC.region ?_
        refine VL.q (q_assign rfl) (by decide) ?_
        refine VL.to (fun _ _ h => h) ?_
        replace hS := up2 hS hK1
        cases hS
        exact VC.ret (fin1 (.inr rfl) rfl rfl () rfl trivial (fun _ _ => trivial) (fun _ _ => trivial))
      ·
        replace hS := it_f h18 hS
        refine VC.skip_to (fun _ _ h => h) ?_
        refine VC.region ?_
        refine VL.q (q_move rfl) (by decide) ?_
        obtain ⟨b12, hS⟩ := gd_s hS
        refine VL.q (q_add rfl rfl b12) (by decide) ?_
        refine VL.q (q_assign rfl) (by decide) ?_
        refine VL.rnd (i3_1 + 1) [0, 3] (fun _ _ h => h) (go2 hS hK1) rfl
    ·
      replace hS := it_f h10 hS
      replace hS := up2 hS hK1
      refine VC.exit_to (fun _ _ h => h) ?_
      refine VC.seq ?_
      refine VC.region ?_
      refine VL.q (q_assign rfl) (by decide) ?_
      refine VL.to (fun _ _ h => h) ?_
      cases hS
      exact VC.ret (fin1 (.inr rfl) rfl rfl () rfl trivial (fun _ _ => trivial) (fun _ _ => trivial))

set_option maxHeartbeats 4000000 in
set_option maxRecDepth 100000 in
theorem rectoref11_Equal_ct (a_0 : Sv Str) (b_1 : Sv Str) {r : Bool} (hS : Sh.rectoref11_Equal a_0.l b_1.l = some r) :
    Ct Try.prog 12 [a_0.val, b_1.val] (a_0.ok.and b_1.ok) (Ow.emp) (X := Unit) (fun _ => .bool r) (fun _ => True) (fun _ => Mo.tt) (fun _ => Ow.emp) := by
  refine Ct.of Try.func12 rfl (by kernel_rfl) Try.ntmps12 (by simp) fun c => ?_
  unfold Sh.rectoref11_Equal at hS
  refine VC.seq ?_
  refine VC.region ?_
  refine VL.q (q_assign rfl) (by decide) ?_
  refine VL.to (fun _ _ h => h) ?_
  refine VC.seq ?_
  refine VC.seq ?_
  refine VC.region ?_
  refine VL.q (q_move rfl) (by decide) ?_
  refine VL.q (q_ln (s := a_0) Try.underlying28 rfl) (by decide) ?_
  refine VL.q (q_move rfl) (by decide) ?_
  refine VL.q (q_ln (s := b_1) Try.underlying28 rfl) (by decide) ?_
  refine VL.q (q_neq rfl rfl) (by decide) ?_
  refine VL.to (fun _ _ h => h) ?_
  refine VC.cond_ndec rfl (fun h10 => ?_) (fun h10 => ?_)
  ·
    replace hS := it_f h10 hS
    refine VC.seq ?_
    refine VC.region ?_
    refine VL.q (q_assign rfl) (by decide) ?_
    refine VL.to (fun _ _ h => h) ?_
    cases hS
    exact VC.ret (fin1 (.inr rfl) rfl rfl () rfl trivial (fun _ _ => trivial) (fun _ _ => trivial))
  ·
    replace hS := it_t h10 hS
    refine VC.skip_to (fun _ _ h => h) ?_
    refine VC.seq ?_
    refine VC.seq ?_
    refine VC.region ?_
    refine VL.q (q_assign rfl) (by decide) ?_
    refine VL.to (fun _ _ h => h) ?_
    refine VC.block ?_
    refine VC.iter (S := Int) (fun (i5_1 : Int) => i5_1) (fun (i5_1 : Int) => [(0, a_0.val), (1, b_1.val), (5, i64 i5_1)]) (fun (i5_1 : Int) => Mo.tt) (fun (i5_1 : Int) => Ow.emp) 0 [0, 1, 5] hS rfl ?_
    clear hS
    rintro i5_1 m1 y1 hS hK1
    show VC _ _ _ _ _ [(0, a_0.val), (1, b_1.val), (5, i64 i5_1)] (Mo.and Mo.tt _) (Ow.emp)
    refine VC.seq ?_
    refine VC.seq ?_
    refine VC.region ?_
    refine VL.q (q_move rfl) (by decide) ?_
    refine VL.q (q_move rfl) (by decide) ?_
    refine VL.q (q_ln (s := a_0) Try.underlying28 rfl) (by decide) ?_
    refine VL.q (q_lss rfl rfl) (by decide) ?_
    refine VL.to (fun _ _ h => h) ?_
    refine VC.cond_dec rfl (fun h14 => ?_) (fun h14 => ?_)
    ·
      replace hS := it_t h14 hS
      refine VC.skip_to (fun _ _ h => h) ?_
      refine VC.seq ?_
      refine VC.block ?_
      refine VC.seq ?_
      refine VC.draw ((List.range 9).map fun k => (k, true)) mixed (by kernel_rfl) (by kernel_rfl) (by kernel_rfl) ?_
      refine VD.q rfl (q_move rfl) (by decide) ?_
      refine VD.q rfl (q_move rfl) (by decide) ?_
      obtain ⟨z19_2, nz19_2, hz19_2, hS⟩ := at_s hS
      refine VD.q rfl (q_ixm (s := a_0) Try.underlying28 gsz9 rfl rfl nz19_2 (lt_of_get nz19_2 hz19_2)) (by decide) ?_
      refine VD.q rfl (q_el (s := a_0) gone9 rfl hz19_2 rfl) (by decide) ?_
      refine VD.q rfl (q_move rfl) (by decide) ?_
      refine VD.q rfl (q_move rfl) (by decide) ?_
      obtain ⟨z23_3, nz23_3, hz23_3, hS⟩ := at_s hS
      refine VD.q rfl (q_ixm (s := b_1) Try.underlying28 gsz9 rfl rfl nz23_3 (lt_of_get nz23_3 hz23_3)) (by decide) ?_
      refine VD.q rfl (q_el (s := b_1) gone9 rfl hz23_3 rfl) (by decide) ?_
      refine VD.q rfl (q_sne rfl rfl) (by decide) ?_
      refine VD.to (fun _ _ h => h) ?_
      refine VC.keep [0, 1, 5, 25] rfl ?_
      refine VC.cond_ndec rfl (fun h25 => ?_) (fun h25 => ?_)
      ·
        replace hS := it_f h25 hS
        refine VC.seq ?_
        refine VC.region ?_
        refine VL.q (q_assign rfl) (by decide) ?_
        refine VL.to (fun _ _ h => h) ?_
        replace hS := up2 hS hK1
        cases hS
        exact VC.ret (fin1 (.inr rfl) rfl rfl () rfl trivial (fun _ _ => trivial) (fun _ _ => trivial))
      ·
        replace hS := it_t h25 hS
        refine VC.skip_to (fun _ _ h => h) ?_
        refine VC.region ?_
        refine VL.q (q_move rfl) (by decide) ?_
        obtain ⟨b16, hS⟩ := gd_s hS
        refine VL.q (q_add rfl rfl b16) (by decide) ?_
        refine VL.q (q_assign rfl) (by decide) ?_
        refine VL.rnd (i5_1 + 1) [0, 1, 5] (fun _ _ h => h) (go2 hS hK1) rfl
    ·
      replace hS := it_f h14 hS
      replace hS := up2 hS hK1
      refine VC.exit_to (fun _ _ h => h) ?_
      refine VC.seq ?_
      refine VC.region ?_
      refine VL.q (q_assign rfl) (by decide) ?_
      refine VL.to (fun _ _ h => h) ?_
      cases hS
      exact VC.ret (fin1 (.inr rfl) rfl rfl () rfl trivial (fun _ _ => trivial) (fun _ _ => trivial))

set_option maxHeartbeats 4000000 in
set_option maxRecDepth 100000 in
theorem rectolaw13_MergeParts_ct (a_0 : Sv Str) (a_1 : Sv Str) (a_2 : Sv Str) {r : Bool} (hS : Sh.rectolaw13_MergeParts a_0.l a_1.l a_2.l = some r) :
    Ct Try.prog 4 [a_0.val, a_1.val, a_2.val] (a_0.ok.and (a_1.ok.and a_2.ok)) (Ow.emp) (X := Unit) (fun _ => .bool r) (fun _ => True) (fun _ => Mo.tt) (fun _ => Ow.emp) := by
  refine Ct.of Try.func4 rfl (by kernel_rfl) Try.ntmps4 (by simp) fun c => ?_
  unfold Sh.rectolaw13_MergeParts at hS
  refine VC.seq ?_
  refine VC.region ?_
  refine VL.q (q_assign rfl) (by decide) ?_
  refine VL.to (fun _ _ h => h) ?_
  refine VC.seq ?_
  refine VC.seq ?_
  refine VC.region ?_
  obtain ⟨y13_1, ey13_1, hS⟩ := bd_s hS
  refine VL.q (q_call (rectolaw13_known_ct ey13_1) rfl (fun _ _ => rfl)) (by decide) ?_
  refine VL.q (q_not rfl) (by decide) ?_
  refine VL.to (fun _ _ h => h) ?_
  refine VC.cond rfl (fun h14 => ?_) (fun h14 => ?_)
  ·
    replace hS := it_t h14 hS
    refine VC.seq ?_
    refine VC.region ?_
    refine VL.q (q_assign rfl) (by decide) ?_
    refine VL.to (fun _ _ h => h) ?_
    cases hS
    exact VC.ret (fin1 (.inr rfl) rfl rfl () rfl trivial (fun _ _ => trivial) (fun _ _ => trivial))
  ·
    replace hS := it_b h14 hS
    refine VC.skip_to (fun _ _ h => h) ?_
    refine VC.seq ?_
    refine VC.cutJ (S := Bool) (fun (x42_2 : Bool) => x42_2) (fun (x42_2 : Bool) => [(0, a_0.val), (1, a_1.val), (2, a_2.val), (42, .bool x42_2)]) (fun (x42_2 : Bool) => Mo.tt) (fun (x42_2 : Bool) => Ow.emp) hS ?_ ?_
    · -- up to where ways meet
      clear hS
      intro k3 hS
      refine VC.region ?_
      refine VL.q (q_move rfl) (by decide) ?_
      obtain ⟨y16_4, ey16_4, hS⟩ := bd_s hS
      refine VL.q (q_call (rectolaw13_few_ct a_0 ey16_4) rfl (fun _ _ => rfl)) (by decide) ?_
      refine VL.q (q_not rfl) (by decide) ?_
      refine VL.q (q_move rfl) (by decide) ?_
      refine VL.split 18 rfl (fun h18 => ?_) (fun h18 => ?_)
      ·
        replace hS := it_t h18 hS
        refine VL.gn rfl rfl rfl (by decide) ?_
        refine VL.gn rfl rfl rfl (by decide) ?_
        refine VL.gn rfl rfl rfl (by decide) ?_
        refine VL.q (q_pick_t rfl rfl) (by decide) ?_
        refine VL.q (q_move rfl) (by decide) ?_
        refine VL.gn rfl rfl rfl (by decide) ?_
        refine VL.gn rfl rfl rfl (by decide) ?_
        refine VL.gn rfl rfl rfl (by decide) ?_
        refine VL.q (q_pick_t rfl rfl) (by decide) ?_
        refine VL.q (q_move rfl) (by decide) ?_
        refine VL.gn rfl rfl rfl (by decide) ?_
        refine VL.gn rfl rfl rfl (by decide) ?_
        refine VL.gn rfl rfl rfl (by decide) ?_
        refine VL.q (q_pick_t rfl rfl) (by decide) ?_
        refine VL.q (q_move rfl) (by decide) ?_
        refine VL.gn rfl rfl rfl (by decide) ?_
        refine VL.gn rfl rfl rfl (by decide) ?_
        refine VL.gn rfl rfl rfl (by decide) ?_
        refine VL.q (q_pick_t rfl rfl) (by decide) ?_
        refine VL.q (q_move rfl) (by decide) ?_
        refine VL.gn rfl rfl rfl (by decide) ?_
        refine VL.gn rfl rfl rfl (by decide) ?_
        refine VL.gn rfl rfl rfl (by decide) ?_
        refine VL.q (q_pick_t rfl rfl) (by decide) ?_
        refine VL.mt true [0, 1, 2, 42] (fun _ _ h => h) hS rfl
      ·
        replace hS := it_b h18 hS
        refine VL.gy rfl rfl (q_move rfl) (by decide) ?_
        obtain ⟨y20_5, ey20_5, hS⟩ := bd_s hS
        refine VL.gy rfl rfl (q_call (rectolaw13_few_ct a_1 ey20_5) rfl (fun _ _ => rfl)) (by decide) ?_
        refine VL.gy rfl rfl (q_not rfl) (by decide) ?_
        refine VL.q (q_pick_f rfl rfl) (by decide) ?_
        refine VL.q (q_move rfl) (by decide) ?_
        refine VL.split 23 rfl (fun h23 => ?_) (fun h23 => ?_)
        ·
          replace hS := it_t h23 hS
          refine VL.gn rfl rfl rfl (by decide) ?_
          refine VL.gn rfl rfl rfl (by decide) ?_
          refine VL.gn rfl rfl rfl (by decide) ?_
          refine VL.q (q_pick_t rfl rfl) (by decide) ?_
          refine VL.q (q_move rfl) (by decide) ?_
          refine VL.gn rfl rfl rfl (by decide) ?_
          refine VL.gn rfl rfl rfl (by decide) ?_
          refine VL.gn rfl rfl rfl (by decide) ?_
          refine VL.q (q_pick_t rfl rfl) (by decide) ?_
          refine VL.q (q_move rfl) (by decide) ?_
          refine VL.gn rfl rfl rfl (by decide) ?_
          refine VL.gn rfl rfl rfl (by decide) ?_
          refine VL.gn rfl rfl rfl (by decide) ?_
          refine VL.q (q_pick_t rfl rfl) (by decide) ?_
          refine VL.q (q_move rfl) (by decide) ?_
          refine VL.gn rfl rfl rfl (by decide) ?_
          refine VL.gn rfl rfl rfl (by decide) ?_
          refine VL.gn rfl rfl rfl (by decide) ?_
          refine VL.q (q_pick_t rfl rfl) (by decide) ?_
          refine VL.mt true [0, 1, 2, 42] (fun _ _ h => h) hS rfl
        ·
          replace hS := it_b h23 hS
          refine VL.gy rfl rfl (q_move rfl) (by decide) ?_
          obtain ⟨y25_6, ey25_6, hS⟩ := bd_s hS
          refine VL.gy rfl rfl (q_call (rectolaw13_few_ct a_2 ey25_6) rfl (fun _ _ => rfl)) (by decide) ?_
          refine VL.gy rfl rfl (q_not rfl) (by decide) ?_
          refine VL.q (q_pick_f rfl rfl) (by decide) ?_
          refine VL.q (q_move rfl) (by decide) ?_
          refine VL.split 28 rfl (fun h28 => ?_) (fun h28 => ?_)
          ·
            replace hS := it_t h28 hS
            refine VL.gn rfl rfl rfl (by decide) ?_
            refine VL.gn rfl rfl rfl (by decide) ?_
            refine VL.gn rfl rfl rfl (by decide) ?_
            refine VL.q (q_pick_t rfl rfl) (by decide) ?_
            refine VL.q (q_move rfl) (by decide) ?_
            refine VL.gn rfl rfl rfl (by decide) ?_
            refine VL.gn rfl rfl rfl (by decide) ?_
            refine VL.gn rfl rfl rfl (by decide) ?_
            refine VL.q (q_pick_t rfl rfl) (by decide) ?_
            refine VL.q (q_move rfl) (by decide) ?_
            refine VL.gn rfl rfl rfl (by decide) ?_
            refine VL.gn rfl rfl rfl (by decide) ?_
            refine VL.gn rfl rfl rfl (by decide) ?_
            refine VL.q (q_pick_t rfl rfl) (by decide) ?_
            refine VL.mt true [0, 1, 2, 42] (fun _ _ h => h) hS rfl
          ·
            replace hS := it_b h28 hS
            refine VL.gy rfl rfl (q_move rfl) (by decide) ?_
            refine VL.gy rfl rfl (q_ln (s := a_0) Try.underlying28 rfl) (by decide) ?_
            refine VL.gy rfl rfl (q_gtr rfl rfl) (by decide) ?_
            refine VL.q (q_pick_f rfl rfl) (by decide) ?_
            refine VL.q (q_move rfl) (by decide) ?_
            refine VL.split_dec 33 rfl (fun h33 => ?_) (fun h33 => ?_)
            ·
              replace hS := it_t h33 hS
              refine VL.gn rfl rfl rfl (by decide) ?_
              refine VL.gn rfl rfl rfl (by decide) ?_
              refine VL.gn rfl rfl rfl (by decide) ?_
              refine VL.q (q_pick_t rfl rfl) (by decide) ?_
              refine VL.q (q_move rfl) (by decide) ?_
              refine VL.gn rfl rfl rfl (by decide) ?_
              refine VL.gn rfl rfl rfl (by decide) ?_
              refine VL.gn rfl rfl rfl (by decide) ?_
              refine VL.q (q_pick_t rfl rfl) (by decide) ?_
              refine VL.mt true [0, 1, 2, 42] (fun _ _ h => h) hS rfl
            ·
              replace hS := it_f h33 hS
              refine VL.gy rfl rfl (q_move rfl) (by decide) ?_
              refine VL.gy rfl rfl (q_ln (s := a_1) Try.underlying28 rfl) (by decide) ?_
              refine VL.gy rfl rfl (q_gtr rfl rfl) (by decide) ?_
              refine VL.q (q_pick_f rfl rfl) (by decide) ?_
              refine VL.q (q_move rfl) (by decide) ?_
              refine VL.split_dec 38 rfl (fun h38 => ?_) (fun h38 => ?_)
              ·
                replace hS := it_t h38 hS
                refine VL.gn rfl rfl rfl (by decide) ?_
                refine VL.gn rfl rfl rfl (by decide) ?_
                refine VL.gn rfl rfl rfl (by decide) ?_
                refine VL.q (q_pick_t rfl rfl) (by decide) ?_
                refine VL.mt true [0, 1, 2, 42] (fun _ _ h => h) hS rfl
              ·
                replace hS := it_f h38 hS
                refine VL.gy rfl rfl (q_move rfl) (by decide) ?_
                refine VL.gy rfl rfl (q_ln (s := a_2) Try.underlying28 rfl) (by decide) ?_
                refine VL.gy rfl rfl (q_gtr rfl rfl) (by decide) ?_
                refine VL.q (q_pick_f rfl rfl) (by decide) ?_
                refine VL.mt (decide (40 < (a_2.l.length : Int))) [0, 1, 2, 42] (fun _ _ h => h) hS rfl
    · -- from there
      clear hS
      rintro x42_2 hS
      show VC _ _ _ _ _ [(0, a_0.val), (1, a_1.val), (2, a_2.val), (42, .bool x42_2)] (Mo.and Mo.tt _) (Ow.emp)
      refine VC.cond rfl (fun h42 => ?_) (fun h42 => ?_)
      ·
        replace hS := it_t h42 hS
        refine VC.seq ?_
        refine VC.region ?_
        refine VL.q (q_assign rfl) (by decide) ?_
        refine VL.to (fun _ _ h => h) ?_
        cases hS
        exact VC.ret (fin1 (.inr rfl) rfl rfl () rfl trivial (fun _ _ => trivial) (fun _ _ => trivial))
      ·
        replace hS := it_b h42 hS
        refine VC.skip_to (fun _ _ h => h) ?_
        refine VC.seq ?_
        refine VC.region ?_
        refine VL.q (q_move rfl) (by decide) ?_
        refine VL.q (q_move rfl) (by decide) ?_
        refine VL.q (q_move rfl) (by decide) ?_
        obtain ⟨y47_7, ey47_7, hS⟩ := bd_s hS
        refine VL.callF (chunks2_ct a_0 a_1 a_2 ey47_7) rfl (by decide) ?_
        rintro q47_7_0 rfl
        try dsimp only
        refine VL.q (q_move rfl) (by decide) ?_
        refine VL.q (q_extract rfl rfl) (by decide) ?_
        refine VL.q (q_extract rfl rfl) (by decide) ?_
        refine VL.q (q_assign rfl) (by decide) ?_
        refine VL.q (q_assign rfl) (by decide) ?_
        refine VL.to (fun _ _ h => h) ?_
        refine VC.keep [0, 1, 2, 7, 8] rfl ?_
        refine VC.seq ?_
        refine VC.region ?_
        refine VL.q (q_assign rfl) (by decide) ?_
        refine VL.q (q_assign rfl) (by decide) ?_
        refine VL.q (q_assign rfl) (by decide) ?_
        refine VL.to (fun _ _ h => h) ?_
        refine VC.seq ?_
        refine VC.seq ?_
        refine VC.region ?_
        refine VL.q (q_assign rfl) (by decide) ?_
        refine VL.to (fun _ _ h => h) ?_
        refine VC.block ?_
        refine VC.nilO (⟨none, 0, []⟩ : Sv Str) 9 ⟨rfl, rfl⟩ ?_
        refine VC.nilO (⟨none, 0, []⟩ : Sv Str) 9 ⟨rfl, rfl⟩ ?_
        refine VC.nilO (⟨none, 0, []⟩ : Sv Str) 9 ⟨rfl, rfl⟩ ?_
        refine VC.iter (S := Sv Str × Sv Str × Sv Str × Int) (fun sg => (sg.1.l, sg.2.1.l, sg.2.2.1.l, sg.2.2.2)) (fun sg => [(0, a_0.val), (1, a_1.val), (2, a_2.val), (7, q47_7_0.val), (8, .nilIface), (9, sg.1.val), (10, sg.2.1.val), (11, sg.2.2.1.val), (12, i64 sg.2.2.2)]) (fun sg => Mo.tt) (fun sg => Ow.star (Sv.own sg.1 9) (Ow.star (Sv.own sg.2.1 9) (Ow.star (Sv.own sg.2.2.1 9) (Ow.emp)))) (⟨none, 0, []⟩, ⟨none, 0, []⟩, ⟨none, 0, []⟩, 0) [0, 1, 2, 7, 8, 9, 10, 11, 12] hS rfl ?_
        clear hS
        rintro ⟨x9_8, x10_9, x11_10, x12_11⟩ m1 y1 hS hK1
        show VC _ _ _ _ _ [(0, a_0.val), (1, a_1.val), (2, a_2.val), (7, q47_7_0.val), (8, .nilIface), (9, x9_8.val), (10, x10_9.val), (11, x11_10.val), (12, i64 x12_11)] (Mo.and Mo.tt _) (Ow.star (Sv.own x9_8 9) (Ow.star (Sv.own x10_9 9) (Ow.star (Sv.own x11_10 9) (Ow.emp))))
        refine VC.seq ?_
        refine VC.seq ?_
        refine VC.region ?_
        refine VL.q (q_move rfl) (by decide) ?_
        refine VL.q (q_move rfl) (by decide) ?_
        refine VL.q (q_lnm Ck.pl (s := q47_7_0) Try.underlying30 rfl) (by decide) ?_
        refine VL.q (q_lss rfl rfl) (by decide) ?_
        refine VL.to (fun _ _ h => h) ?_
        refine VC.cond_dec rfl (fun h53 => ?_) (fun h53 => ?_)
        ·
          replace hS := it_t h53 hS
          refine VC.skip_to (fun _ _ h => h) ?_
          refine VC.seq ?_
          refine VC.block ?_
          refine VC.seq ?_
          refine VC.region ?_
          refine VL.q (q_move rfl) (by decide) ?_
          refine VL.q (q_move rfl) (by decide) ?_
          refine VL.q (q_move rfl) (by decide) ?_
          obtain ⟨z59_12, nz59_12, hz59_12, hS⟩ := atm_s hS
          refine VL.deep z59_12.m hz59_12 (fun _ q => q) ?_
          refine VL.q (q_ixm (s := q47_7_0) Try.underlying30 gsz34 rfl rfl nz59_12 (lt_of_get nz59_12 hz59_12)) (by decide) ?_
          refine VL.q (q_field gfa34_0 rfl) (by decide) ?_
          refine VL.q (q_elf (s := q47_7_0) gone28 rfl hz59_12 rfl) (by decide) ?_
          obtain ⟨b62, hS⟩ := gd_s hS
          refine VL.app (s := x9_8) (r := z59_12.base) Try.underlying28 gapp9 (by decide) rfl Fo.out (ap1 b62) (ap2 b62 (by decide)) (by decide) (fun s62_13 hs62_13 => ?_)
          replace hS := lt_to hs62_13 hS
          refine VL.q (q_assign rfl) (by decide) ?_
          refine VL.to (fun _ _ h => h) ?_
          refine VC.keep [0, 1, 2, 7, 8, 9, 10, 11, 12] rfl ?_
          refine VC.seq ?_
          refine VC.region ?_
          refine VL.q (q_move rfl) (by decide) ?_
          refine VL.q (q_move rfl) (by decide) ?_
          refine VL.q (q_move rfl) (by decide) ?_
          obtain ⟨z66_15, nz66_15, hz66_15, hS⟩ := atm_s hS
          refine VL.deep z66_15.m hz66_15 (fun _ q => q) ?_
          refine VL.q (q_ixm (s := q47_7_0) Try.underlying30 gsz34 rfl rfl nz66_15 (lt_of_get nz66_15 hz66_15)) (by decide) ?_
          refine VL.q (q_field gfa34_1 rfl) (by decide) ?_
          refine VL.q (q_elf (s := q47_7_0) gone28 rfl hz66_15 rfl) (by decide) ?_
          obtain ⟨b69, hS⟩ := gd_s hS
          refine VL.app (s := x10_9) (r := z66_15.ours) Try.underlying28 gapp9 (by decide) rfl Fo.out (ap1 b69) (ap2 b69 (by decide)) (by decide) (fun s69_16 hs69_16 => ?_)
          replace hS := lt_to hs69_16 hS
          refine VL.q (q_assign rfl) (by decide) ?_
          refine VL.to (fun _ _ h => h) ?_
          refine VC.keep [0, 1, 2, 7, 8, 9, 10, 11, 12] rfl ?_
          refine VC.seq ?_
          refine VC.region ?_
          refine VL.q (q_move rfl) (by decide) ?_
          refine VL.q (q_move rfl) (by decide) ?_
          refine VL.q (q_move rfl) (by decide) ?_
          obtain ⟨z73_18, nz73_18, hz73_18, hS⟩ := atm_s hS
          refine VL.deep z73_18.m hz73_18 (fun _ q => q) ?_
          refine VL.q (q_ixm (s := q47_7_0) Try.underlying30 gsz34 rfl rfl nz73_18 (lt_of_get nz73_18 hz73_18)) (by decide) ?_
          refine VL.q (q_field gfa34_2 rfl) (by decide) ?_
          refine VL.q (q_elf (s := q47_7_0) gone28 rfl hz73_18 rfl) (by decide) ?_
          obtain ⟨b76, hS⟩ := gd_s hS
          refine VL.app (s := x11_10) (r := z73_18.theirs) Try.underlying28 gapp9 (by decide) rfl Fo.out (ap1 b76) (ap2 b76 (by decide)) (by decide) (fun s76_19 hs76_19 => ?_)
          replace hS := lt_to hs76_19 hS
          refine VL.q (q_assign rfl) (by decide) ?_
          refine VL.to (fun _ _ h => h) ?_
          refine VC.keep [0, 1, 2, 7, 8, 9, 10, 11, 12] rfl ?_
          refine VC.cutJ (S := Bool) (fun (x131_21 : Bool) => x131_21) (fun (x131_21 : Bool) => [(0, a_0.val), (1, a_1.val), (2, a_2.val), (7, q47_7_0.val), (8, .nilIface), (9, s62_13.val), (10, s69_16.val), (11, s76_19.val), (12, i64 x12_11), (131, .bool x131_21)]) (fun (x131_21 : Bool) => Mo.tt) (fun (x131_21 : Bool) => Ow.star (Sv.own s76_19 9) (Ow.star (Sv.own s69_16 9) (Ow.star (Sv.own s62_13 9) (Ow.emp)))) hS ?_ ?_
          · -- up to where ways meet
            clear hS
            intro k22 hS
            refine VC.draw ((List.range 55).map fun k => (k, true)) mixed (by kernel_rfl) (by kernel_rfl) (by kernel_rfl) ?_
            refine VD.q rfl (q_move rfl) (by decide) ?_
            refine VD.q rfl (q_move rfl) (by decide) ?_
            obtain ⟨z79_23, nz79_23, hz79_23, hS⟩ := atm_s hS
            refine VD.deep z79_23.m hz79_23 (fun _ q => q) ?_
            refine VD.q rfl (q_ixm (s := q47_7_0) Try.underlying30 gsz34 rfl rfl nz79_23 (lt_of_get nz79_23 hz79_23)) (by decide) ?_
            refine VD.q rfl (q_field gfa34_3 rfl) (by decide) ?_
            refine VD.q rfl (q_elf (s := q47_7_0) gone4 rfl hz79_23 rfl) (by decide) ?_
            refine VD.q rfl (q_move rfl) (by decide) ?_
            refine VD.q rfl (q_move rfl) (by decide) ?_
            obtain ⟨z84_24, nz84_24, hz84_24, hS⟩ := atm_s hS
            refine VD.deep z84_24.m hz84_24 (fun _ q => q) ?_
            refine VD.q rfl (q_ixm (s := q47_7_0) Try.underlying30 gsz34 rfl rfl nz84_24 (lt_of_get nz84_24 hz84_24)) (by decide) ?_
            refine VD.q rfl (q_field gfa34_4 rfl) (by decide) ?_
            refine VD.q rfl (q_elf (s := q47_7_0) gone28 rfl hz84_24 rfl) (by decide) ?_
            refine VD.q rfl (q_ln (s := z84_24.out) Try.underlying28 rfl) (by decide) ?_
            refine VD.q rfl (q_eql rfl rfl) (by decide) ?_
            refine VD.q rfl (q_move rfl) (by decide) ?_
            refine VD.split_dec 89 rfl (fun h89 => ?_) (fun h89 => ?_)
            ·
              replace hS := it_t h89 hS
              refine VD.gy rfl rfl rfl (q_move rfl) (by decide) ?_
              refine VD.gy rfl rfl rfl (q_move rfl) (by decide) ?_
              obtain ⟨z92_25, nz92_25, hz92_25, hS⟩ := atm_s hS
              refine VD.deep z92_25.m hz92_25 (fun _ q => q) ?_
              refine VD.gy rfl rfl rfl (q_ixm (s := q47_7_0) Try.underlying30 gsz34 rfl rfl nz92_25 (lt_of_get nz92_25 hz92_25)) (by decide) ?_
              refine VD.gy rfl rfl rfl (q_field gfa34_1 rfl) (by decide) ?_
              refine VD.gy rfl rfl rfl (q_elf (s := q47_7_0) gone28 rfl hz92_25 rfl) (by decide) ?_
              refine VD.gy rfl rfl rfl (q_move rfl) (by decide) ?_
              refine VD.gy rfl rfl rfl (q_move rfl) (by decide) ?_
              obtain ⟨z97_26, nz97_26, hz97_26, hS⟩ := atm_s hS
              refine VD.deep z97_26.m hz97_26 (fun _ q => q) ?_
              refine VD.gy rfl rfl rfl (q_ixm (s := q47_7_0) Try.underlying30 gsz34 rfl rfl nz97_26 (lt_of_get nz97_26 hz97_26)) (by decide) ?_
              refine VD.gy rfl rfl rfl (q_field gfa34_0 rfl) (by decide) ?_
              refine VD.gy rfl rfl rfl (q_elf (s := q47_7_0) gone28 rfl hz97_26 rfl) (by decide) ?_
              obtain ⟨y100_27, ey100_27, hS⟩ := bd_s hS
              refine VD.gy rfl rfl rfl (q_call (rectoref11_Equal_ct z92_25.ours z97_26.base ey100_27) rfl (fun _ _ => rfl)) (by decide) ?_
              refine VD.gy rfl rfl rfl (q_not rfl) (by decide) ?_
              refine VD.q rfl (q_pick_t rfl rfl) (by decide) ?_
              refine VD.q rfl (q_move rfl) (by decide) ?_
              refine VD.split 103 rfl (fun h103 => ?_) (fun h103 => ?_)
              ·
                replace hS := it_t h103 hS
                refine VD.gy rfl rfl rfl (q_move rfl) (by decide) ?_
                refine VD.gy rfl rfl rfl (q_move rfl) (by decide) ?_
                obtain ⟨z106_28, nz106_28, hz106_28, hS⟩ := atm_s hS
                refine VD.deep z106_28.m hz106_28 (fun _ q => q) ?_
                refine VD.gy rfl rfl rfl (q_ixm (s := q47_7_0) Try.underlying30 gsz34 rfl rfl nz106_28 (lt_of_get nz106_28 hz106_28)) (by decide) ?_
                refine VD.gy rfl rfl rfl (q_field gfa34_2 rfl) (by decide) ?_
                refine VD.gy rfl rfl rfl (q_elf (s := q47_7_0) gone28 rfl hz106_28 rfl) (by decide) ?_
                refine VD.gy rfl rfl rfl (q_move rfl) (by decide) ?_
                refine VD.gy rfl rfl rfl (q_move rfl) (by decide) ?_
                obtain ⟨z111_29, nz111_29, hz111_29, hS⟩ := atm_s hS
                refine VD.deep z111_29.m hz111_29 (fun _ q => q) ?_
                refine VD.gy rfl rfl rfl (q_ixm (s := q47_7_0) Try.underlying30 gsz34 rfl rfl nz111_29 (lt_of_get nz111_29 hz111_29)) (by decide) ?_
                refine VD.gy rfl rfl rfl (q_field gfa34_0 rfl) (by decide) ?_
                refine VD.gy rfl rfl rfl (q_elf (s := q47_7_0) gone28 rfl hz111_29 rfl) (by decide) ?_
                obtain ⟨y114_30, ey114_30, hS⟩ := bd_s hS
                refine VD.gy rfl rfl rfl (q_call (rectoref11_Equal_ct z106_28.theirs z111_29.base ey114_30) rfl (fun _ _ => rfl)) (by decide) ?_
                refine VD.gy rfl rfl rfl (q_not rfl) (by decide) ?_
                refine VD.q rfl (q_pick_t rfl rfl) (by decide) ?_
                refine VD.q rfl (q_move rfl) (by decide) ?_
                refine VD.split 117 rfl (fun h117 => ?_) (fun h117 => ?_)
                ·
                  replace hS := it_t h117 hS
                  refine VD.gy rfl rfl rfl (q_move rfl) (by decide) ?_
                  refine VD.gy rfl rfl rfl (q_move rfl) (by decide) ?_
                  obtain ⟨z120_31, nz120_31, hz120_31, hS⟩ := atm_s hS
                  refine VD.deep z120_31.m hz120_31 (fun _ q => q) ?_
                  refine VD.gy rfl rfl rfl (q_ixm (s := q47_7_0) Try.underlying30 gsz34 rfl rfl nz120_31 (lt_of_get nz120_31 hz120_31)) (by decide) ?_
                  refine VD.gy rfl rfl rfl (q_field gfa34_1 rfl) (by decide) ?_
                  refine VD.gy rfl rfl rfl (q_elf (s := q47_7_0) gone28 rfl hz120_31 rfl) (by decide) ?_
                  refine VD.gy rfl rfl rfl (q_move rfl) (by decide) ?_
                  refine VD.gy rfl rfl rfl (q_move rfl) (by decide) ?_
                  obtain ⟨z125_32, nz125_32, hz125_32, hS⟩ := atm_s hS
                  refine VD.deep z125_32.m hz125_32 (fun _ q => q) ?_
                  refine VD.gy rfl rfl rfl (q_ixm (s := q47_7_0) Try.underlying30 gsz34 rfl rfl nz125_32 (lt_of_get nz125_32 hz125_32)) (by decide) ?_
                  refine VD.gy rfl rfl rfl (q_field gfa34_2 rfl) (by decide) ?_
                  refine VD.gy rfl rfl rfl (q_elf (s := q47_7_0) gone28 rfl hz125_32 rfl) (by decide) ?_
                  obtain ⟨y128_33, ey128_33, hS⟩ := bd_s hS
                  refine VD.gy rfl rfl rfl (q_call (rectoref11_Equal_ct z120_31.ours z125_32.theirs ey128_33) rfl (fun _ _ => rfl)) (by decide) ?_
                  refine VD.gy rfl rfl rfl (q_not rfl) (by decide) ?_
                  refine VD.q rfl (q_pick_t rfl rfl) (by decide) ?_
                  refine VD.q rfl (q_bneq Try.underlying4 rfl rfl) (by decide) ?_
                  refine VD.mt (!decide (z79_23.clash = (!y128_33))) [0, 1, 2, 7, 8, 9, 10, 11, 12, 131] (fun _ _ h => h) hS rfl
                ·
                  replace hS := it_b h117 hS
                  refine VD.gn rfl rfl rfl rfl (by decide) ?_
                  refine VD.gn rfl rfl rfl rfl (by decide) ?_
                  refine VD.gn rfl rfl rfl rfl (by decide) ?_
                  refine VD.gn rfl rfl rfl rfl (by decide) ?_
                  refine VD.gn rfl rfl rfl rfl (by decide) ?_
                  refine VD.gn rfl rfl rfl rfl (by decide) ?_
                  refine VD.gn rfl rfl rfl rfl (by decide) ?_
                  refine VD.gn rfl rfl rfl rfl (by decide) ?_
                  refine VD.gn rfl rfl rfl rfl (by decide) ?_
                  refine VD.gn rfl rfl rfl rfl (by decide) ?_
                  refine VD.gn rfl rfl rfl rfl (by decide) ?_
                  refine VD.gn rfl rfl rfl rfl (by decide) ?_
                  refine VD.q rfl (q_pick_f rfl rfl) (by decide) ?_
                  refine VD.q rfl (q_bneq Try.underlying4 rfl rfl) (by decide) ?_
                  refine VD.mt (!decide (z79_23.clash = false)) [0, 1, 2, 7, 8, 9, 10, 11, 12, 131] (fun _ _ h => h) hS rfl
              ·
                replace hS := it_b h103 hS
                refine VD.gn rfl rfl rfl rfl (by decide) ?_
                refine VD.gn rfl rfl rfl rfl (by decide) ?_
                refine VD.gn rfl rfl rfl rfl (by decide) ?_
                refine VD.gn rfl rfl rfl rfl (by decide) ?_
                refine VD.gn rfl rfl rfl rfl (by decide) ?_
                refine VD.gn rfl rfl rfl rfl (by decide) ?_
                refine VD.gn rfl rfl rfl rfl (by decide) ?_
                refine VD.gn rfl rfl rfl rfl (by decide) ?_
                refine VD.gn rfl rfl rfl rfl (by decide) ?_
                refine VD.gn rfl rfl rfl rfl (by decide) ?_
                refine VD.gn rfl rfl rfl rfl (by decide) ?_
                refine VD.gn rfl rfl rfl rfl (by decide) ?_
                refine VD.q rfl (q_pick_f rfl rfl) (by decide) ?_
                refine VD.q rfl (q_move rfl) (by decide) ?_
                refine VD.gn rfl rfl rfl rfl (by decide) ?_
                refine VD.gn rfl rfl rfl rfl (by decide) ?_
                refine VD.gn rfl rfl rfl rfl (by decide) ?_
                refine VD.gn rfl rfl rfl rfl (by decide) ?_
                refine VD.gn rfl rfl rfl rfl (by decide) ?_
                refine VD.gn rfl rfl rfl rfl (by decide) ?_
                refine VD.gn rfl rfl rfl rfl (by decide) ?_
                refine VD.gn rfl rfl rfl rfl (by decide) ?_
                refine VD.gn rfl rfl rfl rfl (by decide) ?_
                refine VD.gn rfl rfl rfl rfl (by decide) ?_
                refine VD.gn rfl rfl rfl rfl (by decide) ?_
                refine VD.gn rfl rfl rfl rfl (by decide) ?_
                refine VD.q rfl (q_pick_f rfl rfl) (by decide) ?_
                refine VD.q rfl (q_bneq Try.underlying4 rfl rfl) (by decide) ?_
                refine VD.mt (!decide (z79_23.clash = false)) [0, 1, 2, 7, 8, 9, 10, 11, 12, 131] (fun _ _ h => h) hS rfl
            ·
              replace hS := it_f h89 hS
              refine VD.gn rfl rfl rfl rfl (by decide) ?_
              refine VD.gn rfl rfl rfl rfl (by decide) ?_
              refine VD.gn rfl rfl rfl rfl (by decide) ?_
              refine VD.gn rfl rfl rfl rfl (by decide) ?_
              refine VD.gn rfl rfl rfl rfl (by decide) ?_
              refine VD.gn rfl rfl rfl rfl (by decide) ?_
              refine VD.gn rfl rfl rfl rfl (by decide) ?_
              refine VD.gn rfl rfl rfl rfl (by decide) ?_
              refine VD.gn rfl rfl rfl rfl (by decide) ?_
              refine VD.gn rfl rfl rfl rfl (by decide) ?_
              refine VD.gn rfl rfl rfl rfl (by decide) ?_
              refine VD.gn rfl rfl rfl rfl (by decide) ?_
              refine VD.q rfl (q_pick_f rfl rfl) (by decide) ?_
              refine VD.q rfl (q_move rfl) (by decide) ?_
              refine VD.gn rfl rfl rfl rfl (by decide) ?_
              refine VD.gn rfl rfl rfl rfl (by decide) ?_
              refine VD.gn rfl rfl rfl rfl (by decide) ?_
              refine VD.gn rfl rfl rfl rfl (by decide) ?_
              refine VD.gn rfl rfl rfl rfl (by decide) ?_
              refine VD.gn rfl rfl rfl rfl (by decide) ?_
              refine VD.gn rfl rfl rfl rfl (by decide) ?_
              refine VD.gn rfl rfl rfl rfl (by decide) ?_
              refine VD.gn rfl rfl rfl rfl (by decide) ?_
              refine VD.gn rfl rfl rfl rfl (by decide) ?_
              refine VD.gn rfl rfl rfl rfl (by decide) ?_
              refine VD.gn rfl rfl rfl rfl (by decide) ?_
              refine VD.q rfl (q_pick_f rfl rfl) (by decide) ?_
              refine VD.q rfl (q_move rfl) (by decide) ?_
              refine VD.gn rfl rfl rfl rfl (by decide) ?_
              refine VD.gn rfl rfl rfl rfl (by decide) ?_
              refine VD.gn rfl rfl rfl rfl (by decide) ?_
              refine VD.gn rfl rfl rfl rfl (by decide) ?_
              refine VD.gn rfl rfl rfl rfl (by decide) ?_
              refine VD.gn rfl rfl rfl rfl (by decide) ?_
              refine VD.gn rfl rfl rfl rfl (by decide) ?_
              refine VD.gn rfl rfl rfl rfl (by decide) ?_
              refine VD.gn rfl rfl rfl rfl (by decide) ?_
              refine VD.gn rfl rfl rfl rfl (by decide) ?_
              refine VD.gn rfl rfl rfl rfl (by decide) ?_
              refine VD.gn rfl rfl rfl rfl (by decide) ?_
              refine VD.q rfl (q_pick_f rfl rfl) (by decide) ?_
              refine VD.q rfl (q_bneq Try.underlying4 rfl rfl) (by decide) ?_
              refine VD.mt (!decide (z79_23.clash = false)) [0, 1, 2, 7, 8, 9, 10, 11, 12, 131] (fun _ _ h => h) hS rfl
          · -- from there
            clear hS
            rintro x131_21 hS
            show VC _ _ _ _ _ [(0, a_0.val), (1, a_1.val), (2, a_2.val), (7, q47_7_0.val), (8, .nilIface), (9, s62_13.val), (10, s69_16.val), (11, s76_19.val), (12, i64 x12_11), (131, .bool x131_21)] (Mo.and Mo.tt _) (Ow.star (Sv.own s76_19 9) (Ow.star (Sv.own s69_16 9) (Ow.star (Sv.own s62_13 9) (Ow.emp))))
            refine VC.cond rfl (fun h131 => ?_) (fun h131 => ?_)
            ·
              replace hS := it_t h131 hS
              refine VC.seq ?_
              refine VC.region ?_
              refine VL.q (q_assign rfl) (by decide) ?_
              refine VL.to (fun _ _ h => h) ?_
              refine VC.keep [6] rfl ?_
              replace hS := up2 hS hK1
              cases hS
              exact VC.ret (fin1 (.inr rfl) rfl rfl () rfl trivial (fun _ _ => trivial) (fun _ _ => trivial))
            ·
              replace hS := it_b h131 hS
              refine VC.skip_to (fun _ _ h => h) ?_
              refine VC.region ?_
              refine VL.q (q_move rfl) (by decide) ?_
              obtain ⟨b55, hS⟩ := gd_s hS
              refine VL.q (q_add rfl rfl b55) (by decide) ?_
              refine VL.q (q_assign rfl) (by decide) ?_
              refine VL.rnd (s62_13, s69_16, s76_19, (x12_11 + 1)) [0, 1, 2, 7, 8, 9, 10, 11, 12] (fun _ _ h => h) (go2 hS hK1) rfl
        ·
          replace hS := it_f h53 hS
          replace hS := up2 hS hK1
          refine VC.exit_to (fun _ _ h => h) ?_
          refine VC.seq ?_
          refine VC.region ?_
          refine VL.q (q_move rfl) (by decide) ?_
          refine VL.q (q_nileq Try.underlying24 rfl) (by decide) ?_
          refine VL.q (q_move rfl) (by decide) ?_
          refine VL.gy rfl rfl (q_move rfl) (by decide) ?_
          refine VL.gy rfl rfl (q_move rfl) (by decide) ?_
          obtain ⟨y137_34, ey137_34, hS⟩ := bd_s hS
          refine VL.gy rfl rfl (q_callR (rectoref11_Equal_ct x9_8 a_0 ey137_34) rfl (fun _ _ => rfl)) (by decide) ?_
          refine VL.q (q_pick_t rfl rfl) (by decide) ?_
          refine VL.q (q_move rfl) (by decide) ?_
          refine VL.split 139 rfl (fun h139 => ?_) (fun h139 => ?_)
          ·
            replace hS := it_t h139 hS
            refine VL.gy rfl rfl (q_move rfl) (by decide) ?_
            refine VL.gy rfl rfl (q_move rfl) (by decide) ?_
            obtain ⟨y142_35, ey142_35, hS⟩ := bd_s hS
            refine VL.gy rfl rfl (q_callR (rectoref11_Equal_ct x10_9 a_1 ey142_35) rfl (fun _ _ => rfl)) (by decide) ?_
            refine VL.q (q_pick_t rfl rfl) (by decide) ?_
            refine VL.q (q_move rfl) (by decide) ?_
            refine VL.split 144 rfl (fun h144 => ?_) (fun h144 => ?_)
            ·
              replace hS := it_t h144 hS
              refine VL.gy rfl rfl (q_move rfl) (by decide) ?_
              refine VL.gy rfl rfl (q_move rfl) (by decide) ?_
              obtain ⟨y147_36, ey147_36, hS⟩ := bd_s hS
              refine VL.gy rfl rfl (q_callR (rectoref11_Equal_ct x11_10 a_2 ey147_36) rfl (fun _ _ => rfl)) (by decide) ?_
              refine VL.q (q_pick_t rfl rfl) (by decide) ?_
              refine VL.q (q_assign rfl) (by decide) ?_
              refine VL.to (fun _ _ h => h) ?_
              refine VC.keep [6] rfl ?_
              cases hS
              exact VC.ret (fin1 (.inr rfl) rfl rfl () rfl trivial (fun _ _ => trivial) (fun _ _ => trivial))
            ·
              replace hS := it_b h144 hS
              refine VL.gn rfl rfl rfl (by decide) ?_
              refine VL.gn rfl rfl rfl (by decide) ?_
              refine VL.gn rfl rfl rfl (by decide) ?_
              refine VL.q (q_pick_f rfl rfl) (by decide) ?_
              refine VL.q (q_assign rfl) (by decide) ?_
              refine VL.to (fun _ _ h => h) ?_
              refine VC.keep [6] rfl ?_
              cases hS
              exact VC.ret (fin1 (.inr rfl) rfl rfl () rfl trivial (fun _ _ => trivial) (fun _ _ => trivial))
          ·
            replace hS := it_b h139 hS
            refine VL.gn rfl rfl rfl (by decide) ?_
            refine VL.gn rfl rfl rfl (by decide) ?_
            refine VL.gn rfl rfl rfl (by decide) ?_
            refine VL.q (q_pick_f rfl rfl) (by decide) ?_
            refine VL.q (q_move rfl) (by decide) ?_
            refine VL.gn rfl rfl rfl (by decide) ?_
            refine VL.gn rfl rfl rfl (by decide) ?_
            refine VL.gn rfl rfl rfl (by decide) ?_
            refine VL.q (q_pick_f rfl rfl) (by decide) ?_
            refine VL.q (q_assign rfl) (by decide) ?_
            refine VL.to (fun _ _ h => h) ?_
            refine VC.keep [6] rfl ?_
            cases hS
            exact VC.ret (fin1 (.inr rfl) rfl rfl () rfl trivial (fun _ _ => trivial) (fun _ _ => trivial))

set_option maxHeartbeats 4000000 in
set_option maxRecDepth 100000 in
theorem rectoref11_Split_ct (s_0 : Str) {r : List Str} (hS : Sh.rectoref11_Split s_0 = some r) :
    Ct Try.prog 13 [str s_0] Mo.tt (Ow.emp) (X := Sv Str) (fun x => x.val) (fun x => r = x.l) (fun x => Mo.tt) (fun x => Sv.own x 9) := by
  refine Ct.of Try.func13 rfl (by kernel_rfl) Try.ntmps13 (by simp) fun c => ?_
  unfold Sh.rectoref11_Split at hS
  refine VC.seq ?_
  refine VC.region ?_
  refine VL.q (q_assign rfl) (by decide) ?_
  refine VL.to (fun _ _ h => h) ?_
  refine VC.seq ?_
  refine VC.region ?_
  refine VL.q (q_assign rfl) (by decide) ?_
  refine VL.to (fun _ _ h => h) ?_
  refine VC.seq ?_
  refine VC.region ?_
  refine VL.q (q_assign rfl) (by decide) ?_
  refine VL.to (fun _ _ h => h) ?_
  refine VC.seq ?_
  refine VC.seq ?_
  refine VC.region ?_
  refine VL.q (q_assign rfl) (by decide) ?_
  refine VL.to (fun _ _ h => h) ?_
  refine VC.block ?_
  refine VC.nilO (⟨none, 0, []⟩ : Sv Str) 9 ⟨rfl, rfl⟩ ?_
  refine VC.iter (S := Sv Str × Int × Int) (fun sg => (sg.1.l, sg.2.1, sg.2.2)) (fun sg => [(0, str s_0), (3, sg.1.val), (4, i64 sg.2.1), (5, i64 sg.2.2)]) (fun sg => Mo.tt) (fun sg => Ow.star (Sv.own sg.1 9) (Ow.emp)) (⟨none, 0, []⟩, 0, 0) [0, 3, 4, 5] hS rfl ?_
  clear hS
  rintro ⟨out3_1, from4_2, i5_3⟩ m1 y1 hS hK1
  show VC _ _ _ _ _ [(0, str s_0), (3, out3_1.val), (4, i64 from4_2), (5, i64 i5_3)] (Mo.and Mo.tt _) (Ow.star (Sv.own out3_1 9) (Ow.emp))
  refine VC.seq ?_
  refine VC.seq ?_
  refine VC.region ?_
  refine VL.q (q_move rfl) (by decide) ?_
  refine VL.q (q_move rfl) (by decide) ?_
  refine VL.q (q_slen Try.underlying9 rfl) (by decide) ?_
  refine VL.q (q_lss rfl rfl) (by decide) ?_
  refine VL.to (fun _ _ h => h) ?_
  refine VC.cond_dec rfl (fun h9 => ?_) (fun h9 => ?_)
  ·
    replace hS := it_t h9 hS
    refine VC.skip_to (fun _ _ h => h) ?_
    refine VC.cutJ (S := Sv Str × Int) (fun sg => (sg.1.l, sg.2)) (fun sg => [(0, str s_0), (3, sg.1.val), (4, i64 sg.2), (5, i64 i5_3)]) (fun sg => Mo.tt) (fun sg => Ow.star (Sv.own sg.1 9) (Ow.emp)) hS ?_ ?_
    · -- up to where ways meet
      clear hS
      intro k6 hS
      refine VC.block ?_
      refine VC.seq ?_
      refine VC.region ?_
      refine VL.q (q_move rfl) (by decide) ?_
      refine VL.q (q_move rfl) (by decide) ?_
      obtain ⟨z14_7, nz14_7, hz14_7, hS⟩ := at_s hS
      refine VL.q (q_sidx Try.underlying9 rfl rfl nz14_7 hz14_7) (by decide) ?_
      refine VL.q (q_eql rfl rfl) (by decide) ?_
      refine VL.to (fun _ _ h => h) ?_
      refine VC.keep [0, 3, 4, 5, 15] rfl ?_
      refine VC.cond_dec rfl (fun h15 => ?_) (fun h15 => ?_)
      ·
        replace hS := it_t h15 hS
        refine VC.seq ?_
        refine VC.region ?_
        refine VL.q (q_move rfl) (by decide) ?_
        refine VL.q (q_move rfl) (by decide) ?_
        refine VL.q (q_move rfl) (by decide) ?_
        refine VL.q (q_move rfl) (by decide) ?_
        obtain ⟨b20, hS⟩ := gd_s hS
        refine VL.q (q_add rfl rfl b20) (by decide) ?_
        obtain ⟨b21, hS⟩ := gd_s hS
        obtain ⟨y21_8, ey21_8, hS⟩ := lt_s hS
        refine VL.q (q_smidE Try.underlying9 rfl rfl rfl b21.1 b21.2.1 b21.2.2 ey21_8) (by decide) ?_
        refine VL.lit (α := Str) (xs := [.tmp 21]) (vs := [str y21_8]) [y21_8] Try.underlying28 glit9 (by decide) rfl rfl rfl rfl (by decide) (fun _ _ _ _ => trivial) (by decide) (fun s22_9 hs22_9 => ?_) (by decide)
        replace hS := lt_to hs22_9 hS
        obtain ⟨b23, hS⟩ := gd_s hS
        refine VL.app (s := out3_1) (r := s22_9) Try.underlying28 gapp9 (by decide) rfl Fo.out (ap1 b23) (ap2 b23 (by decide)) (by decide) (fun s23_11 hs23_11 => ?_)
        replace hS := lt_to hs23_11 hS
        refine VL.q (q_assign rfl) (by decide) ?_
        refine VL.to (fun _ _ h => h) ?_
        refine VC.keep [0, 3, 5] rfl ?_
        refine VC.region ?_
        refine VL.q (q_move rfl) (by decide) ?_
        obtain ⟨b25, hS⟩ := gd_s hS
        refine VL.q (q_add rfl rfl b25) (by decide) ?_
        refine VL.q (q_assign rfl) (by decide) ?_
        refine VL.mt (s23_11, (i5_3 + 1)) [0, 3, 4, 5] (fun _ _ h => h) hS rfl
      ·
        replace hS := it_f h15 hS
        refine VC.skip_mt (out3_1, from4_2) [0, 3, 4, 5] (fun _ _ h => h) hS rfl
    · -- from there
      clear hS
      rintro ⟨out3_4, from4_5⟩ hS
      show VC _ _ _ _ _ [(0, str s_0), (3, out3_4.val), (4, i64 from4_5), (5, i64 i5_3)] (Mo.and Mo.tt _) (Ow.star (Sv.own out3_4 9) (Ow.emp))
      refine VC.region ?_
      refine VL.q (q_move rfl) (by decide) ?_
      obtain ⟨b11, hS⟩ := gd_s hS
      refine VL.q (q_add rfl rfl b11) (by decide) ?_
      refine VL.q (q_assign rfl) (by decide) ?_
      refine VL.rnd (out3_4, from4_5, (i5_3 + 1)) [0, 3, 4, 5] (fun _ _ h => h) (go2 hS hK1) rfl
  ·
    replace hS := it_f h9 hS
    replace hS := up2 hS hK1
    refine VC.exit_to (fun _ _ h => h) ?_
    refine VC.seq ?_
    refine VC.seq ?_
    refine VC.region ?_
    refine VL.q (q_move rfl) (by decide) ?_
    refine VL.q (q_move rfl) (by decide) ?_
    refine VL.q (q_slen Try.underlying9 rfl) (by decide) ?_
    refine VL.q (q_lss rfl rfl) (by decide) ?_
    refine VL.to (fun _ _ h => h) ?_
    refine VC.keep [0, 3, 4, 29] rfl ?_
    refine VC.cond_dec rfl (fun h29 => ?_) (fun h29 => ?_)
    ·
      replace hS := it_t h29 hS
      refine VC.region ?_
      refine VL.q (q_move rfl) (by decide) ?_
      refine VL.q (q_move rfl) (by decide) ?_
      refine VL.q (q_move rfl) (by decide) ?_
      obtain ⟨b33, hS⟩ := gd_s hS
      obtain ⟨y33_13, ey33_13, hS⟩ := lt_s hS
      refine VL.q (q_sfromE Try.underlying9 rfl rfl b33.1 b33.2 ey33_13) (by decide) ?_
      refine VL.lit (α := Str) (xs := [.tmp 33]) (vs := [str y33_13]) [y33_13] Try.underlying28 glit9 (by decide) rfl rfl rfl rfl (by decide) (fun _ _ _ _ => trivial) (by decide) (fun s34_14 hs34_14 => ?_) (by decide)
      replace hS := lt_to hs34_14 hS
      obtain ⟨b35, hS⟩ := gd_s hS
      refine VL.app (s := out3_1) (r := s34_14) Try.underlying28 gapp9 (by decide) rfl Fo.out (ap1 b35) (ap2 b35 (by decide)) (by decide) (fun s35_16 hs35_16 => ?_)
      replace hS := lt_to hs35_16 hS
      refine VL.q (q_assign rfl) (by decide) ?_
      refine VL.to (fun _ _ h => h) ?_
      refine VC.seq ?_
      refine VC.region ?_
      refine VL.q (q_move rfl) (by decide) ?_
      refine VL.q (q_assign rfl) (by decide) ?_
      refine VL.to (fun _ _ h => h) ?_
      refine VC.keep [2] rfl ?_
      cases hS
      exact VC.ret (fin1 (.inr rfl) rfl rfl s35_16 rfl rfl (by (try dsimp only); exact InM.out) (by (try dsimp only); exact EntO.out))
    ·
      replace hS := it_f h29 hS
      refine VC.skip_to (fun _ _ h => h) ?_
      refine VC.seq ?_
      refine VC.region ?_
      refine VL.q (q_move rfl) (by decide) ?_
      refine VL.q (q_assign rfl) (by decide) ?_
      refine VL.to (fun _ _ h => h) ?_
      cases hS
      exact VC.ret (fin1 (.inr rfl) rfl rfl out3_1 rfl rfl (by (try dsimp only); exact InM.out) (by (try dsimp only); exact EntO.out))

set_option maxHeartbeats 4000000 in
set_option maxRecDepth 100000 in
theorem rectolaw13_MergeMarked_ct (s_0 : Str) {r : Bool} (hS : Sh.rectolaw13_MergeMarked s_0 = some r) :
    Ct Try.prog 5 [str s_0] Mo.tt (Ow.emp) (X := Unit) (fun _ => .bool r) (fun _ => True) (fun _ => Mo.tt) (fun _ => Ow.emp) := by
  refine Ct.of Try.func5 rfl (by kernel_rfl) Try.ntmps5 (by simp) fun c => ?_
  unfold Sh.rectolaw13_MergeMarked at hS
  refine VC.seq ?_
  refine VC.region ?_
  refine VL.q (q_assign rfl) (by decide) ?_
  refine VL.to (fun _ _ h => h) ?_
  refine VC.seq ?_
  refine VC.seq ?_
  refine VC.region ?_
  obtain ⟨y7_1, ey7_1, hS⟩ := bd_s hS
  refine VL.q (q_call (rectolaw13_known_ct ey7_1) rfl (fun _ _ => rfl)) (by decide) ?_
  refine VL.q (q_not rfl) (by decide) ?_
  refine VL.to (fun _ _ h => h) ?_
  refine VC.cond rfl (fun h8 => ?_) (fun h8 => ?_)
  ·
    replace hS := it_t h8 hS
    refine VC.seq ?_
    refine VC.region ?_
    refine VL.q (q_assign rfl) (by decide) ?_
    refine VL.to (fun _ _ h => h) ?_
    cases hS
    exact VC.ret (fin1 (.inr rfl) rfl rfl () rfl trivial (fun _ _ => trivial) (fun _ _ => trivial))
  ·
    replace hS := it_b h8 hS
    refine VC.skip_to (fun _ _ h => h) ?_
    refine VC.seq ?_
    refine VC.seq ?_
    refine VC.region ?_
    refine VL.q (q_move rfl) (by decide) ?_
    refine VL.q (q_slen Try.underlying9 rfl) (by decide) ?_
    refine VL.q (q_gtr rfl rfl) (by decide) ?_
    refine VL.to (fun _ _ h => h) ?_
    refine VC.cond_dec rfl (fun h11 => ?_) (fun h11 => ?_)
    ·
      replace hS := it_t h11 hS
      refine VC.seq ?_
      refine VC.region ?_
      refine VL.q (q_assign rfl) (by decide) ?_
      refine VL.to (fun _ _ h => h) ?_
      cases hS
      exact VC.ret (fin1 (.inr rfl) rfl rfl () rfl trivial (fun _ _ => trivial) (fun _ _ => trivial))
    ·
      replace hS := it_f h11 hS
      refine VC.skip_to (fun _ _ h => h) ?_
      refine VC.seq ?_
      refine VC.region ?_
      refine VL.q (q_move rfl) (by decide) ?_
      obtain ⟨y13_2, ey13_2, hS⟩ := bd_s hS
      refine VL.callO (rectoref11_Split_ct s_0 ey13_2) rfl (by decide) ?_
      rintro q13_2_0 rfl
      try dsimp only
      refine VL.q (q_assign rfl) (by decide) ?_
      refine VL.to (fun _ _ h => h) ?_
      refine VC.seq ?_
      refine VC.region ?_
      refine VL.q (q_assign rfl) (by decide) ?_
      refine VL.to (fun _ _ h => h) ?_
      refine VC.keep [0, 3, 4] rfl ?_
      refine VC.seq ?_
      refine VC.region ?_
      refine VL.q (q_assign rfl) (by decide) ?_
      refine VL.to (fun _ _ h => h) ?_
      refine VC.seq ?_
      refine VC.seq ?_
      refine VC.region ?_
      refine VL.q (q_assign rfl) (by decide) ?_
      refine VL.to (fun _ _ h => h) ?_
      refine VC.block ?_
      refine VC.iter (S := Bool × Bool × Int) (fun sg => (sg.1, sg.2.1, sg.2.2)) (fun sg => [(0, str s_0), (3, q13_2_0.val), (4, .bool sg.1), (5, .bool sg.2.1), (6, i64 sg.2.2)]) (fun sg => Mo.tt) (fun sg => Ow.star (Sv.own q13_2_0 9) (Ow.emp)) (false, false, 0) [0, 3, 4, 5, 6] hS rfl ?_
      clear hS
      rintro ⟨open4_3, is5_4, i6_5⟩ m1 y1 hS hK1
      show VC _ _ _ _ _ [(0, str s_0), (3, q13_2_0.val), (4, .bool open4_3), (5, .bool is5_4), (6, i64 i6_5)] (Mo.and Mo.tt _) (Ow.star (Sv.own q13_2_0 9) (Ow.emp))
      refine VC.seq ?_
      refine VC.seq ?_
      refine VC.region ?_
      refine VL.q (q_move rfl) (by decide) ?_
      refine VL.q (q_move rfl) (by decide) ?_
      refine VL.q (q_ln (s := q13_2_0) Try.underlying28 rfl) (by decide) ?_
      refine VL.q (q_lss rfl rfl) (by decide) ?_
      refine VL.to (fun _ _ h => h) ?_
      refine VC.cond_dec rfl (fun h17 => ?_) (fun h17 => ?_)
      ·
        replace hS := it_t h17 hS
        refine VC.skip_to (fun _ _ h => h) ?_
        refine VC.cutJ (S := Bool × Bool) (fun sg => (sg.1, sg.2)) (fun sg => [(0, str s_0), (3, q13_2_0.val), (4, .bool sg.1), (5, .bool sg.2), (6, i64 i6_5)]) (fun sg => Mo.tt) (fun sg => Ow.star (Sv.own q13_2_0 9) (Ow.emp)) hS ?_ ?_
        · -- up to where ways meet
          clear hS
          intro k8 hS
          refine VC.block ?_
          refine VC.cutJ (S := Bool) (fun (is5_9 : Bool) => is5_9) (fun (is5_9 : Bool) => [(0, str s_0), (3, q13_2_0.val), (4, .bool open4_3), (5, .bool is5_9), (6, i64 i6_5)]) (fun (is5_9 : Bool) => Mo.tt) (fun (is5_9 : Bool) => Ow.star (Sv.own q13_2_0 9) (Ow.emp)) hS ?_ ?_
          · -- up to where ways meet
            clear hS
            intro k10 hS
            refine VC.cutJ (S := Bool) (fun (x36_11 : Bool) => x36_11) (fun (x36_11 : Bool) => [(0, str s_0), (3, q13_2_0.val), (4, .bool open4_3), (5, .bool is5_4), (6, i64 i6_5), (36, .bool x36_11)]) (fun (x36_11 : Bool) => Mo.tt) (fun (x36_11 : Bool) => Ow.star (Sv.own q13_2_0 9) (Ow.emp)) hS ?_ ?_
            · -- up to where ways meet
              clear hS
              intro k12 hS
              refine VC.region ?_
              refine VL.q (q_move rfl) (by decide) ?_
              refine VL.q (q_move rfl) (by decide) ?_
              refine VL.split 21 rfl (fun h21 => ?_) (fun h21 => ?_)
              ·
                replace hS := it_t h21 hS
                refine VL.gy rfl rfl (q_move rfl) (by decide) ?_
                refine VL.gy rfl rfl (q_move rfl) (by decide) ?_
                obtain ⟨z24_13, nz24_13, hz24_13, hS⟩ := at_s hS
                refine VL.gy rfl rfl (q_ixo (s := q13_2_0) Try.underlying28 gsz9 rfl rfl nz24_13 (lt_of_get nz24_13 hz24_13)) (by decide) ?_
                refine VL.gy rfl rfl (q_elo (s := q13_2_0) 9 gone9 rfl hz24_13 rfl) (by decide) ?_
                refine VL.gy rfl rfl (q_slen Try.underlying9 rfl) (by decide) ?_
                refine VL.gy rfl rfl (q_geq rfl rfl) (by decide) ?_
                refine VL.q (q_pick_t rfl rfl) (by decide) ?_
                refine VL.q (q_move rfl) (by decide) ?_
                refine VL.split_dec 29 rfl (fun h29 => ?_) (fun h29 => ?_)
                ·
                  replace hS := it_t h29 hS
                  refine VL.gy rfl rfl (q_move rfl) (by decide) ?_
                  refine VL.gy rfl rfl (q_move rfl) (by decide) ?_
                  obtain ⟨z32_14, nz32_14, hz32_14, hS⟩ := at_s hS
                  refine VL.gy rfl rfl (q_ixo (s := q13_2_0) Try.underlying28 gsz9 rfl rfl nz32_14 (lt_of_get nz32_14 hz32_14)) (by decide) ?_
                  refine VL.gy rfl rfl (q_elo (s := q13_2_0) 9 gone9 rfl hz32_14 rfl) (by decide) ?_
                  obtain ⟨b34, hS⟩ := gd_s hS
                  obtain ⟨y34_15, ey34_15, hS⟩ := lt_s hS
                  refine VL.gy rfl rfl (q_stoE Try.underlying9 rfl rfl b34.1 b34.2 ey34_15) (by decide) ?_
                  refine VL.gy rfl rfl (q_seq rfl rfl) (by decide) ?_
                  refine VL.q (q_pick_t rfl rfl) (by decide) ?_
                  refine VL.mt (decide (y34_15 = [62, 62, 62, 62, 62, 62, 62, 32])) [0, 3, 4, 5, 6, 36] (fun _ _ h => h) hS rfl
                ·
                  replace hS := it_f h29 hS
                  refine VL.gn rfl rfl rfl (by decide) ?_
                  refine VL.gn rfl rfl rfl (by decide) ?_
                  refine VL.gn rfl rfl rfl (by decide) ?_
                  refine VL.gn rfl rfl rfl (by decide) ?_
                  refine VL.gn rfl rfl rfl (by decide) ?_
                  refine VL.gn rfl rfl rfl (by decide) ?_
                  refine VL.q (q_pick_f rfl rfl) (by decide) ?_
                  refine VL.mt false [0, 3, 4, 5, 6, 36] (fun _ _ h => h) hS rfl
              ·
                replace hS := it_b h21 hS
                refine VL.gn rfl rfl rfl (by decide) ?_
                refine VL.gn rfl rfl rfl (by decide) ?_
                refine VL.gn rfl rfl rfl (by decide) ?_
                refine VL.gn rfl rfl rfl (by decide) ?_
                refine VL.gn rfl rfl rfl (by decide) ?_
                refine VL.gn rfl rfl rfl (by decide) ?_
                refine VL.q (q_pick_f rfl rfl) (by decide) ?_
                refine VL.q (q_move rfl) (by decide) ?_
                refine VL.gn rfl rfl rfl (by decide) ?_
                refine VL.gn rfl rfl rfl (by decide) ?_
                refine VL.gn rfl rfl rfl (by decide) ?_
                refine VL.gn rfl rfl rfl (by decide) ?_
                refine VL.gn rfl rfl rfl (by decide) ?_
                refine VL.gn rfl rfl rfl (by decide) ?_
                refine VL.q (q_pick_f rfl rfl) (by decide) ?_
                refine VL.mt false [0, 3, 4, 5, 6, 36] (fun _ _ h => h) hS rfl
            · -- from there
              clear hS
              rintro x36_11 hS
              show VC _ _ _ _ _ [(0, str s_0), (3, q13_2_0.val), (4, .bool open4_3), (5, .bool is5_4), (6, i64 i6_5), (36, .bool x36_11)] (Mo.and Mo.tt _) (Ow.star (Sv.own q13_2_0 9) (Ow.emp))
              refine VC.cond rfl (fun h36 => ?_) (fun h36 => ?_)
              ·
                replace hS := it_t h36 hS
                refine VC.region ?_
                refine VL.q (q_assign rfl) (by decide) ?_
                refine VL.mt true [0, 3, 4, 5, 6] (fun _ _ h => h) hS rfl
              ·
                replace hS := it_b h36 hS
                refine VC.skip_mt is5_4 [0, 3, 4, 5, 6] (fun _ _ h => h) hS rfl
          · -- from there
            clear hS
            rintro is5_9 hS
            show VC _ _ _ _ _ [(0, str s_0), (3, q13_2_0.val), (4, .bool open4_3), (5, .bool is5_9), (6, i64 i6_5)] (Mo.and Mo.tt _) (Ow.star (Sv.own q13_2_0 9) (Ow.emp))
            refine VC.cutJ (S := Bool) (fun (x50_16 : Bool) => x50_16) (fun (x50_16 : Bool) => [(0, str s_0), (3, q13_2_0.val), (4, .bool open4_3), (5, .bool is5_9), (6, i64 i6_5), (50, .bool x50_16)]) (fun (x50_16 : Bool) => Mo.tt) (fun (x50_16 : Bool) => Ow.star (Sv.own q13_2_0 9) (Ow.emp)) hS ?_ ?_
            · -- up to where ways meet
              clear hS
              intro k17 hS
              refine VC.region ?_
              refine VL.q (q_move rfl) (by decide) ?_
              refine VL.q (q_move rfl) (by decide) ?_
              obtain ⟨z39_18, nz39_18, hz39_18, hS⟩ := at_s hS
              refine VL.q (q_ixo (s := q13_2_0) Try.underlying28 gsz9 rfl rfl nz39_18 (lt_of_get nz39_18 hz39_18)) (by decide) ?_
              refine VL.q (q_elo (s := q13_2_0) 9 gone9 rfl hz39_18 rfl) (by decide) ?_
              refine VL.q (q_slen Try.underlying9 rfl) (by decide) ?_
              refine VL.q (q_geq rfl rfl) (by decide) ?_
              refine VL.q (q_move rfl) (by decide) ?_
              refine VL.split_dec 43 rfl (fun h43 => ?_) (fun h43 => ?_)
              ·
                replace hS := it_t h43 hS
                refine VL.gy rfl rfl (q_move rfl) (by decide) ?_
                refine VL.gy rfl rfl (q_move rfl) (by decide) ?_
                obtain ⟨z46_19, nz46_19, hz46_19, hS⟩ := at_s hS
                refine VL.gy rfl rfl (q_ixo (s := q13_2_0) Try.underlying28 gsz9 rfl rfl nz46_19 (lt_of_get nz46_19 hz46_19)) (by decide) ?_
                refine VL.gy rfl rfl (q_elo (s := q13_2_0) 9 gone9 rfl hz46_19 rfl) (by decide) ?_
                obtain ⟨b48, hS⟩ := gd_s hS
                obtain ⟨y48_20, ey48_20, hS⟩ := lt_s hS
                refine VL.gy rfl rfl (q_stoE Try.underlying9 rfl rfl b48.1 b48.2 ey48_20) (by decide) ?_
                refine VL.gy rfl rfl (q_seq rfl rfl) (by decide) ?_
                refine VL.q (q_pick_t rfl rfl) (by decide) ?_
                refine VL.mt (decide (y48_20 = [60, 60, 60, 60, 60, 60, 60, 32])) [0, 3, 4, 5, 6, 50] (fun _ _ h => h) hS rfl
              ·
                replace hS := it_f h43 hS
                refine VL.gn rfl rfl rfl (by decide) ?_
                refine VL.gn rfl rfl rfl (by decide) ?_
                refine VL.gn rfl rfl rfl (by decide) ?_
                refine VL.gn rfl rfl rfl (by decide) ?_
                refine VL.gn rfl rfl rfl (by decide) ?_
                refine VL.gn rfl rfl rfl (by decide) ?_
                refine VL.q (q_pick_f rfl rfl) (by decide) ?_
                refine VL.mt false [0, 3, 4, 5, 6, 50] (fun _ _ h => h) hS rfl
            · -- from there
              clear hS
              rintro x50_16 hS
              show VC _ _ _ _ _ [(0, str s_0), (3, q13_2_0.val), (4, .bool open4_3), (5, .bool is5_9), (6, i64 i6_5), (50, .bool x50_16)] (Mo.and Mo.tt _) (Ow.star (Sv.own q13_2_0 9) (Ow.emp))
              refine VC.cond rfl (fun h50 => ?_) (fun h50 => ?_)
              ·
                replace hS := it_t h50 hS
                refine VC.region ?_
                refine VL.q (q_assign rfl) (by decide) ?_
                refine VL.mt (true, is5_9) [0, 3, 4, 5, 6] (fun _ _ h => h) hS rfl
              ·
                replace hS := it_b h50 hS
                refine VC.skip_mt (open4_3, is5_9) [0, 3, 4, 5, 6] (fun _ _ h => h) hS rfl
        · -- from there
          clear hS
          rintro ⟨open4_6, is5_7⟩ hS
          show VC _ _ _ _ _ [(0, str s_0), (3, q13_2_0.val), (4, .bool open4_6), (5, .bool is5_7), (6, i64 i6_5)] (Mo.and Mo.tt _) (Ow.star (Sv.own q13_2_0 9) (Ow.emp))
          refine VC.region ?_
          refine VL.q (q_move rfl) (by decide) ?_
          obtain ⟨b19, hS⟩ := gd_s hS
          refine VL.q (q_add rfl rfl b19) (by decide) ?_
          refine VL.q (q_assign rfl) (by decide) ?_
          refine VL.rnd (open4_6, is5_7, (i6_5 + 1)) [0, 3, 4, 5, 6] (fun _ _ h => h) (go2 hS hK1) rfl
      ·
        replace hS := it_f h17 hS
        replace hS := up2 hS hK1
        refine VC.exit_to (fun _ _ h => h) ?_
        refine VC.seq ?_
        refine VC.region ?_
        refine VL.q (q_move rfl) (by decide) ?_
        obtain ⟨y52_21, ey52_21, hS⟩ := bd_s hS
        refine VL.q (q_call (merge_Marked_ct s_0 ey52_21) rfl (fun _ _ => rfl)) (by decide) ?_
        refine VL.q (q_move rfl) (by decide) ?_
        refine VL.q (q_beql Try.underlying4 rfl rfl) (by decide) ?_
        refine VL.q (q_assign rfl) (by decide) ?_
        refine VL.to (fun _ _ h => h) ?_
        refine VC.keep [2] rfl ?_
        cases hS
        exact VC.ret (fin1 (.inr rfl) rfl rfl () rfl trivial (fun _ _ => trivial) (fun _ _ => trivial))

set_option maxHeartbeats 4000000 in
set_option maxRecDepth 100000 in
theorem rectoref11_Join_ct (l_0 : Sv Str) {r : Str} (hS : Sh.rectoref11_Join l_0.l = some r) :
    Ct Try.prog 15 [l_0.val] l_0.ok (Ow.emp) (X := Unit) (fun _ => str r) (fun _ => True) (fun _ => Mo.tt) (fun _ => Ow.emp) := by
  refine Ct.of Try.func15 rfl (by kernel_rfl) Try.ntmps15 (by simp) fun c => ?_
  unfold Sh.rectoref11_Join at hS
  refine VC.seq ?_
  refine VC.region ?_
  refine VL.q (q_assign rfl) (by decide) ?_
  refine VL.to (fun _ _ h => h) ?_
  refine VC.seq ?_
  refine VC.region ?_
  refine VL.q (q_assign rfl) (by decide) ?_
  refine VL.to (fun _ _ h => h) ?_
  refine VC.seq ?_
  refine VC.seq ?_
  refine VC.region ?_
  refine VL.q (q_assign rfl) (by decide) ?_
  refine VL.to (fun _ _ h => h) ?_
  refine VC.block ?_
  refine VC.iter (S := Str × Int) (fun sg => (sg.1, sg.2)) (fun sg => [(0, l_0.val), (3, str sg.1), (4, i64 sg.2)]) (fun sg => Mo.tt) (fun sg => Ow.emp) ([], 0) [0, 3, 4] hS rfl ?_
  clear hS
  rintro ⟨s3_1, i4_2⟩ m1 y1 hS hK1
  show VC _ _ _ _ _ [(0, l_0.val), (3, str s3_1), (4, i64 i4_2)] (Mo.and Mo.tt _) (Ow.emp)
  refine VC.seq ?_
  refine VC.seq ?_
  refine VC.region ?_
  refine VL.q (q_move rfl) (by decide) ?_
  refine VL.q (q_move rfl) (by decide) ?_
  refine VL.q (q_ln (s := l_0) Try.underlying28 rfl) (by decide) ?_
  refine VL.q (q_lss rfl rfl) (by decide) ?_
  refine VL.to (fun _ _ h => h) ?_
  refine VC.cond_dec rfl (fun h8 => ?_) (fun h8 => ?_)
  ·
    replace hS := it_t h8 hS
    refine VC.skip_to (fun _ _ h => h) ?_
    refine VC.seq ?_
    refine VC.block ?_
    refine VC.region ?_
    refine VL.q (q_move rfl) (by decide) ?_
    refine VL.q (q_move rfl) (by decide) ?_
    refine VL.q (q_move rfl) (by decide) ?_
    obtain ⟨z14_3, nz14_3, hz14_3, hS⟩ := at_s hS
    refine VL.q (q_ixm (s := l_0) Try.underlying28 gsz9 rfl rfl nz14_3 (lt_of_get nz14_3 hz14_3)) (by decide) ?_
    refine VL.q (q_el (s := l_0) gone9 rfl hz14_3 rfl) (by decide) ?_
    obtain ⟨b16, hS⟩ := gd_s hS
    obtain ⟨y16_4, ey16_4, hS⟩ := lt_s hS
    refine VL.q (q_catE rfl rfl b16 ey16_4) (by decide) ?_
    refine VL.q (q_assign rfl) (by decide) ?_
    refine VL.to (fun _ _ h => h) ?_
    refine VC.keep [0, 3, 4] rfl ?_
    refine VC.region ?_
    refine VL.q (q_move rfl) (by decide) ?_
    obtain ⟨b10, hS⟩ := gd_s hS
    refine VL.q (q_add rfl rfl b10) (by decide) ?_
    refine VL.q (q_assign rfl) (by decide) ?_
    refine VL.rnd (y16_4, (i4_2 + 1)) [0, 3, 4] (fun _ _ h => h) (go2 hS hK1) rfl
  ·
    replace hS := it_f h8 hS
    replace hS := up2 hS hK1
    refine VC.exit_to (fun _ _ h => h) ?_
    refine VC.seq ?_
    refine VC.region ?_
    refine VL.q (q_move rfl) (by decide) ?_
    refine VL.q (q_assign rfl) (by decide) ?_
    refine VL.to (fun _ _ h => h) ?_
    cases hS
    exact VC.ret (fin1 (.inr rfl) rfl rfl () rfl trivial (fun _ _ => trivial) (fun _ _ => trivial))

set_option maxHeartbeats 4000000 in
set_option maxRecDepth 100000 in
theorem rectolaw13_MergeTurned_ct (a_0 : Sv Str) (a_1 : Sv Str) (a_2 : Sv Str) {r : Bool} (hS : Sh.rectolaw13_MergeTurned a_0.l a_1.l a_2.l = some r) :
    Ct Try.prog 6 [a_0.val, a_1.val, a_2.val] (a_0.ok.and (a_1.ok.and a_2.ok)) (Ow.emp) (X := Unit) (fun _ => .bool r) (fun _ => True) (fun _ => Mo.tt) (fun _ => Ow.emp) := by
  refine Ct.of Try.func6 rfl (by kernel_rfl) Try.ntmps6 (by simp) fun c => ?_
  unfold Sh.rectolaw13_MergeTurned at hS
  refine VC.seq ?_
  refine VC.region ?_
  refine VL.q (q_assign rfl) (by decide) ?_
  refine VL.to (fun _ _ h => h) ?_
  refine VC.seq ?_
  refine VC.seq ?_
  refine VC.region ?_
  obtain ⟨y13_1, ey13_1, hS⟩ := bd_s hS
  refine VL.q (q_call (rectolaw13_known_ct ey13_1) rfl (fun _ _ => rfl)) (by decide) ?_
  refine VL.q (q_not rfl) (by decide) ?_
  refine VL.to (fun _ _ h => h) ?_
  refine VC.cond rfl (fun h14 => ?_) (fun h14 => ?_)
  ·
    replace hS := it_t h14 hS
    refine VC.seq ?_
    refine VC.region ?_
    refine VL.q (q_assign rfl) (by decide) ?_
    refine VL.to (fun _ _ h => h) ?_
    cases hS
    exact VC.ret (fin1 (.inr rfl) rfl rfl () rfl trivial (fun _ _ => trivial) (fun _ _ => trivial))
  ·
    replace hS := it_b h14 hS
    refine VC.skip_to (fun _ _ h => h) ?_
    refine VC.seq ?_
    refine VC.cutJ (S := Bool) (fun (x42_2 : Bool) => x42_2) (fun (x42_2 : Bool) => [(0, a_0.val), (1, a_1.val), (2, a_2.val), (42, .bool x42_2)]) (fun (x42_2 : Bool) => Mo.tt) (fun (x42_2 : Bool) => Ow.emp) hS ?_ ?_
    · -- up to where ways meet
      clear hS
      intro k3 hS
      refine VC.region ?_
      refine VL.q (q_move rfl) (by decide) ?_
      obtain ⟨y16_4, ey16_4, hS⟩ := bd_s hS
      refine VL.q (q_call (rectolaw13_few_ct a_0 ey16_4) rfl (fun _ _ => rfl)) (by decide) ?_
      refine VL.q (q_not rfl) (by decide) ?_
      refine VL.q (q_move rfl) (by decide) ?_
      refine VL.split 18 rfl (fun h18 => ?_) (fun h18 => ?_)
      ·
        replace hS := it_t h18 hS
        refine VL.gn rfl rfl rfl (by decide) ?_
        refine VL.gn rfl rfl rfl (by decide) ?_
        refine VL.gn rfl rfl rfl (by decide) ?_
        refine VL.q (q_pick_t rfl rfl) (by decide) ?_
        refine VL.q (q_move rfl) (by decide) ?_
        refine VL.gn rfl rfl rfl (by decide) ?_
        refine VL.gn rfl rfl rfl (by decide) ?_
        refine VL.gn rfl rfl rfl (by decide) ?_
        refine VL.q (q_pick_t rfl rfl) (by decide) ?_
        refine VL.q (q_move rfl) (by decide) ?_
        refine VL.gn rfl rfl rfl (by decide) ?_
        refine VL.gn rfl rfl rfl (by decide) ?_
        refine VL.gn rfl rfl rfl (by decide) ?_
        refine VL.q (q_pick_t rfl rfl) (by decide) ?_
        refine VL.q (q_move rfl) (by decide) ?_
        refine VL.gn rfl rfl rfl (by decide) ?_
        refine VL.gn rfl rfl rfl (by decide) ?_
        refine VL.gn rfl rfl rfl (by decide) ?_
        refine VL.q (q_pick_t rfl rfl) (by decide) ?_
        refine VL.q (q_move rfl) (by decide) ?_
        refine VL.gn rfl rfl rfl (by decide) ?_
        refine VL.gn rfl rfl rfl (by decide) ?_
        refine VL.gn rfl rfl rfl (by decide) ?_
        refine VL.q (q_pick_t rfl rfl) (by decide) ?_
        refine VL.mt true [0, 1, 2, 42] (fun _ _ h => h) hS rfl
      ·
        replace hS := it_b h18 hS
        refine VL.gy rfl rfl (q_move rfl) (by decide) ?_
        obtain ⟨y20_5, ey20_5, hS⟩ := bd_s hS
        refine VL.gy rfl rfl (q_call (rectolaw13_few_ct a_1 ey20_5) rfl (fun _ _ => rfl)) (by decide) ?_
        refine VL.gy rfl rfl (q_not rfl) (by decide) ?_
        refine VL.q (q_pick_f rfl rfl) (by decide) ?_
        refine VL.q (q_move rfl) (by decide) ?_
        refine VL.split 23 rfl (fun h23 => ?_) (fun h23 => ?_)
        ·
          replace hS := it_t h23 hS
          refine VL.gn rfl rfl rfl (by decide) ?_
          refine VL.gn rfl rfl rfl (by decide) ?_
          refine VL.gn rfl rfl rfl (by decide) ?_
          refine VL.q (q_pick_t rfl rfl) (by decide) ?_
          refine VL.q (q_move rfl) (by decide) ?_
          refine VL.gn rfl rfl rfl (by decide) ?_
          refine VL.gn rfl rfl rfl (by decide) ?_
          refine VL.gn rfl rfl rfl (by decide) ?_
          refine VL.q (q_pick_t rfl rfl) (by decide) ?_
          refine VL.q (q_move rfl) (by decide) ?_
          refine VL.gn rfl rfl rfl (by decide) ?_
          refine VL.gn rfl rfl rfl (by decide) ?_
          refine VL.gn rfl rfl rfl (by decide) ?_
          refine VL.q (q_pick_t rfl rfl) (by decide) ?_
          refine VL.q (q_move rfl) (by decide) ?_
          refine VL.gn rfl rfl rfl (by decide) ?_
          refine VL.gn rfl rfl rfl (by decide) ?_
          refine VL.gn rfl rfl rfl (by decide) ?_
          refine VL.q (q_pick_t rfl rfl) (by decide) ?_
          refine VL.mt true [0, 1, 2, 42] (fun _ _ h => h) hS rfl
        ·
          replace hS := it_b h23 hS
          refine VL.gy rfl rfl (q_move rfl) (by decide) ?_
          obtain ⟨y25_6, ey25_6, hS⟩ := bd_s hS
          refine VL.gy rfl rfl (q_call (rectolaw13_few_ct a_2 ey25_6) rfl (fun _ _ => rfl)) (by decide) ?_
          refine VL.gy rfl rfl (q_not rfl) (by decide) ?_
          refine VL.q (q_pick_f rfl rfl) (by decide) ?_
          refine VL.q (q_move rfl) (by decide) ?_
          refine VL.split 28 rfl (fun h28 => ?_) (fun h28 => ?_)
          ·
            replace hS := it_t h28 hS
            refine VL.gn rfl rfl rfl (by decide) ?_
            refine VL.gn rfl rfl rfl (by decide) ?_
            refine VL.gn rfl rfl rfl (by decide) ?_
            refine VL.q (q_pick_t rfl rfl) (by decide) ?_
            refine VL.q (q_move rfl) (by decide) ?_
            refine VL.gn rfl rfl rfl (by decide) ?_
            refine VL.gn rfl rfl rfl (by decide) ?_
            refine VL.gn rfl rfl rfl (by decide) ?_
            refine VL.q (q_pick_t rfl rfl) (by decide) ?_
            refine VL.q (q_move rfl) (by decide) ?_
            refine VL.gn rfl rfl rfl (by decide) ?_
            refine VL.gn rfl rfl rfl (by decide) ?_
            refine VL.gn rfl rfl rfl (by decide) ?_
            refine VL.q (q_pick_t rfl rfl) (by decide) ?_
            refine VL.mt true [0, 1, 2, 42] (fun _ _ h => h) hS rfl
          ·
            replace hS := it_b h28 hS
            refine VL.gy rfl rfl (q_move rfl) (by decide) ?_
            refine VL.gy rfl rfl (q_ln (s := a_0) Try.underlying28 rfl) (by decide) ?_
            refine VL.gy rfl rfl (q_gtr rfl rfl) (by decide) ?_
            refine VL.q (q_pick_f rfl rfl) (by decide) ?_
            refine VL.q (q_move rfl) (by decide) ?_
            refine VL.split_dec 33 rfl (fun h33 => ?_) (fun h33 => ?_)
            ·
              replace hS := it_t h33 hS
              refine VL.gn rfl rfl rfl (by decide) ?_
              refine VL.gn rfl rfl rfl (by decide) ?_
              refine VL.gn rfl rfl rfl (by decide) ?_
              refine VL.q (q_pick_t rfl rfl) (by decide) ?_
              refine VL.q (q_move rfl) (by decide) ?_
              refine VL.gn rfl rfl rfl (by decide) ?_
              refine VL.gn rfl rfl rfl (by decide) ?_
              refine VL.gn rfl rfl rfl (by decide) ?_
              refine VL.q (q_pick_t rfl rfl) (by decide) ?_
              refine VL.mt true [0, 1, 2, 42] (fun _ _ h => h) hS rfl
            ·
              replace hS := it_f h33 hS
              refine VL.gy rfl rfl (q_move rfl) (by decide) ?_
              refine VL.gy rfl rfl (q_ln (s := a_1) Try.underlying28 rfl) (by decide) ?_
              refine VL.gy rfl rfl (q_gtr rfl rfl) (by decide) ?_
              refine VL.q (q_pick_f rfl rfl) (by decide) ?_
              refine VL.q (q_move rfl) (by decide) ?_
              refine VL.split_dec 38 rfl (fun h38 => ?_) (fun h38 => ?_)
              ·
                replace hS := it_t h38 hS
                refine VL.gn rfl rfl rfl (by decide) ?_
                refine VL.gn rfl rfl rfl (by decide) ?_
                refine VL.gn rfl rfl rfl (by decide) ?_
                refine VL.q (q_pick_t rfl rfl) (by decide) ?_
                refine VL.mt true [0, 1, 2, 42] (fun _ _ h => h) hS rfl
              ·
                replace hS := it_f h38 hS
                refine VL.gy rfl rfl (q_move rfl) (by decide) ?_
                refine VL.gy rfl rfl (q_ln (s := a_2) Try.underlying28 rfl) (by decide) ?_
                refine VL.gy rfl rfl (q_gtr rfl rfl) (by decide) ?_
                refine VL.q (q_pick_f rfl rfl) (by decide) ?_
                refine VL.mt (decide (40 < (a_2.l.length : Int))) [0, 1, 2, 42] (fun _ _ h => h) hS rfl
    · -- from there
      clear hS
      rintro x42_2 hS
      show VC _ _ _ _ _ [(0, a_0.val), (1, a_1.val), (2, a_2.val), (42, .bool x42_2)] (Mo.and Mo.tt _) (Ow.emp)
      refine VC.cond rfl (fun h42 => ?_) (fun h42 => ?_)
      ·
        replace hS := it_t h42 hS
        refine VC.seq ?_
        refine VC.region ?_
        refine VL.q (q_assign rfl) (by decide) ?_
        refine VL.to (fun _ _ h => h) ?_
        cases hS
        exact VC.ret (fin1 (.inr rfl) rfl rfl () rfl trivial (fun _ _ => trivial) (fun _ _ => trivial))
      ·
        replace hS := it_b h42 hS
        refine VC.skip_to (fun _ _ h => h) ?_
        refine VC.seq ?_
        refine VC.cutJ (S := Bool) (fun (x61_7 : Bool) => x61_7) (fun (x61_7 : Bool) => [(0, a_0.val), (1, a_1.val), (2, a_2.val), (61, .bool x61_7)]) (fun (x61_7 : Bool) => Mo.tt) (fun (x61_7 : Bool) => Ow.emp) hS ?_ ?_
        · -- up to where ways meet
          clear hS
          intro k8 hS
          refine VC.region ?_
          refine VL.q (q_move rfl) (by decide) ?_
          obtain ⟨y44_9, ey44_9, hS⟩ := bd_s hS
          refine VL.q (q_call (rectoref11_Join_ct a_0 ey44_9) rfl (fun _ _ => rfl)) (by decide) ?_
          obtain ⟨y45_10, ey45_10, hS⟩ := bd_s hS
          refine VL.callO (rectoref11_Split_ct y44_9 ey45_10) rfl (by decide) ?_
          rintro q45_10_0 rfl
          try dsimp only
          refine VL.q (q_ln (s := q45_10_0) Try.underlying28 rfl) (by decide) ?_
          refine VL.q (q_gtr rfl rfl) (by decide) ?_
          refine VL.q (q_move rfl) (by decide) ?_
          refine VL.split_dec 48 rfl (fun h48 => ?_) (fun h48 => ?_)
          ·
            replace hS := it_t h48 hS
            refine VL.gn rfl rfl rfl (by decide) ?_
            refine VL.gn rfl rfl rfl (by decide) ?_
            refine VL.gn rfl rfl rfl (by decide) ?_
            refine VL.gn rfl rfl rfl (by decide) ?_
            refine VL.gn rfl rfl rfl (by decide) ?_
            refine VL.q (q_pick_t rfl rfl) (by decide) ?_
            refine VL.q (q_move rfl) (by decide) ?_
            refine VL.gn rfl rfl rfl (by decide) ?_
            refine VL.gn rfl rfl rfl (by decide) ?_
            refine VL.gn rfl rfl rfl (by decide) ?_
            refine VL.gn rfl rfl rfl (by decide) ?_
            refine VL.gn rfl rfl rfl (by decide) ?_
            refine VL.q (q_pick_t rfl rfl) (by decide) ?_
            refine VL.mt true [0, 1, 2, 61] (fun _ _ h => h) hS rfl
          ·
            replace hS := it_f h48 hS
            refine VL.gy rfl rfl (q_move rfl) (by decide) ?_
            obtain ⟨y50_11, ey50_11, hS⟩ := bd_s hS
            refine VL.gy rfl rfl (q_call (rectoref11_Join_ct a_1 ey50_11) rfl (fun _ _ => rfl)) (by decide) ?_
            refine VL.guard rfl rfl ?_
            obtain ⟨y51_12, ey51_12, hS⟩ := bd_s hS
            refine VL.callO (rectoref11_Split_ct y50_11 ey51_12) rfl (by decide) ?_
            rintro q51_12_0 rfl
            try dsimp only
            refine VL.gy rfl rfl (q_ln (s := q51_12_0) Try.underlying28 rfl) (by decide) ?_
            refine VL.gy rfl rfl (q_gtr rfl rfl) (by decide) ?_
            refine VL.q (q_pick_f rfl rfl) (by decide) ?_
            refine VL.q (q_move rfl) (by decide) ?_
            refine VL.split_dec 55 rfl (fun h55 => ?_) (fun h55 => ?_)
            ·
              replace hS := it_t h55 hS
              refine VL.gn rfl rfl rfl (by decide) ?_
              refine VL.gn rfl rfl rfl (by decide) ?_
              refine VL.gn rfl rfl rfl (by decide) ?_
              refine VL.gn rfl rfl rfl (by decide) ?_
              refine VL.gn rfl rfl rfl (by decide) ?_
              refine VL.q (q_pick_t rfl rfl) (by decide) ?_
              refine VL.mt true [0, 1, 2, 61] (fun _ _ h => h) hS rfl
            ·
              replace hS := it_f h55 hS
              refine VL.gy rfl rfl (q_move rfl) (by decide) ?_
              obtain ⟨y57_13, ey57_13, hS⟩ := bd_s hS
              refine VL.gy rfl rfl (q_call (rectoref11_Join_ct a_2 ey57_13) rfl (fun _ _ => rfl)) (by decide) ?_
              refine VL.guard rfl rfl ?_
              obtain ⟨y58_14, ey58_14, hS⟩ := bd_s hS
              refine VL.callO (rectoref11_Split_ct y57_13 ey58_14) rfl (by decide) ?_
              rintro q58_14_0 rfl
              try dsimp only
              refine VL.gy rfl rfl (q_ln (s := q58_14_0) Try.underlying28 rfl) (by decide) ?_
              refine VL.gy rfl rfl (q_gtr rfl rfl) (by decide) ?_
              refine VL.q (q_pick_f rfl rfl) (by decide) ?_
              refine VL.mt (decide (60 < (q58_14_0.l.length : Int))) [0, 1, 2, 61] (fun _ _ h => h) hS rfl
        · -- from there
          clear hS
          rintro x61_7 hS
          show VC _ _ _ _ _ [(0, a_0.val), (1, a_1.val), (2, a_2.val), (61, .bool x61_7)] (Mo.and Mo.tt _) (Ow.emp)
          refine VC.cond rfl (fun h61 => ?_) (fun h61 => ?_)
          ·
            replace hS := it_t h61 hS
            refine VC.seq ?_
            refine VC.region ?_
            refine VL.q (q_assign rfl) (by decide) ?_
            refine VL.to (fun _ _ h => h) ?_
            cases hS
            exact VC.ret (fin1 (.inr rfl) rfl rfl () rfl trivial (fun _ _ => trivial) (fun _ _ => trivial))
          ·
            replace hS := it_b h61 hS
            refine VC.skip_to (fun _ _ h => h) ?_
            refine VC.seq ?_
            refine VC.region ?_
            refine VL.q (q_move rfl) (by decide) ?_
            obtain ⟨y64_15, ey64_15, hS⟩ := bd_s hS
            refine VL.q (q_call (rectoref11_Join_ct a_0 ey64_15) rfl (fun _ _ => rfl)) (by decide) ?_
            refine VL.q (q_move rfl) (by decide) ?_
            obtain ⟨y66_16, ey66_16, hS⟩ := bd_s hS
            refine VL.q (q_call (rectoref11_Join_ct a_1 ey66_16) rfl (fun _ _ => rfl)) (by decide) ?_
            refine VL.q (q_move rfl) (by decide) ?_
            obtain ⟨y68_17, ey68_17, hS⟩ := bd_s hS
            refine VL.q (q_call (rectoref11_Join_ct a_2 ey68_17) rfl (fun _ _ => rfl)) (by decide) ?_
            obtain ⟨y69_18, ey69_18, hS⟩ := bd_s hS
            refine VL.callF (merge_Text_ct y64_15 y66_16 y68_17 [112] [113] ey69_18) rfl (by decide) ?_
            rintro ⟨q69_18_0, q69_18_1, q69_18_2⟩ rfl
            try dsimp only
            refine VL.q (q_move rfl) (by decide) ?_
            refine VL.q (q_extract rfl rfl) (by decide) ?_
            refine VL.q (q_extract rfl rfl) (by decide) ?_
            refine VL.q (q_extract rfl rfl) (by decide) ?_
            refine VL.q (q_assign rfl) (by decide) ?_
            refine VL.q (q_assign rfl) (by decide) ?_
            refine VL.q (q_assign rfl) (by decide) ?_
            refine VL.to (fun _ _ h => h) ?_
            refine VC.keep [0, 1, 2, 7, 8, 9] rfl ?_
            refine VC.seq ?_
            refine VC.region ?_
            refine VL.q (q_move rfl) (by decide) ?_
            obtain ⟨y75_19, ey75_19, hS⟩ := bd_s hS
            refine VL.q (q_call (rectoref11_Join_ct a_0 ey75_19) rfl (fun _ _ => rfl)) (by decide) ?_
            refine VL.q (q_move rfl) (by decide) ?_
            obtain ⟨y77_20, ey77_20, hS⟩ := bd_s hS
            refine VL.q (q_call (rectoref11_Join_ct a_2 ey77_20) rfl (fun _ _ => rfl)) (by decide) ?_
            refine VL.q (q_move rfl) (by decide) ?_
            obtain ⟨y79_21, ey79_21, hS⟩ := bd_s hS
            refine VL.q (q_call (rectoref11_Join_ct a_1 ey79_21) rfl (fun _ _ => rfl)) (by decide) ?_
            obtain ⟨y80_22, ey80_22, hS⟩ := bd_s hS
            refine VL.callF (merge_Text_ct y75_19 y77_20 y79_21 [112] [113] ey80_22) rfl (by decide) ?_
            rintro ⟨q80_22_0, q80_22_1, q80_22_2⟩ rfl
            try dsimp only
            refine VL.q (q_move rfl) (by decide) ?_
            refine VL.q (q_extract rfl rfl) (by decide) ?_
            refine VL.q (q_extract rfl rfl) (by decide) ?_
            refine VL.q (q_extract rfl rfl) (by decide) ?_
            refine VL.q (q_assign rfl) (by decide) ?_
            refine VL.q (q_assign rfl) (by decide) ?_
            refine VL.q (q_assign rfl) (by decide) ?_
            refine VL.to (fun _ _ h => h) ?_
            refine VC.keep [7, 8, 9, 10, 11, 12] rfl ?_
            refine VC.seq ?_
            refine VC.region ?_
            refine VL.q (q_move rfl) (by decide) ?_
            refine VL.q (q_ereq Try.underlying24 rfl) (by decide) ?_
            refine VL.q (q_move rfl) (by decide) ?_
            refine VL.split_dec 86 rfl (fun h86 => ?_) (fun h86 => ?_)
            ·
              replace hS := it_t h86 hS
              refine VL.gy rfl rfl (q_move rfl) (by decide) ?_
              refine VL.gy rfl rfl (q_ereq Try.underlying24 rfl) (by decide) ?_
              refine VL.q (q_pick_t rfl rfl) (by decide) ?_
              refine VL.q (q_move rfl) (by decide) ?_
              refine VL.split_dec 90 rfl (fun h90 => ?_) (fun h90 => ?_)
              ·
                replace hS := it_t h90 hS
                refine VL.gy rfl rfl (q_move rfl) (by decide) ?_
                refine VL.gy rfl rfl (q_move rfl) (by decide) ?_
                refine VL.gy rfl rfl (q_eql rfl rfl) (by decide) ?_
                refine VL.q (q_pick_t rfl rfl) (by decide) ?_
                refine VL.q (q_move rfl) (by decide) ?_
                refine VL.split_dec 95 rfl (fun h95 => ?_) (fun h95 => ?_)
                ·
                  replace hS := it_t h95 hS
                  refine VL.gy rfl rfl (q_move rfl) (by decide) ?_
                  refine VL.gy rfl rfl (q_gtr rfl rfl) (by decide) ?_
                  refine VL.gy rfl rfl (q_move rfl) (by decide) ?_
                  refine VL.split_dec 98 rfl (fun h98 => ?_) (fun h98 => ?_)
                  ·
                    replace hS := it_t h98 hS
                    refine VL.gn rfl rfl rfl (by decide) ?_
                    refine VL.gn rfl rfl rfl (by decide) ?_
                    refine VL.gn rfl rfl rfl (by decide) ?_
                    refine VL.gy rfl rfl (q_pick_t rfl rfl) (by decide) ?_
                    refine VL.q (q_pick_t rfl rfl) (by decide) ?_
                    refine VL.q (q_assign rfl) (by decide) ?_
                    refine VL.to (fun _ _ h => h) ?_
                    refine VC.keep [6] rfl ?_
                    cases hS
                    exact VC.ret (fin1 (.inr rfl) rfl rfl () rfl trivial (fun _ _ => trivial) (fun _ _ => trivial))
                  ·
                    replace hS := it_f h98 hS
                    refine VL.gy rfl rfl (q_move rfl) (by decide) ?_
                    refine VL.gy rfl rfl (q_move rfl) (by decide) ?_
                    refine VL.gy rfl rfl (q_seq rfl rfl) (by decide) ?_
                    refine VL.gy rfl rfl (q_pick_f rfl rfl) (by decide) ?_
                    refine VL.q (q_pick_t rfl rfl) (by decide) ?_
                    refine VL.q (q_assign rfl) (by decide) ?_
                    refine VL.to (fun _ _ h => h) ?_
                    refine VC.keep [6] rfl ?_
                    cases hS
                    exact VC.ret (fin1 (.inr rfl) rfl rfl () rfl trivial (fun _ _ => trivial) (fun _ _ => trivial))
                ·
                  replace hS := it_f h95 hS
                  refine VL.gn rfl rfl rfl (by decide) ?_
                  refine VL.gn rfl rfl rfl (by decide) ?_
                  refine VL.gn rfl rfl rfl (by decide) ?_
                  refine VL.gu rfl rfl (by decide) ?_
                  refine VL.gu rfl rfl (by decide) ?_
                  refine VL.gu rfl rfl (by decide) ?_
                  refine VL.gn rfl rfl rfl (by decide) ?_
                  refine VL.q (q_pick_f rfl rfl) (by decide) ?_
                  refine VL.q (q_assign rfl) (by decide) ?_
                  refine VL.to (fun _ _ h => h) ?_
                  refine VC.keep [6] rfl ?_
                  cases hS
                  exact VC.ret (fin1 (.inr rfl) rfl rfl () rfl trivial (fun _ _ => trivial) (fun _ _ => trivial))
              ·
                replace hS := it_f h90 hS
                refine VL.gn rfl rfl rfl (by decide) ?_
                refine VL.gn rfl rfl rfl (by decide) ?_
                refine VL.gn rfl rfl rfl (by decide) ?_
                refine VL.q (q_pick_f rfl rfl) (by decide) ?_
                refine VL.q (q_move rfl) (by decide) ?_
                refine VL.gn rfl rfl rfl (by decide) ?_
                refine VL.gn rfl rfl rfl (by decide) ?_
                refine VL.gn rfl rfl rfl (by decide) ?_
                refine VL.gu rfl rfl (by decide) ?_
                refine VL.gu rfl rfl (by decide) ?_
                refine VL.gu rfl rfl (by decide) ?_
                refine VL.gn rfl rfl rfl (by decide) ?_
                refine VL.q (q_pick_f rfl rfl) (by decide) ?_
                refine VL.q (q_assign rfl) (by decide) ?_
                refine VL.to (fun _ _ h => h) ?_
                refine VC.keep [6] rfl ?_
                cases hS
                exact VC.ret (fin1 (.inr rfl) rfl rfl () rfl trivial (fun _ _ => trivial) (fun _ _ => trivial))
            ·
              replace hS := it_f h86 hS
              refine VL.gn rfl rfl rfl (by decide) ?_
              refine VL.gn rfl rfl rfl (by decide) ?_
              refine VL.q (q_pick_f rfl rfl) (by decide) ?_
              refine VL.q (q_move rfl) (by decide) ?_
              refine VL.gn rfl rfl rfl (by decide) ?_
              refine VL.gn rfl rfl rfl (by decide) ?_
              refine VL.gn rfl rfl rfl (by decide) ?_
              refine VL.q (q_pick_f rfl rfl) (by decide) ?_
              refine VL.q (q_move rfl) (by decide) ?_
              refine VL.gn rfl rfl rfl (by decide) ?_
              refine VL.gn rfl rfl rfl (by decide) ?_
              refine VL.gn rfl rfl rfl (by decide) ?_
              refine VL.gu rfl rfl (by decide) ?_
              refine VL.gu rfl rfl (by decide) ?_
              refine VL.gu rfl rfl (by decide) ?_
              refine VL.gn rfl rfl rfl (by decide) ?_
              refine VL.q (q_pick_f rfl rfl) (by decide) ?_
              refine VL.q (q_assign rfl) (by decide) ?_
              refine VL.to (fun _ _ h => h) ?_
              refine VC.keep [6] rfl ?_
              cases hS
              exact VC.ret (fin1 (.inr rfl) rfl rfl () rfl trivial (fun _ _ => trivial) (fun _ _ => trivial))

set_option maxHeartbeats 4000000 in
set_option maxRecDepth 100000 in
theorem rectolaw13_MergeFar_ct (a_0 : Int) (a_1 : Str) (a_2 : Str) {r : Bool} (hS : Sh.rectolaw13_MergeFar a_0 a_1 a_2 = some r) :
    Ct Try.prog 7 [.int .u8 a_0, str a_1, str a_2] Mo.tt (Ow.emp) (X := Unit) (fun _ => .bool r) (fun _ => True) (fun _ => Mo.tt) (fun _ => Ow.emp) := by
  refine Ct.of Try.func7 rfl (by kernel_rfl) Try.ntmps7 (by simp) fun c => ?_
  unfold Sh.rectolaw13_MergeFar at hS
  refine VC.seq ?_
  refine VC.region ?_
  refine VL.q (q_assign rfl) (by decide) ?_
  refine VL.to (fun _ _ h => h) ?_
  refine VC.seq ?_
  refine VC.seq ?_
  refine VC.region ?_
  obtain ⟨y14_1, ey14_1, hS⟩ := bd_s hS
  refine VL.q (q_call (rectolaw13_known_ct ey14_1) rfl (fun _ _ => rfl)) (by decide) ?_
  refine VL.q (q_not rfl) (by decide) ?_
  refine VL.to (fun _ _ h => h) ?_
  refine VC.cond rfl (fun h15 => ?_) (fun h15 => ?_)
  ·
    replace hS := it_t h15 hS
    refine VC.seq ?_
    refine VC.region ?_
    refine VL.q (q_assign rfl) (by decide) ?_
    refine VL.to (fun _ _ h => h) ?_
    cases hS
    exact VC.ret (fin1 (.inr rfl) rfl rfl () rfl trivial (fun _ _ => trivial) (fun _ _ => trivial))
  ·
    replace hS := it_b h15 hS
    refine VC.skip_to (fun _ _ h => h) ?_
    refine VC.seq ?_
    refine VC.cutJ (S := Bool) (fun (x23_2 : Bool) => x23_2) (fun (x23_2 : Bool) => [(0, .int .u8 a_0), (1, str a_1), (2, str a_2), (23, .bool x23_2)]) (fun (x23_2 : Bool) => Mo.tt) (fun (x23_2 : Bool) => Ow.emp) hS ?_ ?_
    · -- up to where ways meet
      clear hS
      intro k3 hS
      refine VC.region ?_
      refine VL.q (q_move rfl) (by decide) ?_
      refine VL.q (q_slen Try.underlying9 rfl) (by decide) ?_
      refine VL.q (q_gtr rfl rfl) (by decide) ?_
      refine VL.q (q_move rfl) (by decide) ?_
      refine VL.split_dec 19 rfl (fun h19 => ?_) (fun h19 => ?_)
      ·
        replace hS := it_t h19 hS
        refine VL.gn rfl rfl rfl (by decide) ?_
        refine VL.gn rfl rfl rfl (by decide) ?_
        refine VL.gn rfl rfl rfl (by decide) ?_
        refine VL.q (q_pick_t rfl rfl) (by decide) ?_
        refine VL.mt true [0, 1, 2, 23] (fun _ _ h => h) hS rfl
      ·
        replace hS := it_f h19 hS
        refine VL.gy rfl rfl (q_move rfl) (by decide) ?_
        refine VL.gy rfl rfl (q_slen Try.underlying9 rfl) (by decide) ?_
        refine VL.gy rfl rfl (q_gtr rfl rfl) (by decide) ?_
        refine VL.q (q_pick_f rfl rfl) (by decide) ?_
        refine VL.mt (decide (50 < (a_2.length : Int))) [0, 1, 2, 23] (fun _ _ h => h) hS rfl
    · -- from there
      clear hS
      rintro x23_2 hS
      show VC _ _ _ _ _ [(0, .int .u8 a_0), (1, str a_1), (2, str a_2), (23, .bool x23_2)] (Mo.and Mo.tt _) (Ow.emp)
      refine VC.cond rfl (fun h23 => ?_) (fun h23 => ?_)
      ·
        replace hS := it_t h23 hS
        refine VC.seq ?_
        refine VC.region ?_
        refine VL.q (q_assign rfl) (by decide) ?_
        refine VL.to (fun _ _ h => h) ?_
        cases hS
        exact VC.ret (fin1 (.inr rfl) rfl rfl () rfl trivial (fun _ _ => trivial) (fun _ _ => trivial))
      ·
        replace hS := it_b h23 hS
        refine VC.skip_to (fun _ _ h => h) ?_
        refine VC.seq ?_
        refine VC.seq ?_
        refine VC.region ?_
        refine VL.q (q_assign rfl) (by decide) ?_
        refine VL.to (fun _ _ h => h) ?_
        refine VC.block ?_
        refine VC.iter (S := Int) (fun (x7_4 : Int) => x7_4) (fun (x7_4 : Int) => [(0, .int .u8 a_0), (1, str a_1), (2, str a_2), (7, i64 x7_4)]) (fun (x7_4 : Int) => Mo.tt) (fun (x7_4 : Int) => Ow.emp) 0 [0, 1, 2, 7] hS rfl ?_
        clear hS
        rintro x7_4 m1 y1 hS hK1
        show VC _ _ _ _ _ [(0, .int .u8 a_0), (1, str a_1), (2, str a_2), (7, i64 x7_4)] (Mo.and Mo.tt _) (Ow.emp)
        refine VC.seq ?_
        refine VC.seq ?_
        refine VC.region ?_
        refine VL.q (q_move rfl) (by decide) ?_
        refine VL.q (q_move rfl) (by decide) ?_
        refine VL.q (q_slen Try.underlying9 rfl) (by decide) ?_
        refine VL.q (q_lss rfl rfl) (by decide) ?_
        refine VL.to (fun _ _ h => h) ?_
        refine VC.cond_dec rfl (fun h27 => ?_) (fun h27 => ?_)
        ·
          replace hS := it_t h27 hS
          refine VC.skip_to (fun _ _ h => h) ?_
          refine VC.seq ?_
          refine VC.block ?_
          refine VC.seq ?_
          refine VC.region ?_
          refine VL.q (q_move rfl) (by decide) ?_
          refine VL.q (q_move rfl) (by decide) ?_
          obtain ⟨z32_5, nz32_5, hz32_5, hS⟩ := at_s hS
          refine VL.q (q_sidx Try.underlying9 rfl rfl nz32_5 hz32_5) (by decide) ?_
          refine VL.q (q_eql rfl rfl) (by decide) ?_
          refine VL.to (fun _ _ h => h) ?_
          refine VC.keep [0, 1, 2, 7, 33] rfl ?_
          refine VC.cond_dec rfl (fun h33 => ?_) (fun h33 => ?_)
          ·
            replace hS := it_t h33 hS
            refine VC.seq ?_
            refine VC.region ?_
            refine VL.q (q_assign rfl) (by decide) ?_
            refine VL.to (fun _ _ h => h) ?_
            replace hS := up2 hS hK1
            cases hS
            exact VC.ret (fin1 (.inr rfl) rfl rfl () rfl trivial (fun _ _ => trivial) (fun _ _ => trivial))
          ·
            replace hS := it_f h33 hS
            refine VC.skip_to (fun _ _ h => h) ?_
            refine VC.region ?_
            refine VL.q (q_move rfl) (by decide) ?_
            obtain ⟨b29, hS⟩ := gd_s hS
            refine VL.q (q_add rfl rfl b29) (by decide) ?_
            refine VL.q (q_assign rfl) (by decide) ?_
            refine VL.rnd (x7_4 + 1) [0, 1, 2, 7] (fun _ _ h => h) (go2 hS hK1) rfl
        ·
          replace hS := it_f h27 hS
          replace hS := up2 hS hK1
          refine VC.exit_to (fun _ _ h => h) ?_
          refine VC.seq ?_
          refine VC.seq ?_
          refine VC.region ?_
          refine VL.q (q_assign rfl) (by decide) ?_
          refine VL.to (fun _ _ h => h) ?_
          refine VC.block ?_
          refine VC.iter (S := Int) (fun (x8_6 : Int) => x8_6) (fun (x8_6 : Int) => [(0, .int .u8 a_0), (1, str a_1), (2, str a_2), (8, i64 x8_6)]) (fun (x8_6 : Int) => Mo.tt) (fun (x8_6 : Int) => Ow.emp) 0 [0, 1, 2, 8] hS rfl ?_
          clear hS
          rintro x8_6 m1 y1 hS hK1
          show VC _ _ _ _ _ [(0, .int .u8 a_0), (1, str a_1), (2, str a_2), (8, i64 x8_6)] (Mo.and Mo.tt _) (Ow.emp)
          refine VC.seq ?_
          refine VC.seq ?_
          refine VC.region ?_
          refine VL.q (q_move rfl) (by decide) ?_
          refine VL.q (q_move rfl) (by decide) ?_
          refine VL.q (q_slen Try.underlying9 rfl) (by decide) ?_
          refine VL.q (q_lss rfl rfl) (by decide) ?_
          refine VL.to (fun _ _ h => h) ?_
          refine VC.cond_dec rfl (fun h37 => ?_) (fun h37 => ?_)
          ·
            replace hS := it_t h37 hS
            refine VC.skip_to (fun _ _ h => h) ?_
            refine VC.seq ?_
            refine VC.block ?_
            refine VC.seq ?_
            refine VC.region ?_
            refine VL.q (q_move rfl) (by decide) ?_
            refine VL.q (q_move rfl) (by decide) ?_
            obtain ⟨z42_7, nz42_7, hz42_7, hS⟩ := at_s hS
            refine VL.q (q_sidx Try.underlying9 rfl rfl nz42_7 hz42_7) (by decide) ?_
            refine VL.q (q_eql rfl rfl) (by decide) ?_
            refine VL.to (fun _ _ h => h) ?_
            refine VC.keep [0, 1, 2, 8, 43] rfl ?_
            refine VC.cond_dec rfl (fun h43 => ?_) (fun h43 => ?_)
            ·
              replace hS := it_t h43 hS
              refine VC.seq ?_
              refine VC.region ?_
              refine VL.q (q_assign rfl) (by decide) ?_
              refine VL.to (fun _ _ h => h) ?_
              replace hS := up2 hS hK1
              cases hS
              exact VC.ret (fin1 (.inr rfl) rfl rfl () rfl trivial (fun _ _ => trivial) (fun _ _ => trivial))
            ·
              replace hS := it_f h43 hS
              refine VC.skip_to (fun _ _ h => h) ?_
              refine VC.region ?_
              refine VL.q (q_move rfl) (by decide) ?_
              obtain ⟨b39, hS⟩ := gd_s hS
              refine VL.q (q_add rfl rfl b39) (by decide) ?_
              refine VL.q (q_assign rfl) (by decide) ?_
              refine VL.rnd (x8_6 + 1) [0, 1, 2, 8] (fun _ _ h => h) (go2 hS hK1) rfl
          ·
            replace hS := it_f h37 hS
            replace hS := up2 hS hK1
            refine VC.exit_to (fun _ _ h => h) ?_
            refine VC.seq ?_
            refine VC.region ?_
            refine VL.q (q_assign rfl) (by decide) ?_
            refine VL.to (fun _ _ h => h) ?_
            refine VC.seq ?_
            refine VC.seq ?_
            refine VC.region ?_
            refine VL.q (q_assign rfl) (by decide) ?_
            refine VL.to (fun _ _ h => h) ?_
            refine VC.block ?_
            refine VC.iter (S := Str × Int) (fun sg => (sg.1, sg.2)) (fun sg => [(0, .int .u8 a_0), (1, str a_1), (2, str a_2), (9, str sg.1), (10, i64 sg.2)]) (fun sg => Mo.tt) (fun sg => Ow.emp) ([109, 10], 0) [0, 1, 2, 9, 10] hS rfl ?_
            clear hS
            rintro ⟨x9_8, x10_9⟩ m1 y1 hS hK1
            show VC _ _ _ _ _ [(0, .int .u8 a_0), (1, str a_1), (2, str a_2), (9, str x9_8), (10, i64 x10_9)] (Mo.and Mo.tt _) (Ow.emp)
            refine VC.seq ?_
            refine VC.seq ?_
            refine VC.region ?_
            refine VL.q (q_move rfl) (by decide) ?_
            refine VL.q (q_move rfl) (by decide) ?_
            obtain ⟨b46, hS⟩ := gd_s hS
            refine VL.q (q_rem rfl rfl b46) (by decide) ?_
            obtain ⟨b47, hS⟩ := gd_s hS
            refine VL.q (q_conv Try.underlying5 Try.underlying3 rfl (wi64_in b47)) (by decide) ?_
            refine VL.q (q_lss rfl rfl) (by decide) ?_
            refine VL.to (fun _ _ h => h) ?_
            refine VC.cond_dec rfl (fun h48 => ?_) (fun h48 => ?_)
            ·
              replace hS := it_t h48 hS
              refine VC.skip_to (fun _ _ h => h) ?_
              refine VC.seq ?_
              refine VC.block ?_
              refine VC.region ?_
              refine VL.q (q_move rfl) (by decide) ?_
              obtain ⟨b52, hS⟩ := gd_s hS
              obtain ⟨y52_10, ey52_10, hS⟩ := lt_s hS
              refine VL.q (q_catE rfl rfl b52 ey52_10) (by decide) ?_
              refine VL.q (q_move rfl) (by decide) ?_
              obtain ⟨b54, hS⟩ := gd_s hS
              refine VL.q (q_add rfl rfl b54) (by decide) ?_
              obtain ⟨b55, hS⟩ := gd_s hS
              refine VL.q (q_conv Try.underlying3 Try.underlying5 rfl (wu8_in b55)) (by decide) ?_
              obtain ⟨b56_55, hS⟩ := gd_s hS
              obtain ⟨u56_12, eu56_12, hS⟩ := lt_s hS
              refine VL.setv 55 rfl (congrArg (Value.int .u8) (u8_z b56_55 eu56_12)) ?_
              refine VL.lit (α := UInt8) (xs := [.tmp 55]) (vs := [.int .u8 (u56_12.toNat : Int)]) [u56_12] Try.underlying40 glit5 (by decide) rfl rfl rfl rfl (by decide) (fun _ _ _ _ => trivial) (by decide) (fun s56_11 hs56_11 => ?_) (by decide)
              replace hS := lt_to hs56_11 hS
              refine VL.q (q_b2s (s := s56_11) Try.underlying40 Try.underlying5 Try.underlying9 rfl) (by decide) ?_
              obtain ⟨b58, hS⟩ := gd_s hS
              obtain ⟨y58_14, ey58_14, hS⟩ := lt_s hS
              refine VL.q (q_catE rfl rfl b58 ey58_14) (by decide) ?_
              obtain ⟨b59, hS⟩ := gd_s hS
              obtain ⟨y59_15, ey59_15, hS⟩ := lt_s hS
              refine VL.q (q_catE rfl rfl b59 ey59_15) (by decide) ?_
              refine VL.q (q_assign rfl) (by decide) ?_
              refine VL.to (fun _ _ h => h) ?_
              refine VC.keep [0, 1, 2, 9, 10] rfl ?_
              refine VC.region ?_
              refine VL.q (q_move rfl) (by decide) ?_
              obtain ⟨b50, hS⟩ := gd_s hS
              refine VL.q (q_add rfl rfl b50) (by decide) ?_
              refine VL.q (q_assign rfl) (by decide) ?_
              refine VL.rnd (y59_15, (x10_9 + 1)) [0, 1, 2, 9, 10] (fun _ _ h => h) (go2 hS hK1) rfl
            ·
              replace hS := it_f h48 hS
              replace hS := up2 hS hK1
              refine VC.exit_to (fun _ _ h => h) ?_
              refine VC.seq ?_
              refine VC.region ?_
              refine VL.q (q_move rfl) (by decide) ?_
              obtain ⟨b62, hS⟩ := gd_s hS
              obtain ⟨y62_16, ey62_16, hS⟩ := lt_s hS
              refine VL.q (q_catE rfl rfl b62 ey62_16) (by decide) ?_
              obtain ⟨b63, hS⟩ := gd_s hS
              obtain ⟨y63_17, ey63_17, hS⟩ := lt_s hS
              refine VL.q (q_catE rfl rfl b63 ey63_17) (by decide) ?_
              refine VL.q (q_move rfl) (by decide) ?_
              obtain ⟨b65, hS⟩ := gd_s hS
              obtain ⟨y65_18, ey65_18, hS⟩ := lt_s hS
              refine VL.q (q_catE rfl rfl b65 ey65_18) (by decide) ?_
              obtain ⟨b66, hS⟩ := gd_s hS
              obtain ⟨y66_19, ey66_19, hS⟩ := lt_s hS
              refine VL.q (q_catE rfl rfl b66 ey66_19) (by decide) ?_
              refine VL.q (q_move rfl) (by decide) ?_
              obtain ⟨b68, hS⟩ := gd_s hS
              obtain ⟨y68_20, ey68_20, hS⟩ := lt_s hS
              refine VL.q (q_catE rfl rfl b68 ey68_20) (by decide) ?_
              obtain ⟨b69, hS⟩ := gd_s hS
              obtain ⟨y69_21, ey69_21, hS⟩ := lt_s hS
              refine VL.q (q_catE rfl rfl b69 ey69_21) (by decide) ?_
              refine VL.q (q_move rfl) (by decide) ?_
              obtain ⟨b71, hS⟩ := gd_s hS
              obtain ⟨y71_22, ey71_22, hS⟩ := lt_s hS
              refine VL.q (q_catE rfl rfl b71 ey71_22) (by decide) ?_
              obtain ⟨b72, hS⟩ := gd_s hS
              obtain ⟨y72_23, ey72_23, hS⟩ := lt_s hS
              refine VL.q (q_catE rfl rfl b72 ey72_23) (by decide) ?_
              refine VL.q (q_move rfl) (by decide) ?_
              obtain ⟨b74, hS⟩ := gd_s hS
              obtain ⟨y74_24, ey74_24, hS⟩ := lt_s hS
              refine VL.q (q_catE rfl rfl b74 ey74_24) (by decide) ?_
              obtain ⟨b75, hS⟩ := gd_s hS
              obtain ⟨y75_25, ey75_25, hS⟩ := lt_s hS
              refine VL.q (q_catE rfl rfl b75 ey75_25) (by decide) ?_
              obtain ⟨y76_26, ey76_26, hS⟩ := bd_s hS
              refine VL.callF (merge_Text_ct y63_17 y69_21 y75_25 [112] [113] ey76_26) rfl (by decide) ?_
              rintro ⟨q76_26_0, q76_26_1, q76_26_2⟩ rfl
              try dsimp only
              refine VL.q (q_move rfl) (by decide) ?_
              refine VL.q (q_extract rfl rfl) (by decide) ?_
              refine VL.q (q_extract rfl rfl) (by decide) ?_
              refine VL.q (q_extract rfl rfl) (by decide) ?_
              refine VL.q (q_assign rfl) (by decide) ?_
              refine VL.q (q_assign rfl) (by decide) ?_
              refine VL.q (q_assign rfl) (by decide) ?_
              refine VL.to (fun _ _ h => h) ?_
              refine VC.keep [1, 2, 9, 11, 12, 13] rfl ?_
              refine VC.seq ?_
              refine VC.region ?_
              refine VL.q (q_move rfl) (by decide) ?_
              refine VL.q (q_ereq Try.underlying24 rfl) (by decide) ?_
              refine VL.q (q_move rfl) (by decide) ?_
              refine VL.split_dec 82 rfl (fun h82 => ?_) (fun h82 => ?_)
              ·
                replace hS := it_t h82 hS
                refine VL.gy rfl rfl (q_move rfl) (by decide) ?_
                refine VL.gy rfl rfl (q_eql rfl rfl) (by decide) ?_
                refine VL.q (q_pick_t rfl rfl) (by decide) ?_
                refine VL.q (q_move rfl) (by decide) ?_
                refine VL.split_dec 86 rfl (fun h86 => ?_) (fun h86 => ?_)
                ·
                  replace hS := it_t h86 hS
                  refine VL.gy rfl rfl (q_move rfl) (by decide) ?_
                  refine VL.gy rfl rfl (q_move rfl) (by decide) ?_
                  obtain ⟨b89, hS⟩ := gd_s hS
                  obtain ⟨y89_27, ey89_27, hS⟩ := lt_s hS
                  refine VL.gy rfl rfl (q_catE rfl rfl b89 ey89_27) (by decide) ?_
                  obtain ⟨b90, hS⟩ := gd_s hS
                  obtain ⟨y90_28, ey90_28, hS⟩ := lt_s hS
                  refine VL.gy rfl rfl (q_catE rfl rfl b90 ey90_28) (by decide) ?_
                  refine VL.gy rfl rfl (q_move rfl) (by decide) ?_
                  obtain ⟨b92, hS⟩ := gd_s hS
                  obtain ⟨y92_29, ey92_29, hS⟩ := lt_s hS
                  refine VL.gy rfl rfl (q_catE rfl rfl b92 ey92_29) (by decide) ?_
                  obtain ⟨b93, hS⟩ := gd_s hS
                  obtain ⟨y93_30, ey93_30, hS⟩ := lt_s hS
                  refine VL.gy rfl rfl (q_catE rfl rfl b93 ey93_30) (by decide) ?_
                  refine VL.gy rfl rfl (q_move rfl) (by decide) ?_
                  obtain ⟨b95, hS⟩ := gd_s hS
                  obtain ⟨y95_31, ey95_31, hS⟩ := lt_s hS
                  refine VL.gy rfl rfl (q_catE rfl rfl b95 ey95_31) (by decide) ?_
                  obtain ⟨b96, hS⟩ := gd_s hS
                  obtain ⟨y96_32, ey96_32, hS⟩ := lt_s hS
                  refine VL.gy rfl rfl (q_catE rfl rfl b96 ey96_32) (by decide) ?_
                  refine VL.gy rfl rfl (q_seq rfl rfl) (by decide) ?_
                  refine VL.q (q_pick_t rfl rfl) (by decide) ?_
                  refine VL.q (q_assign rfl) (by decide) ?_
                  refine VL.to (fun _ _ h => h) ?_
                  refine VC.keep [6] rfl ?_
                  cases hS
                  exact VC.ret (fin1 (.inr rfl) rfl rfl () rfl trivial (fun _ _ => trivial) (fun _ _ => trivial))
                ·
                  replace hS := it_f h86 hS
                  refine VL.gn rfl rfl rfl (by decide) ?_
                  refine VL.gn rfl rfl rfl (by decide) ?_
                  refine VL.gn rfl rfl rfl (by decide) ?_
                  refine VL.gn rfl rfl rfl (by decide) ?_
                  refine VL.gn rfl rfl rfl (by decide) ?_
                  refine VL.gn rfl rfl rfl (by decide) ?_
                  refine VL.gn rfl rfl rfl (by decide) ?_
                  refine VL.gn rfl rfl rfl (by decide) ?_
                  refine VL.gn rfl rfl rfl (by decide) ?_
                  refine VL.gn rfl rfl rfl (by decide) ?_
                  refine VL.gn rfl rfl rfl (by decide) ?_
                  refine VL.q (q_pick_f rfl rfl) (by decide) ?_
                  refine VL.q (q_assign rfl) (by decide) ?_
                  refine VL.to (fun _ _ h => h) ?_
                  refine VC.keep [6] rfl ?_
                  cases hS
                  exact VC.ret (fin1 (.inr rfl) rfl rfl () rfl trivial (fun _ _ => trivial) (fun _ _ => trivial))
              ·
                replace hS := it_f h82 hS
                refine VL.gn rfl rfl rfl (by decide) ?_
                refine VL.gn rfl rfl rfl (by decide) ?_
                refine VL.q (q_pick_f rfl rfl) (by decide) ?_
                refine VL.q (q_move rfl) (by decide) ?_
                refine VL.gn rfl rfl rfl (by decide) ?_
                refine VL.gn rfl rfl rfl (by decide) ?_
                refine VL.gn rfl rfl rfl (by decide) ?_
                refine VL.gn rfl rfl rfl (by decide) ?_
                refine VL.gn rfl rfl rfl (by decide) ?_
                refine VL.gn rfl rfl rfl (by decide) ?_
                refine VL.gn rfl rfl rfl (by decide) ?_
                refine VL.gn rfl rfl rfl (by decide) ?_
                refine VL.gn rfl rfl rfl (by decide) ?_
                refine VL.gn rfl rfl rfl (by decide) ?_
                refine VL.gn rfl rfl rfl (by decide) ?_
                refine VL.q (q_pick_f rfl rfl) (by decide) ?_
                refine VL.q (q_assign rfl) (by decide) ?_
                refine VL.to (fun _ _ h => h) ?_
                refine VC.keep [6] rfl ?_
                cases hS
                exact VC.ret (fin1 (.inr rfl) rfl rfl () rfl trivial (fun _ _ => trivial) (fun _ _ => trivial))

end Go.Proofs.Ytmkncbldffncpaa
end

section
namespace Go.S
open Go Go.P
theorem clip_ok (l : List Str) : Sh.slices_Clip_string_string l = some l := by
  unfold Sh.slices_Clip_string_string
  simp [gd, lt]
theorem split_ok (s0 : Str) (h : s0.length ≤ 1048576) : Sh.lines_Split s0 = some (spl s0) := by
  apply Ok.eq
  unfold Sh.lines_Split
  refine ok_iter (I := fun x => x.2 ++ spl x.1 = spl s0 ∧ x.2.length + x.1.length ≤ s0.length) (μ := fun x => x.1.length) ?_ ⟨rfl, by simp⟩
  rintro ⟨s, o⟩ ⟨ho, hl⟩
  simp only [ok_if, ok_up, ok_bd, ok_gd, ok_lt, ok_go, ok_jn, ok_some, clip_ok] at *
  refine ⟨fun hs => by subst hs; simpa [spl] using ho, fun hs => ?_⟩
  obtain ⟨f1, f2⟩ := idx_facts s
  have f3 : 0 < s.length := List.length_pos_iff.2 hs
  have key : ∀ i : Int, (i = Lib.indexByte s 10 ∧ ¬ Lib.indexByte s 10 < 0 ∨ i = s.length - 1 ∧ Lib.indexByte s 10 < 0) → I64 (i + 1) ∧ ((0 : Int) ≤ i + 1 ∧ i + 1 ≤ s.length) ∧ (o.length + [s.take (i + 1).toNat].length ≤ 4294967296) ∧
      ((o ++ [s.take (i + 1).toNat]) ++ spl (s.drop (i + 1).toNat) = spl s0 ∧ (o ++ [s.take (i + 1).toNat]).length + (s.drop (i + 1).toNat).length ≤ s0.length) ∧ (s.drop (i + 1).toNat).length < s.length := fun i hi => by
    refine ⟨⟨by omega, by omega⟩, ⟨by omega, by omega⟩, by simp; omega, ⟨split_step hs hi ho rfl rfl, by simp; omega⟩, by simp; omega⟩
  refine ⟨fun h1 => ⟨⟨by omega, by omega⟩, ?_⟩, fun h1 => ?_⟩
  · obtain ⟨k1, k2, k3, k4, k5⟩ := key _ (.inr ⟨rfl, h1⟩)
    exact ⟨k1, k2, k3, k1, k2, k4, k5⟩
  · obtain ⟨k1, k2, k3, k4, k5⟩ := key _ (.inl ⟨rfl, h1⟩)
    exact ⟨k1, k2, k3, k1, k2, k4, k5⟩
theorem ljoin_ok (l : List Str) (h1 : l.length ≤ 1048576) (h2 : (join l).length ≤ 140737488355328) : Sh.lines_Join l = some (join l) := by
  unfold Sh.lines_Join Sh.strings_Join0
  simp [gd, h1, h2]
theorem whole_ok (s : Str) (h : s.length ≤ 1048576) : Sh.lines_Whole s = some (decide (s = []) || [10].isSuffixOf s) := by
  unfold Sh.lines_Whole Sh.strings_HasSuffix Sh.internal_stringslite_HasSuffix
  by_cases hs : s = []
  · simp [hs]
  · have : 0 < s.length := List.length_pos_iff.2 hs
    have e := suffix_yes (s := s) (t := [10]) (by simp; omega)
    simp only [hs, if_false, gd, lt]
    rw [if_pos (by simp; omega), if_pos ⟨by simp; omega, by simp; omega⟩, if_pos (by constructor <;> simp <;> omega)]
    simp [← e]
theorem closed_ok (l : List Str) (h1 : l.length ≤ 1048576) (h2 : (join l).length ≤ 1048575) : Sh.merge_closed l = some (closed l) := by
  unfold Sh.merge_closed
  rw [ljoin_ok l h1 (by omega)]
  simp only [Option.bind_some, whole_ok _ (show (join l).length ≤ 1048576 by omega), gd, lt]
  by_cases h : join l = [] ∨ [10].isSuffixOf (join l) = true
  · have : (decide (join l = []) || [10].isSuffixOf (join l)) = true := by simpa using h
    rw [this]
    unfold closed
    rw [if_pos h]
    simp
  · have : (decide (join l = []) || [10].isSuffixOf (join l)) = false := by
      rw [Bool.eq_false_iff]; simpa using h
    rw [this, if_pos (by rfl), if_pos (by simp; omega)]
    simp only [closed, if_neg h]
theorem closed_len (l : List Str) : (closed l).length ≤ (join l).length + 1 := by
  unfold closed
  split
  · omega
  · simp
theorem clash_ok (c : Chunk) (a b : Str) (h1 : c.ours.length ≤ 1048576) (h2 : (join c.ours).length ≤ 1048575) (h3 : c.theirs.length ≤ 1048576) (h4 : (join c.theirs).length ≤ 1048575) (ha : a.length ≤ 1048576) (hb : b.length ≤ 1048576) :
    Sh.merge_clash c a b = some (clashv c a b) := by
  have c1 := closed_len c.ours
  have c2 := closed_len c.theirs
  unfold Sh.merge_clash
  simp only [gd, lt, closed_ok _ h1 h2, closed_ok _ h3 h4, Option.bind_some]
  rw [if_pos (by simp; omega), if_pos (by simp; omega), if_pos (by simp; omega), if_pos (by simp; omega), if_pos (by simp; omega), if_pos (by simp; omega), if_pos (by simp; omega), if_pos (by simp; omega)]
  simp [clashv]
theorem text_ok (b o t x y : Str) (hb : b.length ≤ 1048576) (ho : o.length ≤ 1048576) (ht : t.length ≤ 1048576) (h1 : (spl b).length ≤ 256) (h2 : (spl o).length ≤ 256) (h3 : (spl t).length ≤ 256) (hx : x.length ≤ 1048576) (hy : y.length ≤ 1048576)
    (hT : (tvs x y (chunks (spl b) (spl o) (spl t))).length ≤ 4294967296) (hN : (chunks (spl b) (spl o) (spl t)).length ≤ 1048576) (hS : ∀ c ∈ chunks (spl b) (spl o) (spl t), c.ours.length ≤ 1048576 ∧ (join c.ours).length ≤ 1048575 ∧ c.theirs.length ≤ 1048576 ∧ (join c.theirs).length ≤ 1048575 ∧ c.out.length ≤ 1048576 ∧ (join c.out).length ≤ 1048576) :
    Sh.merge_Text b o t x y = some (tvs x y (chunks (spl b) (spl o) (spl t)), nclash (chunks (spl b) (spl o) (spl t)), Err.nil) := by
  apply Ok.eq
  unfold Sh.merge_Text
  have hc : Sh.merge_Chunks (spl b) (spl o) (spl t) = some (chunks (spl b) (spl o) (spl t), ()) := if_pos ⟨h1, h2, h3⟩
  rw [split_ok b hb, split_ok o ho, split_ok t ht]
  simp only [Option.bind_some, hc]
  clear hc
  generalize chunks (spl b) (spl o) (spl t) = cs at *
  refine ok_iter (I := fun s => 0 ≤ s.2.1 ∧ s.2.1 ≤ cs.length ∧ s.2.2 = tvs x y (cs.take s.2.1.toNat) ∧ s.1 = nclash (cs.take s.2.1.toNat)) (μ := fun s => (cs.length - s.2.1).toNat) ?_ ⟨by simp, by simp, rfl, rfl⟩
  rintro ⟨n, k, acc⟩ ⟨k0, k1, hacc, hn⟩
  dsimp only at k0 k1 hacc hn
  have hnl := nclash_le (cs.take k.toNat)
  have hlt := List.length_take_le k.toNat cs
  simp only [ok_if, ok_up, ok_bd, ok_gd, ok_lt, ok_go, ok_jn, ok_some, ok_at]
  refine ⟨fun hk => ⟨k0, cs[k.toNat]'(by omega), List.getElem?_eq_getElem (by omega), ?_⟩, fun hk => ?_⟩
  · have hz : cs[k.toNat]? = some (cs[k.toNat]'(by omega)) := List.getElem?_eq_getElem (by omega)
    generalize cs[k.toNat]'(by omega) = c at hz ⊢
    obtain ⟨s1, s2, s3, s4, s5, s6⟩ := hS c (List.mem_of_getElem? hz)
    have ht := tvs_take (a := x) (b := y) k0 hz
    have hnc := nclash_take k0 hz
    have hle := tvs_take_le x y cs (k + 1).toNat
    rw [clash_ok c x y s1 s2 s3 s4 hx hy, ljoin_ok c.out s5 (by omega)]
    simp only [ok_some, I64]
    refine ⟨fun hc => ?_, fun hc => ?_⟩
    · have e : tv x y c = clashv c x y := if_pos hc
      rw [e, ← hacc] at ht
      rw [ht, List.length_append] at hle
      rw [hc, if_pos rfl, ← hn] at hnc
      refine ⟨⟨by omega, by omega⟩, by omega, ⟨by omega, by omega⟩, ⟨by omega, by omega, ht.symm, hnc.symm⟩, by omega⟩
    · have hcf : c.clash = false := by simpa using hc
      have e : tv x y c = join c.out := by unfold tv; rw [hcf]; rfl
      rw [e, ← hacc] at ht
      rw [ht, List.length_append] at hle
      rw [hcf] at hnc
      refine ⟨by omega, ⟨by omega, by omega⟩, ⟨by omega, by omega, ht.symm, by rw [hnc, ← hn]; simp⟩, by omega⟩
  · rw [List.take_of_length_le (by omega)] at hacc hn
    rw [hacc, hn]
end Go.S
end

section
namespace Go.P
/-! what the chunks of three texts are -/
theorem edits_self : ∀ a : List Str, edits a a = a.map fun x => ⟨1, x⟩
  | [] => rfl
  | x :: a => by rw [edits_cons, if_pos rfl, edits_self a]; rfl
theorem pls_ones : ∀ (a : List Str) (j : Int) (n : Nat) (u : Int), (pls (a.map fun x => ⟨1, x⟩) j)[n]? = some u → u = j + n
  | [], j, n, u, h => by simp [pls] at h
  | x :: a, j, n, u, h => by
    simp only [List.map_cons, pls] at h
    rw [if_neg (by decide), if_neg (by decide)] at h
    cases n with
    | zero => simp at h; omega
    | succ n => simp only [List.getElem?_cons_succ] at h; have := pls_ones a (j + 1) n u h; omega
theorem places_self {a : List Str} {n : Nat} {u : Int} (h : (places a a)[n]? = some u) : u = n := by
  rw [places_pls, edits_self] at h
  have := pls_ones a 0 n u h
  omega
/-- a line that is kept is the same in both -/
theorem pls_line : ∀ (a b : List Str) (j : Int) (n : Nat) (u : Int), (pls (edits a b) j)[n]? = some u → u = -1 ∨ (j ≤ u ∧ ∃ l, a[n]? = some l ∧ b[(u - j).toNat]? = some l)
  | [], b, j, n, u, h => by
    have := pls_length (edits [] b) j
    rw [(c_edits [] b).1] at this
    have h2 := (List.getElem?_eq_some_iff.1 h).1
    simp at this
    rw [this] at h2; simp at h2
  | x :: a, [], j, n, u, h => by
    rw [edits_nil] at h
    simp only [pls] at h
    rw [if_neg (by decide), if_pos trivial] at h
    cases n with
    | zero => simp at h; exact .inl h.symm
    | succ n =>
      simp only [List.getElem?_cons_succ] at h
      rcases pls_line a [] j n u h with q | ⟨_, l, _, q⟩
      · exact .inl q
      · simp at q
  | x :: a, y :: b, j, n, u, h => by
    rw [edits_cons] at h
    split at h
    · rename_i hxy
      simp only [pls] at h
      rw [if_neg (by decide), if_neg (by decide)] at h
      cases n with
      | zero => simp at h; subst h; exact .inr ⟨Int.le_refl _, x, rfl, by simp [hxy]⟩
      | succ n =>
        simp only [List.getElem?_cons_succ] at h
        rcases pls_line a b (j + 1) n u h with q | ⟨q, l, q1, q2⟩
        · exact .inl q
        · refine .inr ⟨by omega, l, by simpa using q1, ?_⟩
          rw [show (u - j).toNat = (u - (j + 1)).toNat + 1 by omega]
          simpa using q2
    · split at h
      · simp only [pls] at h
        rw [if_neg (by decide), if_pos trivial] at h
        cases n with
        | zero => simp at h; exact .inl h.symm
        | succ n =>
          simp only [List.getElem?_cons_succ] at h
          rcases pls_line a (y :: b) j n u h with q | ⟨q, l, q1, q2⟩
          · exact .inl q
          · exact .inr ⟨q, l, by simpa using q1, q2⟩
      · simp only [pls] at h
        rw [if_pos trivial] at h
        rcases pls_line (x :: a) b (j + 1) n u h with q | ⟨q, l, q1, q2⟩
        · exact .inl q
        · refine .inr ⟨by omega, l, q1, ?_⟩
          rw [show (u - j).toNat = (u - (j + 1)).toNat + 1 by omega]
          simpa using q2
theorem places_line {a b : List Str} {n : Nat} {u : Int} {l : Str} (h : (places a b)[n]? = some u) (h0 : 0 ≤ u) (hl : a[n]? = some l) : b[u.toNat]? = some l := by
  rw [places_pls] at h
  rcases pls_line a b 0 n u h with q | ⟨_, l', q1, q2⟩
  · omega
  · rw [hl] at q1; cases q1
    simpa using q2
/-- What holds at the beginning, and behind each line that is kept, holds ahead of the end. -/
theorem chunks_ind (b o t : List Str) (hb : b.length ≤ 256) (ho : o.length ≤ 256) (ht : t.length ≤ 256) (I : Wk → Prop) (h0 : I ⟨0, 0, 0, [], false⟩)
    (step : ∀ (s : Wk) (n u v : Int) (line : Str), I s → 0 ≤ s.i → s.i ≤ n → n < b.length → 0 ≤ s.j → s.j ≤ u → u < o.length → 0 ≤ s.k → s.k ≤ v → v < t.length → (places b o)[n.toNat]? = some u → (places b t)[n.toNat]? = some v →
      b[n.toNat]? = some line → o[u.toNat]? = some line → t[v.toNat]? = some line → I (keepW (put b o t s n u v) line)) :
    ∃ s : Wk, I s ∧ 0 ≤ s.i ∧ s.i ≤ b.length ∧ 0 ≤ s.j ∧ s.j ≤ o.length ∧ 0 ≤ s.k ∧ s.k ≤ t.length ∧ (s.out.length : Int) ≤ 2 * b.length ∧ chunks b o t = (put b o t s b.length o.length t.length).out := by
  have key : ∀ n : Nat, n ≤ b.length → CInv b o t n (wrun b o t (places b o) (places b t) n) ∧ I (wrun b o t (places b o) (places b t) n) := by
    intro n
    induction n with
    | zero => exact fun _ => ⟨cinv_start b o t, h0⟩
    | succ n ih =>
      intro hn
      obtain ⟨hc, hI⟩ := ih (by omega)
      obtain ⟨u, hu⟩ : ∃ u, (places b o)[n]? = some u := ⟨_, List.getElem?_eq_getElem (by rw [places_len]; omega)⟩
      obtain ⟨v, hv⟩ : ∃ v, (places b t)[n]? = some v := ⟨_, List.getElem?_eq_getElem (by rw [places_len]; omega)⟩
      obtain ⟨l, hl⟩ : ∃ l, b[n]? = some l := ⟨_, List.getElem?_eq_getElem (by omega)⟩
      by_cases hk : 0 ≤ u ∧ 0 ≤ v
      · have e : wrun b o t (places b o) (places b t) (n + 1) = keepW (put b o t (wrun b o t (places b o) (places b t) n) n u v) l := by
          simp only [wrun, wstep, hu, hv, hl]; rw [if_pos hk]
        rw [e]
        refine ⟨cinv_keep hc hb ho ht (by simpa using hu) (by simpa using hv) (by simpa using hl) hk.1 hk.2, ?_⟩
        exact step _ n u v l hI hc.i0 hc.i1 (by omega) hc.j0 (hc.ju n u (by omega) hu hk.1) (places_range b o u (List.mem_of_getElem? hu) hk.1) hc.k0 (hc.kv n v (by omega) hv hk.2) (places_range b t v (List.mem_of_getElem? hv) hk.2)
          (by simpa using hu) (by simpa using hv) (by simpa using hl) (places_line hu hk.1 hl) (places_line hv hk.2 hl)
      · have e : wrun b o t (places b o) (places b t) (n + 1) = wrun b o t (places b o) (places b t) n := by
          simp only [wrun, wstep, hu, hv, hl]; rw [if_neg hk]
        rw [e]
        exact ⟨cinv_pass hc (by simpa using hu) (by simpa using hv) (by omega) hk, hI⟩
  obtain ⟨hc, hI⟩ := key b.length (Nat.le_refl _)
  exact ⟨_, hI, hc.i0, hc.i1, hc.j0, hc.j1, hc.k0, hc.k1, hc.len, rfl⟩
/-- a piece that is kept -/
def Kept (x : Chunk) : Prop := x.ours = x.base ∧ x.theirs = x.base ∧ x.out = x.base ∧ x.clash = false
def Good (x : Chunk) : Prop := Kept x ∨ x = gapv x.base x.ours x.theirs
theorem gapv_parts (b o t : List Str) : (gapv b o t).base = b ∧ (gapv b o t).ours = o ∧ (gapv b o t).theirs = t := by
  unfold gapv; (repeat' split) <;> exact ⟨rfl, rfl, rfl⟩
theorem gapv_good (b o t : List Str) : Good (gapv b o t) := .inr (by obtain ⟨h1, h2, h3⟩ := gapv_parts b o t; rw [h1, h2, h3])
theorem take_sl {l : List Str} {a c : Int} (h0 : 0 ≤ a) (h : a ≤ c) : l.take a.toNat ++ sl l a c = l.take c.toNat := by
  unfold sl
  rw [show c.toNat = a.toNat + (c.toNat - a.toNat) by omega, List.take_add, show a.toNat + (c.toNat - a.toNat) - a.toNat = c.toNat - a.toNat by omega]
/-- what the pieces are, so far -/
structure WInv (b o t : List Str) (s : Wk) : Prop where
  base : s.out.flatMap (·.base) = b.take s.i.toNat
  ours : s.out.flatMap (·.ours) = o.take s.j.toNat
  theirs : s.out.flatMap (·.theirs) = t.take s.k.toNat
  good : ∀ c ∈ s.out, Good c
  op : s.op = true → ∃ fr x, s.out = fr ++ [x] ∧ Kept x
theorem WInv.put {b o t : List Str} {s : Wk} (h : WInv b o t s) {i j k : Int} (i0 : 0 ≤ s.i) (i1 : s.i ≤ i) (j0 : 0 ≤ s.j) (j1 : s.j ≤ j) (k0 : 0 ≤ s.k) (k1 : s.k ≤ k) : WInv b o t (put b o t s i j k) := by
  obtain ⟨h1, h2, h3, h4, h5⟩ := h
  obtain ⟨g1, g2, g3⟩ := gapv_parts (sl b s.i i) (sl o s.j j) (sl t s.k k)
  unfold P.put
  split
  · refine ⟨?_, ?_, ?_, fun c hc => ?_, fun q => by cases q⟩
    · simp only [List.flatMap_append, h1, List.flatMap_cons, List.flatMap_nil, List.append_nil, g1, take_sl i0 i1]
    · simp only [List.flatMap_append, h2, List.flatMap_cons, List.flatMap_nil, List.append_nil, g2, take_sl j0 j1]
    · simp only [List.flatMap_append, h3, List.flatMap_cons, List.flatMap_nil, List.append_nil, g3, take_sl k0 k1]
    · rcases List.mem_append.1 hc with q | q
      · exact h4 c q
      · cases List.mem_singleton.1 q; exact gapv_good _ _ _
  · have e1 : i = s.i := by omega
    have e2 : j = s.j := by omega
    have e3 : k = s.k := by omega
    subst e1; subst e2; subst e3
    exact ⟨h1, h2, h3, h4, h5⟩
theorem addL_kept {x : Chunk} {l : Str} (h : Kept x) : Kept (addL x l) := by
  obtain ⟨h1, h2, h3, h4⟩ := h
  simp [Kept, addL, h1, h2, h3, h4]
theorem keep_flat {s : Wk} {line : Str} (f : Chunk → List Str) (hf : ∀ x l, f (addL x l) = f x ++ [l]) (hn : f nilC = []) (hop : s.op = true → ∃ fr x, s.out = fr ++ [x] ∧ Kept x) : (keepW s line).out.flatMap f = s.out.flatMap f ++ [line] := by
  unfold keepW
  cases h : s.op with
  | true =>
    obtain ⟨fr, x, hx, _⟩ := hop h
    simp [hx, hf]
  | false => simp [hf, hn]
theorem take_snoc {l : List Str} {n : Int} {z : Str} (h0 : 0 ≤ n) (h : l[n.toNat]? = some z) : l.take n.toNat ++ [z] = l.take (n + 1).toNat := by
  rw [show (n + 1).toNat = n.toNat + 1 by omega, List.take_add_one, h]; rfl
theorem WInv.keep {b o t : List Str} {s : Wk} {line : Str} (h : WInv b o t s) (i0 : 0 ≤ s.i) (j0 : 0 ≤ s.j) (k0 : 0 ≤ s.k) (h1 : b[s.i.toNat]? = some line) (h2 : o[s.j.toNat]? = some line) (h3 : t[s.k.toNat]? = some line) : WInv b o t (keepW s line) := by
  refine ⟨?_, ?_, ?_, fun c hc => ?_, fun _ => ?_⟩
  · rw [keep_flat _ (fun _ _ => rfl) rfl h.op, h.base]; exact take_snoc i0 h1
  · rw [keep_flat _ (fun _ _ => rfl) rfl h.op, h.ours]; exact take_snoc j0 h2
  · rw [keep_flat _ (fun _ _ => rfl) rfl h.op, h.theirs]; exact take_snoc k0 h3
  · unfold keepW at hc
    cases ho : s.op with
    | true =>
      obtain ⟨fr, x, hx, hk⟩ := h.op ho
      simp only [ho, hx, if_true, List.dropLast_concat, List.mem_append, List.mem_singleton] at hc
      rcases hc with q | rfl
      · exact h.good c (by rw [hx]; simp [q])
      · refine .inl (addL_kept ?_)
        simpa using hk
    | false =>
      simp only [ho, List.mem_append, List.mem_singleton] at hc
      rcases hc with q | rfl
      · exact h.good c q
      · exact .inl (addL_kept ⟨rfl, rfl, rfl, rfl⟩)
  · unfold keepW
    cases ho : s.op with
    | true =>
      obtain ⟨fr, x, hx, hk⟩ := h.op ho
      exact ⟨fr, addL x line, by simp [hx], addL_kept hk⟩
    | false => exact ⟨s.out, addL nilC line, by simp, addL_kept ⟨rfl, rfl, rfl, rfl⟩⟩
theorem put_at (b o t : List Str) (s : Wk) (i j k : Int) : (put b o t s i j k).i = i ∧ (put b o t s i j k).j = j ∧ (put b o t s i j k).k = k := by
  unfold put; split <;> exact ⟨rfl, rfl, rfl⟩
theorem put_len (b o t : List Str) (s : Wk) (i j k : Int) : (put b o t s i j k).out.length ≤ s.out.length + 1 := by
  unfold put; split <;> simp
/-- the pieces, put together, are the texts; each is what its parts make it -/
theorem chunks_parts (b o t : List Str) (hb : b.length ≤ 256) (ho : o.length ≤ 256) (ht : t.length ≤ 256) :
    (chunks b o t).flatMap (·.base) = b ∧ (chunks b o t).flatMap (·.ours) = o ∧ (chunks b o t).flatMap (·.theirs) = t ∧ (∀ c ∈ chunks b o t, Good c) ∧ (chunks b o t).length ≤ 2 * b.length + 1 := by
  obtain ⟨s, h, i0, i1, j0, j1, k0, k1, hl, e⟩ := chunks_ind b o t hb ho ht (WInv b o t) ⟨rfl, rfl, rfl, (fun _ h => by cases h), (fun h => by cases h)⟩ (fun s n u v line hI i0 i1 i2 j0 j1 j2 k0 k1 k2 _ _ l1 l2 l3 => by
    obtain ⟨e1, e2, e3⟩ := put_at b o t s n u v
    exact (hI.put i0 i1 j0 j1 k0 k1).keep (by omega) (by omega) (by omega) (by rw [e1]; exact l1) (by rw [e2]; exact l2) (by rw [e3]; exact l3))
  have hp := h.put i0 i1 j0 j1 k0 k1
  obtain ⟨e1, e2, e3⟩ := put_at b o t s b.length o.length t.length
  have := put_len b o t s b.length o.length t.length
  rw [e]
  refine ⟨?_, ?_, ?_, hp.good, by omega⟩
  · rw [hp.base, e1]; simp
  · rw [hp.ours, e2]; simp
  · rw [hp.theirs, e3]; simp
end Go.P
end

section
namespace Go.P
theorem join_append (a b : List Str) : join (a ++ b) = join a ++ join b := by simp [join_flat]
theorem join_flatMap (f : Chunk → List Str) : ∀ cs : List Chunk, join (cs.flatMap f) = (cs.map fun c => join (f c)).flatten
  | [] => rfl
  | c :: cs => by rw [List.flatMap_cons, join_append, join_flatMap f cs]; rfl
/-- without a clash: the text of the pieces' outs -/
theorem tvs_plain (x y : Str) (f : Chunk → List Str) : ∀ cs : List Chunk, (∀ c ∈ cs, c.clash = false ∧ c.out = f c) → tvs x y cs = join (cs.flatMap f) ∧ nclash cs = 0
  | [], _ => ⟨rfl, rfl⟩
  | c :: cs, h => by
    obtain ⟨h1, h2⟩ := h c (by simp)
    obtain ⟨i1, i2⟩ := tvs_plain x y f cs fun d hd => h d (by simp [hd])
    constructor
    · rw [List.flatMap_cons, join_append, ← i1]
      simp [tvs, tv, h1, h2]
    · unfold nclash at i2 ⊢
      simpa [List.filter_cons, h1] using i2
theorem mem_join_le {l : List Str} {z : Str} (h : z ∈ l) : z.length ≤ (join l).length := by
  rw [join_flat]
  induction l with
  | nil => cases h
  | cons x r ih =>
    rcases List.mem_cons.1 h with rfl | h
    · simp
    · have := ih h
      rw [List.flatten_cons, List.length_append]; omega
theorem flatMap_mem_le (f : Chunk → List Str) {cs : List Chunk} {c : Chunk} (h : c ∈ cs) : (f c).length ≤ (cs.flatMap f).length ∧ (join (f c)).length ≤ (join (cs.flatMap f)).length := by
  induction cs with
  | nil => cases h
  | cons d cs ih =>
    rw [List.flatMap_cons, join_append]
    simp only [List.length_append]
    rcases List.mem_cons.1 h with rfl | h
    · omega
    · have := ih h; omega
theorem tvs_len (x y : Str) (M : Nat) : ∀ cs : List Chunk, (∀ c ∈ cs, (tv x y c).length ≤ M) → (tvs x y cs).length ≤ cs.length * M
  | [], _ => by simp [tvs]
  | c :: cs, h => by
    have h1 := h c (by simp)
    have h2 := tvs_len x y M cs fun d hd => h d (by simp [hd])
    have e : tvs x y (c :: cs) = tv x y c ++ tvs x y cs := by simp [tvs]
    rw [e, List.length_append, List.length_cons, Nat.add_mul]
    omega
theorem closed_le (l : List Str) : (closed l).length ≤ (join l).length + 1 := by
  unfold closed; split
  · omega
  · simp
theorem good_out {c : Chunk} (h : Good c) : c.out = c.base ∨ c.out = c.ours ∨ c.out = c.theirs ∨ c.out = [] := by
  rcases h with h | h
  · exact .inl h.2.2.1
  · obtain ⟨g1, g2, g3⟩ := gapv_parts c.base c.ours c.theirs
    rw [h]; unfold gapv
    (repeat' split) <;> simp
/-- how great the pieces of three small texts are -/
theorem chunks_small {b o t : List Str} {L : Nat} (hb : b.length ≤ 256) (ho : o.length ≤ 256) (ht : t.length ≤ 256) (kb : (join b).length ≤ L) (ko : (join o).length ≤ L) (kt : (join t).length ≤ L) :
    ∀ c ∈ chunks b o t, c.ours.length ≤ 256 ∧ (join c.ours).length ≤ L ∧ c.theirs.length ≤ 256 ∧ (join c.theirs).length ≤ L ∧ c.out.length ≤ 256 ∧ (join c.out).length ≤ L := fun c hc => by
  obtain ⟨h1, h2, h3, h4, _⟩ := chunks_parts b o t hb ho ht
  have a1 := flatMap_mem_le (·.base) hc
  have a2 := flatMap_mem_le (·.ours) hc
  have a3 := flatMap_mem_le (·.theirs) hc
  rw [h1] at a1; rw [h2] at a2; rw [h3] at a3
  refine ⟨by omega, by omega, by omega, by omega, ?_, ?_⟩ <;> rcases good_out (h4 c hc) with e | e | e | e <;> rw [e] <;> first | omega | simp [join]
theorem tvs_small {b o t : List Str} {x y : Str} {L : Nat} (hb : b.length ≤ 256) (ho : o.length ≤ 256) (ht : t.length ≤ 256) (kb : (join b).length ≤ L) (ko : (join o).length ≤ L) (kt : (join t).length ≤ L) (hx : x.length ≤ L) (hy : y.length ≤ L) :
    (tvs x y (chunks b o t)).length ≤ 513 * (4 * L + 100) := by
  have hl := (chunks_parts b o t hb ho ht).2.2.2.2
  refine Nat.le_trans (tvs_len x y (4 * L + 100) _ fun c hc => ?_) (Nat.mul_le_mul_right _ (by omega))
  obtain ⟨s1, s2, s3, s4, s5, s6⟩ := chunks_small hb ho ht kb ko kt c hc
  have c1 := closed_le c.ours
  have c2 := closed_le c.theirs
  unfold tv
  split
  · simp only [clashv, List.length_append, List.length_cons, List.length_nil]; omega
  · omega
/-! where one side is as it was, or both are alike -/
theorem flat_one (f g : Chunk → List Str) (hf : ∀ x l, f (addL x l) = f x ++ [l]) (hg : ∀ x l, g (addL x l) = g x ++ [l]) (hn : f nilC = g nilC) {s : Wk} {line : Str} (h : ∀ c ∈ s.out, f c = g c) : ∀ c ∈ (keepW s line).out, f c = g c := fun c hc => by
  unfold keepW at hc
  simp only [List.mem_append, List.mem_singleton] at hc
  rcases hc with q | rfl
  · refine h c ?_
    split at q
    · exact List.dropLast_subset _ q
    · exact q
  · rw [hf, hg]
    congr 1
    split
    · cases hl : s.out.getLast? with
      | none => rw [List.getLastD_eq_getLast?, hl]; exact hn
      | some z => rw [List.getLastD_eq_getLast?, hl]; exact h z (List.mem_of_getLast? hl)
    · exact hn
theorem put_mem {b o t : List Str} {s : Wk} {i j k : Int} (p : Chunk → Prop) (h : ∀ c ∈ s.out, p c) (hg : p (gapv (sl b s.i i) (sl o s.j j) (sl t s.k k))) : ∀ c ∈ (put b o t s i j k).out, p c := fun c hc => by
  unfold put at hc
  split at hc
  · rcases List.mem_append.1 hc with q | q
    · exact h c q
    · cases List.mem_singleton.1 q; exact hg
  · exact h c hc
theorem keep_at (s : Wk) (line : Str) : (keepW s line).i = s.i + 1 ∧ (keepW s line).j = s.j + 1 ∧ (keepW s line).k = s.k + 1 := ⟨rfl, rfl, rfl⟩
/-- theirs is as it was -/
theorem chunks_bob (b o : List Str) (hb : b.length ≤ 256) (ho : o.length ≤ 256) : ∀ c ∈ chunks b o b, c.theirs = c.base := by
  obtain ⟨s, h, i0, i1, j0, j1, k0, k1, hl, e⟩ := chunks_ind b o b hb ho hb (fun s => s.k = s.i ∧ ∀ c ∈ s.out, c.theirs = c.base) ⟨rfl, (fun _ h => by cases h)⟩ (fun s n u v line hI i0 i1 i2 j0 j1 j2 k0 k1 k2 p1 p2 l1 l2 l3 => by
    have hv := places_self p2
    have hv : v = n := by omega
    subst hv
    obtain ⟨e1, e2, e3⟩ := put_at b o b s v u v
    refine ⟨by rw [(keep_at _ _).1, (keep_at _ _).2.2, e1, e3], flat_one (·.theirs) (·.base) (fun _ _ => rfl) (fun _ _ => rfl) rfl (put_mem _ hI.2 ?_)⟩
    obtain ⟨g1, g2, g3⟩ := gapv_parts (sl b s.i v) (sl o s.j u) (sl b s.k v)
    rw [g1, g3, hI.1])
  rw [e]
  refine put_mem _ h.2 ?_
  obtain ⟨g1, g2, g3⟩ := gapv_parts (sl b s.i b.length) (sl o s.j o.length) (sl b s.k b.length)
  rw [g1, g3, h.1]
theorem chunks_bbo (b o : List Str) (hb : b.length ≤ 256) (ho : o.length ≤ 256) : ∀ c ∈ chunks b b o, c.ours = c.base := by
  obtain ⟨s, h, i0, i1, j0, j1, k0, k1, hl, e⟩ := chunks_ind b b o hb hb ho (fun s => s.j = s.i ∧ ∀ c ∈ s.out, c.ours = c.base) ⟨rfl, (fun _ h => by cases h)⟩ (fun s n u v line hI i0 i1 i2 j0 j1 j2 k0 k1 k2 p1 p2 l1 l2 l3 => by
    have hu := places_self p1
    have hu : u = n := by omega
    subst hu
    obtain ⟨e1, e2, e3⟩ := put_at b b o s u u v
    refine ⟨by rw [(keep_at _ _).1, (keep_at _ _).2.1, e1, e2], flat_one (·.ours) (·.base) (fun _ _ => rfl) (fun _ _ => rfl) rfl (put_mem _ hI.2 ?_)⟩
    obtain ⟨g1, g2, g3⟩ := gapv_parts (sl b s.i u) (sl b s.j u) (sl o s.k v)
    rw [g1, g2, hI.1])
  rw [e]
  refine put_mem _ h.2 ?_
  obtain ⟨g1, g2, g3⟩ := gapv_parts (sl b s.i b.length) (sl b s.j b.length) (sl o s.k o.length)
  rw [g1, g2, h.1]
theorem chunks_boo (b o : List Str) (hb : b.length ≤ 256) (ho : o.length ≤ 256) : ∀ c ∈ chunks b o o, c.theirs = c.ours := by
  obtain ⟨s, h, i0, i1, j0, j1, k0, k1, hl, e⟩ := chunks_ind b o o hb ho ho (fun s => s.k = s.j ∧ ∀ c ∈ s.out, c.theirs = c.ours) ⟨rfl, (fun _ h => by cases h)⟩ (fun s n u v line hI i0 i1 i2 j0 j1 j2 k0 k1 k2 p1 p2 l1 l2 l3 => by
    have hu : v = u := by rw [p1] at p2; exact (Option.some.inj p2).symm
    subst hu
    obtain ⟨e1, e2, e3⟩ := put_at b o o s n v v
    refine ⟨by rw [(keep_at _ _).2.1, (keep_at _ _).2.2, e2, e3], flat_one (·.theirs) (·.ours) (fun _ _ => rfl) (fun _ _ => rfl) rfl (put_mem _ hI.2 ?_)⟩
    obtain ⟨g1, g2, g3⟩ := gapv_parts (sl b s.i n) (sl o s.j v) (sl o s.k v)
    rw [g2, g3, hI.1])
  rw [e]
  refine put_mem _ h.2 ?_
  obtain ⟨g1, g2, g3⟩ := gapv_parts (sl b s.i b.length) (sl o s.j o.length) (sl o s.k o.length)
  rw [g2, g3, h.1]
theorem good_sides {c : Chunk} (h : Good c) : (c.theirs = c.base → c.clash = false ∧ c.out = c.ours) ∧ (c.ours = c.base → c.clash = false ∧ c.out = c.theirs) ∧ (c.theirs = c.ours → c.clash = false ∧ c.out = c.ours) := by
  rcases h with ⟨h1, h2, h3, h4⟩ | h
  · exact ⟨fun _ => ⟨h4, by rw [h3, h1]⟩, fun _ => ⟨h4, by rw [h3, h2]⟩, fun _ => ⟨h4, by rw [h3, h1]⟩⟩
  · refine ⟨fun e => ?_, fun e => ?_, fun e => ?_⟩ <;> rw [h] <;> simp only [gapv]
    · rw [e]; by_cases q : c.ours = c.base <;> simp [q]
    · simp [e]
    · rw [e]; by_cases q : c.ours = c.base <;> simp [q]
/-! turned -/
def sw (c : Chunk) : Chunk := ⟨c.base, c.theirs, c.ours, c.clash, c.out⟩
def swW (s : Wk) : Wk := ⟨s.i, s.k, s.j, s.out.map sw, s.op⟩
theorem gapv_sw (b o t : List Str) : gapv b t o = sw (gapv b o t) := by
  unfold gapv
  by_cases h1 : o = b <;> by_cases h2 : t = b <;> by_cases h3 : o = t <;> simp_all [sw]
  · intro h; exact absurd h.symm h3
theorem put_sw (b o t : List Str) (s : Wk) (i j k : Int) : put b t o (swW s) i k j = swW (put b o t s i j k) := by
  unfold put swW
  by_cases h : s.i < i ∨ s.j < j ∨ s.k < k
  · rw [if_pos h, if_pos (by dsimp only; omega), gapv_sw]; simp
  · rw [if_neg h, if_neg (by dsimp only; omega)]
theorem keep_sw (s : Wk) (line : Str) : keepW (swW s) line = swW (keepW s line) := by
  unfold keepW swW
  cases h : s.op with
  | true =>
    simp only [if_true, List.map_append, List.map_cons, List.map_nil, Wk.mk.injEq, true_and, and_true, List.map_dropLast]
    congr 1
    rw [List.getLastD_eq_getLast?, List.getLastD_eq_getLast?, List.getLast?_map]
    cases s.out.getLast? <;> rfl
  | false => simp [sw, addL, nilC]
theorem wrun_sw (b o t : List Str) (A B : List Int) : ∀ n, wrun b t o B A n = swW (wrun b o t A B n)
  | 0 => rfl
  | n + 1 => by
    simp only [wrun, wstep]
    rw [wrun_sw b o t A B n]
    cases hA : A[n]? <;> cases hB : B[n]? <;> cases hb : b[n]? <;> simp only
    rename_i u v l
    by_cases h : 0 ≤ u ∧ 0 ≤ v
    · rw [if_pos h, if_pos (by omega), put_sw, keep_sw]
    · rw [if_neg h, if_neg (by omega)]
theorem chunks_sw (b o t : List Str) : chunks b t o = (chunks b o t).map sw := by
  unfold chunks
  rw [wrun_sw b o t, put_sw]; rfl
theorem nclash_sw (l : List Chunk) : nclash (l.map sw) = nclash l := by
  unfold nclash
  rw [List.filter_map, List.length_map]; rfl
theorem nclash_zero {l : List Chunk} (h : nclash l = 0) : ∀ c ∈ l, c.clash = false := fun c hc => by
  unfold nclash at h
  have h2 : l.filter (·.clash) = [] := List.eq_nil_of_length_eq_zero (by omega)
  have := List.filter_eq_nil_iff.1 h2 c hc
  simpa using this
end Go.P
end

section
namespace Go.S
open Go Go.P
theorem spl_len : ∀ s : Str, (spl s).length ≤ s.length
  | [] => Nat.le_refl _
  | c :: r => by
    have ih := spl_len r
    simp only [spl, List.length_cons]
    split
    · simp; omega
    · cases h : spl r with
      | nil => simp
      | cons l t => rw [h] at ih; simp at ih ⊢; omega
theorem text_small (b o t x y : Str) (hb : b.length ≤ 10000) (ho : o.length ≤ 10000) (ht : t.length ≤ 10000) (h1 : (spl b).length ≤ 256) (h2 : (spl o).length ≤ 256) (h3 : (spl t).length ≤ 256) (hx : x.length ≤ 10000) (hy : y.length ≤ 10000) :
    Sh.merge_Text b o t x y = some (tvs x y (chunks (spl b) (spl o) (spl t)), nclash (chunks (spl b) (spl o) (spl t)), Err.nil) := by
  have kb : (join (spl b)).length ≤ 10000 := by rw [join_spl]; exact hb
  have ko : (join (spl o)).length ≤ 10000 := by rw [join_spl]; exact ho
  have kt : (join (spl t)).length ≤ 10000 := by rw [join_spl]; exact ht
  have hl := (chunks_parts _ _ _ h1 h2 h3).2.2.2.2
  have hT := tvs_small h1 h2 h3 kb ko kt hx hy
  refine text_ok b o t x y (by omega) (by omega) (by omega) h1 h2 h3 (by omega) (by omega) (by omega) (by omega) fun c hc => ?_
  obtain ⟨s1, s2, s3, s4, s5, s6⟩ := chunks_small h1 h2 h3 kb ko kt c hc
  omega
theorem few_ok (a : List Str) : Ok (Sh.rectolaw13_few a) fun r => r = true → a.length ≤ 300 ∧ ∀ l ∈ a, l.length ≤ 200 := by
  unfold Sh.rectolaw13_few
  rw [ok_if]
  refine ⟨fun _ => by rw [ok_some]; simp, fun h => ?_⟩
  refine ok_iter (I := fun i => 0 ≤ i ∧ i ≤ a.length ∧ ∀ j : Nat, j < i.toNat → ∀ z, a[j]? = some z → z.length ≤ 200) (μ := fun i => (a.length - i).toNat) ?_ ⟨by omega, by omega, fun j hj => by simp at hj⟩
  rintro i ⟨h0, h1, hz⟩
  simp only [ok_if, ok_up, ok_bd, ok_gd, ok_lt, ok_go, ok_some, ok_at]
  refine ⟨fun hi => ⟨h0, a[i.toNat]'(by omega), List.getElem?_eq_getElem (by omega), fun _ => by simp, fun h2 => ⟨⟨by omega, by omega⟩, ⟨by omega, by omega, fun j hj z hjz => ?_⟩, by omega⟩⟩, fun hi _ => ⟨by omega, fun l hl => ?_⟩⟩
  · by_cases e : j = i.toNat
    · subst e
      rw [List.getElem?_eq_getElem (by omega)] at hjz
      cases hjz; omega
    · exact hz j (by omega) z hjz
  · obtain ⟨j, hj, rfl⟩ := List.mem_iff_getElem.1 hl
    exact hz j (by omega) _ (List.getElem?_eq_getElem hj)
theorem requal_ok (a b : List Str) (hl : a.length ≤ 1048576) : Sh.rectoref11_Equal a b = some (decide (a = b)) := by
  apply Ok.eq
  unfold Sh.rectoref11_Equal
  rw [ok_if]
  refine ⟨fun h => ?_, fun h => by rw [ok_some]; simp; intro e; rw [e] at h; exact h rfl⟩
  refine ok_iter (I := fun i => 0 ≤ i ∧ i ≤ a.length ∧ ∀ j < i.toNat, a[j]? = b[j]?) (μ := fun i => (a.length - i).toNat) ?_ ⟨by omega, by omega, fun j hj => by simp at hj⟩
  rintro i ⟨h0, h1, hj⟩
  simp only [ok_if, ok_up, ok_bd, ok_gd, ok_lt, ok_go, ok_some, ok_at]
  refine ⟨fun hi => ⟨h0, a[i.toNat]'(by omega), List.getElem?_eq_getElem (by omega), h0, b[i.toNat]'(by omega), List.getElem?_eq_getElem (by omega), fun h2 => ⟨⟨by omega, by omega⟩, ⟨by omega, by omega, ?_⟩, by omega⟩, fun h2 => ?_⟩, fun hi => ?_⟩
  · exact eq_step h0 (List.getElem?_eq_getElem (by omega)) (List.getElem?_eq_getElem (by omega)) h2 hj
  · have := eq_no (List.getElem?_eq_getElem (by omega)) (List.getElem?_eq_getElem (by omega)) h2
    simpa using this
  · have := eq_yes h hi hj
    simpa using this
theorem rjoin_ok (l : List Str) (h1 : l.length ≤ 1048576) (h2 : (join l).length ≤ 1048576) : Sh.rectoref11_Join l = some (join l) := by
  apply Ok.eq
  unfold Sh.rectoref11_Join
  refine ok_iter (I := fun s => 0 ≤ s.2 ∧ s.2 ≤ l.length ∧ s.1 = join (l.take s.2.toNat)) (μ := fun s => (l.length - s.2).toNat) ?_ ⟨by simp, by simp, rfl⟩
  rintro ⟨s, i⟩ ⟨h0, h3, hs⟩
  dsimp only at h0 h3 hs
  simp only [ok_if, ok_up, ok_bd, ok_gd, ok_lt, ok_go, ok_some, ok_at]
  refine ⟨fun hi => ⟨h0, l[i.toNat]'(by omega), List.getElem?_eq_getElem (by omega), ?_⟩, fun hi => ?_⟩
  · have hz : l[i.toNat]? = some (l[i.toNat]'(by omega)) := List.getElem?_eq_getElem (by omega)
    have hj := join_take h0 hz
    have hle := join_take_le l (i + 1).toNat
    rw [hj, List.length_append, ← hs] at hle
    exact ⟨by omega, ⟨by omega, by omega⟩, ⟨by omega, by omega, by rw [hj, hs]⟩, by omega⟩
  · rw [hs, List.take_of_length_le (by omega)]
theorem rsplit_ok (s : Str) (h : s.length ≤ 1048576) : Sh.rectoref11_Split s = some (spl s) := by
  apply Ok.eq
  unfold Sh.rectoref11_Split
  refine ok_iter (I := fun q => 0 ≤ q.2.1 ∧ q.2.1 ≤ q.2.2 ∧ q.2.2 ≤ s.length ∧ (q.1.length : Int) ≤ q.2.2 ∧ 10 ∉ (s.drop q.2.1.toNat).take (q.2.2.toNat - q.2.1.toNat) ∧ q.1 ++ spl (s.drop q.2.1.toNat) = spl s) (μ := fun q => (s.length - q.2.2).toNat) ?_ ⟨by simp, by simp, by simp, by simp, by simp, rfl⟩
  rintro ⟨o, f, i⟩ ⟨f0, f1, i1, hol, hn, ho⟩
  dsimp only at f0 f1 i1 hol hn ho
  simp only [ok_if, ok_up, ok_bd, ok_gd, ok_lt, ok_go, ok_some, ok_at, ok_jn]
  refine ⟨fun hi => ⟨by omega, s[i.toNat]'(by omega), List.getElem?_eq_getElem (by omega), fun hu => ?_, fun hu => ?_⟩, fun hi => ⟨fun hf => ?_, fun hf => ?_⟩⟩
  · have hz : s[i.toNat]? = some (s[i.toNat]'(by omega)) := List.getElem?_eq_getElem (by omega)
    exact ⟨⟨by omega, by omega⟩, ⟨by omega, by omega, by omega⟩, by simp; omega, ⟨by omega, by omega⟩, ⟨by omega, by omega⟩, ⟨by omega, by omega, by omega, by simp; omega, by simp, ref_nl f0 f1 hz hu hn ho rfl rfl⟩, by omega⟩
  · have hz : s[i.toNat]? = some (s[i.toNat]'(by omega)) := List.getElem?_eq_getElem (by omega)
    exact ⟨⟨by omega, by omega⟩, ⟨by omega, by omega, by omega, by omega, ref_no f0 f1 hz hu hn, ho⟩, by omega⟩
  · exact ⟨⟨by omega, by omega⟩, by simp; omega, ref_end hi f0 hf hn ho rfl rfl⟩
  · exact ref_end0 hf ho
theorem prefix_ok (s t : Str) : Sh.strings_HasPrefix s t = some (t.isPrefixOf s) := by
  unfold Sh.strings_HasPrefix Sh.internal_stringslite_HasPrefix
  by_cases h : (t.length : Int) ≤ s.length
  · have := prefix_yes h
    simp only [gd, lt]
    rw [if_pos h, if_pos ⟨by omega, h⟩]
    simp [← this]
  · rw [if_neg h, prefix_no h]; rfl
abbrev opn : Str := [60, 60, 60, 60, 60, 60, 60, 32]
abbrev shu : Str := [62, 62, 62, 62, 62, 62, 62, 32]
theorem m1_ok (s : Str) : Sh.merge_Marked_1 s = some (opn.isPrefixOf s) := by unfold Sh.merge_Marked_1; rw [prefix_ok]; rfl
theorem m2_ok (s : Str) : Sh.merge_Marked_2 s = some (shu.isPrefixOf s) := by unfold Sh.merge_Marked_2; rw [prefix_ok]; rfl
/-- the first place at which p holds -/
def First (p : Str → Bool) (l : List Str) (i : Int) : Prop := (i = -1 ∧ ∀ z ∈ l, p z = false) ∨ (0 ≤ i ∧ ∃ z, l[i.toNat]? = some z ∧ p z = true ∧ ∀ j < i.toNat, ∀ z, l[j]? = some z → p z = false)
theorem index1_ok (l : List Str) (h : l.length ≤ 1048576) : Ok (Sh.slices_IndexFunc_string_string l) (First opn.isPrefixOf l) := by
  unfold Sh.slices_IndexFunc_string_string
  refine ok_iter (I := fun i => 0 ≤ i ∧ i ≤ l.length ∧ ∀ j < i.toNat, ∀ z, l[j]? = some z → opn.isPrefixOf z = false) (μ := fun i => (l.length - i).toNat) ?_ ⟨by omega, by omega, fun j hj => by simp at hj⟩
  rintro i ⟨h0, h1, hz⟩
  simp only [ok_if, ok_up, ok_bd, ok_gd, ok_lt, ok_go, ok_some, ok_at, m1_ok]
  refine ⟨fun hi => ⟨h0, l[i.toNat]'(by omega), List.getElem?_eq_getElem (by omega), fun h2 => .inr ⟨h0, _, List.getElem?_eq_getElem (by omega), h2, hz⟩, fun h2 => ⟨⟨by omega, by omega⟩, ⟨by omega, by omega, fun j hj z hjz => ?_⟩, by omega⟩⟩, fun hi => .inl ⟨rfl, fun z hm => ?_⟩⟩
  · by_cases e : j = i.toNat
    · subst e
      rw [List.getElem?_eq_getElem (by omega)] at hjz
      cases hjz; exact Bool.eq_false_iff.2 h2
    · exact hz j (by omega) z hjz
  · obtain ⟨j, hj, rfl⟩ := List.mem_iff_getElem.1 hm
    exact hz j (by omega) _ (List.getElem?_eq_getElem hj)
theorem index2_ok (l : List Str) (h : l.length ≤ 1048576) : Ok (Sh.slices_IndexFunc_string_string_v2 l) (First shu.isPrefixOf l) := by
  unfold Sh.slices_IndexFunc_string_string_v2
  refine ok_iter (I := fun i => 0 ≤ i ∧ i ≤ l.length ∧ ∀ j < i.toNat, ∀ z, l[j]? = some z → shu.isPrefixOf z = false) (μ := fun i => (l.length - i).toNat) ?_ ⟨by omega, by omega, fun j hj => by simp at hj⟩
  rintro i ⟨h0, h1, hz⟩
  simp only [ok_if, ok_up, ok_bd, ok_gd, ok_lt, ok_go, ok_some, ok_at, m2_ok]
  refine ⟨fun hi => ⟨h0, l[i.toNat]'(by omega), List.getElem?_eq_getElem (by omega), fun h2 => .inr ⟨h0, _, List.getElem?_eq_getElem (by omega), h2, hz⟩, fun h2 => ⟨⟨by omega, by omega⟩, ⟨by omega, by omega, fun j hj z hjz => ?_⟩, by omega⟩⟩, fun hi => .inl ⟨rfl, fun z hm => ?_⟩⟩
  · by_cases e : j = i.toNat
    · subst e
      rw [List.getElem?_eq_getElem (by omega)] at hjz
      cases hjz; exact Bool.eq_false_iff.2 h2
    · exact hz j (by omega) z hjz
  · obtain ⟨j, hj, rfl⟩ := List.mem_iff_getElem.1 hm
    exact hz j (by omega) _ (List.getElem?_eq_getElem hj)
/-- a line that opens, and behind it one that shuts -/
def Mk (l : List Str) (n : Nat) : Prop := ∃ i j y z, i < j ∧ j < n ∧ l[i]? = some y ∧ l[j]? = some z ∧ opn.isPrefixOf y = true ∧ shu.isPrefixOf z = true
theorem marked_ok (s : Str) (h : s.length ≤ 1048576) : Ok (Sh.merge_Marked s) fun r => r = true ↔ Mk (spl s) (spl s).length := by
  unfold Sh.merge_Marked
  have hl := spl_len s
  rw [split_ok s h]
  simp only [ok_bd, ok_some]
  generalize spl s = l at hl ⊢
  refine (index1_ok l (by omega)).mono fun i hi => ?_
  simp only [ok_if, ok_gd, ok_lt, ok_bd, ok_some]
  rcases hi with ⟨rfl, hn⟩ | ⟨h0, y, hy, hp, hf⟩
  · refine ⟨fun _ => ?_, fun q => absurd q (by omega)⟩
    simp only [Bool.false_eq_true, false_iff]
    rintro ⟨i, j, y, z, _, _, hy, _, h1, _⟩
    rw [hn y (List.mem_of_getElem? hy)] at h1; cases h1
  · have hlt := (List.getElem?_eq_some_iff.1 hy).1
    refine ⟨fun q => absurd q (by omega), fun _ => ⟨⟨by omega, by omega⟩, ⟨by omega, by omega⟩, ?_⟩⟩
    unfold Sh.slices_ContainsFunc_string_string
    simp only [ok_bd, ok_some]
    refine (index2_ok _ (by simp; omega)).mono fun k hk => ?_
    rcases hk with ⟨rfl, hn⟩ | ⟨k0, z, hz, hp2, _⟩
    · simp only [show ¬ (0 : Int) ≤ -1 by omega, decide_false, Bool.false_eq_true, false_iff]
      rintro ⟨a, j, y', z, haj, _, hy', hz, h1, h2⟩
      have hia : i.toNat ≤ a := by
        rcases Nat.lt_or_ge a i.toNat with q | q
        · rw [hf a q y' hy'] at h1; cases h1
        · exact q
      have : z ∈ l.drop (i + 1).toNat := by
        refine List.mem_of_getElem? (i := j - (i + 1).toNat) ?_
        rw [List.getElem?_drop, show (i + 1).toNat + (j - (i + 1).toNat) = j by omega]
        exact hz
      rw [hn z this] at h2; cases h2
    · simp only [k0, decide_true, true_iff]
      rw [List.getElem?_drop] at hz
      exact ⟨i.toNat, _, y, z, by omega, (List.getElem?_eq_some_iff.1 hz).1, hy, hz, hp, hp2⟩
end Go.S
end

section
namespace Go.S
open Go Go.P
theorem ok_true {o : Option Bool} (h : Ok o (· = true)) : o = some true := h.eq
theorem known_ok : Sh.rectolaw13_known = some true := by
  have e1 := text_small [97, 10, 98, 10, 99, 10] [65, 10, 98, 10, 99, 10] [97, 10, 98, 10, 67, 10] [120] [121] (by decide) (by decide) (by decide) (by decide) (by decide) (by decide) (by decide) (by decide)
  have e2 := text_small [97, 10] [98, 10] [99] [120] [121] (by decide) (by decide) (by decide) (by decide) (by decide) (by decide) (by decide) (by decide)
  have t1 : tvs [120] [121] (chunks (spl [97, 10, 98, 10, 99, 10]) (spl [65, 10, 98, 10, 99, 10]) (spl [97, 10, 98, 10, 67, 10])) = [65, 10, 98, 10, 67, 10] := by decide +kernel
  have n1 : nclash (chunks (spl [97, 10, 98, 10, 99, 10]) (spl [65, 10, 98, 10, 99, 10]) (spl [97, 10, 98, 10, 67, 10])) = 0 := by decide +kernel
  have t2 : tvs [120] [121] (chunks (spl [97, 10]) (spl [98, 10]) (spl [99])) = [60, 60, 60, 60, 60, 60, 60, 32, 120, 10, 98, 10, 61, 61, 61, 61, 61, 61, 61, 10, 99, 10, 62, 62, 62, 62, 62, 62, 62, 32, 121, 10] := by decide +kernel
  have n2 : nclash (chunks (spl [97, 10]) (spl [98, 10]) (spl [99])) = 1 := by decide +kernel
  rw [t1, n1] at e1
  rw [t2, n2] at e2
  have e3 : Sh.merge_Chunks [[97]] [[97]] [[98]] = some ([⟨[[97]], [[97]], [[98]], false, [[98]]⟩], ()) := by decide +kernel
  obtain ⟨r1, h1, q1⟩ := marked_ok [60, 60, 60, 60, 60, 60, 60, 32, 120, 10, 98, 10, 61, 61, 61, 61, 61, 61, 61, 10, 99, 10, 62, 62, 62, 62, 62, 62, 62, 32, 121, 10] (by decide)
  obtain ⟨r2, h2, q2⟩ := marked_ok [65, 10, 98, 10, 67, 10] (by decide)
  have m1 : r1 = true := q1.2 ⟨0, 4, [60, 60, 60, 60, 60, 60, 60, 32, 120, 10], [62, 62, 62, 62, 62, 62, 62, 32, 121, 10], by decide +kernel⟩
  have m2 : r2 = false := by
    cases r2 with
    | false => rfl
    | true =>
      obtain ⟨i, j, y, z, _, _, hy, _, hp, _⟩ := q2.1 rfl
      have : ∀ y ∈ spl [65, 10, 98, 10, 67, 10], opn.isPrefixOf y = false := by decide +kernel
      rw [this y (List.mem_of_getElem? hy)] at hp
      cases hp
  subst m1; subst m2
  unfold Sh.rectolaw13_known
  rw [e1, e2]
  simp [lt, e3, h1, h2, at_, Err.isNil]
theorem sides (b o : Str) : Sh.rectolaw13_MergeSides b o = some true := by
  unfold Sh.rectolaw13_MergeSides
  rw [known_ok, Option.bind_some, if_neg (by decide)]
  apply ok_true
  simp only [ok_if, ok_jn, ok_some]
  refine ⟨fun _ => ⟨fun _ => trivial, fun q => absurd trivial q⟩, fun h1 => ⟨fun _ => trivial, fun h2 => ?_⟩⟩
  have h2' : ¬ (60 : Int) < o.length := by simpa using h2
  have l1 := spl_len b
  have l2 := spl_len o
  have k1 : (spl b).length ≤ 256 := by omega
  have k2 : (spl o).length ≤ 256 := by omega
  have e1 := text_small b o b [120] [121] (by omega) (by omega) (by omega) k1 k2 k1 (by decide) (by decide)
  have e2 := text_small b b o [120] [121] (by omega) (by omega) (by omega) k1 k1 k2 (by decide) (by decide)
  have e3 := text_small b o o [120] [121] (by omega) (by omega) (by omega) k1 k2 k2 (by decide) (by decide)
  obtain ⟨a1, a2, a3, a4, _⟩ := chunks_parts _ _ _ k1 k2 k1
  obtain ⟨b1, b2, b3, b4, _⟩ := chunks_parts _ _ _ k1 k1 k2
  obtain ⟨c1, c2, c3, c4, _⟩ := chunks_parts _ _ _ k1 k2 k2
  obtain ⟨p1, p2⟩ := tvs_plain [120] [121] (·.ours) _ fun c hc => (good_sides (a4 c hc)).1 (chunks_bob _ _ k1 k2 c hc)
  obtain ⟨p3, p4⟩ := tvs_plain [120] [121] (·.theirs) _ fun c hc => (good_sides (b4 c hc)).2.1 (chunks_bbo _ _ k1 k2 c hc)
  obtain ⟨p5, p6⟩ := tvs_plain [120] [121] (·.ours) _ fun c hc => (good_sides (c4 c hc)).2.2 (chunks_boo _ _ k1 k2 c hc)
  rw [p1, p2, a2, join_spl] at e1
  rw [p3, p4, b3, join_spl] at e2
  rw [p5, p6, c2, join_spl] at e3
  rw [e1, e2, e3]
  simp [Err.isNil, gd, I64, Ok]
/-- 'too great': one of several -/
theorem parts (b o t : List Str) : Sh.rectolaw13_MergeParts b o t = some true := by
  unfold Sh.rectolaw13_MergeParts
  rw [known_ok, Option.bind_some, if_neg (by decide)]
  apply ok_true
  simp only [ok_if, ok_jn, ok_bd, ok_some]
  refine (few_ok b).mono fun r1 f1 => ⟨fun _ => ⟨fun _ => trivial, fun q => absurd trivial q⟩, fun g1 => (few_ok o).mono fun r2 f2 => ⟨fun _ => ⟨fun _ => trivial, fun q => absurd trivial q⟩, fun g2 => (few_ok t).mono fun r3 f3 => ⟨fun _ => ⟨fun _ => trivial, fun q => absurd trivial q⟩, fun g3 => ?_⟩⟩⟩
  refine ⟨fun _ => ⟨fun _ => trivial, fun q => absurd trivial q⟩, fun g4 => ⟨fun _ => ⟨fun _ => trivial, fun q => absurd trivial q⟩, fun g5 => ⟨fun _ => trivial, fun g6 => ?_⟩⟩⟩
  have g6' : ¬ (40 : Int) < t.length := by simpa using g6
  have k1 : b.length ≤ 256 := by omega
  have k2 : o.length ≤ 256 := by omega
  have k3 : t.length ≤ 256 := by omega
  have hc : Sh.merge_Chunks b o t = some (chunks b o t, ()) := if_pos ⟨k1, k2, k3⟩
  rw [hc, ok_some]
  obtain ⟨a1, a2, a3, a4, a5⟩ := chunks_parts b o t k1 k2 k3
  have pre : ∀ (f : Chunk → List Str) (n : Nat), ((chunks b o t).take n).flatMap f ++ ((chunks b o t).drop n).flatMap f = (chunks b o t).flatMap f := fun f n => by rw [← List.flatMap_append, List.take_append_drop]
  generalize hcs : chunks b o t = cs at *
  refine ok_iter (I := fun s => 0 ≤ s.2.2.2 ∧ s.2.2.2 ≤ cs.length ∧ s.1 = (cs.take s.2.2.2.toNat).flatMap (·.base) ∧ s.2.1 = (cs.take s.2.2.2.toNat).flatMap (·.ours) ∧ s.2.2.1 = (cs.take s.2.2.2.toNat).flatMap (·.theirs)) (μ := fun s => (cs.length - s.2.2.2).toNat) ?_ ⟨by simp, by simp, rfl, rfl, rfl⟩
  rintro ⟨x, y, z, i⟩ ⟨i0, i1, hx, hy, hz⟩
  dsimp only at i0 i1 hx hy hz
  simp only [ok_if, ok_up, ok_bd, ok_gd, ok_lt, ok_go, ok_some, ok_at, ok_jn]
  refine ⟨fun hi => ?_, fun hi => ?_⟩
  · obtain ⟨c, hcz⟩ : ∃ c, cs[i.toNat]? = some c := ⟨_, List.getElem?_eq_getElem (by omega)⟩
    have tk : ∀ f : Chunk → List Str, (cs.take (i + 1).toNat).flatMap f = (cs.take i.toNat).flatMap f ++ f c := fun f => by
      rw [show (i + 1).toNat = i.toNat + 1 by omega, List.take_add_one, hcz]; simp
    have le : ∀ f : Chunk → List Str, ((cs.take i.toNat).flatMap f).length + (f c).length ≤ (cs.flatMap f).length := fun f => by
      have := congrArg List.length (pre f (i + 1).toNat)
      rw [tk, List.length_append, List.length_append] at this
      omega
    have l1 := le (·.base)
    have l2 := le (·.ours)
    have l3 := le (·.theirs)
    rw [a1] at l1; rw [a2] at l2; rw [a3] at l3
    obtain ⟨m1, m2⟩ := flatMap_mem_le (·.ours) (List.mem_of_getElem? hcz)
    obtain ⟨m3, m4⟩ := flatMap_mem_le (·.theirs) (List.mem_of_getElem? hcz)
    rw [a2] at m1; rw [a3] at m3
    have fin : I64 (i + 1) ∧ (0 ≤ i + 1 ∧ i + 1 ≤ cs.length ∧ x ++ c.base = (cs.take (i + 1).toNat).flatMap (·.base) ∧ y ++ c.ours = (cs.take (i + 1).toNat).flatMap (·.ours) ∧ z ++ c.theirs = (cs.take (i + 1).toNat).flatMap (·.theirs)) ∧ (cs.length - (i + 1)).toNat < (cs.length - i).toNat :=
      ⟨⟨by omega, by omega⟩, ⟨by omega, by omega, by rw [tk, hx], by rw [tk, hy], by rw [tk, hz]⟩, by omega⟩
    refine ⟨i0, c, hcz, by rw [hx]; omega, i0, c, hcz, by rw [hy]; omega, i0, c, hcz, by rw [hz]; omega, i0, c, hcz, i0, c, hcz, ?_⟩
    have hg := a4 c (List.mem_of_getElem? hcz)
    -- what a piece's mark says
    have mark : ∀ v : Bool, c.clash = v → (((!decide (c.clash = v)) = true → Ok (none : Option Bool) fun _ => False) ∧ True) := fun v h => ⟨fun q => by simp [h] at q, trivial⟩
    have none_of : (c.out.length : Int) = 0 → c.ours ≠ c.base → c.theirs ≠ c.base → c.ours ≠ c.theirs → c.clash = true := fun h1 h2 h3 h4 => by
      rcases hg with q | q
      · exact absurd q.1 h2
      · rw [q]; unfold gapv; rw [if_neg h2, if_neg h3, if_neg h4]
    have clash_of : c.clash = true → (c.out.length : Int) = 0 ∧ c.ours ≠ c.base ∧ c.theirs ≠ c.base ∧ c.ours ≠ c.theirs := fun h => by
      rcases hg with q | q
      · rw [q.2.2.2] at h; cases h
      · rw [q] at h ⊢
        obtain ⟨g1, g2, g3⟩ := gapv_parts c.base c.ours c.theirs
        rw [g1, g2, g3]
        unfold gapv at h ⊢
        by_cases h1 : c.ours = c.base
        · rw [if_pos h1] at h; cases h
        · by_cases h2 : c.theirs = c.base
          · rw [if_neg h1, if_pos h2] at h; cases h
          · by_cases h3 : c.ours = c.theirs
            · rw [if_neg h1, if_neg h2, if_pos h3] at h; cases h
            · rw [if_neg h1, if_neg h2, if_neg h3]
              exact ⟨rfl, h1, h2, h3⟩
    have eqo : ∀ (p q : List Str), p.length ≤ 256 → Sh.rectoref11_Equal p q = some (decide (p = q)) := fun p q h => requal_ok p q (by omega)
    have nc : c.clash ≠ true → c.clash = false := fun h => by simpa using h
    refine ⟨fun e0 => ⟨i0, c, hcz, i0, c, hcz, ?_⟩, fun e0 => ?_⟩
    · rw [eqo c.ours c.base (by omega), ok_some]
      refine ⟨fun e1 => ⟨i0, c, hcz, i0, c, hcz, ?_⟩, fun e1 => ?_⟩
      · rw [eqo c.theirs c.base (by omega), ok_some]
        refine ⟨fun e2 => ⟨i0, c, hcz, i0, c, hcz, ?_⟩, fun e2 => ?_⟩
        · rw [eqo c.ours c.theirs (by omega), ok_some]
          have e1' : c.ours ≠ c.base := by simpa using e1
          have e2' : c.theirs ≠ c.base := by simpa using e2
          have hcl : c.clash = !decide (c.ours = c.theirs) := by
            by_cases h4 : c.ours = c.theirs
            · rw [nc fun h => (clash_of h).2.2.2 h4]; simp [h4]
            · rw [none_of e0 e1' e2' h4]; simp [h4]
          refine ⟨fun q => ?_, fun _ => fin⟩
          simp only [hcl, decide_true, Bool.not_true] at q
          cases q
        · have e2' : c.theirs = c.base := by simpa using e2
          have hcl : c.clash = false := nc fun h => (clash_of h).2.2.1 e2'
          refine ⟨fun q => by simp [hcl] at q, fun _ => fin⟩
      · have e1' : c.ours = c.base := by simpa using e1
        have hcl : c.clash = false := nc fun h => (clash_of h).2.1 e1'
        refine ⟨fun q => by simp [hcl] at q, fun _ => fin⟩
    · have hcl : c.clash = false := nc fun h => e0 (clash_of h).1
      refine ⟨fun q => by simp [hcl] at q, fun _ => fin⟩
  · rw [List.take_of_length_le (by omega)] at hx hy hz
    rw [a1] at hx; rw [a2] at hy; rw [a3] at hz
    subst hx; subst hy; subst hz
    rw [requal_ok x x (by omega), requal_ok y y (by omega), requal_ok z z (by omega)]
    simp [Ok]
theorem takeb (z : Str) (p : Str) (hp : p.length = 8) : (8 ≤ (z.length : Int) ∧ z.take (8 : Int).toNat = p) ↔ p.isPrefixOf z = true := by
  rw [List.isPrefixOf_iff_prefix, List.prefix_iff_eq_take, hp]
  constructor
  · intro ⟨_, h⟩; exact h.symm
  · intro h
    have h2 := congrArg List.length h
    rw [hp, List.length_take] at h2
    exact ⟨by omega, h.symm⟩
theorem marked (s : Str) : Sh.rectolaw13_MergeMarked s = some true := by
  unfold Sh.rectolaw13_MergeMarked
  rw [known_ok, Option.bind_some, if_neg (by decide)]
  apply ok_true
  rw [ok_if]
  refine ⟨fun _ => by rw [ok_some], fun hs => ?_⟩
  have hl := spl_len s
  rw [rsplit_ok s (by omega), Option.bind_some]
  have hm := marked_ok s (by omega)
  generalize spl s = l at hl hm ⊢
  refine ok_iter (I := fun q => 0 ≤ q.2.2 ∧ q.2.2 ≤ l.length ∧ (q.1 = true ↔ ∃ i y, i < q.2.2.toNat ∧ l[i]? = some y ∧ opn.isPrefixOf y = true) ∧ (q.2.1 = true ↔ Mk l q.2.2.toNat)) (μ := fun q => (l.length - q.2.2).toNat) ?_
    ⟨by simp, by simp, by simp, by simp [Mk]⟩
  rintro ⟨op, is, i⟩ ⟨i0, i1, ho, hi⟩
  dsimp only at i0 i1 ho hi
  rw [ok_if]
  refine ⟨fun hlt => ?_, fun hge => ?_⟩
  · obtain ⟨z, hz⟩ : ∃ z, l[i.toNat]? = some z := ⟨_, List.getElem?_eq_getElem (by omega)⟩
    have e1 : (i + 1).toNat = i.toNat + 1 := by omega
    have hat : at_ l i = some z := by simp [at_, i0, hz]
    have h64 : I64 (i + 1) := ⟨by omega, by omega⟩
    have no8 : ∀ p : Str, p.length = 8 → ¬ 8 ≤ (z.length : Int) → p.isPrefixOf z = false := fun p hp h => by
      rw [Bool.eq_false_iff]; intro q; exact h ((takeb z p hp).2 q).1
    have is8 : ∀ p : Str, p.length = 8 → 8 ≤ (z.length : Int) → decide (z.take (8 : Int).toNat = p) = p.isPrefixOf z := fun p hp h => by
      rw [Bool.eq_iff_iff, decide_eq_true_eq, ← takeb z p hp]
      exact ⟨fun q => ⟨h, q⟩, fun q => q.2⟩
    refine Ok.of (a := .inl (op || opn.isPrefixOf z, is || (op && shu.isPrefixOf z), i + 1)) ?_ ⟨⟨by dsimp only; omega, by dsimp only; omega, ?_, ?_⟩, by dsimp only; omega⟩
    · simp only [jn, hat, Option.bind_some, gd, lt]
      by_cases h8 : 8 ≤ (z.length : Int)
      · simp only [if_pos h8, is8 _ (by rfl : opn.length = 8) h8, is8 _ (by rfl : shu.length = 8) h8, if_pos (show (0 : Int) ≤ 8 ∧ 8 ≤ (z.length : Int) from ⟨by omega, h8⟩), if_pos h64]
        cases op <;> cases is <;> cases opn.isPrefixOf z <;> cases shu.isPrefixOf z <;> rfl
      · simp only [if_neg h8, no8 _ (by rfl : opn.length = 8) h8, no8 _ (by rfl : shu.length = 8) h8, if_pos h64]
        cases op <;> cases is <;> rfl
    · dsimp only
      rw [e1, Bool.or_eq_true, ho]
      constructor
      · rintro (⟨j, y, hj, q⟩ | h)
        · exact ⟨j, y, by omega, q⟩
        · exact ⟨i.toNat, z, by omega, hz, h⟩
      · rintro ⟨j, y, hj, q1, q2⟩
        by_cases e : j = i.toNat
        · subst e; rw [hz] at q1; cases q1; exact .inr q2
        · exact .inl ⟨j, y, by omega, q1, q2⟩
    · dsimp only
      rw [e1, Bool.or_eq_true, Bool.and_eq_true, hi, ho]
      constructor
      · rintro (⟨a, j, y, w, q1, q2, q⟩ | ⟨⟨a, y, q1, q2, q3⟩, h⟩)
        · exact ⟨a, j, y, w, q1, by omega, q⟩
        · exact ⟨a, i.toNat, y, z, q1, by omega, q2, hz, q3, h⟩
      · rintro ⟨a, j, y, w, q1, q2, q3, q4, q5, q6⟩
        by_cases e : j = i.toNat
        · subst e; rw [hz] at q4; cases q4; exact .inr ⟨⟨a, y, q1, q3, q5⟩, q6⟩
        · exact .inl ⟨a, j, y, w, q1, by omega, q3, q4, q5, q6⟩
  · simp only [ok_up, ok_bd, ok_some]
    refine hm.mono fun r hr => ?_
    have : r = is := by
      rw [Bool.eq_iff_iff, hr, hi, show i.toNat = l.length by omega]
    simp [this]
theorem join_len (M : Nat) : ∀ l : List Str, (∀ z ∈ l, z.length ≤ M) → (join l).length ≤ l.length * M
  | [], _ => by simp [join]
  | x :: r, h => by
    have h1 := h x (by simp)
    have h2 := join_len M r fun z hz => h z (by simp [hz])
    simp only [join, List.length_append, List.length_cons, Nat.add_mul]
    omega
theorem turned (b o t : List Str) : Sh.rectolaw13_MergeTurned b o t = some true := by
  unfold Sh.rectolaw13_MergeTurned
  rw [known_ok, Option.bind_some, if_neg (by decide)]
  apply ok_true
  simp only [ok_if, ok_jn, ok_bd, ok_some]
  refine (few_ok b).mono fun r1 f1 => ⟨fun _ => ⟨fun _ => trivial, fun q => absurd trivial q⟩, fun g1 => (few_ok o).mono fun r2 f2 => ⟨fun _ => ⟨fun _ => trivial, fun q => absurd trivial q⟩, fun g2 => (few_ok t).mono fun r3 f3 => ⟨fun _ => ⟨fun _ => trivial, fun q => absurd trivial q⟩, fun g3 => ?_⟩⟩⟩
  refine ⟨fun _ => ⟨fun _ => trivial, fun q => absurd trivial q⟩, fun g4 => ⟨fun _ => ⟨fun _ => trivial, fun q => absurd trivial q⟩, fun g5 => ⟨fun _ => trivial, fun g6 => ?_⟩⟩⟩
  have g6' : ¬ (40 : Int) < t.length := by simpa using g6
  have jb := join_len 200 b (f1 (by simpa using g1)).2
  have jo := join_len 200 o (f2 (by simpa using g2)).2
  have jt := join_len 200 t (f3 (by simpa using g3)).2
  rw [rjoin_ok b (by omega) (by omega), rjoin_ok o (by omega) (by omega), rjoin_ok t (by omega) (by omega)]
  simp only [ok_some]
  rw [rsplit_ok _ (by omega), rsplit_ok _ (by omega), rsplit_ok _ (by omega)]
  simp only [ok_some]
  refine ⟨fun _ => ⟨fun _ => trivial, fun q => absurd trivial q⟩, fun k1 => ⟨fun _ => ⟨fun _ => trivial, fun q => absurd trivial q⟩, fun k2 => ⟨fun _ => trivial, fun k3 => ?_⟩⟩⟩
  have k3' : ¬ (60 : Int) < (spl (join t)).length := by simpa using k3
  rw [text_small _ _ _ [112] [113] (by omega) (by omega) (by omega) (by omega) (by omega) (by omega) (by decide) (by decide)]
  rw [ok_some]
  rw [text_small (join b) (join t) (join o) [112] [113] (by omega) (by omega) (by omega) (by omega) (by omega) (by omega) (by decide) (by decide)]
  simp only [ok_some, Err.isNil, true_implies, not_true_eq_false, false_implies, and_true]
  rw [chunks_sw (spl (join b)) (spl (join o)) (spl (join t)), nclash_sw]
  have hn := nclash_le (chunks (spl (join b)) (spl (join o)) (spl (join t)))
  refine ⟨fun _ => ⟨fun _ => trivial, fun h => ?_⟩, fun h => absurd rfl h⟩
  have h0 : nclash (chunks (spl (join b)) (spl (join o)) (spl (join t))) = 0 := by omega
  have hz := nclash_zero h0
  obtain ⟨p1, _⟩ := tvs_plain [112] [113] (·.out) _ fun c hc => ⟨hz c hc, rfl⟩
  obtain ⟨p2, _⟩ := tvs_plain [112] [113] (·.out) ((chunks (spl (join b)) (spl (join o)) (spl (join t))).map sw) fun c hc => by
    obtain ⟨d, hd, rfl⟩ := List.mem_map.1 hc
    exact ⟨hz d hd, rfl⟩
  rw [p1, p2, List.flatMap_map]
  simp [sw]
end Go.S
end

section
set_option linter.unusedVariables false
namespace Go.V
open Go.RowKit Go.ChangeShapes Go.WideShapes
/-- a law's run, in the kit's words -/
theorem Ct.law {P : Program} {f : FuncId} {args : List Value} {M : Mo} {v : Value} {φ : Unit → Prop} {M2 : Unit → Mo} {E2 : Unit → Ow} (h : Ct P f args M Ow.emp (fun _ => v) φ M2 E2) {w : World} (hM : M.on (wh w)) :
    Calls P f args.toArray w fun en w' => en = .returned v ∧ Gr w w' :=
  (h.calls w (wh w) Hp.nil hM trivial (Hp.nil_off _) (fun _ _ e => e) (fun b o q => by cases q)).mono fun en w' ⟨r, e1, z, e2, e3, e4⟩ => ⟨by rw [e1, e2], e4.os, e4.tape, e4.output, e4.size, fun b hb => e4.frame b hb (by simp [Hp.nil])⟩
section
variable {H : Type} {enc : TypeId × Value → H} {P : Program} {W W' : World}
theorem trodAll_stays (hl : laidOutB P = true) {sp' : Nat → Bool} : ∀ {ts : List TypeId} {vs : List Value} {ds : List (DataW H)} {ps : List MemPlace}, ts.all (fun t => P.readableRec t && decide (t < P.types.size)) = true →
    DataW.TrodAll enc P W 0 (fun _ => true) true ts vs ds ps → (∀ p ∈ ps, W.sameAt W' p) → (∀ p ∈ ps, sp' p.block = true) → DataW.TrodAll enc P W' 0 sp' true ts vs ds ps
  | [], [], [], _, _, h, _, _ => h
  | t :: ts, v :: vs, d :: ds, _, ha, ⟨p, q, h1, h2, rfl⟩, hs, hb => by
    simp only [List.all_cons, Bool.and_eq_true, decide_eq_true_eq] at ha
    exact ⟨p, q, WideElems.Trod_stays hl ha.1.1 ha.1.2 h1 (fun x hx => hs x (List.mem_append_left _ hx)) (fun x hx => hb x (List.mem_append_left _ hx)),
      trodAll_stays hl ha.2 h2 (fun x hx => hs x (List.mem_append_right _ hx)) (fun x hx => hb x (List.mem_append_right _ hx)), rfl⟩
  | [], _ :: _, _, _, _, h, _, _ => by simp [DataW.TrodAll] at h
  | [], [], _ :: _, _, _, h, _, _ => by simp [DataW.TrodAll] at h
  | _ :: _, [], _, _, _, h, _, _ => by simp [DataW.TrodAll] at h
  | _ :: _, _ :: _, [], _, _, h, _, _ => by simp [DataW.TrodAll] at h
theorem Gr.below (h : Gr W W') : Below W.heap.size W W' := ⟨h.os, h.tape, h.output, h.size, h.block⟩
/-- a law that answers true and leaves all as it was -/
theorem law_post {f : Func} {s : ChangeSpec} {args : Array Value} {ds gs : List (DataW H)} {before : List MemPlace} {tb : TypeId} {fresh handsOn : Bool}
    (hl : laidOutB P = true) (hp : f.params.toList.all (fun t => P.readableRec t && decide (t < P.types.size)) = true) (hr : f.resultTypes = #[tb]) (htb : P.underlying tb = some .bool) (hv : s.vars = [])
    (hW : DataW.Whole enc P f.params.toList s.vars false W args.toList ds gs before) (hg : Gr W W') (hs : s.fn H ds = ⟨[.lit (.bool true)], ds, []⟩) : s.post enc P f false fresh handsOn false W args (.bool true) W' := by
  have hW' := hW
  obtain ⟨p, q, hA, hV, rfl, hfz, hnd⟩ := hW
  rw [hv] at hV
  obtain ⟨rfl, rfl⟩ : gs = [] ∧ q = [] := by
    cases gs
    · exact ⟨rfl, hV⟩
    · simp [DataW.TrodVars] at hV
  have hb : ∀ x ∈ p, x.block < W.heap.size := fun x hx => by simpa using hW'.lt x (List.mem_append_left _ hx)
  refine ⟨ds, [], _, [], p, [], hW', ?_, ?_, ?_, hg.below.frame _, fun h => by cases h⟩
  · rw [List.append_nil, hs, hr]
    exact trodAll_mk1 (shut_bool htb true)
  · rw [List.append_nil, hs]
    exact trodAll_stays hl hp hA (fun x hx => hg.below.same (hb x hx)) (fun x hx => by simpa using hb x hx)
  · rw [List.append_nil, hs, hv]
    rfl
theorem add_block (a : Addr) (i : Nat) : (a.add i).block = a.block := by unfold Addr.add; split <;> rfl
theorem add_off (a : Addr) (i : Nat) : (a.add i).off = a.off + i := by unfold Addr.add; split <;> simp_all
theorem op_str {t : TypeId} {v : Value} {r : Reach} {b0 : Nat} (ht : P.underlying t = some .string) (hv : Value.okWide P W r b0 t v) : ∃ s : Str, v = str s := by
  obtain ⟨s, rfl⟩ := okWide_string ht hv
  exact ⟨s.data.toList, rfl⟩
theorem op_strs {t e : TypeId} {v : Value} {r : Reach} {b0 b1 : Nat} {sp : Nat → Bool} {hd : Bool} {d : DataW H} {p : List MemPlace} (ht : P.underlying t = some (.slice e)) (he : P.underlying e = some .string) (hc : P.cellsOf e = 1)
    (hv : Value.okWide P W r b0 t v) (h : DataW.Trod enc P W b1 sp hd t v d p) : ∃ s : Sv Str, v = s.val ∧ s.ok.on (wh W) := by
  obtain ⟨a0, len, cap, rfl⟩ := okWide_slice ht hv
  obtain ⟨fuel, hf⟩ := h
  rcases open_strings ht he hc hf with ⟨hcs, hx⟩ | ⟨a, len', cap', ss, hcs, _, hl, hm, hz, hx, hcell, hsz⟩
  · simp [Value.cells] at hcs
    obtain ⟨rfl, rfl, rfl⟩ := hcs
    exact ⟨⟨none, 0, []⟩, rfl, by simp, by simp [maxLen], by simp, by simp, by simp⟩
  · simp [Value.cells] at hcs
    obtain ⟨rfl, rfl, rfl⟩ := hcs
    have hlen : len ≤ ss.length := by rw [hz]; split <;> omega
    refine ⟨⟨some a, cap, (ss.take len).map fun s => s.data.toList⟩, ?_, ?_, hm, ?_, ?_, fun _ _ => trivial⟩
    · simp [Sv.val, Nat.min_eq_left hlen]
    · simp [Nat.min_eq_left hlen]; exact hl
    · intro hne
      have h0 : 0 < ss.length := by
        rcases Nat.eq_zero_or_pos ss.length with h | h
        · exact absurd (by simp [List.length_eq_zero_iff.1 h]) hne
        · exact h
      have := hcell 0 h0
      unfold World.cell? at this
      split at this
      · split at this
        · cases this
        · next hsp =>
          simp [Addr.add] at hsp
          cases a
          simp_all [Sv.b, Sv.o]
      · cases this
    · intro i x hx2 j u hj
      rw [List.getElem?_map, Option.map_eq_some_iff] at hx2
      obtain ⟨y, hy, rfl⟩ := hx2
      rw [List.getElem?_take] at hy
      split at hy
      · next hi =>
        have hi2 := (List.getElem?_eq_some_iff.1 hy).1
        have h1 := hcell i hi2
        obtain ⟨rfl, rfl⟩ : j = 0 ∧ u = str y.data.toList := by
          cases j with
          | zero => exact ⟨rfl, (Option.some.inj hj).symm⟩
          | succ j => simp [Dat.enc] at hj
        rw [List.getD_eq_getElem?_getD, hy] at h1
        unfold World.cell? at h1
        show Hp.cell (wh W) a.block (a.off + i * 1 + 0) = _
        unfold Hp.cell wh
        rw [add_block, add_off] at h1
        simp only [Nat.mul_one, Nat.add_zero]
        split at h1
        · next c hb =>
          rw [hb]
          split at h1
          · cases h1
          · simpa using h1
        · cases h1
      · cases hy
end
end Go.V
end
