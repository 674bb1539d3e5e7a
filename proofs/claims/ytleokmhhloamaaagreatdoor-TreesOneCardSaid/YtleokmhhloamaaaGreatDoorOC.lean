/- Part of the proofs of: What becomes of one path of any three trees: its file, or none, and whether it clashes, as the document says. -/
import Derived.Test.YtleokmhhloamaaaGreatDoorOB
set_option linter.unusedVariables false
set_option linter.unusedSimpArgs false
set_option linter.unusedSectionVars false
section
namespace Go.Proofs.YtleokmhhloamaaaGreatDoor
open Go.RowKit Go.V
open Go.P hiding Str
abbrev Zp (b o : Nat) (l : Int) (n : Nat) : Value := ptr b (o + ((l - 1).toNat) * Dat.sz Ck + n)
theorem one4 : OneCell Tryz.prog 4 := oneCell_of Tryz.underlying4 rfl
theorem fa261_0 : FieldAt Tryz.prog 261 0 0 := fieldAt_sz (n := 0) (f := ⟨_, _, 0, _, _, _, _⟩) Tryz.underlying261 rfl (by kernel_rfl)
theorem fa261_1 : FieldAt Tryz.prog 261 1 1 := fieldAt_sz (n := 0) (f := ⟨_, _, 1, _, _, _, _⟩) Tryz.underlying261 rfl (by kernel_rfl)
theorem fa261_2 : FieldAt Tryz.prog 261 2 2 := fieldAt_sz (n := 0) (f := ⟨_, _, 2, _, _, _, _⟩) Tryz.underlying261 rfl (by kernel_rfl)
theorem lit9 : ((Tryz.prog.info? 9).map fun i => (i.size, i.zero.isSome)) = some (1, true) := by kernel_rfl
set_option maxHeartbeats 8000000 in
 set_option maxRecDepth 100000 in
 theorem kept_ct (p : Nat) (bv ov tv : Sv Str) (out : Sv Ck) (op : Bool) (fr : List Ck) (x : Ck) (line : Str) (i j k : Int) (hout : op = true → out.l = fr ++ [x]) (hnew : op = false → fr = out.l ∧ x = (⟨⟨none, 0, []⟩, ⟨none, 0, []⟩, ⟨none, 0, []⟩, false, ⟨none, 0, []⟩⟩ : Ck)) (hline : bv.l[i.toNat]? = some line) (i0 : 0 ≤ i) (j0 : 0 ≤ j) (k0 : 0 ≤ k) (i1 : i ≤ 1048576) (j1 : j ≤ 1048576) (k1 : k ≤ 1048576) (hl : out.l.length ≤ 1048576)
 (hx1 : x.base.l.length ≤ 1048576) (hx2 : x.ours.l.length ≤ 1048576) (hx3 : x.theirs.l.length ≤ 1048576) (hx4 : x.out.l.length ≤ 1048576) :
 Ct Tryz.prog 226 [ptr p 0] bv.ok (Ow.star (Blk p [bv.val, ov.val, tv.val, i64 i, i64 j, i64 k, out.val, .bool op] 308) (Ow.star (out.own 261) (OpenO op x))) (X := Sv Ck × Ck) (fun _ => .tuple #[]) (fun x' => x'.1.l = fr ++ [x'.2] ∧ x'.2.base.l = x.base.l ++ [line] ∧ x'.2.ours.l = x.ours.l ++ [line] ∧ x'.2.theirs.l = x.theirs.l ++ [line] ∧ x'.2.out.l = x.out.l ++ [line] ∧ x'.2.clash = x.clash) (fun _ => Mo.tt) (fun x => Ow.star (Blk p [bv.val, ov.val, tv.val, i64 (i + 1), i64 (j + 1), i64 (k + 1), x.1.val, .bool true] 308) (Ow.star (x.1.own 261) (Ow.star (x.2.base.own 9) (Ow.star (x.2.ours.own 9) (Ow.star (x.2.theirs.own 9) (x.2.out.own 9)))))) := by
 refine Ct.of Tryz.func226 rfl (by kernel_rfl) Tryz.ntmps226 (by simp) fun c => ?_
 refine Zq ?_
 obtain ⟨hi2, _⟩ := List.getElem?_eq_some_iff.1 hline
 refine VC.draw ((List.range 11).map fun k => (k, true)) mixed (by kernel_rfl) (by kernel_rfl) (by kernel_rfl) ?_
 refine VD.q rfl (q_move rfl) (by decide) ?_
 refine VD.q rfl (q_nilCheck rfl) (by decide) ?_
 refine VD.q rfl (q_field fa308_0 rfl) (by decide) ?_
 refine VD.q rfl (q_fe one82 rfl rfl) (by decide) ?_
 refine VD.q rfl (q_move rfl) (by decide) ?_
 refine VD.q rfl (q_nilCheck rfl) (by decide) ?_
 refine VD.q rfl (q_field fa308_3 rfl) (by decide) ?_
 refine VD.q rfl (q_fe one3 rfl rfl) (by decide) ?_
 refine VD.q rfl (q_ixm (s := bv) Tryz.underlying82 sz9 rfl rfl (by omega) (by omega)) (by decide) ?_
 refine VD.q rfl (q_el (s := bv) one9 rfl hline rfl) (by decide) ?_
 refine VD.q rfl (q_assign rfl) (by decide) ?_
 refine VD.to (fun _ _ h => h) ?_
 refine VC.cut (S := Sv Ck) (fun sg => sg.l = fr ++ [x] ∧ sg.l.length ≤ 1048577) (fun sg => [(0, ptr p 0), (2, str line)]) (fun sg => Mo.tt) (fun sg => Ow.star (Blk p [bv.val, ov.val, tv.val, i64 i, i64 j, i64 k, sg.val, .bool true] 308) (Ow.star (Sv.own sg 261) (Ow.star (Sv.own x.base 9) (Ow.star (Sv.own x.ours 9) (Ow.star (Sv.own x.theirs 9) (Ow.star (Sv.own x.out 9) (Ow.emp))))))) ?_ ?_
 ·
  refine Zq (Zr ?_)
  refine Zm ?_
  refine VL.q (q_nilCheck rfl) (by decide) ?_
  refine VL.q (q_field fa308_7 rfl) (by decide) ?_
  refine VL.q (q_fe one4 rfl rfl) (by decide) ?_
  refine VL.q (q_not rfl) (by decide) ?_
  refine Zl ?_
  refine VC.cond rfl (fun h18 => ?_) (fun h18 => ?_)
  ·
   obtain rfl : op = false := by simpa using h18
   obtain ⟨hfr, hxn⟩ := hnew rfl
   refine VC.mono (fun _ h => h) (E' := Ow.star (Blk p [bv.val, ov.val, tv.val, i64 i, i64 j, i64 k, out.val, .bool false] 308) (Ow.star (Sv.own out 261) (Ow.emp))) (fun _ h => h) ?_
   refine Zq (Zr ?_)
   refine Zm ?_
   refine Zm ?_
   refine VL.q (q_nilCheck rfl) (by decide) ?_
   refine VL.q (q_field fa308_6 rfl) (by decide) ?_
   refine VL.q (q_fe one253 rfl rfl) (by decide) ?_
   refine VL.q (q_build (vs := []) (cs := #[.slice none 0 0, .slice none 0 0, .slice none 0 0, .bool false, .slice none 0 0]) rfl (by kernel_rfl)) (by decide) ?_
   refine VL.lit (α := Ck) (xs := [.tmp 24]) (vs := [.agg #[.slice none 0 0, .slice none 0 0, .slice none 0 0, .bool false, .slice none 0 0]]) [(⟨⟨none, 0, []⟩, ⟨none, 0, []⟩, ⟨none, 0, []⟩, false, ⟨none, 0, []⟩⟩ : Ck)] Tryz.underlying253 lit261 (by decide) rfl rfl rfl rfl (by decide) (fun h m z hz => by cases List.mem_singleton.1 hz; exact InM.out (M := Mo.tt) (X := Ck.m (⟨⟨none, 0, []⟩, ⟨none, 0, []⟩, ⟨none, 0, []⟩, false, ⟨none, 0, []⟩⟩ : Ck)) h trivial) (by decide) (fun s25 hs25 => ?_) (by decide)
   refine VL.app (s := out) (r := s25) Tryz.underlying253 app261 (by decide) rfl Fo.out (by rw [hs25]; simp; omega) (by rw [hs25]; simp; omega) (by decide) (fun s26 hs26 => ?_)
   refine VL.q (q_nilCheck rfl) (by decide) ?_
   refine VL.q (q_field fa308_6 rfl) (by decide) ?_
   refine VL.store (vc := [s26.val]) (cs' := [bv.val, ov.val, tv.val, i64 i, i64 j, i64 k, s26.val, .bool false]) rfl rfl rfl sz253 rfl rfl (Nat.le_of_ble_eq_true rfl) rfl ?_
   refine Zl ?_
   refine VC.nilO x.out 9 ⟨by rw [hxn], by rw [hxn]⟩ ?_
   refine VC.nilO x.theirs 9 ⟨by rw [hxn], by rw [hxn]⟩ ?_
   refine VC.nilO x.ours 9 ⟨by rw [hxn], by rw [hxn]⟩ ?_
   refine VC.nilO x.base 9 ⟨by rw [hxn], by rw [hxn]⟩ ?_
   refine Zr ?_
   refine Zm ?_
   refine VL.q (q_nilCheck rfl) (by decide) ?_
   refine VL.q (q_field fa308_7 rfl) (by decide) ?_
   refine VL.store (vc := [.bool true]) (cs' := [bv.val, ov.val, tv.val, i64 i, i64 j, i64 k, s26.val, .bool true]) rfl rfl rfl sz4 rfl rfl (Nat.le_of_ble_eq_true rfl) rfl ?_
   refine VL.anyI s26 [0, 2] (fun _ _ h => h) ?_ rfl (by (try dsimp only); exact EntO.out)
   try dsimp only
   exact ⟨by rw [hs26, hs25, hfr, hxn], by rw [hs26, hs25]; simp; omega⟩
  obtain rfl : op = true := by simpa using h18
  refine VC.mono (fun _ h => h) (E' := Ow.star (Blk p [bv.val, ov.val, tv.val, i64 i, i64 j, i64 k, out.val, .bool true] 308) (Ow.star (out.own 261) (Ow.star (x.base.own 9) (Ow.star (x.ours.own 9) (Ow.star (x.theirs.own 9) (x.out.own 9)))))) (fun _ h => h) ?_
  refine VC.skip_anyI out [0, 2] (fun _ _ h => h) ?_ rfl (by (try dsimp only); exact EntO.out)
  try dsimp only
  exact ⟨hout rfl, by omega⟩
 rintro o hI
 try dsimp only at hI
 show VC _ _ _ _ _ [(0, ptr p 0), (2, str line)] Mo.tt (Ow.star (Blk p [bv.val, ov.val, tv.val, i64 i, i64 j, i64 k, o.val, .bool true] 308) (Ow.star (Sv.own o 261) (Ow.star (Sv.own x.base 9) (Ow.star (Sv.own x.ours 9) (Ow.star (Sv.own x.theirs 9) (Ow.star (Sv.own x.out 9) (Ow.emp)))))))
 clear hout hnew
 obtain ⟨hout, hol⟩ := hI
 refine Zq ?_
 refine VC.draw ((List.range 12).map fun k => (k, true)) mixed (by kernel_rfl) (by kernel_rfl) (by kernel_rfl) ?_
 refine VD.q rfl (q_move rfl) (by decide) ?_
 refine VD.q rfl (q_nilCheck rfl) (by decide) ?_
 refine VD.q rfl (q_field fa308_6 rfl) (by decide) ?_
 refine VD.q rfl (q_fe one253 rfl rfl) (by decide) ?_
 refine VD.q rfl (q_move rfl) (by decide) ?_
 refine VD.q rfl (q_nilCheck rfl) (by decide) ?_
 refine VD.q rfl (q_field fa308_6 rfl) (by decide) ?_
 refine VD.q rfl (q_fe one253 rfl rfl) (by decide) ?_
 refine VD.q rfl (q_ln (s := o) Tryz.underlying253 rfl) (by decide) ?_
 refine VD.q rfl (q_sub rfl rfl ⟨by omega, by omega⟩) (by decide) ?_
 have hx := last_get hout
 have hpos : 0 < o.l.length := by rw [hout]; simp
 refine VD.q rfl (q_ixo (s := o) Tryz.underlying253 sz261 rfl rfl (by omega) (by omega)) (by decide) ?_
 refine VD.q rfl (q_assign rfl) (by decide) ?_
 refine VD.to (fun _ _ h => h) ?_
 refine Zq ?_
 refine VC.withM Mo.tt ?_
 refine VC.drawG (n := 20) (listed := #[true, true, true, true, true, true, true, true, true, false, false, true, true, true, true, true, false, false, true, true, true, true, true, false, false, true, true, true, true, true, false, false, false, false, false, false, false, false, false, false, false, false, false, false]) [(0, true), (1, true), (2, true), (3, true), (4, true), (5, true), (6, true), (7, true), (8, true), (11, true), (12, true), (13, true), (14, true), (15, true), (18, true), (19, true), (20, true), (21, true), (22, true), (25, true), (26, true), (27, true), (28, true), (29, true)] mixed (by kernel_rfl) (by kernel_rfl) (by kernel_rfl) (by kernel_rfl) ?_
 refine VD.q rfl (q_move rfl) (by decide) ?_
 refine VD.q rfl (q_move rfl) (by decide) ?_
 refine VD.q rfl (q_move rfl) (by decide) ?_
 refine VD.q rfl (q_move rfl) (by decide) ?_
 refine VD.q rfl (q_move rfl) (by decide) ?_
 refine VD.q rfl (q_nilCheck rfl) (by decide) ?_
 refine VD.q rfl (q_field fa261_0 rfl) (by decide) ?_
 refine VD.q rfl (q_elfo (s := o) one82 rfl hx rfl) (by decide) ?_
 refine VD.q rfl (q_move rfl) (by decide) ?_
 refine VD.q rfl (q_move rfl) (by decide) ?_
 refine VD.q rfl (q_nilCheck rfl) (by decide) ?_
 refine VD.q rfl (q_field fa261_1 rfl) (by decide) ?_
 refine VD.q rfl (q_elfo (s := o) one82 rfl hx rfl) (by decide) ?_
 refine VD.q rfl (q_move rfl) (by decide) ?_
 refine VD.q rfl (q_move rfl) (by decide) ?_
 refine VD.q rfl (q_nilCheck rfl) (by decide) ?_
 refine VD.q rfl (q_field fa261_2 rfl) (by decide) ?_
 refine VD.q rfl (q_elfo (s := o) one82 rfl hx rfl) (by decide) ?_
 refine VD.q rfl (q_move rfl) (by decide) ?_
 refine VD.q rfl (q_move rfl) (by decide) ?_
 refine VD.q rfl (q_nilCheck rfl) (by decide) ?_
 refine VD.q rfl (q_field fa261_4 rfl) (by decide) ?_
 refine VD.q rfl (q_elfo (s := o) one82 rfl hx rfl) (by decide) ?_
 refine VD.q rfl (q_move rfl) (by decide) ?_
 refine VD.toG fun hc => ?_
 refine VG.via (S := Sv Str × Sv Str × Sv Str × Sv Str) (fun sg => sg.1.l = x.base.l ++ [line] ∧ sg.2.1.l = x.ours.l ++ [line] ∧ sg.2.2.1.l = x.theirs.l ++ [line] ∧ sg.2.2.2.l = x.out.l ++ [line]) 12 (fun sg => []) #[true, true, true, true, true, true, true, true, true, true, true, true, true, true, true, true, true, true, true, true, true, true, true, true, true, true, true, true, true, true, true, true, false, false, false, false, false, false, false, false, false, false, false, false] (fun sg => [(0, ptr p 0), (2, str line), (3, Zp o.b o.o o.l.length 0), (43, Zp o.b o.o o.l.length 0), (44, Zp o.b o.o o.l.length 0), (45, Zp o.b o.o o.l.length 0), (46, Zp o.b o.o o.l.length 0), (53, sg.1.val), (60, sg.2.1.val), (67, sg.2.2.1.val), (74, sg.2.2.2.val)]) (fun sg => Mo.tt) (fun sg => Ow.star (Blk p [bv.val, ov.val, tv.val, i64 i, i64 j, i64 k, o.val, .bool true] 308) (Ow.star (Sv.own o 261) (Ow.star (Sv.own sg.1 9) (Ow.star (Sv.own sg.2.1 9) (Ow.star (Sv.own sg.2.2.1 9) (Ow.star (Sv.own sg.2.2.2 9) (Ow.emp))))))) ?_ fun key_9_10_16_17_23_24_30_31 => ?_
 ·
  rintro ⟨s53, s60, s67, s74⟩ ⟨hs53, hs60, hs67, hs74⟩
  try dsimp only at hs53 hs60 hs67 hs74
  show VG _ _ _ _ _ _ [] _ [(0, ptr p 0), (2, str line), (3, Zp o.b o.o o.l.length 0), (43, Zp o.b o.o o.l.length 0), (44, Zp o.b o.o o.l.length 0), (45, Zp o.b o.o o.l.length 0), (46, Zp o.b o.o o.l.length 0), (53, s53.val), (60, s60.val), (67, s67.val), (74, s74.val)] Mo.tt (Ow.star (Blk p [bv.val, ov.val, tv.val, i64 i, i64 j, i64 k, o.val, .bool true] 308) (Ow.star (Sv.own o 261) (Ow.star (Sv.own s53 9) (Ow.star (Sv.own s60 9) (Ow.star (Sv.own s67 9) (Ow.star (Sv.own s74 9) (Ow.emp)))))))
  refine VG.ord [(32, true), (33, true), (34, false), (35, true), (36, true), (37, false), (38, true), (39, true), (40, false), (41, true), (42, true), (43, false)] (by kernel_rfl) (closed_of (by kernel_rfl)) (by kernel_rfl) ?_
  refine VD.q rfl (q_nilCheck rfl) (by decide) ?_
  refine VD.q rfl (q_field fa261_0 rfl) (by decide) ?_
  refine VD.one rfl ?_
  refine VL.storeE (s := o) (T := 261) (j := 0) (vc := [s53.val]) (⟨s53, x.ours, x.theirs, x.clash, x.out⟩ : Ck) (by decide) rfl rfl hx rfl sz82 rfl rfl (Nat.le_of_ble_eq_true rfl) rfl (fun w0 hw0 haw0 hcw0 hvw0 hbw0 how0 => ?_)
  rw [← hvw0]
  try rw [← hbw0]
  try rw [← how0]
  have hew0 : w0.l[(((o.l.length : Int) - 1)).toNat]? = some (⟨s53, x.ours, x.theirs, x.clash, x.out⟩ : Ck) := by rw [hw0]; exact List.getElem?_set_self (List.getElem?_eq_some_iff.1 hx).1
  refine VL.back (D' := []) (by kernel_rfl) (Pend.nil) ?_
  refine VD.q rfl (q_nilCheck rfl) (by decide) ?_
  refine VD.q rfl (q_field fa261_1 rfl) (by decide) ?_
  refine VD.one rfl ?_
  refine VL.storeE (s := w0) (T := 261) (j := 1) (vc := [s60.val]) (⟨s53, s60, x.theirs, x.clash, x.out⟩ : Ck) (by decide) rfl rfl hew0 rfl sz82 rfl rfl (Nat.le_of_ble_eq_true rfl) rfl (fun w1 hw1 haw1 hcw1 hvw1 hbw1 how1 => ?_)
  rw [← hvw1]
  try rw [← hbw1]
  try rw [← how1]
  have hew1 : w1.l[(((o.l.length : Int) - 1)).toNat]? = some (⟨s53, s60, x.theirs, x.clash, x.out⟩ : Ck) := by rw [hw1]; exact List.getElem?_set_self (List.getElem?_eq_some_iff.1 hew0).1
  refine VL.back (D' := []) (by kernel_rfl) (Pend.nil) ?_
  refine VD.q rfl (q_nilCheck rfl) (by decide) ?_
  refine VD.q rfl (q_field fa261_2 rfl) (by decide) ?_
  refine VD.one rfl ?_
  refine VL.storeE (s := w1) (T := 261) (j := 2) (vc := [s67.val]) (⟨s53, s60, s67, x.clash, x.out⟩ : Ck) (by decide) rfl rfl hew1 rfl sz82 rfl rfl (Nat.le_of_ble_eq_true rfl) rfl (fun w2 hw2 haw2 hcw2 hvw2 hbw2 how2 => ?_)
  rw [← hvw2]
  try rw [← hbw2]
  try rw [← how2]
  have hew2 : w2.l[(((o.l.length : Int) - 1)).toNat]? = some (⟨s53, s60, s67, x.clash, x.out⟩ : Ck) := by rw [hw2]; exact List.getElem?_set_self (List.getElem?_eq_some_iff.1 hew1).1
  refine VL.back (D' := []) (by kernel_rfl) (Pend.nil) ?_
  refine VD.q rfl (q_nilCheck rfl) (by decide) ?_
  refine VD.q rfl (q_field fa261_4 rfl) (by decide) ?_
  refine VD.one rfl ?_
  refine VL.storeE (s := w2) (T := 261) (j := 4) (vc := [s74.val]) (⟨s53, s60, s67, x.clash, s74⟩ : Ck) (by decide) rfl rfl hew2 rfl sz82 rfl rfl (Nat.le_of_ble_eq_true rfl) rfl (fun w3 hw3 haw3 hcw3 hvw3 hbw3 how3 => ?_)
  rw [← hvw3]
  try rw [← hbw3]
  try rw [← how3]
  have hew3 : w3.l[(((o.l.length : Int) - 1)).toNat]? = some (⟨s53, s60, s67, x.clash, s74⟩ : Ck) := by rw [hw3]; exact List.getElem?_set_self (List.getElem?_eq_some_iff.1 hew2).1
  refine VL.back (D' := []) (by kernel_rfl) (Pend.nil) ?_
  refine VD.to (fun _ _ h => h) ?_
  refine VC.draw [(0, true), (1, true), (2, true), (3, true), (4, true), (5, true), (6, true), (7, true), (8, true), (9, true), (10, true), (11, true), (12, true), (13, true), (14, true), (15, true), (16, true), (17, true), (18, true), (19, true), (20, false), (21, true), (22, true), (23, false), (24, true), (25, true), (26, false)] mixed (by kernel_rfl) (by kernel_rfl) (by kernel_rfl) ?_
  refine VD.q rfl (q_move rfl) (by decide) ?_
  refine VD.q rfl (q_move rfl) (by decide) ?_
  refine VD.q rfl (q_move rfl) (by decide) ?_
  refine VD.q rfl (q_move rfl) (by decide) ?_
  refine VD.q rfl (q_nilCheck rfl) (by decide) ?_
  refine VD.q rfl (q_field fa308_3 rfl) (by decide) ?_
  refine VD.q rfl (q_fe one3 rfl rfl) (by decide) ?_
  refine VD.q rfl (q_add rfl rfl ⟨by omega, by omega⟩) (by decide) ?_
  refine VD.q rfl (q_move rfl) (by decide) ?_
  refine VD.q rfl (q_nilCheck rfl) (by decide) ?_
  refine VD.q rfl (q_field fa308_4 rfl) (by decide) ?_
  refine VD.q rfl (q_fe one3 rfl rfl) (by decide) ?_
  refine VD.q rfl (q_add rfl rfl ⟨by omega, by omega⟩) (by decide) ?_
  refine VD.q rfl (q_move rfl) (by decide) ?_
  refine VD.q rfl (q_nilCheck rfl) (by decide) ?_
  refine VD.q rfl (q_field fa308_5 rfl) (by decide) ?_
  refine VD.q rfl (q_fe one3 rfl rfl) (by decide) ?_
  refine VD.q rfl (q_add rfl rfl ⟨by omega, by omega⟩) (by decide) ?_
  refine VD.q rfl (q_nilCheck rfl) (by decide) ?_
  refine VD.q rfl (q_field fa308_3 rfl) (by decide) ?_
  refine VD.one rfl ?_
  refine VL.store (vc := [i64 (i + 1)]) (cs' := [bv.val, ov.val, tv.val, i64 (i + 1), i64 j, i64 k, w3.val, .bool true]) rfl rfl rfl sz3 rfl rfl (Nat.le_of_ble_eq_true rfl) rfl ?_
  refine VL.back (D' := [(17, i64 (k + 1)), (12, i64 (j + 1))]) (by kernel_rfl) (Pend.cons rfl (q_add rfl rfl ⟨by omega, by omega⟩) (Pend.cons rfl (q_add rfl rfl ⟨by omega, by omega⟩) (Pend.nil))) ?_
  refine VD.q rfl (q_nilCheck rfl) (by decide) ?_
  refine VD.q rfl (q_field fa308_4 rfl) (by decide) ?_
  refine VD.one rfl ?_
  refine VL.store (vc := [i64 (j + 1)]) (cs' := [bv.val, ov.val, tv.val, i64 (i + 1), i64 (j + 1), i64 k, w3.val, .bool true]) rfl rfl rfl sz3 rfl rfl (Nat.le_of_ble_eq_true rfl) rfl ?_
  refine VL.back (D' := [(17, i64 (k + 1))]) (by kernel_rfl) (Pend.cons rfl (q_add rfl rfl ⟨by omega, by omega⟩) (Pend.nil)) ?_
  refine VD.q rfl (q_nilCheck rfl) (by decide) ?_
  refine VD.q rfl (q_field fa308_5 rfl) (by decide) ?_
  refine VD.one rfl ?_
  refine VL.store (vc := [i64 (k + 1)]) (cs' := [bv.val, ov.val, tv.val, i64 (i + 1), i64 (j + 1), i64 (k + 1), w3.val, .bool true]) rfl rfl rfl sz3 rfl rfl (Nat.le_of_ble_eq_true rfl) rfl ?_
  refine VL.back (D' := []) (by kernel_rfl) (Pend.nil) ?_
  have hidx := last_idx hout
  have hfin : w3.l = fr ++ [(⟨s53, s60, s67, x.clash, s74⟩ : Ck)] := by
    rw [hw3, hw2, hw1, hw0, hidx, hout, last_set, last_set, last_set, last_set]
  exact VD.nil (fin0I (.inl rfl) rfl (w3, ⟨s53, s60, s67, x.clash, s74⟩) rfl (⟨hfin, hs53, hs60, hs67, hs74, rfl⟩) EntO.out)
 refine VG.via (S := Sv Str × Sv Str × Sv Str × Sv Str) (fun sg => sg.1.l = x.base.l ++ [line] ∧ sg.2.1.l = x.ours.l ++ [line] ∧ sg.2.2.1.l = x.theirs.l ++ [line] ∧ sg.2.2.2.l = [line]) 13 (fun sg => [(28, x.out.val), (27, Zp o.b o.o o.l.length 4), (26, Zp o.b o.o o.l.length 0)]) #[true, true, true, true, true, true, true, true, true, true, true, true, true, true, true, true, true, true, true, true, true, true, true, true, true, true, true, true, true, true, true, false, false, false, false, false, false, false, false, false, false, false, false, false] (fun sg => [(0, ptr p 0), (2, str line), (3, Zp o.b o.o o.l.length 0), (43, Zp o.b o.o o.l.length 0), (44, Zp o.b o.o o.l.length 0), (45, Zp o.b o.o o.l.length 0), (46, Zp o.b o.o o.l.length 0), (68, Zp o.b o.o o.l.length 0), (69, Zp o.b o.o o.l.length 0), (70, Zp o.b o.o o.l.length 4), (71, x.out.val), (53, sg.1.val), (60, sg.2.1.val), (67, sg.2.2.1.val), (73, sg.2.2.2.val)]) (fun sg => (sg.2.2.2.ok.and Mo.tt)) (fun sg => Ow.star (Blk p [bv.val, ov.val, tv.val, i64 i, i64 j, i64 k, o.val, .bool true] 308) (Ow.star (Sv.own o 261) (Ow.star (Sv.own sg.1 9) (Ow.star (Sv.own sg.2.1 9) (Ow.star (Sv.own sg.2.2.1 9) (Ow.star (Sv.own x.out 9) (Ow.emp))))))) ?_ fun key_9_10_16_17_23_24_30 => ?_
 ·
  rintro ⟨s53, s60, s67, s73⟩ ⟨hs53, hs60, hs67, hs73⟩
  try dsimp only at hs53 hs60 hs67 hs73
  show VG _ _ _ _ _ _ [(28, x.out.val), (27, Zp o.b o.o o.l.length 4), (26, Zp o.b o.o o.l.length 0)] _ [(0, ptr p 0), (2, str line), (3, Zp o.b o.o o.l.length 0), (43, Zp o.b o.o o.l.length 0), (44, Zp o.b o.o o.l.length 0), (45, Zp o.b o.o o.l.length 0), (46, Zp o.b o.o o.l.length 0), (68, Zp o.b o.o o.l.length 0), (69, Zp o.b o.o o.l.length 0), (70, Zp o.b o.o o.l.length 4), (71, x.out.val), (53, s53.val), (60, s60.val), (67, s67.val), (73, s73.val)] (s73.ok.and Mo.tt) (Ow.star (Blk p [bv.val, ov.val, tv.val, i64 i, i64 j, i64 k, o.val, .bool true] 308) (Ow.star (Sv.own o 261) (Ow.star (Sv.own s53 9) (Ow.star (Sv.own s60 9) (Ow.star (Sv.own s67 9) (Ow.star (Sv.own x.out 9) (Ow.emp)))))))
  refine VG.fork (l := [31]) (by kernel_rfl) rfl (fun i hi => ?_)
  simp only [List.mem_cons, List.not_mem_nil, or_false] at hi
  rcases hi with rfl
  refine VGo.of rfl ?_
  refine VL.app (s := x.out) (r := s73) Tryz.underlying82 app9 (by decide) rfl Fo.out (by rw [hs73]; simp; omega) (by rw [hs73]; simp; omega) (by decide) (fun s74 hs74 => ?_)
  exact VL.backE (D' := []) (ks := [0, 2, 3, 43, 44, 45, 46, 53, 60, 67, 74]) (Pend.nil) (by kernel_rfl) (by kernel_rfl) rfl (key_9_10_16_17_23_24_30_31 (s53, s60, s67, s74) ⟨hs53, hs60, hs67, (by rw [hs74, hs73])⟩)
 refine VG.via (S := Sv Str × Sv Str × Sv Str) (fun sg => sg.1.l = x.base.l ++ [line] ∧ sg.2.1.l = x.ours.l ++ [line] ∧ sg.2.2.l = x.theirs.l ++ [line]) 14 (fun sg => [(28, x.out.val), (27, Zp o.b o.o o.l.length 4), (26, Zp o.b o.o o.l.length 0)]) #[true, true, true, true, true, true, true, true, true, true, true, true, true, true, true, true, true, true, true, true, true, true, true, true, true, true, true, true, true, true, false, false, false, false, false, false, false, false, false, false, false, false, false, false] (fun sg => [(0, ptr p 0), (2, str line), (3, Zp o.b o.o o.l.length 0), (43, Zp o.b o.o o.l.length 0), (44, Zp o.b o.o o.l.length 0), (45, Zp o.b o.o o.l.length 0), (46, Zp o.b o.o o.l.length 0), (68, Zp o.b o.o o.l.length 0), (69, Zp o.b o.o o.l.length 0), (70, Zp o.b o.o o.l.length 4), (71, x.out.val), (72, str line), (53, sg.1.val), (60, sg.2.1.val), (67, sg.2.2.val)]) (fun sg => Mo.tt) (fun sg => Ow.star (Blk p [bv.val, ov.val, tv.val, i64 i, i64 j, i64 k, o.val, .bool true] 308) (Ow.star (Sv.own o 261) (Ow.star (Sv.own sg.1 9) (Ow.star (Sv.own sg.2.1 9) (Ow.star (Sv.own sg.2.2 9) (Ow.star (Sv.own x.out 9) (Ow.emp))))))) ?_ fun key_9_10_16_17_23_24 => ?_
 ·
  rintro ⟨s53, s60, s67⟩ ⟨hs53, hs60, hs67⟩
  try dsimp only at hs53 hs60 hs67
  show VG _ _ _ _ _ _ [(28, x.out.val), (27, Zp o.b o.o o.l.length 4), (26, Zp o.b o.o o.l.length 0)] _ [(0, ptr p 0), (2, str line), (3, Zp o.b o.o o.l.length 0), (43, Zp o.b o.o o.l.length 0), (44, Zp o.b o.o o.l.length 0), (45, Zp o.b o.o o.l.length 0), (46, Zp o.b o.o o.l.length 0), (68, Zp o.b o.o o.l.length 0), (69, Zp o.b o.o o.l.length 0), (70, Zp o.b o.o o.l.length 4), (71, x.out.val), (72, str line), (53, s53.val), (60, s60.val), (67, s67.val)] Mo.tt (Ow.star (Blk p [bv.val, ov.val, tv.val, i64 i, i64 j, i64 k, o.val, .bool true] 308) (Ow.star (Sv.own o 261) (Ow.star (Sv.own s53 9) (Ow.star (Sv.own s60 9) (Ow.star (Sv.own s67 9) (Ow.star (Sv.own x.out 9) (Ow.emp)))))))
  refine VG.fork (l := [30]) (by kernel_rfl) rfl (fun i hi => ?_)
  simp only [List.mem_cons, List.not_mem_nil, or_false] at hi
  rcases hi with rfl
  refine VGo.of rfl ?_
  refine VL.lit (α := Str) (xs := [.tmp 72]) (vs := [str line]) [line] Tryz.underlying82 lit9 (by decide) rfl rfl rfl rfl (by decide) (fun _ _ _ _ => trivial) (by decide) (fun s73 hs73 => ?_) (by decide)
  exact VL.backE (D' := [(28, x.out.val), (27, Zp o.b o.o o.l.length 4), (26, Zp o.b o.o o.l.length 0)]) (ks := [0, 2, 3, 43, 44, 45, 46, 68, 69, 70, 71, 53, 60, 67, 73]) (Pend.cons rfl (q_elfo (s := o) one82 rfl hx rfl) (Pend.cons rfl (q_field fa261_4 rfl) (Pend.cons rfl (q_nilCheck rfl) (Pend.nil)))) (by kernel_rfl) (by kernel_rfl) rfl (key_9_10_16_17_23_24_30 (s53, s60, s67, s73) ⟨hs53, hs60, hs67, hs73⟩)
 refine VG.via (S := Sv Str × Sv Str × Sv Str × Sv Str) (fun sg => sg.1.l = x.base.l ++ [line] ∧ sg.2.1.l = x.ours.l ++ [line] ∧ sg.2.2.1.l = [line] ∧ sg.2.2.2.l = [line]) 14 (fun sg => [(28, x.out.val), (27, Zp o.b o.o o.l.length 4), (26, Zp o.b o.o o.l.length 0), (21, x.theirs.val), (20, Zp o.b o.o o.l.length 2), (19, Zp o.b o.o o.l.length 0)]) #[true, true, true, true, true, true, true, true, true, true, true, true, true, true, true, true, true, true, true, true, true, true, true, true, false, true, true, true, true, true, true, false, false, false, false, false, false, false, false, false, false, false, false, false] (fun sg => [(0, ptr p 0), (2, str line), (3, Zp o.b o.o o.l.length 0), (43, Zp o.b o.o o.l.length 0), (44, Zp o.b o.o o.l.length 0), (45, Zp o.b o.o o.l.length 0), (46, Zp o.b o.o o.l.length 0), (61, Zp o.b o.o o.l.length 0), (62, Zp o.b o.o o.l.length 0), (63, Zp o.b o.o o.l.length 2), (64, x.theirs.val), (68, Zp o.b o.o o.l.length 0), (69, Zp o.b o.o o.l.length 0), (70, Zp o.b o.o o.l.length 4), (71, x.out.val), (53, sg.1.val), (60, sg.2.1.val), (66, sg.2.2.1.val), (73, sg.2.2.2.val)]) (fun sg => (sg.2.2.2.ok.and (sg.2.2.1.ok.and Mo.tt))) (fun sg => Ow.star (Blk p [bv.val, ov.val, tv.val, i64 i, i64 j, i64 k, o.val, .bool true] 308) (Ow.star (Sv.own o 261) (Ow.star (Sv.own sg.1 9) (Ow.star (Sv.own sg.2.1 9) (Ow.star (Sv.own x.theirs 9) (Ow.star (Sv.own x.out 9) (Ow.emp))))))) ?_ fun key_9_10_16_17_23_30 => ?_
 ·
  rintro ⟨s53, s60, s66, s73⟩ ⟨hs53, hs60, hs66, hs73⟩
  try dsimp only at hs53 hs60 hs66 hs73
  show VG _ _ _ _ _ _ [(28, x.out.val), (27, Zp o.b o.o o.l.length 4), (26, Zp o.b o.o o.l.length 0), (21, x.theirs.val), (20, Zp o.b o.o o.l.length 2), (19, Zp o.b o.o o.l.length 0)] _ [(0, ptr p 0), (2, str line), (3, Zp o.b o.o o.l.length 0), (43, Zp o.b o.o o.l.length 0), (44, Zp o.b o.o o.l.length 0), (45, Zp o.b o.o o.l.length 0), (46, Zp o.b o.o o.l.length 0), (61, Zp o.b o.o o.l.length 0), (62, Zp o.b o.o o.l.length 0), (63, Zp o.b o.o o.l.length 2), (64, x.theirs.val), (68, Zp o.b o.o o.l.length 0), (69, Zp o.b o.o o.l.length 0), (70, Zp o.b o.o o.l.length 4), (71, x.out.val), (53, s53.val), (60, s60.val), (66, s66.val), (73, s73.val)] (s73.ok.and (s66.ok.and Mo.tt)) (Ow.star (Blk p [bv.val, ov.val, tv.val, i64 i, i64 j, i64 k, o.val, .bool true] 308) (Ow.star (Sv.own o 261) (Ow.star (Sv.own s53 9) (Ow.star (Sv.own s60 9) (Ow.star (Sv.own x.theirs 9) (Ow.star (Sv.own x.out 9) (Ow.emp)))))))
  refine VG.fork (l := [24]) (by kernel_rfl) rfl (fun i hi => ?_)
  simp only [List.mem_cons, List.not_mem_nil, or_false] at hi
  rcases hi with rfl
  refine VGo.of rfl ?_
  refine VL.app (s := x.theirs) (r := s66) Tryz.underlying82 app9 (by decide) rfl Fo.out (by rw [hs66]; simp; omega) (by rw [hs66]; simp; omega) (by decide) (fun s67 hs67 => ?_)
  exact VL.backE (D' := [(28, x.out.val), (27, Zp o.b o.o o.l.length 4), (26, Zp o.b o.o o.l.length 0)]) (ks := [0, 2, 3, 43, 44, 45, 46, 68, 69, 70, 71, 53, 60, 67, 73]) (Pend.cons rfl (q_elfo (s := o) one82 rfl hx rfl) (Pend.cons rfl (q_field fa261_4 rfl) (Pend.cons rfl (q_nilCheck rfl) (Pend.nil)))) (by kernel_rfl) (by kernel_rfl) rfl (key_9_10_16_17_23_24_30 (s53, s60, s67, s73) ⟨hs53, hs60, (by rw [hs67, hs66]), hs73⟩)
 refine VG.via (S := Sv Str × Sv Str × Sv Str) (fun sg => sg.1.l = x.base.l ++ [line] ∧ sg.2.1.l = x.ours.l ++ [line] ∧ sg.2.2.l = [line]) 15 (fun sg => [(28, x.out.val), (27, Zp o.b o.o o.l.length 4), (26, Zp o.b o.o o.l.length 0), (21, x.theirs.val), (20, Zp o.b o.o o.l.length 2), (19, Zp o.b o.o o.l.length 0)]) #[true, true, true, true, true, true, true, true, true, true, true, true, true, true, true, true, true, true, true, true, true, true, true, true, false, true, true, true, true, true, false, false, false, false, false, false, false, false, false, false, false, false, false, false] (fun sg => [(0, ptr p 0), (2, str line), (3, Zp o.b o.o o.l.length 0), (43, Zp o.b o.o o.l.length 0), (44, Zp o.b o.o o.l.length 0), (45, Zp o.b o.o o.l.length 0), (46, Zp o.b o.o o.l.length 0), (61, Zp o.b o.o o.l.length 0), (62, Zp o.b o.o o.l.length 0), (63, Zp o.b o.o o.l.length 2), (64, x.theirs.val), (68, Zp o.b o.o o.l.length 0), (69, Zp o.b o.o o.l.length 0), (70, Zp o.b o.o o.l.length 4), (71, x.out.val), (72, str line), (53, sg.1.val), (60, sg.2.1.val), (66, sg.2.2.val)]) (fun sg => (sg.2.2.ok.and Mo.tt)) (fun sg => Ow.star (Blk p [bv.val, ov.val, tv.val, i64 i, i64 j, i64 k, o.val, .bool true] 308) (Ow.star (Sv.own o 261) (Ow.star (Sv.own sg.1 9) (Ow.star (Sv.own sg.2.1 9) (Ow.star (Sv.own x.theirs 9) (Ow.star (Sv.own x.out 9) (Ow.emp))))))) ?_ fun key_9_10_16_17_23 => ?_
 ·
  rintro ⟨s53, s60, s66⟩ ⟨hs53, hs60, hs66⟩
  try dsimp only at hs53 hs60 hs66
  show VG _ _ _ _ _ _ [(28, x.out.val), (27, Zp o.b o.o o.l.length 4), (26, Zp o.b o.o o.l.length 0), (21, x.theirs.val), (20, Zp o.b o.o o.l.length 2), (19, Zp o.b o.o o.l.length 0)] _ [(0, ptr p 0), (2, str line), (3, Zp o.b o.o o.l.length 0), (43, Zp o.b o.o o.l.length 0), (44, Zp o.b o.o o.l.length 0), (45, Zp o.b o.o o.l.length 0), (46, Zp o.b o.o o.l.length 0), (61, Zp o.b o.o o.l.length 0), (62, Zp o.b o.o o.l.length 0), (63, Zp o.b o.o o.l.length 2), (64, x.theirs.val), (68, Zp o.b o.o o.l.length 0), (69, Zp o.b o.o o.l.length 0), (70, Zp o.b o.o o.l.length 4), (71, x.out.val), (72, str line), (53, s53.val), (60, s60.val), (66, s66.val)] (s66.ok.and Mo.tt) (Ow.star (Blk p [bv.val, ov.val, tv.val, i64 i, i64 j, i64 k, o.val, .bool true] 308) (Ow.star (Sv.own o 261) (Ow.star (Sv.own s53 9) (Ow.star (Sv.own s60 9) (Ow.star (Sv.own x.theirs 9) (Ow.star (Sv.own x.out 9) (Ow.emp)))))))
  refine VG.fork (l := [24, 30]) (by kernel_rfl) rfl (fun i hi => ?_)
  simp only [List.mem_cons, List.not_mem_nil, or_false] at hi
  rcases hi with rfl | rfl
  ·
   refine VGo.of rfl ?_
   refine VL.app (s := x.theirs) (r := s66) Tryz.underlying82 app9 (by decide) rfl Fo.out (by rw [hs66]; simp; omega) (by rw [hs66]; simp; omega) (by decide) (fun s67 hs67 => ?_)
   exact VL.backE (D' := [(28, x.out.val), (27, Zp o.b o.o o.l.length 4), (26, Zp o.b o.o o.l.length 0)]) (ks := [0, 2, 3, 43, 44, 45, 46, 68, 69, 70, 71, 72, 53, 60, 67]) (Pend.cons rfl (q_elfo (s := o) one82 rfl hx rfl) (Pend.cons rfl (q_field fa261_4 rfl) (Pend.cons rfl (q_nilCheck rfl) (Pend.nil)))) (by kernel_rfl) (by kernel_rfl) rfl (key_9_10_16_17_23_24 (s53, s60, s67) ⟨hs53, hs60, (by rw [hs67, hs66])⟩)
  refine VGo.of rfl ?_
  refine VL.lit (α := Str) (xs := [.tmp 72]) (vs := [str line]) [line] Tryz.underlying82 lit9 (by decide) rfl rfl rfl rfl (by decide) (fun _ _ _ _ => trivial) (by decide) (fun s73 hs73 => ?_) (by decide)
  exact VL.backE (D' := [(28, x.out.val), (27, Zp o.b o.o o.l.length 4), (26, Zp o.b o.o o.l.length 0), (21, x.theirs.val), (20, Zp o.b o.o o.l.length 2), (19, Zp o.b o.o o.l.length 0)]) (ks := [0, 2, 3, 43, 44, 45, 46, 61, 62, 63, 64, 68, 69, 70, 71, 53, 60, 66, 73]) (Pend.cons rfl (q_elfo (s := o) one82 rfl hx rfl) (Pend.cons rfl (q_field fa261_4 rfl) (Pend.cons rfl (q_nilCheck rfl) (Pend.cons rfl (q_elfo (s := o) one82 rfl hx rfl) (Pend.cons rfl (q_field fa261_2 rfl) (Pend.cons rfl (q_nilCheck rfl) (Pend.nil))))))) (by kernel_rfl) (by kernel_rfl) rfl (key_9_10_16_17_23_30 (s53, s60, s66, s73) ⟨hs53, hs60, hs66, hs73⟩)
 refine VG.via (S := Sv Str × Sv Str × Sv Str) (fun sg => sg.1.l = x.base.l ++ [line] ∧ sg.2.1.l = x.ours.l ++ [line] ∧ sg.2.2.l = [line]) 15 (fun sg => [(28, x.out.val), (27, Zp o.b o.o o.l.length 4), (26, Zp o.b o.o o.l.length 0), (21, x.theirs.val), (20, Zp o.b o.o o.l.length 2), (19, Zp o.b o.o o.l.length 0)]) #[true, true, true, true, true, true, true, true, true, true, true, true, true, true, true, true, true, true, true, true, true, true, true, false, false, true, true, true, true, true, true, false, false, false, false, false, false, false, false, false, false, false, false, false] (fun sg => [(0, ptr p 0), (2, str line), (3, Zp o.b o.o o.l.length 0), (43, Zp o.b o.o o.l.length 0), (44, Zp o.b o.o o.l.length 0), (45, Zp o.b o.o o.l.length 0), (46, Zp o.b o.o o.l.length 0), (61, Zp o.b o.o o.l.length 0), (62, Zp o.b o.o o.l.length 0), (63, Zp o.b o.o o.l.length 2), (64, x.theirs.val), (65, str line), (68, Zp o.b o.o o.l.length 0), (69, Zp o.b o.o o.l.length 0), (70, Zp o.b o.o o.l.length 4), (71, x.out.val), (53, sg.1.val), (60, sg.2.1.val), (73, sg.2.2.val)]) (fun sg => (sg.2.2.ok.and Mo.tt)) (fun sg => Ow.star (Blk p [bv.val, ov.val, tv.val, i64 i, i64 j, i64 k, o.val, .bool true] 308) (Ow.star (Sv.own o 261) (Ow.star (Sv.own sg.1 9) (Ow.star (Sv.own sg.2.1 9) (Ow.star (Sv.own x.theirs 9) (Ow.star (Sv.own x.out 9) (Ow.emp))))))) ?_ fun key_9_10_16_17_30 => ?_
 ·
  rintro ⟨s53, s60, s73⟩ ⟨hs53, hs60, hs73⟩
  try dsimp only at hs53 hs60 hs73
  show VG _ _ _ _ _ _ [(28, x.out.val), (27, Zp o.b o.o o.l.length 4), (26, Zp o.b o.o o.l.length 0), (21, x.theirs.val), (20, Zp o.b o.o o.l.length 2), (19, Zp o.b o.o o.l.length 0)] _ [(0, ptr p 0), (2, str line), (3, Zp o.b o.o o.l.length 0), (43, Zp o.b o.o o.l.length 0), (44, Zp o.b o.o o.l.length 0), (45, Zp o.b o.o o.l.length 0), (46, Zp o.b o.o o.l.length 0), (61, Zp o.b o.o o.l.length 0), (62, Zp o.b o.o o.l.length 0), (63, Zp o.b o.o o.l.length 2), (64, x.theirs.val), (65, str line), (68, Zp o.b o.o o.l.length 0), (69, Zp o.b o.o o.l.length 0), (70, Zp o.b o.o o.l.length 4), (71, x.out.val), (53, s53.val), (60, s60.val), (73, s73.val)] (s73.ok.and Mo.tt) (Ow.star (Blk p [bv.val, ov.val, tv.val, i64 i, i64 j, i64 k, o.val, .bool true] 308) (Ow.star (Sv.own o 261) (Ow.star (Sv.own s53 9) (Ow.star (Sv.own s60 9) (Ow.star (Sv.own x.theirs 9) (Ow.star (Sv.own x.out 9) (Ow.emp)))))))
  refine VG.fork (l := [23]) (by kernel_rfl) rfl (fun i hi => ?_)
  simp only [List.mem_cons, List.not_mem_nil, or_false] at hi
  rcases hi with rfl
  refine VGo.of rfl ?_
  refine VL.lit (α := Str) (xs := [.tmp 65]) (vs := [str line]) [line] Tryz.underlying82 lit9 (by decide) rfl rfl rfl rfl (by decide) (fun _ _ _ _ => trivial) (by decide) (fun s66 hs66 => ?_) (by decide)
  exact VL.backE (D' := [(28, x.out.val), (27, Zp o.b o.o o.l.length 4), (26, Zp o.b o.o o.l.length 0), (21, x.theirs.val), (20, Zp o.b o.o o.l.length 2), (19, Zp o.b o.o o.l.length 0)]) (ks := [0, 2, 3, 43, 44, 45, 46, 61, 62, 63, 64, 68, 69, 70, 71, 53, 60, 66, 73]) (Pend.cons rfl (q_elfo (s := o) one82 rfl hx rfl) (Pend.cons rfl (q_field fa261_4 rfl) (Pend.cons rfl (q_nilCheck rfl) (Pend.cons rfl (q_elfo (s := o) one82 rfl hx rfl) (Pend.cons rfl (q_field fa261_2 rfl) (Pend.cons rfl (q_nilCheck rfl) (Pend.nil))))))) (by kernel_rfl) (by kernel_rfl) rfl (key_9_10_16_17_23_30 (s53, s60, s66, s73) ⟨hs53, hs60, hs66, hs73⟩)
 refine VG.via (S := Sv Str × Sv Str × Sv Str × Sv Str) (fun sg => sg.1.l = x.base.l ++ [line] ∧ sg.2.1.l = [line] ∧ sg.2.2.1.l = [line] ∧ sg.2.2.2.l = [line]) 15 (fun sg => [(28, x.out.val), (27, Zp o.b o.o o.l.length 4), (26, Zp o.b o.o o.l.length 0), (21, x.theirs.val), (20, Zp o.b o.o o.l.length 2), (19, Zp o.b o.o o.l.length 0), (14, x.ours.val), (13, Zp o.b o.o o.l.length 1), (12, Zp o.b o.o o.l.length 0)]) #[true, true, true, true, true, true, true, true, true, true, true, true, true, true, true, true, true, false, true, true, true, true, true, true, false, true, true, true, true, true, true, false, false, false, false, false, false, false, false, false, false, false, false, false] (fun sg => [(0, ptr p 0), (2, str line), (3, Zp o.b o.o o.l.length 0), (43, Zp o.b o.o o.l.length 0), (44, Zp o.b o.o o.l.length 0), (45, Zp o.b o.o o.l.length 0), (46, Zp o.b o.o o.l.length 0), (54, Zp o.b o.o o.l.length 0), (55, Zp o.b o.o o.l.length 0), (56, Zp o.b o.o o.l.length 1), (57, x.ours.val), (61, Zp o.b o.o o.l.length 0), (62, Zp o.b o.o o.l.length 0), (63, Zp o.b o.o o.l.length 2), (64, x.theirs.val), (68, Zp o.b o.o o.l.length 0), (69, Zp o.b o.o o.l.length 0), (70, Zp o.b o.o o.l.length 4), (71, x.out.val), (53, sg.1.val), (59, sg.2.1.val), (66, sg.2.2.1.val), (73, sg.2.2.2.val)]) (fun sg => (sg.2.2.2.ok.and (sg.2.2.1.ok.and (sg.2.1.ok.and Mo.tt)))) (fun sg => Ow.star (Blk p [bv.val, ov.val, tv.val, i64 i, i64 j, i64 k, o.val, .bool true] 308) (Ow.star (Sv.own o 261) (Ow.star (Sv.own sg.1 9) (Ow.star (Sv.own x.ours 9) (Ow.star (Sv.own x.theirs 9) (Ow.star (Sv.own x.out 9) (Ow.emp))))))) ?_ fun key_9_10_16_23_30 => ?_
 ·
  rintro ⟨s53, s59, s66, s73⟩ ⟨hs53, hs59, hs66, hs73⟩
  try dsimp only at hs53 hs59 hs66 hs73
  show VG _ _ _ _ _ _ [(28, x.out.val), (27, Zp o.b o.o o.l.length 4), (26, Zp o.b o.o o.l.length 0), (21, x.theirs.val), (20, Zp o.b o.o o.l.length 2), (19, Zp o.b o.o o.l.length 0), (14, x.ours.val), (13, Zp o.b o.o o.l.length 1), (12, Zp o.b o.o o.l.length 0)] _ [(0, ptr p 0), (2, str line), (3, Zp o.b o.o o.l.length 0), (43, Zp o.b o.o o.l.length 0), (44, Zp o.b o.o o.l.length 0), (45, Zp o.b o.o o.l.length 0), (46, Zp o.b o.o o.l.length 0), (54, Zp o.b o.o o.l.length 0), (55, Zp o.b o.o o.l.length 0), (56, Zp o.b o.o o.l.length 1), (57, x.ours.val), (61, Zp o.b o.o o.l.length 0), (62, Zp o.b o.o o.l.length 0), (63, Zp o.b o.o o.l.length 2), (64, x.theirs.val), (68, Zp o.b o.o o.l.length 0), (69, Zp o.b o.o o.l.length 0), (70, Zp o.b o.o o.l.length 4), (71, x.out.val), (53, s53.val), (59, s59.val), (66, s66.val), (73, s73.val)] (s73.ok.and (s66.ok.and (s59.ok.and Mo.tt))) (Ow.star (Blk p [bv.val, ov.val, tv.val, i64 i, i64 j, i64 k, o.val, .bool true] 308) (Ow.star (Sv.own o 261) (Ow.star (Sv.own s53 9) (Ow.star (Sv.own x.ours 9) (Ow.star (Sv.own x.theirs 9) (Ow.star (Sv.own x.out 9) (Ow.emp)))))))
  refine VG.fork (l := [17]) (by kernel_rfl) rfl (fun i hi => ?_)
  simp only [List.mem_cons, List.not_mem_nil, or_false] at hi
  rcases hi with rfl
  refine VGo.of rfl ?_
  refine VL.app (s := x.ours) (r := s59) Tryz.underlying82 app9 (by decide) rfl Fo.out (by rw [hs59]; simp; omega) (by rw [hs59]; simp; omega) (by decide) (fun s60 hs60 => ?_)
  exact VL.backE (D' := [(28, x.out.val), (27, Zp o.b o.o o.l.length 4), (26, Zp o.b o.o o.l.length 0), (21, x.theirs.val), (20, Zp o.b o.o o.l.length 2), (19, Zp o.b o.o o.l.length 0)]) (ks := [0, 2, 3, 43, 44, 45, 46, 61, 62, 63, 64, 68, 69, 70, 71, 53, 60, 66, 73]) (Pend.cons rfl (q_elfo (s := o) one82 rfl hx rfl) (Pend.cons rfl (q_field fa261_4 rfl) (Pend.cons rfl (q_nilCheck rfl) (Pend.cons rfl (q_elfo (s := o) one82 rfl hx rfl) (Pend.cons rfl (q_field fa261_2 rfl) (Pend.cons rfl (q_nilCheck rfl) (Pend.nil))))))) (by kernel_rfl) (by kernel_rfl) rfl (key_9_10_16_17_23_30 (s53, s60, s66, s73) ⟨hs53, (by rw [hs60, hs59]), hs66, hs73⟩)
 refine VG.via (S := Sv Str × Sv Str) (fun sg => sg.1.l = x.base.l ++ [line] ∧ sg.2.l = x.ours.l ++ [line]) 16 (fun sg => [(28, x.out.val), (27, Zp o.b o.o o.l.length 4), (26, Zp o.b o.o o.l.length 0), (21, x.theirs.val), (20, Zp o.b o.o o.l.length 2), (19, Zp o.b o.o o.l.length 0)]) #[true, true, true, true, true, true, true, true, true, true, true, true, true, true, true, true, true, true, true, true, true, true, true, false, false, true, true, true, true, true, false, false, false, false, false, false, false, false, false, false, false, false, false, false] (fun sg => [(0, ptr p 0), (2, str line), (3, Zp o.b o.o o.l.length 0), (43, Zp o.b o.o o.l.length 0), (44, Zp o.b o.o o.l.length 0), (45, Zp o.b o.o o.l.length 0), (46, Zp o.b o.o o.l.length 0), (61, Zp o.b o.o o.l.length 0), (62, Zp o.b o.o o.l.length 0), (63, Zp o.b o.o o.l.length 2), (64, x.theirs.val), (65, str line), (68, Zp o.b o.o o.l.length 0), (69, Zp o.b o.o o.l.length 0), (70, Zp o.b o.o o.l.length 4), (71, x.out.val), (72, str line), (53, sg.1.val), (60, sg.2.val)]) (fun sg => Mo.tt) (fun sg => Ow.star (Blk p [bv.val, ov.val, tv.val, i64 i, i64 j, i64 k, o.val, .bool true] 308) (Ow.star (Sv.own o 261) (Ow.star (Sv.own sg.1 9) (Ow.star (Sv.own sg.2 9) (Ow.star (Sv.own x.theirs 9) (Ow.star (Sv.own x.out 9) (Ow.emp))))))) ?_ fun key_9_10_16_17 => ?_
 ·
  rintro ⟨s53, s60⟩ ⟨hs53, hs60⟩
  try dsimp only at hs53 hs60
  show VG _ _ _ _ _ _ [(28, x.out.val), (27, Zp o.b o.o o.l.length 4), (26, Zp o.b o.o o.l.length 0), (21, x.theirs.val), (20, Zp o.b o.o o.l.length 2), (19, Zp o.b o.o o.l.length 0)] _ [(0, ptr p 0), (2, str line), (3, Zp o.b o.o o.l.length 0), (43, Zp o.b o.o o.l.length 0), (44, Zp o.b o.o o.l.length 0), (45, Zp o.b o.o o.l.length 0), (46, Zp o.b o.o o.l.length 0), (61, Zp o.b o.o o.l.length 0), (62, Zp o.b o.o o.l.length 0), (63, Zp o.b o.o o.l.length 2), (64, x.theirs.val), (65, str line), (68, Zp o.b o.o o.l.length 0), (69, Zp o.b o.o o.l.length 0), (70, Zp o.b o.o o.l.length 4), (71, x.out.val), (72, str line), (53, s53.val), (60, s60.val)] Mo.tt (Ow.star (Blk p [bv.val, ov.val, tv.val, i64 i, i64 j, i64 k, o.val, .bool true] 308) (Ow.star (Sv.own o 261) (Ow.star (Sv.own s53 9) (Ow.star (Sv.own s60 9) (Ow.star (Sv.own x.theirs 9) (Ow.star (Sv.own x.out 9) (Ow.emp)))))))
  refine VG.fork (l := [23, 30]) (by kernel_rfl) rfl (fun i hi => ?_)
  simp only [List.mem_cons, List.not_mem_nil, or_false] at hi
  rcases hi with rfl | rfl
  ·
   refine VGo.of rfl ?_
   refine VL.lit (α := Str) (xs := [.tmp 65]) (vs := [str line]) [line] Tryz.underlying82 lit9 (by decide) rfl rfl rfl rfl (by decide) (fun _ _ _ _ => trivial) (by decide) (fun s66 hs66 => ?_) (by decide)
   exact VL.backE (D' := [(28, x.out.val), (27, Zp o.b o.o o.l.length 4), (26, Zp o.b o.o o.l.length 0), (21, x.theirs.val), (20, Zp o.b o.o o.l.length 2), (19, Zp o.b o.o o.l.length 0)]) (ks := [0, 2, 3, 43, 44, 45, 46, 61, 62, 63, 64, 68, 69, 70, 71, 72, 53, 60, 66]) (Pend.cons rfl (q_elfo (s := o) one82 rfl hx rfl) (Pend.cons rfl (q_field fa261_4 rfl) (Pend.cons rfl (q_nilCheck rfl) (Pend.cons rfl (q_elfo (s := o) one82 rfl hx rfl) (Pend.cons rfl (q_field fa261_2 rfl) (Pend.cons rfl (q_nilCheck rfl) (Pend.nil))))))) (by kernel_rfl) (by kernel_rfl) rfl (key_9_10_16_17_23 (s53, s60, s66) ⟨hs53, hs60, hs66⟩)
  refine VGo.of rfl ?_
  refine VL.lit (α := Str) (xs := [.tmp 72]) (vs := [str line]) [line] Tryz.underlying82 lit9 (by decide) rfl rfl rfl rfl (by decide) (fun _ _ _ _ => trivial) (by decide) (fun s73 hs73 => ?_) (by decide)
  exact VL.backE (D' := [(28, x.out.val), (27, Zp o.b o.o o.l.length 4), (26, Zp o.b o.o o.l.length 0), (21, x.theirs.val), (20, Zp o.b o.o o.l.length 2), (19, Zp o.b o.o o.l.length 0)]) (ks := [0, 2, 3, 43, 44, 45, 46, 61, 62, 63, 64, 65, 68, 69, 70, 71, 53, 60, 73]) (Pend.cons rfl (q_elfo (s := o) one82 rfl hx rfl) (Pend.cons rfl (q_field fa261_4 rfl) (Pend.cons rfl (q_nilCheck rfl) (Pend.cons rfl (q_elfo (s := o) one82 rfl hx rfl) (Pend.cons rfl (q_field fa261_2 rfl) (Pend.cons rfl (q_nilCheck rfl) (Pend.nil))))))) (by kernel_rfl) (by kernel_rfl) rfl (key_9_10_16_17_30 (s53, s60, s73) ⟨hs53, hs60, hs73⟩)
 refine VG.via (S := Sv Str × Sv Str × Sv Str) (fun sg => sg.1.l = x.base.l ++ [line] ∧ sg.2.1.l = [line] ∧ sg.2.2.l = [line]) 16 (fun sg => [(28, x.out.val), (27, Zp o.b o.o o.l.length 4), (26, Zp o.b o.o o.l.length 0), (21, x.theirs.val), (20, Zp o.b o.o o.l.length 2), (19, Zp o.b o.o o.l.length 0), (14, x.ours.val), (13, Zp o.b o.o o.l.length 1), (12, Zp o.b o.o o.l.length 0)]) #[true, true, true, true, true, true, true, true, true, true, true, true, true, true, true, true, true, false, true, true, true, true, true, true, false, true, true, true, true, true, false, false, false, false, false, false, false, false, false, false, false, false, false, false] (fun sg => [(0, ptr p 0), (2, str line), (3, Zp o.b o.o o.l.length 0), (43, Zp o.b o.o o.l.length 0), (44, Zp o.b o.o o.l.length 0), (45, Zp o.b o.o o.l.length 0), (46, Zp o.b o.o o.l.length 0), (54, Zp o.b o.o o.l.length 0), (55, Zp o.b o.o o.l.length 0), (56, Zp o.b o.o o.l.length 1), (57, x.ours.val), (61, Zp o.b o.o o.l.length 0), (62, Zp o.b o.o o.l.length 0), (63, Zp o.b o.o o.l.length 2), (64, x.theirs.val), (68, Zp o.b o.o o.l.length 0), (69, Zp o.b o.o o.l.length 0), (70, Zp o.b o.o o.l.length 4), (71, x.out.val), (72, str line), (53, sg.1.val), (59, sg.2.1.val), (66, sg.2.2.val)]) (fun sg => (sg.2.2.ok.and (sg.2.1.ok.and Mo.tt))) (fun sg => Ow.star (Blk p [bv.val, ov.val, tv.val, i64 i, i64 j, i64 k, o.val, .bool true] 308) (Ow.star (Sv.own o 261) (Ow.star (Sv.own sg.1 9) (Ow.star (Sv.own x.ours 9) (Ow.star (Sv.own x.theirs 9) (Ow.star (Sv.own x.out 9) (Ow.emp))))))) ?_ fun key_9_10_16_23 => ?_
 ·
  rintro ⟨s53, s59, s66⟩ ⟨hs53, hs59, hs66⟩
  try dsimp only at hs53 hs59 hs66
  show VG _ _ _ _ _ _ [(28, x.out.val), (27, Zp o.b o.o o.l.length 4), (26, Zp o.b o.o o.l.length 0), (21, x.theirs.val), (20, Zp o.b o.o o.l.length 2), (19, Zp o.b o.o o.l.length 0), (14, x.ours.val), (13, Zp o.b o.o o.l.length 1), (12, Zp o.b o.o o.l.length 0)] _ [(0, ptr p 0), (2, str line), (3, Zp o.b o.o o.l.length 0), (43, Zp o.b o.o o.l.length 0), (44, Zp o.b o.o o.l.length 0), (45, Zp o.b o.o o.l.length 0), (46, Zp o.b o.o o.l.length 0), (54, Zp o.b o.o o.l.length 0), (55, Zp o.b o.o o.l.length 0), (56, Zp o.b o.o o.l.length 1), (57, x.ours.val), (61, Zp o.b o.o o.l.length 0), (62, Zp o.b o.o o.l.length 0), (63, Zp o.b o.o o.l.length 2), (64, x.theirs.val), (68, Zp o.b o.o o.l.length 0), (69, Zp o.b o.o o.l.length 0), (70, Zp o.b o.o o.l.length 4), (71, x.out.val), (72, str line), (53, s53.val), (59, s59.val), (66, s66.val)] (s66.ok.and (s59.ok.and Mo.tt)) (Ow.star (Blk p [bv.val, ov.val, tv.val, i64 i, i64 j, i64 k, o.val, .bool true] 308) (Ow.star (Sv.own o 261) (Ow.star (Sv.own s53 9) (Ow.star (Sv.own x.ours 9) (Ow.star (Sv.own x.theirs 9) (Ow.star (Sv.own x.out 9) (Ow.emp)))))))
  refine VG.fork (l := [17, 30]) (by kernel_rfl) rfl (fun i hi => ?_)
  simp only [List.mem_cons, List.not_mem_nil, or_false] at hi
  rcases hi with rfl | rfl
  ·
   refine VGo.of rfl ?_
   refine VL.app (s := x.ours) (r := s59) Tryz.underlying82 app9 (by decide) rfl Fo.out (by rw [hs59]; simp; omega) (by rw [hs59]; simp; omega) (by decide) (fun s60 hs60 => ?_)
   exact VL.backE (D' := [(28, x.out.val), (27, Zp o.b o.o o.l.length 4), (26, Zp o.b o.o o.l.length 0), (21, x.theirs.val), (20, Zp o.b o.o o.l.length 2), (19, Zp o.b o.o o.l.length 0)]) (ks := [0, 2, 3, 43, 44, 45, 46, 61, 62, 63, 64, 68, 69, 70, 71, 72, 53, 60, 66]) (Pend.cons rfl (q_elfo (s := o) one82 rfl hx rfl) (Pend.cons rfl (q_field fa261_4 rfl) (Pend.cons rfl (q_nilCheck rfl) (Pend.cons rfl (q_elfo (s := o) one82 rfl hx rfl) (Pend.cons rfl (q_field fa261_2 rfl) (Pend.cons rfl (q_nilCheck rfl) (Pend.nil))))))) (by kernel_rfl) (by kernel_rfl) rfl (key_9_10_16_17_23 (s53, s60, s66) ⟨hs53, (by rw [hs60, hs59]), hs66⟩)
  refine VGo.of rfl ?_
  refine VL.lit (α := Str) (xs := [.tmp 72]) (vs := [str line]) [line] Tryz.underlying82 lit9 (by decide) rfl rfl rfl rfl (by decide) (fun _ _ _ _ => trivial) (by decide) (fun s73 hs73 => ?_) (by decide)
  exact VL.backE (D' := [(28, x.out.val), (27, Zp o.b o.o o.l.length 4), (26, Zp o.b o.o o.l.length 0), (21, x.theirs.val), (20, Zp o.b o.o o.l.length 2), (19, Zp o.b o.o o.l.length 0), (14, x.ours.val), (13, Zp o.b o.o o.l.length 1), (12, Zp o.b o.o o.l.length 0)]) (ks := [0, 2, 3, 43, 44, 45, 46, 54, 55, 56, 57, 61, 62, 63, 64, 68, 69, 70, 71, 53, 59, 66, 73]) (Pend.cons rfl (q_elfo (s := o) one82 rfl hx rfl) (Pend.cons rfl (q_field fa261_4 rfl) (Pend.cons rfl (q_nilCheck rfl) (Pend.cons rfl (q_elfo (s := o) one82 rfl hx rfl) (Pend.cons rfl (q_field fa261_2 rfl) (Pend.cons rfl (q_nilCheck rfl) (Pend.cons rfl (q_elfo (s := o) one82 rfl hx rfl) (Pend.cons rfl (q_field fa261_1 rfl) (Pend.cons rfl (q_nilCheck rfl) (Pend.nil)))))))))) (by kernel_rfl) (by kernel_rfl) rfl (key_9_10_16_23_30 (s53, s59, s66, s73) ⟨hs53, hs59, hs66, hs73⟩)
 refine VG.via (S := Sv Str × Sv Str × Sv Str) (fun sg => sg.1.l = x.base.l ++ [line] ∧ sg.2.1.l = [line] ∧ sg.2.2.l = [line]) 16 (fun sg => [(28, x.out.val), (27, Zp o.b o.o o.l.length 4), (26, Zp o.b o.o o.l.length 0), (21, x.theirs.val), (20, Zp o.b o.o o.l.length 2), (19, Zp o.b o.o o.l.length 0), (14, x.ours.val), (13, Zp o.b o.o o.l.length 1), (12, Zp o.b o.o o.l.length 0)]) #[true, true, true, true, true, true, true, true, true, true, true, true, true, true, true, true, true, false, true, true, true, true, true, false, false, true, true, true, true, true, true, false, false, false, false, false, false, false, false, false, false, false, false, false] (fun sg => [(0, ptr p 0), (2, str line), (3, Zp o.b o.o o.l.length 0), (43, Zp o.b o.o o.l.length 0), (44, Zp o.b o.o o.l.length 0), (45, Zp o.b o.o o.l.length 0), (46, Zp o.b o.o o.l.length 0), (54, Zp o.b o.o o.l.length 0), (55, Zp o.b o.o o.l.length 0), (56, Zp o.b o.o o.l.length 1), (57, x.ours.val), (61, Zp o.b o.o o.l.length 0), (62, Zp o.b o.o o.l.length 0), (63, Zp o.b o.o o.l.length 2), (64, x.theirs.val), (65, str line), (68, Zp o.b o.o o.l.length 0), (69, Zp o.b o.o o.l.length 0), (70, Zp o.b o.o o.l.length 4), (71, x.out.val), (53, sg.1.val), (59, sg.2.1.val), (73, sg.2.2.val)]) (fun sg => (sg.2.2.ok.and (sg.2.1.ok.and Mo.tt))) (fun sg => Ow.star (Blk p [bv.val, ov.val, tv.val, i64 i, i64 j, i64 k, o.val, .bool true] 308) (Ow.star (Sv.own o 261) (Ow.star (Sv.own sg.1 9) (Ow.star (Sv.own x.ours 9) (Ow.star (Sv.own x.theirs 9) (Ow.star (Sv.own x.out 9) (Ow.emp))))))) ?_ fun key_9_10_16_30 => ?_
 ·
  rintro ⟨s53, s59, s73⟩ ⟨hs53, hs59, hs73⟩
  try dsimp only at hs53 hs59 hs73
  show VG _ _ _ _ _ _ [(28, x.out.val), (27, Zp o.b o.o o.l.length 4), (26, Zp o.b o.o o.l.length 0), (21, x.theirs.val), (20, Zp o.b o.o o.l.length 2), (19, Zp o.b o.o o.l.length 0), (14, x.ours.val), (13, Zp o.b o.o o.l.length 1), (12, Zp o.b o.o o.l.length 0)] _ [(0, ptr p 0), (2, str line), (3, Zp o.b o.o o.l.length 0), (43, Zp o.b o.o o.l.length 0), (44, Zp o.b o.o o.l.length 0), (45, Zp o.b o.o o.l.length 0), (46, Zp o.b o.o o.l.length 0), (54, Zp o.b o.o o.l.length 0), (55, Zp o.b o.o o.l.length 0), (56, Zp o.b o.o o.l.length 1), (57, x.ours.val), (61, Zp o.b o.o o.l.length 0), (62, Zp o.b o.o o.l.length 0), (63, Zp o.b o.o o.l.length 2), (64, x.theirs.val), (65, str line), (68, Zp o.b o.o o.l.length 0), (69, Zp o.b o.o o.l.length 0), (70, Zp o.b o.o o.l.length 4), (71, x.out.val), (53, s53.val), (59, s59.val), (73, s73.val)] (s73.ok.and (s59.ok.and Mo.tt)) (Ow.star (Blk p [bv.val, ov.val, tv.val, i64 i, i64 j, i64 k, o.val, .bool true] 308) (Ow.star (Sv.own o 261) (Ow.star (Sv.own s53 9) (Ow.star (Sv.own x.ours 9) (Ow.star (Sv.own x.theirs 9) (Ow.star (Sv.own x.out 9) (Ow.emp)))))))
  refine VG.fork (l := [17, 23]) (by kernel_rfl) rfl (fun i hi => ?_)
  simp only [List.mem_cons, List.not_mem_nil, or_false] at hi
  rcases hi with rfl | rfl
  ·
   refine VGo.of rfl ?_
   refine VL.app (s := x.ours) (r := s59) Tryz.underlying82 app9 (by decide) rfl Fo.out (by rw [hs59]; simp; omega) (by rw [hs59]; simp; omega) (by decide) (fun s60 hs60 => ?_)
   exact VL.backE (D' := [(28, x.out.val), (27, Zp o.b o.o o.l.length 4), (26, Zp o.b o.o o.l.length 0), (21, x.theirs.val), (20, Zp o.b o.o o.l.length 2), (19, Zp o.b o.o o.l.length 0)]) (ks := [0, 2, 3, 43, 44, 45, 46, 61, 62, 63, 64, 65, 68, 69, 70, 71, 53, 60, 73]) (Pend.cons rfl (q_elfo (s := o) one82 rfl hx rfl) (Pend.cons rfl (q_field fa261_4 rfl) (Pend.cons rfl (q_nilCheck rfl) (Pend.cons rfl (q_elfo (s := o) one82 rfl hx rfl) (Pend.cons rfl (q_field fa261_2 rfl) (Pend.cons rfl (q_nilCheck rfl) (Pend.nil))))))) (by kernel_rfl) (by kernel_rfl) rfl (key_9_10_16_17_30 (s53, s60, s73) ⟨hs53, (by rw [hs60, hs59]), hs73⟩)
  refine VGo.of rfl ?_
  refine VL.lit (α := Str) (xs := [.tmp 65]) (vs := [str line]) [line] Tryz.underlying82 lit9 (by decide) rfl rfl rfl rfl (by decide) (fun _ _ _ _ => trivial) (by decide) (fun s66 hs66 => ?_) (by decide)
  exact VL.backE (D' := [(28, x.out.val), (27, Zp o.b o.o o.l.length 4), (26, Zp o.b o.o o.l.length 0), (21, x.theirs.val), (20, Zp o.b o.o o.l.length 2), (19, Zp o.b o.o o.l.length 0), (14, x.ours.val), (13, Zp o.b o.o o.l.length 1), (12, Zp o.b o.o o.l.length 0)]) (ks := [0, 2, 3, 43, 44, 45, 46, 54, 55, 56, 57, 61, 62, 63, 64, 68, 69, 70, 71, 53, 59, 66, 73]) (Pend.cons rfl (q_elfo (s := o) one82 rfl hx rfl) (Pend.cons rfl (q_field fa261_4 rfl) (Pend.cons rfl (q_nilCheck rfl) (Pend.cons rfl (q_elfo (s := o) one82 rfl hx rfl) (Pend.cons rfl (q_field fa261_2 rfl) (Pend.cons rfl (q_nilCheck rfl) (Pend.cons rfl (q_elfo (s := o) one82 rfl hx rfl) (Pend.cons rfl (q_field fa261_1 rfl) (Pend.cons rfl (q_nilCheck rfl) (Pend.nil)))))))))) (by kernel_rfl) (by kernel_rfl) rfl (key_9_10_16_23_30 (s53, s59, s66, s73) ⟨hs53, hs59, hs66, hs73⟩)
 refine VG.via (S := Sv Str × Sv Str × Sv Str) (fun sg => sg.1.l = x.base.l ++ [line] ∧ sg.2.1.l = [line] ∧ sg.2.2.l = [line]) 16 (fun sg => [(28, x.out.val), (27, Zp o.b o.o o.l.length 4), (26, Zp o.b o.o o.l.length 0), (21, x.theirs.val), (20, Zp o.b o.o o.l.length 2), (19, Zp o.b o.o o.l.length 0), (14, x.ours.val), (13, Zp o.b o.o o.l.length 1), (12, Zp o.b o.o o.l.length 0)]) #[true, true, true, true, true, true, true, true, true, true, true, true, true, true, true, true, false, false, true, true, true, true, true, true, false, true, true, true, true, true, true, false, false, false, false, false, false, false, false, false, false, false, false, false] (fun sg => [(0, ptr p 0), (2, str line), (3, Zp o.b o.o o.l.length 0), (43, Zp o.b o.o o.l.length 0), (44, Zp o.b o.o o.l.length 0), (45, Zp o.b o.o o.l.length 0), (46, Zp o.b o.o o.l.length 0), (54, Zp o.b o.o o.l.length 0), (55, Zp o.b o.o o.l.length 0), (56, Zp o.b o.o o.l.length 1), (57, x.ours.val), (58, str line), (61, Zp o.b o.o o.l.length 0), (62, Zp o.b o.o o.l.length 0), (63, Zp o.b o.o o.l.length 2), (64, x.theirs.val), (68, Zp o.b o.o o.l.length 0), (69, Zp o.b o.o o.l.length 0), (70, Zp o.b o.o o.l.length 4), (71, x.out.val), (53, sg.1.val), (66, sg.2.1.val), (73, sg.2.2.val)]) (fun sg => (sg.2.2.ok.and (sg.2.1.ok.and Mo.tt))) (fun sg => Ow.star (Blk p [bv.val, ov.val, tv.val, i64 i, i64 j, i64 k, o.val, .bool true] 308) (Ow.star (Sv.own o 261) (Ow.star (Sv.own sg.1 9) (Ow.star (Sv.own x.ours 9) (Ow.star (Sv.own x.theirs 9) (Ow.star (Sv.own x.out 9) (Ow.emp))))))) ?_ fun key_9_10_23_30 => ?_
 ·
  rintro ⟨s53, s66, s73⟩ ⟨hs53, hs66, hs73⟩
  try dsimp only at hs53 hs66 hs73
  show VG _ _ _ _ _ _ [(28, x.out.val), (27, Zp o.b o.o o.l.length 4), (26, Zp o.b o.o o.l.length 0), (21, x.theirs.val), (20, Zp o.b o.o o.l.length 2), (19, Zp o.b o.o o.l.length 0), (14, x.ours.val), (13, Zp o.b o.o o.l.length 1), (12, Zp o.b o.o o.l.length 0)] _ [(0, ptr p 0), (2, str line), (3, Zp o.b o.o o.l.length 0), (43, Zp o.b o.o o.l.length 0), (44, Zp o.b o.o o.l.length 0), (45, Zp o.b o.o o.l.length 0), (46, Zp o.b o.o o.l.length 0), (54, Zp o.b o.o o.l.length 0), (55, Zp o.b o.o o.l.length 0), (56, Zp o.b o.o o.l.length 1), (57, x.ours.val), (58, str line), (61, Zp o.b o.o o.l.length 0), (62, Zp o.b o.o o.l.length 0), (63, Zp o.b o.o o.l.length 2), (64, x.theirs.val), (68, Zp o.b o.o o.l.length 0), (69, Zp o.b o.o o.l.length 0), (70, Zp o.b o.o o.l.length 4), (71, x.out.val), (53, s53.val), (66, s66.val), (73, s73.val)] (s73.ok.and (s66.ok.and Mo.tt)) (Ow.star (Blk p [bv.val, ov.val, tv.val, i64 i, i64 j, i64 k, o.val, .bool true] 308) (Ow.star (Sv.own o 261) (Ow.star (Sv.own s53 9) (Ow.star (Sv.own x.ours 9) (Ow.star (Sv.own x.theirs 9) (Ow.star (Sv.own x.out 9) (Ow.emp)))))))
  refine VG.fork (l := [16]) (by kernel_rfl) rfl (fun i hi => ?_)
  simp only [List.mem_cons, List.not_mem_nil, or_false] at hi
  rcases hi with rfl
  refine VGo.of rfl ?_
  refine VL.lit (α := Str) (xs := [.tmp 58]) (vs := [str line]) [line] Tryz.underlying82 lit9 (by decide) rfl rfl rfl rfl (by decide) (fun _ _ _ _ => trivial) (by decide) (fun s59 hs59 => ?_) (by decide)
  exact VL.backE (D' := [(28, x.out.val), (27, Zp o.b o.o o.l.length 4), (26, Zp o.b o.o o.l.length 0), (21, x.theirs.val), (20, Zp o.b o.o o.l.length 2), (19, Zp o.b o.o o.l.length 0), (14, x.ours.val), (13, Zp o.b o.o o.l.length 1), (12, Zp o.b o.o o.l.length 0)]) (ks := [0, 2, 3, 43, 44, 45, 46, 54, 55, 56, 57, 61, 62, 63, 64, 68, 69, 70, 71, 53, 59, 66, 73]) (Pend.cons rfl (q_elfo (s := o) one82 rfl hx rfl) (Pend.cons rfl (q_field fa261_4 rfl) (Pend.cons rfl (q_nilCheck rfl) (Pend.cons rfl (q_elfo (s := o) one82 rfl hx rfl) (Pend.cons rfl (q_field fa261_2 rfl) (Pend.cons rfl (q_nilCheck rfl) (Pend.cons rfl (q_elfo (s := o) one82 rfl hx rfl) (Pend.cons rfl (q_field fa261_1 rfl) (Pend.cons rfl (q_nilCheck rfl) (Pend.nil)))))))))) (by kernel_rfl) (by kernel_rfl) rfl (key_9_10_16_23_30 (s53, s59, s66, s73) ⟨hs53, hs59, hs66, hs73⟩)
 refine VG.via (S := Sv Str × Sv Str × Sv Str × Sv Str) (fun sg => sg.1.l = [line] ∧ sg.2.1.l = [line] ∧ sg.2.2.1.l = [line] ∧ sg.2.2.2.l = [line]) 16 (fun sg => [(28, x.out.val), (27, Zp o.b o.o o.l.length 4), (26, Zp o.b o.o o.l.length 0), (21, x.theirs.val), (20, Zp o.b o.o o.l.length 2), (19, Zp o.b o.o o.l.length 0), (14, x.ours.val), (13, Zp o.b o.o o.l.length 1), (12, Zp o.b o.o o.l.length 0), (7, x.base.val), (6, Zp o.b o.o o.l.length 0), (5, Zp o.b o.o o.l.length 0)]) #[true, true, true, true, true, true, true, true, true, true, false, true, true, true, true, true, true, false, true, true, true, true, true, true, false, true, true, true, true, true, true, false, false, false, false, false, false, false, false, false, false, false, false, false] (fun sg => [(0, ptr p 0), (2, str line), (3, Zp o.b o.o o.l.length 0), (43, Zp o.b o.o o.l.length 0), (44, Zp o.b o.o o.l.length 0), (45, Zp o.b o.o o.l.length 0), (46, Zp o.b o.o o.l.length 0), (47, Zp o.b o.o o.l.length 0), (48, Zp o.b o.o o.l.length 0), (49, Zp o.b o.o o.l.length 0), (50, x.base.val), (54, Zp o.b o.o o.l.length 0), (55, Zp o.b o.o o.l.length 0), (56, Zp o.b o.o o.l.length 1), (57, x.ours.val), (61, Zp o.b o.o o.l.length 0), (62, Zp o.b o.o o.l.length 0), (63, Zp o.b o.o o.l.length 2), (64, x.theirs.val), (68, Zp o.b o.o o.l.length 0), (69, Zp o.b o.o o.l.length 0), (70, Zp o.b o.o o.l.length 4), (71, x.out.val), (52, sg.1.val), (59, sg.2.1.val), (66, sg.2.2.1.val), (73, sg.2.2.2.val)]) (fun sg => (sg.2.2.2.ok.and (sg.2.2.1.ok.and (sg.2.1.ok.and (sg.1.ok.and Mo.tt))))) (fun sg => Ow.star (Blk p [bv.val, ov.val, tv.val, i64 i, i64 j, i64 k, o.val, .bool true] 308) (Ow.star (Sv.own o 261) (Ow.star (Sv.own x.base 9) (Ow.star (Sv.own x.ours 9) (Ow.star (Sv.own x.theirs 9) (Ow.star (Sv.own x.out 9) (Ow.emp))))))) ?_ fun key_9_16_23_30 => ?_
 ·
  rintro ⟨s52, s59, s66, s73⟩ ⟨hs52, hs59, hs66, hs73⟩
  try dsimp only at hs52 hs59 hs66 hs73
  show VG _ _ _ _ _ _ [(28, x.out.val), (27, Zp o.b o.o o.l.length 4), (26, Zp o.b o.o o.l.length 0), (21, x.theirs.val), (20, Zp o.b o.o o.l.length 2), (19, Zp o.b o.o o.l.length 0), (14, x.ours.val), (13, Zp o.b o.o o.l.length 1), (12, Zp o.b o.o o.l.length 0), (7, x.base.val), (6, Zp o.b o.o o.l.length 0), (5, Zp o.b o.o o.l.length 0)] _ [(0, ptr p 0), (2, str line), (3, Zp o.b o.o o.l.length 0), (43, Zp o.b o.o o.l.length 0), (44, Zp o.b o.o o.l.length 0), (45, Zp o.b o.o o.l.length 0), (46, Zp o.b o.o o.l.length 0), (47, Zp o.b o.o o.l.length 0), (48, Zp o.b o.o o.l.length 0), (49, Zp o.b o.o o.l.length 0), (50, x.base.val), (54, Zp o.b o.o o.l.length 0), (55, Zp o.b o.o o.l.length 0), (56, Zp o.b o.o o.l.length 1), (57, x.ours.val), (61, Zp o.b o.o o.l.length 0), (62, Zp o.b o.o o.l.length 0), (63, Zp o.b o.o o.l.length 2), (64, x.theirs.val), (68, Zp o.b o.o o.l.length 0), (69, Zp o.b o.o o.l.length 0), (70, Zp o.b o.o o.l.length 4), (71, x.out.val), (52, s52.val), (59, s59.val), (66, s66.val), (73, s73.val)] (s73.ok.and (s66.ok.and (s59.ok.and (s52.ok.and Mo.tt)))) (Ow.star (Blk p [bv.val, ov.val, tv.val, i64 i, i64 j, i64 k, o.val, .bool true] 308) (Ow.star (Sv.own o 261) (Ow.star (Sv.own x.base 9) (Ow.star (Sv.own x.ours 9) (Ow.star (Sv.own x.theirs 9) (Ow.star (Sv.own x.out 9) (Ow.emp)))))))
  refine VG.fork (l := [10]) (by kernel_rfl) rfl (fun i hi => ?_)
  simp only [List.mem_cons, List.not_mem_nil, or_false] at hi
  rcases hi with rfl
  refine VGo.of rfl ?_
  refine VL.app (s := x.base) (r := s52) Tryz.underlying82 app9 (by decide) rfl Fo.out (by rw [hs52]; simp; omega) (by rw [hs52]; simp; omega) (by decide) (fun s53 hs53 => ?_)
  exact VL.backE (D' := [(28, x.out.val), (27, Zp o.b o.o o.l.length 4), (26, Zp o.b o.o o.l.length 0), (21, x.theirs.val), (20, Zp o.b o.o o.l.length 2), (19, Zp o.b o.o o.l.length 0), (14, x.ours.val), (13, Zp o.b o.o o.l.length 1), (12, Zp o.b o.o o.l.length 0)]) (ks := [0, 2, 3, 43, 44, 45, 46, 54, 55, 56, 57, 61, 62, 63, 64, 68, 69, 70, 71, 53, 59, 66, 73]) (Pend.cons rfl (q_elfo (s := o) one82 rfl hx rfl) (Pend.cons rfl (q_field fa261_4 rfl) (Pend.cons rfl (q_nilCheck rfl) (Pend.cons rfl (q_elfo (s := o) one82 rfl hx rfl) (Pend.cons rfl (q_field fa261_2 rfl) (Pend.cons rfl (q_nilCheck rfl) (Pend.cons rfl (q_elfo (s := o) one82 rfl hx rfl) (Pend.cons rfl (q_field fa261_1 rfl) (Pend.cons rfl (q_nilCheck rfl) (Pend.nil)))))))))) (by kernel_rfl) (by kernel_rfl) rfl (key_9_10_16_23_30 (s53, s59, s66, s73) ⟨(by rw [hs53, hs52]), hs59, hs66, hs73⟩)
 refine VG.via (S := Sv Str × Sv Str) (fun sg => sg.1.l = x.base.l ++ [line] ∧ sg.2.l = [line]) 17 (fun sg => [(28, x.out.val), (27, Zp o.b o.o o.l.length 4), (26, Zp o.b o.o o.l.length 0), (21, x.theirs.val), (20, Zp o.b o.o o.l.length 2), (19, Zp o.b o.o o.l.length 0), (14, x.ours.val), (13, Zp o.b o.o o.l.length 1), (12, Zp o.b o.o o.l.length 0)]) #[true, true, true, true, true, true, true, true, true, true, true, true, true, true, true, true, true, false, true, true, true, true, true, false, false, true, true, true, true, true, false, false, false, false, false, false, false, false, false, false, false, false, false, false] (fun sg => [(0, ptr p 0), (2, str line), (3, Zp o.b o.o o.l.length 0), (43, Zp o.b o.o o.l.length 0), (44, Zp o.b o.o o.l.length 0), (45, Zp o.b o.o o.l.length 0), (46, Zp o.b o.o o.l.length 0), (54, Zp o.b o.o o.l.length 0), (55, Zp o.b o.o o.l.length 0), (56, Zp o.b o.o o.l.length 1), (57, x.ours.val), (61, Zp o.b o.o o.l.length 0), (62, Zp o.b o.o o.l.length 0), (63, Zp o.b o.o o.l.length 2), (64, x.theirs.val), (65, str line), (68, Zp o.b o.o o.l.length 0), (69, Zp o.b o.o o.l.length 0), (70, Zp o.b o.o o.l.length 4), (71, x.out.val), (72, str line), (53, sg.1.val), (59, sg.2.val)]) (fun sg => (sg.2.ok.and Mo.tt)) (fun sg => Ow.star (Blk p [bv.val, ov.val, tv.val, i64 i, i64 j, i64 k, o.val, .bool true] 308) (Ow.star (Sv.own o 261) (Ow.star (Sv.own sg.1 9) (Ow.star (Sv.own x.ours 9) (Ow.star (Sv.own x.theirs 9) (Ow.star (Sv.own x.out 9) (Ow.emp))))))) ?_ fun key_9_10_16 => ?_
 ·
  rintro ⟨s53, s59⟩ ⟨hs53, hs59⟩
  try dsimp only at hs53 hs59
  show VG _ _ _ _ _ _ [(28, x.out.val), (27, Zp o.b o.o o.l.length 4), (26, Zp o.b o.o o.l.length 0), (21, x.theirs.val), (20, Zp o.b o.o o.l.length 2), (19, Zp o.b o.o o.l.length 0), (14, x.ours.val), (13, Zp o.b o.o o.l.length 1), (12, Zp o.b o.o o.l.length 0)] _ [(0, ptr p 0), (2, str line), (3, Zp o.b o.o o.l.length 0), (43, Zp o.b o.o o.l.length 0), (44, Zp o.b o.o o.l.length 0), (45, Zp o.b o.o o.l.length 0), (46, Zp o.b o.o o.l.length 0), (54, Zp o.b o.o o.l.length 0), (55, Zp o.b o.o o.l.length 0), (56, Zp o.b o.o o.l.length 1), (57, x.ours.val), (61, Zp o.b o.o o.l.length 0), (62, Zp o.b o.o o.l.length 0), (63, Zp o.b o.o o.l.length 2), (64, x.theirs.val), (65, str line), (68, Zp o.b o.o o.l.length 0), (69, Zp o.b o.o o.l.length 0), (70, Zp o.b o.o o.l.length 4), (71, x.out.val), (72, str line), (53, s53.val), (59, s59.val)] (s59.ok.and Mo.tt) (Ow.star (Blk p [bv.val, ov.val, tv.val, i64 i, i64 j, i64 k, o.val, .bool true] 308) (Ow.star (Sv.own o 261) (Ow.star (Sv.own s53 9) (Ow.star (Sv.own x.ours 9) (Ow.star (Sv.own x.theirs 9) (Ow.star (Sv.own x.out 9) (Ow.emp)))))))
  refine VG.fork (l := [17, 23, 30]) (by kernel_rfl) rfl (fun i hi => ?_)
  simp only [List.mem_cons, List.not_mem_nil, or_false] at hi
  rcases hi with rfl | rfl | rfl
  ·
   refine VGo.of rfl ?_
   refine VL.app (s := x.ours) (r := s59) Tryz.underlying82 app9 (by decide) rfl Fo.out (by rw [hs59]; simp; omega) (by rw [hs59]; simp; omega) (by decide) (fun s60 hs60 => ?_)
   exact VL.backE (D' := [(28, x.out.val), (27, Zp o.b o.o o.l.length 4), (26, Zp o.b o.o o.l.length 0), (21, x.theirs.val), (20, Zp o.b o.o o.l.length 2), (19, Zp o.b o.o o.l.length 0)]) (ks := [0, 2, 3, 43, 44, 45, 46, 61, 62, 63, 64, 65, 68, 69, 70, 71, 72, 53, 60]) (Pend.cons rfl (q_elfo (s := o) one82 rfl hx rfl) (Pend.cons rfl (q_field fa261_4 rfl) (Pend.cons rfl (q_nilCheck rfl) (Pend.cons rfl (q_elfo (s := o) one82 rfl hx rfl) (Pend.cons rfl (q_field fa261_2 rfl) (Pend.cons rfl (q_nilCheck rfl) (Pend.nil))))))) (by kernel_rfl) (by kernel_rfl) rfl (key_9_10_16_17 (s53, s60) ⟨hs53, (by rw [hs60, hs59])⟩)
  ·
   refine VGo.of rfl ?_
   refine VL.lit (α := Str) (xs := [.tmp 65]) (vs := [str line]) [line] Tryz.underlying82 lit9 (by decide) rfl rfl rfl rfl (by decide) (fun _ _ _ _ => trivial) (by decide) (fun s66 hs66 => ?_) (by decide)
   exact VL.backE (D' := [(28, x.out.val), (27, Zp o.b o.o o.l.length 4), (26, Zp o.b o.o o.l.length 0), (21, x.theirs.val), (20, Zp o.b o.o o.l.length 2), (19, Zp o.b o.o o.l.length 0), (14, x.ours.val), (13, Zp o.b o.o o.l.length 1), (12, Zp o.b o.o o.l.length 0)]) (ks := [0, 2, 3, 43, 44, 45, 46, 54, 55, 56, 57, 61, 62, 63, 64, 68, 69, 70, 71, 72, 53, 59, 66]) (Pend.cons rfl (q_elfo (s := o) one82 rfl hx rfl) (Pend.cons rfl (q_field fa261_4 rfl) (Pend.cons rfl (q_nilCheck rfl) (Pend.cons rfl (q_elfo (s := o) one82 rfl hx rfl) (Pend.cons rfl (q_field fa261_2 rfl) (Pend.cons rfl (q_nilCheck rfl) (Pend.cons rfl (q_elfo (s := o) one82 rfl hx rfl) (Pend.cons rfl (q_field fa261_1 rfl) (Pend.cons rfl (q_nilCheck rfl) (Pend.nil)))))))))) (by kernel_rfl) (by kernel_rfl) rfl (key_9_10_16_23 (s53, s59, s66) ⟨hs53, hs59, hs66⟩)
  refine VGo.of rfl ?_
  refine VL.lit (α := Str) (xs := [.tmp 72]) (vs := [str line]) [line] Tryz.underlying82 lit9 (by decide) rfl rfl rfl rfl (by decide) (fun _ _ _ _ => trivial) (by decide) (fun s73 hs73 => ?_) (by decide)
  exact VL.backE (D' := [(28, x.out.val), (27, Zp o.b o.o o.l.length 4), (26, Zp o.b o.o o.l.length 0), (21, x.theirs.val), (20, Zp o.b o.o o.l.length 2), (19, Zp o.b o.o o.l.length 0), (14, x.ours.val), (13, Zp o.b o.o o.l.length 1), (12, Zp o.b o.o o.l.length 0)]) (ks := [0, 2, 3, 43, 44, 45, 46, 54, 55, 56, 57, 61, 62, 63, 64, 65, 68, 69, 70, 71, 53, 59, 73]) (Pend.cons rfl (q_elfo (s := o) one82 rfl hx rfl) (Pend.cons rfl (q_field fa261_4 rfl) (Pend.cons rfl (q_nilCheck rfl) (Pend.cons rfl (q_elfo (s := o) one82 rfl hx rfl) (Pend.cons rfl (q_field fa261_2 rfl) (Pend.cons rfl (q_nilCheck rfl) (Pend.cons rfl (q_elfo (s := o) one82 rfl hx rfl) (Pend.cons rfl (q_field fa261_1 rfl) (Pend.cons rfl (q_nilCheck rfl) (Pend.nil)))))))))) (by kernel_rfl) (by kernel_rfl) rfl (key_9_10_16_30 (s53, s59, s73) ⟨hs53, hs59, hs73⟩)
 refine VG.via (S := Sv Str × Sv Str) (fun sg => sg.1.l = x.base.l ++ [line] ∧ sg.2.l = [line]) 17 (fun sg => [(28, x.out.val), (27, Zp o.b o.o o.l.length 4), (26, Zp o.b o.o o.l.length 0), (21, x.theirs.val), (20, Zp o.b o.o o.l.length 2), (19, Zp o.b o.o o.l.length 0), (14, x.ours.val), (13, Zp o.b o.o o.l.length 1), (12, Zp o.b o.o o.l.length 0)]) #[true, true, true, true, true, true, true, true, true, true, true, true, true, true, true, true, false, false, true, true, true, true, true, true, false, true, true, true, true, true, false, false, false, false, false, false, false, false, false, false, false, false, false, false] (fun sg => [(0, ptr p 0), (2, str line), (3, Zp o.b o.o o.l.length 0), (43, Zp o.b o.o o.l.length 0), (44, Zp o.b o.o o.l.length 0), (45, Zp o.b o.o o.l.length 0), (46, Zp o.b o.o o.l.length 0), (54, Zp o.b o.o o.l.length 0), (55, Zp o.b o.o o.l.length 0), (56, Zp o.b o.o o.l.length 1), (57, x.ours.val), (58, str line), (61, Zp o.b o.o o.l.length 0), (62, Zp o.b o.o o.l.length 0), (63, Zp o.b o.o o.l.length 2), (64, x.theirs.val), (68, Zp o.b o.o o.l.length 0), (69, Zp o.b o.o o.l.length 0), (70, Zp o.b o.o o.l.length 4), (71, x.out.val), (72, str line), (53, sg.1.val), (66, sg.2.val)]) (fun sg => (sg.2.ok.and Mo.tt)) (fun sg => Ow.star (Blk p [bv.val, ov.val, tv.val, i64 i, i64 j, i64 k, o.val, .bool true] 308) (Ow.star (Sv.own o 261) (Ow.star (Sv.own sg.1 9) (Ow.star (Sv.own x.ours 9) (Ow.star (Sv.own x.theirs 9) (Ow.star (Sv.own x.out 9) (Ow.emp))))))) ?_ fun key_9_10_23 => ?_
 ·
  rintro ⟨s53, s66⟩ ⟨hs53, hs66⟩
  try dsimp only at hs53 hs66
  show VG _ _ _ _ _ _ [(28, x.out.val), (27, Zp o.b o.o o.l.length 4), (26, Zp o.b o.o o.l.length 0), (21, x.theirs.val), (20, Zp o.b o.o o.l.length 2), (19, Zp o.b o.o o.l.length 0), (14, x.ours.val), (13, Zp o.b o.o o.l.length 1), (12, Zp o.b o.o o.l.length 0)] _ [(0, ptr p 0), (2, str line), (3, Zp o.b o.o o.l.length 0), (43, Zp o.b o.o o.l.length 0), (44, Zp o.b o.o o.l.length 0), (45, Zp o.b o.o o.l.length 0), (46, Zp o.b o.o o.l.length 0), (54, Zp o.b o.o o.l.length 0), (55, Zp o.b o.o o.l.length 0), (56, Zp o.b o.o o.l.length 1), (57, x.ours.val), (58, str line), (61, Zp o.b o.o o.l.length 0), (62, Zp o.b o.o o.l.length 0), (63, Zp o.b o.o o.l.length 2), (64, x.theirs.val), (68, Zp o.b o.o o.l.length 0), (69, Zp o.b o.o o.l.length 0), (70, Zp o.b o.o o.l.length 4), (71, x.out.val), (72, str line), (53, s53.val), (66, s66.val)] (s66.ok.and Mo.tt) (Ow.star (Blk p [bv.val, ov.val, tv.val, i64 i, i64 j, i64 k, o.val, .bool true] 308) (Ow.star (Sv.own o 261) (Ow.star (Sv.own s53 9) (Ow.star (Sv.own x.ours 9) (Ow.star (Sv.own x.theirs 9) (Ow.star (Sv.own x.out 9) (Ow.emp)))))))
  refine VG.fork (l := [16, 30]) (by kernel_rfl) rfl (fun i hi => ?_)
  simp only [List.mem_cons, List.not_mem_nil, or_false] at hi
  rcases hi with rfl | rfl
  ·
   refine VGo.of rfl ?_
   refine VL.lit (α := Str) (xs := [.tmp 58]) (vs := [str line]) [line] Tryz.underlying82 lit9 (by decide) rfl rfl rfl rfl (by decide) (fun _ _ _ _ => trivial) (by decide) (fun s59 hs59 => ?_) (by decide)
   exact VL.backE (D' := [(28, x.out.val), (27, Zp o.b o.o o.l.length 4), (26, Zp o.b o.o o.l.length 0), (21, x.theirs.val), (20, Zp o.b o.o o.l.length 2), (19, Zp o.b o.o o.l.length 0), (14, x.ours.val), (13, Zp o.b o.o o.l.length 1), (12, Zp o.b o.o o.l.length 0)]) (ks := [0, 2, 3, 43, 44, 45, 46, 54, 55, 56, 57, 61, 62, 63, 64, 68, 69, 70, 71, 72, 53, 59, 66]) (Pend.cons rfl (q_elfo (s := o) one82 rfl hx rfl) (Pend.cons rfl (q_field fa261_4 rfl) (Pend.cons rfl (q_nilCheck rfl) (Pend.cons rfl (q_elfo (s := o) one82 rfl hx rfl) (Pend.cons rfl (q_field fa261_2 rfl) (Pend.cons rfl (q_nilCheck rfl) (Pend.cons rfl (q_elfo (s := o) one82 rfl hx rfl) (Pend.cons rfl (q_field fa261_1 rfl) (Pend.cons rfl (q_nilCheck rfl) (Pend.nil)))))))))) (by kernel_rfl) (by kernel_rfl) rfl (key_9_10_16_23 (s53, s59, s66) ⟨hs53, hs59, hs66⟩)
  refine VGo.of rfl ?_
  refine VL.lit (α := Str) (xs := [.tmp 72]) (vs := [str line]) [line] Tryz.underlying82 lit9 (by decide) rfl rfl rfl rfl (by decide) (fun _ _ _ _ => trivial) (by decide) (fun s73 hs73 => ?_) (by decide)
  exact VL.backE (D' := [(28, x.out.val), (27, Zp o.b o.o o.l.length 4), (26, Zp o.b o.o o.l.length 0), (21, x.theirs.val), (20, Zp o.b o.o o.l.length 2), (19, Zp o.b o.o o.l.length 0), (14, x.ours.val), (13, Zp o.b o.o o.l.length 1), (12, Zp o.b o.o o.l.length 0)]) (ks := [0, 2, 3, 43, 44, 45, 46, 54, 55, 56, 57, 58, 61, 62, 63, 64, 68, 69, 70, 71, 53, 66, 73]) (Pend.cons rfl (q_elfo (s := o) one82 rfl hx rfl) (Pend.cons rfl (q_field fa261_4 rfl) (Pend.cons rfl (q_nilCheck rfl) (Pend.cons rfl (q_elfo (s := o) one82 rfl hx rfl) (Pend.cons rfl (q_field fa261_2 rfl) (Pend.cons rfl (q_nilCheck rfl) (Pend.cons rfl (q_elfo (s := o) one82 rfl hx rfl) (Pend.cons rfl (q_field fa261_1 rfl) (Pend.cons rfl (q_nilCheck rfl) (Pend.nil)))))))))) (by kernel_rfl) (by kernel_rfl) rfl (key_9_10_23_30 (s53, s66, s73) ⟨hs53, hs66, hs73⟩)
 refine VG.via (S := Sv Str × Sv Str) (fun sg => sg.1.l = x.base.l ++ [line] ∧ sg.2.l = [line]) 17 (fun sg => [(28, x.out.val), (27, Zp o.b o.o o.l.length 4), (26, Zp o.b o.o o.l.length 0), (21, x.theirs.val), (20, Zp o.b o.o o.l.length 2), (19, Zp o.b o.o o.l.length 0), (14, x.ours.val), (13, Zp o.b o.o o.l.length 1), (12, Zp o.b o.o o.l.length 0)]) #[true, true, true, true, true, true, true, true, true, true, true, true, true, true, true, true, false, false, true, true, true, true, true, false, false, true, true, true, true, true, true, false, false, false, false, false, false, false, false, false, false, false, false, false] (fun sg => [(0, ptr p 0), (2, str line), (3, Zp o.b o.o o.l.length 0), (43, Zp o.b o.o o.l.length 0), (44, Zp o.b o.o o.l.length 0), (45, Zp o.b o.o o.l.length 0), (46, Zp o.b o.o o.l.length 0), (54, Zp o.b o.o o.l.length 0), (55, Zp o.b o.o o.l.length 0), (56, Zp o.b o.o o.l.length 1), (57, x.ours.val), (58, str line), (61, Zp o.b o.o o.l.length 0), (62, Zp o.b o.o o.l.length 0), (63, Zp o.b o.o o.l.length 2), (64, x.theirs.val), (65, str line), (68, Zp o.b o.o o.l.length 0), (69, Zp o.b o.o o.l.length 0), (70, Zp o.b o.o o.l.length 4), (71, x.out.val), (53, sg.1.val), (73, sg.2.val)]) (fun sg => (sg.2.ok.and Mo.tt)) (fun sg => Ow.star (Blk p [bv.val, ov.val, tv.val, i64 i, i64 j, i64 k, o.val, .bool true] 308) (Ow.star (Sv.own o 261) (Ow.star (Sv.own sg.1 9) (Ow.star (Sv.own x.ours 9) (Ow.star (Sv.own x.theirs 9) (Ow.star (Sv.own x.out 9) (Ow.emp))))))) ?_ fun key_9_10_30 => ?_
 ·
  rintro ⟨s53, s73⟩ ⟨hs53, hs73⟩
  try dsimp only at hs53 hs73
  show VG _ _ _ _ _ _ [(28, x.out.val), (27, Zp o.b o.o o.l.length 4), (26, Zp o.b o.o o.l.length 0), (21, x.theirs.val), (20, Zp o.b o.o o.l.length 2), (19, Zp o.b o.o o.l.length 0), (14, x.ours.val), (13, Zp o.b o.o o.l.length 1), (12, Zp o.b o.o o.l.length 0)] _ [(0, ptr p 0), (2, str line), (3, Zp o.b o.o o.l.length 0), (43, Zp o.b o.o o.l.length 0), (44, Zp o.b o.o o.l.length 0), (45, Zp o.b o.o o.l.length 0), (46, Zp o.b o.o o.l.length 0), (54, Zp o.b o.o o.l.length 0), (55, Zp o.b o.o o.l.length 0), (56, Zp o.b o.o o.l.length 1), (57, x.ours.val), (58, str line), (61, Zp o.b o.o o.l.length 0), (62, Zp o.b o.o o.l.length 0), (63, Zp o.b o.o o.l.length 2), (64, x.theirs.val), (65, str line), (68, Zp o.b o.o o.l.length 0), (69, Zp o.b o.o o.l.length 0), (70, Zp o.b o.o o.l.length 4), (71, x.out.val), (53, s53.val), (73, s73.val)] (s73.ok.and Mo.tt) (Ow.star (Blk p [bv.val, ov.val, tv.val, i64 i, i64 j, i64 k, o.val, .bool true] 308) (Ow.star (Sv.own o 261) (Ow.star (Sv.own s53 9) (Ow.star (Sv.own x.ours 9) (Ow.star (Sv.own x.theirs 9) (Ow.star (Sv.own x.out 9) (Ow.emp)))))))
  refine VG.fork (l := [16, 23]) (by kernel_rfl) rfl (fun i hi => ?_)
  simp only [List.mem_cons, List.not_mem_nil, or_false] at hi
  rcases hi with rfl | rfl
  ·
   refine VGo.of rfl ?_
   refine VL.lit (α := Str) (xs := [.tmp 58]) (vs := [str line]) [line] Tryz.underlying82 lit9 (by decide) rfl rfl rfl rfl (by decide) (fun _ _ _ _ => trivial) (by decide) (fun s59 hs59 => ?_) (by decide)
   exact VL.backE (D' := [(28, x.out.val), (27, Zp o.b o.o o.l.length 4), (26, Zp o.b o.o o.l.length 0), (21, x.theirs.val), (20, Zp o.b o.o o.l.length 2), (19, Zp o.b o.o o.l.length 0), (14, x.ours.val), (13, Zp o.b o.o o.l.length 1), (12, Zp o.b o.o o.l.length 0)]) (ks := [0, 2, 3, 43, 44, 45, 46, 54, 55, 56, 57, 61, 62, 63, 64, 65, 68, 69, 70, 71, 53, 59, 73]) (Pend.cons rfl (q_elfo (s := o) one82 rfl hx rfl) (Pend.cons rfl (q_field fa261_4 rfl) (Pend.cons rfl (q_nilCheck rfl) (Pend.cons rfl (q_elfo (s := o) one82 rfl hx rfl) (Pend.cons rfl (q_field fa261_2 rfl) (Pend.cons rfl (q_nilCheck rfl) (Pend.cons rfl (q_elfo (s := o) one82 rfl hx rfl) (Pend.cons rfl (q_field fa261_1 rfl) (Pend.cons rfl (q_nilCheck rfl) (Pend.nil)))))))))) (by kernel_rfl) (by kernel_rfl) rfl (key_9_10_16_30 (s53, s59, s73) ⟨hs53, hs59, hs73⟩)
  refine VGo.of rfl ?_
  refine VL.lit (α := Str) (xs := [.tmp 65]) (vs := [str line]) [line] Tryz.underlying82 lit9 (by decide) rfl rfl rfl rfl (by decide) (fun _ _ _ _ => trivial) (by decide) (fun s66 hs66 => ?_) (by decide)
  exact VL.backE (D' := [(28, x.out.val), (27, Zp o.b o.o o.l.length 4), (26, Zp o.b o.o o.l.length 0), (21, x.theirs.val), (20, Zp o.b o.o o.l.length 2), (19, Zp o.b o.o o.l.length 0), (14, x.ours.val), (13, Zp o.b o.o o.l.length 1), (12, Zp o.b o.o o.l.length 0)]) (ks := [0, 2, 3, 43, 44, 45, 46, 54, 55, 56, 57, 58, 61, 62, 63, 64, 68, 69, 70, 71, 53, 66, 73]) (Pend.cons rfl (q_elfo (s := o) one82 rfl hx rfl) (Pend.cons rfl (q_field fa261_4 rfl) (Pend.cons rfl (q_nilCheck rfl) (Pend.cons rfl (q_elfo (s := o) one82 rfl hx rfl) (Pend.cons rfl (q_field fa261_2 rfl) (Pend.cons rfl (q_nilCheck rfl) (Pend.cons rfl (q_elfo (s := o) one82 rfl hx rfl) (Pend.cons rfl (q_field fa261_1 rfl) (Pend.cons rfl (q_nilCheck rfl) (Pend.nil)))))))))) (by kernel_rfl) (by kernel_rfl) rfl (key_9_10_23_30 (s53, s66, s73) ⟨hs53, hs66, hs73⟩)
 refine VG.via (S := Sv Str × Sv Str × Sv Str) (fun sg => sg.1.l = [line] ∧ sg.2.1.l = [line] ∧ sg.2.2.l = [line]) 17 (fun sg => [(28, x.out.val), (27, Zp o.b o.o o.l.length 4), (26, Zp o.b o.o o.l.length 0), (21, x.theirs.val), (20, Zp o.b o.o o.l.length 2), (19, Zp o.b o.o o.l.length 0), (14, x.ours.val), (13, Zp o.b o.o o.l.length 1), (12, Zp o.b o.o o.l.length 0), (7, x.base.val), (6, Zp o.b o.o o.l.length 0), (5, Zp o.b o.o o.l.length 0)]) #[true, true, true, true, true, true, true, true, true, true, false, true, true, true, true, true, true, false, true, true, true, true, true, true, false, true, true, true, true, true, false, false, false, false, false, false, false, false, false, false, false, false, false, false] (fun sg => [(0, ptr p 0), (2, str line), (3, Zp o.b o.o o.l.length 0), (43, Zp o.b o.o o.l.length 0), (44, Zp o.b o.o o.l.length 0), (45, Zp o.b o.o o.l.length 0), (46, Zp o.b o.o o.l.length 0), (47, Zp o.b o.o o.l.length 0), (48, Zp o.b o.o o.l.length 0), (49, Zp o.b o.o o.l.length 0), (50, x.base.val), (54, Zp o.b o.o o.l.length 0), (55, Zp o.b o.o o.l.length 0), (56, Zp o.b o.o o.l.length 1), (57, x.ours.val), (61, Zp o.b o.o o.l.length 0), (62, Zp o.b o.o o.l.length 0), (63, Zp o.b o.o o.l.length 2), (64, x.theirs.val), (68, Zp o.b o.o o.l.length 0), (69, Zp o.b o.o o.l.length 0), (70, Zp o.b o.o o.l.length 4), (71, x.out.val), (72, str line), (52, sg.1.val), (59, sg.2.1.val), (66, sg.2.2.val)]) (fun sg => (sg.2.2.ok.and (sg.2.1.ok.and (sg.1.ok.and Mo.tt)))) (fun sg => Ow.star (Blk p [bv.val, ov.val, tv.val, i64 i, i64 j, i64 k, o.val, .bool true] 308) (Ow.star (Sv.own o 261) (Ow.star (Sv.own x.base 9) (Ow.star (Sv.own x.ours 9) (Ow.star (Sv.own x.theirs 9) (Ow.star (Sv.own x.out 9) (Ow.emp))))))) ?_ fun key_9_16_23 => ?_
 ·
  rintro ⟨s52, s59, s66⟩ ⟨hs52, hs59, hs66⟩
  try dsimp only at hs52 hs59 hs66
  show VG _ _ _ _ _ _ [(28, x.out.val), (27, Zp o.b o.o o.l.length 4), (26, Zp o.b o.o o.l.length 0), (21, x.theirs.val), (20, Zp o.b o.o o.l.length 2), (19, Zp o.b o.o o.l.length 0), (14, x.ours.val), (13, Zp o.b o.o o.l.length 1), (12, Zp o.b o.o o.l.length 0), (7, x.base.val), (6, Zp o.b o.o o.l.length 0), (5, Zp o.b o.o o.l.length 0)] _ [(0, ptr p 0), (2, str line), (3, Zp o.b o.o o.l.length 0), (43, Zp o.b o.o o.l.length 0), (44, Zp o.b o.o o.l.length 0), (45, Zp o.b o.o o.l.length 0), (46, Zp o.b o.o o.l.length 0), (47, Zp o.b o.o o.l.length 0), (48, Zp o.b o.o o.l.length 0), (49, Zp o.b o.o o.l.length 0), (50, x.base.val), (54, Zp o.b o.o o.l.length 0), (55, Zp o.b o.o o.l.length 0), (56, Zp o.b o.o o.l.length 1), (57, x.ours.val), (61, Zp o.b o.o o.l.length 0), (62, Zp o.b o.o o.l.length 0), (63, Zp o.b o.o o.l.length 2), (64, x.theirs.val), (68, Zp o.b o.o o.l.length 0), (69, Zp o.b o.o o.l.length 0), (70, Zp o.b o.o o.l.length 4), (71, x.out.val), (72, str line), (52, s52.val), (59, s59.val), (66, s66.val)] (s66.ok.and (s59.ok.and (s52.ok.and Mo.tt))) (Ow.star (Blk p [bv.val, ov.val, tv.val, i64 i, i64 j, i64 k, o.val, .bool true] 308) (Ow.star (Sv.own o 261) (Ow.star (Sv.own x.base 9) (Ow.star (Sv.own x.ours 9) (Ow.star (Sv.own x.theirs 9) (Ow.star (Sv.own x.out 9) (Ow.emp)))))))
  refine VG.fork (l := [10, 30]) (by kernel_rfl) rfl (fun i hi => ?_)
  simp only [List.mem_cons, List.not_mem_nil, or_false] at hi
  rcases hi with rfl | rfl
  ·
   refine VGo.of rfl ?_
   refine VL.app (s := x.base) (r := s52) Tryz.underlying82 app9 (by decide) rfl Fo.out (by rw [hs52]; simp; omega) (by rw [hs52]; simp; omega) (by decide) (fun s53 hs53 => ?_)
   exact VL.backE (D' := [(28, x.out.val), (27, Zp o.b o.o o.l.length 4), (26, Zp o.b o.o o.l.length 0), (21, x.theirs.val), (20, Zp o.b o.o o.l.length 2), (19, Zp o.b o.o o.l.length 0), (14, x.ours.val), (13, Zp o.b o.o o.l.length 1), (12, Zp o.b o.o o.l.length 0)]) (ks := [0, 2, 3, 43, 44, 45, 46, 54, 55, 56, 57, 61, 62, 63, 64, 68, 69, 70, 71, 72, 53, 59, 66]) (Pend.cons rfl (q_elfo (s := o) one82 rfl hx rfl) (Pend.cons rfl (q_field fa261_4 rfl) (Pend.cons rfl (q_nilCheck rfl) (Pend.cons rfl (q_elfo (s := o) one82 rfl hx rfl) (Pend.cons rfl (q_field fa261_2 rfl) (Pend.cons rfl (q_nilCheck rfl) (Pend.cons rfl (q_elfo (s := o) one82 rfl hx rfl) (Pend.cons rfl (q_field fa261_1 rfl) (Pend.cons rfl (q_nilCheck rfl) (Pend.nil)))))))))) (by kernel_rfl) (by kernel_rfl) rfl (key_9_10_16_23 (s53, s59, s66) ⟨(by rw [hs53, hs52]), hs59, hs66⟩)
  refine VGo.of rfl ?_
  refine VL.lit (α := Str) (xs := [.tmp 72]) (vs := [str line]) [line] Tryz.underlying82 lit9 (by decide) rfl rfl rfl rfl (by decide) (fun _ _ _ _ => trivial) (by decide) (fun s73 hs73 => ?_) (by decide)
  exact VL.backE (D' := [(28, x.out.val), (27, Zp o.b o.o o.l.length 4), (26, Zp o.b o.o o.l.length 0), (21, x.theirs.val), (20, Zp o.b o.o o.l.length 2), (19, Zp o.b o.o o.l.length 0), (14, x.ours.val), (13, Zp o.b o.o o.l.length 1), (12, Zp o.b o.o o.l.length 0), (7, x.base.val), (6, Zp o.b o.o o.l.length 0), (5, Zp o.b o.o o.l.length 0)]) (ks := [0, 2, 3, 43, 44, 45, 46, 47, 48, 49, 50, 54, 55, 56, 57, 61, 62, 63, 64, 68, 69, 70, 71, 52, 59, 66, 73]) (Pend.cons rfl (q_elfo (s := o) one82 rfl hx rfl) (Pend.cons rfl (q_field fa261_4 rfl) (Pend.cons rfl (q_nilCheck rfl) (Pend.cons rfl (q_elfo (s := o) one82 rfl hx rfl) (Pend.cons rfl (q_field fa261_2 rfl) (Pend.cons rfl (q_nilCheck rfl) (Pend.cons rfl (q_elfo (s := o) one82 rfl hx rfl) (Pend.cons rfl (q_field fa261_1 rfl) (Pend.cons rfl (q_nilCheck rfl) (Pend.cons rfl (q_elfo (s := o) one82 rfl hx rfl) (Pend.cons rfl (q_field fa261_0 rfl) (Pend.cons rfl (q_nilCheck rfl) (Pend.nil))))))))))))) (by kernel_rfl) (by kernel_rfl) rfl (key_9_16_23_30 (s52, s59, s66, s73) ⟨hs52, hs59, hs66, hs73⟩)
 refine VG.via (S := Sv Str × Sv Str × Sv Str) (fun sg => sg.1.l = [line] ∧ sg.2.1.l = [line] ∧ sg.2.2.l = [line]) 17 (fun sg => [(28, x.out.val), (27, Zp o.b o.o o.l.length 4), (26, Zp o.b o.o o.l.length 0), (21, x.theirs.val), (20, Zp o.b o.o o.l.length 2), (19, Zp o.b o.o o.l.length 0), (14, x.ours.val), (13, Zp o.b o.o o.l.length 1), (12, Zp o.b o.o o.l.length 0), (7, x.base.val), (6, Zp o.b o.o o.l.length 0), (5, Zp o.b o.o o.l.length 0)]) #[true, true, true, true, true, true, true, true, true, true, false, true, true, true, true, true, true, false, true, true, true, true, true, false, false, true, true, true, true, true, true, false, false, false, false, false, false, false, false, false, false, false, false, false] (fun sg => [(0, ptr p 0), (2, str line), (3, Zp o.b o.o o.l.length 0), (43, Zp o.b o.o o.l.length 0), (44, Zp o.b o.o o.l.length 0), (45, Zp o.b o.o o.l.length 0), (46, Zp o.b o.o o.l.length 0), (47, Zp o.b o.o o.l.length 0), (48, Zp o.b o.o o.l.length 0), (49, Zp o.b o.o o.l.length 0), (50, x.base.val), (54, Zp o.b o.o o.l.length 0), (55, Zp o.b o.o o.l.length 0), (56, Zp o.b o.o o.l.length 1), (57, x.ours.val), (61, Zp o.b o.o o.l.length 0), (62, Zp o.b o.o o.l.length 0), (63, Zp o.b o.o o.l.length 2), (64, x.theirs.val), (65, str line), (68, Zp o.b o.o o.l.length 0), (69, Zp o.b o.o o.l.length 0), (70, Zp o.b o.o o.l.length 4), (71, x.out.val), (52, sg.1.val), (59, sg.2.1.val), (73, sg.2.2.val)]) (fun sg => (sg.2.2.ok.and (sg.2.1.ok.and (sg.1.ok.and Mo.tt)))) (fun sg => Ow.star (Blk p [bv.val, ov.val, tv.val, i64 i, i64 j, i64 k, o.val, .bool true] 308) (Ow.star (Sv.own o 261) (Ow.star (Sv.own x.base 9) (Ow.star (Sv.own x.ours 9) (Ow.star (Sv.own x.theirs 9) (Ow.star (Sv.own x.out 9) (Ow.emp))))))) ?_ fun key_9_16_30 => ?_
 ·
  rintro ⟨s52, s59, s73⟩ ⟨hs52, hs59, hs73⟩
  try dsimp only at hs52 hs59 hs73
  show VG _ _ _ _ _ _ [(28, x.out.val), (27, Zp o.b o.o o.l.length 4), (26, Zp o.b o.o o.l.length 0), (21, x.theirs.val), (20, Zp o.b o.o o.l.length 2), (19, Zp o.b o.o o.l.length 0), (14, x.ours.val), (13, Zp o.b o.o o.l.length 1), (12, Zp o.b o.o o.l.length 0), (7, x.base.val), (6, Zp o.b o.o o.l.length 0), (5, Zp o.b o.o o.l.length 0)] _ [(0, ptr p 0), (2, str line), (3, Zp o.b o.o o.l.length 0), (43, Zp o.b o.o o.l.length 0), (44, Zp o.b o.o o.l.length 0), (45, Zp o.b o.o o.l.length 0), (46, Zp o.b o.o o.l.length 0), (47, Zp o.b o.o o.l.length 0), (48, Zp o.b o.o o.l.length 0), (49, Zp o.b o.o o.l.length 0), (50, x.base.val), (54, Zp o.b o.o o.l.length 0), (55, Zp o.b o.o o.l.length 0), (56, Zp o.b o.o o.l.length 1), (57, x.ours.val), (61, Zp o.b o.o o.l.length 0), (62, Zp o.b o.o o.l.length 0), (63, Zp o.b o.o o.l.length 2), (64, x.theirs.val), (65, str line), (68, Zp o.b o.o o.l.length 0), (69, Zp o.b o.o o.l.length 0), (70, Zp o.b o.o o.l.length 4), (71, x.out.val), (52, s52.val), (59, s59.val), (73, s73.val)] (s73.ok.and (s59.ok.and (s52.ok.and Mo.tt))) (Ow.star (Blk p [bv.val, ov.val, tv.val, i64 i, i64 j, i64 k, o.val, .bool true] 308) (Ow.star (Sv.own o 261) (Ow.star (Sv.own x.base 9) (Ow.star (Sv.own x.ours 9) (Ow.star (Sv.own x.theirs 9) (Ow.star (Sv.own x.out 9) (Ow.emp)))))))
  refine VG.fork (l := [10, 23]) (by kernel_rfl) rfl (fun i hi => ?_)
  simp only [List.mem_cons, List.not_mem_nil, or_false] at hi
  rcases hi with rfl | rfl
  ·
   refine VGo.of rfl ?_
   refine VL.app (s := x.base) (r := s52) Tryz.underlying82 app9 (by decide) rfl Fo.out (by rw [hs52]; simp; omega) (by rw [hs52]; simp; omega) (by decide) (fun s53 hs53 => ?_)
   exact VL.backE (D' := [(28, x.out.val), (27, Zp o.b o.o o.l.length 4), (26, Zp o.b o.o o.l.length 0), (21, x.theirs.val), (20, Zp o.b o.o o.l.length 2), (19, Zp o.b o.o o.l.length 0), (14, x.ours.val), (13, Zp o.b o.o o.l.length 1), (12, Zp o.b o.o o.l.length 0)]) (ks := [0, 2, 3, 43, 44, 45, 46, 54, 55, 56, 57, 61, 62, 63, 64, 65, 68, 69, 70, 71, 53, 59, 73]) (Pend.cons rfl (q_elfo (s := o) one82 rfl hx rfl) (Pend.cons rfl (q_field fa261_4 rfl) (Pend.cons rfl (q_nilCheck rfl) (Pend.cons rfl (q_elfo (s := o) one82 rfl hx rfl) (Pend.cons rfl (q_field fa261_2 rfl) (Pend.cons rfl (q_nilCheck rfl) (Pend.cons rfl (q_elfo (s := o) one82 rfl hx rfl) (Pend.cons rfl (q_field fa261_1 rfl) (Pend.cons rfl (q_nilCheck rfl) (Pend.nil)))))))))) (by kernel_rfl) (by kernel_rfl) rfl (key_9_10_16_30 (s53, s59, s73) ⟨(by rw [hs53, hs52]), hs59, hs73⟩)
  refine VGo.of rfl ?_
  refine VL.lit (α := Str) (xs := [.tmp 65]) (vs := [str line]) [line] Tryz.underlying82 lit9 (by decide) rfl rfl rfl rfl (by decide) (fun _ _ _ _ => trivial) (by decide) (fun s66 hs66 => ?_) (by decide)
  exact VL.backE (D' := [(28, x.out.val), (27, Zp o.b o.o o.l.length 4), (26, Zp o.b o.o o.l.length 0), (21, x.theirs.val), (20, Zp o.b o.o o.l.length 2), (19, Zp o.b o.o o.l.length 0), (14, x.ours.val), (13, Zp o.b o.o o.l.length 1), (12, Zp o.b o.o o.l.length 0), (7, x.base.val), (6, Zp o.b o.o o.l.length 0), (5, Zp o.b o.o o.l.length 0)]) (ks := [0, 2, 3, 43, 44, 45, 46, 47, 48, 49, 50, 54, 55, 56, 57, 61, 62, 63, 64, 68, 69, 70, 71, 52, 59, 66, 73]) (Pend.cons rfl (q_elfo (s := o) one82 rfl hx rfl) (Pend.cons rfl (q_field fa261_4 rfl) (Pend.cons rfl (q_nilCheck rfl) (Pend.cons rfl (q_elfo (s := o) one82 rfl hx rfl) (Pend.cons rfl (q_field fa261_2 rfl) (Pend.cons rfl (q_nilCheck rfl) (Pend.cons rfl (q_elfo (s := o) one82 rfl hx rfl) (Pend.cons rfl (q_field fa261_1 rfl) (Pend.cons rfl (q_nilCheck rfl) (Pend.cons rfl (q_elfo (s := o) one82 rfl hx rfl) (Pend.cons rfl (q_field fa261_0 rfl) (Pend.cons rfl (q_nilCheck rfl) (Pend.nil))))))))))))) (by kernel_rfl) (by kernel_rfl) rfl (key_9_16_23_30 (s52, s59, s66, s73) ⟨hs52, hs59, hs66, hs73⟩)
 refine VG.via (S := Sv Str × Sv Str × Sv Str) (fun sg => sg.1.l = [line] ∧ sg.2.1.l = [line] ∧ sg.2.2.l = [line]) 17 (fun sg => [(28, x.out.val), (27, Zp o.b o.o o.l.length 4), (26, Zp o.b o.o o.l.length 0), (21, x.theirs.val), (20, Zp o.b o.o o.l.length 2), (19, Zp o.b o.o o.l.length 0), (14, x.ours.val), (13, Zp o.b o.o o.l.length 1), (12, Zp o.b o.o o.l.length 0), (7, x.base.val), (6, Zp o.b o.o o.l.length 0), (5, Zp o.b o.o o.l.length 0)]) #[true, true, true, true, true, true, true, true, true, true, false, true, true, true, true, true, false, false, true, true, true, true, true, true, false, true, true, true, true, true, true, false, false, false, false, false, false, false, false, false, false, false, false, false] (fun sg => [(0, ptr p 0), (2, str line), (3, Zp o.b o.o o.l.length 0), (43, Zp o.b o.o o.l.length 0), (44, Zp o.b o.o o.l.length 0), (45, Zp o.b o.o o.l.length 0), (46, Zp o.b o.o o.l.length 0), (47, Zp o.b o.o o.l.length 0), (48, Zp o.b o.o o.l.length 0), (49, Zp o.b o.o o.l.length 0), (50, x.base.val), (54, Zp o.b o.o o.l.length 0), (55, Zp o.b o.o o.l.length 0), (56, Zp o.b o.o o.l.length 1), (57, x.ours.val), (58, str line), (61, Zp o.b o.o o.l.length 0), (62, Zp o.b o.o o.l.length 0), (63, Zp o.b o.o o.l.length 2), (64, x.theirs.val), (68, Zp o.b o.o o.l.length 0), (69, Zp o.b o.o o.l.length 0), (70, Zp o.b o.o o.l.length 4), (71, x.out.val), (52, sg.1.val), (66, sg.2.1.val), (73, sg.2.2.val)]) (fun sg => (sg.2.2.ok.and (sg.2.1.ok.and (sg.1.ok.and Mo.tt)))) (fun sg => Ow.star (Blk p [bv.val, ov.val, tv.val, i64 i, i64 j, i64 k, o.val, .bool true] 308) (Ow.star (Sv.own o 261) (Ow.star (Sv.own x.base 9) (Ow.star (Sv.own x.ours 9) (Ow.star (Sv.own x.theirs 9) (Ow.star (Sv.own x.out 9) (Ow.emp))))))) ?_ fun key_9_23_30 => ?_
 ·
  rintro ⟨s52, s66, s73⟩ ⟨hs52, hs66, hs73⟩
  try dsimp only at hs52 hs66 hs73
  show VG _ _ _ _ _ _ [(28, x.out.val), (27, Zp o.b o.o o.l.length 4), (26, Zp o.b o.o o.l.length 0), (21, x.theirs.val), (20, Zp o.b o.o o.l.length 2), (19, Zp o.b o.o o.l.length 0), (14, x.ours.val), (13, Zp o.b o.o o.l.length 1), (12, Zp o.b o.o o.l.length 0), (7, x.base.val), (6, Zp o.b o.o o.l.length 0), (5, Zp o.b o.o o.l.length 0)] _ [(0, ptr p 0), (2, str line), (3, Zp o.b o.o o.l.length 0), (43, Zp o.b o.o o.l.length 0), (44, Zp o.b o.o o.l.length 0), (45, Zp o.b o.o o.l.length 0), (46, Zp o.b o.o o.l.length 0), (47, Zp o.b o.o o.l.length 0), (48, Zp o.b o.o o.l.length 0), (49, Zp o.b o.o o.l.length 0), (50, x.base.val), (54, Zp o.b o.o o.l.length 0), (55, Zp o.b o.o o.l.length 0), (56, Zp o.b o.o o.l.length 1), (57, x.ours.val), (58, str line), (61, Zp o.b o.o o.l.length 0), (62, Zp o.b o.o o.l.length 0), (63, Zp o.b o.o o.l.length 2), (64, x.theirs.val), (68, Zp o.b o.o o.l.length 0), (69, Zp o.b o.o o.l.length 0), (70, Zp o.b o.o o.l.length 4), (71, x.out.val), (52, s52.val), (66, s66.val), (73, s73.val)] (s73.ok.and (s66.ok.and (s52.ok.and Mo.tt))) (Ow.star (Blk p [bv.val, ov.val, tv.val, i64 i, i64 j, i64 k, o.val, .bool true] 308) (Ow.star (Sv.own o 261) (Ow.star (Sv.own x.base 9) (Ow.star (Sv.own x.ours 9) (Ow.star (Sv.own x.theirs 9) (Ow.star (Sv.own x.out 9) (Ow.emp)))))))
  refine VG.fork (l := [10, 16]) (by kernel_rfl) rfl (fun i hi => ?_)
  simp only [List.mem_cons, List.not_mem_nil, or_false] at hi
  rcases hi with rfl | rfl
  ·
   refine VGo.of rfl ?_
   refine VL.app (s := x.base) (r := s52) Tryz.underlying82 app9 (by decide) rfl Fo.out (by rw [hs52]; simp; omega) (by rw [hs52]; simp; omega) (by decide) (fun s53 hs53 => ?_)
   exact VL.backE (D' := [(28, x.out.val), (27, Zp o.b o.o o.l.length 4), (26, Zp o.b o.o o.l.length 0), (21, x.theirs.val), (20, Zp o.b o.o o.l.length 2), (19, Zp o.b o.o o.l.length 0), (14, x.ours.val), (13, Zp o.b o.o o.l.length 1), (12, Zp o.b o.o o.l.length 0)]) (ks := [0, 2, 3, 43, 44, 45, 46, 54, 55, 56, 57, 58, 61, 62, 63, 64, 68, 69, 70, 71, 53, 66, 73]) (Pend.cons rfl (q_elfo (s := o) one82 rfl hx rfl) (Pend.cons rfl (q_field fa261_4 rfl) (Pend.cons rfl (q_nilCheck rfl) (Pend.cons rfl (q_elfo (s := o) one82 rfl hx rfl) (Pend.cons rfl (q_field fa261_2 rfl) (Pend.cons rfl (q_nilCheck rfl) (Pend.cons rfl (q_elfo (s := o) one82 rfl hx rfl) (Pend.cons rfl (q_field fa261_1 rfl) (Pend.cons rfl (q_nilCheck rfl) (Pend.nil)))))))))) (by kernel_rfl) (by kernel_rfl) rfl (key_9_10_23_30 (s53, s66, s73) ⟨(by rw [hs53, hs52]), hs66, hs73⟩)
  refine VGo.of rfl ?_
  refine VL.lit (α := Str) (xs := [.tmp 58]) (vs := [str line]) [line] Tryz.underlying82 lit9 (by decide) rfl rfl rfl rfl (by decide) (fun _ _ _ _ => trivial) (by decide) (fun s59 hs59 => ?_) (by decide)
  exact VL.backE (D' := [(28, x.out.val), (27, Zp o.b o.o o.l.length 4), (26, Zp o.b o.o o.l.length 0), (21, x.theirs.val), (20, Zp o.b o.o o.l.length 2), (19, Zp o.b o.o o.l.length 0), (14, x.ours.val), (13, Zp o.b o.o o.l.length 1), (12, Zp o.b o.o o.l.length 0), (7, x.base.val), (6, Zp o.b o.o o.l.length 0), (5, Zp o.b o.o o.l.length 0)]) (ks := [0, 2, 3, 43, 44, 45, 46, 47, 48, 49, 50, 54, 55, 56, 57, 61, 62, 63, 64, 68, 69, 70, 71, 52, 59, 66, 73]) (Pend.cons rfl (q_elfo (s := o) one82 rfl hx rfl) (Pend.cons rfl (q_field fa261_4 rfl) (Pend.cons rfl (q_nilCheck rfl) (Pend.cons rfl (q_elfo (s := o) one82 rfl hx rfl) (Pend.cons rfl (q_field fa261_2 rfl) (Pend.cons rfl (q_nilCheck rfl) (Pend.cons rfl (q_elfo (s := o) one82 rfl hx rfl) (Pend.cons rfl (q_field fa261_1 rfl) (Pend.cons rfl (q_nilCheck rfl) (Pend.cons rfl (q_elfo (s := o) one82 rfl hx rfl) (Pend.cons rfl (q_field fa261_0 rfl) (Pend.cons rfl (q_nilCheck rfl) (Pend.nil))))))))))))) (by kernel_rfl) (by kernel_rfl) rfl (key_9_16_23_30 (s52, s59, s66, s73) ⟨hs52, hs59, hs66, hs73⟩)
 refine VG.via (S := Sv Str × Sv Str × Sv Str) (fun sg => sg.1.l = [line] ∧ sg.2.1.l = [line] ∧ sg.2.2.l = [line]) 17 (fun sg => [(28, x.out.val), (27, Zp o.b o.o o.l.length 4), (26, Zp o.b o.o o.l.length 0), (21, x.theirs.val), (20, Zp o.b o.o o.l.length 2), (19, Zp o.b o.o o.l.length 0), (14, x.ours.val), (13, Zp o.b o.o o.l.length 1), (12, Zp o.b o.o o.l.length 0), (7, x.base.val), (6, Zp o.b o.o o.l.length 0), (5, Zp o.b o.o o.l.length 0)]) #[true, true, true, true, true, true, true, true, true, false, false, true, true, true, true, true, true, false, true, true, true, true, true, true, false, true, true, true, true, true, true, false, false, false, false, false, false, false, false, false, false, false, false, false] (fun sg => [(0, ptr p 0), (2, str line), (3, Zp o.b o.o o.l.length 0), (43, Zp o.b o.o o.l.length 0), (44, Zp o.b o.o o.l.length 0), (45, Zp o.b o.o o.l.length 0), (46, Zp o.b o.o o.l.length 0), (47, Zp o.b o.o o.l.length 0), (48, Zp o.b o.o o.l.length 0), (49, Zp o.b o.o o.l.length 0), (50, x.base.val), (51, str line), (54, Zp o.b o.o o.l.length 0), (55, Zp o.b o.o o.l.length 0), (56, Zp o.b o.o o.l.length 1), (57, x.ours.val), (61, Zp o.b o.o o.l.length 0), (62, Zp o.b o.o o.l.length 0), (63, Zp o.b o.o o.l.length 2), (64, x.theirs.val), (68, Zp o.b o.o o.l.length 0), (69, Zp o.b o.o o.l.length 0), (70, Zp o.b o.o o.l.length 4), (71, x.out.val), (59, sg.1.val), (66, sg.2.1.val), (73, sg.2.2.val)]) (fun sg => (sg.2.2.ok.and (sg.2.1.ok.and (sg.1.ok.and Mo.tt)))) (fun sg => Ow.star (Blk p [bv.val, ov.val, tv.val, i64 i, i64 j, i64 k, o.val, .bool true] 308) (Ow.star (Sv.own o 261) (Ow.star (Sv.own x.base 9) (Ow.star (Sv.own x.ours 9) (Ow.star (Sv.own x.theirs 9) (Ow.star (Sv.own x.out 9) (Ow.emp))))))) ?_ fun key_16_23_30 => ?_
 ·
  rintro ⟨s59, s66, s73⟩ ⟨hs59, hs66, hs73⟩
  try dsimp only at hs59 hs66 hs73
  show VG _ _ _ _ _ _ [(28, x.out.val), (27, Zp o.b o.o o.l.length 4), (26, Zp o.b o.o o.l.length 0), (21, x.theirs.val), (20, Zp o.b o.o o.l.length 2), (19, Zp o.b o.o o.l.length 0), (14, x.ours.val), (13, Zp o.b o.o o.l.length 1), (12, Zp o.b o.o o.l.length 0), (7, x.base.val), (6, Zp o.b o.o o.l.length 0), (5, Zp o.b o.o o.l.length 0)] _ [(0, ptr p 0), (2, str line), (3, Zp o.b o.o o.l.length 0), (43, Zp o.b o.o o.l.length 0), (44, Zp o.b o.o o.l.length 0), (45, Zp o.b o.o o.l.length 0), (46, Zp o.b o.o o.l.length 0), (47, Zp o.b o.o o.l.length 0), (48, Zp o.b o.o o.l.length 0), (49, Zp o.b o.o o.l.length 0), (50, x.base.val), (51, str line), (54, Zp o.b o.o o.l.length 0), (55, Zp o.b o.o o.l.length 0), (56, Zp o.b o.o o.l.length 1), (57, x.ours.val), (61, Zp o.b o.o o.l.length 0), (62, Zp o.b o.o o.l.length 0), (63, Zp o.b o.o o.l.length 2), (64, x.theirs.val), (68, Zp o.b o.o o.l.length 0), (69, Zp o.b o.o o.l.length 0), (70, Zp o.b o.o o.l.length 4), (71, x.out.val), (59, s59.val), (66, s66.val), (73, s73.val)] (s73.ok.and (s66.ok.and (s59.ok.and Mo.tt))) (Ow.star (Blk p [bv.val, ov.val, tv.val, i64 i, i64 j, i64 k, o.val, .bool true] 308) (Ow.star (Sv.own o 261) (Ow.star (Sv.own x.base 9) (Ow.star (Sv.own x.ours 9) (Ow.star (Sv.own x.theirs 9) (Ow.star (Sv.own x.out 9) (Ow.emp)))))))
  refine VG.fork (l := [9]) (by kernel_rfl) rfl (fun i hi => ?_)
  simp only [List.mem_cons, List.not_mem_nil, or_false] at hi
  rcases hi with rfl
  refine VGo.of rfl ?_
  refine VL.lit (α := Str) (xs := [.tmp 51]) (vs := [str line]) [line] Tryz.underlying82 lit9 (by decide) rfl rfl rfl rfl (by decide) (fun _ _ _ _ => trivial) (by decide) (fun s52 hs52 => ?_) (by decide)
  exact VL.backE (D' := [(28, x.out.val), (27, Zp o.b o.o o.l.length 4), (26, Zp o.b o.o o.l.length 0), (21, x.theirs.val), (20, Zp o.b o.o o.l.length 2), (19, Zp o.b o.o o.l.length 0), (14, x.ours.val), (13, Zp o.b o.o o.l.length 1), (12, Zp o.b o.o o.l.length 0), (7, x.base.val), (6, Zp o.b o.o o.l.length 0), (5, Zp o.b o.o o.l.length 0)]) (ks := [0, 2, 3, 43, 44, 45, 46, 47, 48, 49, 50, 54, 55, 56, 57, 61, 62, 63, 64, 68, 69, 70, 71, 52, 59, 66, 73]) (Pend.cons rfl (q_elfo (s := o) one82 rfl hx rfl) (Pend.cons rfl (q_field fa261_4 rfl) (Pend.cons rfl (q_nilCheck rfl) (Pend.cons rfl (q_elfo (s := o) one82 rfl hx rfl) (Pend.cons rfl (q_field fa261_2 rfl) (Pend.cons rfl (q_nilCheck rfl) (Pend.cons rfl (q_elfo (s := o) one82 rfl hx rfl) (Pend.cons rfl (q_field fa261_1 rfl) (Pend.cons rfl (q_nilCheck rfl) (Pend.cons rfl (q_elfo (s := o) one82 rfl hx rfl) (Pend.cons rfl (q_field fa261_0 rfl) (Pend.cons rfl (q_nilCheck rfl) (Pend.nil))))))))))))) (by kernel_rfl) (by kernel_rfl) rfl (key_9_16_23_30 (s52, s59, s66, s73) ⟨hs52, hs59, hs66, hs73⟩)
 refine VG.via (S := Sv Str) (fun sg => sg.l = x.base.l ++ [line]) 18 (fun sg => [(28, x.out.val), (27, Zp o.b o.o o.l.length 4), (26, Zp o.b o.o o.l.length 0), (21, x.theirs.val), (20, Zp o.b o.o o.l.length 2), (19, Zp o.b o.o o.l.length 0), (14, x.ours.val), (13, Zp o.b o.o o.l.length 1), (12, Zp o.b o.o o.l.length 0)]) #[true, true, true, true, true, true, true, true, true, true, true, true, true, true, true, true, false, false, true, true, true, true, true, false, false, true, true, true, true, true, false, false, false, false, false, false, false, false, false, false, false, false, false, false] (fun sg => [(0, ptr p 0), (2, str line), (3, Zp o.b o.o o.l.length 0), (43, Zp o.b o.o o.l.length 0), (44, Zp o.b o.o o.l.length 0), (45, Zp o.b o.o o.l.length 0), (46, Zp o.b o.o o.l.length 0), (54, Zp o.b o.o o.l.length 0), (55, Zp o.b o.o o.l.length 0), (56, Zp o.b o.o o.l.length 1), (57, x.ours.val), (58, str line), (61, Zp o.b o.o o.l.length 0), (62, Zp o.b o.o o.l.length 0), (63, Zp o.b o.o o.l.length 2), (64, x.theirs.val), (65, str line), (68, Zp o.b o.o o.l.length 0), (69, Zp o.b o.o o.l.length 0), (70, Zp o.b o.o o.l.length 4), (71, x.out.val), (72, str line), (53, sg.val)]) (fun sg => Mo.tt) (fun sg => Ow.star (Blk p [bv.val, ov.val, tv.val, i64 i, i64 j, i64 k, o.val, .bool true] 308) (Ow.star (Sv.own o 261) (Ow.star (Sv.own sg 9) (Ow.star (Sv.own x.ours 9) (Ow.star (Sv.own x.theirs 9) (Ow.star (Sv.own x.out 9) (Ow.emp))))))) ?_ fun key_9_10 => ?_
 ·
  rintro s53 hs53
  try dsimp only at hs53
  show VG _ _ _ _ _ _ [(28, x.out.val), (27, Zp o.b o.o o.l.length 4), (26, Zp o.b o.o o.l.length 0), (21, x.theirs.val), (20, Zp o.b o.o o.l.length 2), (19, Zp o.b o.o o.l.length 0), (14, x.ours.val), (13, Zp o.b o.o o.l.length 1), (12, Zp o.b o.o o.l.length 0)] _ [(0, ptr p 0), (2, str line), (3, Zp o.b o.o o.l.length 0), (43, Zp o.b o.o o.l.length 0), (44, Zp o.b o.o o.l.length 0), (45, Zp o.b o.o o.l.length 0), (46, Zp o.b o.o o.l.length 0), (54, Zp o.b o.o o.l.length 0), (55, Zp o.b o.o o.l.length 0), (56, Zp o.b o.o o.l.length 1), (57, x.ours.val), (58, str line), (61, Zp o.b o.o o.l.length 0), (62, Zp o.b o.o o.l.length 0), (63, Zp o.b o.o o.l.length 2), (64, x.theirs.val), (65, str line), (68, Zp o.b o.o o.l.length 0), (69, Zp o.b o.o o.l.length 0), (70, Zp o.b o.o o.l.length 4), (71, x.out.val), (72, str line), (53, s53.val)] Mo.tt (Ow.star (Blk p [bv.val, ov.val, tv.val, i64 i, i64 j, i64 k, o.val, .bool true] 308) (Ow.star (Sv.own o 261) (Ow.star (Sv.own s53 9) (Ow.star (Sv.own x.ours 9) (Ow.star (Sv.own x.theirs 9) (Ow.star (Sv.own x.out 9) (Ow.emp)))))))
  refine VG.fork (l := [16, 23, 30]) (by kernel_rfl) rfl (fun i hi => ?_)
  simp only [List.mem_cons, List.not_mem_nil, or_false] at hi
  rcases hi with rfl | rfl | rfl
  ·
   refine VGo.of rfl ?_
   refine VL.lit (α := Str) (xs := [.tmp 58]) (vs := [str line]) [line] Tryz.underlying82 lit9 (by decide) rfl rfl rfl rfl (by decide) (fun _ _ _ _ => trivial) (by decide) (fun s59 hs59 => ?_) (by decide)
   exact VL.backE (D' := [(28, x.out.val), (27, Zp o.b o.o o.l.length 4), (26, Zp o.b o.o o.l.length 0), (21, x.theirs.val), (20, Zp o.b o.o o.l.length 2), (19, Zp o.b o.o o.l.length 0), (14, x.ours.val), (13, Zp o.b o.o o.l.length 1), (12, Zp o.b o.o o.l.length 0)]) (ks := [0, 2, 3, 43, 44, 45, 46, 54, 55, 56, 57, 61, 62, 63, 64, 65, 68, 69, 70, 71, 72, 53, 59]) (Pend.cons rfl (q_elfo (s := o) one82 rfl hx rfl) (Pend.cons rfl (q_field fa261_4 rfl) (Pend.cons rfl (q_nilCheck rfl) (Pend.cons rfl (q_elfo (s := o) one82 rfl hx rfl) (Pend.cons rfl (q_field fa261_2 rfl) (Pend.cons rfl (q_nilCheck rfl) (Pend.cons rfl (q_elfo (s := o) one82 rfl hx rfl) (Pend.cons rfl (q_field fa261_1 rfl) (Pend.cons rfl (q_nilCheck rfl) (Pend.nil)))))))))) (by kernel_rfl) (by kernel_rfl) rfl (key_9_10_16 (s53, s59) ⟨hs53, hs59⟩)
  ·
   refine VGo.of rfl ?_
   refine VL.lit (α := Str) (xs := [.tmp 65]) (vs := [str line]) [line] Tryz.underlying82 lit9 (by decide) rfl rfl rfl rfl (by decide) (fun _ _ _ _ => trivial) (by decide) (fun s66 hs66 => ?_) (by decide)
   exact VL.backE (D' := [(28, x.out.val), (27, Zp o.b o.o o.l.length 4), (26, Zp o.b o.o o.l.length 0), (21, x.theirs.val), (20, Zp o.b o.o o.l.length 2), (19, Zp o.b o.o o.l.length 0), (14, x.ours.val), (13, Zp o.b o.o o.l.length 1), (12, Zp o.b o.o o.l.length 0)]) (ks := [0, 2, 3, 43, 44, 45, 46, 54, 55, 56, 57, 58, 61, 62, 63, 64, 68, 69, 70, 71, 72, 53, 66]) (Pend.cons rfl (q_elfo (s := o) one82 rfl hx rfl) (Pend.cons rfl (q_field fa261_4 rfl) (Pend.cons rfl (q_nilCheck rfl) (Pend.cons rfl (q_elfo (s := o) one82 rfl hx rfl) (Pend.cons rfl (q_field fa261_2 rfl) (Pend.cons rfl (q_nilCheck rfl) (Pend.cons rfl (q_elfo (s := o) one82 rfl hx rfl) (Pend.cons rfl (q_field fa261_1 rfl) (Pend.cons rfl (q_nilCheck rfl) (Pend.nil)))))))))) (by kernel_rfl) (by kernel_rfl) rfl (key_9_10_23 (s53, s66) ⟨hs53, hs66⟩)
  refine VGo.of rfl ?_
  refine VL.lit (α := Str) (xs := [.tmp 72]) (vs := [str line]) [line] Tryz.underlying82 lit9 (by decide) rfl rfl rfl rfl (by decide) (fun _ _ _ _ => trivial) (by decide) (fun s73 hs73 => ?_) (by decide)
  exact VL.backE (D' := [(28, x.out.val), (27, Zp o.b o.o o.l.length 4), (26, Zp o.b o.o o.l.length 0), (21, x.theirs.val), (20, Zp o.b o.o o.l.length 2), (19, Zp o.b o.o o.l.length 0), (14, x.ours.val), (13, Zp o.b o.o o.l.length 1), (12, Zp o.b o.o o.l.length 0)]) (ks := [0, 2, 3, 43, 44, 45, 46, 54, 55, 56, 57, 58, 61, 62, 63, 64, 65, 68, 69, 70, 71, 53, 73]) (Pend.cons rfl (q_elfo (s := o) one82 rfl hx rfl) (Pend.cons rfl (q_field fa261_4 rfl) (Pend.cons rfl (q_nilCheck rfl) (Pend.cons rfl (q_elfo (s := o) one82 rfl hx rfl) (Pend.cons rfl (q_field fa261_2 rfl) (Pend.cons rfl (q_nilCheck rfl) (Pend.cons rfl (q_elfo (s := o) one82 rfl hx rfl) (Pend.cons rfl (q_field fa261_1 rfl) (Pend.cons rfl (q_nilCheck rfl) (Pend.nil)))))))))) (by kernel_rfl) (by kernel_rfl) rfl (key_9_10_30 (s53, s73) ⟨hs53, hs73⟩)
 refine VG.via (S := Sv Str × Sv Str) (fun sg => sg.1.l = [line] ∧ sg.2.l = [line]) 18 (fun sg => [(28, x.out.val), (27, Zp o.b o.o o.l.length 4), (26, Zp o.b o.o o.l.length 0), (21, x.theirs.val), (20, Zp o.b o.o o.l.length 2), (19, Zp o.b o.o o.l.length 0), (14, x.ours.val), (13, Zp o.b o.o o.l.length 1), (12, Zp o.b o.o o.l.length 0), (7, x.base.val), (6, Zp o.b o.o o.l.length 0), (5, Zp o.b o.o o.l.length 0)]) #[true, true, true, true, true, true, true, true, true, true, false, true, true, true, true, true, true, false, true, true, true, true, true, false, false, true, true, true, true, true, false, false, false, false, false, false, false, false, false, false, false, false, false, false] (fun sg => [(0, ptr p 0), (2, str line), (3, Zp o.b o.o o.l.length 0), (43, Zp o.b o.o o.l.length 0), (44, Zp o.b o.o o.l.length 0), (45, Zp o.b o.o o.l.length 0), (46, Zp o.b o.o o.l.length 0), (47, Zp o.b o.o o.l.length 0), (48, Zp o.b o.o o.l.length 0), (49, Zp o.b o.o o.l.length 0), (50, x.base.val), (54, Zp o.b o.o o.l.length 0), (55, Zp o.b o.o o.l.length 0), (56, Zp o.b o.o o.l.length 1), (57, x.ours.val), (61, Zp o.b o.o o.l.length 0), (62, Zp o.b o.o o.l.length 0), (63, Zp o.b o.o o.l.length 2), (64, x.theirs.val), (65, str line), (68, Zp o.b o.o o.l.length 0), (69, Zp o.b o.o o.l.length 0), (70, Zp o.b o.o o.l.length 4), (71, x.out.val), (72, str line), (52, sg.1.val), (59, sg.2.val)]) (fun sg => (sg.2.ok.and (sg.1.ok.and Mo.tt))) (fun sg => Ow.star (Blk p [bv.val, ov.val, tv.val, i64 i, i64 j, i64 k, o.val, .bool true] 308) (Ow.star (Sv.own o 261) (Ow.star (Sv.own x.base 9) (Ow.star (Sv.own x.ours 9) (Ow.star (Sv.own x.theirs 9) (Ow.star (Sv.own x.out 9) (Ow.emp))))))) ?_ fun key_9_16 => ?_
 ·
  rintro ⟨s52, s59⟩ ⟨hs52, hs59⟩
  try dsimp only at hs52 hs59
  show VG _ _ _ _ _ _ [(28, x.out.val), (27, Zp o.b o.o o.l.length 4), (26, Zp o.b o.o o.l.length 0), (21, x.theirs.val), (20, Zp o.b o.o o.l.length 2), (19, Zp o.b o.o o.l.length 0), (14, x.ours.val), (13, Zp o.b o.o o.l.length 1), (12, Zp o.b o.o o.l.length 0), (7, x.base.val), (6, Zp o.b o.o o.l.length 0), (5, Zp o.b o.o o.l.length 0)] _ [(0, ptr p 0), (2, str line), (3, Zp o.b o.o o.l.length 0), (43, Zp o.b o.o o.l.length 0), (44, Zp o.b o.o o.l.length 0), (45, Zp o.b o.o o.l.length 0), (46, Zp o.b o.o o.l.length 0), (47, Zp o.b o.o o.l.length 0), (48, Zp o.b o.o o.l.length 0), (49, Zp o.b o.o o.l.length 0), (50, x.base.val), (54, Zp o.b o.o o.l.length 0), (55, Zp o.b o.o o.l.length 0), (56, Zp o.b o.o o.l.length 1), (57, x.ours.val), (61, Zp o.b o.o o.l.length 0), (62, Zp o.b o.o o.l.length 0), (63, Zp o.b o.o o.l.length 2), (64, x.theirs.val), (65, str line), (68, Zp o.b o.o o.l.length 0), (69, Zp o.b o.o o.l.length 0), (70, Zp o.b o.o o.l.length 4), (71, x.out.val), (72, str line), (52, s52.val), (59, s59.val)] (s59.ok.and (s52.ok.and Mo.tt)) (Ow.star (Blk p [bv.val, ov.val, tv.val, i64 i, i64 j, i64 k, o.val, .bool true] 308) (Ow.star (Sv.own o 261) (Ow.star (Sv.own x.base 9) (Ow.star (Sv.own x.ours 9) (Ow.star (Sv.own x.theirs 9) (Ow.star (Sv.own x.out 9) (Ow.emp)))))))
  refine VG.fork (l := [10, 23, 30]) (by kernel_rfl) rfl (fun i hi => ?_)
  simp only [List.mem_cons, List.not_mem_nil, or_false] at hi
  rcases hi with rfl | rfl | rfl
  ·
   refine VGo.of rfl ?_
   refine VL.app (s := x.base) (r := s52) Tryz.underlying82 app9 (by decide) rfl Fo.out (by rw [hs52]; simp; omega) (by rw [hs52]; simp; omega) (by decide) (fun s53 hs53 => ?_)
   exact VL.backE (D' := [(28, x.out.val), (27, Zp o.b o.o o.l.length 4), (26, Zp o.b o.o o.l.length 0), (21, x.theirs.val), (20, Zp o.b o.o o.l.length 2), (19, Zp o.b o.o o.l.length 0), (14, x.ours.val), (13, Zp o.b o.o o.l.length 1), (12, Zp o.b o.o o.l.length 0)]) (ks := [0, 2, 3, 43, 44, 45, 46, 54, 55, 56, 57, 61, 62, 63, 64, 65, 68, 69, 70, 71, 72, 53, 59]) (Pend.cons rfl (q_elfo (s := o) one82 rfl hx rfl) (Pend.cons rfl (q_field fa261_4 rfl) (Pend.cons rfl (q_nilCheck rfl) (Pend.cons rfl (q_elfo (s := o) one82 rfl hx rfl) (Pend.cons rfl (q_field fa261_2 rfl) (Pend.cons rfl (q_nilCheck rfl) (Pend.cons rfl (q_elfo (s := o) one82 rfl hx rfl) (Pend.cons rfl (q_field fa261_1 rfl) (Pend.cons rfl (q_nilCheck rfl) (Pend.nil)))))))))) (by kernel_rfl) (by kernel_rfl) rfl (key_9_10_16 (s53, s59) ⟨(by rw [hs53, hs52]), hs59⟩)
  ·
   refine VGo.of rfl ?_
   refine VL.lit (α := Str) (xs := [.tmp 65]) (vs := [str line]) [line] Tryz.underlying82 lit9 (by decide) rfl rfl rfl rfl (by decide) (fun _ _ _ _ => trivial) (by decide) (fun s66 hs66 => ?_) (by decide)
   exact VL.backE (D' := [(28, x.out.val), (27, Zp o.b o.o o.l.length 4), (26, Zp o.b o.o o.l.length 0), (21, x.theirs.val), (20, Zp o.b o.o o.l.length 2), (19, Zp o.b o.o o.l.length 0), (14, x.ours.val), (13, Zp o.b o.o o.l.length 1), (12, Zp o.b o.o o.l.length 0), (7, x.base.val), (6, Zp o.b o.o o.l.length 0), (5, Zp o.b o.o o.l.length 0)]) (ks := [0, 2, 3, 43, 44, 45, 46, 47, 48, 49, 50, 54, 55, 56, 57, 61, 62, 63, 64, 68, 69, 70, 71, 72, 52, 59, 66]) (Pend.cons rfl (q_elfo (s := o) one82 rfl hx rfl) (Pend.cons rfl (q_field fa261_4 rfl) (Pend.cons rfl (q_nilCheck rfl) (Pend.cons rfl (q_elfo (s := o) one82 rfl hx rfl) (Pend.cons rfl (q_field fa261_2 rfl) (Pend.cons rfl (q_nilCheck rfl) (Pend.cons rfl (q_elfo (s := o) one82 rfl hx rfl) (Pend.cons rfl (q_field fa261_1 rfl) (Pend.cons rfl (q_nilCheck rfl) (Pend.cons rfl (q_elfo (s := o) one82 rfl hx rfl) (Pend.cons rfl (q_field fa261_0 rfl) (Pend.cons rfl (q_nilCheck rfl) (Pend.nil))))))))))))) (by kernel_rfl) (by kernel_rfl) rfl (key_9_16_23 (s52, s59, s66) ⟨hs52, hs59, hs66⟩)
  refine VGo.of rfl ?_
  refine VL.lit (α := Str) (xs := [.tmp 72]) (vs := [str line]) [line] Tryz.underlying82 lit9 (by decide) rfl rfl rfl rfl (by decide) (fun _ _ _ _ => trivial) (by decide) (fun s73 hs73 => ?_) (by decide)
  exact VL.backE (D' := [(28, x.out.val), (27, Zp o.b o.o o.l.length 4), (26, Zp o.b o.o o.l.length 0), (21, x.theirs.val), (20, Zp o.b o.o o.l.length 2), (19, Zp o.b o.o o.l.length 0), (14, x.ours.val), (13, Zp o.b o.o o.l.length 1), (12, Zp o.b o.o o.l.length 0), (7, x.base.val), (6, Zp o.b o.o o.l.length 0), (5, Zp o.b o.o o.l.length 0)]) (ks := [0, 2, 3, 43, 44, 45, 46, 47, 48, 49, 50, 54, 55, 56, 57, 61, 62, 63, 64, 65, 68, 69, 70, 71, 52, 59, 73]) (Pend.cons rfl (q_elfo (s := o) one82 rfl hx rfl) (Pend.cons rfl (q_field fa261_4 rfl) (Pend.cons rfl (q_nilCheck rfl) (Pend.cons rfl (q_elfo (s := o) one82 rfl hx rfl) (Pend.cons rfl (q_field fa261_2 rfl) (Pend.cons rfl (q_nilCheck rfl) (Pend.cons rfl (q_elfo (s := o) one82 rfl hx rfl) (Pend.cons rfl (q_field fa261_1 rfl) (Pend.cons rfl (q_nilCheck rfl) (Pend.cons rfl (q_elfo (s := o) one82 rfl hx rfl) (Pend.cons rfl (q_field fa261_0 rfl) (Pend.cons rfl (q_nilCheck rfl) (Pend.nil))))))))))))) (by kernel_rfl) (by kernel_rfl) rfl (key_9_16_30 (s52, s59, s73) ⟨hs52, hs59, hs73⟩)
 refine VG.via (S := Sv Str × Sv Str) (fun sg => sg.1.l = [line] ∧ sg.2.l = [line]) 18 (fun sg => [(28, x.out.val), (27, Zp o.b o.o o.l.length 4), (26, Zp o.b o.o o.l.length 0), (21, x.theirs.val), (20, Zp o.b o.o o.l.length 2), (19, Zp o.b o.o o.l.length 0), (14, x.ours.val), (13, Zp o.b o.o o.l.length 1), (12, Zp o.b o.o o.l.length 0), (7, x.base.val), (6, Zp o.b o.o o.l.length 0), (5, Zp o.b o.o o.l.length 0)]) #[true, true, true, true, true, true, true, true, true, true, false, true, true, true, true, true, false, false, true, true, true, true, true, true, false, true, true, true, true, true, false, false, false, false, false, false, false, false, false, false, false, false, false, false] (fun sg => [(0, ptr p 0), (2, str line), (3, Zp o.b o.o o.l.length 0), (43, Zp o.b o.o o.l.length 0), (44, Zp o.b o.o o.l.length 0), (45, Zp o.b o.o o.l.length 0), (46, Zp o.b o.o o.l.length 0), (47, Zp o.b o.o o.l.length 0), (48, Zp o.b o.o o.l.length 0), (49, Zp o.b o.o o.l.length 0), (50, x.base.val), (54, Zp o.b o.o o.l.length 0), (55, Zp o.b o.o o.l.length 0), (56, Zp o.b o.o o.l.length 1), (57, x.ours.val), (58, str line), (61, Zp o.b o.o o.l.length 0), (62, Zp o.b o.o o.l.length 0), (63, Zp o.b o.o o.l.length 2), (64, x.theirs.val), (68, Zp o.b o.o o.l.length 0), (69, Zp o.b o.o o.l.length 0), (70, Zp o.b o.o o.l.length 4), (71, x.out.val), (72, str line), (52, sg.1.val), (66, sg.2.val)]) (fun sg => (sg.2.ok.and (sg.1.ok.and Mo.tt))) (fun sg => Ow.star (Blk p [bv.val, ov.val, tv.val, i64 i, i64 j, i64 k, o.val, .bool true] 308) (Ow.star (Sv.own o 261) (Ow.star (Sv.own x.base 9) (Ow.star (Sv.own x.ours 9) (Ow.star (Sv.own x.theirs 9) (Ow.star (Sv.own x.out 9) (Ow.emp))))))) ?_ fun key_9_23 => ?_
 ·
  rintro ⟨s52, s66⟩ ⟨hs52, hs66⟩
  try dsimp only at hs52 hs66
  show VG _ _ _ _ _ _ [(28, x.out.val), (27, Zp o.b o.o o.l.length 4), (26, Zp o.b o.o o.l.length 0), (21, x.theirs.val), (20, Zp o.b o.o o.l.length 2), (19, Zp o.b o.o o.l.length 0), (14, x.ours.val), (13, Zp o.b o.o o.l.length 1), (12, Zp o.b o.o o.l.length 0), (7, x.base.val), (6, Zp o.b o.o o.l.length 0), (5, Zp o.b o.o o.l.length 0)] _ [(0, ptr p 0), (2, str line), (3, Zp o.b o.o o.l.length 0), (43, Zp o.b o.o o.l.length 0), (44, Zp o.b o.o o.l.length 0), (45, Zp o.b o.o o.l.length 0), (46, Zp o.b o.o o.l.length 0), (47, Zp o.b o.o o.l.length 0), (48, Zp o.b o.o o.l.length 0), (49, Zp o.b o.o o.l.length 0), (50, x.base.val), (54, Zp o.b o.o o.l.length 0), (55, Zp o.b o.o o.l.length 0), (56, Zp o.b o.o o.l.length 1), (57, x.ours.val), (58, str line), (61, Zp o.b o.o o.l.length 0), (62, Zp o.b o.o o.l.length 0), (63, Zp o.b o.o o.l.length 2), (64, x.theirs.val), (68, Zp o.b o.o o.l.length 0), (69, Zp o.b o.o o.l.length 0), (70, Zp o.b o.o o.l.length 4), (71, x.out.val), (72, str line), (52, s52.val), (66, s66.val)] (s66.ok.and (s52.ok.and Mo.tt)) (Ow.star (Blk p [bv.val, ov.val, tv.val, i64 i, i64 j, i64 k, o.val, .bool true] 308) (Ow.star (Sv.own o 261) (Ow.star (Sv.own x.base 9) (Ow.star (Sv.own x.ours 9) (Ow.star (Sv.own x.theirs 9) (Ow.star (Sv.own x.out 9) (Ow.emp)))))))
  refine VG.fork (l := [10, 16, 30]) (by kernel_rfl) rfl (fun i hi => ?_)
  simp only [List.mem_cons, List.not_mem_nil, or_false] at hi
  rcases hi with rfl | rfl | rfl
  ·
   refine VGo.of rfl ?_
   refine VL.app (s := x.base) (r := s52) Tryz.underlying82 app9 (by decide) rfl Fo.out (by rw [hs52]; simp; omega) (by rw [hs52]; simp; omega) (by decide) (fun s53 hs53 => ?_)
   exact VL.backE (D' := [(28, x.out.val), (27, Zp o.b o.o o.l.length 4), (26, Zp o.b o.o o.l.length 0), (21, x.theirs.val), (20, Zp o.b o.o o.l.length 2), (19, Zp o.b o.o o.l.length 0), (14, x.ours.val), (13, Zp o.b o.o o.l.length 1), (12, Zp o.b o.o o.l.length 0)]) (ks := [0, 2, 3, 43, 44, 45, 46, 54, 55, 56, 57, 58, 61, 62, 63, 64, 68, 69, 70, 71, 72, 53, 66]) (Pend.cons rfl (q_elfo (s := o) one82 rfl hx rfl) (Pend.cons rfl (q_field fa261_4 rfl) (Pend.cons rfl (q_nilCheck rfl) (Pend.cons rfl (q_elfo (s := o) one82 rfl hx rfl) (Pend.cons rfl (q_field fa261_2 rfl) (Pend.cons rfl (q_nilCheck rfl) (Pend.cons rfl (q_elfo (s := o) one82 rfl hx rfl) (Pend.cons rfl (q_field fa261_1 rfl) (Pend.cons rfl (q_nilCheck rfl) (Pend.nil)))))))))) (by kernel_rfl) (by kernel_rfl) rfl (key_9_10_23 (s53, s66) ⟨(by rw [hs53, hs52]), hs66⟩)
  ·
   refine VGo.of rfl ?_
   refine VL.lit (α := Str) (xs := [.tmp 58]) (vs := [str line]) [line] Tryz.underlying82 lit9 (by decide) rfl rfl rfl rfl (by decide) (fun _ _ _ _ => trivial) (by decide) (fun s59 hs59 => ?_) (by decide)
   exact VL.backE (D' := [(28, x.out.val), (27, Zp o.b o.o o.l.length 4), (26, Zp o.b o.o o.l.length 0), (21, x.theirs.val), (20, Zp o.b o.o o.l.length 2), (19, Zp o.b o.o o.l.length 0), (14, x.ours.val), (13, Zp o.b o.o o.l.length 1), (12, Zp o.b o.o o.l.length 0), (7, x.base.val), (6, Zp o.b o.o o.l.length 0), (5, Zp o.b o.o o.l.length 0)]) (ks := [0, 2, 3, 43, 44, 45, 46, 47, 48, 49, 50, 54, 55, 56, 57, 61, 62, 63, 64, 68, 69, 70, 71, 72, 52, 59, 66]) (Pend.cons rfl (q_elfo (s := o) one82 rfl hx rfl) (Pend.cons rfl (q_field fa261_4 rfl) (Pend.cons rfl (q_nilCheck rfl) (Pend.cons rfl (q_elfo (s := o) one82 rfl hx rfl) (Pend.cons rfl (q_field fa261_2 rfl) (Pend.cons rfl (q_nilCheck rfl) (Pend.cons rfl (q_elfo (s := o) one82 rfl hx rfl) (Pend.cons rfl (q_field fa261_1 rfl) (Pend.cons rfl (q_nilCheck rfl) (Pend.cons rfl (q_elfo (s := o) one82 rfl hx rfl) (Pend.cons rfl (q_field fa261_0 rfl) (Pend.cons rfl (q_nilCheck rfl) (Pend.nil))))))))))))) (by kernel_rfl) (by kernel_rfl) rfl (key_9_16_23 (s52, s59, s66) ⟨hs52, hs59, hs66⟩)
  refine VGo.of rfl ?_
  refine VL.lit (α := Str) (xs := [.tmp 72]) (vs := [str line]) [line] Tryz.underlying82 lit9 (by decide) rfl rfl rfl rfl (by decide) (fun _ _ _ _ => trivial) (by decide) (fun s73 hs73 => ?_) (by decide)
  exact VL.backE (D' := [(28, x.out.val), (27, Zp o.b o.o o.l.length 4), (26, Zp o.b o.o o.l.length 0), (21, x.theirs.val), (20, Zp o.b o.o o.l.length 2), (19, Zp o.b o.o o.l.length 0), (14, x.ours.val), (13, Zp o.b o.o o.l.length 1), (12, Zp o.b o.o o.l.length 0), (7, x.base.val), (6, Zp o.b o.o o.l.length 0), (5, Zp o.b o.o o.l.length 0)]) (ks := [0, 2, 3, 43, 44, 45, 46, 47, 48, 49, 50, 54, 55, 56, 57, 58, 61, 62, 63, 64, 68, 69, 70, 71, 52, 66, 73]) (Pend.cons rfl (q_elfo (s := o) one82 rfl hx rfl) (Pend.cons rfl (q_field fa261_4 rfl) (Pend.cons rfl (q_nilCheck rfl) (Pend.cons rfl (q_elfo (s := o) one82 rfl hx rfl) (Pend.cons rfl (q_field fa261_2 rfl) (Pend.cons rfl (q_nilCheck rfl) (Pend.cons rfl (q_elfo (s := o) one82 rfl hx rfl) (Pend.cons rfl (q_field fa261_1 rfl) (Pend.cons rfl (q_nilCheck rfl) (Pend.cons rfl (q_elfo (s := o) one82 rfl hx rfl) (Pend.cons rfl (q_field fa261_0 rfl) (Pend.cons rfl (q_nilCheck rfl) (Pend.nil))))))))))))) (by kernel_rfl) (by kernel_rfl) rfl (key_9_23_30 (s52, s66, s73) ⟨hs52, hs66, hs73⟩)
 refine VG.via (S := Sv Str × Sv Str) (fun sg => sg.1.l = [line] ∧ sg.2.l = [line]) 18 (fun sg => [(28, x.out.val), (27, Zp o.b o.o o.l.length 4), (26, Zp o.b o.o o.l.length 0), (21, x.theirs.val), (20, Zp o.b o.o o.l.length 2), (19, Zp o.b o.o o.l.length 0), (14, x.ours.val), (13, Zp o.b o.o o.l.length 1), (12, Zp o.b o.o o.l.length 0), (7, x.base.val), (6, Zp o.b o.o o.l.length 0), (5, Zp o.b o.o o.l.length 0)]) #[true, true, true, true, true, true, true, true, true, true, false, true, true, true, true, true, false, false, true, true, true, true, true, false, false, true, true, true, true, true, true, false, false, false, false, false, false, false, false, false, false, false, false, false] (fun sg => [(0, ptr p 0), (2, str line), (3, Zp o.b o.o o.l.length 0), (43, Zp o.b o.o o.l.length 0), (44, Zp o.b o.o o.l.length 0), (45, Zp o.b o.o o.l.length 0), (46, Zp o.b o.o o.l.length 0), (47, Zp o.b o.o o.l.length 0), (48, Zp o.b o.o o.l.length 0), (49, Zp o.b o.o o.l.length 0), (50, x.base.val), (54, Zp o.b o.o o.l.length 0), (55, Zp o.b o.o o.l.length 0), (56, Zp o.b o.o o.l.length 1), (57, x.ours.val), (58, str line), (61, Zp o.b o.o o.l.length 0), (62, Zp o.b o.o o.l.length 0), (63, Zp o.b o.o o.l.length 2), (64, x.theirs.val), (65, str line), (68, Zp o.b o.o o.l.length 0), (69, Zp o.b o.o o.l.length 0), (70, Zp o.b o.o o.l.length 4), (71, x.out.val), (52, sg.1.val), (73, sg.2.val)]) (fun sg => (sg.2.ok.and (sg.1.ok.and Mo.tt))) (fun sg => Ow.star (Blk p [bv.val, ov.val, tv.val, i64 i, i64 j, i64 k, o.val, .bool true] 308) (Ow.star (Sv.own o 261) (Ow.star (Sv.own x.base 9) (Ow.star (Sv.own x.ours 9) (Ow.star (Sv.own x.theirs 9) (Ow.star (Sv.own x.out 9) (Ow.emp))))))) ?_ fun key_9_30 => ?_
 ·
  rintro ⟨s52, s73⟩ ⟨hs52, hs73⟩
  try dsimp only at hs52 hs73
  show VG _ _ _ _ _ _ [(28, x.out.val), (27, Zp o.b o.o o.l.length 4), (26, Zp o.b o.o o.l.length 0), (21, x.theirs.val), (20, Zp o.b o.o o.l.length 2), (19, Zp o.b o.o o.l.length 0), (14, x.ours.val), (13, Zp o.b o.o o.l.length 1), (12, Zp o.b o.o o.l.length 0), (7, x.base.val), (6, Zp o.b o.o o.l.length 0), (5, Zp o.b o.o o.l.length 0)] _ [(0, ptr p 0), (2, str line), (3, Zp o.b o.o o.l.length 0), (43, Zp o.b o.o o.l.length 0), (44, Zp o.b o.o o.l.length 0), (45, Zp o.b o.o o.l.length 0), (46, Zp o.b o.o o.l.length 0), (47, Zp o.b o.o o.l.length 0), (48, Zp o.b o.o o.l.length 0), (49, Zp o.b o.o o.l.length 0), (50, x.base.val), (54, Zp o.b o.o o.l.length 0), (55, Zp o.b o.o o.l.length 0), (56, Zp o.b o.o o.l.length 1), (57, x.ours.val), (58, str line), (61, Zp o.b o.o o.l.length 0), (62, Zp o.b o.o o.l.length 0), (63, Zp o.b o.o o.l.length 2), (64, x.theirs.val), (65, str line), (68, Zp o.b o.o o.l.length 0), (69, Zp o.b o.o o.l.length 0), (70, Zp o.b o.o o.l.length 4), (71, x.out.val), (52, s52.val), (73, s73.val)] (s73.ok.and (s52.ok.and Mo.tt)) (Ow.star (Blk p [bv.val, ov.val, tv.val, i64 i, i64 j, i64 k, o.val, .bool true] 308) (Ow.star (Sv.own o 261) (Ow.star (Sv.own x.base 9) (Ow.star (Sv.own x.ours 9) (Ow.star (Sv.own x.theirs 9) (Ow.star (Sv.own x.out 9) (Ow.emp)))))))
  refine VG.fork (l := [10, 16, 23]) (by kernel_rfl) rfl (fun i hi => ?_)
  simp only [List.mem_cons, List.not_mem_nil, or_false] at hi
  rcases hi with rfl | rfl | rfl
  ·
   refine VGo.of rfl ?_
   refine VL.app (s := x.base) (r := s52) Tryz.underlying82 app9 (by decide) rfl Fo.out (by rw [hs52]; simp; omega) (by rw [hs52]; simp; omega) (by decide) (fun s53 hs53 => ?_)
   exact VL.backE (D' := [(28, x.out.val), (27, Zp o.b o.o o.l.length 4), (26, Zp o.b o.o o.l.length 0), (21, x.theirs.val), (20, Zp o.b o.o o.l.length 2), (19, Zp o.b o.o o.l.length 0), (14, x.ours.val), (13, Zp o.b o.o o.l.length 1), (12, Zp o.b o.o o.l.length 0)]) (ks := [0, 2, 3, 43, 44, 45, 46, 54, 55, 56, 57, 58, 61, 62, 63, 64, 65, 68, 69, 70, 71, 53, 73]) (Pend.cons rfl (q_elfo (s := o) one82 rfl hx rfl) (Pend.cons rfl (q_field fa261_4 rfl) (Pend.cons rfl (q_nilCheck rfl) (Pend.cons rfl (q_elfo (s := o) one82 rfl hx rfl) (Pend.cons rfl (q_field fa261_2 rfl) (Pend.cons rfl (q_nilCheck rfl) (Pend.cons rfl (q_elfo (s := o) one82 rfl hx rfl) (Pend.cons rfl (q_field fa261_1 rfl) (Pend.cons rfl (q_nilCheck rfl) (Pend.nil)))))))))) (by kernel_rfl) (by kernel_rfl) rfl (key_9_10_30 (s53, s73) ⟨(by rw [hs53, hs52]), hs73⟩)
  ·
   refine VGo.of rfl ?_
   refine VL.lit (α := Str) (xs := [.tmp 58]) (vs := [str line]) [line] Tryz.underlying82 lit9 (by decide) rfl rfl rfl rfl (by decide) (fun _ _ _ _ => trivial) (by decide) (fun s59 hs59 => ?_) (by decide)
   exact VL.backE (D' := [(28, x.out.val), (27, Zp o.b o.o o.l.length 4), (26, Zp o.b o.o o.l.length 0), (21, x.theirs.val), (20, Zp o.b o.o o.l.length 2), (19, Zp o.b o.o o.l.length 0), (14, x.ours.val), (13, Zp o.b o.o o.l.length 1), (12, Zp o.b o.o o.l.length 0), (7, x.base.val), (6, Zp o.b o.o o.l.length 0), (5, Zp o.b o.o o.l.length 0)]) (ks := [0, 2, 3, 43, 44, 45, 46, 47, 48, 49, 50, 54, 55, 56, 57, 61, 62, 63, 64, 65, 68, 69, 70, 71, 52, 59, 73]) (Pend.cons rfl (q_elfo (s := o) one82 rfl hx rfl) (Pend.cons rfl (q_field fa261_4 rfl) (Pend.cons rfl (q_nilCheck rfl) (Pend.cons rfl (q_elfo (s := o) one82 rfl hx rfl) (Pend.cons rfl (q_field fa261_2 rfl) (Pend.cons rfl (q_nilCheck rfl) (Pend.cons rfl (q_elfo (s := o) one82 rfl hx rfl) (Pend.cons rfl (q_field fa261_1 rfl) (Pend.cons rfl (q_nilCheck rfl) (Pend.cons rfl (q_elfo (s := o) one82 rfl hx rfl) (Pend.cons rfl (q_field fa261_0 rfl) (Pend.cons rfl (q_nilCheck rfl) (Pend.nil))))))))))))) (by kernel_rfl) (by kernel_rfl) rfl (key_9_16_30 (s52, s59, s73) ⟨hs52, hs59, hs73⟩)
  refine VGo.of rfl ?_
  refine VL.lit (α := Str) (xs := [.tmp 65]) (vs := [str line]) [line] Tryz.underlying82 lit9 (by decide) rfl rfl rfl rfl (by decide) (fun _ _ _ _ => trivial) (by decide) (fun s66 hs66 => ?_) (by decide)
  exact VL.backE (D' := [(28, x.out.val), (27, Zp o.b o.o o.l.length 4), (26, Zp o.b o.o o.l.length 0), (21, x.theirs.val), (20, Zp o.b o.o o.l.length 2), (19, Zp o.b o.o o.l.length 0), (14, x.ours.val), (13, Zp o.b o.o o.l.length 1), (12, Zp o.b o.o o.l.length 0), (7, x.base.val), (6, Zp o.b o.o o.l.length 0), (5, Zp o.b o.o o.l.length 0)]) (ks := [0, 2, 3, 43, 44, 45, 46, 47, 48, 49, 50, 54, 55, 56, 57, 58, 61, 62, 63, 64, 68, 69, 70, 71, 52, 66, 73]) (Pend.cons rfl (q_elfo (s := o) one82 rfl hx rfl) (Pend.cons rfl (q_field fa261_4 rfl) (Pend.cons rfl (q_nilCheck rfl) (Pend.cons rfl (q_elfo (s := o) one82 rfl hx rfl) (Pend.cons rfl (q_field fa261_2 rfl) (Pend.cons rfl (q_nilCheck rfl) (Pend.cons rfl (q_elfo (s := o) one82 rfl hx rfl) (Pend.cons rfl (q_field fa261_1 rfl) (Pend.cons rfl (q_nilCheck rfl) (Pend.cons rfl (q_elfo (s := o) one82 rfl hx rfl) (Pend.cons rfl (q_field fa261_0 rfl) (Pend.cons rfl (q_nilCheck rfl) (Pend.nil))))))))))))) (by kernel_rfl) (by kernel_rfl) rfl (key_9_23_30 (s52, s66, s73) ⟨hs52, hs66, hs73⟩)
 refine VG.via (S := Sv Str × Sv Str) (fun sg => sg.1.l = [line] ∧ sg.2.l = [line]) 18 (fun sg => [(28, x.out.val), (27, Zp o.b o.o o.l.length 4), (26, Zp o.b o.o o.l.length 0), (21, x.theirs.val), (20, Zp o.b o.o o.l.length 2), (19, Zp o.b o.o o.l.length 0), (14, x.ours.val), (13, Zp o.b o.o o.l.length 1), (12, Zp o.b o.o o.l.length 0), (7, x.base.val), (6, Zp o.b o.o o.l.length 0), (5, Zp o.b o.o o.l.length 0)]) #[true, true, true, true, true, true, true, true, true, false, false, true, true, true, true, true, true, false, true, true, true, true, true, true, false, true, true, true, true, true, false, false, false, false, false, false, false, false, false, false, false, false, false, false] (fun sg => [(0, ptr p 0), (2, str line), (3, Zp o.b o.o o.l.length 0), (43, Zp o.b o.o o.l.length 0), (44, Zp o.b o.o o.l.length 0), (45, Zp o.b o.o o.l.length 0), (46, Zp o.b o.o o.l.length 0), (47, Zp o.b o.o o.l.length 0), (48, Zp o.b o.o o.l.length 0), (49, Zp o.b o.o o.l.length 0), (50, x.base.val), (51, str line), (54, Zp o.b o.o o.l.length 0), (55, Zp o.b o.o o.l.length 0), (56, Zp o.b o.o o.l.length 1), (57, x.ours.val), (61, Zp o.b o.o o.l.length 0), (62, Zp o.b o.o o.l.length 0), (63, Zp o.b o.o o.l.length 2), (64, x.theirs.val), (68, Zp o.b o.o o.l.length 0), (69, Zp o.b o.o o.l.length 0), (70, Zp o.b o.o o.l.length 4), (71, x.out.val), (72, str line), (59, sg.1.val), (66, sg.2.val)]) (fun sg => (sg.2.ok.and (sg.1.ok.and Mo.tt))) (fun sg => Ow.star (Blk p [bv.val, ov.val, tv.val, i64 i, i64 j, i64 k, o.val, .bool true] 308) (Ow.star (Sv.own o 261) (Ow.star (Sv.own x.base 9) (Ow.star (Sv.own x.ours 9) (Ow.star (Sv.own x.theirs 9) (Ow.star (Sv.own x.out 9) (Ow.emp))))))) ?_ fun key_16_23 => ?_
 ·
  rintro ⟨s59, s66⟩ ⟨hs59, hs66⟩
  try dsimp only at hs59 hs66
  show VG _ _ _ _ _ _ [(28, x.out.val), (27, Zp o.b o.o o.l.length 4), (26, Zp o.b o.o o.l.length 0), (21, x.theirs.val), (20, Zp o.b o.o o.l.length 2), (19, Zp o.b o.o o.l.length 0), (14, x.ours.val), (13, Zp o.b o.o o.l.length 1), (12, Zp o.b o.o o.l.length 0), (7, x.base.val), (6, Zp o.b o.o o.l.length 0), (5, Zp o.b o.o o.l.length 0)] _ [(0, ptr p 0), (2, str line), (3, Zp o.b o.o o.l.length 0), (43, Zp o.b o.o o.l.length 0), (44, Zp o.b o.o o.l.length 0), (45, Zp o.b o.o o.l.length 0), (46, Zp o.b o.o o.l.length 0), (47, Zp o.b o.o o.l.length 0), (48, Zp o.b o.o o.l.length 0), (49, Zp o.b o.o o.l.length 0), (50, x.base.val), (51, str line), (54, Zp o.b o.o o.l.length 0), (55, Zp o.b o.o o.l.length 0), (56, Zp o.b o.o o.l.length 1), (57, x.ours.val), (61, Zp o.b o.o o.l.length 0), (62, Zp o.b o.o o.l.length 0), (63, Zp o.b o.o o.l.length 2), (64, x.theirs.val), (68, Zp o.b o.o o.l.length 0), (69, Zp o.b o.o o.l.length 0), (70, Zp o.b o.o o.l.length 4), (71, x.out.val), (72, str line), (59, s59.val), (66, s66.val)] (s66.ok.and (s59.ok.and Mo.tt)) (Ow.star (Blk p [bv.val, ov.val, tv.val, i64 i, i64 j, i64 k, o.val, .bool true] 308) (Ow.star (Sv.own o 261) (Ow.star (Sv.own x.base 9) (Ow.star (Sv.own x.ours 9) (Ow.star (Sv.own x.theirs 9) (Ow.star (Sv.own x.out 9) (Ow.emp)))))))
  refine VG.fork (l := [9, 30]) (by kernel_rfl) rfl (fun i hi => ?_)
  simp only [List.mem_cons, List.not_mem_nil, or_false] at hi
  rcases hi with rfl | rfl
  ·
   refine VGo.of rfl ?_
   refine VL.lit (α := Str) (xs := [.tmp 51]) (vs := [str line]) [line] Tryz.underlying82 lit9 (by decide) rfl rfl rfl rfl (by decide) (fun _ _ _ _ => trivial) (by decide) (fun s52 hs52 => ?_) (by decide)
   exact VL.backE (D' := [(28, x.out.val), (27, Zp o.b o.o o.l.length 4), (26, Zp o.b o.o o.l.length 0), (21, x.theirs.val), (20, Zp o.b o.o o.l.length 2), (19, Zp o.b o.o o.l.length 0), (14, x.ours.val), (13, Zp o.b o.o o.l.length 1), (12, Zp o.b o.o o.l.length 0), (7, x.base.val), (6, Zp o.b o.o o.l.length 0), (5, Zp o.b o.o o.l.length 0)]) (ks := [0, 2, 3, 43, 44, 45, 46, 47, 48, 49, 50, 54, 55, 56, 57, 61, 62, 63, 64, 68, 69, 70, 71, 72, 52, 59, 66]) (Pend.cons rfl (q_elfo (s := o) one82 rfl hx rfl) (Pend.cons rfl (q_field fa261_4 rfl) (Pend.cons rfl (q_nilCheck rfl) (Pend.cons rfl (q_elfo (s := o) one82 rfl hx rfl) (Pend.cons rfl (q_field fa261_2 rfl) (Pend.cons rfl (q_nilCheck rfl) (Pend.cons rfl (q_elfo (s := o) one82 rfl hx rfl) (Pend.cons rfl (q_field fa261_1 rfl) (Pend.cons rfl (q_nilCheck rfl) (Pend.cons rfl (q_elfo (s := o) one82 rfl hx rfl) (Pend.cons rfl (q_field fa261_0 rfl) (Pend.cons rfl (q_nilCheck rfl) (Pend.nil))))))))))))) (by kernel_rfl) (by kernel_rfl) rfl (key_9_16_23 (s52, s59, s66) ⟨hs52, hs59, hs66⟩)
  refine VGo.of rfl ?_
  refine VL.lit (α := Str) (xs := [.tmp 72]) (vs := [str line]) [line] Tryz.underlying82 lit9 (by decide) rfl rfl rfl rfl (by decide) (fun _ _ _ _ => trivial) (by decide) (fun s73 hs73 => ?_) (by decide)
  exact VL.backE (D' := [(28, x.out.val), (27, Zp o.b o.o o.l.length 4), (26, Zp o.b o.o o.l.length 0), (21, x.theirs.val), (20, Zp o.b o.o o.l.length 2), (19, Zp o.b o.o o.l.length 0), (14, x.ours.val), (13, Zp o.b o.o o.l.length 1), (12, Zp o.b o.o o.l.length 0), (7, x.base.val), (6, Zp o.b o.o o.l.length 0), (5, Zp o.b o.o o.l.length 0)]) (ks := [0, 2, 3, 43, 44, 45, 46, 47, 48, 49, 50, 51, 54, 55, 56, 57, 61, 62, 63, 64, 68, 69, 70, 71, 59, 66, 73]) (Pend.cons rfl (q_elfo (s := o) one82 rfl hx rfl) (Pend.cons rfl (q_field fa261_4 rfl) (Pend.cons rfl (q_nilCheck rfl) (Pend.cons rfl (q_elfo (s := o) one82 rfl hx rfl) (Pend.cons rfl (q_field fa261_2 rfl) (Pend.cons rfl (q_nilCheck rfl) (Pend.cons rfl (q_elfo (s := o) one82 rfl hx rfl) (Pend.cons rfl (q_field fa261_1 rfl) (Pend.cons rfl (q_nilCheck rfl) (Pend.cons rfl (q_elfo (s := o) one82 rfl hx rfl) (Pend.cons rfl (q_field fa261_0 rfl) (Pend.cons rfl (q_nilCheck rfl) (Pend.nil))))))))))))) (by kernel_rfl) (by kernel_rfl) rfl (key_16_23_30 (s59, s66, s73) ⟨hs59, hs66, hs73⟩)
 refine VG.via (S := Sv Str × Sv Str) (fun sg => sg.1.l = [line] ∧ sg.2.l = [line]) 18 (fun sg => [(28, x.out.val), (27, Zp o.b o.o o.l.length 4), (26, Zp o.b o.o o.l.length 0), (21, x.theirs.val), (20, Zp o.b o.o o.l.length 2), (19, Zp o.b o.o o.l.length 0), (14, x.ours.val), (13, Zp o.b o.o o.l.length 1), (12, Zp o.b o.o o.l.length 0), (7, x.base.val), (6, Zp o.b o.o o.l.length 0), (5, Zp o.b o.o o.l.length 0)]) #[true, true, true, true, true, true, true, true, true, false, false, true, true, true, true, true, true, false, true, true, true, true, true, false, false, true, true, true, true, true, true, false, false, false, false, false, false, false, false, false, false, false, false, false] (fun sg => [(0, ptr p 0), (2, str line), (3, Zp o.b o.o o.l.length 0), (43, Zp o.b o.o o.l.length 0), (44, Zp o.b o.o o.l.length 0), (45, Zp o.b o.o o.l.length 0), (46, Zp o.b o.o o.l.length 0), (47, Zp o.b o.o o.l.length 0), (48, Zp o.b o.o o.l.length 0), (49, Zp o.b o.o o.l.length 0), (50, x.base.val), (51, str line), (54, Zp o.b o.o o.l.length 0), (55, Zp o.b o.o o.l.length 0), (56, Zp o.b o.o o.l.length 1), (57, x.ours.val), (61, Zp o.b o.o o.l.length 0), (62, Zp o.b o.o o.l.length 0), (63, Zp o.b o.o o.l.length 2), (64, x.theirs.val), (65, str line), (68, Zp o.b o.o o.l.length 0), (69, Zp o.b o.o o.l.length 0), (70, Zp o.b o.o o.l.length 4), (71, x.out.val), (59, sg.1.val), (73, sg.2.val)]) (fun sg => (sg.2.ok.and (sg.1.ok.and Mo.tt))) (fun sg => Ow.star (Blk p [bv.val, ov.val, tv.val, i64 i, i64 j, i64 k, o.val, .bool true] 308) (Ow.star (Sv.own o 261) (Ow.star (Sv.own x.base 9) (Ow.star (Sv.own x.ours 9) (Ow.star (Sv.own x.theirs 9) (Ow.star (Sv.own x.out 9) (Ow.emp))))))) ?_ fun key_16_30 => ?_
 ·
  rintro ⟨s59, s73⟩ ⟨hs59, hs73⟩
  try dsimp only at hs59 hs73
  show VG _ _ _ _ _ _ [(28, x.out.val), (27, Zp o.b o.o o.l.length 4), (26, Zp o.b o.o o.l.length 0), (21, x.theirs.val), (20, Zp o.b o.o o.l.length 2), (19, Zp o.b o.o o.l.length 0), (14, x.ours.val), (13, Zp o.b o.o o.l.length 1), (12, Zp o.b o.o o.l.length 0), (7, x.base.val), (6, Zp o.b o.o o.l.length 0), (5, Zp o.b o.o o.l.length 0)] _ [(0, ptr p 0), (2, str line), (3, Zp o.b o.o o.l.length 0), (43, Zp o.b o.o o.l.length 0), (44, Zp o.b o.o o.l.length 0), (45, Zp o.b o.o o.l.length 0), (46, Zp o.b o.o o.l.length 0), (47, Zp o.b o.o o.l.length 0), (48, Zp o.b o.o o.l.length 0), (49, Zp o.b o.o o.l.length 0), (50, x.base.val), (51, str line), (54, Zp o.b o.o o.l.length 0), (55, Zp o.b o.o o.l.length 0), (56, Zp o.b o.o o.l.length 1), (57, x.ours.val), (61, Zp o.b o.o o.l.length 0), (62, Zp o.b o.o o.l.length 0), (63, Zp o.b o.o o.l.length 2), (64, x.theirs.val), (65, str line), (68, Zp o.b o.o o.l.length 0), (69, Zp o.b o.o o.l.length 0), (70, Zp o.b o.o o.l.length 4), (71, x.out.val), (59, s59.val), (73, s73.val)] (s73.ok.and (s59.ok.and Mo.tt)) (Ow.star (Blk p [bv.val, ov.val, tv.val, i64 i, i64 j, i64 k, o.val, .bool true] 308) (Ow.star (Sv.own o 261) (Ow.star (Sv.own x.base 9) (Ow.star (Sv.own x.ours 9) (Ow.star (Sv.own x.theirs 9) (Ow.star (Sv.own x.out 9) (Ow.emp)))))))
  refine VG.fork (l := [9, 23]) (by kernel_rfl) rfl (fun i hi => ?_)
  simp only [List.mem_cons, List.not_mem_nil, or_false] at hi
  rcases hi with rfl | rfl
  ·
   refine VGo.of rfl ?_
   refine VL.lit (α := Str) (xs := [.tmp 51]) (vs := [str line]) [line] Tryz.underlying82 lit9 (by decide) rfl rfl rfl rfl (by decide) (fun _ _ _ _ => trivial) (by decide) (fun s52 hs52 => ?_) (by decide)
   exact VL.backE (D' := [(28, x.out.val), (27, Zp o.b o.o o.l.length 4), (26, Zp o.b o.o o.l.length 0), (21, x.theirs.val), (20, Zp o.b o.o o.l.length 2), (19, Zp o.b o.o o.l.length 0), (14, x.ours.val), (13, Zp o.b o.o o.l.length 1), (12, Zp o.b o.o o.l.length 0), (7, x.base.val), (6, Zp o.b o.o o.l.length 0), (5, Zp o.b o.o o.l.length 0)]) (ks := [0, 2, 3, 43, 44, 45, 46, 47, 48, 49, 50, 54, 55, 56, 57, 61, 62, 63, 64, 65, 68, 69, 70, 71, 52, 59, 73]) (Pend.cons rfl (q_elfo (s := o) one82 rfl hx rfl) (Pend.cons rfl (q_field fa261_4 rfl) (Pend.cons rfl (q_nilCheck rfl) (Pend.cons rfl (q_elfo (s := o) one82 rfl hx rfl) (Pend.cons rfl (q_field fa261_2 rfl) (Pend.cons rfl (q_nilCheck rfl) (Pend.cons rfl (q_elfo (s := o) one82 rfl hx rfl) (Pend.cons rfl (q_field fa261_1 rfl) (Pend.cons rfl (q_nilCheck rfl) (Pend.cons rfl (q_elfo (s := o) one82 rfl hx rfl) (Pend.cons rfl (q_field fa261_0 rfl) (Pend.cons rfl (q_nilCheck rfl) (Pend.nil))))))))))))) (by kernel_rfl) (by kernel_rfl) rfl (key_9_16_30 (s52, s59, s73) ⟨hs52, hs59, hs73⟩)
  refine VGo.of rfl ?_
  refine VL.lit (α := Str) (xs := [.tmp 65]) (vs := [str line]) [line] Tryz.underlying82 lit9 (by decide) rfl rfl rfl rfl (by decide) (fun _ _ _ _ => trivial) (by decide) (fun s66 hs66 => ?_) (by decide)
  exact VL.backE (D' := [(28, x.out.val), (27, Zp o.b o.o o.l.length 4), (26, Zp o.b o.o o.l.length 0), (21, x.theirs.val), (20, Zp o.b o.o o.l.length 2), (19, Zp o.b o.o o.l.length 0), (14, x.ours.val), (13, Zp o.b o.o o.l.length 1), (12, Zp o.b o.o o.l.length 0), (7, x.base.val), (6, Zp o.b o.o o.l.length 0), (5, Zp o.b o.o o.l.length 0)]) (ks := [0, 2, 3, 43, 44, 45, 46, 47, 48, 49, 50, 51, 54, 55, 56, 57, 61, 62, 63, 64, 68, 69, 70, 71, 59, 66, 73]) (Pend.cons rfl (q_elfo (s := o) one82 rfl hx rfl) (Pend.cons rfl (q_field fa261_4 rfl) (Pend.cons rfl (q_nilCheck rfl) (Pend.cons rfl (q_elfo (s := o) one82 rfl hx rfl) (Pend.cons rfl (q_field fa261_2 rfl) (Pend.cons rfl (q_nilCheck rfl) (Pend.cons rfl (q_elfo (s := o) one82 rfl hx rfl) (Pend.cons rfl (q_field fa261_1 rfl) (Pend.cons rfl (q_nilCheck rfl) (Pend.cons rfl (q_elfo (s := o) one82 rfl hx rfl) (Pend.cons rfl (q_field fa261_0 rfl) (Pend.cons rfl (q_nilCheck rfl) (Pend.nil))))))))))))) (by kernel_rfl) (by kernel_rfl) rfl (key_16_23_30 (s59, s66, s73) ⟨hs59, hs66, hs73⟩)
 refine VG.via (S := Sv Str × Sv Str) (fun sg => sg.1.l = [line] ∧ sg.2.l = [line]) 18 (fun sg => [(28, x.out.val), (27, Zp o.b o.o o.l.length 4), (26, Zp o.b o.o o.l.length 0), (21, x.theirs.val), (20, Zp o.b o.o o.l.length 2), (19, Zp o.b o.o o.l.length 0), (14, x.ours.val), (13, Zp o.b o.o o.l.length 1), (12, Zp o.b o.o o.l.length 0), (7, x.base.val), (6, Zp o.b o.o o.l.length 0), (5, Zp o.b o.o o.l.length 0)]) #[true, true, true, true, true, true, true, true, true, false, false, true, true, true, true, true, false, false, true, true, true, true, true, true, false, true, true, true, true, true, true, false, false, false, false, false, false, false, false, false, false, false, false, false] (fun sg => [(0, ptr p 0), (2, str line), (3, Zp o.b o.o o.l.length 0), (43, Zp o.b o.o o.l.length 0), (44, Zp o.b o.o o.l.length 0), (45, Zp o.b o.o o.l.length 0), (46, Zp o.b o.o o.l.length 0), (47, Zp o.b o.o o.l.length 0), (48, Zp o.b o.o o.l.length 0), (49, Zp o.b o.o o.l.length 0), (50, x.base.val), (51, str line), (54, Zp o.b o.o o.l.length 0), (55, Zp o.b o.o o.l.length 0), (56, Zp o.b o.o o.l.length 1), (57, x.ours.val), (58, str line), (61, Zp o.b o.o o.l.length 0), (62, Zp o.b o.o o.l.length 0), (63, Zp o.b o.o o.l.length 2), (64, x.theirs.val), (68, Zp o.b o.o o.l.length 0), (69, Zp o.b o.o o.l.length 0), (70, Zp o.b o.o o.l.length 4), (71, x.out.val), (66, sg.1.val), (73, sg.2.val)]) (fun sg => (sg.2.ok.and (sg.1.ok.and Mo.tt))) (fun sg => Ow.star (Blk p [bv.val, ov.val, tv.val, i64 i, i64 j, i64 k, o.val, .bool true] 308) (Ow.star (Sv.own o 261) (Ow.star (Sv.own x.base 9) (Ow.star (Sv.own x.ours 9) (Ow.star (Sv.own x.theirs 9) (Ow.star (Sv.own x.out 9) (Ow.emp))))))) ?_ fun key_23_30 => ?_
 ·
  rintro ⟨s66, s73⟩ ⟨hs66, hs73⟩
  try dsimp only at hs66 hs73
  show VG _ _ _ _ _ _ [(28, x.out.val), (27, Zp o.b o.o o.l.length 4), (26, Zp o.b o.o o.l.length 0), (21, x.theirs.val), (20, Zp o.b o.o o.l.length 2), (19, Zp o.b o.o o.l.length 0), (14, x.ours.val), (13, Zp o.b o.o o.l.length 1), (12, Zp o.b o.o o.l.length 0), (7, x.base.val), (6, Zp o.b o.o o.l.length 0), (5, Zp o.b o.o o.l.length 0)] _ [(0, ptr p 0), (2, str line), (3, Zp o.b o.o o.l.length 0), (43, Zp o.b o.o o.l.length 0), (44, Zp o.b o.o o.l.length 0), (45, Zp o.b o.o o.l.length 0), (46, Zp o.b o.o o.l.length 0), (47, Zp o.b o.o o.l.length 0), (48, Zp o.b o.o o.l.length 0), (49, Zp o.b o.o o.l.length 0), (50, x.base.val), (51, str line), (54, Zp o.b o.o o.l.length 0), (55, Zp o.b o.o o.l.length 0), (56, Zp o.b o.o o.l.length 1), (57, x.ours.val), (58, str line), (61, Zp o.b o.o o.l.length 0), (62, Zp o.b o.o o.l.length 0), (63, Zp o.b o.o o.l.length 2), (64, x.theirs.val), (68, Zp o.b o.o o.l.length 0), (69, Zp o.b o.o o.l.length 0), (70, Zp o.b o.o o.l.length 4), (71, x.out.val), (66, s66.val), (73, s73.val)] (s73.ok.and (s66.ok.and Mo.tt)) (Ow.star (Blk p [bv.val, ov.val, tv.val, i64 i, i64 j, i64 k, o.val, .bool true] 308) (Ow.star (Sv.own o 261) (Ow.star (Sv.own x.base 9) (Ow.star (Sv.own x.ours 9) (Ow.star (Sv.own x.theirs 9) (Ow.star (Sv.own x.out 9) (Ow.emp)))))))
  refine VG.fork (l := [9, 16]) (by kernel_rfl) rfl (fun i hi => ?_)
  simp only [List.mem_cons, List.not_mem_nil, or_false] at hi
  rcases hi with rfl | rfl
  ·
   refine VGo.of rfl ?_
   refine VL.lit (α := Str) (xs := [.tmp 51]) (vs := [str line]) [line] Tryz.underlying82 lit9 (by decide) rfl rfl rfl rfl (by decide) (fun _ _ _ _ => trivial) (by decide) (fun s52 hs52 => ?_) (by decide)
   exact VL.backE (D' := [(28, x.out.val), (27, Zp o.b o.o o.l.length 4), (26, Zp o.b o.o o.l.length 0), (21, x.theirs.val), (20, Zp o.b o.o o.l.length 2), (19, Zp o.b o.o o.l.length 0), (14, x.ours.val), (13, Zp o.b o.o o.l.length 1), (12, Zp o.b o.o o.l.length 0), (7, x.base.val), (6, Zp o.b o.o o.l.length 0), (5, Zp o.b o.o o.l.length 0)]) (ks := [0, 2, 3, 43, 44, 45, 46, 47, 48, 49, 50, 54, 55, 56, 57, 58, 61, 62, 63, 64, 68, 69, 70, 71, 52, 66, 73]) (Pend.cons rfl (q_elfo (s := o) one82 rfl hx rfl) (Pend.cons rfl (q_field fa261_4 rfl) (Pend.cons rfl (q_nilCheck rfl) (Pend.cons rfl (q_elfo (s := o) one82 rfl hx rfl) (Pend.cons rfl (q_field fa261_2 rfl) (Pend.cons rfl (q_nilCheck rfl) (Pend.cons rfl (q_elfo (s := o) one82 rfl hx rfl) (Pend.cons rfl (q_field fa261_1 rfl) (Pend.cons rfl (q_nilCheck rfl) (Pend.cons rfl (q_elfo (s := o) one82 rfl hx rfl) (Pend.cons rfl (q_field fa261_0 rfl) (Pend.cons rfl (q_nilCheck rfl) (Pend.nil))))))))))))) (by kernel_rfl) (by kernel_rfl) rfl (key_9_23_30 (s52, s66, s73) ⟨hs52, hs66, hs73⟩)
  refine VGo.of rfl ?_
  refine VL.lit (α := Str) (xs := [.tmp 58]) (vs := [str line]) [line] Tryz.underlying82 lit9 (by decide) rfl rfl rfl rfl (by decide) (fun _ _ _ _ => trivial) (by decide) (fun s59 hs59 => ?_) (by decide)
  exact VL.backE (D' := [(28, x.out.val), (27, Zp o.b o.o o.l.length 4), (26, Zp o.b o.o o.l.length 0), (21, x.theirs.val), (20, Zp o.b o.o o.l.length 2), (19, Zp o.b o.o o.l.length 0), (14, x.ours.val), (13, Zp o.b o.o o.l.length 1), (12, Zp o.b o.o o.l.length 0), (7, x.base.val), (6, Zp o.b o.o o.l.length 0), (5, Zp o.b o.o o.l.length 0)]) (ks := [0, 2, 3, 43, 44, 45, 46, 47, 48, 49, 50, 51, 54, 55, 56, 57, 61, 62, 63, 64, 68, 69, 70, 71, 59, 66, 73]) (Pend.cons rfl (q_elfo (s := o) one82 rfl hx rfl) (Pend.cons rfl (q_field fa261_4 rfl) (Pend.cons rfl (q_nilCheck rfl) (Pend.cons rfl (q_elfo (s := o) one82 rfl hx rfl) (Pend.cons rfl (q_field fa261_2 rfl) (Pend.cons rfl (q_nilCheck rfl) (Pend.cons rfl (q_elfo (s := o) one82 rfl hx rfl) (Pend.cons rfl (q_field fa261_1 rfl) (Pend.cons rfl (q_nilCheck rfl) (Pend.cons rfl (q_elfo (s := o) one82 rfl hx rfl) (Pend.cons rfl (q_field fa261_0 rfl) (Pend.cons rfl (q_nilCheck rfl) (Pend.nil))))))))))))) (by kernel_rfl) (by kernel_rfl) rfl (key_16_23_30 (s59, s66, s73) ⟨hs59, hs66, hs73⟩)
 refine VG.via (S := Sv Str) (fun sg => sg.l = [line]) 19 (fun sg => [(28, x.out.val), (27, Zp o.b o.o o.l.length 4), (26, Zp o.b o.o o.l.length 0), (21, x.theirs.val), (20, Zp o.b o.o o.l.length 2), (19, Zp o.b o.o o.l.length 0), (14, x.ours.val), (13, Zp o.b o.o o.l.length 1), (12, Zp o.b o.o o.l.length 0), (7, x.base.val), (6, Zp o.b o.o o.l.length 0), (5, Zp o.b o.o o.l.length 0)]) #[true, true, true, true, true, true, true, true, true, true, false, true, true, true, true, true, false, false, true, true, true, true, true, false, false, true, true, true, true, true, false, false, false, false, false, false, false, false, false, false, false, false, false, false] (fun sg => [(0, ptr p 0), (2, str line), (3, Zp o.b o.o o.l.length 0), (43, Zp o.b o.o o.l.length 0), (44, Zp o.b o.o o.l.length 0), (45, Zp o.b o.o o.l.length 0), (46, Zp o.b o.o o.l.length 0), (47, Zp o.b o.o o.l.length 0), (48, Zp o.b o.o o.l.length 0), (49, Zp o.b o.o o.l.length 0), (50, x.base.val), (54, Zp o.b o.o o.l.length 0), (55, Zp o.b o.o o.l.length 0), (56, Zp o.b o.o o.l.length 1), (57, x.ours.val), (58, str line), (61, Zp o.b o.o o.l.length 0), (62, Zp o.b o.o o.l.length 0), (63, Zp o.b o.o o.l.length 2), (64, x.theirs.val), (65, str line), (68, Zp o.b o.o o.l.length 0), (69, Zp o.b o.o o.l.length 0), (70, Zp o.b o.o o.l.length 4), (71, x.out.val), (72, str line), (52, sg.val)]) (fun sg => (sg.ok.and Mo.tt)) (fun sg => Ow.star (Blk p [bv.val, ov.val, tv.val, i64 i, i64 j, i64 k, o.val, .bool true] 308) (Ow.star (Sv.own o 261) (Ow.star (Sv.own x.base 9) (Ow.star (Sv.own x.ours 9) (Ow.star (Sv.own x.theirs 9) (Ow.star (Sv.own x.out 9) (Ow.emp))))))) ?_ fun key_9 => ?_
 ·
  rintro s52 hs52
  try dsimp only at hs52
  show VG _ _ _ _ _ _ [(28, x.out.val), (27, Zp o.b o.o o.l.length 4), (26, Zp o.b o.o o.l.length 0), (21, x.theirs.val), (20, Zp o.b o.o o.l.length 2), (19, Zp o.b o.o o.l.length 0), (14, x.ours.val), (13, Zp o.b o.o o.l.length 1), (12, Zp o.b o.o o.l.length 0), (7, x.base.val), (6, Zp o.b o.o o.l.length 0), (5, Zp o.b o.o o.l.length 0)] _ [(0, ptr p 0), (2, str line), (3, Zp o.b o.o o.l.length 0), (43, Zp o.b o.o o.l.length 0), (44, Zp o.b o.o o.l.length 0), (45, Zp o.b o.o o.l.length 0), (46, Zp o.b o.o o.l.length 0), (47, Zp o.b o.o o.l.length 0), (48, Zp o.b o.o o.l.length 0), (49, Zp o.b o.o o.l.length 0), (50, x.base.val), (54, Zp o.b o.o o.l.length 0), (55, Zp o.b o.o o.l.length 0), (56, Zp o.b o.o o.l.length 1), (57, x.ours.val), (58, str line), (61, Zp o.b o.o o.l.length 0), (62, Zp o.b o.o o.l.length 0), (63, Zp o.b o.o o.l.length 2), (64, x.theirs.val), (65, str line), (68, Zp o.b o.o o.l.length 0), (69, Zp o.b o.o o.l.length 0), (70, Zp o.b o.o o.l.length 4), (71, x.out.val), (72, str line), (52, s52.val)] (s52.ok.and Mo.tt) (Ow.star (Blk p [bv.val, ov.val, tv.val, i64 i, i64 j, i64 k, o.val, .bool true] 308) (Ow.star (Sv.own o 261) (Ow.star (Sv.own x.base 9) (Ow.star (Sv.own x.ours 9) (Ow.star (Sv.own x.theirs 9) (Ow.star (Sv.own x.out 9) (Ow.emp)))))))
  refine VG.fork (l := [10, 16, 23, 30]) (by kernel_rfl) rfl (fun i hi => ?_)
  simp only [List.mem_cons, List.not_mem_nil, or_false] at hi
  rcases hi with rfl | rfl | rfl | rfl
  ·
   refine VGo.of rfl ?_
   refine VL.app (s := x.base) (r := s52) Tryz.underlying82 app9 (by decide) rfl Fo.out (by rw [hs52]; simp; omega) (by rw [hs52]; simp; omega) (by decide) (fun s53 hs53 => ?_)
   exact VL.backE (D' := [(28, x.out.val), (27, Zp o.b o.o o.l.length 4), (26, Zp o.b o.o o.l.length 0), (21, x.theirs.val), (20, Zp o.b o.o o.l.length 2), (19, Zp o.b o.o o.l.length 0), (14, x.ours.val), (13, Zp o.b o.o o.l.length 1), (12, Zp o.b o.o o.l.length 0)]) (ks := [0, 2, 3, 43, 44, 45, 46, 54, 55, 56, 57, 58, 61, 62, 63, 64, 65, 68, 69, 70, 71, 72, 53]) (Pend.cons rfl (q_elfo (s := o) one82 rfl hx rfl) (Pend.cons rfl (q_field fa261_4 rfl) (Pend.cons rfl (q_nilCheck rfl) (Pend.cons rfl (q_elfo (s := o) one82 rfl hx rfl) (Pend.cons rfl (q_field fa261_2 rfl) (Pend.cons rfl (q_nilCheck rfl) (Pend.cons rfl (q_elfo (s := o) one82 rfl hx rfl) (Pend.cons rfl (q_field fa261_1 rfl) (Pend.cons rfl (q_nilCheck rfl) (Pend.nil)))))))))) (by kernel_rfl) (by kernel_rfl) rfl (key_9_10 (s53) ((by rw [hs53, hs52])))
  ·
   refine VGo.of rfl ?_
   refine VL.lit (α := Str) (xs := [.tmp 58]) (vs := [str line]) [line] Tryz.underlying82 lit9 (by decide) rfl rfl rfl rfl (by decide) (fun _ _ _ _ => trivial) (by decide) (fun s59 hs59 => ?_) (by decide)
   exact VL.backE (D' := [(28, x.out.val), (27, Zp o.b o.o o.l.length 4), (26, Zp o.b o.o o.l.length 0), (21, x.theirs.val), (20, Zp o.b o.o o.l.length 2), (19, Zp o.b o.o o.l.length 0), (14, x.ours.val), (13, Zp o.b o.o o.l.length 1), (12, Zp o.b o.o o.l.length 0), (7, x.base.val), (6, Zp o.b o.o o.l.length 0), (5, Zp o.b o.o o.l.length 0)]) (ks := [0, 2, 3, 43, 44, 45, 46, 47, 48, 49, 50, 54, 55, 56, 57, 61, 62, 63, 64, 65, 68, 69, 70, 71, 72, 52, 59]) (Pend.cons rfl (q_elfo (s := o) one82 rfl hx rfl) (Pend.cons rfl (q_field fa261_4 rfl) (Pend.cons rfl (q_nilCheck rfl) (Pend.cons rfl (q_elfo (s := o) one82 rfl hx rfl) (Pend.cons rfl (q_field fa261_2 rfl) (Pend.cons rfl (q_nilCheck rfl) (Pend.cons rfl (q_elfo (s := o) one82 rfl hx rfl) (Pend.cons rfl (q_field fa261_1 rfl) (Pend.cons rfl (q_nilCheck rfl) (Pend.cons rfl (q_elfo (s := o) one82 rfl hx rfl) (Pend.cons rfl (q_field fa261_0 rfl) (Pend.cons rfl (q_nilCheck rfl) (Pend.nil))))))))))))) (by kernel_rfl) (by kernel_rfl) rfl (key_9_16 (s52, s59) ⟨hs52, hs59⟩)
  ·
   refine VGo.of rfl ?_
   refine VL.lit (α := Str) (xs := [.tmp 65]) (vs := [str line]) [line] Tryz.underlying82 lit9 (by decide) rfl rfl rfl rfl (by decide) (fun _ _ _ _ => trivial) (by decide) (fun s66 hs66 => ?_) (by decide)
   exact VL.backE (D' := [(28, x.out.val), (27, Zp o.b o.o o.l.length 4), (26, Zp o.b o.o o.l.length 0), (21, x.theirs.val), (20, Zp o.b o.o o.l.length 2), (19, Zp o.b o.o o.l.length 0), (14, x.ours.val), (13, Zp o.b o.o o.l.length 1), (12, Zp o.b o.o o.l.length 0), (7, x.base.val), (6, Zp o.b o.o o.l.length 0), (5, Zp o.b o.o o.l.length 0)]) (ks := [0, 2, 3, 43, 44, 45, 46, 47, 48, 49, 50, 54, 55, 56, 57, 58, 61, 62, 63, 64, 68, 69, 70, 71, 72, 52, 66]) (Pend.cons rfl (q_elfo (s := o) one82 rfl hx rfl) (Pend.cons rfl (q_field fa261_4 rfl) (Pend.cons rfl (q_nilCheck rfl) (Pend.cons rfl (q_elfo (s := o) one82 rfl hx rfl) (Pend.cons rfl (q_field fa261_2 rfl) (Pend.cons rfl (q_nilCheck rfl) (Pend.cons rfl (q_elfo (s := o) one82 rfl hx rfl) (Pend.cons rfl (q_field fa261_1 rfl) (Pend.cons rfl (q_nilCheck rfl) (Pend.cons rfl (q_elfo (s := o) one82 rfl hx rfl) (Pend.cons rfl (q_field fa261_0 rfl) (Pend.cons rfl (q_nilCheck rfl) (Pend.nil))))))))))))) (by kernel_rfl) (by kernel_rfl) rfl (key_9_23 (s52, s66) ⟨hs52, hs66⟩)
  refine VGo.of rfl ?_
  refine VL.lit (α := Str) (xs := [.tmp 72]) (vs := [str line]) [line] Tryz.underlying82 lit9 (by decide) rfl rfl rfl rfl (by decide) (fun _ _ _ _ => trivial) (by decide) (fun s73 hs73 => ?_) (by decide)
  exact VL.backE (D' := [(28, x.out.val), (27, Zp o.b o.o o.l.length 4), (26, Zp o.b o.o o.l.length 0), (21, x.theirs.val), (20, Zp o.b o.o o.l.length 2), (19, Zp o.b o.o o.l.length 0), (14, x.ours.val), (13, Zp o.b o.o o.l.length 1), (12, Zp o.b o.o o.l.length 0), (7, x.base.val), (6, Zp o.b o.o o.l.length 0), (5, Zp o.b o.o o.l.length 0)]) (ks := [0, 2, 3, 43, 44, 45, 46, 47, 48, 49, 50, 54, 55, 56, 57, 58, 61, 62, 63, 64, 65, 68, 69, 70, 71, 52, 73]) (Pend.cons rfl (q_elfo (s := o) one82 rfl hx rfl) (Pend.cons rfl (q_field fa261_4 rfl) (Pend.cons rfl (q_nilCheck rfl) (Pend.cons rfl (q_elfo (s := o) one82 rfl hx rfl) (Pend.cons rfl (q_field fa261_2 rfl) (Pend.cons rfl (q_nilCheck rfl) (Pend.cons rfl (q_elfo (s := o) one82 rfl hx rfl) (Pend.cons rfl (q_field fa261_1 rfl) (Pend.cons rfl (q_nilCheck rfl) (Pend.cons rfl (q_elfo (s := o) one82 rfl hx rfl) (Pend.cons rfl (q_field fa261_0 rfl) (Pend.cons rfl (q_nilCheck rfl) (Pend.nil))))))))))))) (by kernel_rfl) (by kernel_rfl) rfl (key_9_30 (s52, s73) ⟨hs52, hs73⟩)
 refine VG.via (S := Sv Str) (fun sg => sg.l = [line]) 19 (fun sg => [(28, x.out.val), (27, Zp o.b o.o o.l.length 4), (26, Zp o.b o.o o.l.length 0), (21, x.theirs.val), (20, Zp o.b o.o o.l.length 2), (19, Zp o.b o.o o.l.length 0), (14, x.ours.val), (13, Zp o.b o.o o.l.length 1), (12, Zp o.b o.o o.l.length 0), (7, x.base.val), (6, Zp o.b o.o o.l.length 0), (5, Zp o.b o.o o.l.length 0)]) #[true, true, true, true, true, true, true, true, true, false, false, true, true, true, true, true, true, false, true, true, true, true, true, false, false, true, true, true, true, true, false, false, false, false, false, false, false, false, false, false, false, false, false, false] (fun sg => [(0, ptr p 0), (2, str line), (3, Zp o.b o.o o.l.length 0), (43, Zp o.b o.o o.l.length 0), (44, Zp o.b o.o o.l.length 0), (45, Zp o.b o.o o.l.length 0), (46, Zp o.b o.o o.l.length 0), (47, Zp o.b o.o o.l.length 0), (48, Zp o.b o.o o.l.length 0), (49, Zp o.b o.o o.l.length 0), (50, x.base.val), (51, str line), (54, Zp o.b o.o o.l.length 0), (55, Zp o.b o.o o.l.length 0), (56, Zp o.b o.o o.l.length 1), (57, x.ours.val), (61, Zp o.b o.o o.l.length 0), (62, Zp o.b o.o o.l.length 0), (63, Zp o.b o.o o.l.length 2), (64, x.theirs.val), (65, str line), (68, Zp o.b o.o o.l.length 0), (69, Zp o.b o.o o.l.length 0), (70, Zp o.b o.o o.l.length 4), (71, x.out.val), (72, str line), (59, sg.val)]) (fun sg => (sg.ok.and Mo.tt)) (fun sg => Ow.star (Blk p [bv.val, ov.val, tv.val, i64 i, i64 j, i64 k, o.val, .bool true] 308) (Ow.star (Sv.own o 261) (Ow.star (Sv.own x.base 9) (Ow.star (Sv.own x.ours 9) (Ow.star (Sv.own x.theirs 9) (Ow.star (Sv.own x.out 9) (Ow.emp))))))) ?_ fun key_16 => ?_
 ·
  rintro s59 hs59
  try dsimp only at hs59
  show VG _ _ _ _ _ _ [(28, x.out.val), (27, Zp o.b o.o o.l.length 4), (26, Zp o.b o.o o.l.length 0), (21, x.theirs.val), (20, Zp o.b o.o o.l.length 2), (19, Zp o.b o.o o.l.length 0), (14, x.ours.val), (13, Zp o.b o.o o.l.length 1), (12, Zp o.b o.o o.l.length 0), (7, x.base.val), (6, Zp o.b o.o o.l.length 0), (5, Zp o.b o.o o.l.length 0)] _ [(0, ptr p 0), (2, str line), (3, Zp o.b o.o o.l.length 0), (43, Zp o.b o.o o.l.length 0), (44, Zp o.b o.o o.l.length 0), (45, Zp o.b o.o o.l.length 0), (46, Zp o.b o.o o.l.length 0), (47, Zp o.b o.o o.l.length 0), (48, Zp o.b o.o o.l.length 0), (49, Zp o.b o.o o.l.length 0), (50, x.base.val), (51, str line), (54, Zp o.b o.o o.l.length 0), (55, Zp o.b o.o o.l.length 0), (56, Zp o.b o.o o.l.length 1), (57, x.ours.val), (61, Zp o.b o.o o.l.length 0), (62, Zp o.b o.o o.l.length 0), (63, Zp o.b o.o o.l.length 2), (64, x.theirs.val), (65, str line), (68, Zp o.b o.o o.l.length 0), (69, Zp o.b o.o o.l.length 0), (70, Zp o.b o.o o.l.length 4), (71, x.out.val), (72, str line), (59, s59.val)] (s59.ok.and Mo.tt) (Ow.star (Blk p [bv.val, ov.val, tv.val, i64 i, i64 j, i64 k, o.val, .bool true] 308) (Ow.star (Sv.own o 261) (Ow.star (Sv.own x.base 9) (Ow.star (Sv.own x.ours 9) (Ow.star (Sv.own x.theirs 9) (Ow.star (Sv.own x.out 9) (Ow.emp)))))))
  refine VG.fork (l := [9, 23, 30]) (by kernel_rfl) rfl (fun i hi => ?_)
  simp only [List.mem_cons, List.not_mem_nil, or_false] at hi
  rcases hi with rfl | rfl | rfl
  ·
   refine VGo.of rfl ?_
   refine VL.lit (α := Str) (xs := [.tmp 51]) (vs := [str line]) [line] Tryz.underlying82 lit9 (by decide) rfl rfl rfl rfl (by decide) (fun _ _ _ _ => trivial) (by decide) (fun s52 hs52 => ?_) (by decide)
   exact VL.backE (D' := [(28, x.out.val), (27, Zp o.b o.o o.l.length 4), (26, Zp o.b o.o o.l.length 0), (21, x.theirs.val), (20, Zp o.b o.o o.l.length 2), (19, Zp o.b o.o o.l.length 0), (14, x.ours.val), (13, Zp o.b o.o o.l.length 1), (12, Zp o.b o.o o.l.length 0), (7, x.base.val), (6, Zp o.b o.o o.l.length 0), (5, Zp o.b o.o o.l.length 0)]) (ks := [0, 2, 3, 43, 44, 45, 46, 47, 48, 49, 50, 54, 55, 56, 57, 61, 62, 63, 64, 65, 68, 69, 70, 71, 72, 52, 59]) (Pend.cons rfl (q_elfo (s := o) one82 rfl hx rfl) (Pend.cons rfl (q_field fa261_4 rfl) (Pend.cons rfl (q_nilCheck rfl) (Pend.cons rfl (q_elfo (s := o) one82 rfl hx rfl) (Pend.cons rfl (q_field fa261_2 rfl) (Pend.cons rfl (q_nilCheck rfl) (Pend.cons rfl (q_elfo (s := o) one82 rfl hx rfl) (Pend.cons rfl (q_field fa261_1 rfl) (Pend.cons rfl (q_nilCheck rfl) (Pend.cons rfl (q_elfo (s := o) one82 rfl hx rfl) (Pend.cons rfl (q_field fa261_0 rfl) (Pend.cons rfl (q_nilCheck rfl) (Pend.nil))))))))))))) (by kernel_rfl) (by kernel_rfl) rfl (key_9_16 (s52, s59) ⟨hs52, hs59⟩)
  ·
   refine VGo.of rfl ?_
   refine VL.lit (α := Str) (xs := [.tmp 65]) (vs := [str line]) [line] Tryz.underlying82 lit9 (by decide) rfl rfl rfl rfl (by decide) (fun _ _ _ _ => trivial) (by decide) (fun s66 hs66 => ?_) (by decide)
   exact VL.backE (D' := [(28, x.out.val), (27, Zp o.b o.o o.l.length 4), (26, Zp o.b o.o o.l.length 0), (21, x.theirs.val), (20, Zp o.b o.o o.l.length 2), (19, Zp o.b o.o o.l.length 0), (14, x.ours.val), (13, Zp o.b o.o o.l.length 1), (12, Zp o.b o.o o.l.length 0), (7, x.base.val), (6, Zp o.b o.o o.l.length 0), (5, Zp o.b o.o o.l.length 0)]) (ks := [0, 2, 3, 43, 44, 45, 46, 47, 48, 49, 50, 51, 54, 55, 56, 57, 61, 62, 63, 64, 68, 69, 70, 71, 72, 59, 66]) (Pend.cons rfl (q_elfo (s := o) one82 rfl hx rfl) (Pend.cons rfl (q_field fa261_4 rfl) (Pend.cons rfl (q_nilCheck rfl) (Pend.cons rfl (q_elfo (s := o) one82 rfl hx rfl) (Pend.cons rfl (q_field fa261_2 rfl) (Pend.cons rfl (q_nilCheck rfl) (Pend.cons rfl (q_elfo (s := o) one82 rfl hx rfl) (Pend.cons rfl (q_field fa261_1 rfl) (Pend.cons rfl (q_nilCheck rfl) (Pend.cons rfl (q_elfo (s := o) one82 rfl hx rfl) (Pend.cons rfl (q_field fa261_0 rfl) (Pend.cons rfl (q_nilCheck rfl) (Pend.nil))))))))))))) (by kernel_rfl) (by kernel_rfl) rfl (key_16_23 (s59, s66) ⟨hs59, hs66⟩)
  refine VGo.of rfl ?_
  refine VL.lit (α := Str) (xs := [.tmp 72]) (vs := [str line]) [line] Tryz.underlying82 lit9 (by decide) rfl rfl rfl rfl (by decide) (fun _ _ _ _ => trivial) (by decide) (fun s73 hs73 => ?_) (by decide)
  exact VL.backE (D' := [(28, x.out.val), (27, Zp o.b o.o o.l.length 4), (26, Zp o.b o.o o.l.length 0), (21, x.theirs.val), (20, Zp o.b o.o o.l.length 2), (19, Zp o.b o.o o.l.length 0), (14, x.ours.val), (13, Zp o.b o.o o.l.length 1), (12, Zp o.b o.o o.l.length 0), (7, x.base.val), (6, Zp o.b o.o o.l.length 0), (5, Zp o.b o.o o.l.length 0)]) (ks := [0, 2, 3, 43, 44, 45, 46, 47, 48, 49, 50, 51, 54, 55, 56, 57, 61, 62, 63, 64, 65, 68, 69, 70, 71, 59, 73]) (Pend.cons rfl (q_elfo (s := o) one82 rfl hx rfl) (Pend.cons rfl (q_field fa261_4 rfl) (Pend.cons rfl (q_nilCheck rfl) (Pend.cons rfl (q_elfo (s := o) one82 rfl hx rfl) (Pend.cons rfl (q_field fa261_2 rfl) (Pend.cons rfl (q_nilCheck rfl) (Pend.cons rfl (q_elfo (s := o) one82 rfl hx rfl) (Pend.cons rfl (q_field fa261_1 rfl) (Pend.cons rfl (q_nilCheck rfl) (Pend.cons rfl (q_elfo (s := o) one82 rfl hx rfl) (Pend.cons rfl (q_field fa261_0 rfl) (Pend.cons rfl (q_nilCheck rfl) (Pend.nil))))))))))))) (by kernel_rfl) (by kernel_rfl) rfl (key_16_30 (s59, s73) ⟨hs59, hs73⟩)
 refine VG.via (S := Sv Str) (fun sg => sg.l = [line]) 19 (fun sg => [(28, x.out.val), (27, Zp o.b o.o o.l.length 4), (26, Zp o.b o.o o.l.length 0), (21, x.theirs.val), (20, Zp o.b o.o o.l.length 2), (19, Zp o.b o.o o.l.length 0), (14, x.ours.val), (13, Zp o.b o.o o.l.length 1), (12, Zp o.b o.o o.l.length 0), (7, x.base.val), (6, Zp o.b o.o o.l.length 0), (5, Zp o.b o.o o.l.length 0)]) #[true, true, true, true, true, true, true, true, true, false, false, true, true, true, true, true, false, false, true, true, true, true, true, true, false, true, true, true, true, true, false, false, false, false, false, false, false, false, false, false, false, false, false, false] (fun sg => [(0, ptr p 0), (2, str line), (3, Zp o.b o.o o.l.length 0), (43, Zp o.b o.o o.l.length 0), (44, Zp o.b o.o o.l.length 0), (45, Zp o.b o.o o.l.length 0), (46, Zp o.b o.o o.l.length 0), (47, Zp o.b o.o o.l.length 0), (48, Zp o.b o.o o.l.length 0), (49, Zp o.b o.o o.l.length 0), (50, x.base.val), (51, str line), (54, Zp o.b o.o o.l.length 0), (55, Zp o.b o.o o.l.length 0), (56, Zp o.b o.o o.l.length 1), (57, x.ours.val), (58, str line), (61, Zp o.b o.o o.l.length 0), (62, Zp o.b o.o o.l.length 0), (63, Zp o.b o.o o.l.length 2), (64, x.theirs.val), (68, Zp o.b o.o o.l.length 0), (69, Zp o.b o.o o.l.length 0), (70, Zp o.b o.o o.l.length 4), (71, x.out.val), (72, str line), (66, sg.val)]) (fun sg => (sg.ok.and Mo.tt)) (fun sg => Ow.star (Blk p [bv.val, ov.val, tv.val, i64 i, i64 j, i64 k, o.val, .bool true] 308) (Ow.star (Sv.own o 261) (Ow.star (Sv.own x.base 9) (Ow.star (Sv.own x.ours 9) (Ow.star (Sv.own x.theirs 9) (Ow.star (Sv.own x.out 9) (Ow.emp))))))) ?_ fun key_23 => ?_
 ·
  rintro s66 hs66
  try dsimp only at hs66
  show VG _ _ _ _ _ _ [(28, x.out.val), (27, Zp o.b o.o o.l.length 4), (26, Zp o.b o.o o.l.length 0), (21, x.theirs.val), (20, Zp o.b o.o o.l.length 2), (19, Zp o.b o.o o.l.length 0), (14, x.ours.val), (13, Zp o.b o.o o.l.length 1), (12, Zp o.b o.o o.l.length 0), (7, x.base.val), (6, Zp o.b o.o o.l.length 0), (5, Zp o.b o.o o.l.length 0)] _ [(0, ptr p 0), (2, str line), (3, Zp o.b o.o o.l.length 0), (43, Zp o.b o.o o.l.length 0), (44, Zp o.b o.o o.l.length 0), (45, Zp o.b o.o o.l.length 0), (46, Zp o.b o.o o.l.length 0), (47, Zp o.b o.o o.l.length 0), (48, Zp o.b o.o o.l.length 0), (49, Zp o.b o.o o.l.length 0), (50, x.base.val), (51, str line), (54, Zp o.b o.o o.l.length 0), (55, Zp o.b o.o o.l.length 0), (56, Zp o.b o.o o.l.length 1), (57, x.ours.val), (58, str line), (61, Zp o.b o.o o.l.length 0), (62, Zp o.b o.o o.l.length 0), (63, Zp o.b o.o o.l.length 2), (64, x.theirs.val), (68, Zp o.b o.o o.l.length 0), (69, Zp o.b o.o o.l.length 0), (70, Zp o.b o.o o.l.length 4), (71, x.out.val), (72, str line), (66, s66.val)] (s66.ok.and Mo.tt) (Ow.star (Blk p [bv.val, ov.val, tv.val, i64 i, i64 j, i64 k, o.val, .bool true] 308) (Ow.star (Sv.own o 261) (Ow.star (Sv.own x.base 9) (Ow.star (Sv.own x.ours 9) (Ow.star (Sv.own x.theirs 9) (Ow.star (Sv.own x.out 9) (Ow.emp)))))))
  refine VG.fork (l := [9, 16, 30]) (by kernel_rfl) rfl (fun i hi => ?_)
  simp only [List.mem_cons, List.not_mem_nil, or_false] at hi
  rcases hi with rfl | rfl | rfl
  ·
   refine VGo.of rfl ?_
   refine VL.lit (α := Str) (xs := [.tmp 51]) (vs := [str line]) [line] Tryz.underlying82 lit9 (by decide) rfl rfl rfl rfl (by decide) (fun _ _ _ _ => trivial) (by decide) (fun s52 hs52 => ?_) (by decide)
   exact VL.backE (D' := [(28, x.out.val), (27, Zp o.b o.o o.l.length 4), (26, Zp o.b o.o o.l.length 0), (21, x.theirs.val), (20, Zp o.b o.o o.l.length 2), (19, Zp o.b o.o o.l.length 0), (14, x.ours.val), (13, Zp o.b o.o o.l.length 1), (12, Zp o.b o.o o.l.length 0), (7, x.base.val), (6, Zp o.b o.o o.l.length 0), (5, Zp o.b o.o o.l.length 0)]) (ks := [0, 2, 3, 43, 44, 45, 46, 47, 48, 49, 50, 54, 55, 56, 57, 58, 61, 62, 63, 64, 68, 69, 70, 71, 72, 52, 66]) (Pend.cons rfl (q_elfo (s := o) one82 rfl hx rfl) (Pend.cons rfl (q_field fa261_4 rfl) (Pend.cons rfl (q_nilCheck rfl) (Pend.cons rfl (q_elfo (s := o) one82 rfl hx rfl) (Pend.cons rfl (q_field fa261_2 rfl) (Pend.cons rfl (q_nilCheck rfl) (Pend.cons rfl (q_elfo (s := o) one82 rfl hx rfl) (Pend.cons rfl (q_field fa261_1 rfl) (Pend.cons rfl (q_nilCheck rfl) (Pend.cons rfl (q_elfo (s := o) one82 rfl hx rfl) (Pend.cons rfl (q_field fa261_0 rfl) (Pend.cons rfl (q_nilCheck rfl) (Pend.nil))))))))))))) (by kernel_rfl) (by kernel_rfl) rfl (key_9_23 (s52, s66) ⟨hs52, hs66⟩)
  ·
   refine VGo.of rfl ?_
   refine VL.lit (α := Str) (xs := [.tmp 58]) (vs := [str line]) [line] Tryz.underlying82 lit9 (by decide) rfl rfl rfl rfl (by decide) (fun _ _ _ _ => trivial) (by decide) (fun s59 hs59 => ?_) (by decide)
   exact VL.backE (D' := [(28, x.out.val), (27, Zp o.b o.o o.l.length 4), (26, Zp o.b o.o o.l.length 0), (21, x.theirs.val), (20, Zp o.b o.o o.l.length 2), (19, Zp o.b o.o o.l.length 0), (14, x.ours.val), (13, Zp o.b o.o o.l.length 1), (12, Zp o.b o.o o.l.length 0), (7, x.base.val), (6, Zp o.b o.o o.l.length 0), (5, Zp o.b o.o o.l.length 0)]) (ks := [0, 2, 3, 43, 44, 45, 46, 47, 48, 49, 50, 51, 54, 55, 56, 57, 61, 62, 63, 64, 68, 69, 70, 71, 72, 59, 66]) (Pend.cons rfl (q_elfo (s := o) one82 rfl hx rfl) (Pend.cons rfl (q_field fa261_4 rfl) (Pend.cons rfl (q_nilCheck rfl) (Pend.cons rfl (q_elfo (s := o) one82 rfl hx rfl) (Pend.cons rfl (q_field fa261_2 rfl) (Pend.cons rfl (q_nilCheck rfl) (Pend.cons rfl (q_elfo (s := o) one82 rfl hx rfl) (Pend.cons rfl (q_field fa261_1 rfl) (Pend.cons rfl (q_nilCheck rfl) (Pend.cons rfl (q_elfo (s := o) one82 rfl hx rfl) (Pend.cons rfl (q_field fa261_0 rfl) (Pend.cons rfl (q_nilCheck rfl) (Pend.nil))))))))))))) (by kernel_rfl) (by kernel_rfl) rfl (key_16_23 (s59, s66) ⟨hs59, hs66⟩)
  refine VGo.of rfl ?_
  refine VL.lit (α := Str) (xs := [.tmp 72]) (vs := [str line]) [line] Tryz.underlying82 lit9 (by decide) rfl rfl rfl rfl (by decide) (fun _ _ _ _ => trivial) (by decide) (fun s73 hs73 => ?_) (by decide)
  exact VL.backE (D' := [(28, x.out.val), (27, Zp o.b o.o o.l.length 4), (26, Zp o.b o.o o.l.length 0), (21, x.theirs.val), (20, Zp o.b o.o o.l.length 2), (19, Zp o.b o.o o.l.length 0), (14, x.ours.val), (13, Zp o.b o.o o.l.length 1), (12, Zp o.b o.o o.l.length 0), (7, x.base.val), (6, Zp o.b o.o o.l.length 0), (5, Zp o.b o.o o.l.length 0)]) (ks := [0, 2, 3, 43, 44, 45, 46, 47, 48, 49, 50, 51, 54, 55, 56, 57, 58, 61, 62, 63, 64, 68, 69, 70, 71, 66, 73]) (Pend.cons rfl (q_elfo (s := o) one82 rfl hx rfl) (Pend.cons rfl (q_field fa261_4 rfl) (Pend.cons rfl (q_nilCheck rfl) (Pend.cons rfl (q_elfo (s := o) one82 rfl hx rfl) (Pend.cons rfl (q_field fa261_2 rfl) (Pend.cons rfl (q_nilCheck rfl) (Pend.cons rfl (q_elfo (s := o) one82 rfl hx rfl) (Pend.cons rfl (q_field fa261_1 rfl) (Pend.cons rfl (q_nilCheck rfl) (Pend.cons rfl (q_elfo (s := o) one82 rfl hx rfl) (Pend.cons rfl (q_field fa261_0 rfl) (Pend.cons rfl (q_nilCheck rfl) (Pend.nil))))))))))))) (by kernel_rfl) (by kernel_rfl) rfl (key_23_30 (s66, s73) ⟨hs66, hs73⟩)
 refine VG.via (S := Sv Str) (fun sg => sg.l = [line]) 19 (fun sg => [(28, x.out.val), (27, Zp o.b o.o o.l.length 4), (26, Zp o.b o.o o.l.length 0), (21, x.theirs.val), (20, Zp o.b o.o o.l.length 2), (19, Zp o.b o.o o.l.length 0), (14, x.ours.val), (13, Zp o.b o.o o.l.length 1), (12, Zp o.b o.o o.l.length 0), (7, x.base.val), (6, Zp o.b o.o o.l.length 0), (5, Zp o.b o.o o.l.length 0)]) #[true, true, true, true, true, true, true, true, true, false, false, true, true, true, true, true, false, false, true, true, true, true, true, false, false, true, true, true, true, true, true, false, false, false, false, false, false, false, false, false, false, false, false, false] (fun sg => [(0, ptr p 0), (2, str line), (3, Zp o.b o.o o.l.length 0), (43, Zp o.b o.o o.l.length 0), (44, Zp o.b o.o o.l.length 0), (45, Zp o.b o.o o.l.length 0), (46, Zp o.b o.o o.l.length 0), (47, Zp o.b o.o o.l.length 0), (48, Zp o.b o.o o.l.length 0), (49, Zp o.b o.o o.l.length 0), (50, x.base.val), (51, str line), (54, Zp o.b o.o o.l.length 0), (55, Zp o.b o.o o.l.length 0), (56, Zp o.b o.o o.l.length 1), (57, x.ours.val), (58, str line), (61, Zp o.b o.o o.l.length 0), (62, Zp o.b o.o o.l.length 0), (63, Zp o.b o.o o.l.length 2), (64, x.theirs.val), (65, str line), (68, Zp o.b o.o o.l.length 0), (69, Zp o.b o.o o.l.length 0), (70, Zp o.b o.o o.l.length 4), (71, x.out.val), (73, sg.val)]) (fun sg => (sg.ok.and Mo.tt)) (fun sg => Ow.star (Blk p [bv.val, ov.val, tv.val, i64 i, i64 j, i64 k, o.val, .bool true] 308) (Ow.star (Sv.own o 261) (Ow.star (Sv.own x.base 9) (Ow.star (Sv.own x.ours 9) (Ow.star (Sv.own x.theirs 9) (Ow.star (Sv.own x.out 9) (Ow.emp))))))) ?_ fun key_30 => ?_
 ·
  rintro s73 hs73
  try dsimp only at hs73
  show VG _ _ _ _ _ _ [(28, x.out.val), (27, Zp o.b o.o o.l.length 4), (26, Zp o.b o.o o.l.length 0), (21, x.theirs.val), (20, Zp o.b o.o o.l.length 2), (19, Zp o.b o.o o.l.length 0), (14, x.ours.val), (13, Zp o.b o.o o.l.length 1), (12, Zp o.b o.o o.l.length 0), (7, x.base.val), (6, Zp o.b o.o o.l.length 0), (5, Zp o.b o.o o.l.length 0)] _ [(0, ptr p 0), (2, str line), (3, Zp o.b o.o o.l.length 0), (43, Zp o.b o.o o.l.length 0), (44, Zp o.b o.o o.l.length 0), (45, Zp o.b o.o o.l.length 0), (46, Zp o.b o.o o.l.length 0), (47, Zp o.b o.o o.l.length 0), (48, Zp o.b o.o o.l.length 0), (49, Zp o.b o.o o.l.length 0), (50, x.base.val), (51, str line), (54, Zp o.b o.o o.l.length 0), (55, Zp o.b o.o o.l.length 0), (56, Zp o.b o.o o.l.length 1), (57, x.ours.val), (58, str line), (61, Zp o.b o.o o.l.length 0), (62, Zp o.b o.o o.l.length 0), (63, Zp o.b o.o o.l.length 2), (64, x.theirs.val), (65, str line), (68, Zp o.b o.o o.l.length 0), (69, Zp o.b o.o o.l.length 0), (70, Zp o.b o.o o.l.length 4), (71, x.out.val), (73, s73.val)] (s73.ok.and Mo.tt) (Ow.star (Blk p [bv.val, ov.val, tv.val, i64 i, i64 j, i64 k, o.val, .bool true] 308) (Ow.star (Sv.own o 261) (Ow.star (Sv.own x.base 9) (Ow.star (Sv.own x.ours 9) (Ow.star (Sv.own x.theirs 9) (Ow.star (Sv.own x.out 9) (Ow.emp)))))))
  refine VG.fork (l := [9, 16, 23]) (by kernel_rfl) rfl (fun i hi => ?_)
  simp only [List.mem_cons, List.not_mem_nil, or_false] at hi
  rcases hi with rfl | rfl | rfl
  ·
   refine VGo.of rfl ?_
   refine VL.lit (α := Str) (xs := [.tmp 51]) (vs := [str line]) [line] Tryz.underlying82 lit9 (by decide) rfl rfl rfl rfl (by decide) (fun _ _ _ _ => trivial) (by decide) (fun s52 hs52 => ?_) (by decide)
   exact VL.backE (D' := [(28, x.out.val), (27, Zp o.b o.o o.l.length 4), (26, Zp o.b o.o o.l.length 0), (21, x.theirs.val), (20, Zp o.b o.o o.l.length 2), (19, Zp o.b o.o o.l.length 0), (14, x.ours.val), (13, Zp o.b o.o o.l.length 1), (12, Zp o.b o.o o.l.length 0), (7, x.base.val), (6, Zp o.b o.o o.l.length 0), (5, Zp o.b o.o o.l.length 0)]) (ks := [0, 2, 3, 43, 44, 45, 46, 47, 48, 49, 50, 54, 55, 56, 57, 58, 61, 62, 63, 64, 65, 68, 69, 70, 71, 52, 73]) (Pend.cons rfl (q_elfo (s := o) one82 rfl hx rfl) (Pend.cons rfl (q_field fa261_4 rfl) (Pend.cons rfl (q_nilCheck rfl) (Pend.cons rfl (q_elfo (s := o) one82 rfl hx rfl) (Pend.cons rfl (q_field fa261_2 rfl) (Pend.cons rfl (q_nilCheck rfl) (Pend.cons rfl (q_elfo (s := o) one82 rfl hx rfl) (Pend.cons rfl (q_field fa261_1 rfl) (Pend.cons rfl (q_nilCheck rfl) (Pend.cons rfl (q_elfo (s := o) one82 rfl hx rfl) (Pend.cons rfl (q_field fa261_0 rfl) (Pend.cons rfl (q_nilCheck rfl) (Pend.nil))))))))))))) (by kernel_rfl) (by kernel_rfl) rfl (key_9_30 (s52, s73) ⟨hs52, hs73⟩)
  ·
   refine VGo.of rfl ?_
   refine VL.lit (α := Str) (xs := [.tmp 58]) (vs := [str line]) [line] Tryz.underlying82 lit9 (by decide) rfl rfl rfl rfl (by decide) (fun _ _ _ _ => trivial) (by decide) (fun s59 hs59 => ?_) (by decide)
   exact VL.backE (D' := [(28, x.out.val), (27, Zp o.b o.o o.l.length 4), (26, Zp o.b o.o o.l.length 0), (21, x.theirs.val), (20, Zp o.b o.o o.l.length 2), (19, Zp o.b o.o o.l.length 0), (14, x.ours.val), (13, Zp o.b o.o o.l.length 1), (12, Zp o.b o.o o.l.length 0), (7, x.base.val), (6, Zp o.b o.o o.l.length 0), (5, Zp o.b o.o o.l.length 0)]) (ks := [0, 2, 3, 43, 44, 45, 46, 47, 48, 49, 50, 51, 54, 55, 56, 57, 61, 62, 63, 64, 65, 68, 69, 70, 71, 59, 73]) (Pend.cons rfl (q_elfo (s := o) one82 rfl hx rfl) (Pend.cons rfl (q_field fa261_4 rfl) (Pend.cons rfl (q_nilCheck rfl) (Pend.cons rfl (q_elfo (s := o) one82 rfl hx rfl) (Pend.cons rfl (q_field fa261_2 rfl) (Pend.cons rfl (q_nilCheck rfl) (Pend.cons rfl (q_elfo (s := o) one82 rfl hx rfl) (Pend.cons rfl (q_field fa261_1 rfl) (Pend.cons rfl (q_nilCheck rfl) (Pend.cons rfl (q_elfo (s := o) one82 rfl hx rfl) (Pend.cons rfl (q_field fa261_0 rfl) (Pend.cons rfl (q_nilCheck rfl) (Pend.nil))))))))))))) (by kernel_rfl) (by kernel_rfl) rfl (key_16_30 (s59, s73) ⟨hs59, hs73⟩)
  refine VGo.of rfl ?_
  refine VL.lit (α := Str) (xs := [.tmp 65]) (vs := [str line]) [line] Tryz.underlying82 lit9 (by decide) rfl rfl rfl rfl (by decide) (fun _ _ _ _ => trivial) (by decide) (fun s66 hs66 => ?_) (by decide)
  exact VL.backE (D' := [(28, x.out.val), (27, Zp o.b o.o o.l.length 4), (26, Zp o.b o.o o.l.length 0), (21, x.theirs.val), (20, Zp o.b o.o o.l.length 2), (19, Zp o.b o.o o.l.length 0), (14, x.ours.val), (13, Zp o.b o.o o.l.length 1), (12, Zp o.b o.o o.l.length 0), (7, x.base.val), (6, Zp o.b o.o o.l.length 0), (5, Zp o.b o.o o.l.length 0)]) (ks := [0, 2, 3, 43, 44, 45, 46, 47, 48, 49, 50, 51, 54, 55, 56, 57, 58, 61, 62, 63, 64, 68, 69, 70, 71, 66, 73]) (Pend.cons rfl (q_elfo (s := o) one82 rfl hx rfl) (Pend.cons rfl (q_field fa261_4 rfl) (Pend.cons rfl (q_nilCheck rfl) (Pend.cons rfl (q_elfo (s := o) one82 rfl hx rfl) (Pend.cons rfl (q_field fa261_2 rfl) (Pend.cons rfl (q_nilCheck rfl) (Pend.cons rfl (q_elfo (s := o) one82 rfl hx rfl) (Pend.cons rfl (q_field fa261_1 rfl) (Pend.cons rfl (q_nilCheck rfl) (Pend.cons rfl (q_elfo (s := o) one82 rfl hx rfl) (Pend.cons rfl (q_field fa261_0 rfl) (Pend.cons rfl (q_nilCheck rfl) (Pend.nil))))))))))))) (by kernel_rfl) (by kernel_rfl) rfl (key_23_30 (s66, s73) ⟨hs66, hs73⟩)
 refine VG.fork (l := [9, 16, 23, 30]) (by kernel_rfl) rfl (fun i hi => ?_)
 simp only [List.mem_cons, List.not_mem_nil, or_false] at hi
 rcases hi with rfl | rfl | rfl | rfl
 ·
  refine VGo.of rfl ?_
  refine VL.lit (α := Str) (xs := [.tmp 51]) (vs := [str line]) [line] Tryz.underlying82 lit9 (by decide) rfl rfl rfl rfl (by decide) (fun _ _ _ _ => trivial) (by decide) (fun s52 hs52 => ?_) (by decide)
  exact VL.backE (D' := [(28, x.out.val), (27, Zp o.b o.o o.l.length 4), (26, Zp o.b o.o o.l.length 0), (21, x.theirs.val), (20, Zp o.b o.o o.l.length 2), (19, Zp o.b o.o o.l.length 0), (14, x.ours.val), (13, Zp o.b o.o o.l.length 1), (12, Zp o.b o.o o.l.length 0), (7, x.base.val), (6, Zp o.b o.o o.l.length 0), (5, Zp o.b o.o o.l.length 0)]) (ks := [0, 2, 3, 43, 44, 45, 46, 47, 48, 49, 50, 54, 55, 56, 57, 58, 61, 62, 63, 64, 65, 68, 69, 70, 71, 72, 52]) (Pend.cons rfl (q_elfo (s := o) one82 rfl hx rfl) (Pend.cons rfl (q_field fa261_4 rfl) (Pend.cons rfl (q_nilCheck rfl) (Pend.cons rfl (q_elfo (s := o) one82 rfl hx rfl) (Pend.cons rfl (q_field fa261_2 rfl) (Pend.cons rfl (q_nilCheck rfl) (Pend.cons rfl (q_elfo (s := o) one82 rfl hx rfl) (Pend.cons rfl (q_field fa261_1 rfl) (Pend.cons rfl (q_nilCheck rfl) (Pend.cons rfl (q_elfo (s := o) one82 rfl hx rfl) (Pend.cons rfl (q_field fa261_0 rfl) (Pend.cons rfl (q_nilCheck rfl) (Pend.nil))))))))))))) (by kernel_rfl) (by kernel_rfl) rfl (key_9 (s52) (hs52))
 ·
  refine VGo.of rfl ?_
  refine VL.lit (α := Str) (xs := [.tmp 58]) (vs := [str line]) [line] Tryz.underlying82 lit9 (by decide) rfl rfl rfl rfl (by decide) (fun _ _ _ _ => trivial) (by decide) (fun s59 hs59 => ?_) (by decide)
  exact VL.backE (D' := [(28, x.out.val), (27, Zp o.b o.o o.l.length 4), (26, Zp o.b o.o o.l.length 0), (21, x.theirs.val), (20, Zp o.b o.o o.l.length 2), (19, Zp o.b o.o o.l.length 0), (14, x.ours.val), (13, Zp o.b o.o o.l.length 1), (12, Zp o.b o.o o.l.length 0), (7, x.base.val), (6, Zp o.b o.o o.l.length 0), (5, Zp o.b o.o o.l.length 0)]) (ks := [0, 2, 3, 43, 44, 45, 46, 47, 48, 49, 50, 51, 54, 55, 56, 57, 61, 62, 63, 64, 65, 68, 69, 70, 71, 72, 59]) (Pend.cons rfl (q_elfo (s := o) one82 rfl hx rfl) (Pend.cons rfl (q_field fa261_4 rfl) (Pend.cons rfl (q_nilCheck rfl) (Pend.cons rfl (q_elfo (s := o) one82 rfl hx rfl) (Pend.cons rfl (q_field fa261_2 rfl) (Pend.cons rfl (q_nilCheck rfl) (Pend.cons rfl (q_elfo (s := o) one82 rfl hx rfl) (Pend.cons rfl (q_field fa261_1 rfl) (Pend.cons rfl (q_nilCheck rfl) (Pend.cons rfl (q_elfo (s := o) one82 rfl hx rfl) (Pend.cons rfl (q_field fa261_0 rfl) (Pend.cons rfl (q_nilCheck rfl) (Pend.nil))))))))))))) (by kernel_rfl) (by kernel_rfl) rfl (key_16 (s59) (hs59))
 ·
  refine VGo.of rfl ?_
  refine VL.lit (α := Str) (xs := [.tmp 65]) (vs := [str line]) [line] Tryz.underlying82 lit9 (by decide) rfl rfl rfl rfl (by decide) (fun _ _ _ _ => trivial) (by decide) (fun s66 hs66 => ?_) (by decide)
  exact VL.backE (D' := [(28, x.out.val), (27, Zp o.b o.o o.l.length 4), (26, Zp o.b o.o o.l.length 0), (21, x.theirs.val), (20, Zp o.b o.o o.l.length 2), (19, Zp o.b o.o o.l.length 0), (14, x.ours.val), (13, Zp o.b o.o o.l.length 1), (12, Zp o.b o.o o.l.length 0), (7, x.base.val), (6, Zp o.b o.o o.l.length 0), (5, Zp o.b o.o o.l.length 0)]) (ks := [0, 2, 3, 43, 44, 45, 46, 47, 48, 49, 50, 51, 54, 55, 56, 57, 58, 61, 62, 63, 64, 68, 69, 70, 71, 72, 66]) (Pend.cons rfl (q_elfo (s := o) one82 rfl hx rfl) (Pend.cons rfl (q_field fa261_4 rfl) (Pend.cons rfl (q_nilCheck rfl) (Pend.cons rfl (q_elfo (s := o) one82 rfl hx rfl) (Pend.cons rfl (q_field fa261_2 rfl) (Pend.cons rfl (q_nilCheck rfl) (Pend.cons rfl (q_elfo (s := o) one82 rfl hx rfl) (Pend.cons rfl (q_field fa261_1 rfl) (Pend.cons rfl (q_nilCheck rfl) (Pend.cons rfl (q_elfo (s := o) one82 rfl hx rfl) (Pend.cons rfl (q_field fa261_0 rfl) (Pend.cons rfl (q_nilCheck rfl) (Pend.nil))))))))))))) (by kernel_rfl) (by kernel_rfl) rfl (key_23 (s66) (hs66))
 refine VGo.of rfl ?_
 refine VL.lit (α := Str) (xs := [.tmp 72]) (vs := [str line]) [line] Tryz.underlying82 lit9 (by decide) rfl rfl rfl rfl (by decide) (fun _ _ _ _ => trivial) (by decide) (fun s73 hs73 => ?_) (by decide)
 exact VL.backE (D' := [(28, x.out.val), (27, Zp o.b o.o o.l.length 4), (26, Zp o.b o.o o.l.length 0), (21, x.theirs.val), (20, Zp o.b o.o o.l.length 2), (19, Zp o.b o.o o.l.length 0), (14, x.ours.val), (13, Zp o.b o.o o.l.length 1), (12, Zp o.b o.o o.l.length 0), (7, x.base.val), (6, Zp o.b o.o o.l.length 0), (5, Zp o.b o.o o.l.length 0)]) (ks := [0, 2, 3, 43, 44, 45, 46, 47, 48, 49, 50, 51, 54, 55, 56, 57, 58, 61, 62, 63, 64, 65, 68, 69, 70, 71, 73]) (Pend.cons rfl (q_elfo (s := o) one82 rfl hx rfl) (Pend.cons rfl (q_field fa261_4 rfl) (Pend.cons rfl (q_nilCheck rfl) (Pend.cons rfl (q_elfo (s := o) one82 rfl hx rfl) (Pend.cons rfl (q_field fa261_2 rfl) (Pend.cons rfl (q_nilCheck rfl) (Pend.cons rfl (q_elfo (s := o) one82 rfl hx rfl) (Pend.cons rfl (q_field fa261_1 rfl) (Pend.cons rfl (q_nilCheck rfl) (Pend.cons rfl (q_elfo (s := o) one82 rfl hx rfl) (Pend.cons rfl (q_field fa261_0 rfl) (Pend.cons rfl (q_nilCheck rfl) (Pend.nil))))))))))))) (by kernel_rfl) (by kernel_rfl) rfl (key_30 (s73) (hs73))
end Go.Proofs.YtleokmhhloamaaaGreatDoor
end

section
namespace Go.Proofs.YtleokmhhloamaaaGreatDoor
open Go.RowKit Go.V
open Go.P hiding Str
theorem upto_all (p : Nat) (bv ov tv : Sv Str) (o : Sv Ck) (fr : List Ck) (x : Ck) (s : Wk) (i' j' k' : Int) (hR : Rel s o fr x) (i0 : 0 ≤ s.i) (i1 : s.i ≤ i') (i2 : i' ≤ bv.l.length) (j0 : 0 ≤ s.j) (j1 : s.j ≤ j') (j2 : j' ≤ ov.l.length) (k0 : 0 ≤ s.k) (k1 : s.k ≤ k') (k2 : k' ≤ tv.l.length) (hb : bv.l.length ≤ 256) (ho : ov.l.length ≤ 256) (ht : tv.l.length ≤ 256) (hl : o.l.length ≤ 1048576) :
    Ct Tryz.prog 225 [ptr p 0, i64 i', i64 j', i64 k'] ((MA fr).and (bv.ok.and (ov.ok.and tv.ok))) (Ow.star (Blk p [bv.val, ov.val, tv.val, i64 s.i, i64 s.j, i64 s.k, o.val, .bool s.op] 308) (Ow.star (o.own 261) (OpenO s.op x))) (X := Sv Ck × List Ck × Ck) (fun _ => .tuple #[]) (fun y => Rel (put bv.l ov.l tv.l s i' j' k') y.1 y.2.1 y.2.2) (fun y => MA y.2.1) (fun y => Ow.star (Blk p [bv.val, ov.val, tv.val, i64 i', i64 j', i64 k', y.1.val, .bool (put bv.l ov.l tv.l s i' j' k').op] 308) (Ow.star (y.1.own 261) (OpenO (put bv.l ov.l tv.l s i' j' k').op y.2.2))) :=
  ⟨(upto_none p bv ov tv o s.op s.i s.j s.k s.i s.j s.k (by omega) (by omega) (by omega)).entry, fun w h e m ee d l kk => by
    have s0 := St.start m ee d l kk
    obtain ⟨i, j, k, out, op⟩ := s
    dsimp only at *
    by_cases hput : i < i' ∨ j < j' ∨ k < k'
    · have hp : put bv.l ov.l tv.l ⟨i, j, k, out, op⟩ i' j' k' = ⟨i', j', k', out ++ [gapv (sl bv.l i i') (sl ov.l j j') (sl tv.l k k')], false⟩ := if_pos hput
      rw [hp]
      have fin : ∀ (y : Sv Ck × Ck), y.1.l = o.l ++ [y.2] ∧ y.2.pl = gapv (sl bv.l i i') (sl ov.l j j') (sl tv.l k k') → Rel ⟨i', j', k', out ++ [gapv (sl bv.l i i') (sl ov.l j j') (sl tv.l k k')], false⟩ y.1 y.1.l nilck := fun y ⟨q1, q2⟩ =>
        ⟨fun q => (by cases q), fun _ => ⟨rfl, rfl⟩, by rw [q1, List.map_append, hR.out]; simp [q2]⟩
      cases op with
      | true =>
        have s1 : St ⟨w, h, fun b => e b ≠ none⟩ _ (Ow.star (Blk p [bv.val, ov.val, tv.val, i64 i, i64 j, i64 k, o.val, .bool true] 308) (Ow.star (o.own 261) (Ow.star (x.base.own 9) (Ow.star (x.ours.own 9) (Ow.star (x.theirs.own 9) (x.out.own 9)))))) w := s0
        have s2 : St ⟨w, h, fun b => e b ≠ none⟩ (x.base.ok.and (x.ours.ok.and (x.theirs.ok.and (x.out.ok.and ((MA fr).and (bv.ok.and (ov.ok.and tv.ok))))))) (Ow.star (Blk p [bv.val, ov.val, tv.val, i64 i, i64 j, i64 k, o.val, .bool true] 308) (o.own 261)) w := ((((s1.shut x.out 9).shut x.theirs 9).shut x.ours 9).shut x.base 9).mono (fun _ q => q) EntO.out
        refine (Ct.at (upto_ct p bv ov tv o true i j k i' j' k' hput i0 i1 i2 j0 j1 j2 k0 k1 k2 hb ho ht hl) (InM.out (M := x.base.ok.and (x.ours.ok.and (x.theirs.ok.and (x.out.ok.and ((MA fr).and (bv.ok.and (ov.ok.and tv.ok)))))))) Foc.all s2).mono fun en w' ⟨r, h1, y, h2, h3, h4⟩ => ⟨r, h1, (y.1, y.1.l, nilck), h2, fin y h3, ?_⟩
        refine h4.mono (fun hp q => ?_) (by dsimp only; exact EntO.out)
        obtain ⟨q1, q2, q3, q4, q5, q6, _⟩ := q
        show (MA y.1.l).on hp
        rw [h3.1, hR.yes rfl]
        intro z hz
        rcases List.mem_append.1 hz with hz | hz
        · rcases List.mem_append.1 hz with hz | hz
          · exact q6 z hz
          · cases List.mem_singleton.1 hz; exact ⟨q2, q3, q4, q5⟩
        · cases List.mem_singleton.1 hz; exact q1
      | false =>
        have s1 : St ⟨w, h, fun b => e b ≠ none⟩ ((MA fr).and (bv.ok.and (ov.ok.and tv.ok))) (Ow.star (Blk p [bv.val, ov.val, tv.val, i64 i, i64 j, i64 k, o.val, .bool false] 308) (o.own 261)) w := s0.mono (fun _ q => q) (EntO.out (E := Ow.star (Blk p [bv.val, ov.val, tv.val, i64 i, i64 j, i64 k, o.val, .bool false] 308) (Ow.star (o.own 261) Ow.emp)))
        refine (Ct.at (upto_ct p bv ov tv o false i j k i' j' k' hput i0 i1 i2 j0 j1 j2 k0 k1 k2 hb ho ht hl) (InM.out (M := (MA fr).and (bv.ok.and (ov.ok.and tv.ok)))) Foc.all s1).mono fun en w' ⟨r, h1, y, h2, h3, h4⟩ => ⟨r, h1, (y.1, y.1.l, nilck), h2, fin y h3, ?_⟩
        refine h4.mono (fun hp q => ?_) (by dsimp only; exact EntO.out)
        obtain ⟨q1, q6, _⟩ := q
        show (MA y.1.l).on hp
        rw [h3.1, ← (hR.no rfl).1]
        intro z hz
        rcases List.mem_append.1 hz with hz | hz
        · exact q6 z hz
        · cases List.mem_singleton.1 hz; exact q1
    · have hp : put bv.l ov.l tv.l ⟨i, j, k, out, op⟩ i' j' k' = ⟨i', j', k', out, op⟩ := if_neg hput
      rw [hp]
      refine (Ct.at (upto_none p bv ov tv o op i j k i' j' k' (by omega) (by omega) (by omega)) (fun _ _ => trivial) Foc.head s0).mono fun en w' ⟨r, h1, y, h2, h3, h4⟩ => ⟨r, h1, (o, fr, x), h2, ⟨hR.yes, hR.no, hR.out⟩, h4.mono (fun hp q => q.2.1) (fun _ q => q)⟩⟩
end Go.Proofs.YtleokmhhloamaaaGreatDoor
end

section
namespace Go.Proofs.YtleokmhhloamaaaGreatDoor
open Go.RowKit Go.V
open Go.P hiding Str
theorem kept_all (p : Nat) (bv ov tv : Sv Str) (o : Sv Ck) (fr : List Ck) (x : Ck) (s : Wk) (line : Str) (hR : Rel s o fr x) (hline : bv.l[s.i.toNat]? = some line) (i0 : 0 ≤ s.i) (j0 : 0 ≤ s.j) (k0 : 0 ≤ s.k) (i1 : s.i ≤ 1048576) (j1 : s.j ≤ 1048576) (k1 : s.k ≤ 1048576) (hl : o.l.length ≤ 1048576)
 (hsm : ∀ q ∈ s.out, q.base.length ≤ 1048576 ∧ q.ours.length ≤ 1048576 ∧ q.theirs.length ≤ 1048576 ∧ q.out.length ≤ 1048576) :
 Ct Tryz.prog 226 [ptr p 0] bv.ok (Ow.star (Blk p [bv.val, ov.val, tv.val, i64 s.i, i64 s.j, i64 s.k, o.val, .bool s.op] 308) (Ow.star (o.own 261) (OpenO s.op x))) (X := Sv Ck × List Ck × Ck) (fun _ => .tuple #[]) (fun y => Rel (keepW s line) y.1 y.2.1 y.2.2 ∧ y.2.1 = fr) (fun _ => Mo.tt) (fun y => Ow.star (Blk p [bv.val, ov.val, tv.val, i64 (s.i + 1), i64 (s.j + 1), i64 (s.k + 1), y.1.val, .bool true] 308) (Ow.star (y.1.own 261) (OpenO true y.2.2))) := by
 have hx : x.base.l.length ≤ 1048576 ∧ x.ours.l.length ≤ 1048576 ∧ x.theirs.l.length ≤ 1048576 ∧ x.out.l.length ≤ 1048576 := by
   cases hop : s.op with
   | true => exact hsm x.pl (by rw [← hR.out, hR.yes hop]; simp)
   | false => rw [(hR.no hop).2]; simp [nilck]
 have hc := kept_ct p bv ov tv o s.op fr x line s.i s.j s.k hR.yes hR.no hline i0 j0 k0 i1 j1 k1 hl hx.1 hx.2.1 hx.2.2.1 hx.2.2.2
 refine ⟨hc.entry, fun w h e m ee d l kk => (hc.calls w h e m ee d l kk).mono fun en w' ⟨r, h1, y, h2, ⟨q1, q2, q3, q4, q5, q6⟩, h4⟩ => ⟨r, h1, (y.1, fr, y.2), h2, ⟨⟨fun _ => q1, fun q => (by cases q), ?_⟩, rfl⟩, h4⟩⟩
 have hy : y.2.pl = addL x.pl line := by simp [Ck.pl, addL, q2, q3, q4, q5, q6]
 rw [q1, List.map_append, List.map_singleton, hy]
 unfold keepW
 cases hop : s.op with
 | true =>
   have := hR.out
   rw [hR.yes hop] at this
   simp [← this]
 | false =>
   obtain ⟨e1, e2⟩ := hR.no hop
   rw [e1, hR.out, e2]
   simp [nilck, Ck.pl, nilC]
set_option maxRecDepth 100000 in
 theorem clipC_ct (s : Sv Ck) : Ct Tryz.prog 227 [s.val] s.ok Ow.emp (X := Sv Ck) Sv.val (fun q => q.l = s.l) (fun q => q.ok) (fun _ => Ow.emp) := by
 refine Ct.of Tryz.func227 rfl (by kernel_rfl) Tryz.ntmps227 (by simp) fun c => ?_
 refine Zq (Zr ?_)
 refine Za ?_
 refine Zl ?_
 refine Zq (Zr ?_)
 refine Zm ?_
 refine Zm ?_
 refine VL.q (q_ln (s := s) Tryz.underlying253 rfl) (by decide) ?_
 refine Zm ?_
 refine VL.q (q_ln (s := s) Tryz.underlying253 rfl) (by decide) ?_
 refine VL.part (s := s) (0) (((s.l.length : Int)).toNat) Tryz.underlying253 sz261 rfl rfl rfl rfl (by simp) (by simp) (by simp) (by simp) (by omega) (by omega) (by decide) (fun s8 hs8 => ?_)
 refine Za ?_
 refine Zl ?_
 exact VC.ret (fin1I (.inr rfl) rfl rfl s8 rfl ((by simpa using hs8)) (fun _ _ => trivial))
end Go.Proofs.YtleokmhhloamaaaGreatDoor
end

section
namespace Go.P
structure CInv (b o t : List Str) (n : Int) (s : Wk) : Prop where
  n0 : 0 ≤ n
  n1 : n ≤ b.length
  eq : s = wrun b o t (places b o) (places b t) n.toNat
  i0 : 0 ≤ s.i
  i1 : s.i ≤ n
  j0 : 0 ≤ s.j
  j1 : s.j ≤ o.length
  k0 : 0 ≤ s.k
  k1 : s.k ≤ t.length
  ju : ∀ (m : Nat) (u : Int), n ≤ m → (places b o)[m]? = some u → 0 ≤ u → s.j ≤ u
  kv : ∀ (m : Nat) (v : Int), n ≤ m → (places b t)[m]? = some v → 0 ≤ v → s.k ≤ v
  sm : ∀ q ∈ s.out, (q.base.length : Int) ≤ 256 + s.i ∧ (q.ours.length : Int) ≤ 256 + s.i ∧ (q.theirs.length : Int) ≤ 256 + s.i ∧ (q.out.length : Int) ≤ 256 + s.i
  len : (s.out.length : Int) ≤ 2 * n
theorem cinv_start (b o t : List Str) : CInv b o t 0 ⟨0, 0, 0, [], false⟩ :=
  ⟨by omega, by omega, rfl, by simp, by simp, by simp, by simp, by simp, by simp, fun _ _ _ _ h => h, fun _ _ _ _ h => h, (fun _ h => by cases h), by simp⟩
theorem sl_length (l : List Str) (a c : Int) : (sl l a c).length ≤ l.length := by simp [sl]; omega
theorem gapv_len (b o t : List Str) : (gapv b o t).base.length ≤ b.length ∧ (gapv b o t).ours.length ≤ o.length ∧ (gapv b o t).theirs.length ≤ t.length ∧ (gapv b o t).out.length ≤ max o.length t.length := by
  unfold gapv
  split
  · simp; omega
  · split
    · simp; omega
    · split <;> simp <;> omega
theorem put_form (b o t : List Str) (s : Wk) (i j k : Int) : ∃ out op, put b o t s i j k = ⟨i, j, k, out, op⟩ := by
  unfold put; split <;> exact ⟨_, _, rfl⟩
def Sm (N : Int) (l : List Chunk) : Prop := ∀ q ∈ l, (q.base.length : Int) ≤ N ∧ (q.ours.length : Int) ≤ N ∧ (q.theirs.length : Int) ≤ N ∧ (q.out.length : Int) ≤ N
theorem Sm.up {N N' : Int} {l : List Chunk} (h : Sm N l) (hn : N ≤ N') : Sm N' l := fun q hq => by have := h q hq; omega
theorem put_sm {b o t : List Str} {s : Wk} {i j k N : Int} (hb : b.length ≤ 256) (ho : o.length ≤ 256) (ht : t.length ≤ 256) (hN : 256 ≤ N) (h : Sm N s.out) : Sm N (put b o t s i j k).out ∧ (put b o t s i j k).out.length ≤ s.out.length + 1 := by
  unfold put
  split
  · refine ⟨fun q hq => ?_, by simp⟩
    rcases List.mem_append.1 hq with hq | hq
    · exact h q hq
    · cases List.mem_singleton.1 hq
      have := gapv_len (sl b s.i i) (sl o s.j j) (sl t s.k k)
      have := sl_length b s.i i
      have := sl_length o s.j j
      have := sl_length t s.k k
      omega
  · exact ⟨h, by simp⟩
theorem keep_sm {s : Wk} {line : Str} {N : Int} (hN : 0 ≤ N) (h : Sm N s.out) : Sm (N + 1) (keepW s line).out ∧ (keepW s line).out.length ≤ s.out.length + 1 := by
  have hl : Sm N [(if s.op then s.out.getLastD nilC else nilC)] := fun q hq => by
    cases List.mem_singleton.1 hq
    split
    · rw [List.getLastD_eq_getLast?]
      cases hg : s.out.getLast? with
      | none => simp [nilC]; omega
      | some q => exact h q (List.mem_of_getLast? hg)
    · simp [nilC]; omega
  have hl' := hl _ (List.mem_singleton.2 rfl)
  unfold keepW
  refine ⟨fun q hq => ?_, ?_⟩
  · rcases List.mem_append.1 hq with hq | hq
    · have := h q (by
        split at hq
        · exact List.dropLast_subset _ hq
        · exact hq)
      omega
    · cases List.mem_singleton.1 hq
      simp only [addL, List.length_append, List.length_singleton]
      omega
  · simp only [List.length_append, List.length_singleton]
    split
    · simp
    · omega
theorem cinv_keep {b o t : List Str} {n u v : Int} {s : Wk} {line : Str} (h : CInv b o t n s) (hb : b.length ≤ 256) (ho : o.length ≤ 256) (ht : t.length ≤ 256) (hu : (places b o)[n.toNat]? = some u) (hv : (places b t)[n.toNat]? = some v) (hl : b[n.toNat]? = some line) (u0 : 0 ≤ u) (v0 : 0 ≤ v) :
    CInv b o t (n + 1) (keepW (put b o t s n u v) line) := by
  obtain ⟨n0, n1, eq, i0, i1, j0, j1, k0, k1, ju, kv, sm, len⟩ := h
  have hlt := (List.getElem?_eq_some_iff.1 hl).1
  obtain ⟨out, op, hp⟩ := put_form b o t s n u v
  have hsm := put_sm (b := b) (o := o) (t := t) (s := s) (i := n) (j := u) (k := v) hb ho ht (N := 256 + n) (by omega) (Sm.up (N := 256 + s.i) sm (by omega))
  have hks := keep_sm (s := put b o t s n u v) (line := line) (N := 256 + n) (by omega) hsm.1
  have hu1 := places_range b o u (List.mem_of_getElem? hu) u0
  have hv1 := places_range b t v (List.mem_of_getElem? hv) v0
  have e1 : (keepW (put b o t s n u v) line).i = n + 1 ∧ (keepW (put b o t s n u v) line).j = u + 1 ∧ (keepW (put b o t s n u v) line).k = v + 1 := by rw [hp]; exact ⟨rfl, rfl, rfl⟩
  obtain ⟨e1, e2, e3⟩ := e1
  refine ⟨by omega, by omega, ?_, by omega, by omega, by omega, by omega, by omega, by omega, fun m w hm hw hw0 => ?_, fun m w hm hw hw0 => ?_, ?_, ?_⟩
  · rw [show (n + 1).toNat = n.toNat + 1 by omega]
    simp only [wrun, wstep, hu, hv, hl]
    rw [← eq, if_pos ⟨u0, v0⟩, show ((n.toNat : Nat) : Int) = n by omega]
  · have := places_mono b o n.toNat m u w hu hw (by omega) u0 hw0
    omega
  · have := places_mono b t n.toNat m v w hv hw (by omega) v0 hw0
    omega
  · rw [e1]
    exact Sm.up hks.1 (by omega)
  · have := hks.2
    have := hsm.2
    omega
theorem cinv_pass {b o t : List Str} {n u v : Int} {s : Wk} (h : CInv b o t n s) (hu : (places b o)[n.toNat]? = some u) (hv : (places b t)[n.toNat]? = some v) (hn : n < b.length) (h0 : ¬ (0 ≤ u ∧ 0 ≤ v)) : CInv b o t (n + 1) s := by
  obtain ⟨n0, n1, eq, i0, i1, j0, j1, k0, k1, ju, kv, sm, len⟩ := h
  refine ⟨by omega, by omega, ?_, i0, by omega, j0, j1, k0, k1, fun m w hm => ju m w (by omega), fun m w hm => kv m w (by omega), sm, by omega⟩
  rw [show (n + 1).toNat = n.toNat + 1 by omega]
  obtain ⟨line, hl⟩ : ∃ z, b[n.toNat]? = some z := ⟨_, List.getElem?_eq_getElem (by omega)⟩
  simp only [wrun, wstep, hu, hv, hl]
  rw [if_neg h0]
  exact eq
end Go.P
namespace Go.P
theorem join_take {l : List Str} {i : Int} {z : Str} (h0 : 0 ≤ i) (h : l[i.toNat]? = some z) : join (l.take (i + 1).toNat) = join (l.take i.toNat) ++ z := by
  rw [show (i + 1).toNat = i.toNat + 1 by omega, List.take_add_one, h, join_flat, join_flat]
  simp
theorem join_take_le (l : List Str) (k : Nat) : (join (l.take k)).length ≤ (join l).length := by
  rw [join_flat, join_flat]
  conv => rhs; rw [← List.take_append_drop k l]
  rw [List.flatten_append, List.length_append]
  omega
end Go.P
end

section
namespace Go.Proofs.YtleokmhhloamaaaGreatDoor
open Go.RowKit Go.V
open Go.P hiding Str
set_option maxHeartbeats 4000000 in
 set_option maxRecDepth 100000 in
 theorem chunks_ct (a b d : Sv Str) (ha : a.l.length ≤ 256) (hb : b.l.length ≤ 256) (hd : d.l.length ≤ 256) :
 Ct Tryz.prog 180 [a.val, b.val, d.val] (a.ok.and (b.ok.and d.ok)) Ow.emp (X := Sv Ck) (fun q => .tuple #[q.val, .nilIface]) (fun q => q.l.map Ck.pl = chunks a.l b.l d.l) (fun q => q.ok) (fun _ => Ow.emp) := by
 refine Ct.of Tryz.func180 rfl (by kernel_rfl) Tryz.ntmps180 (by simp) fun c => ?_
 refine Zq (Zr ?_)
 refine Za ?_
 refine Za ?_
 refine Zl ?_
 refine Zq (Zr ?_)
 refine Zm ?_
 refine Zm ?_
 refine VL.callF (places_ct a b (by omega) (by omega)) rfl (by decide) ?_
 rintro s18 hs18
 refine Zm ?_
 refine VL.q (q_extract rfl rfl) (by decide) ?_
 refine VL.q (q_extract rfl rfl) (by decide) ?_
 refine Za ?_
 refine Za ?_
 refine Zl ?_
 refine Zq (Zq (Zr ?_))
 refine Zm ?_
 refine VL.q (q_nilne Tryz.underlying29 rfl) (by decide) ?_
 refine Zl ?_
 refine VC.cond_f rfl ?_
 refine Zk ?_
 refine Zq (Zr ?_)
 refine Zm ?_
 refine Zm ?_
 refine VL.callF (places_ct a d (by omega) (by omega)) rfl (by decide) ?_
 rintro s27 hs27
 refine Zm ?_
 refine VL.q (q_extract rfl rfl) (by decide) ?_
 refine VL.q (q_extract rfl rfl) (by decide) ?_
 refine Za ?_
 refine Za ?_
 refine Zl ?_
 refine Zq (Zq (Zr ?_))
 refine Zm ?_
 refine VL.q (q_nilne Tryz.underlying29 rfl) (by decide) ?_
 refine Zl ?_
 refine VC.cond_f rfl ?_
 refine Zk ?_
 refine Zq (Zr ?_)
 refine Zm ?_
 refine Zm ?_
 refine Zm ?_
 refine VL.q (q_build (vs := [(0, a.val), (1, b.val), (2, d.val)]) (cs := #[a.val, b.val, d.val, i64 0, i64 0, i64 0, .slice none 0 0, .bool false]) rfl (by kernel_rfl)) (by decide) ?_
 refine VL.box (cs := [a.val, b.val, d.val, i64 0, i64 0, i64 0, .slice none 0 0, .bool false]) rfl rfl (by decide) fun b37 => ?_
 refine Za ?_
 refine Zl ?_
 refine Zq (Zq (Zr ?_))
 refine Zm ?_
 refine VL.q (q_ln (s := a) Tryz.underlying82 rfl) (by decide) ?_
 refine Zm ?_
 refine Zl ?_
 refine Zb ?_
 refine VC.withM (a.ok.and (b.ok.and (d.ok.and (s18.ok.and s27.ok)))) ?_
 refine VC.nilO (⟨none, 0, []⟩ : Sv Ck) 261 ⟨rfl, rfl⟩ ?_
 refine VC.mono (fun _ h => h) (E' := Ow.star ((⟨none, 0, []⟩ : Sv Ck).own 261) (Ow.star (Blk b37 [a.val, b.val, d.val, i64 0, i64 0, i64 0, (⟨none, 0, []⟩ : Sv Ck).val, .bool false] 308) Ow.emp)) (fun _ h => h) ?_
 have hl18 : s18.l.length = a.l.length := by rw [hs18, places_len]
 have hl27 : s27.l.length = a.l.length := by rw [hs27, places_len]
 refine VC.loopM (S := Int × Wk × Sv Ck × List Ck × Ck) (fun sg => CInv a.l b.l d.l sg.1 sg.2.1 ∧ Rel sg.2.1 sg.2.2.1 sg.2.2.2.1 sg.2.2.2.2) (fun sg => [(0, a.val), (1, b.val), (2, d.val), (6, .slice none 0 0), (7, .nilIface), (8, s18.val), (9, .nilIface), (10, s27.val), (11, ptr b37 0), (39, i64 (a.l.length : Int)), (40, i64 sg.1)]) (fun sg => (MA sg.2.2.2.1).and (a.ok.and (b.ok.and (d.ok.and (s18.ok.and s27.ok))))) (fun sg => Ow.star (Blk b37 [a.val, b.val, d.val, i64 sg.2.1.i, i64 sg.2.1.j, i64 sg.2.1.k, sg.2.2.1.val, .bool sg.2.1.op] 308) (Ow.star (Sv.own sg.2.2.1 261) (Ow.star (OpenO sg.2.1.op sg.2.2.2.2) (Ow.emp)))) (fun sg => (a.l.length - sg.1).toNat) (0, ⟨0, 0, 0, [], false⟩, ⟨none, 0, []⟩, [], nilck) [0, 1, 2, 6, 7, 8, 9, 10, 11, 39, 40] (by (try dsimp only); exact ⟨cinv_start _ _ _, ⟨fun h => (by cases h), fun _ => ⟨rfl, rfl⟩, rfl⟩⟩) rfl (fun _ q => ⟨fun z hz => (by cases hz), q⟩) (by (try dsimp only); exact EntO.out) ?_
 rintro ⟨n, s, o, fr, x⟩ hI
 show VC _ _ _ _ _ [(0, a.val), (1, b.val), (2, d.val), (6, .slice none 0 0), (7, .nilIface), (8, s18.val), (9, .nilIface), (10, s27.val), (11, ptr b37 0), (39, i64 (a.l.length : Int)), (40, i64 n)] ((MA fr).and (a.ok.and (b.ok.and (d.ok.and (s18.ok.and s27.ok))))) (Ow.star (Blk b37 [a.val, b.val, d.val, i64 s.i, i64 s.j, i64 s.k, o.val, .bool s.op] 308) (Ow.star (Sv.own o 261) (Ow.star (OpenO s.op x) (Ow.emp))))
 try dsimp only at hI
 obtain ⟨hC, hR⟩ := hI
 have c1 := hC.n0
 have c2 := hC.n1
 have c3 := hC.i0
 have c4 := hC.i1
 have c5 := hC.j0
 have c6 := hC.j1
 have c7 := hC.k0
 have c8 := hC.k1
 have c9 := hC.len
 have c10 : o.l.length = s.out.length := by rw [← hR.out]; simp
 refine Zq (Zr ?_)
 refine VL.q (q_lss rfl rfl) (by decide) ?_
 refine Zl ?_
 refine Zq ?_
 refine VC.cond_dec rfl (fun h41 => ?_) (fun h41 => ?_)
 ·
  refine Zk ?_
  refine Zq (Zb (Zq (Zr ?_)))
  refine Zm ?_
  refine Za ?_
  refine Zl ?_
  refine Zq (Zr ?_)
  refine Zm ?_
  refine Zm ?_
  obtain ⟨z45, hz45⟩ : ∃ z, s18.l[(n).toNat]? = some z := ⟨_, List.getElem?_eq_getElem (by omega)⟩
  refine VL.q (q_ixm (s := s18) Tryz.underlying26 sz3 rfl rfl (by omega) (by omega)) (by decide) ?_
  refine VL.q (q_el (s := s18) one3 rfl hz45 rfl) (by decide) ?_
  refine VL.q (q_geq rfl rfl) (by decide) ?_
  refine Zm ?_
  refine VL.split_dec 48 rfl (fun h48 => ?_) (fun h48 => ?_)
  ·
   refine Zg ?_
   refine Zg ?_
   obtain ⟨z51, hz51⟩ : ∃ z, s27.l[(n).toNat]? = some z := ⟨_, List.getElem?_eq_getElem (by omega)⟩
   refine VL.gy rfl rfl (q_ixm (s := s27) Tryz.underlying26 sz3 rfl rfl (by omega) (by omega)) (by decide) ?_
   refine VL.gy rfl rfl (q_el (s := s27) one3 rfl hz51 rfl) (by decide) ?_
   refine VL.gy rfl rfl (q_geq rfl rfl) (by decide) ?_
   refine Zt ?_
   refine Zl ?_
   refine VC.cond_dec rfl (fun h54 => ?_) (fun h54 => ?_)
   ·
    refine Zq ?_
    obtain ⟨line, hline⟩ : ∃ z, a.l[n.toNat]? = some z := ⟨_, List.getElem?_eq_getElem (by omega)⟩
    have hzu : (places a.l b.l)[n.toNat]? = some z45 := by rw [← hs18]; exact hz45
    have hzv : (places a.l d.l)[n.toNat]? = some z51 := by rw [← hs27]; exact hz51
    have hju := hC.ju n.toNat z45 (by omega) hzu (by assumption)
    have hkv := hC.kv n.toNat z51 (by omega) hzv (by assumption)
    have hur := places_range a.l b.l z45 (List.mem_of_getElem? hzu) (by assumption)
    have hvr := places_range a.l d.l z51 (List.mem_of_getElem? hzv) (by assumption)
    refine VC.draw [(0, true), (1, true), (2, true), (3, true), (4, true), (5, true), (6, true), (7, true), (8, true), (9, true), (10, false)] mixed (by kernel_rfl) (by kernel_rfl) (by kernel_rfl) ?_
    refine VD.q rfl (q_move rfl) (by decide) ?_
    refine VD.q rfl (q_move rfl) (by decide) ?_
    refine VD.q rfl (q_move rfl) (by decide) ?_
    refine VD.q rfl (q_move rfl) (by decide) ?_
    refine VD.q rfl (q_ixm (s := s18) Tryz.underlying26 sz3 rfl rfl (by omega) (by omega)) (by decide) ?_
    refine VD.q rfl (q_el (s := s18) one3 rfl hz45 rfl) (by decide) ?_
    refine VD.q rfl (q_move rfl) (by decide) ?_
    refine VD.q rfl (q_move rfl) (by decide) ?_
    refine VD.q rfl (q_ixm (s := s27) Tryz.underlying26 sz3 rfl rfl (by omega) (by omega)) (by decide) ?_
    refine VD.q rfl (q_el (s := s27) one3 rfl hz51 rfl) (by decide) ?_
    refine VD.one rfl ?_
    obtain ⟨out1, op1, hput⟩ := put_form a.l b.l d.l s n z45 z51
    refine VL.callO (upto_all b37 a b d o fr x s n z45 z51 hR (by omega) (by omega) (by omega) (by omega) (by omega) (by omega) (by omega) (by omega) (by omega) ha hb hd (by omega)) rfl (by decide) ?_
    rintro ⟨o1, fr1, x1⟩ hR1
    dsimp only at hR1
    rw [hput] at hR1
    simp only [hput]
    refine VL.back (D' := []) (by kernel_rfl) (Pend.nil) ?_
    refine VD.to (fun _ _ h => h) ?_
    have hps := put_sm (b := a.l) (o := b.l) (t := d.l) (s := s) (i := n) (j := z45) (k := z51) ha hb hd (N := 256 + n) (by omega) (Sm.up (N := 256 + s.i) hC.sm (by omega))
    rw [hput] at hps
    have hlen1 : o1.l.length ≤ 1048576 := by have := congrArg List.length hR1.out; simp at this; have := hps.2; dsimp only at this; omega
    have hsm1 : ∀ q ∈ out1, q.base.length ≤ 1048576 ∧ q.ours.length ≤ 1048576 ∧ q.theirs.length ≤ 1048576 ∧ q.out.length ≤ 1048576 := fun q hq => by have := hps.1 q hq; omega
    refine Zr ?_
    refine Zm ?_
    have hk := kept_all b37 a b d o1 fr1 x1 ⟨n, z45, z51, out1, op1⟩ line hR1 hline (by dsimp only; omega) (by dsimp only; omega) (by dsimp only; omega) (by dsimp only; omega) (by dsimp only; omega) (by dsimp only; omega) hlen1 hsm1
    dsimp only at hk
    refine VL.callO (hk) rfl (by decide) ?_
    rintro ⟨o2, fr2, x2⟩ ⟨hR2, hfr2⟩
    dsimp only at hR2 hfr2
    dsimp only
    refine Zl ?_
    refine Zr ?_
    refine VL.q (q_add rfl rfl ⟨by omega, by omega⟩) (by decide) ?_
    refine Zm ?_
    refine VL.any ((n + 1), ⟨n + 1, z45 + 1, z51 + 1, (keepW ⟨n, z45, z51, out1, op1⟩ line).out, true⟩, o2, fr2, x2) [0, 1, 2, 6, 7, 8, 9, 10, 11, 39, 40] (fun _ _ h => h) ?_ rfl (fun _ q => ⟨by have := q.2.1; rw [hfr2]; exact this, q.2.2.2⟩) (by (try dsimp only); exact EntO.out)
    try dsimp only
    first
      | exact ⟨⟨by have := cinv_keep hC ha hb hd hzu hzv hline (by assumption) (by assumption); rw [hput] at this; exact this, hR2⟩, by omega⟩
      | exact ⟨⟨cinv_pass hC (v := z51) (by rw [← hs18]; exact hz45) (by rw [← hs27]; exact hz51) (by omega) (by omega), hR⟩, by omega⟩
      | exact ⟨⟨cinv_pass hC (u := z45) (v := s27.l[n.toNat]'(by omega)) (by rw [← hs18]; exact hz45) (by rw [← hs27]; exact List.getElem?_eq_getElem (by omega)) (by omega) (by omega), hR⟩, by omega⟩
   refine Zk ?_
   refine Zr ?_
   refine VL.q (q_add rfl rfl ⟨by omega, by omega⟩) (by decide) ?_
   refine Zm ?_
   refine VL.any ((n + 1), s, o, fr, x) [0, 1, 2, 6, 7, 8, 9, 10, 11, 39, 40] (fun _ _ h => h) ?_ rfl (fun _ q => q) (by (try dsimp only); exact EntO.out)
   try dsimp only
   first
     | exact ⟨⟨by have := cinv_keep hC ha hb hd hzu hzv hline (by assumption) (by assumption); rw [hput] at this; exact this, hR2⟩, by omega⟩
     | exact ⟨⟨cinv_pass hC (v := z51) (by rw [← hs18]; exact hz45) (by rw [← hs27]; exact hz51) (by omega) (by omega), hR⟩, by omega⟩
     | exact ⟨⟨cinv_pass hC (u := z45) (v := s27.l[n.toNat]'(by omega)) (by rw [← hs18]; exact hz45) (by rw [← hs27]; exact List.getElem?_eq_getElem (by omega)) (by omega) (by omega), hR⟩, by omega⟩
  refine Zn ?_
  refine Zn ?_
  refine Zn ?_
  refine Zn ?_
  refine Zn ?_
  refine Zf ?_
  refine Zl ?_
  refine VC.cond_f rfl ?_
  refine Zk ?_
  refine Zr ?_
  refine VL.q (q_add rfl rfl ⟨by omega, by omega⟩) (by decide) ?_
  refine Zm ?_
  refine VL.any ((n + 1), s, o, fr, x) [0, 1, 2, 6, 7, 8, 9, 10, 11, 39, 40] (fun _ _ h => h) ?_ rfl (fun _ q => q) (by (try dsimp only); exact EntO.out)
  try dsimp only
  first
    | exact ⟨⟨by have := cinv_keep hC ha hb hd hzu hzv hline (by assumption) (by assumption); rw [hput] at this; exact this, hR2⟩, by omega⟩
    | exact ⟨⟨cinv_pass hC (v := z51) (by rw [← hs18]; exact hz45) (by rw [← hs27]; exact hz51) (by omega) (by omega), hR⟩, by omega⟩
    | exact ⟨⟨cinv_pass hC (u := z45) (v := s27.l[n.toNat]'(by omega)) (by rw [← hs18]; exact hz45) (by rw [← hs27]; exact List.getElem?_eq_getElem (by omega)) (by omega) (by omega), hR⟩, by omega⟩
 refine Zx ?_
 refine Zq (Zr ?_)
 refine Zm ?_
 refine Zm ?_
 refine VL.q (q_ln (s := a) Tryz.underlying82 rfl) (by decide) ?_
 refine Zm ?_
 refine VL.q (q_ln (s := b) Tryz.underlying82 rfl) (by decide) ?_
 refine Zm ?_
 refine VL.q (q_ln (s := d) Tryz.underlying82 rfl) (by decide) ?_
 obtain ⟨out1, op1, hput⟩ := put_form a.l b.l d.l s (a.l.length : Int) (b.l.length : Int) (d.l.length : Int)
 refine VL.callO (upto_all b37 a b d o fr x s (a.l.length : Int) (b.l.length : Int) (d.l.length : Int) hR (by omega) (by omega) (by omega) (by omega) (by omega) (by omega) (by omega) (by omega) (by omega) ha hb hd (by omega)) rfl (by decide) ?_
 rintro ⟨o1, fr1, x1⟩ hR1
 dsimp only at hR1
 rw [hput] at hR1
 simp only [hput]
 refine Zl ?_
 refine Zq (Zq ?_)
 have hch : o1.l.map Ck.pl = chunks a.l b.l d.l := by
   rw [hR1.out]
   have he : n.toNat = a.l.length := by omega
   have h2 := hC.eq
   rw [he] at h2
   unfold chunks
   rw [← h2, hput]
 have hl1 : o1.l.length ≤ 1048576 := by
   have h2 := congrArg List.length hR1.out
   simp at h2
   have hps := (put_sm (b := a.l) (o := b.l) (t := d.l) (s := s) (i := (a.l.length : Int)) (j := (b.l.length : Int)) (k := (d.l.length : Int)) ha hb hd (N := 256 + n) (by omega) (Sm.up (N := 256 + s.i) hC.sm (by omega))).2
   rw [hput] at hps
   dsimp only at hps
   omega
 refine Zr ?_
 refine Zm ?_
 refine VL.q (q_nilCheck rfl) (by decide) ?_
 refine VL.q (q_field fa308_6 rfl) (by decide) ?_
 refine VL.q (q_fe one253 rfl rfl) (by decide) ?_
 refine VL.q (q_ln (s := o1) Tryz.underlying253 rfl) (by decide) ?_
 refine Zm ?_
 refine Zl ?_
 refine Zb ?_
 refine VC.closeO op1 rfl hR1 ?_
 refine VC.withM ((MA o1.l).and (a.ok.and (b.ok.and (d.ok.and (s18.ok.and s27.ok))))) ?_
 refine VC.loopM (S := Int × Sv Ck) (fun sg => 0 ≤ sg.1 ∧ sg.1 ≤ sg.2.l.length ∧ sg.2.l.length = o1.l.length ∧ sg.2.l.map Ck.pl = chunks a.l b.l d.l) (fun sg => [(0, a.val), (1, b.val), (2, d.val), (6, .slice none 0 0), (7, .nilIface), (8, s18.val), (9, .nilIface), (10, s27.val), (11, ptr b37 0), (39, i64 (a.l.length : Int)), (40, i64 n), (81, i64 (o1.l.length : Int)), (82, i64 sg.1)]) (fun sg => (MA sg.2.l).and (a.ok.and (b.ok.and (d.ok.and (s18.ok.and s27.ok))))) (fun sg => Ow.star (Blk b37 [a.val, b.val, d.val, i64 (a.l.length : Int), i64 (b.l.length : Int), i64 (d.l.length : Int), sg.2.val, .bool op1] 308) (Ow.star (Sv.own sg.2 261) (Ow.emp))) (fun sg => (sg.2.l.length - sg.1).toNat) (0, o1) [0, 1, 2, 6, 7, 8, 9, 10, 11, 39, 40, 81, 82] (by (try dsimp only); exact ⟨by omega, by omega, rfl, hch⟩) rfl (fun _ q => q) (by (try dsimp only); exact EntO.out) ?_
 rintro ⟨m, o3⟩ hI
 show VC _ _ _ _ _ [(0, a.val), (1, b.val), (2, d.val), (6, .slice none 0 0), (7, .nilIface), (8, s18.val), (9, .nilIface), (10, s27.val), (11, ptr b37 0), (39, i64 (a.l.length : Int)), (40, i64 n), (81, i64 (o1.l.length : Int)), (82, i64 m)] ((MA o3.l).and (a.ok.and (b.ok.and (d.ok.and (s18.ok.and s27.ok))))) (Ow.star (Blk b37 [a.val, b.val, d.val, i64 (a.l.length : Int), i64 (b.l.length : Int), i64 (d.l.length : Int), o3.val, .bool op1] 308) (Ow.star (Sv.own o3 261) (Ow.emp)))
 try dsimp only at hI
 obtain ⟨m0, m1, hol3, hmap⟩ := hI
 refine Zq (Zr ?_)
 refine VL.q (q_lss rfl rfl) (by decide) ?_
 refine Zl ?_
 refine Zq ?_
 refine VC.cond_dec rfl (fun h83 => ?_) (fun h83 => ?_)
 ·
  refine Zk ?_
  refine Zq (Zb (Zq (Zr ?_)))
  refine Zm ?_
  refine Za ?_
  refine Zl ?_
  refine Zq (Zr ?_)
  refine Zm ?_
  refine VL.q (q_nilCheck rfl) (by decide) ?_
  refine VL.q (q_field fa308_6 rfl) (by decide) ?_
  refine VL.q (q_fe one253 rfl rfl) (by decide) ?_
  refine Zm ?_
  obtain ⟨z90, hz90⟩ : ∃ z, o3.l[(m).toNat]? = some z := ⟨_, List.getElem?_eq_getElem (by omega)⟩
  refine VL.q (q_ixo (s := o3) Tryz.underlying253 sz261 rfl rfl (by omega) (by omega)) (by decide) ?_
  refine Za ?_
  refine Zl ?_
  refine VC.addM z90.m (fun h q => q.1 z90 (List.mem_of_getElem? hz90)) ?_
  refine VC.draw [(0, true), (1, true), (2, true), (3, true), (4, true), (5, true), (6, true), (7, true), (9, true), (10, true), (11, true), (12, true), (14, true), (15, true), (16, true), (17, true), (19, true), (20, true), (21, true), (22, true), (8, false), (13, false), (18, false), (23, false), (24, true), (25, true), (26, false), (27, true), (28, true), (29, false), (30, true), (31, true), (32, false), (33, true), (34, true), (35, false)] mixed (by kernel_rfl) (by kernel_rfl) (by kernel_rfl) ?_
  refine VD.q rfl (q_move rfl) (by decide) ?_
  refine VD.q rfl (q_move rfl) (by decide) ?_
  refine VD.q rfl (q_move rfl) (by decide) ?_
  refine VD.q rfl (q_move rfl) (by decide) ?_
  refine VD.q rfl (q_move rfl) (by decide) ?_
  refine VD.q rfl (q_nilCheck rfl) (by decide) ?_
  refine VD.q rfl (q_field fa261_0 rfl) (by decide) ?_
  refine VD.q rfl (q_elfo (s := o3) one82 rfl hz90 rfl) (by decide) ?_
  refine VD.q rfl (q_move rfl) (by decide) ?_
  refine VD.q rfl (q_nilCheck rfl) (by decide) ?_
  refine VD.q rfl (q_field fa261_1 rfl) (by decide) ?_
  refine VD.q rfl (q_elfo (s := o3) one82 rfl hz90 rfl) (by decide) ?_
  refine VD.q rfl (q_move rfl) (by decide) ?_
  refine VD.q rfl (q_nilCheck rfl) (by decide) ?_
  refine VD.q rfl (q_field fa261_2 rfl) (by decide) ?_
  refine VD.q rfl (q_elfo (s := o3) one82 rfl hz90 rfl) (by decide) ?_
  refine VD.q rfl (q_move rfl) (by decide) ?_
  refine VD.q rfl (q_nilCheck rfl) (by decide) ?_
  refine VD.q rfl (q_field fa261_4 rfl) (by decide) ?_
  refine VD.q rfl (q_elfo (s := o3) one82 rfl hz90 rfl) (by decide) ?_
  refine VD.one rfl ?_
  refine VL.callF (clip_ct z90.base) rfl (by decide) ?_
  rintro s99 hs99
  refine VL.back (D' := [(22, z90.out.val), (21, ptr o3.b (o3.o + ((m).toNat) * Dat.sz Ck + 4)), (20, ptr o3.b (o3.o + ((m).toNat) * Dat.sz Ck + 0)), (17, z90.theirs.val), (16, ptr o3.b (o3.o + ((m).toNat) * Dat.sz Ck + 2)), (15, ptr o3.b (o3.o + ((m).toNat) * Dat.sz Ck + 0)), (12, z90.ours.val), (11, ptr o3.b (o3.o + ((m).toNat) * Dat.sz Ck + 1)), (10, ptr o3.b (o3.o + ((m).toNat) * Dat.sz Ck + 0))]) (by kernel_rfl) (Pend.cons rfl (q_elfo (s := o3) one82 rfl hz90 rfl) (Pend.cons rfl (q_field fa261_4 rfl) (Pend.cons rfl (q_nilCheck rfl) (Pend.cons rfl (q_elfo (s := o3) one82 rfl hz90 rfl) (Pend.cons rfl (q_field fa261_2 rfl) (Pend.cons rfl (q_nilCheck rfl) (Pend.cons rfl (q_elfo (s := o3) one82 rfl hz90 rfl) (Pend.cons rfl (q_field fa261_1 rfl) (Pend.cons rfl (q_nilCheck rfl) (Pend.nil)))))))))) ?_
  refine VD.one rfl ?_
  refine VL.callF (clip_ct z90.ours) rfl (by decide) ?_
  rintro s104 hs104
  refine VL.back (D' := [(22, z90.out.val), (21, ptr o3.b (o3.o + ((m).toNat) * Dat.sz Ck + 4)), (20, ptr o3.b (o3.o + ((m).toNat) * Dat.sz Ck + 0)), (17, z90.theirs.val), (16, ptr o3.b (o3.o + ((m).toNat) * Dat.sz Ck + 2)), (15, ptr o3.b (o3.o + ((m).toNat) * Dat.sz Ck + 0))]) (by kernel_rfl) (Pend.cons rfl (q_elfo (s := o3) one82 rfl hz90 rfl) (Pend.cons rfl (q_field fa261_4 rfl) (Pend.cons rfl (q_nilCheck rfl) (Pend.cons rfl (q_elfo (s := o3) one82 rfl hz90 rfl) (Pend.cons rfl (q_field fa261_2 rfl) (Pend.cons rfl (q_nilCheck rfl) (Pend.nil))))))) ?_
  refine VD.one rfl ?_
  refine VL.callF (clip_ct z90.theirs) rfl (by decide) ?_
  rintro s109 hs109
  refine VL.back (D' := [(22, z90.out.val), (21, ptr o3.b (o3.o + ((m).toNat) * Dat.sz Ck + 4)), (20, ptr o3.b (o3.o + ((m).toNat) * Dat.sz Ck + 0))]) (by kernel_rfl) (Pend.cons rfl (q_elfo (s := o3) one82 rfl hz90 rfl) (Pend.cons rfl (q_field fa261_4 rfl) (Pend.cons rfl (q_nilCheck rfl) (Pend.nil)))) ?_
  refine VD.one rfl ?_
  refine VL.callF (clip_ct z90.out) rfl (by decide) ?_
  rintro s114 hs114
  refine VL.back (D' := []) (by kernel_rfl) (Pend.nil) ?_
  refine VD.q rfl (q_nilCheck rfl) (by decide) ?_
  refine VD.q rfl (q_field fa261_0 rfl) (by decide) ?_
  refine VD.one rfl ?_
  refine VL.storeE (s := o3) (T := 261) (j := 0) (vc := [s99.val]) (⟨s99, z90.ours, z90.theirs, z90.clash, z90.out⟩ : Ck) (by decide) rfl rfl hz90 rfl sz82 rfl rfl (Nat.le_of_ble_eq_true rfl) rfl (fun w0 hw0 haw0 hcw0 hvw0 hbw0 how0 => ?_)
  rw [← hvw0]
  try rw [← hbw0]
  try rw [← how0]
  have hew0 : w0.l[(m).toNat]? = some (⟨s99, z90.ours, z90.theirs, z90.clash, z90.out⟩ : Ck) := by rw [hw0]; exact List.getElem?_set_self (List.getElem?_eq_some_iff.1 hz90).1
  refine VL.back (D' := []) (by kernel_rfl) (Pend.nil) ?_
  refine VD.q rfl (q_nilCheck rfl) (by decide) ?_
  refine VD.q rfl (q_field fa261_1 rfl) (by decide) ?_
  refine VD.one rfl ?_
  refine VL.storeE (s := w0) (T := 261) (j := 1) (vc := [s104.val]) (⟨s99, s104, z90.theirs, z90.clash, z90.out⟩ : Ck) (by decide) rfl rfl hew0 rfl sz82 rfl rfl (Nat.le_of_ble_eq_true rfl) rfl (fun w1 hw1 haw1 hcw1 hvw1 hbw1 how1 => ?_)
  rw [← hvw1]
  try rw [← hbw1]
  try rw [← how1]
  have hew1 : w1.l[(m).toNat]? = some (⟨s99, s104, z90.theirs, z90.clash, z90.out⟩ : Ck) := by rw [hw1]; exact List.getElem?_set_self (List.getElem?_eq_some_iff.1 hew0).1
  refine VL.back (D' := []) (by kernel_rfl) (Pend.nil) ?_
  refine VD.q rfl (q_nilCheck rfl) (by decide) ?_
  refine VD.q rfl (q_field fa261_2 rfl) (by decide) ?_
  refine VD.one rfl ?_
  refine VL.storeE (s := w1) (T := 261) (j := 2) (vc := [s109.val]) (⟨s99, s104, s109, z90.clash, z90.out⟩ : Ck) (by decide) rfl rfl hew1 rfl sz82 rfl rfl (Nat.le_of_ble_eq_true rfl) rfl (fun w2 hw2 haw2 hcw2 hvw2 hbw2 how2 => ?_)
  rw [← hvw2]
  try rw [← hbw2]
  try rw [← how2]
  have hew2 : w2.l[(m).toNat]? = some (⟨s99, s104, s109, z90.clash, z90.out⟩ : Ck) := by rw [hw2]; exact List.getElem?_set_self (List.getElem?_eq_some_iff.1 hew1).1
  refine VL.back (D' := []) (by kernel_rfl) (Pend.nil) ?_
  refine VD.q rfl (q_nilCheck rfl) (by decide) ?_
  refine VD.q rfl (q_field fa261_4 rfl) (by decide) ?_
  refine VD.one rfl ?_
  refine VL.storeE (s := w2) (T := 261) (j := 4) (vc := [s114.val]) (⟨s99, s104, s109, z90.clash, s114⟩ : Ck) (by decide) rfl rfl hew2 rfl sz82 rfl rfl (Nat.le_of_ble_eq_true rfl) rfl (fun w3 hw3 haw3 hcw3 hvw3 hbw3 how3 => ?_)
  rw [← hvw3]
  try rw [← hbw3]
  try rw [← how3]
  have hew3 : w3.l[(m).toNat]? = some (⟨s99, s104, s109, z90.clash, s114⟩ : Ck) := by rw [hw3]; exact List.getElem?_set_self (List.getElem?_eq_some_iff.1 hew2).1
  refine VL.back (D' := []) (by kernel_rfl) (Pend.nil) ?_
  refine VD.to (fun _ _ h => h) ?_
  have hw : w3.l = o3.l.set m.toNat ⟨s99, s104, s109, z90.clash, s114⟩ := by rw [hw3, hw2, hw1, hw0, List.set_set, List.set_set, List.set_set]
  refine Zr ?_
  refine VL.q (q_add rfl rfl ⟨by omega, by omega⟩) (by decide) ?_
  refine Zm ?_
  refine VL.any ((m + 1), w3) [0, 1, 2, 6, 7, 8, 9, 10, 11, 39, 40, 81, 82] (fun _ _ h => h) ?_ rfl (fun hp ⟨q4, q3, q2, q1, _, qm, qr⟩ => ⟨by rw [hw]; exact MA.set (l := o3.l) qm ⟨q1, q2, q3, q4⟩, qr⟩) (by (try dsimp only); exact EntO.out)
  try dsimp only
  exact ⟨⟨by omega, by rw [hw]; simp; omega, by rw [hw]; simp; omega, by rw [hw, map_set_pl hz90 (by simp [Ck.pl, hs99, hs104, hs109, hs114])]; exact hmap⟩, by rw [hw]; simp; omega⟩
 refine Zx ?_
 refine Zq ?_
 refine VC.shut o3 261 (fun _ q z hz => q.1 z hz) ?_
 refine Zr ?_
 refine Zm ?_
 refine VL.q (q_nilCheck rfl) (by decide) ?_
 refine VL.q (q_field fa308_6 rfl) (by decide) ?_
 refine VL.q (q_fe one253 rfl rfl) (by decide) ?_
 refine VL.callF (clipC_ct o3) rfl (by decide) ?_
 rintro s128 hs128
 refine Za ?_
 refine Za ?_
 refine Zl ?_
 exact VC.ret (fin2I (.inr rfl) rfl rfl rfl s128 rfl ((by rw [hs128]; exact hmap)) (fun _ _ => trivial))
end Go.Proofs.YtleokmhhloamaaaGreatDoor
end

section
namespace Go.Proofs.YtleokmhhloamaaaGreatDoor
open Go.RowKit Go.V
open Go.P hiding Str
theorem mk26 : ((Tryz.prog.info? 26).map fun i => (i.size, i.bytes, i.zero.map fun z => z.cells.toList)) = some (1, 24, some [.slice none 0 0]) := by kernel_rfl
theorem sz26 : (Tryz.prog.info? 26).map (·.size) = some 1 := by kernel_rfl
set_option maxHeartbeats 8000000 in
 set_option maxRecDepth 100000 in
 theorem common_ct (a b : Sv Str) (ha : a.l.length ≤ 256) (hb : b.l.length ≤ 256) :
 Ct Tryz.prog 269 [a.val, b.val] (a.ok.and b.ok) Ow.emp (X := Sv (Sv Int)) (fun q => q.val) (fun q => q.l.map (·.l) = (List.range (a.l.length + 1)).map (crow a.l b.l)) (fun q => q.ok) (fun _ => Ow.emp) := by
 refine Ct.of Tryz.func269 rfl (by kernel_rfl) Tryz.ntmps269 (by simp) fun c => ?_
 refine Zq (Zr ?_)
 refine Za ?_
 refine Zl ?_
 refine Zq (Zr ?_)
 refine Zm ?_
 refine VL.q (q_ln (s := a) Tryz.underlying82 rfl) (by decide) ?_
 refine VL.q (q_add rfl rfl ⟨by omega, by omega⟩) (by decide) ?_
 refine VL.make (α := Hd) (z := ⟨⟨none, 0, []⟩⟩) Tryz.underlying347 mk26 (by decide) rfl rfl (by omega) (by omega) (by omega) (by omega) (by decide) (fun s11 hs11 => ?_)
 refine Za ?_
 refine Zl ?_
 refine Zq (Zq (Zr ?_))
 refine Zm ?_
 refine VL.q (q_ln (s := a) Tryz.underlying82 rfl) (by decide) ?_
 refine Za ?_
 refine Zl ?_
 refine Zb ?_
 refine VC.loopM (S := Int × Sv Hd) (fun sg => -1 ≤ sg.1 ∧ sg.1 ≤ a.l.length ∧ sg.2.l.length = a.l.length + 1 ∧ ∀ k : Nat, sg.1 < k → k ≤ a.l.length → ∃ r : Hd, sg.2.l[k]? = some r ∧ r.s.l = crow a.l b.l k) (fun sg => [(0, a.val), (1, b.val), (4, .slice none 0 0), (5, sg.2.val), (5, sg.2.val), (6, i64 sg.1)]) (fun sg => (MR sg.2.l sg.1).and (a.ok.and b.ok)) (fun sg => Ow.star (Sv.own sg.2 26) (Ow.emp)) (fun sg => (sg.1 + 1).toNat) ((a.l.length : Int), s11) [0, 1, 4, 5, 5, 6] (by (try dsimp only); exact ⟨by omega, by omega, by rw [hs11]; simp <;> omega, fun k h1 h2 => absurd h1 (by omega)⟩) rfl (fun _ q => ⟨fun k z hk hz => absurd (List.getElem?_eq_some_iff.1 hz).1 (by rw [hs11]; simp; omega), q⟩) (by (try dsimp only); exact EntO.out) ?_
 rintro ⟨i, o⟩ hI
 show VC _ _ _ _ _ [(0, a.val), (1, b.val), (4, .slice none 0 0), (5, o.val), (5, o.val), (6, i64 i)] ((MR o.l i).and (a.ok.and b.ok)) (Ow.star (Sv.own o 26) (Ow.emp))
 try dsimp only at hI
 obtain ⟨i0, i1, hol, hrows⟩ := hI
 refine Zq (Zq (Zr ?_))
 refine Zm ?_
 refine VL.q (q_geq rfl rfl) (by decide) ?_
 refine Zl ?_
 refine VC.cond_dec rfl (fun h15 => ?_) (fun h15 => ?_)
 ·
  refine Zk ?_
  refine Zq (Zb (Zq (Zr ?_)))
  refine Zm ?_
  refine Zm ?_
  refine Zm ?_
  refine VL.q (q_ln (s := b) Tryz.underlying82 rfl) (by decide) ?_
  refine VL.q (q_add rfl rfl ⟨by omega, by omega⟩) (by decide) ?_
  refine VL.make (α := Int) (z := 0) Tryz.underlying26 mk3 (by decide) rfl rfl (by omega) (by omega) (by omega) (by omega) (by decide) (fun s23 hs23 => ?_)
  obtain ⟨z24, hz24⟩ : ∃ z, o.l[(i).toNat]? = some z := ⟨_, List.getElem?_eq_getElem (by omega)⟩
  refine VL.q (q_ixo (s := o) Tryz.underlying347 sz26 rfl rfl (by omega) (by omega)) (by decide) ?_
  refine VL.storeE (s := o) (T := 26) (j := 0) (vc := [s23.val]) (⟨s23⟩ : Hd) (by decide) rfl rfl hz24 rfl sz26 rfl rfl (Nat.le_of_ble_eq_true rfl) rfl (fun w0 hw0 haw0 hcw0 hvw0 hbw0 how0 => ?_)
  rw [← hvw0]
  refine Zl ?_
  refine Zq ?_
  have hw0l : w0.l.length = a.l.length + 1 := by rw [hw0, List.length_set]; exact hol
  obtain ⟨cur, hcur, hcs⟩ : ∃ z : Hd, w0.l[i.toNat]? = some z ∧ z.s = s23 := ⟨⟨s23⟩, by rw [hw0]; exact List.getElem?_set_self (by omega), rfl⟩
  refine Zr ?_
  refine Zm ?_
  refine VL.q (q_ln (s := b) Tryz.underlying82 rfl) (by decide) ?_
  refine VL.q (q_sub rfl rfl ⟨by omega, by omega⟩) (by decide) ?_
  refine Za ?_
  refine Zl ?_
  refine Zb ?_
  refine VC.loopK (S := Int × Sv Int) (fun sg => -1 ≤ sg.1 ∧ sg.1 < b.l.length ∧ sg.2.l.length = b.l.length + 1 ∧ sg.2.val = s23.val ∧ ∀ k : Nat, (sg.1 < k ∨ i = a.l.length) → k ≤ b.l.length → sg.2.l[k]? = some (lcs (a.l.drop i.toNat) (b.l.drop k) : Int)) (fun sg => [(0, a.val), (1, b.val), (4, .slice none 0 0), (5, w0.val), (6, i64 i), (7, i64 sg.1)]) (fun sg => Ow.star (Sv.own w0 26) (Ow.star (Sv.own sg.2 3) (Ow.emp))) (fun sg => (sg.1 + 1).toNat) (((b.l.length : Int) - 1), s23) [0, 1, 4, 5, 6, 7] (by (try dsimp only); exact ⟨by omega, by omega, by rw [hs23]; simp <;> omega, rfl, fun k h1 h2 => by rw [crow_zero h2 h1, hs23, List.getElem?_replicate, if_pos (by omega)]⟩) rfl (by (try dsimp only); exact EntO.out) ?_
  rintro ⟨j, s⟩ hI
  show VC _ _ _ _ _ [(0, a.val), (1, b.val), (4, .slice none 0 0), (5, w0.val), (6, i64 i), (7, i64 j)] _ (Ow.star (Sv.own w0 26) (Ow.star (Sv.own s 3) (Ow.emp)))
  try dsimp only at hI
  obtain ⟨j0, j1, hsl, hv_s, hrow⟩ := hI
  refine Zq (Zq (Zr ?_))
  refine Zm ?_
  refine VL.q (q_geq rfl rfl) (by decide) ?_
  refine Zm ?_
  refine VL.split_dec 30 rfl (fun h30 => ?_) (fun h30 => ?_)
  ·
   refine Zg ?_
   refine Zg ?_
   refine VL.gy rfl rfl (q_ln (s := a) Tryz.underlying82 rfl) (by decide) ?_
   refine VL.gy rfl rfl (q_lss rfl rfl) (by decide) ?_
   refine Zt ?_
   refine Zl ?_
   refine VC.cond_dec rfl (fun h35 => ?_) (fun h35 => ?_)
   ·
    obtain ⟨nxt, hnx0, hnl⟩ := hrows (i + 1).toNat (by omega) (by omega)
    have hnxt : w0.l[(i + 1).toNat]? = some nxt := by rw [hw0, List.getElem?_set_ne (by omega)]; exact hnx0
    refine VC.addM nxt.s.ok (fun h q => q.1 (i + 1).toNat nxt (by omega) hnx0) ?_
    have hnlen : nxt.s.l.length = b.l.length + 1 := by rw [hnl, crow_len]
    have hL : ∀ {k : Int} {z : Int}, 0 ≤ k → k ≤ b.l.length → nxt.s.l[k.toNat]? = some z → z = lcs (a.l.drop (i + 1).toNat) (b.l.drop k.toNat) := fun hk0 hk1 hz => by rw [hnl, crow_at _ _ _ (by omega)] at hz; exact (Option.some.inj hz).symm
    refine Zk ?_
    refine Zq (Zb (Zq ?_))
    refine VC.draw [(0, true), (1, true), (2, true), (3, true), (4, true), (5, true), (6, true), (7, true), (8, true), (9, true), (10, true), (11, true), (12, true), (13, true), (14, false)] mixed (by kernel_rfl) (by kernel_rfl) (by kernel_rfl) ?_
    refine VD.q rfl (q_move rfl) (by decide) ?_
    refine VD.q rfl (q_move rfl) (by decide) ?_
    refine VD.q rfl (q_ixo (s := w0) Tryz.underlying347 sz26 rfl rfl (by omega) (by omega)) (by decide) ?_
    refine VD.q rfl (q_elo (s := w0) 26 one26 rfl hcur rfl) (by decide) ?_
    refine VD.setv 41 rfl (show cur.s.val = s.val by rw [hcs]; exact hv_s.symm) ?_
    refine VD.q rfl (q_move rfl) (by decide) ?_
    refine VD.q rfl (q_move rfl) (by decide) ?_
    refine VD.q rfl (q_move rfl) (by decide) ?_
    refine VD.q rfl (q_add rfl rfl ⟨by omega, by omega⟩) (by decide) ?_
    refine VD.q rfl (q_ixo (s := w0) Tryz.underlying347 sz26 rfl rfl (by omega) (by omega)) (by decide) ?_
    refine VD.q rfl (q_elo (s := w0) 26 one26 rfl hnxt rfl) (by decide) ?_
    refine VD.q rfl (q_move rfl) (by decide) ?_
    obtain ⟨z49, hz49⟩ : ∃ z, nxt.s.l[(j).toNat]? = some z := ⟨_, List.getElem?_eq_getElem (by omega)⟩
    refine VD.q rfl (q_ixm (s := nxt.s) Tryz.underlying26 sz3 rfl rfl (by omega) (by omega)) (by decide) ?_
    refine VD.q rfl (q_el (s := nxt.s) one3 rfl hz49 rfl) (by decide) ?_
    obtain ⟨z51, hz51⟩ : ∃ z, s.l[(j).toNat]? = some z := ⟨_, List.getElem?_eq_getElem (by omega)⟩
    refine VD.q rfl (q_ixo (s := s) Tryz.underlying26 sz3 rfl rfl (by omega) (by omega)) (by decide) ?_
    refine VD.one rfl ?_
    refine VL.storeE (s := s) (T := 3) (j := 0) (vc := [i64 z49]) (z49 : Int) (by decide) rfl rfl hz51 rfl sz3 rfl rfl (Nat.le_of_ble_eq_true rfl) rfl (fun w1 hw1 haw1 hcw1 hvw1 hbw1 how1 => ?_)
    rw [← hvw1]
    refine VL.back (D' := []) (by kernel_rfl) (Pend.nil) ?_
    refine VD.to (fun _ _ h => h) ?_
    refine Zq (Zq ?_)
    have hv_w1 : w1.val = s23.val := hvw1.trans hv_s
    have hl_w1 : w1.l.length = b.l.length + 1 := by rw [hw1, List.length_set]; exact hsl
    refine VC.draw ((List.range 16).map fun k => (k, true)) mixed (by kernel_rfl) (by kernel_rfl) (by kernel_rfl) ?_
    refine VD.q rfl (q_move rfl) (by decide) ?_
    refine VD.q rfl (q_move rfl) (by decide) ?_
    refine VD.q rfl (q_ixo (s := w0) Tryz.underlying347 sz26 rfl rfl (by omega) (by omega)) (by decide) ?_
    refine VD.q rfl (q_elo (s := w0) 26 one26 rfl hcur rfl) (by decide) ?_
    refine VD.setv 55 rfl (show cur.s.val = w1.val by rw [hcs]; exact hv_w1.symm) ?_
    refine VD.q rfl (q_move rfl) (by decide) ?_
    refine VD.q rfl (q_add rfl rfl ⟨by omega, by omega⟩) (by decide) ?_
    obtain ⟨z58, hz58⟩ : ∃ z, w1.l[((j + 1)).toNat]? = some z := ⟨_, List.getElem?_eq_getElem (by omega)⟩
    refine VD.q rfl (q_ixo (s := w1) Tryz.underlying26 sz3 rfl rfl (by omega) (by omega)) (by decide) ?_
    refine VD.q rfl (q_elo (s := w1) 3 one3 rfl hz58 rfl) (by decide) ?_
    refine VD.q rfl (q_move rfl) (by decide) ?_
    refine VD.q rfl (q_move rfl) (by decide) ?_
    refine VD.q rfl (q_ixo (s := w0) Tryz.underlying347 sz26 rfl rfl (by omega) (by omega)) (by decide) ?_
    refine VD.q rfl (q_elo (s := w0) 26 one26 rfl hcur rfl) (by decide) ?_
    refine VD.setv 63 rfl (show cur.s.val = w1.val by rw [hcs]; exact hv_w1.symm) ?_
    refine VD.q rfl (q_move rfl) (by decide) ?_
    obtain ⟨z65, hz65⟩ : ∃ z, w1.l[(j).toNat]? = some z := ⟨_, List.getElem?_eq_getElem (by omega)⟩
    refine VD.q rfl (q_ixo (s := w1) Tryz.underlying26 sz3 rfl rfl (by omega) (by omega)) (by decide) ?_
    refine VD.q rfl (q_elo (s := w1) 3 one3 rfl hz65 rfl) (by decide) ?_
    refine VD.q rfl (q_gtr rfl rfl) (by decide) ?_
    refine VD.to (fun _ _ h => h) ?_
    refine VC.cond_dec rfl (fun h67 => ?_) (fun h67 => ?_)
    ·
     refine VC.draw [(0, true), (1, true), (2, true), (3, true), (4, true), (5, true), (6, true), (7, true), (8, true), (9, true), (10, true), (11, true), (12, true), (13, true), (14, false)] mixed (by kernel_rfl) (by kernel_rfl) (by kernel_rfl) ?_
     refine VD.q rfl (q_move rfl) (by decide) ?_
     refine VD.q rfl (q_move rfl) (by decide) ?_
     refine VD.q rfl (q_ixo (s := w0) Tryz.underlying347 sz26 rfl rfl (by omega) (by omega)) (by decide) ?_
     refine VD.q rfl (q_elo (s := w0) 26 one26 rfl hcur rfl) (by decide) ?_
     refine VD.setv 71 rfl (show cur.s.val = w1.val by rw [hcs]; exact hv_w1.symm) ?_
     refine VD.q rfl (q_move rfl) (by decide) ?_
     refine VD.q rfl (q_move rfl) (by decide) ?_
     refine VD.q rfl (q_move rfl) (by decide) ?_
     refine VD.q rfl (q_ixo (s := w0) Tryz.underlying347 sz26 rfl rfl (by omega) (by omega)) (by decide) ?_
     refine VD.q rfl (q_elo (s := w0) 26 one26 rfl hcur rfl) (by decide) ?_
     refine VD.setv 76 rfl (show cur.s.val = w1.val by rw [hcs]; exact hv_w1.symm) ?_
     refine VD.q rfl (q_move rfl) (by decide) ?_
     refine VD.q rfl (q_add rfl rfl ⟨by omega, by omega⟩) (by decide) ?_
     obtain ⟨z79, hz79⟩ : ∃ z, w1.l[((j + 1)).toNat]? = some z := ⟨_, List.getElem?_eq_getElem (by omega)⟩
     refine VD.q rfl (q_ixo (s := w1) Tryz.underlying26 sz3 rfl rfl (by omega) (by omega)) (by decide) ?_
     refine VD.q rfl (q_elo (s := w1) 3 one3 rfl hz79 rfl) (by decide) ?_
     obtain ⟨z81, hz81⟩ : ∃ z, w1.l[(j).toNat]? = some z := ⟨_, List.getElem?_eq_getElem (by omega)⟩
     refine VD.q rfl (q_ixo (s := w1) Tryz.underlying26 sz3 rfl rfl (by omega) (by omega)) (by decide) ?_
     refine VD.one rfl ?_
     refine VL.storeE (s := w1) (T := 3) (j := 0) (vc := [i64 z79]) (z79 : Int) (by decide) rfl rfl hz81 rfl sz3 rfl rfl (Nat.le_of_ble_eq_true rfl) rfl (fun w2 hw2 haw2 hcw2 hvw2 hbw2 how2 => ?_)
     rw [← hvw2]
     refine VL.back (D' := []) (by kernel_rfl) (Pend.nil) ?_
     refine VD.to (fun _ _ h => h) ?_
     refine Zq ?_
     have hv_w2 : w2.val = s23.val := hvw2.trans hv_w1
     have hl_w2 : w2.l.length = b.l.length + 1 := by rw [hw2, List.length_set]; exact hl_w1
     refine VC.draw ((List.range 29).map fun k => (k, true)) mixed (by kernel_rfl) (by kernel_rfl) (by kernel_rfl) ?_
     refine VD.q rfl (q_move rfl) (by decide) ?_
     refine VD.q rfl (q_move rfl) (by decide) ?_
     obtain ⟨z84, hz84⟩ : ∃ z, a.l[(i).toNat]? = some z := ⟨_, List.getElem?_eq_getElem (by omega)⟩
     refine VD.q rfl (q_ixm (s := a) Tryz.underlying82 sz9 rfl rfl (by omega) (by omega)) (by decide) ?_
     refine VD.q rfl (q_el (s := a) one9 rfl hz84 rfl) (by decide) ?_
     refine VD.q rfl (q_move rfl) (by decide) ?_
     refine VD.q rfl (q_move rfl) (by decide) ?_
     obtain ⟨z88, hz88⟩ : ∃ z, b.l[(j).toNat]? = some z := ⟨_, List.getElem?_eq_getElem (by omega)⟩
     refine VD.q rfl (q_ixm (s := b) Tryz.underlying82 sz9 rfl rfl (by omega) (by omega)) (by decide) ?_
     refine VD.q rfl (q_el (s := b) one9 rfl hz88 rfl) (by decide) ?_
     refine VD.q rfl (q_seq rfl rfl) (by decide) ?_
     refine VD.q rfl (q_move rfl) (by decide) ?_
     refine VD.split_dec 91 rfl (fun h91 => ?_) (fun h91 => ?_)
     ·
      refine VD.gy rfl rfl rfl (q_move rfl) (by decide) ?_
      refine VD.gy rfl rfl rfl (q_move rfl) (by decide) ?_
      refine VD.gy rfl rfl rfl (q_add rfl rfl ⟨by omega, by omega⟩) (by decide) ?_
      refine VD.gy rfl rfl rfl (q_ixo (s := w0) Tryz.underlying347 sz26 rfl rfl (by omega) (by omega)) (by decide) ?_
      refine VD.gy rfl rfl rfl (q_elo (s := w0) 26 one26 rfl hnxt rfl) (by decide) ?_
      refine VD.gy rfl rfl rfl (q_move rfl) (by decide) ?_
      refine VD.gy rfl rfl rfl (q_add rfl rfl ⟨by omega, by omega⟩) (by decide) ?_
      obtain ⟨z99, hz99⟩ : ∃ z, nxt.s.l[((j + 1)).toNat]? = some z := ⟨_, List.getElem?_eq_getElem (by omega)⟩
      refine VD.gy rfl rfl rfl (q_ixm (s := nxt.s) Tryz.underlying26 sz3 rfl rfl (by omega) (by omega)) (by decide) ?_
      refine VD.gy rfl rfl rfl (q_el (s := nxt.s) one3 rfl hz99 rfl) (by decide) ?_
      have hbz := hL (by omega) (by omega) hz99
      have hle := lcs_le (a.l.drop (i + 1).toNat) (b.l.drop (j + 1).toNat)
      have hdl : (a.l.drop (i + 1).toNat).length ≤ 256 := by rw [List.length_drop]; omega
      refine VD.gy rfl rfl rfl (q_add rfl rfl ⟨by omega, by omega⟩) (by decide) ?_
      refine VD.gy rfl rfl rfl (q_move rfl) (by decide) ?_
      refine VD.gy rfl rfl rfl (q_move rfl) (by decide) ?_
      refine VD.gy rfl rfl rfl (q_ixo (s := w0) Tryz.underlying347 sz26 rfl rfl (by omega) (by omega)) (by decide) ?_
      refine VD.gy rfl rfl rfl (q_elo (s := w0) 26 one26 rfl hcur rfl) (by decide) ?_
      refine VD.setv 105 rfl (show cur.s.val = w2.val by rw [hcs]; exact hv_w2.symm) ?_
      refine VD.gy rfl rfl rfl (q_move rfl) (by decide) ?_
      obtain ⟨z107, hz107⟩ : ∃ z, w2.l[(j).toNat]? = some z := ⟨_, List.getElem?_eq_getElem (by omega)⟩
      refine VD.gy rfl rfl rfl (q_ixo (s := w2) Tryz.underlying26 sz3 rfl rfl (by omega) (by omega)) (by decide) ?_
      refine VD.gy rfl rfl rfl (q_elo (s := w2) 3 one3 rfl hz107 rfl) (by decide) ?_
      refine VD.gy rfl rfl rfl (q_gtr rfl rfl) (by decide) ?_
      refine VD.q rfl (q_pick_t rfl rfl) (by decide) ?_
      refine VD.to (fun _ _ h => h) ?_
      refine VC.cond_dec rfl (fun h110 => ?_) (fun h110 => ?_)
      ·
       refine VC.draw [(0, true), (1, true), (2, true), (3, true), (4, true), (5, true), (6, true), (7, true), (8, true), (9, true), (10, true), (11, true), (12, true), (13, true), (14, true), (15, true), (16, false)] mixed (by kernel_rfl) (by kernel_rfl) (by kernel_rfl) ?_
       refine VD.q rfl (q_move rfl) (by decide) ?_
       refine VD.q rfl (q_move rfl) (by decide) ?_
       refine VD.q rfl (q_ixo (s := w0) Tryz.underlying347 sz26 rfl rfl (by omega) (by omega)) (by decide) ?_
       refine VD.q rfl (q_elo (s := w0) 26 one26 rfl hcur rfl) (by decide) ?_
       refine VD.setv 114 rfl (show cur.s.val = w2.val by rw [hcs]; exact hv_w2.symm) ?_
       refine VD.q rfl (q_move rfl) (by decide) ?_
       refine VD.q rfl (q_move rfl) (by decide) ?_
       refine VD.q rfl (q_move rfl) (by decide) ?_
       refine VD.q rfl (q_add rfl rfl ⟨by omega, by omega⟩) (by decide) ?_
       refine VD.q rfl (q_ixo (s := w0) Tryz.underlying347 sz26 rfl rfl (by omega) (by omega)) (by decide) ?_
       refine VD.q rfl (q_elo (s := w0) 26 one26 rfl hnxt rfl) (by decide) ?_
       refine VD.q rfl (q_move rfl) (by decide) ?_
       refine VD.q rfl (q_add rfl rfl ⟨by omega, by omega⟩) (by decide) ?_
       obtain ⟨z123, hz123⟩ : ∃ z, nxt.s.l[((j + 1)).toNat]? = some z := ⟨_, List.getElem?_eq_getElem (by omega)⟩
       refine VD.q rfl (q_ixm (s := nxt.s) Tryz.underlying26 sz3 rfl rfl (by omega) (by omega)) (by decide) ?_
       refine VD.q rfl (q_el (s := nxt.s) one3 rfl hz123 rfl) (by decide) ?_
       have hbz := hL (by omega) (by omega) hz123
       have hle := lcs_le (a.l.drop (i + 1).toNat) (b.l.drop (j + 1).toNat)
       have hdl : (a.l.drop (i + 1).toNat).length ≤ 256 := by rw [List.length_drop]; omega
       refine VD.q rfl (q_add rfl rfl ⟨by omega, by omega⟩) (by decide) ?_
       obtain ⟨z126, hz126⟩ : ∃ z, w2.l[(j).toNat]? = some z := ⟨_, List.getElem?_eq_getElem (by omega)⟩
       refine VD.q rfl (q_ixo (s := w2) Tryz.underlying26 sz3 rfl rfl (by omega) (by omega)) (by decide) ?_
       refine VD.one rfl ?_
       refine VL.storeE (s := w2) (T := 3) (j := 0) (vc := [i64 (z123 + 1)]) ((z123 + 1) : Int) (by decide) rfl rfl hz126 rfl sz3 rfl rfl (Nat.le_of_ble_eq_true rfl) rfl (fun w3 hw3 haw3 hcw3 hvw3 hbw3 how3 => ?_)
       rw [← hvw3]
       refine VL.back (D' := []) (by kernel_rfl) (Pend.nil) ?_
       refine VD.to (fun _ _ h => h) ?_
       refine Zr ?_
       refine Zm ?_
       refine VL.q (q_sub rfl rfl ⟨by omega, by omega⟩) (by decide) ?_
       refine Za ?_
       refine VL.anyI ((j - 1), w3) [0, 1, 4, 5, 6, 7] (fun _ _ h => h) ?_ rfl (by (try dsimp only); exact EntO.out)
       try dsimp only
       have e49 := hL (by omega) (by omega) hz49
       have e65 : z65 = z49 := by
         rw [hw1, List.getElem?_set_self (by omega)] at hz65; exact (Option.some.inj hz65).symm
       have e58 : z58 = lcs (a.l.drop i.toNat) (b.l.drop (j + 1).toNat) := by
         rw [hw1, List.getElem?_set_ne (by omega), hrow (j + 1).toNat (.inl (by omega)) (by omega)] at hz58; exact (Option.some.inj hz58).symm
       first
         | (have e79 : z79 = z58 := Option.some.inj (hz79.symm.trans hz58)
            have e99 := hL (by omega) (by omega) hz99
            have e123 := hL (by omega) (by omega) hz123
            have e107 : z107 = z79 := by
              rw [hw2, List.getElem?_set_self (by omega)] at hz107; exact (Option.some.inj hz107).symm
            have key := crow_step hz84 hz88 (by omega) (by omega) e49 e58 e123 (m := z79) (n := z123 + 1) (by rw [if_pos (by omega)]; exact e79) (by rw [if_pos ⟨h91, by omega⟩])
            have fin := inner_fin (l' := w3.l) hsl (by omega) j1 (by omega) hrow (by rw [hw3, hw2, hw1, List.set_set, List.set_set]) key
            exact ⟨⟨by omega, by omega, fin.1, hvw3.trans hv_w2, fin.2⟩, by omega⟩)
         | (have e79 : z79 = z58 := Option.some.inj (hz79.symm.trans hz58)
            have e99 := hL (by omega) (by omega) hz99
            have e107 : z107 = z79 := by
              rw [hw2, List.getElem?_set_self (by omega)] at hz107; exact (Option.some.inj hz107).symm
            have key := crow_step hz84 hz88 (by omega) (by omega) e49 e58 e99 (m := z79) (n := z79) (by rw [if_pos (by omega)]; exact e79) (by rw [if_neg (fun q => by have := q.2; omega)])
            have fin := inner_fin (l' := w2.l) hsl (by omega) j1 (by omega) hrow (by rw [hw2, hw1, List.set_set]) key
            exact ⟨⟨by omega, by omega, fin.1, hv_w2, fin.2⟩, by omega⟩)
         | (have e79 : z79 = z58 := Option.some.inj (hz79.symm.trans hz58)
            have key := crow_step hz84 hz88 (by omega) (by omega) e49 e58 rfl (m := z79) (n := z79) (by rw [if_pos (by omega)]; exact e79) (by rw [if_neg (fun q => h91 q.1)])
            have fin := inner_fin (l' := w2.l) hsl (by omega) j1 (by omega) hrow (by rw [hw2, hw1, List.set_set]) key
            exact ⟨⟨by omega, by omega, fin.1, hv_w2, fin.2⟩, by omega⟩)
         | (have e99 := hL (by omega) (by omega) hz99
            have e123 := hL (by omega) (by omega) hz123
            have e107 : z107 = z49 := by
              rw [hw1, List.getElem?_set_self (by omega)] at hz107; exact (Option.some.inj hz107).symm
            have key := crow_step hz84 hz88 (by omega) (by omega) e49 e58 e123 (m := z49) (n := z123 + 1) (by rw [if_neg (by omega)]) (by rw [if_pos ⟨h91, by omega⟩])
            have fin := inner_fin (l' := w4.l) hsl (by omega) j1 (by omega) hrow (by rw [hw4, hw1, List.set_set]) key
            exact ⟨⟨by omega, by omega, fin.1, hvw4.trans hv_w1, fin.2⟩, by omega⟩)
         | (have e99 := hL (by omega) (by omega) hz99
            have e107 : z107 = z49 := by
              rw [hw1, List.getElem?_set_self (by omega)] at hz107; exact (Option.some.inj hz107).symm
            have key := crow_step hz84 hz88 (by omega) (by omega) e49 e58 e99 (m := z49) (n := z49) (by rw [if_neg (by omega)]) (by rw [if_neg (fun q => by have := q.2; omega)])
            have fin := inner_fin (l' := w1.l) hsl (by omega) j1 (by omega) hrow hw1 key
            exact ⟨⟨by omega, by omega, fin.1, hv_w1, fin.2⟩, by omega⟩)
         | (have key := crow_step hz84 hz88 (by omega) (by omega) e49 e58 rfl (m := z49) (n := z49) (by rw [if_neg (by omega)]) (by rw [if_neg (fun q => h91 q.1)])
            have fin := inner_fin (l' := w1.l) hsl (by omega) j1 (by omega) hrow hw1 key
            exact ⟨⟨by omega, by omega, fin.1, hv_w1, fin.2⟩, by omega⟩)
      refine Zk ?_
      refine Zr ?_
      refine Zm ?_
      refine VL.q (q_sub rfl rfl ⟨by omega, by omega⟩) (by decide) ?_
      refine Za ?_
      refine VL.anyI ((j - 1), w2) [0, 1, 4, 5, 6, 7] (fun _ _ h => h) ?_ rfl (by (try dsimp only); exact EntO.out)
      try dsimp only
      have e49 := hL (by omega) (by omega) hz49
      have e65 : z65 = z49 := by
        rw [hw1, List.getElem?_set_self (by omega)] at hz65; exact (Option.some.inj hz65).symm
      have e58 : z58 = lcs (a.l.drop i.toNat) (b.l.drop (j + 1).toNat) := by
        rw [hw1, List.getElem?_set_ne (by omega), hrow (j + 1).toNat (.inl (by omega)) (by omega)] at hz58; exact (Option.some.inj hz58).symm
      first
        | (have e79 : z79 = z58 := Option.some.inj (hz79.symm.trans hz58)
           have e99 := hL (by omega) (by omega) hz99
           have e123 := hL (by omega) (by omega) hz123
           have e107 : z107 = z79 := by
             rw [hw2, List.getElem?_set_self (by omega)] at hz107; exact (Option.some.inj hz107).symm
           have key := crow_step hz84 hz88 (by omega) (by omega) e49 e58 e123 (m := z79) (n := z123 + 1) (by rw [if_pos (by omega)]; exact e79) (by rw [if_pos ⟨h91, by omega⟩])
           have fin := inner_fin (l' := w3.l) hsl (by omega) j1 (by omega) hrow (by rw [hw3, hw2, hw1, List.set_set, List.set_set]) key
           exact ⟨⟨by omega, by omega, fin.1, hvw3.trans hv_w2, fin.2⟩, by omega⟩)
        | (have e79 : z79 = z58 := Option.some.inj (hz79.symm.trans hz58)
           have e99 := hL (by omega) (by omega) hz99
           have e107 : z107 = z79 := by
             rw [hw2, List.getElem?_set_self (by omega)] at hz107; exact (Option.some.inj hz107).symm
           have key := crow_step hz84 hz88 (by omega) (by omega) e49 e58 e99 (m := z79) (n := z79) (by rw [if_pos (by omega)]; exact e79) (by rw [if_neg (fun q => by have := q.2; omega)])
           have fin := inner_fin (l' := w2.l) hsl (by omega) j1 (by omega) hrow (by rw [hw2, hw1, List.set_set]) key
           exact ⟨⟨by omega, by omega, fin.1, hv_w2, fin.2⟩, by omega⟩)
        | (have e79 : z79 = z58 := Option.some.inj (hz79.symm.trans hz58)
           have key := crow_step hz84 hz88 (by omega) (by omega) e49 e58 rfl (m := z79) (n := z79) (by rw [if_pos (by omega)]; exact e79) (by rw [if_neg (fun q => h91 q.1)])
           have fin := inner_fin (l' := w2.l) hsl (by omega) j1 (by omega) hrow (by rw [hw2, hw1, List.set_set]) key
           exact ⟨⟨by omega, by omega, fin.1, hv_w2, fin.2⟩, by omega⟩)
        | (have e99 := hL (by omega) (by omega) hz99
           have e123 := hL (by omega) (by omega) hz123
           have e107 : z107 = z49 := by
             rw [hw1, List.getElem?_set_self (by omega)] at hz107; exact (Option.some.inj hz107).symm
           have key := crow_step hz84 hz88 (by omega) (by omega) e49 e58 e123 (m := z49) (n := z123 + 1) (by rw [if_neg (by omega)]) (by rw [if_pos ⟨h91, by omega⟩])
           have fin := inner_fin (l' := w4.l) hsl (by omega) j1 (by omega) hrow (by rw [hw4, hw1, List.set_set]) key
           exact ⟨⟨by omega, by omega, fin.1, hvw4.trans hv_w1, fin.2⟩, by omega⟩)
        | (have e99 := hL (by omega) (by omega) hz99
           have e107 : z107 = z49 := by
             rw [hw1, List.getElem?_set_self (by omega)] at hz107; exact (Option.some.inj hz107).symm
           have key := crow_step hz84 hz88 (by omega) (by omega) e49 e58 e99 (m := z49) (n := z49) (by rw [if_neg (by omega)]) (by rw [if_neg (fun q => by have := q.2; omega)])
           have fin := inner_fin (l' := w1.l) hsl (by omega) j1 (by omega) hrow hw1 key
           exact ⟨⟨by omega, by omega, fin.1, hv_w1, fin.2⟩, by omega⟩)
        | (have key := crow_step hz84 hz88 (by omega) (by omega) e49 e58 rfl (m := z49) (n := z49) (by rw [if_neg (by omega)]) (by rw [if_neg (fun q => h91 q.1)])
           have fin := inner_fin (l' := w1.l) hsl (by omega) j1 (by omega) hrow hw1 key
           exact ⟨⟨by omega, by omega, fin.1, hv_w1, fin.2⟩, by omega⟩)
     refine Zd ?_
     refine Zd ?_
     refine Zd ?_
     refine Zd ?_
     refine Zd ?_
     refine Zd ?_
     refine Zd ?_
     refine Zd ?_
     refine Zd ?_
     refine Zd ?_
     refine Zd ?_
     refine Zd ?_
     refine Zd ?_
     refine Zd ?_
     refine Zd ?_
     refine Zd ?_
     refine Zd ?_
     refine Zd ?_
     refine VD.q rfl (q_pick_f rfl rfl) (by decide) ?_
     refine VD.to (fun _ _ h => h) ?_
     refine VC.cond_f rfl ?_
     refine Zk ?_
     refine Zr ?_
     refine Zm ?_
     refine VL.q (q_sub rfl rfl ⟨by omega, by omega⟩) (by decide) ?_
     refine Za ?_
     refine VL.anyI ((j - 1), w2) [0, 1, 4, 5, 6, 7] (fun _ _ h => h) ?_ rfl (by (try dsimp only); exact EntO.out)
     try dsimp only
     have e49 := hL (by omega) (by omega) hz49
     have e65 : z65 = z49 := by
       rw [hw1, List.getElem?_set_self (by omega)] at hz65; exact (Option.some.inj hz65).symm
     have e58 : z58 = lcs (a.l.drop i.toNat) (b.l.drop (j + 1).toNat) := by
       rw [hw1, List.getElem?_set_ne (by omega), hrow (j + 1).toNat (.inl (by omega)) (by omega)] at hz58; exact (Option.some.inj hz58).symm
     first
       | (have e79 : z79 = z58 := Option.some.inj (hz79.symm.trans hz58)
          have e99 := hL (by omega) (by omega) hz99
          have e123 := hL (by omega) (by omega) hz123
          have e107 : z107 = z79 := by
            rw [hw2, List.getElem?_set_self (by omega)] at hz107; exact (Option.some.inj hz107).symm
          have key := crow_step hz84 hz88 (by omega) (by omega) e49 e58 e123 (m := z79) (n := z123 + 1) (by rw [if_pos (by omega)]; exact e79) (by rw [if_pos ⟨h91, by omega⟩])
          have fin := inner_fin (l' := w3.l) hsl (by omega) j1 (by omega) hrow (by rw [hw3, hw2, hw1, List.set_set, List.set_set]) key
          exact ⟨⟨by omega, by omega, fin.1, hvw3.trans hv_w2, fin.2⟩, by omega⟩)
       | (have e79 : z79 = z58 := Option.some.inj (hz79.symm.trans hz58)
          have e99 := hL (by omega) (by omega) hz99
          have e107 : z107 = z79 := by
            rw [hw2, List.getElem?_set_self (by omega)] at hz107; exact (Option.some.inj hz107).symm
          have key := crow_step hz84 hz88 (by omega) (by omega) e49 e58 e99 (m := z79) (n := z79) (by rw [if_pos (by omega)]; exact e79) (by rw [if_neg (fun q => by have := q.2; omega)])
          have fin := inner_fin (l' := w2.l) hsl (by omega) j1 (by omega) hrow (by rw [hw2, hw1, List.set_set]) key
          exact ⟨⟨by omega, by omega, fin.1, hv_w2, fin.2⟩, by omega⟩)
       | (have e79 : z79 = z58 := Option.some.inj (hz79.symm.trans hz58)
          have key := crow_step hz84 hz88 (by omega) (by omega) e49 e58 rfl (m := z79) (n := z79) (by rw [if_pos (by omega)]; exact e79) (by rw [if_neg (fun q => h91 q.1)])
          have fin := inner_fin (l' := w2.l) hsl (by omega) j1 (by omega) hrow (by rw [hw2, hw1, List.set_set]) key
          exact ⟨⟨by omega, by omega, fin.1, hv_w2, fin.2⟩, by omega⟩)
       | (have e99 := hL (by omega) (by omega) hz99
          have e123 := hL (by omega) (by omega) hz123
          have e107 : z107 = z49 := by
            rw [hw1, List.getElem?_set_self (by omega)] at hz107; exact (Option.some.inj hz107).symm
          have key := crow_step hz84 hz88 (by omega) (by omega) e49 e58 e123 (m := z49) (n := z123 + 1) (by rw [if_neg (by omega)]) (by rw [if_pos ⟨h91, by omega⟩])
          have fin := inner_fin (l' := w4.l) hsl (by omega) j1 (by omega) hrow (by rw [hw4, hw1, List.set_set]) key
          exact ⟨⟨by omega, by omega, fin.1, hvw4.trans hv_w1, fin.2⟩, by omega⟩)
       | (have e99 := hL (by omega) (by omega) hz99
          have e107 : z107 = z49 := by
            rw [hw1, List.getElem?_set_self (by omega)] at hz107; exact (Option.some.inj hz107).symm
          have key := crow_step hz84 hz88 (by omega) (by omega) e49 e58 e99 (m := z49) (n := z49) (by rw [if_neg (by omega)]) (by rw [if_neg (fun q => by have := q.2; omega)])
          have fin := inner_fin (l' := w1.l) hsl (by omega) j1 (by omega) hrow hw1 key
          exact ⟨⟨by omega, by omega, fin.1, hv_w1, fin.2⟩, by omega⟩)
       | (have key := crow_step hz84 hz88 (by omega) (by omega) e49 e58 rfl (m := z49) (n := z49) (by rw [if_neg (by omega)]) (by rw [if_neg (fun q => h91 q.1)])
          have fin := inner_fin (l' := w1.l) hsl (by omega) j1 (by omega) hrow hw1 key
          exact ⟨⟨by omega, by omega, fin.1, hv_w1, fin.2⟩, by omega⟩)
    refine Zk ?_
    refine Zq ?_
    refine VC.draw ((List.range 29).map fun k => (k, true)) mixed (by kernel_rfl) (by kernel_rfl) (by kernel_rfl) ?_
    refine VD.q rfl (q_move rfl) (by decide) ?_
    refine VD.q rfl (q_move rfl) (by decide) ?_
    obtain ⟨z84, hz84⟩ : ∃ z, a.l[(i).toNat]? = some z := ⟨_, List.getElem?_eq_getElem (by omega)⟩
    refine VD.q rfl (q_ixm (s := a) Tryz.underlying82 sz9 rfl rfl (by omega) (by omega)) (by decide) ?_
    refine VD.q rfl (q_el (s := a) one9 rfl hz84 rfl) (by decide) ?_
    refine VD.q rfl (q_move rfl) (by decide) ?_
    refine VD.q rfl (q_move rfl) (by decide) ?_
    obtain ⟨z88, hz88⟩ : ∃ z, b.l[(j).toNat]? = some z := ⟨_, List.getElem?_eq_getElem (by omega)⟩
    refine VD.q rfl (q_ixm (s := b) Tryz.underlying82 sz9 rfl rfl (by omega) (by omega)) (by decide) ?_
    refine VD.q rfl (q_el (s := b) one9 rfl hz88 rfl) (by decide) ?_
    refine VD.q rfl (q_seq rfl rfl) (by decide) ?_
    refine VD.q rfl (q_move rfl) (by decide) ?_
    refine VD.split_dec 91 rfl (fun h91 => ?_) (fun h91 => ?_)
    ·
     refine VD.gy rfl rfl rfl (q_move rfl) (by decide) ?_
     refine VD.gy rfl rfl rfl (q_move rfl) (by decide) ?_
     refine VD.gy rfl rfl rfl (q_add rfl rfl ⟨by omega, by omega⟩) (by decide) ?_
     refine VD.gy rfl rfl rfl (q_ixo (s := w0) Tryz.underlying347 sz26 rfl rfl (by omega) (by omega)) (by decide) ?_
     refine VD.gy rfl rfl rfl (q_elo (s := w0) 26 one26 rfl hnxt rfl) (by decide) ?_
     refine VD.gy rfl rfl rfl (q_move rfl) (by decide) ?_
     refine VD.gy rfl rfl rfl (q_add rfl rfl ⟨by omega, by omega⟩) (by decide) ?_
     obtain ⟨z99, hz99⟩ : ∃ z, nxt.s.l[((j + 1)).toNat]? = some z := ⟨_, List.getElem?_eq_getElem (by omega)⟩
     refine VD.gy rfl rfl rfl (q_ixm (s := nxt.s) Tryz.underlying26 sz3 rfl rfl (by omega) (by omega)) (by decide) ?_
     refine VD.gy rfl rfl rfl (q_el (s := nxt.s) one3 rfl hz99 rfl) (by decide) ?_
     have hbz := hL (by omega) (by omega) hz99
     have hle := lcs_le (a.l.drop (i + 1).toNat) (b.l.drop (j + 1).toNat)
     have hdl : (a.l.drop (i + 1).toNat).length ≤ 256 := by rw [List.length_drop]; omega
     refine VD.gy rfl rfl rfl (q_add rfl rfl ⟨by omega, by omega⟩) (by decide) ?_
     refine VD.gy rfl rfl rfl (q_move rfl) (by decide) ?_
     refine VD.gy rfl rfl rfl (q_move rfl) (by decide) ?_
     refine VD.gy rfl rfl rfl (q_ixo (s := w0) Tryz.underlying347 sz26 rfl rfl (by omega) (by omega)) (by decide) ?_
     refine VD.gy rfl rfl rfl (q_elo (s := w0) 26 one26 rfl hcur rfl) (by decide) ?_
     refine VD.setv 105 rfl (show cur.s.val = w1.val by rw [hcs]; exact hv_w1.symm) ?_
     refine VD.gy rfl rfl rfl (q_move rfl) (by decide) ?_
     obtain ⟨z107, hz107⟩ : ∃ z, w1.l[(j).toNat]? = some z := ⟨_, List.getElem?_eq_getElem (by omega)⟩
     refine VD.gy rfl rfl rfl (q_ixo (s := w1) Tryz.underlying26 sz3 rfl rfl (by omega) (by omega)) (by decide) ?_
     refine VD.gy rfl rfl rfl (q_elo (s := w1) 3 one3 rfl hz107 rfl) (by decide) ?_
     refine VD.gy rfl rfl rfl (q_gtr rfl rfl) (by decide) ?_
     refine VD.q rfl (q_pick_t rfl rfl) (by decide) ?_
     refine VD.to (fun _ _ h => h) ?_
     refine VC.cond_dec rfl (fun h110 => ?_) (fun h110 => ?_)
     ·
      refine VC.draw [(0, true), (1, true), (2, true), (3, true), (4, true), (5, true), (6, true), (7, true), (8, true), (9, true), (10, true), (11, true), (12, true), (13, true), (14, true), (15, true), (16, false)] mixed (by kernel_rfl) (by kernel_rfl) (by kernel_rfl) ?_
      refine VD.q rfl (q_move rfl) (by decide) ?_
      refine VD.q rfl (q_move rfl) (by decide) ?_
      refine VD.q rfl (q_ixo (s := w0) Tryz.underlying347 sz26 rfl rfl (by omega) (by omega)) (by decide) ?_
      refine VD.q rfl (q_elo (s := w0) 26 one26 rfl hcur rfl) (by decide) ?_
      refine VD.setv 114 rfl (show cur.s.val = w1.val by rw [hcs]; exact hv_w1.symm) ?_
      refine VD.q rfl (q_move rfl) (by decide) ?_
      refine VD.q rfl (q_move rfl) (by decide) ?_
      refine VD.q rfl (q_move rfl) (by decide) ?_
      refine VD.q rfl (q_add rfl rfl ⟨by omega, by omega⟩) (by decide) ?_
      refine VD.q rfl (q_ixo (s := w0) Tryz.underlying347 sz26 rfl rfl (by omega) (by omega)) (by decide) ?_
      refine VD.q rfl (q_elo (s := w0) 26 one26 rfl hnxt rfl) (by decide) ?_
      refine VD.q rfl (q_move rfl) (by decide) ?_
      refine VD.q rfl (q_add rfl rfl ⟨by omega, by omega⟩) (by decide) ?_
      obtain ⟨z123, hz123⟩ : ∃ z, nxt.s.l[((j + 1)).toNat]? = some z := ⟨_, List.getElem?_eq_getElem (by omega)⟩
      refine VD.q rfl (q_ixm (s := nxt.s) Tryz.underlying26 sz3 rfl rfl (by omega) (by omega)) (by decide) ?_
      refine VD.q rfl (q_el (s := nxt.s) one3 rfl hz123 rfl) (by decide) ?_
      have hbz := hL (by omega) (by omega) hz123
      have hle := lcs_le (a.l.drop (i + 1).toNat) (b.l.drop (j + 1).toNat)
      have hdl : (a.l.drop (i + 1).toNat).length ≤ 256 := by rw [List.length_drop]; omega
      refine VD.q rfl (q_add rfl rfl ⟨by omega, by omega⟩) (by decide) ?_
      obtain ⟨z126, hz126⟩ : ∃ z, w1.l[(j).toNat]? = some z := ⟨_, List.getElem?_eq_getElem (by omega)⟩
      refine VD.q rfl (q_ixo (s := w1) Tryz.underlying26 sz3 rfl rfl (by omega) (by omega)) (by decide) ?_
      refine VD.one rfl ?_
      refine VL.storeE (s := w1) (T := 3) (j := 0) (vc := [i64 (z123 + 1)]) ((z123 + 1) : Int) (by decide) rfl rfl hz126 rfl sz3 rfl rfl (Nat.le_of_ble_eq_true rfl) rfl (fun w4 hw4 haw4 hcw4 hvw4 hbw4 how4 => ?_)
      rw [← hvw4]
      refine VL.back (D' := []) (by kernel_rfl) (Pend.nil) ?_
      refine VD.to (fun _ _ h => h) ?_
      refine Zr ?_
      refine Zm ?_
      refine VL.q (q_sub rfl rfl ⟨by omega, by omega⟩) (by decide) ?_
      refine Za ?_
      refine VL.anyI ((j - 1), w4) [0, 1, 4, 5, 6, 7] (fun _ _ h => h) ?_ rfl (by (try dsimp only); exact EntO.out)
      try dsimp only
      have e49 := hL (by omega) (by omega) hz49
      have e65 : z65 = z49 := by
        rw [hw1, List.getElem?_set_self (by omega)] at hz65; exact (Option.some.inj hz65).symm
      have e58 : z58 = lcs (a.l.drop i.toNat) (b.l.drop (j + 1).toNat) := by
        rw [hw1, List.getElem?_set_ne (by omega), hrow (j + 1).toNat (.inl (by omega)) (by omega)] at hz58; exact (Option.some.inj hz58).symm
      first
        | (have e79 : z79 = z58 := Option.some.inj (hz79.symm.trans hz58)
           have e99 := hL (by omega) (by omega) hz99
           have e123 := hL (by omega) (by omega) hz123
           have e107 : z107 = z79 := by
             rw [hw2, List.getElem?_set_self (by omega)] at hz107; exact (Option.some.inj hz107).symm
           have key := crow_step hz84 hz88 (by omega) (by omega) e49 e58 e123 (m := z79) (n := z123 + 1) (by rw [if_pos (by omega)]; exact e79) (by rw [if_pos ⟨h91, by omega⟩])
           have fin := inner_fin (l' := w3.l) hsl (by omega) j1 (by omega) hrow (by rw [hw3, hw2, hw1, List.set_set, List.set_set]) key
           exact ⟨⟨by omega, by omega, fin.1, hvw3.trans hv_w2, fin.2⟩, by omega⟩)
        | (have e79 : z79 = z58 := Option.some.inj (hz79.symm.trans hz58)
           have e99 := hL (by omega) (by omega) hz99
           have e107 : z107 = z79 := by
             rw [hw2, List.getElem?_set_self (by omega)] at hz107; exact (Option.some.inj hz107).symm
           have key := crow_step hz84 hz88 (by omega) (by omega) e49 e58 e99 (m := z79) (n := z79) (by rw [if_pos (by omega)]; exact e79) (by rw [if_neg (fun q => by have := q.2; omega)])
           have fin := inner_fin (l' := w2.l) hsl (by omega) j1 (by omega) hrow (by rw [hw2, hw1, List.set_set]) key
           exact ⟨⟨by omega, by omega, fin.1, hv_w2, fin.2⟩, by omega⟩)
        | (have e79 : z79 = z58 := Option.some.inj (hz79.symm.trans hz58)
           have key := crow_step hz84 hz88 (by omega) (by omega) e49 e58 rfl (m := z79) (n := z79) (by rw [if_pos (by omega)]; exact e79) (by rw [if_neg (fun q => h91 q.1)])
           have fin := inner_fin (l' := w2.l) hsl (by omega) j1 (by omega) hrow (by rw [hw2, hw1, List.set_set]) key
           exact ⟨⟨by omega, by omega, fin.1, hv_w2, fin.2⟩, by omega⟩)
        | (have e99 := hL (by omega) (by omega) hz99
           have e123 := hL (by omega) (by omega) hz123
           have e107 : z107 = z49 := by
             rw [hw1, List.getElem?_set_self (by omega)] at hz107; exact (Option.some.inj hz107).symm
           have key := crow_step hz84 hz88 (by omega) (by omega) e49 e58 e123 (m := z49) (n := z123 + 1) (by rw [if_neg (by omega)]) (by rw [if_pos ⟨h91, by omega⟩])
           have fin := inner_fin (l' := w4.l) hsl (by omega) j1 (by omega) hrow (by rw [hw4, hw1, List.set_set]) key
           exact ⟨⟨by omega, by omega, fin.1, hvw4.trans hv_w1, fin.2⟩, by omega⟩)
        | (have e99 := hL (by omega) (by omega) hz99
           have e107 : z107 = z49 := by
             rw [hw1, List.getElem?_set_self (by omega)] at hz107; exact (Option.some.inj hz107).symm
           have key := crow_step hz84 hz88 (by omega) (by omega) e49 e58 e99 (m := z49) (n := z49) (by rw [if_neg (by omega)]) (by rw [if_neg (fun q => by have := q.2; omega)])
           have fin := inner_fin (l' := w1.l) hsl (by omega) j1 (by omega) hrow hw1 key
           exact ⟨⟨by omega, by omega, fin.1, hv_w1, fin.2⟩, by omega⟩)
        | (have key := crow_step hz84 hz88 (by omega) (by omega) e49 e58 rfl (m := z49) (n := z49) (by rw [if_neg (by omega)]) (by rw [if_neg (fun q => h91 q.1)])
           have fin := inner_fin (l' := w1.l) hsl (by omega) j1 (by omega) hrow hw1 key
           exact ⟨⟨by omega, by omega, fin.1, hv_w1, fin.2⟩, by omega⟩)
     refine Zk ?_
     refine Zr ?_
     refine Zm ?_
     refine VL.q (q_sub rfl rfl ⟨by omega, by omega⟩) (by decide) ?_
     refine Za ?_
     refine VL.anyI ((j - 1), w1) [0, 1, 4, 5, 6, 7] (fun _ _ h => h) ?_ rfl (by (try dsimp only); exact EntO.out)
     try dsimp only
     have e49 := hL (by omega) (by omega) hz49
     have e65 : z65 = z49 := by
       rw [hw1, List.getElem?_set_self (by omega)] at hz65; exact (Option.some.inj hz65).symm
     have e58 : z58 = lcs (a.l.drop i.toNat) (b.l.drop (j + 1).toNat) := by
       rw [hw1, List.getElem?_set_ne (by omega), hrow (j + 1).toNat (.inl (by omega)) (by omega)] at hz58; exact (Option.some.inj hz58).symm
     first
       | (have e79 : z79 = z58 := Option.some.inj (hz79.symm.trans hz58)
          have e99 := hL (by omega) (by omega) hz99
          have e123 := hL (by omega) (by omega) hz123
          have e107 : z107 = z79 := by
            rw [hw2, List.getElem?_set_self (by omega)] at hz107; exact (Option.some.inj hz107).symm
          have key := crow_step hz84 hz88 (by omega) (by omega) e49 e58 e123 (m := z79) (n := z123 + 1) (by rw [if_pos (by omega)]; exact e79) (by rw [if_pos ⟨h91, by omega⟩])
          have fin := inner_fin (l' := w3.l) hsl (by omega) j1 (by omega) hrow (by rw [hw3, hw2, hw1, List.set_set, List.set_set]) key
          exact ⟨⟨by omega, by omega, fin.1, hvw3.trans hv_w2, fin.2⟩, by omega⟩)
       | (have e79 : z79 = z58 := Option.some.inj (hz79.symm.trans hz58)
          have e99 := hL (by omega) (by omega) hz99
          have e107 : z107 = z79 := by
            rw [hw2, List.getElem?_set_self (by omega)] at hz107; exact (Option.some.inj hz107).symm
          have key := crow_step hz84 hz88 (by omega) (by omega) e49 e58 e99 (m := z79) (n := z79) (by rw [if_pos (by omega)]; exact e79) (by rw [if_neg (fun q => by have := q.2; omega)])
          have fin := inner_fin (l' := w2.l) hsl (by omega) j1 (by omega) hrow (by rw [hw2, hw1, List.set_set]) key
          exact ⟨⟨by omega, by omega, fin.1, hv_w2, fin.2⟩, by omega⟩)
       | (have e79 : z79 = z58 := Option.some.inj (hz79.symm.trans hz58)
          have key := crow_step hz84 hz88 (by omega) (by omega) e49 e58 rfl (m := z79) (n := z79) (by rw [if_pos (by omega)]; exact e79) (by rw [if_neg (fun q => h91 q.1)])
          have fin := inner_fin (l' := w2.l) hsl (by omega) j1 (by omega) hrow (by rw [hw2, hw1, List.set_set]) key
          exact ⟨⟨by omega, by omega, fin.1, hv_w2, fin.2⟩, by omega⟩)
       | (have e99 := hL (by omega) (by omega) hz99
          have e123 := hL (by omega) (by omega) hz123
          have e107 : z107 = z49 := by
            rw [hw1, List.getElem?_set_self (by omega)] at hz107; exact (Option.some.inj hz107).symm
          have key := crow_step hz84 hz88 (by omega) (by omega) e49 e58 e123 (m := z49) (n := z123 + 1) (by rw [if_neg (by omega)]) (by rw [if_pos ⟨h91, by omega⟩])
          have fin := inner_fin (l' := w4.l) hsl (by omega) j1 (by omega) hrow (by rw [hw4, hw1, List.set_set]) key
          exact ⟨⟨by omega, by omega, fin.1, hvw4.trans hv_w1, fin.2⟩, by omega⟩)
       | (have e99 := hL (by omega) (by omega) hz99
          have e107 : z107 = z49 := by
            rw [hw1, List.getElem?_set_self (by omega)] at hz107; exact (Option.some.inj hz107).symm
          have key := crow_step hz84 hz88 (by omega) (by omega) e49 e58 e99 (m := z49) (n := z49) (by rw [if_neg (by omega)]) (by rw [if_neg (fun q => by have := q.2; omega)])
          have fin := inner_fin (l' := w1.l) hsl (by omega) j1 (by omega) hrow hw1 key
          exact ⟨⟨by omega, by omega, fin.1, hv_w1, fin.2⟩, by omega⟩)
       | (have key := crow_step hz84 hz88 (by omega) (by omega) e49 e58 rfl (m := z49) (n := z49) (by rw [if_neg (by omega)]) (by rw [if_neg (fun q => h91 q.1)])
          have fin := inner_fin (l' := w1.l) hsl (by omega) j1 (by omega) hrow hw1 key
          exact ⟨⟨by omega, by omega, fin.1, hv_w1, fin.2⟩, by omega⟩)
    refine Zd ?_
    refine Zd ?_
    refine Zd ?_
    refine Zd ?_
    refine Zd ?_
    refine Zd ?_
    refine Zd ?_
    refine Zd ?_
    refine Zd ?_
    refine Zd ?_
    refine Zd ?_
    refine Zd ?_
    refine Zd ?_
    refine Zd ?_
    refine Zd ?_
    refine Zd ?_
    refine Zd ?_
    refine Zd ?_
    refine VD.q rfl (q_pick_f rfl rfl) (by decide) ?_
    refine VD.to (fun _ _ h => h) ?_
    refine VC.cond_f rfl ?_
    refine Zk ?_
    refine Zr ?_
    refine Zm ?_
    refine VL.q (q_sub rfl rfl ⟨by omega, by omega⟩) (by decide) ?_
    refine Za ?_
    refine VL.anyI ((j - 1), w1) [0, 1, 4, 5, 6, 7] (fun _ _ h => h) ?_ rfl (by (try dsimp only); exact EntO.out)
    try dsimp only
    have e49 := hL (by omega) (by omega) hz49
    have e65 : z65 = z49 := by
      rw [hw1, List.getElem?_set_self (by omega)] at hz65; exact (Option.some.inj hz65).symm
    have e58 : z58 = lcs (a.l.drop i.toNat) (b.l.drop (j + 1).toNat) := by
      rw [hw1, List.getElem?_set_ne (by omega), hrow (j + 1).toNat (.inl (by omega)) (by omega)] at hz58; exact (Option.some.inj hz58).symm
    first
      | (have e79 : z79 = z58 := Option.some.inj (hz79.symm.trans hz58)
         have e99 := hL (by omega) (by omega) hz99
         have e123 := hL (by omega) (by omega) hz123
         have e107 : z107 = z79 := by
           rw [hw2, List.getElem?_set_self (by omega)] at hz107; exact (Option.some.inj hz107).symm
         have key := crow_step hz84 hz88 (by omega) (by omega) e49 e58 e123 (m := z79) (n := z123 + 1) (by rw [if_pos (by omega)]; exact e79) (by rw [if_pos ⟨h91, by omega⟩])
         have fin := inner_fin (l' := w3.l) hsl (by omega) j1 (by omega) hrow (by rw [hw3, hw2, hw1, List.set_set, List.set_set]) key
         exact ⟨⟨by omega, by omega, fin.1, hvw3.trans hv_w2, fin.2⟩, by omega⟩)
      | (have e79 : z79 = z58 := Option.some.inj (hz79.symm.trans hz58)
         have e99 := hL (by omega) (by omega) hz99
         have e107 : z107 = z79 := by
           rw [hw2, List.getElem?_set_self (by omega)] at hz107; exact (Option.some.inj hz107).symm
         have key := crow_step hz84 hz88 (by omega) (by omega) e49 e58 e99 (m := z79) (n := z79) (by rw [if_pos (by omega)]; exact e79) (by rw [if_neg (fun q => by have := q.2; omega)])
         have fin := inner_fin (l' := w2.l) hsl (by omega) j1 (by omega) hrow (by rw [hw2, hw1, List.set_set]) key
         exact ⟨⟨by omega, by omega, fin.1, hv_w2, fin.2⟩, by omega⟩)
      | (have e79 : z79 = z58 := Option.some.inj (hz79.symm.trans hz58)
         have key := crow_step hz84 hz88 (by omega) (by omega) e49 e58 rfl (m := z79) (n := z79) (by rw [if_pos (by omega)]; exact e79) (by rw [if_neg (fun q => h91 q.1)])
         have fin := inner_fin (l' := w2.l) hsl (by omega) j1 (by omega) hrow (by rw [hw2, hw1, List.set_set]) key
         exact ⟨⟨by omega, by omega, fin.1, hv_w2, fin.2⟩, by omega⟩)
      | (have e99 := hL (by omega) (by omega) hz99
         have e123 := hL (by omega) (by omega) hz123
         have e107 : z107 = z49 := by
           rw [hw1, List.getElem?_set_self (by omega)] at hz107; exact (Option.some.inj hz107).symm
         have key := crow_step hz84 hz88 (by omega) (by omega) e49 e58 e123 (m := z49) (n := z123 + 1) (by rw [if_neg (by omega)]) (by rw [if_pos ⟨h91, by omega⟩])
         have fin := inner_fin (l' := w4.l) hsl (by omega) j1 (by omega) hrow (by rw [hw4, hw1, List.set_set]) key
         exact ⟨⟨by omega, by omega, fin.1, hvw4.trans hv_w1, fin.2⟩, by omega⟩)
      | (have e99 := hL (by omega) (by omega) hz99
         have e107 : z107 = z49 := by
           rw [hw1, List.getElem?_set_self (by omega)] at hz107; exact (Option.some.inj hz107).symm
         have key := crow_step hz84 hz88 (by omega) (by omega) e49 e58 e99 (m := z49) (n := z49) (by rw [if_neg (by omega)]) (by rw [if_neg (fun q => by have := q.2; omega)])
         have fin := inner_fin (l' := w1.l) hsl (by omega) j1 (by omega) hrow hw1 key
         exact ⟨⟨by omega, by omega, fin.1, hv_w1, fin.2⟩, by omega⟩)
      | (have key := crow_step hz84 hz88 (by omega) (by omega) e49 e58 rfl (m := z49) (n := z49) (by rw [if_neg (by omega)]) (by rw [if_neg (fun q => h91 q.1)])
         have fin := inner_fin (l' := w1.l) hsl (by omega) j1 (by omega) hrow hw1 key
         exact ⟨⟨by omega, by omega, fin.1, hv_w1, fin.2⟩, by omega⟩)
   refine Zx ?_
   refine VC.shut s 3 (fun _ _ _ _ => trivial) ?_
   obtain ⟨o2, ho2, ho2v, ho2o⟩ : ∃ o2 : Sv Hd, o2.l = o.l.set i.toNat ⟨s⟩ ∧ o2.val = w0.val ∧ ∀ z, w0.own 26 z → o2.own 26 z := ⟨⟨w0.a, w0.c, o.l.set i.toNat ⟨s⟩⟩, rfl, (by unfold Sv.val; rw [hw0]; simp), own_same rfl rfl (by rw [hw0]; exact hd_set hv_s)⟩
   rw [← ho2v]
   refine VC.mono (fun _ h => h) (E' := Ow.star (o2.own 26) Ow.emp) (fun z q => by obtain ⟨x, y, d, e, q1, q2⟩ := q; exact ⟨x, y, d, e, ho2o x q1, q2⟩) ?_
   refine Zr ?_
   refine Zm ?_
   refine VL.q (q_sub rfl rfl ⟨by omega, by omega⟩) (by decide) ?_
   refine Za ?_
   refine VL.any ((i - 1), o2) [0, 1, 4, 5, 5, 6] (fun _ _ h => h) ?_ rfl (fun hp q => ⟨by rw [ho2]; exact MR_step q.2.1 q.1 (by omega), q.2.2⟩) (by (try dsimp only); exact EntO.out)
   try dsimp only
   exact ⟨⟨by omega, by omega, by rw [ho2, List.length_set]; exact hol, by rw [ho2]; exact rows_step (by omega) hol hrows (crow_of hsl fun k hk => hrow k (by first | exact .inl (by omega) | exact .inr (by omega)) hk)⟩, by omega⟩
  refine Zn ?_
  refine Zn ?_
  refine Zn ?_
  refine Zn ?_
  refine Zf ?_
  refine Zl ?_
  refine VC.cond_f rfl ?_
  refine Zx ?_
  refine VC.shut s 3 (fun _ _ _ _ => trivial) ?_
  obtain ⟨o2, ho2, ho2v, ho2o⟩ : ∃ o2 : Sv Hd, o2.l = o.l.set i.toNat ⟨s⟩ ∧ o2.val = w0.val ∧ ∀ z, w0.own 26 z → o2.own 26 z := ⟨⟨w0.a, w0.c, o.l.set i.toNat ⟨s⟩⟩, rfl, (by unfold Sv.val; rw [hw0]; simp), own_same rfl rfl (by rw [hw0]; exact hd_set hv_s)⟩
  rw [← ho2v]
  refine VC.mono (fun _ h => h) (E' := Ow.star (o2.own 26) Ow.emp) (fun z q => by obtain ⟨x, y, d, e, q1, q2⟩ := q; exact ⟨x, y, d, e, ho2o x q1, q2⟩) ?_
  refine Zr ?_
  refine Zm ?_
  refine VL.q (q_sub rfl rfl ⟨by omega, by omega⟩) (by decide) ?_
  refine Za ?_
  refine VL.any ((i - 1), o2) [0, 1, 4, 5, 5, 6] (fun _ _ h => h) ?_ rfl (fun hp q => ⟨by rw [ho2]; exact MR_step q.2.1 q.1 (by omega), q.2.2⟩) (by (try dsimp only); exact EntO.out)
  try dsimp only
  exact ⟨⟨by omega, by omega, by rw [ho2, List.length_set]; exact hol, by rw [ho2]; exact rows_step (by omega) hol hrows (crow_of hsl fun k hk => hrow k (by first | exact .inl (by omega) | exact .inr (by omega)) hk)⟩, by omega⟩
 refine Zx ?_
 refine Zq (Zr ?_)
 refine Zm ?_
 refine Za ?_
 refine Zl ?_
 obtain rfl : i = -1 := by omega
 refine VC.shut o 26 (fun _ _ _ _ => trivial) ?_
 refine VC.addM (rowsV o).ok (fun h q => rowsV_ok q.1 q.2.1) ?_
 exact VC.ret (fin1I (.inr rfl) rfl rfl (rowsV o) ((rowsV_val o).symm) ((rows_fin hol hrows)) (fun _ _ => trivial))
end Go.Proofs.YtleokmhhloamaaaGreatDoor
end

section
namespace Go.S
variable {α β γ R S T : Type}
inductive Err where
  | nil
  | no (n : Int)
  | fault (part : List UInt8) (at_ : Int) (e : Err)
  deriving DecidableEq
def Err.isNil : Err → Bool
  | .nil => true
  | _ => false
def gd (c : Prop) [Decidable c] (k : Option α) : Option α := if c then k else none
def at_ (l : List α) (i : Int) : Option α := if 0 ≤ i then l[i.toNat]? else none
def lt (e : α) (f : α → Option β) : Option β := f e
def up (o : Option R) : Option (T ⊕ R) := match o with
  | none => none
  | some r => some (.inr r)
def go (t : T) : Option (T ⊕ R) := some (.inl t)
def jn (K : S → Option R) (F : (S → Option R) → Option R) : Option R := F K
def I64 (n : Int) : Prop := -9223372036854775808 ≤ n ∧ n ≤ 9223372036854775807
instance (n : Int) : Decidable (I64 n) := inferInstanceAs (Decidable (_ ∧ _))
def iterN (B : T → Option (T ⊕ R)) : Nat → T → Option R
  | 0, _ => none
  | n + 1, t => match B t with
    | none => none
    | some (.inl t') => iterN B n t'
    | some (.inr r) => some r
open Classical in
/-- a loop: reckoned where a thousand million rounds do; else by choice -/
noncomputable def iter (B : T → Option (T ⊕ R)) (t : T) : Option R := match iterN B 1000000000 t with
  | some r => some r
  | none => if h : ∃ n r, iterN B n t = some r then some h.choose_spec.choose else none
def Step (B : T → Option (T ⊕ R)) (n : Nat) (e : R) : T ⊕ R → Prop
  | .inl t => iterN B n t = some e
  | .inr r => r = e
theorem iterN_mono {B : T → Option (T ⊕ R)} {r : R} : ∀ {n : Nat} {t : T}, iterN B n t = some r → ∀ m, n ≤ m → iterN B m t = some r
  | 0, _, h, _, _ => by cases h
  | n + 1, t, h, m, hm => by
    obtain ⟨m, rfl⟩ : ∃ k, m = k + 1 := ⟨m - 1, by omega⟩
    simp only [iterN] at h ⊢
    cases hb : B t with
    | none => rw [hb] at h; cases h
    | some y =>
      rw [hb] at h
      cases y with
      | inl t' => exact iterN_mono h m (by omega)
      | inr r' => exact h
theorem iterN_det {B : T → Option (T ⊕ R)} {r r' : R} {n m : Nat} {t : T} (h : iterN B n t = some r) (h' : iterN B m t = some r') : r = r' := by
  have a := iterN_mono h (max n m) (Nat.le_max_left _ _)
  have b := iterN_mono h' (max n m) (Nat.le_max_right _ _)
  rw [a] at b
  exact Option.some.inj b
theorem iter_of {B : T → Option (T ⊕ R)} {r : R} {n : Nat} {t : T} (h : iterN B n t = some r) : iter B t = some r := by
  have hx : ∃ n r, iterN B n t = some r := ⟨n, r, h⟩
  unfold iter
  split
  · rename_i r' h'
    exact congrArg some (iterN_det h' h)
  · rw [dif_pos hx]
    exact congrArg some (iterN_det hx.choose_spec.choose_spec h)
theorem iter_ex {B : T → Option (T ⊕ R)} {e : R} {t : T} (h : iter B t = some e) : ∃ n, iterN B n t = some e := by
  unfold iter at h
  split at h
  · rename_i r' h'
    exact ⟨_, by rw [h', Option.some.inj h]⟩
  · split at h
    · rename_i hx
      exact ⟨hx.choose, (Option.some.inj h) ▸ hx.choose_spec.choose_spec⟩
    · cases h
theorem iterN_s {B : T → Option (T ⊕ R)} {e : R} {n : Nat} {t : T} (h : iterN B n t = some e) : ∃ m y, n = m + 1 ∧ B t = some y ∧ Step B m e y := by
  cases n with
  | zero => cases h
  | succ n =>
    simp only [iterN] at h
    cases hb : B t with
    | none => rw [hb] at h; cases h
    | some y =>
      rw [hb] at h
      cases y with
      | inl t' => exact ⟨n, _, rfl, rfl, h⟩
      | inr r' => exact ⟨n, _, rfl, rfl, Option.some.inj h⟩
theorem iter_inv {B : T → Option (T ⊕ R)} (I : T → Prop) (μ : T → Nat) (Q : R → Prop)
    (h : ∀ t, I t → ∃ y, B t = some y ∧ match y with | .inl t' => I t' ∧ μ t' < μ t | .inr r => Q r) (t0 : T) (h0 : I t0) : ∃ r, iter B t0 = some r ∧ Q r := by
  suffices H : ∀ n t, μ t < n → I t → ∃ r, iterN B n t = some r ∧ Q r by
    obtain ⟨r, h1, h2⟩ := H (μ t0 + 1) t0 (by omega) h0
    exact ⟨r, iter_of h1, h2⟩
  intro n
  induction n with
  | zero => intro t h; omega
  | succ n ih =>
    intro t hn hI
    obtain ⟨y, hy, hm⟩ := h t hI
    simp only [iterN, hy]
    cases y with
    | inl t' => exact ih t' (by have := hm.2; omega) hm.1
    | inr r => exact ⟨r, rfl, hm⟩
theorem gd_s {c : Prop} [Decidable c] {k : Option α} {r : α} (h : gd c k = some r) : c ∧ k = some r := by
  unfold gd at h
  split at h
  · exact ⟨‹_›, h⟩
  · cases h
theorem bd_s {o : Option α} {f : α → Option β} {r : β} (h : o.bind f = some r) : ∃ a, o = some a ∧ f a = some r := by
  cases o with
  | none => cases h
  | some a => exact ⟨a, rfl, h⟩
theorem at_s {l : List α} {i : Int} {f : α → Option β} {r : β} (h : (at_ l i).bind f = some r) : ∃ z, 0 ≤ i ∧ l[i.toNat]? = some z ∧ f z = some r := by
  obtain ⟨z, h1, h2⟩ := bd_s h
  unfold at_ at h1
  split at h1
  · exact ⟨z, ‹_›, h1, h2⟩
  · cases h1
theorem atm_s {g : γ → α} {l : List γ} {i : Int} {f : α → Option β} {r : β} (h : (at_ (l.map g) i).bind f = some r) : ∃ z, 0 ≤ i ∧ l[i.toNat]? = some z ∧ f (g z) = some r := by
  obtain ⟨y, h0, h1, h2⟩ := at_s h
  rw [List.getElem?_map] at h1
  cases hz : l[i.toNat]? with
  | none => rw [hz] at h1; cases h1
  | some z => rw [hz] at h1; cases h1; exact ⟨z, h0, rfl, h2⟩
theorem lt_s {e : α} {f : α → Option β} {r : β} (h : lt e f = some r) : ∃ y, e = y ∧ f y = some r := ⟨e, rfl, h⟩
theorem lt_to {e p : α} {f : α → Option β} {r : β} (q : p = e) (h : lt e f = some r) : f p = some r := by subst q; exact h
theorem up_s {o : Option R} {y : T ⊕ R} (h : up o = some y) : ∃ c, o = some c ∧ y = .inr c := by
  cases o with
  | none => cases h
  | some c => cases h; exact ⟨c, rfl, rfl⟩
theorem go_s {t : T} {y : T ⊕ R} (h : go t = some y) : y = .inl t := by cases h; rfl
theorem it_t {c : Prop} [Decidable c] {a b : Option α} {r : α} (hc : c) (h : (if c then a else b) = some r) : a = some r := by rwa [if_pos hc] at h
theorem it_f {c : Prop} [Decidable c] {a b : Option α} {r : α} (hc : ¬ c) (h : (if c then a else b) = some r) : b = some r := by rwa [if_neg hc] at h
theorem lt_of_get {l : List α} {i : Int} {z : α} (h0 : 0 ≤ i) (h : l[i.toNat]? = some z) : i < l.length := by
  have := (List.getElem?_eq_some_iff.1 h).1
  omega
def Ok (o : Option α) (Q : α → Prop) : Prop := ∃ a, o = some a ∧ Q a
theorem Ok.of {o : Option α} {Q : α → Prop} {a : α} (h : o = some a) (q : Q a) : Ok o Q := ⟨a, h, q⟩
theorem Ok.eq {o : Option α} {a : α} (h : Ok o (· = a)) : o = some a := by obtain ⟨b, h, rfl⟩ := h; exact h
theorem Ok.mono {o : Option α} {Q Q' : α → Prop} (h : Ok o Q) (g : ∀ a, Q a → Q' a) : Ok o Q' := by obtain ⟨a, h, q⟩ := h; exact ⟨a, h, g a q⟩
theorem ok_some {a : α} {Q : α → Prop} : Ok (some a) Q ↔ Q a := ⟨fun ⟨_, h, q⟩ => by cases h; exact q, fun q => ⟨a, rfl, q⟩⟩
theorem ok_gd {c : Prop} [Decidable c] {k : Option α} {Q : α → Prop} : Ok (gd c k) Q ↔ c ∧ Ok k Q := by
  unfold gd
  by_cases h : c
  · simp [h]
  · simp [h, Ok]
theorem ok_bd {o : Option α} {f : α → Option β} {Q : β → Prop} : Ok (o.bind f) Q ↔ Ok o fun a => Ok (f a) Q := by
  cases o with
  | none => simp [Ok]
  | some a => simp [Ok]
theorem ok_if {c : Prop} [Decidable c] {a b : Option α} {Q : α → Prop} : Ok (if c then a else b) Q ↔ (c → Ok a Q) ∧ (¬ c → Ok b Q) := by
  by_cases h : c <;> simp [h]
theorem ok_at {l : List α} {i : Int} {Q : α → Prop} : Ok (at_ l i) Q ↔ 0 ≤ i ∧ ∃ z, l[i.toNat]? = some z ∧ Q z := by
  unfold at_
  by_cases h : 0 ≤ i <;> simp [h, Ok]
theorem ok_lt {e : α} {f : α → Option β} {Q : β → Prop} : Ok (lt e f) Q ↔ Ok (f e) Q := Iff.rfl
theorem ok_up {o : Option R} {Q : T ⊕ R → Prop} : Ok (up o) Q ↔ Ok o fun r => Q (.inr r) := by
  cases o with
  | none => simp [Ok, up]
  | some r => simp [Ok, up]
theorem ok_go {t : T} {Q : T ⊕ R → Prop} : Ok (go t) Q ↔ Q (.inl t) := ok_some
theorem ok_jn {K : S → Option R} {F : (S → Option R) → Option R} {Q : R → Prop} : Ok (jn K F) Q ↔ Ok (F K) Q := Iff.rfl
theorem ok_iter {B : T → Option (T ⊕ R)} {t0 : T} {Q : R → Prop} (I : T → Prop) (μ : T → Nat)
    (h : ∀ t, I t → Ok (B t) fun y => match y with | .inl t' => I t' ∧ μ t' < μ t | .inr r => Q r) (h0 : I t0) : Ok (iter B t0) Q := iter_inv I μ Q h t0 h0
end Go.S
end

section
namespace Go.S
abbrev Str := List UInt8
structure FilesFile where
  path : Str
  mode : Int
  data : Str
  deriving DecidableEq
structure IndexEntry where
  path : Str
  stage : Int
  mode : Int
  data : Str
  time : Int
  size : Int
  deriving DecidableEq
structure TmergeResultP where
  files : List FilesFile
  entries : List IndexEntry
  conflicts : List Str
  deriving DecidableEq
structure TmergeOne where
  file_path : Str
  file_mode : Int
  file_data : Str
  is : Bool
  deriving DecidableEq
structure DiffTableP where
  a : List Str
  b : List Str
  n : List Int
  deriving DecidableEq
structure DiffEdit where
  op : Int
  line : Str
  deriving DecidableEq
structure DiffMatch where
  a : Int
  b : Int
  n : Int
  deriving DecidableEq
structure Rectoref14File where
  path : Str
  mode : Int
  data : Str
  deriving DecidableEq
structure Rectoref3Part where
  word : Str
  at_ : Int
  deriving DecidableEq
structure Rectoref3WrongP where
  parts : List Rectoref3Part
  err : Int
  deriving DecidableEq
structure Rectoref11Edit where
  op : Int
  line : Str
  deriving DecidableEq
structure Rectoref11ChunkP where
  base : List Str
  ours : List Str
  theirs : List Str
  clash : Bool
  out : List Str
  deriving DecidableEq
structure Rectoref14Entry where
  path : Str
  stage : Int
  mode : Int
  data : Str
  time : Int
  size : Int
  deriving DecidableEq
structure Rectoref14ResultP where
  files : List Rectoref14File
  entries : List Rectoref14Entry
  conflicts : List Str
  deriving DecidableEq
structure ApiFaultP where
  part : Str
  at_ : Int
  err : Err
  deriving DecidableEq
end Go.S
end
