/- Part of the proofs of: Three trees are merged as the document says where one side is as it was, and where the changes are apart: for all trees. -/
import Derived.Test.YtpmhinamcndmeaaGreatDoorRF
set_option linter.unusedVariables false
set_option linter.unusedSimpArgs false
set_option linter.unusedSectionVars false
section
set_option linter.unusedVariables false
namespace Go.Proofs.YtpmhinamcndmeaaGreatDoor
set_option maxHeartbeats 4000000
set_option maxRecDepth 100000
open Go.RowKit Go.V
open Go.S hiding Str
theorem rectoref11_long_ct (a_0 : Sv Str) (b_1 : Sv Str) {r : Rectoref3WrongP} (hS : Sh.rectoref11_long a_0.l b_1.l = some r) :
 Ct Tryz.prog 375 [a_0.val, b_1.val] (a_0.ok.and b_1.ok) (Ow.emp) (X := Rectoref3Wrong) (fun x => .agg (Dat.enc x).toArray) (fun x => r = x.pl) (fun x => x.m) (fun x => Ow.emp) := by
 refine Ct.of Tryz.func375 rfl (by kernel_rfl) Tryz.ntmps375 (by simp) fun c => ?_
 unfold Sh.rectoref11_long at hS
 refine Zq (Zr ?_)
 refine VL.alloc (cs := [.slice none 0 0, i64 0]) (by kernel_rfl) (by decide) fun b4_1 => ?_
 refine Zl ?_
 refine Zq (Zq (Zr ?_))
 refine Zm ?_
 refine VL.q (q_ln (s := a_0) Tryz.underlying32 rfl) (by decide) ?_
 refine VL.q (q_gtr rfl rfl) (by decide) ?_
 refine Zl ?_
 refine VC.cond_dec rfl (fun h7 => ?_) (fun h7 => ?_)
 ·
  replace hS := it_t h7 hS
  refine Zq (Zr ?_)
  obtain ⟨y8_2, ey8_2, hS⟩ := bd_s hS
  refine VL.callF (rectoref3_At_ct [108, 105, 110, 101, 115] 0 4 ey8_2) rfl (by decide) ?_
  rintro q8_2_0 rfl
  try dsimp only
  refine VL.store (vc := [q8_2_0.parts.val, i64 q8_2_0.err]) (cs' := [q8_2_0.parts.val, i64 q8_2_0.err]) rfl rfl rfl gsz77 rfl rfl (Nat.le_of_ble_eq_true rfl) rfl ?_
  refine Zl ?_
  cases hS
  exact VC.ret (finG (vs := [.agg #[q8_2_0.parts.val, i64 q8_2_0.err]]) (.inr rfl) rfl (RVs.cell gagg77 rfl rfl Rd.blk (RVs.nil)) ⟨q8_2_0.parts, q8_2_0.err⟩ rfl rfl (by (try dsimp only); exact InM.out) (fun _ _ => trivial))
 replace hS := it_f h7 hS
 refine Zk ?_
 refine Zq (Zq (Zr ?_))
 refine Zm ?_
 refine VL.q (q_ln (s := b_1) Tryz.underlying32 rfl) (by decide) ?_
 refine VL.q (q_gtr rfl rfl) (by decide) ?_
 refine Zl ?_
 refine VC.cond_dec rfl (fun h11 => ?_) (fun h11 => ?_)
 ·
  replace hS := it_t h11 hS
  refine Zq (Zr ?_)
  obtain ⟨y12_3, ey12_3, hS⟩ := bd_s hS
  refine VL.callF (rectoref3_At_ct [108, 105, 110, 101, 115] 1 4 ey12_3) rfl (by decide) ?_
  rintro q12_3_0 rfl
  try dsimp only
  refine VL.store (vc := [q12_3_0.parts.val, i64 q12_3_0.err]) (cs' := [q12_3_0.parts.val, i64 q12_3_0.err]) rfl rfl rfl gsz77 rfl rfl (Nat.le_of_ble_eq_true rfl) rfl ?_
  refine Zl ?_
  cases hS
  exact VC.ret (finG (vs := [.agg #[q12_3_0.parts.val, i64 q12_3_0.err]]) (.inr rfl) rfl (RVs.cell gagg77 rfl rfl Rd.blk (RVs.nil)) ⟨q12_3_0.parts, q12_3_0.err⟩ rfl rfl (by (try dsimp only); exact InM.out) (fun _ _ => trivial))
 replace hS := it_f h11 hS
 refine Zk ?_
 refine Zq (Zr ?_)
 refine VL.q (q_build (vs := []) (cs := #[.slice none 0 0, i64 0]) rfl (by kernel_rfl)) (by decide) ?_
 refine VL.store (vc := [.slice none 0 0, i64 0]) (cs' := [.slice none 0 0, i64 0]) rfl rfl rfl gsz77 rfl rfl (Nat.le_of_ble_eq_true rfl) rfl ?_
 refine Zl ?_
 cases hS
 exact VC.ret (finG (vs := [.agg #[.slice none 0 0, i64 0]]) (.inr rfl) rfl (RVs.cell gagg77 rfl rfl Rd.blk (RVs.nil)) ⟨⟨none, 0, []⟩, 0⟩ rfl rfl (by (try dsimp only); exact InM.out) (fun _ _ => trivial))
theorem rectoref11_Lines_ct (a_0 : Sv Str) (b_1 : Sv Str) {r : List Rectoref11Edit × Rectoref3WrongP} (hS : Sh.rectoref11_Lines a_0.l b_1.l = some r) :
 Ct Tryz.prog 348 [a_0.val, b_1.val] (a_0.ok.and b_1.ok) (Ow.emp) (X := Sv Rectoref11Edit × Rectoref3Wrong) (fun x => .tuple #[x.1.val, .agg (Dat.enc x.2).toArray]) (fun x => r = (x.1.l, x.2.pl)) (fun x => (x.1.ok.and x.2.m)) (fun x => Ow.emp) := by
 refine Ct.of Tryz.func348 rfl (by kernel_rfl) Tryz.ntmps348 (by simp) fun c => ?_
 unfold Sh.rectoref11_Lines at hS
 refine Zq (Zr ?_)
 refine Za ?_
 refine VL.alloc (cs := [.slice none 0 0, i64 0]) (by kernel_rfl) (by decide) fun b5_1 => ?_
 refine Zl ?_
 refine Zq (Zr ?_)
 refine Zm ?_
 refine Zm ?_
 obtain ⟨y13_2, ey13_2, hS⟩ := bd_s hS
 refine VL.callF (rectoref11_long_ct a_0 b_1 ey13_2) rfl (by decide) ?_
 rintro q13_2_0 rfl
 try dsimp only
 refine VL.alloc (cs := [.slice none 0 0, i64 0]) (by kernel_rfl) (by decide) fun b6_3 => ?_
 refine VL.store (vc := [q13_2_0.parts.val, i64 q13_2_0.err]) (cs' := [q13_2_0.parts.val, i64 q13_2_0.err]) rfl rfl rfl gsz77 rfl rfl (Nat.le_of_ble_eq_true rfl) rfl ?_
 refine Zl ?_
 refine Zq (Zq (Zr ?_))
 refine VL.q (q_field gfa77_1 rfl) (by decide) ?_
 refine VL.q (q_fe gone3 rfl rfl) (by decide) ?_
 refine VL.q (q_neq rfl rfl) (by decide) ?_
 refine Zl ?_
 refine VC.cond_ndec rfl (fun h16 => ?_) (fun h16 => ?_)
 ·
  replace hS := it_f h16 hS
  refine Zq ?_
  refine VC.draw [(0, true), (1, true), (2, false)] mixed (by kernel_rfl) (by kernel_rfl) (by kernel_rfl) ?_
  refine VD.q rfl (q_fes gagg77 rfl rfl) (by decide) ?_
  refine VD.q rfl (q_assign rfl) (by decide) ?_
  refine VD.one rfl ?_
  refine VL.store (vc := [q13_2_0.parts.val, i64 q13_2_0.err]) (cs' := [q13_2_0.parts.val, i64 q13_2_0.err]) rfl rfl rfl gsz77 rfl rfl (Nat.le_of_ble_eq_true rfl) rfl ?_
  refine VL.back (D' := []) (by kernel_rfl) (Pend.nil) ?_
  refine VD.to (fun _ _ h => h) ?_
  refine VC.keep [4, 5] rfl ?_
  cases hS
  exact VC.ret (finG (vs := [.slice none 0 0, .agg #[q13_2_0.parts.val, i64 q13_2_0.err]]) (.inr rfl) rfl (RVs.tmp rfl (RVs.cell gagg77 rfl rfl Rd.blk (RVs.nil))) (⟨none, 0, []⟩, ⟨q13_2_0.parts, q13_2_0.err⟩) rfl rfl (by (try dsimp only); exact InM.out) (fun _ _ => trivial))
 replace hS := it_t h16 hS
 refine Zk ?_
 refine VC.keep [0, 1, 5, 6] rfl ?_
 refine Zq (Zr ?_)
 refine Zm ?_
 refine Zm ?_
 cases hS
theorem rectoref11_kept_ct (l_0 : Sv Rectoref11Edit) (n_1 : Int) {r : List Int} (hS : Sh.rectoref11_kept l_0.l n_1 = some r) :
 Ct Tryz.prog 349 [l_0.val, i64 n_1] l_0.ok (Ow.emp) (X := Sv Int) (fun x => x.val) (fun x => r = x.l) (fun x => Mo.tt) (fun x => Sv.own x 3) := by
 refine Ct.of Tryz.func349 rfl (by kernel_rfl) Tryz.ntmps349 (by simp) fun c => ?_
 unfold Sh.rectoref11_kept at hS
 refine Zq (Zr ?_)
 refine Za ?_
 refine Zl ?_
 refine Zq (Zr ?_)
 refine Zm ?_
 obtain ⟨b10, hS⟩ := gd_s hS
 refine VL.make (α := Int) (z := 0) Tryz.underlying60 gmk3 (by decide) rfl rfl b10.1 (Int.le_refl _) (by omega) (by omega) (by decide) (fun s10_1 hs10_1 => ?_)
 replace hS := lt_to hs10_1 hS
 refine Za ?_
 refine Zl ?_
 refine Zq (Zr ?_)
 refine Za ?_
 refine Zl ?_
 refine Zq (Zr ?_)
 refine Za ?_
 refine Zl ?_
 refine Zq (Zq (Zr ?_))
 refine Za ?_
 refine Zl ?_
 refine Zb ?_
 refine VC.iter (S := Sv Int × Int × Int × Int) (fun sg => (sg.1.l, sg.2.1, sg.2.2.1, sg.2.2.2)) (fun sg => [(0, l_0.val), (5, sg.1.val), (6, i64 sg.2.1), (7, i64 sg.2.2.1), (8, i64 sg.2.2.2)]) (fun sg => Mo.tt) (fun sg => Ow.star (Sv.own sg.1 3) (Ow.emp)) (s10_1, 0, 0, 0) [0, 5, 6, 7, 8] hS rfl ?_
 clear hS
 rintro ⟨out5_3, i6_4, j7_5, k8_6⟩ m1 y1 hS hK1
 show VC _ _ _ _ _ [(0, l_0.val), (5, out5_3.val), (6, i64 i6_4), (7, i64 j7_5), (8, i64 k8_6)] (Mo.and Mo.tt _) (Ow.star (Sv.own out5_3 3) (Ow.emp))
 refine Zq (Zq (Zr ?_))
 refine Zm ?_
 refine Zm ?_
 refine VL.q (q_ln (s := l_0) Tryz.underlying411 rfl) (by decide) ?_
 refine VL.q (q_lss rfl rfl) (by decide) ?_
 refine Zl ?_
 refine VC.cond_dec rfl (fun h14 => ?_) (fun h14 => ?_)
 ·
  replace hS := it_t h14 hS
  refine Zk ?_
  refine VC.cutJ (S := Sv Int × Int × Int) (fun sg => (sg.1.l, sg.2.1, sg.2.2)) (fun sg => [(0, l_0.val), (5, sg.1.val), (6, i64 sg.2.1), (7, i64 sg.2.2), (8, i64 k8_6)]) (fun sg => Mo.tt) (fun sg => Ow.star (Sv.own sg.1 3) (Ow.emp)) hS ?_ ?_
  ·
   clear hS
   intro k10 hS
   refine Zb (Zq (Zr ?_))
   refine Zm ?_
   refine Zm ?_
   obtain ⟨z19_11, nz19_11, hz19_11, hS⟩ := at_s hS
   refine VL.q (q_ixm (s := l_0) Tryz.underlying411 gsz440 rfl rfl nz19_11 (lt_of_get nz19_11 hz19_11)) (by decide) ?_
   refine VL.q (q_field gfa440_0 rfl) (by decide) ?_
   refine VL.q (q_elf (s := l_0) gone3 rfl hz19_11 rfl) (by decide) ?_
   refine Zl ?_
   refine VC.keep [0, 5, 6, 7, 8, 21] rfl ?_
   refine Zb (Zq (Zr ?_))
   refine VL.q (q_eql rfl rfl) (by decide) ?_
   refine Za ?_
   refine Zl ?_
   refine VC.cond_dec rfl (fun h22 => ?_) (fun h22 => ?_)
   ·
    replace hS := it_t h22 hS
    refine Zq (Zr ?_)
    refine Zm ?_
    refine Zm ?_
    refine Zm ?_
    obtain ⟨z27_12, nz27_12, hz27_12, hS⟩ := at_s hS
    refine VL.q (q_ixo (s := out5_3) Tryz.underlying60 gsz3 rfl rfl nz27_12 (lt_of_get nz27_12 hz27_12)) (by decide) ?_
    refine VL.storeE (s := out5_3) (T := 3) (j := 0) (vc := [i64 j7_5]) (j7_5 : Int) (by decide) rfl rfl hz27_12 rfl gsz3 rfl rfl (Nat.le_of_ble_eq_true rfl) rfl (fun w13 hw13 haw13 hcw13 hvw13 hbw13 how13 => ?_)
    rw [← hvw13]
    replace hS := lt_to hw13 hS
    refine Zl ?_
    refine VC.keep [0, 5, 6, 7, 8] rfl ?_
    refine Zq (Zr ?_)
    refine Zm ?_
    obtain ⟨b29, hS⟩ := gd_s hS
    refine VL.q (q_add rfl rfl b29) (by decide) ?_
    refine Za ?_
    refine Zl ?_
    refine Zr ?_
    refine Zm ?_
    obtain ⟨b31, hS⟩ := gd_s hS
    refine VL.q (q_add rfl rfl b31) (by decide) ?_
    refine Za ?_
    refine VL.mt (w13, (i6_4 + 1), (j7_5 + 1)) [0, 5, 6, 7, 8] (fun _ _ h => h) hS rfl
   replace hS := it_f h22 hS
   refine Zq (Zr ?_)
   refine VL.q (q_eql rfl rfl) (by decide) ?_
   refine Za ?_
   refine Zl ?_
   refine VC.cond_dec rfl (fun h32 => ?_) (fun h32 => ?_)
   ·
    replace hS := it_t h32 hS
    refine Zq (Zr ?_)
    refine Zm ?_
    refine Zm ?_
    obtain ⟨z36_15, nz36_15, hz36_15, hS⟩ := at_s hS
    refine VL.q (q_ixo (s := out5_3) Tryz.underlying60 gsz3 rfl rfl nz36_15 (lt_of_get nz36_15 hz36_15)) (by decide) ?_
    refine VL.storeE (s := out5_3) (T := 3) (j := 0) (vc := [i64 (-1)]) ((-1) : Int) (by decide) rfl rfl hz36_15 rfl gsz3 rfl rfl (Nat.le_of_ble_eq_true rfl) rfl (fun w16 hw16 haw16 hcw16 hvw16 hbw16 how16 => ?_)
    rw [← hvw16]
    replace hS := lt_to hw16 hS
    refine Zl ?_
    refine VC.keep [0, 5, 6, 7, 8] rfl ?_
    refine Zr ?_
    refine Zm ?_
    obtain ⟨b38, hS⟩ := gd_s hS
    refine VL.q (q_add rfl rfl b38) (by decide) ?_
    refine Za ?_
    refine VL.mt (w16, (i6_4 + 1), j7_5) [0, 5, 6, 7, 8] (fun _ _ h => h) hS rfl
   replace hS := it_f h32 hS
   refine Zq (Zr ?_)
   refine VL.q (q_eql rfl rfl) (by decide) ?_
   refine Za ?_
   refine Zl ?_
   refine VC.cond_dec rfl (fun h39 => ?_) (fun h39 => ?_)
   ·
    replace hS := it_t h39 hS
    refine Zr ?_
    refine Zm ?_
    obtain ⟨b42, hS⟩ := gd_s hS
    refine VL.q (q_add rfl rfl b42) (by decide) ?_
    refine Za ?_
    refine VL.mt (out5_3, i6_4, (j7_5 + 1)) [0, 5, 6, 7, 8] (fun _ _ h => h) hS rfl
   replace hS := it_f h39 hS
   refine VC.skip_mt (out5_3, i6_4, j7_5) [0, 5, 6, 7, 8] (fun _ _ h => h) hS rfl
  clear hS
  rintro ⟨out5_7, i6_8, j7_9⟩ hS
  show VC _ _ _ _ _ [(0, l_0.val), (5, out5_7.val), (6, i64 i6_8), (7, i64 j7_9), (8, i64 k8_6)] (Mo.and Mo.tt _) (Ow.star (Sv.own out5_7 3) (Ow.emp))
  refine Zr ?_
  refine Zm ?_
  obtain ⟨b16, hS⟩ := gd_s hS
  refine VL.q (q_add rfl rfl b16) (by decide) ?_
  refine Za ?_
  refine VL.rnd (out5_7, i6_8, j7_9, (k8_6 + 1)) [0, 5, 6, 7, 8] (fun _ _ h => h) (go2 hS hK1) rfl
 replace hS := it_f h14 hS
 replace hS := up2 hS hK1
 refine Zx ?_
 refine Zq (Zr ?_)
 refine Zm ?_
 refine Za ?_
 refine Zl ?_
 refine VC.keep [4] rfl ?_
 cases hS
 exact VC.ret (fin1 (.inr rfl) rfl rfl out5_3 rfl rfl (by (try dsimp only); exact InM.out) (by (try dsimp only); exact EntO.out))
theorem rectoref11_Equal_ct (a_0 : Sv Str) (b_1 : Sv Str) {r : Bool} (hS : Sh.rectoref11_Equal a_0.l b_1.l = some r) :
 Ct Tryz.prog 377 [a_0.val, b_1.val] (a_0.ok.and b_1.ok) (Ow.emp) (X := Unit) (fun _ => .bool r) (fun _ => True) (fun _ => Mo.tt) (fun _ => Ow.emp) := by
 refine Ct.of Tryz.func377 rfl (by kernel_rfl) Tryz.ntmps377 (by simp) fun c => ?_
 unfold Sh.rectoref11_Equal at hS
 refine Zq (Zr ?_)
 refine Za ?_
 refine Zl ?_
 refine Zq (Zq (Zr ?_))
 refine Zm ?_
 refine VL.q (q_ln (s := a_0) Tryz.underlying32 rfl) (by decide) ?_
 refine Zm ?_
 refine VL.q (q_ln (s := b_1) Tryz.underlying32 rfl) (by decide) ?_
 refine VL.q (q_neq rfl rfl) (by decide) ?_
 refine Zl ?_
 refine VC.cond_ndec rfl (fun h10 => ?_) (fun h10 => ?_)
 ·
  replace hS := it_f h10 hS
  refine Zq (Zr ?_)
  refine Za ?_
  refine Zl ?_
  cases hS
  exact Ze
 replace hS := it_t h10 hS
 refine Zk ?_
 refine Zq (Zq (Zr ?_))
 refine Za ?_
 refine Zl ?_
 refine Zb ?_
 refine VC.iter (S := Int) (fun (i5_1 : Int) => i5_1) (fun (i5_1 : Int) => [(0, a_0.val), (1, b_1.val), (5, i64 i5_1)]) (fun (i5_1 : Int) => Mo.tt) (fun (i5_1 : Int) => Ow.emp) 0 [0, 1, 5] hS rfl ?_
 clear hS
 rintro i5_1 m1 y1 hS hK1
 show VC _ _ _ _ _ [(0, a_0.val), (1, b_1.val), (5, i64 i5_1)] (Mo.and Mo.tt _) (Ow.emp)
 refine Zq (Zq (Zr ?_))
 refine Zm ?_
 refine Zm ?_
 refine VL.q (q_ln (s := a_0) Tryz.underlying32 rfl) (by decide) ?_
 refine VL.q (q_lss rfl rfl) (by decide) ?_
 refine Zl ?_
 refine VC.cond_dec rfl (fun h14 => ?_) (fun h14 => ?_)
 ·
  replace hS := it_t h14 hS
  refine Zk ?_
  refine Zq (Zb (Zq ?_))
  refine VC.draw ((List.range 9).map fun k => (k, true)) mixed (by kernel_rfl) (by kernel_rfl) (by kernel_rfl) ?_
  refine VD.q rfl (q_move rfl) (by decide) ?_
  refine VD.q rfl (q_move rfl) (by decide) ?_
  obtain ⟨z19_2, nz19_2, hz19_2, hS⟩ := at_s hS
  refine VD.q rfl (q_ixm (s := a_0) Tryz.underlying32 gsz9 rfl rfl nz19_2 (lt_of_get nz19_2 hz19_2)) (by decide) ?_
  refine VD.q rfl (q_el (s := a_0) gone9 rfl hz19_2 rfl) (by decide) ?_
  refine VD.q rfl (q_move rfl) (by decide) ?_
  refine VD.q rfl (q_move rfl) (by decide) ?_
  obtain ⟨z23_3, nz23_3, hz23_3, hS⟩ := at_s hS
  refine VD.q rfl (q_ixm (s := b_1) Tryz.underlying32 gsz9 rfl rfl nz23_3 (lt_of_get nz23_3 hz23_3)) (by decide) ?_
  refine VD.q rfl (q_el (s := b_1) gone9 rfl hz23_3 rfl) (by decide) ?_
  refine VD.q rfl (q_sne rfl rfl) (by decide) ?_
  refine VD.to (fun _ _ h => h) ?_
  refine VC.keep [0, 1, 5, 25] rfl ?_
  refine VC.cond_ndec rfl (fun h25 => ?_) (fun h25 => ?_)
  ·
   replace hS := it_f h25 hS
   refine Zq (Zr ?_)
   refine Za ?_
   refine Zl ?_
   replace hS := up2 hS hK1
   cases hS
   exact Ze
  replace hS := it_t h25 hS
  refine Zk ?_
  refine Zr ?_
  refine Zm ?_
  obtain ⟨b16, hS⟩ := gd_s hS
  refine VL.q (q_add rfl rfl b16) (by decide) ?_
  refine Za ?_
  refine VL.rnd (i5_1 + 1) [0, 1, 5] (fun _ _ h => h) (go2 hS hK1) rfl
 replace hS := it_f h14 hS
 replace hS := up2 hS hK1
 refine Zx ?_
 refine Zq (Zr ?_)
 refine Za ?_
 refine Zl ?_
 cases hS
 exact Ze
theorem rectoref11_between_ct (b_0 : Sv Str) (o_1 : Sv Str) (t_2 : Sv Str) {r : Rectoref11ChunkP} (hS : Sh.rectoref11_between b_0.l o_1.l t_2.l = some r) :
 Ct Tryz.prog 350 [b_0.val, o_1.val, t_2.val] (b_0.ok.and (o_1.ok.and t_2.ok)) (Ow.emp) (X := Rectoref11Chunk) (fun x => .agg (Dat.enc x).toArray) (fun x => r = x.pl) (fun x => x.m) (fun x => Ow.emp) := by
 refine Ct.of Tryz.func350 rfl (by kernel_rfl) Tryz.ntmps350 (by simp) fun c => ?_
 unfold Sh.rectoref11_between at hS
 refine Zq (Zr ?_)
 refine VL.alloc (cs := [.slice none 0 0, .slice none 0 0, .slice none 0 0, .bool false, .slice none 0 0]) (by kernel_rfl) (by decide) fun b6_1 => ?_
 refine Zl ?_
 refine Zq (Zr ?_)
 refine Zm ?_
 refine Zm ?_
 refine Zm ?_
 refine VL.q (q_build (vs := [(0, b_0.val), (1, o_1.val), (2, t_2.val)]) (cs := #[b_0.val, o_1.val, t_2.val, .bool false, .slice none 0 0]) rfl (by kernel_rfl)) (by decide) ?_
 refine VL.alloc (cs := [.slice none 0 0, .slice none 0 0, .slice none 0 0, .bool false, .slice none 0 0]) (by kernel_rfl) (by decide) fun b7_2 => ?_
 refine VL.store (vc := [b_0.val, o_1.val, t_2.val, .bool false, .slice none 0 0]) (cs' := [b_0.val, o_1.val, t_2.val, .bool false, .slice none 0 0]) rfl rfl rfl gsz379 rfl rfl (Nat.le_of_ble_eq_true rfl) rfl ?_
 refine Zl ?_
 refine Zq (Zb (Zq (Zr ?_)))
 refine Zm ?_
 refine Zm ?_
 obtain ⟨y16_3, ey16_3, hS⟩ := bd_s hS
 refine VL.q (q_call (rectoref11_Equal_ct o_1 b_0 ey16_3) rfl (fun _ _ => rfl)) (by decide) ?_
 refine Za ?_
 refine Zl ?_
 refine VC.keep [0, 1, 2, 6, 7, 13] rfl ?_
 refine VC.cond rfl (fun h13 => ?_) (fun h13 => ?_)
 ·
  replace hS := it_t h13 hS
  refine Zr ?_
  refine Zm ?_
  refine VL.q (q_field gfa379_4 rfl) (by decide) ?_
  refine VL.store (vc := [t_2.val]) (cs' := [b_0.val, o_1.val, t_2.val, .bool false, t_2.val]) rfl rfl rfl gsz32 rfl rfl (Nat.le_of_ble_eq_true rfl) rfl ?_
  refine Zl ?_
  refine Zq (Zr ?_)
  refine VL.q (q_fes gagg379 rfl rfl) (by decide) ?_
  refine VL.store (vc := [b_0.val, o_1.val, t_2.val, .bool false, t_2.val]) (cs' := [b_0.val, o_1.val, t_2.val, .bool false, t_2.val]) rfl rfl rfl gsz379 rfl rfl (Nat.le_of_ble_eq_true rfl) rfl ?_
  refine Zl ?_
  cases hS
  exact VC.ret (finG (vs := [.agg #[b_0.val, o_1.val, t_2.val, .bool false, t_2.val]]) (.inr rfl) rfl (RVs.cell gagg379 rfl rfl Rd.blk (RVs.nil)) ⟨b_0, o_1, t_2, false, t_2⟩ rfl rfl (by (try dsimp only); exact InM.out) (fun _ _ => trivial))
 replace hS := it_b h13 hS
 refine Zq (Zr ?_)
 refine Zm ?_
 refine Zm ?_
 obtain ⟨y22_4, ey22_4, hS⟩ := bd_s hS
 refine VL.q (q_call (rectoref11_Equal_ct t_2 b_0 ey22_4) rfl (fun _ _ => rfl)) (by decide) ?_
 refine Za ?_
 refine Zl ?_
 refine VC.cond rfl (fun h19 => ?_) (fun h19 => ?_)
 ·
  replace hS := it_t h19 hS
  refine Zr ?_
  refine Zm ?_
  refine VL.q (q_field gfa379_4 rfl) (by decide) ?_
  refine VL.store (vc := [o_1.val]) (cs' := [b_0.val, o_1.val, t_2.val, .bool false, o_1.val]) rfl rfl rfl gsz32 rfl rfl (Nat.le_of_ble_eq_true rfl) rfl ?_
  refine Zl ?_
  refine VC.keep [6, 7] rfl ?_
  refine Zq (Zr ?_)
  refine VL.q (q_fes gagg379 rfl rfl) (by decide) ?_
  refine VL.store (vc := [b_0.val, o_1.val, t_2.val, .bool false, o_1.val]) (cs' := [b_0.val, o_1.val, t_2.val, .bool false, o_1.val]) rfl rfl rfl gsz379 rfl rfl (Nat.le_of_ble_eq_true rfl) rfl ?_
  refine Zl ?_
  cases hS
  exact VC.ret (finG (vs := [.agg #[b_0.val, o_1.val, t_2.val, .bool false, o_1.val]]) (.inr rfl) rfl (RVs.cell gagg379 rfl rfl Rd.blk (RVs.nil)) ⟨b_0, o_1, t_2, false, o_1⟩ rfl rfl (by (try dsimp only); exact InM.out) (fun _ _ => trivial))
 replace hS := it_b h19 hS
 refine Zq (Zr ?_)
 refine Zm ?_
 refine Zm ?_
 obtain ⟨y28_5, ey28_5, hS⟩ := bd_s hS
 refine VL.q (q_call (rectoref11_Equal_ct o_1 t_2 ey28_5) rfl (fun _ _ => rfl)) (by decide) ?_
 refine Za ?_
 refine Zl ?_
 refine VC.keep [1, 6, 7, 25] rfl ?_
 refine VC.cond rfl (fun h25 => ?_) (fun h25 => ?_)
 ·
  replace hS := it_t h25 hS
  refine Zr ?_
  refine Zm ?_
  refine VL.q (q_field gfa379_4 rfl) (by decide) ?_
  refine VL.store (vc := [o_1.val]) (cs' := [b_0.val, o_1.val, t_2.val, .bool false, o_1.val]) rfl rfl rfl gsz32 rfl rfl (Nat.le_of_ble_eq_true rfl) rfl ?_
  refine Zl ?_
  refine Zq (Zr ?_)
  refine VL.q (q_fes gagg379 rfl rfl) (by decide) ?_
  refine VL.store (vc := [b_0.val, o_1.val, t_2.val, .bool false, o_1.val]) (cs' := [b_0.val, o_1.val, t_2.val, .bool false, o_1.val]) rfl rfl rfl gsz379 rfl rfl (Nat.le_of_ble_eq_true rfl) rfl ?_
  refine Zl ?_
  cases hS
  exact VC.ret (finG (vs := [.agg #[b_0.val, o_1.val, t_2.val, .bool false, o_1.val]]) (.inr rfl) rfl (RVs.cell gagg379 rfl rfl Rd.blk (RVs.nil)) ⟨b_0, o_1, t_2, false, o_1⟩ rfl rfl (by (try dsimp only); exact InM.out) (fun _ _ => trivial))
 replace hS := it_b h25 hS
 refine Zr ?_
 refine VL.q (q_field gfa379_3 rfl) (by decide) ?_
 refine VL.store (vc := [.bool true]) (cs' := [b_0.val, o_1.val, t_2.val, .bool true, .slice none 0 0]) rfl rfl rfl gsz4 rfl rfl (Nat.le_of_ble_eq_true rfl) rfl ?_
 refine Zl ?_
 refine Zq (Zr ?_)
 refine VL.q (q_fes gagg379 rfl rfl) (by decide) ?_
 refine VL.store (vc := [b_0.val, o_1.val, t_2.val, .bool true, .slice none 0 0]) (cs' := [b_0.val, o_1.val, t_2.val, .bool true, .slice none 0 0]) rfl rfl rfl gsz379 rfl rfl (Nat.le_of_ble_eq_true rfl) rfl ?_
 refine Zl ?_
 cases hS
 exact VC.ret (finG (vs := [.agg #[b_0.val, o_1.val, t_2.val, .bool true, .slice none 0 0]]) (.inr rfl) rfl (RVs.cell gagg379 rfl rfl Rd.blk (RVs.nil)) ⟨b_0, o_1, t_2, true, ⟨none, 0, []⟩⟩ rfl rfl (by (try dsimp only); exact InM.out) (fun _ _ => trivial))
theorem rectoref11_Chunks_ct (b_0 : Sv Str) (o_1 : Sv Str) (t_2 : Sv Str) {r : List Rectoref11ChunkP × Rectoref3WrongP} (hS : Sh.rectoref11_Chunks b_0.l o_1.l t_2.l = some r) :
 Ct Tryz.prog 303 [b_0.val, o_1.val, t_2.val] (b_0.ok.and (o_1.ok.and t_2.ok)) (Ow.emp) (X := Sv Rectoref11Chunk × Rectoref3Wrong) (fun x => .tuple #[x.1.val, .agg (Dat.enc x.2).toArray]) (fun x => r = ((x.1.l.map Rectoref11Chunk.pl), x.2.pl)) (fun x => (x.1.ok.and x.2.m)) (fun x => Ow.emp) := by
 refine Ct.of Tryz.func303 rfl (by kernel_rfl) Tryz.ntmps303 (by simp) fun c => ?_
 unfold Sh.rectoref11_Chunks at hS
 refine Zq (Zr ?_)
 refine Za ?_
 refine VL.alloc (cs := [.slice none 0 0, i64 0]) (by kernel_rfl) (by decide) fun b7_1 => ?_
 refine Zl ?_
 refine Zq (Zr ?_)
 refine Zm ?_
 refine Zm ?_
 obtain ⟨y26_2, ey26_2, hS⟩ := bd_s hS
 refine VL.callF (rectoref11_Lines_ct b_0 o_1 ey26_2) rfl (by decide) ?_
 rintro ⟨q26_2_0, q26_2_1⟩ rfl
 try dsimp only
 refine Zm ?_
 refine VL.q (q_extract rfl rfl) (by decide) ?_
 refine VL.q (q_extract rfl rfl) (by decide) ?_
 refine VL.alloc (cs := [.slice none 0 0, i64 0]) (by kernel_rfl) (by decide) fun b9_3 => ?_
 refine Za ?_
 refine VL.store (vc := [q26_2_1.parts.val, i64 q26_2_1.err]) (cs' := [q26_2_1.parts.val, i64 q26_2_1.err]) rfl rfl rfl gsz77 rfl rfl (Nat.le_of_ble_eq_true rfl) rfl ?_
 refine Zl ?_
 refine VC.keep [0, 1, 2, 7, 9, 8] rfl ?_
 refine Zq (Zq (Zr ?_))
 refine VL.q (q_field gfa77_1 rfl) (by decide) ?_
 refine VL.q (q_fe gone3 rfl rfl) (by decide) ?_
 refine VL.q (q_neq rfl rfl) (by decide) ?_
 refine Zl ?_
 refine VC.cond_ndec rfl (fun h31 => ?_) (fun h31 => ?_)
 ·
  replace hS := it_f h31 hS
  refine Zq ?_
  refine VC.draw [(0, true), (1, true), (2, false)] mixed (by kernel_rfl) (by kernel_rfl) (by kernel_rfl) ?_
  refine VD.q rfl (q_fes gagg77 rfl rfl) (by decide) ?_
  refine VD.q rfl (q_assign rfl) (by decide) ?_
  refine VD.one rfl ?_
  refine VL.store (vc := [q26_2_1.parts.val, i64 q26_2_1.err]) (cs' := [q26_2_1.parts.val, i64 q26_2_1.err]) rfl rfl rfl gsz77 rfl rfl (Nat.le_of_ble_eq_true rfl) rfl ?_
  refine VL.back (D' := []) (by kernel_rfl) (Pend.nil) ?_
  refine VD.to (fun _ _ h => h) ?_
  refine VC.keep [7, 6] rfl ?_
  cases hS
  exact VC.ret (finG (vs := [.slice none 0 0, .agg #[q26_2_1.parts.val, i64 q26_2_1.err]]) (.inr rfl) rfl (RVs.tmp rfl (RVs.cell gagg77 rfl rfl Rd.blk (RVs.nil))) (⟨none, 0, []⟩, ⟨q26_2_1.parts, q26_2_1.err⟩) rfl rfl (by (try dsimp only); exact InM.out) (fun _ _ => trivial))
 replace hS := it_t h31 hS
 refine Zk ?_
 refine Zq (Zr ?_)
 refine Zm ?_
 refine Zm ?_
 obtain ⟨y36_4, ey36_4, hS⟩ := bd_s hS
 refine VL.callF (rectoref11_Lines_ct b_0 t_2 ey36_4) rfl (by decide) ?_
 rintro ⟨q36_4_0, q36_4_1⟩ rfl
 try dsimp only
 refine Zm ?_
 refine VL.q (q_extract rfl rfl) (by decide) ?_
 refine VL.q (q_extract rfl rfl) (by decide) ?_
 refine VL.alloc (cs := [.slice none 0 0, i64 0]) (by kernel_rfl) (by decide) fun b11_5 => ?_
 refine Za ?_
 refine VL.store (vc := [q36_4_1.parts.val, i64 q36_4_1.err]) (cs' := [q36_4_1.parts.val, i64 q36_4_1.err]) rfl rfl rfl gsz77 rfl rfl (Nat.le_of_ble_eq_true rfl) rfl ?_
 refine Zl ?_
 refine VC.keep [0, 1, 2, 7, 9, 8, 11, 10] rfl ?_
 refine Zq (Zq (Zr ?_))
 refine VL.q (q_field gfa77_1 rfl) (by decide) ?_
 refine VL.q (q_fe gone3 rfl rfl) (by decide) ?_
 refine VL.q (q_neq rfl rfl) (by decide) ?_
 refine Zl ?_
 refine VC.cond_ndec rfl (fun h41 => ?_) (fun h41 => ?_)
 ·
  replace hS := it_f h41 hS
  refine Zq ?_
  refine VC.draw [(0, true), (1, true), (2, false)] mixed (by kernel_rfl) (by kernel_rfl) (by kernel_rfl) ?_
  refine VD.q rfl (q_fes gagg77 rfl rfl) (by decide) ?_
  refine VD.q rfl (q_assign rfl) (by decide) ?_
  refine VD.one rfl ?_
  refine VL.store (vc := [q36_4_1.parts.val, i64 q36_4_1.err]) (cs' := [q36_4_1.parts.val, i64 q36_4_1.err]) rfl rfl rfl gsz77 rfl rfl (Nat.le_of_ble_eq_true rfl) rfl ?_
  refine VL.back (D' := []) (by kernel_rfl) (Pend.nil) ?_
  refine VD.to (fun _ _ h => h) ?_
  refine VC.keep [7, 6] rfl ?_
  cases hS
  exact VC.ret (finG (vs := [.slice none 0 0, .agg #[q36_4_1.parts.val, i64 q36_4_1.err]]) (.inr rfl) rfl (RVs.tmp rfl (RVs.cell gagg77 rfl rfl Rd.blk (RVs.nil))) (⟨none, 0, []⟩, ⟨q36_4_1.parts, q36_4_1.err⟩) rfl rfl (by (try dsimp only); exact InM.out) (fun _ _ => trivial))
 replace hS := it_t h41 hS
 refine Zk ?_
 refine Zq (Zr ?_)
 refine Zm ?_
 refine Zm ?_
 refine VL.q (q_ln (s := b_0) Tryz.underlying32 rfl) (by decide) ?_
 obtain ⟨y46_6, ey46_6, hS⟩ := bd_s hS
 refine VL.callO (rectoref11_kept_ct q26_2_0 (b_0.l.length : Int) ey46_6) rfl (by decide) ?_
 rintro q46_6_0 rfl
 try dsimp only
 refine Za ?_
 refine Zl ?_
 refine VC.keep [0, 1, 2, 7, 9, 10, 12] rfl ?_
 refine Zq (Zr ?_)
 refine Zm ?_
 refine Zm ?_
 refine VL.q (q_ln (s := b_0) Tryz.underlying32 rfl) (by decide) ?_
 obtain ⟨y50_7, ey50_7, hS⟩ := bd_s hS
 refine VL.callO (rectoref11_kept_ct q36_4_0 (b_0.l.length : Int) ey50_7) rfl (by decide) ?_
 rintro q50_7_0 rfl
 try dsimp only
 refine Za ?_
 refine Zl ?_
 refine Zq (Zr ?_)
 refine Za ?_
 refine Zl ?_
 refine Zq (Zr ?_)
 refine Za ?_
 refine Zl ?_
 refine Zq (Zr ?_)
 refine Za ?_
 refine Zl ?_
 refine Zq (Zr ?_)
 refine Za ?_
 refine Zl ?_
 refine Zb ?_
 refine VC.nilO (⟨none, 0, []⟩ : Sv Rectoref11Chunk) 379 ⟨rfl, rfl⟩ ?_
 refine VC.maNil (s := (⟨none, 0, []⟩ : Sv Rectoref11Chunk)) rfl ?_
 refine VC.iter (S := Sv Rectoref11Chunk × Int × Int × Int) (fun sg => ((sg.1.l.map Rectoref11Chunk.pl), sg.2.1, sg.2.2.1, sg.2.2.2)) (fun sg => [(0, b_0.val), (1, o_1.val), (2, t_2.val), (7, ptr b7_1 0), (9, ptr b9_3 0), (12, q46_6_0.val), (13, q50_7_0.val), (14, sg.1.val), (15, i64 sg.2.1), (16, i64 sg.2.2.1), (17, i64 sg.2.2.2)]) (fun sg => (MAl sg.1.l)) (fun sg => Ow.star (Blk b11_5 [q36_4_1.parts.val, i64 q36_4_1.err] 77) (Ow.star (Blk b9_3 [q26_2_1.parts.val, i64 q26_2_1.err] 77) (Ow.star (Blk b7_1 [.slice none 0 0, i64 0] 77) (Ow.star (Sv.own q50_7_0 3) (Ow.star (Sv.own q46_6_0 3) (Ow.star (Sv.own sg.1 379) (Ow.emp))))))) (⟨none, 0, []⟩, 0, 0, 0) [0, 1, 2, 7, 9, 12, 13, 14, 15, 16, 17] hS rfl ?_
 clear hS
 rintro ⟨out14_8, i15_9, j16_10, k17_11⟩ m1 y1 hS hK1
 show VC _ _ _ _ _ [(0, b_0.val), (1, o_1.val), (2, t_2.val), (7, ptr b7_1 0), (9, ptr b9_3 0), (12, q46_6_0.val), (13, q50_7_0.val), (14, out14_8.val), (15, i64 i15_9), (16, i64 j16_10), (17, i64 k17_11)] (Mo.and (MAl out14_8.l) _) (Ow.star (Blk b11_5 [q36_4_1.parts.val, i64 q36_4_1.err] 77) (Ow.star (Blk b9_3 [q26_2_1.parts.val, i64 q26_2_1.err] 77) (Ow.star (Blk b7_1 [.slice none 0 0, i64 0] 77) (Ow.star (Sv.own q50_7_0 3) (Ow.star (Sv.own q46_6_0 3) (Ow.star (Sv.own out14_8 379) (Ow.emp)))))))
 refine Zb (Zq (Zr ?_))
 refine Zm ?_
 refine Za ?_
 refine Zl ?_
 refine VC.cutJ (S := Int) (fun (n18_12 : Int) => n18_12) (fun (n18_12 : Int) => [(0, b_0.val), (1, o_1.val), (2, t_2.val), (7, ptr b7_1 0), (9, ptr b9_3 0), (12, q46_6_0.val), (13, q50_7_0.val), (14, out14_8.val), (15, i64 i15_9), (16, i64 j16_10), (17, i64 k17_11), (18, i64 n18_12)]) (fun (n18_12 : Int) => Mo.tt) (fun (n18_12 : Int) => Ow.star (Blk b11_5 [q36_4_1.parts.val, i64 q36_4_1.err] 77) (Ow.star (Blk b9_3 [q26_2_1.parts.val, i64 q26_2_1.err] 77) (Ow.star (Blk b7_1 [.slice none 0 0, i64 0] 77) (Ow.star (Sv.own q50_7_0 3) (Ow.star (Sv.own q46_6_0 3) (Ow.star (Sv.own out14_8 379) (Ow.emp))))))) hS ?_ ?_
 ·
  clear hS
  intro k13 hS
  refine Zb ?_
  refine VC.iter (S := Int) (fun (n18_14 : Int) => n18_14) (fun (n18_14 : Int) => [(0, b_0.val), (1, o_1.val), (2, t_2.val), (7, ptr b7_1 0), (9, ptr b9_3 0), (12, q46_6_0.val), (13, q50_7_0.val), (14, out14_8.val), (15, i64 i15_9), (16, i64 j16_10), (17, i64 k17_11), (18, i64 n18_14)]) (fun (n18_14 : Int) => Mo.tt) (fun (n18_14 : Int) => Ow.star (Blk b11_5 [q36_4_1.parts.val, i64 q36_4_1.err] 77) (Ow.star (Blk b9_3 [q26_2_1.parts.val, i64 q26_2_1.err] 77) (Ow.star (Blk b7_1 [.slice none 0 0, i64 0] 77) (Ow.star (Sv.own q50_7_0 3) (Ow.star (Sv.own q46_6_0 3) (Ow.star (Sv.own out14_8 379) (Ow.emp))))))) i15_9 [0, 1, 2, 7, 9, 12, 13, 14, 15, 16, 17, 18] hS rfl ?_
  clear hS
  rintro n18_14 m2 y2 hS hK2
  show VC _ _ _ _ _ [(0, b_0.val), (1, o_1.val), (2, t_2.val), (7, ptr b7_1 0), (9, ptr b9_3 0), (12, q46_6_0.val), (13, q50_7_0.val), (14, out14_8.val), (15, i64 i15_9), (16, i64 j16_10), (17, i64 k17_11), (18, i64 n18_14)] (Mo.and Mo.tt _) (Ow.star (Blk b11_5 [q36_4_1.parts.val, i64 q36_4_1.err] 77) (Ow.star (Blk b9_3 [q26_2_1.parts.val, i64 q26_2_1.err] 77) (Ow.star (Blk b7_1 [.slice none 0 0, i64 0] 77) (Ow.star (Sv.own q50_7_0 3) (Ow.star (Sv.own q46_6_0 3) (Ow.star (Sv.own out14_8 379) (Ow.emp)))))))
  refine VC.cutJ (S := Unit) (fun (_ : Unit) => ()) (fun (_ : Unit) => [(0, b_0.val), (1, o_1.val), (2, t_2.val), (7, ptr b7_1 0), (9, ptr b9_3 0), (12, q46_6_0.val), (13, q50_7_0.val), (14, out14_8.val), (15, i64 i15_9), (16, i64 j16_10), (17, i64 k17_11), (18, i64 n18_14)]) (fun (_ : Unit) => Mo.tt) (fun (_ : Unit) => Ow.star (Blk b11_5 [q36_4_1.parts.val, i64 q36_4_1.err] 77) (Ow.star (Blk b9_3 [q26_2_1.parts.val, i64 q26_2_1.err] 77) (Ow.star (Blk b7_1 [.slice none 0 0, i64 0] 77) (Ow.star (Sv.own q50_7_0 3) (Ow.star (Sv.own q46_6_0 3) (Ow.star (Sv.own out14_8 379) (Ow.emp))))))) hS ?_ ?_
  ·
   clear hS
   intro k15 hS
   refine Zq (Zr ?_)
   refine Zm ?_
   refine Zm ?_
   refine VL.q (q_ln (s := b_0) Tryz.underlying32 rfl) (by decide) ?_
   refine VL.q (q_lss rfl rfl) (by decide) ?_
   refine Zm ?_
   refine VL.split_dec 56 rfl (fun h56 => ?_) (fun h56 => ?_)
   ·
    replace hS := it_t h56 hS
    refine Zg ?_
    refine Zg ?_
    obtain ⟨z59_16, nz59_16, hz59_16, hS⟩ := at_s hS
    refine VL.gy rfl rfl (q_ixo (s := q46_6_0) Tryz.underlying60 gsz3 rfl rfl nz59_16 (lt_of_get nz59_16 hz59_16)) (by decide) ?_
    refine VL.gy rfl rfl (q_elo (s := q46_6_0) 3 gone3 rfl hz59_16 rfl) (by decide) ?_
    refine VL.gy rfl rfl (q_lss rfl rfl) (by decide) ?_
    refine Zg ?_
    refine VL.split_dec 62 rfl (fun h62 => ?_) (fun h62 => ?_)
    ·
     replace hS := it_t h62 hS
     refine Zn ?_
     refine Zn ?_
     refine Zn ?_
     refine Zn ?_
     refine Zn ?_
     refine VL.gy rfl rfl (q_pick_t rfl rfl) (by decide) ?_
     refine Zt ?_
     refine Zl ?_
     refine VC.keep [0, 1, 2, 7, 9, 12, 13, 14, 15, 16, 17, 18, 69] rfl ?_
     refine VC.cond_t rfl ?_
     refine VC.skip_mt () [0, 1, 2, 7, 9, 12, 13, 14, 15, 16, 17, 18] (fun _ _ h => h) hS rfl
    replace hS := it_f h62 hS
    refine Zg ?_
    refine Zg ?_
    obtain ⟨z65_17, nz65_17, hz65_17, hS⟩ := at_s hS
    refine VL.gy rfl rfl (q_ixo (s := q50_7_0) Tryz.underlying60 gsz3 rfl rfl nz65_17 (lt_of_get nz65_17 hz65_17)) (by decide) ?_
    refine VL.gy rfl rfl (q_elo (s := q50_7_0) 3 gone3 rfl hz65_17 rfl) (by decide) ?_
    refine VL.gy rfl rfl (q_lss rfl rfl) (by decide) ?_
    refine VL.gy rfl rfl (q_pick_f rfl rfl) (by decide) ?_
    refine Zt ?_
    refine Zl ?_
    refine VC.keep [0, 1, 2, 7, 9, 12, 13, 14, 15, 16, 17, 18, 69] rfl ?_
    refine VC.cond_dec rfl (fun h69 => ?_) (fun h69 => ?_)
    ·
     replace hS := it_t h69 hS
     refine VC.skip_mt () [0, 1, 2, 7, 9, 12, 13, 14, 15, 16, 17, 18] (fun _ _ h => h) hS rfl
    replace hS := it_f h69 hS
    replace hS := up2 hS hK2
    refine VC.exit_mt n18_14 [0, 1, 2, 7, 9, 12, 13, 14, 15, 16, 17, 18] (fun _ _ h => h) hS rfl
   replace hS := it_f h56 hS
   refine Zn ?_
   refine Zn ?_
   refine Zn ?_
   refine Zn ?_
   refine Zn ?_
   refine Zn ?_
   refine VL.gu rfl rfl (by decide) ?_
   refine VL.gu rfl rfl (by decide) ?_
   refine VL.gu rfl rfl (by decide) ?_
   refine VL.gu rfl rfl (by decide) ?_
   refine VL.gu rfl rfl (by decide) ?_
   refine Zn ?_
   refine Zf ?_
   refine Zl ?_
   refine VC.keep [0, 1, 2, 7, 9, 12, 13, 14, 15, 16, 17, 18, 69] rfl ?_
   refine VC.cond_f rfl ?_
   replace hS := up2 hS hK2
   refine VC.exit_mt n18_14 [0, 1, 2, 7, 9, 12, 13, 14, 15, 16, 17, 18] (fun _ _ h => h) hS rfl
  clear hS
  rintro _ hS
  show VC _ _ _ _ _ [(0, b_0.val), (1, o_1.val), (2, t_2.val), (7, ptr b7_1 0), (9, ptr b9_3 0), (12, q46_6_0.val), (13, q50_7_0.val), (14, out14_8.val), (15, i64 i15_9), (16, i64 j16_10), (17, i64 k17_11), (18, i64 n18_14)] (Mo.and Mo.tt _) (Ow.star (Blk b11_5 [q36_4_1.parts.val, i64 q36_4_1.err] 77) (Ow.star (Blk b9_3 [q26_2_1.parts.val, i64 q26_2_1.err] 77) (Ow.star (Blk b7_1 [.slice none 0 0, i64 0] 77) (Ow.star (Sv.own q50_7_0 3) (Ow.star (Sv.own q46_6_0 3) (Ow.star (Sv.own out14_8 379) (Ow.emp)))))))
  refine Zb (Zr ?_)
  refine Zm ?_
  obtain ⟨b71, hS⟩ := gd_s hS
  refine VL.q (q_add rfl rfl b71) (by decide) ?_
  refine Za ?_
  refine VL.rnd (n18_14 + 1) [0, 1, 2, 7, 9, 12, 13, 14, 15, 16, 17, 18] (fun _ _ h => h) (go2 hS hK2) rfl
 clear hS
 rintro n18_12 hS
 show VC _ _ _ _ _ [(0, b_0.val), (1, o_1.val), (2, t_2.val), (7, ptr b7_1 0), (9, ptr b9_3 0), (12, q46_6_0.val), (13, q50_7_0.val), (14, out14_8.val), (15, i64 i15_9), (16, i64 j16_10), (17, i64 k17_11), (18, i64 n18_12)] (Mo.and Mo.tt _) (Ow.star (Blk b11_5 [q36_4_1.parts.val, i64 q36_4_1.err] 77) (Ow.star (Blk b9_3 [q26_2_1.parts.val, i64 q26_2_1.err] 77) (Ow.star (Blk b7_1 [.slice none 0 0, i64 0] 77) (Ow.star (Sv.own q50_7_0 3) (Ow.star (Sv.own q46_6_0 3) (Ow.star (Sv.own out14_8 379) (Ow.emp)))))))
 refine Zq (Zr ?_)
 refine Zm ?_
 refine VL.q (q_ln (s := o_1) Tryz.underlying32 rfl) (by decide) ?_
 refine Za ?_
 refine Zl ?_
 refine Zq (Zr ?_)
 refine Zm ?_
 refine VL.q (q_ln (s := t_2) Tryz.underlying32 rfl) (by decide) ?_
 refine Za ?_
 refine Zl ?_
 refine VC.cutJ (S := Int × Int) (fun sg => (sg.1, sg.2)) (fun sg => [(0, b_0.val), (1, o_1.val), (2, t_2.val), (7, ptr b7_1 0), (9, ptr b9_3 0), (12, q46_6_0.val), (13, q50_7_0.val), (14, out14_8.val), (15, i64 i15_9), (16, i64 j16_10), (17, i64 k17_11), (18, i64 n18_12), (19, i64 sg.1), (20, i64 sg.2)]) (fun sg => Mo.tt) (fun sg => Ow.star (Blk b11_5 [q36_4_1.parts.val, i64 q36_4_1.err] 77) (Ow.star (Blk b9_3 [q26_2_1.parts.val, i64 q26_2_1.err] 77) (Ow.star (Blk b7_1 [.slice none 0 0, i64 0] 77) (Ow.star (Sv.own q50_7_0 3) (Ow.star (Sv.own q46_6_0 3) (Ow.star (Sv.own out14_8 379) (Ow.emp))))))) hS ?_ ?_
 ·
  clear hS
  intro k20 hS
  refine Zq (Zr ?_)
  refine Zm ?_
  refine Zm ?_
  refine VL.q (q_ln (s := b_0) Tryz.underlying32 rfl) (by decide) ?_
  refine VL.q (q_lss rfl rfl) (by decide) ?_
  refine Zl ?_
  refine VC.keep [0, 1, 2, 7, 9, 12, 13, 14, 15, 16, 17, 18, 19, 20, 79] rfl ?_
  refine VC.cond_dec rfl (fun h79 => ?_) (fun h79 => ?_)
  ·
   replace hS := it_t h79 hS
   refine Zq (Zr ?_)
   refine Zm ?_
   refine Zm ?_
   obtain ⟨z82_21, nz82_21, hz82_21, hS⟩ := at_s hS
   refine VL.q (q_ixo (s := q46_6_0) Tryz.underlying60 gsz3 rfl rfl nz82_21 (lt_of_get nz82_21 hz82_21)) (by decide) ?_
   refine VL.q (q_elo (s := q46_6_0) 3 gone3 rfl hz82_21 rfl) (by decide) ?_
   refine Za ?_
   refine Zl ?_
   refine Zr ?_
   refine Zm ?_
   refine Zm ?_
   obtain ⟨z86_22, nz86_22, hz86_22, hS⟩ := at_s hS
   refine VL.q (q_ixo (s := q50_7_0) Tryz.underlying60 gsz3 rfl rfl nz86_22 (lt_of_get nz86_22 hz86_22)) (by decide) ?_
   refine VL.q (q_elo (s := q50_7_0) 3 gone3 rfl hz86_22 rfl) (by decide) ?_
   refine Za ?_
   refine VL.mt (z82_21, z86_22) [0, 1, 2, 7, 9, 12, 13, 14, 15, 16, 17, 18, 19, 20] (fun _ _ h => h) hS rfl
  replace hS := it_f h79 hS
  refine VC.skip_mt ((o_1.l.length : Int), (t_2.l.length : Int)) [0, 1, 2, 7, 9, 12, 13, 14, 15, 16, 17, 18, 19, 20] (fun _ _ h => h) hS rfl
 clear hS
 rintro ⟨jo19_18, kt20_19⟩ hS
 show VC _ _ _ _ _ [(0, b_0.val), (1, o_1.val), (2, t_2.val), (7, ptr b7_1 0), (9, ptr b9_3 0), (12, q46_6_0.val), (13, q50_7_0.val), (14, out14_8.val), (15, i64 i15_9), (16, i64 j16_10), (17, i64 k17_11), (18, i64 n18_12), (19, i64 jo19_18), (20, i64 kt20_19)] (Mo.and Mo.tt _) (Ow.star (Blk b11_5 [q36_4_1.parts.val, i64 q36_4_1.err] 77) (Ow.star (Blk b9_3 [q26_2_1.parts.val, i64 q26_2_1.err] 77) (Ow.star (Blk b7_1 [.slice none 0 0, i64 0] 77) (Ow.star (Sv.own q50_7_0 3) (Ow.star (Sv.own q46_6_0 3) (Ow.star (Sv.own out14_8 379) (Ow.emp)))))))
 refine VC.cutJ (S := Sv Rectoref11Chunk) (fun (out14_23 : Sv Rectoref11Chunk) => (out14_23.l.map Rectoref11Chunk.pl)) (fun (out14_23 : Sv Rectoref11Chunk) => [(0, b_0.val), (1, o_1.val), (2, t_2.val), (7, ptr b7_1 0), (9, ptr b9_3 0), (12, q46_6_0.val), (13, q50_7_0.val), (14, out14_23.val), (18, i64 n18_12), (19, i64 jo19_18), (20, i64 kt20_19)]) (fun (out14_23 : Sv Rectoref11Chunk) => (MAl out14_23.l)) (fun (out14_23 : Sv Rectoref11Chunk) => Ow.star (Blk b11_5 [q36_4_1.parts.val, i64 q36_4_1.err] 77) (Ow.star (Blk b9_3 [q26_2_1.parts.val, i64 q26_2_1.err] 77) (Ow.star (Blk b7_1 [.slice none 0 0, i64 0] 77) (Ow.star (Sv.own q50_7_0 3) (Ow.star (Sv.own q46_6_0 3) (Ow.star (Sv.own out14_23 379) (Ow.emp))))))) hS ?_ ?_
 ·
  clear hS
  intro k24 hS
  refine VC.cutJ (S := Bool) (fun (x100_25 : Bool) => x100_25) (fun (x100_25 : Bool) => [(0, b_0.val), (1, o_1.val), (2, t_2.val), (7, ptr b7_1 0), (9, ptr b9_3 0), (12, q46_6_0.val), (13, q50_7_0.val), (14, out14_8.val), (15, i64 i15_9), (16, i64 j16_10), (17, i64 k17_11), (18, i64 n18_12), (19, i64 jo19_18), (20, i64 kt20_19), (100, .bool x100_25)]) (fun (x100_25 : Bool) => Mo.tt) (fun (x100_25 : Bool) => Ow.star (Blk b11_5 [q36_4_1.parts.val, i64 q36_4_1.err] 77) (Ow.star (Blk b9_3 [q26_2_1.parts.val, i64 q26_2_1.err] 77) (Ow.star (Blk b7_1 [.slice none 0 0, i64 0] 77) (Ow.star (Sv.own q50_7_0 3) (Ow.star (Sv.own q46_6_0 3) (Ow.star (Sv.own out14_8 379) (Ow.emp))))))) hS ?_ ?_
  ·
   clear hS
   intro k26 hS
   refine Zr ?_
   refine Zm ?_
   refine Zm ?_
   refine VL.q (q_gtr rfl rfl) (by decide) ?_
   refine Zm ?_
   refine VL.split_dec 91 rfl (fun h91 => ?_) (fun h91 => ?_)
   ·
    replace hS := it_t h91 hS
    refine Zn ?_
    refine Zn ?_
    refine Zn ?_
    refine Zt ?_
    refine Zm ?_
    refine Zn ?_
    refine Zn ?_
    refine Zn ?_
    refine Zt ?_
    refine VL.mt true [0, 1, 2, 7, 9, 12, 13, 14, 15, 16, 17, 18, 19, 20, 100] (fun _ _ h => h) hS rfl
   replace hS := it_f h91 hS
   refine Zg ?_
   refine Zg ?_
   refine VL.gy rfl rfl (q_gtr rfl rfl) (by decide) ?_
   refine Zf ?_
   refine Zm ?_
   refine VL.split_dec 96 rfl (fun h96 => ?_) (fun h96 => ?_)
   ·
    replace hS := it_t h96 hS
    refine Zn ?_
    refine Zn ?_
    refine Zn ?_
    refine Zt ?_
    refine VL.mt true [0, 1, 2, 7, 9, 12, 13, 14, 15, 16, 17, 18, 19, 20, 100] (fun _ _ h => h) hS rfl
   replace hS := it_f h96 hS
   refine Zg ?_
   refine Zg ?_
   refine VL.gy rfl rfl (q_gtr rfl rfl) (by decide) ?_
   refine Zf ?_
   refine VL.mt (decide (k17_11 < kt20_19)) [0, 1, 2, 7, 9, 12, 13, 14, 15, 16, 17, 18, 19, 20, 100] (fun _ _ h => h) hS rfl
  clear hS
  rintro x100_25 hS
  show VC _ _ _ _ _ [(0, b_0.val), (1, o_1.val), (2, t_2.val), (7, ptr b7_1 0), (9, ptr b9_3 0), (12, q46_6_0.val), (13, q50_7_0.val), (14, out14_8.val), (15, i64 i15_9), (16, i64 j16_10), (17, i64 k17_11), (18, i64 n18_12), (19, i64 jo19_18), (20, i64 kt20_19), (100, .bool x100_25)] (Mo.and Mo.tt _) (Ow.star (Blk b11_5 [q36_4_1.parts.val, i64 q36_4_1.err] 77) (Ow.star (Blk b9_3 [q26_2_1.parts.val, i64 q26_2_1.err] 77) (Ow.star (Blk b7_1 [.slice none 0 0, i64 0] 77) (Ow.star (Sv.own q50_7_0 3) (Ow.star (Sv.own q46_6_0 3) (Ow.star (Sv.own out14_8 379) (Ow.emp)))))))
  refine VC.cond rfl (fun h100 => ?_) (fun h100 => ?_)
  ·
   replace hS := it_t h100 hS
   refine VC.draw [(0, true), (1, true), (2, true), (3, true), (4, true), (5, true), (6, true), (7, true), (8, true), (9, true), (10, true), (11, true), (12, true), (13, false), (14, false), (15, false), (16, true)] mixed (by kernel_rfl) (by kernel_rfl) (by kernel_rfl) ?_
   refine VD.q rfl (q_move rfl) (by decide) ?_
   refine VD.q rfl (q_move rfl) (by decide) ?_
   refine VD.q rfl (q_move rfl) (by decide) ?_
   refine VD.q rfl (q_move rfl) (by decide) ?_
   obtain ⟨b105, hS⟩ := gd_s hS
   refine VD.smidK rfl Tryz.underlying32 gsz9 rfl rfl rfl b105.1 b105.2.1 (b105.2.2) (by decide) fun s105_27 hs105_27 Qs105_27 => ?_
   replace hS := lt_to hs105_27 hS
   refine VD.q rfl (q_move rfl) (by decide) ?_
   refine VD.q rfl (q_move rfl) (by decide) ?_
   refine VD.q rfl (q_move rfl) (by decide) ?_
   obtain ⟨b109, hS⟩ := gd_s hS
   refine VD.smidK rfl Tryz.underlying32 gsz9 rfl rfl rfl b109.1 b109.2.1 (b109.2.2) (by decide) fun s109_29 hs109_29 Qs109_29 => ?_
   replace hS := lt_to hs109_29 hS
   refine VD.q rfl (q_move rfl) (by decide) ?_
   refine VD.q rfl (q_move rfl) (by decide) ?_
   refine VD.q rfl (q_move rfl) (by decide) ?_
   obtain ⟨b113, hS⟩ := gd_s hS
   refine VD.smidK rfl Tryz.underlying32 gsz9 rfl rfl rfl b113.1 b113.2.1 (b113.2.2) (by decide) fun s113_31 hs113_31 Qs113_31 => ?_
   replace hS := lt_to hs113_31 hS
   refine VD.one rfl ?_
   obtain ⟨y114_33, ey114_33, hS⟩ := bd_s hS
   refine VL.callF (rectoref11_between_ct s105_27 s109_29 s113_31 ey114_33) rfl (by decide) ?_
   rintro q114_33_0 rfl
   try dsimp only
   refine VL.back (D' := []) (by kernel_rfl) (Pend.nil) ?_
   refine VD.one rfl ?_
   refine VL.lit (α := Rectoref11Chunk) (xs := [.tmp 114]) (vs := [.agg #[q114_33_0.base.val, q114_33_0.ours.val, q114_33_0.theirs.val, .bool q114_33_0.clash, q114_33_0.out.val]]) [⟨q114_33_0.base, q114_33_0.ours, q114_33_0.theirs, q114_33_0.clash, q114_33_0.out⟩] Tryz.underlying376 glit379 (by decide) rfl rfl rfl rfl (by decide) (fun h m => List.forall_mem_cons.2 ⟨InM.out (X := (q114_33_0.base.ok.and (q114_33_0.ours.ok.and (q114_33_0.theirs.ok.and q114_33_0.out.ok)))) h m, fun _ h => by cases h⟩) (by decide) (fun s115_34 hs115_34 => ?_) (by decide)
   replace hS := lt_to (congrArg (List.map Rectoref11Chunk.pl) hs115_34) hS
   refine VL.back (D' := []) (by kernel_rfl) (Pend.nil) ?_
   refine VD.one rfl ?_
   obtain ⟨b116, hS⟩ := gd_s hS
   refine VL.app (s := out14_8) (r := s115_34) Tryz.underlying376 gapp379 (by decide) rfl Fo.out (ap1 (apm b116)) (ap2 (apm b116) (by decide)) (by decide) (fun s116_36 hs116_36 => ?_)
   replace hS := lt_to ((congrArg (List.map Rectoref11Chunk.pl) hs116_36).trans List.map_append) hS
   refine VL.maApp hs116_36 ?_
   refine VL.back (D' := []) (by kernel_rfl) (Pend.nil) ?_
   refine VD.q rfl (q_assign rfl) (by decide) ?_
   refine VD.mt s116_36 [0, 1, 2, 7, 9, 12, 13, 14, 18, 19, 20] (fun _ _ h => h) hS rfl
  replace hS := it_b h100 hS
  refine VC.skip_mt out14_8 [0, 1, 2, 7, 9, 12, 13, 14, 18, 19, 20] (fun _ _ h => h) hS rfl
 clear hS
 rintro out14_23 hS
 show VC _ _ _ _ _ [(0, b_0.val), (1, o_1.val), (2, t_2.val), (7, ptr b7_1 0), (9, ptr b9_3 0), (12, q46_6_0.val), (13, q50_7_0.val), (14, out14_23.val), (18, i64 n18_12), (19, i64 jo19_18), (20, i64 kt20_19)] (Mo.and (MAl out14_23.l) _) (Ow.star (Blk b11_5 [q36_4_1.parts.val, i64 q36_4_1.err] 77) (Ow.star (Blk b9_3 [q26_2_1.parts.val, i64 q26_2_1.err] 77) (Ow.star (Blk b7_1 [.slice none 0 0, i64 0] 77) (Ow.star (Sv.own q50_7_0 3) (Ow.star (Sv.own q46_6_0 3) (Ow.star (Sv.own out14_23 379) (Ow.emp)))))))
 refine Zq (Zq (Zr ?_))
 refine Zm ?_
 refine Zm ?_
 refine VL.q (q_ln (s := b_0) Tryz.underlying32 rfl) (by decide) ?_
 refine VL.q (q_eql rfl rfl) (by decide) ?_
 refine Zl ?_
 refine VC.cond_dec rfl (fun h120 => ?_) (fun h120 => ?_)
 ·
  replace hS := it_t h120 hS
  refine Zq ?_
  refine VC.draw [(0, true), (1, true), (2, true), (3, false)] mixed (by kernel_rfl) (by kernel_rfl) (by kernel_rfl) ?_
  refine VD.q rfl (q_move rfl) (by decide) ?_
  refine VD.q rfl (q_fes gagg77 rfl rfl) (by decide) ?_
  refine VD.q rfl (q_assign rfl) (by decide) ?_
  refine VD.one rfl ?_
  refine VL.store (vc := [q26_2_1.parts.val, i64 q26_2_1.err]) (cs' := [q26_2_1.parts.val, i64 q26_2_1.err]) rfl rfl rfl gsz77 rfl rfl (Nat.le_of_ble_eq_true rfl) rfl ?_
  refine VL.back (D' := []) (by kernel_rfl) (Pend.nil) ?_
  refine VD.to (fun _ _ h => h) ?_
  refine VC.keep [7, 6] rfl ?_
  replace hS := up2 hS hK1
  refine VC.shut out14_23 379 (fun h m => InM.out (X := MAl out14_23.l) h m) ?_
  cases hS
  exact VC.ret (finG (vs := [out14_23.val, .agg #[q26_2_1.parts.val, i64 q26_2_1.err]]) (.inr rfl) rfl (RVs.tmp rfl (RVs.cell gagg77 rfl rfl Rd.blk (RVs.nil))) (out14_23, ⟨q26_2_1.parts, q26_2_1.err⟩) rfl rfl (by (try dsimp only); exact InM.out) (fun _ _ => trivial))
 replace hS := it_f h120 hS
 refine Zk ?_
 refine Zq (Zr ?_)
 refine Zm ?_
 refine Za ?_
 refine Zl ?_
 refine VC.cutJ (S := Int) (fun (m21_38 : Int) => m21_38) (fun (m21_38 : Int) => [(0, b_0.val), (1, o_1.val), (2, t_2.val), (7, ptr b7_1 0), (9, ptr b9_3 0), (12, q46_6_0.val), (13, q50_7_0.val), (14, out14_23.val), (18, i64 n18_12), (19, i64 jo19_18), (20, i64 kt20_19), (21, i64 m21_38)]) (fun (m21_38 : Int) => Mo.tt) (fun (m21_38 : Int) => Ow.star (Blk b11_5 [q36_4_1.parts.val, i64 q36_4_1.err] 77) (Ow.star (Blk b9_3 [q26_2_1.parts.val, i64 q26_2_1.err] 77) (Ow.star (Blk b7_1 [.slice none 0 0, i64 0] 77) (Ow.star (Sv.own q50_7_0 3) (Ow.star (Sv.own q46_6_0 3) (Ow.star (Sv.own out14_23 379) (Ow.emp))))))) hS ?_ ?_
 ·
  clear hS
  intro k39 hS
  refine Zb ?_
  refine VC.iter (S := Int) (fun (m21_40 : Int) => m21_40) (fun (m21_40 : Int) => [(0, b_0.val), (1, o_1.val), (2, t_2.val), (7, ptr b7_1 0), (9, ptr b9_3 0), (12, q46_6_0.val), (13, q50_7_0.val), (14, out14_23.val), (18, i64 n18_12), (19, i64 jo19_18), (20, i64 kt20_19), (21, i64 m21_40)]) (fun (m21_40 : Int) => Mo.tt) (fun (m21_40 : Int) => Ow.star (Blk b11_5 [q36_4_1.parts.val, i64 q36_4_1.err] 77) (Ow.star (Blk b9_3 [q26_2_1.parts.val, i64 q26_2_1.err] 77) (Ow.star (Blk b7_1 [.slice none 0 0, i64 0] 77) (Ow.star (Sv.own q50_7_0 3) (Ow.star (Sv.own q46_6_0 3) (Ow.star (Sv.own out14_23 379) (Ow.emp))))))) n18_12 [0, 1, 2, 7, 9, 12, 13, 14, 18, 19, 20, 21] hS rfl ?_
  clear hS
  rintro m21_40 m2 y2 hS hK2
  show VC _ _ _ _ _ [(0, b_0.val), (1, o_1.val), (2, t_2.val), (7, ptr b7_1 0), (9, ptr b9_3 0), (12, q46_6_0.val), (13, q50_7_0.val), (14, out14_23.val), (18, i64 n18_12), (19, i64 jo19_18), (20, i64 kt20_19), (21, i64 m21_40)] (Mo.and Mo.tt _) (Ow.star (Blk b11_5 [q36_4_1.parts.val, i64 q36_4_1.err] 77) (Ow.star (Blk b9_3 [q26_2_1.parts.val, i64 q26_2_1.err] 77) (Ow.star (Blk b7_1 [.slice none 0 0, i64 0] 77) (Ow.star (Sv.own q50_7_0 3) (Ow.star (Sv.own q46_6_0 3) (Ow.star (Sv.own out14_23 379) (Ow.emp)))))))
  refine Zq (Zq (Zr ?_))
  refine Zm ?_
  refine Zm ?_
  refine VL.q (q_ln (s := b_0) Tryz.underlying32 rfl) (by decide) ?_
  refine VL.q (q_lss rfl rfl) (by decide) ?_
  refine Zm ?_
  refine VL.split_dec 128 rfl (fun h128 => ?_) (fun h128 => ?_)
  ·
   replace hS := it_t h128 hS
   refine Zg ?_
   refine Zg ?_
   obtain ⟨z131_41, nz131_41, hz131_41, hS⟩ := at_s hS
   refine VL.gy rfl rfl (q_ixo (s := q46_6_0) Tryz.underlying60 gsz3 rfl rfl nz131_41 (lt_of_get nz131_41 hz131_41)) (by decide) ?_
   refine VL.gy rfl rfl (q_elo (s := q46_6_0) 3 gone3 rfl hz131_41 rfl) (by decide) ?_
   refine VL.gy rfl rfl (q_geq rfl rfl) (by decide) ?_
   refine Zt ?_
   refine Zm ?_
   refine VL.split_dec 135 rfl (fun h135 => ?_) (fun h135 => ?_)
   ·
    replace hS := it_t h135 hS
    refine Zg ?_
    refine Zg ?_
    obtain ⟨z138_42, nz138_42, hz138_42, hS⟩ := at_s hS
    refine VL.gy rfl rfl (q_ixo (s := q50_7_0) Tryz.underlying60 gsz3 rfl rfl nz138_42 (lt_of_get nz138_42 hz138_42)) (by decide) ?_
    refine VL.gy rfl rfl (q_elo (s := q50_7_0) 3 gone3 rfl hz138_42 rfl) (by decide) ?_
    refine VL.gy rfl rfl (q_geq rfl rfl) (by decide) ?_
    refine Zt ?_
    refine Zm ?_
    refine VL.split_dec 142 rfl (fun h142 => ?_) (fun h142 => ?_)
    ·
     replace hS := it_t h142 hS
     refine Zg ?_
     refine Zg ?_
     obtain ⟨z145_43, nz145_43, hz145_43, hS⟩ := at_s hS
     refine VL.gy rfl rfl (q_ixo (s := q46_6_0) Tryz.underlying60 gsz3 rfl rfl nz145_43 (lt_of_get nz145_43 hz145_43)) (by decide) ?_
     refine VL.gy rfl rfl (q_elo (s := q46_6_0) 3 gone3 rfl hz145_43 rfl) (by decide) ?_
     refine Zg ?_
     obtain ⟨b148, hS⟩ := gd_s hS
     refine VL.gy rfl rfl (q_sub rfl rfl b148) (by decide) ?_
     refine Zg ?_
     refine Zg ?_
     obtain ⟨b151, hS⟩ := gd_s hS
     refine VL.gy rfl rfl (q_sub rfl rfl b151) (by decide) ?_
     refine VL.gy rfl rfl (q_eql rfl rfl) (by decide) ?_
     refine Zt ?_
     refine Zm ?_
     refine VL.split_dec 154 rfl (fun h154 => ?_) (fun h154 => ?_)
     ·
      replace hS := it_t h154 hS
      refine Zg ?_
      refine Zg ?_
      obtain ⟨z157_44, nz157_44, hz157_44, hS⟩ := at_s hS
      refine VL.gy rfl rfl (q_ixo (s := q50_7_0) Tryz.underlying60 gsz3 rfl rfl nz157_44 (lt_of_get nz157_44 hz157_44)) (by decide) ?_
      refine VL.gy rfl rfl (q_elo (s := q50_7_0) 3 gone3 rfl hz157_44 rfl) (by decide) ?_
      refine Zg ?_
      obtain ⟨b160, hS⟩ := gd_s hS
      refine VL.gy rfl rfl (q_sub rfl rfl b160) (by decide) ?_
      refine Zg ?_
      refine Zg ?_
      obtain ⟨b163, hS⟩ := gd_s hS
      refine VL.gy rfl rfl (q_sub rfl rfl b163) (by decide) ?_
      refine VL.gy rfl rfl (q_eql rfl rfl) (by decide) ?_
      refine Zt ?_
      refine Zl ?_
      refine VC.keep [0, 1, 2, 7, 9, 12, 13, 14, 18, 19, 20, 21, 165] rfl ?_
      refine VC.cond_dec rfl (fun h165 => ?_) (fun h165 => ?_)
      ·
       replace hS := it_t h165 hS
       refine Zk ?_
       refine Zb (Zr ?_)
       refine Zm ?_
       obtain ⟨b167, hS⟩ := gd_s hS
       refine VL.q (q_add rfl rfl b167) (by decide) ?_
       refine Za ?_
       refine VL.rnd (m21_40 + 1) [0, 1, 2, 7, 9, 12, 13, 14, 18, 19, 20, 21] (fun _ _ h => h) (go2 hS hK2) rfl
      replace hS := it_f h165 hS
      replace hS := up2 hS hK2
      refine VC.exit_mt m21_40 [0, 1, 2, 7, 9, 12, 13, 14, 18, 19, 20, 21] (fun _ _ h => h) hS rfl
     replace hS := it_f h154 hS
     refine Zn ?_
     refine Zn ?_
     refine Zn ?_
     refine Zn ?_
     refine Zn ?_
     refine Zn ?_
     refine Zn ?_
     refine Zn ?_
     refine Zn ?_
     refine Zn ?_
     refine Zf ?_
     refine Zl ?_
     refine VC.keep [0, 1, 2, 7, 9, 12, 13, 14, 18, 19, 20, 21, 165] rfl ?_
     refine VC.cond_f rfl ?_
     replace hS := up2 hS hK2
     refine VC.exit_mt m21_40 [0, 1, 2, 7, 9, 12, 13, 14, 18, 19, 20, 21] (fun _ _ h => h) hS rfl
    replace hS := it_f h142 hS
    refine Zn ?_
    refine Zn ?_
    refine Zn ?_
    refine Zn ?_
    refine Zn ?_
    refine Zn ?_
    refine Zn ?_
    refine Zn ?_
    refine Zn ?_
    refine Zn ?_
    refine Zf ?_
    refine Zm ?_
    refine Zn ?_
    refine Zn ?_
    refine Zn ?_
    refine Zn ?_
    refine Zn ?_
    refine Zn ?_
    refine Zn ?_
    refine Zn ?_
    refine Zn ?_
    refine Zn ?_
    refine Zf ?_
    refine Zl ?_
    refine VC.keep [0, 1, 2, 7, 9, 12, 13, 14, 18, 19, 20, 21, 165] rfl ?_
    refine VC.cond_f rfl ?_
    replace hS := up2 hS hK2
    refine VC.exit_mt m21_40 [0, 1, 2, 7, 9, 12, 13, 14, 18, 19, 20, 21] (fun _ _ h => h) hS rfl
   replace hS := it_f h135 hS
   refine Zn ?_
   refine Zn ?_
   refine Zn ?_
   refine Zn ?_
   refine Zn ?_
   refine Zf ?_
   refine Zm ?_
   refine Zn ?_
   refine Zn ?_
   refine Zn ?_
   refine Zn ?_
   refine Zn ?_
   refine Zn ?_
   refine Zn ?_
   refine Zn ?_
   refine Zn ?_
   refine Zn ?_
   refine Zf ?_
   refine Zm ?_
   refine Zn ?_
   refine Zn ?_
   refine Zn ?_
   refine Zn ?_
   refine Zn ?_
   refine Zn ?_
   refine Zn ?_
   refine Zn ?_
   refine Zn ?_
   refine Zn ?_
   refine Zf ?_
   refine Zl ?_
   refine VC.keep [0, 1, 2, 7, 9, 12, 13, 14, 18, 19, 20, 21, 165] rfl ?_
   refine VC.cond_f rfl ?_
   replace hS := up2 hS hK2
   refine VC.exit_mt m21_40 [0, 1, 2, 7, 9, 12, 13, 14, 18, 19, 20, 21] (fun _ _ h => h) hS rfl
  replace hS := it_f h128 hS
  refine Zn ?_
  refine Zn ?_
  refine Zn ?_
  refine Zn ?_
  refine Zn ?_
  refine Zf ?_
  refine Zm ?_
  refine Zn ?_
  refine Zn ?_
  refine Zn ?_
  refine Zn ?_
  refine Zn ?_
  refine Zf ?_
  refine Zm ?_
  refine Zn ?_
  refine Zn ?_
  refine Zn ?_
  refine Zn ?_
  refine Zn ?_
  refine Zn ?_
  refine Zn ?_
  refine Zn ?_
  refine Zn ?_
  refine Zn ?_
  refine Zf ?_
  refine Zm ?_
  refine Zn ?_
  refine Zn ?_
  refine Zn ?_
  refine Zn ?_
  refine Zn ?_
  refine Zn ?_
  refine Zn ?_
  refine Zn ?_
  refine Zn ?_
  refine Zn ?_
  refine Zf ?_
  refine Zl ?_
  refine VC.keep [0, 1, 2, 7, 9, 12, 13, 14, 18, 19, 20, 21, 165] rfl ?_
  refine VC.cond_f rfl ?_
  replace hS := up2 hS hK2
  refine VC.exit_mt m21_40 [0, 1, 2, 7, 9, 12, 13, 14, 18, 19, 20, 21] (fun _ _ h => h) hS rfl
 clear hS
 rintro m21_38 hS
 show VC _ _ _ _ _ [(0, b_0.val), (1, o_1.val), (2, t_2.val), (7, ptr b7_1 0), (9, ptr b9_3 0), (12, q46_6_0.val), (13, q50_7_0.val), (14, out14_23.val), (18, i64 n18_12), (19, i64 jo19_18), (20, i64 kt20_19), (21, i64 m21_38)] (Mo.and Mo.tt _) (Ow.star (Blk b11_5 [q36_4_1.parts.val, i64 q36_4_1.err] 77) (Ow.star (Blk b9_3 [q26_2_1.parts.val, i64 q26_2_1.err] 77) (Ow.star (Blk b7_1 [.slice none 0 0, i64 0] 77) (Ow.star (Sv.own q50_7_0 3) (Ow.star (Sv.own q46_6_0 3) (Ow.star (Sv.own out14_23 379) (Ow.emp)))))))
 refine Zq (Zr ?_)
 refine Zm ?_
 refine Zm ?_
 refine Zm ?_
 obtain ⟨b171, hS⟩ := gd_s hS
 refine VL.smid Tryz.underlying32 gsz9 rfl rfl rfl b171.1 b171.2.1 (b171.2.2) (by decide) fun s171_45 hs171_45 => ?_
 replace hS := lt_to hs171_45 hS
 refine Za ?_
 refine Zl ?_
 refine Zq (Zr ?_)
 refine Zm ?_
 refine Zm ?_
 refine Zm ?_
 refine Zm ?_
 refine Zm ?_
 refine VL.q (q_build (vs := [(0, s171_45.val), (1, s171_45.val), (2, s171_45.val), (4, s171_45.val)]) (cs := #[s171_45.val, s171_45.val, s171_45.val, .bool false, s171_45.val]) rfl (by kernel_rfl)) (by decide) ?_
 refine VL.lit (α := Rectoref11Chunk) (xs := [.tmp 177]) (vs := [.agg #[s171_45.val, s171_45.val, s171_45.val, .bool false, s171_45.val]]) [⟨s171_45, s171_45, s171_45, false, s171_45⟩] Tryz.underlying376 glit379 (by decide) rfl rfl rfl rfl (by decide) (fun h m => List.forall_mem_cons.2 ⟨InM.out (X := (s171_45.ok.and (s171_45.ok.and (s171_45.ok.and s171_45.ok)))) h m, fun _ h => by cases h⟩) (by decide) (fun s178_47 hs178_47 => ?_) (by decide)
 replace hS := lt_to (congrArg (List.map Rectoref11Chunk.pl) hs178_47) hS
 obtain ⟨b179, hS⟩ := gd_s hS
 refine VL.app (s := out14_23) (r := s178_47) Tryz.underlying376 gapp379 (by decide) rfl Fo.out (ap1 (apm b179)) (ap2 (apm b179) (by decide)) (by decide) (fun s179_49 hs179_49 => ?_)
 replace hS := lt_to ((congrArg (List.map Rectoref11Chunk.pl) hs179_49).trans List.map_append) hS
 refine VL.maApp hs179_49 ?_
 refine Za ?_
 refine Zl ?_
 refine VC.keep [0, 1, 2, 7, 9, 12, 13, 14, 18, 19, 20, 21] rfl ?_
 refine Zq (Zr ?_)
 refine Zm ?_
 refine Za ?_
 refine Zl ?_
 refine Zq (Zr ?_)
 refine Zm ?_
 refine Zm ?_
 obtain ⟨b183, hS⟩ := gd_s hS
 refine VL.q (q_add rfl rfl b183) (by decide) ?_
 refine Zm ?_
 obtain ⟨b185, hS⟩ := gd_s hS
 refine VL.q (q_sub rfl rfl b185) (by decide) ?_
 refine Za ?_
 refine Zl ?_
 refine VC.keep [0, 1, 2, 7, 9, 12, 13, 14, 18, 20, 21, 15, 16] rfl ?_
 refine Zr ?_
 refine Zm ?_
 refine Zm ?_
 obtain ⟨b188, hS⟩ := gd_s hS
 refine VL.q (q_add rfl rfl b188) (by decide) ?_
 refine Zm ?_
 obtain ⟨b190, hS⟩ := gd_s hS
 refine VL.q (q_sub rfl rfl b190) (by decide) ?_
 refine Za ?_
 refine VL.rnd (s179_49, m21_38, ((jo19_18 + m21_38) - n18_12), ((kt20_19 + m21_38) - n18_12)) [0, 1, 2, 7, 9, 12, 13, 14, 15, 16, 17] (fun _ _ h => h) (go2 hS hK1) rfl
theorem rectoref11_Join_ct (l_0 : Sv Str) {r : Str} (hS : Sh.rectoref11_Join l_0.l = some r) :
 Ct Tryz.prog 305 [l_0.val] l_0.ok (Ow.emp) (X := Unit) (fun _ => str r) (fun _ => True) (fun _ => Mo.tt) (fun _ => Ow.emp) := by
 refine Ct.of Tryz.func305 rfl (by kernel_rfl) Tryz.ntmps305 (by simp) fun c => ?_
 unfold Sh.rectoref11_Join at hS
 refine Zq (Zr ?_)
 refine Za ?_
 refine Zl ?_
 refine Zq (Zr ?_)
 refine Za ?_
 refine Zl ?_
 refine Zq (Zq (Zr ?_))
 refine Za ?_
 refine Zl ?_
 refine Zb ?_
 refine VC.iter (S := Str × Int) (fun sg => (sg.1, sg.2)) (fun sg => [(0, l_0.val), (3, str sg.1), (4, i64 sg.2)]) (fun sg => Mo.tt) (fun sg => Ow.emp) ([], 0) [0, 3, 4] hS rfl ?_
 clear hS
 rintro ⟨s3_1, i4_2⟩ m1 y1 hS hK1
 show VC _ _ _ _ _ [(0, l_0.val), (3, str s3_1), (4, i64 i4_2)] (Mo.and Mo.tt _) (Ow.emp)
 refine Zq (Zq (Zr ?_))
 refine Zm ?_
 refine Zm ?_
 refine VL.q (q_ln (s := l_0) Tryz.underlying32 rfl) (by decide) ?_
 refine VL.q (q_lss rfl rfl) (by decide) ?_
 refine Zl ?_
 refine VC.cond_dec rfl (fun h8 => ?_) (fun h8 => ?_)
 ·
  replace hS := it_t h8 hS
  refine Zk ?_
  refine Zq (Zb (Zr ?_))
  refine Zm ?_
  refine Zm ?_
  refine Zm ?_
  obtain ⟨z14_3, nz14_3, hz14_3, hS⟩ := at_s hS
  refine VL.q (q_ixm (s := l_0) Tryz.underlying32 gsz9 rfl rfl nz14_3 (lt_of_get nz14_3 hz14_3)) (by decide) ?_
  refine VL.q (q_el (s := l_0) gone9 rfl hz14_3 rfl) (by decide) ?_
  obtain ⟨b16, hS⟩ := gd_s hS
  obtain ⟨y16_4, ey16_4, hS⟩ := lt_s hS
  refine VL.q (q_catE rfl rfl b16 ey16_4) (by decide) ?_
  refine Za ?_
  refine Zl ?_
  refine VC.keep [0, 3, 4] rfl ?_
  refine Zr ?_
  refine Zm ?_
  obtain ⟨b10, hS⟩ := gd_s hS
  refine VL.q (q_add rfl rfl b10) (by decide) ?_
  refine Za ?_
  refine VL.rnd (y16_4, (i4_2 + 1)) [0, 3, 4] (fun _ _ h => h) (go2 hS hK1) rfl
 replace hS := it_f h8 hS
 replace hS := up2 hS hK1
 refine Zx ?_
 refine Zq (Zr ?_)
 refine Zm ?_
 refine Za ?_
 refine Zl ?_
 cases hS
 exact Ze
theorem rectoref11_ended_ct (s_0 : Str) {r : Str} (hS : Sh.rectoref11_ended s_0 = some r) :
 Ct Tryz.prog 351 [str s_0] Mo.tt (Ow.emp) (X := Unit) (fun _ => str r) (fun _ => True) (fun _ => Mo.tt) (fun _ => Ow.emp) := by
 refine Ct.of Tryz.func351 rfl (by kernel_rfl) Tryz.ntmps351 (by simp) fun c => ?_
 unfold Sh.rectoref11_ended at hS
 refine Zq (Zr ?_)
 refine Za ?_
 refine Zl ?_
 refine Zq ?_
 refine VC.cutJ (S := Bool) (fun (x13_1 : Bool) => x13_1) (fun (x13_1 : Bool) => [(0, str s_0), (13, .bool x13_1)]) (fun (x13_1 : Bool) => Mo.tt) (fun (x13_1 : Bool) => Ow.emp) hS ?_ ?_
 ·
  clear hS
  intro k2 hS
  refine Zr ?_
  refine Zm ?_
  refine VL.q (q_slen Tryz.underlying9 rfl) (by decide) ?_
  refine VL.q (q_gtr rfl rfl) (by decide) ?_
  refine Zm ?_
  refine VL.split_dec 6 rfl (fun h6 => ?_) (fun h6 => ?_)
  ·
   replace hS := it_t h6 hS
   refine Zg ?_
   refine Zg ?_
   refine VL.gy rfl rfl (q_slen Tryz.underlying9 rfl) (by decide) ?_
   obtain ⟨b10, hS⟩ := gd_s hS
   refine VL.gy rfl rfl (q_sub rfl rfl b10) (by decide) ?_
   obtain ⟨z11_3, nz11_3, hz11_3, hS⟩ := at_s hS
   refine VL.gy rfl rfl (q_sidx Tryz.underlying9 rfl rfl nz11_3 hz11_3) (by decide) ?_
   refine VL.gy rfl rfl (q_eql rfl rfl) (by decide) ?_
   refine Zt ?_
   refine VL.mt (decide ((z11_3.toNat : Int) = 10)) [0, 13] (fun _ _ h => h) hS rfl
  replace hS := it_f h6 hS
  refine Zn ?_
  refine Zn ?_
  refine Zn ?_
  refine Zn ?_
  refine Zn ?_
  refine Zn ?_
  refine Zf ?_
  refine VL.mt false [0, 13] (fun _ _ h => h) hS rfl
 clear hS
 rintro x13_1 hS
 show VC _ _ _ _ _ [(0, str s_0), (13, .bool x13_1)] (Mo.and Mo.tt _) (Ow.emp)
 refine VC.cond rfl (fun h13 => ?_) (fun h13 => ?_)
 ·
  replace hS := it_t h13 hS
  refine Zq (Zr ?_)
  refine Zm ?_
  refine Za ?_
  refine Zl ?_
  cases hS
  exact Ze
 replace hS := it_b h13 hS
 refine Zk ?_
 refine Zq (Zr ?_)
 refine Zm ?_
 obtain ⟨b16, hS⟩ := gd_s hS
 obtain ⟨y16_4, ey16_4, hS⟩ := lt_s hS
 refine VL.q (q_catE rfl rfl b16 ey16_4) (by decide) ?_
 refine Za ?_
 refine Zl ?_
 cases hS
 exact Ze
theorem rectoref11_marked_ct (l_0 : Sv Str) {r : Str} (hS : Sh.rectoref11_marked l_0.l = some r) :
 Ct Tryz.prog 306 [l_0.val] l_0.ok (Ow.emp) (X := Unit) (fun _ => str r) (fun _ => True) (fun _ => Mo.tt) (fun _ => Ow.emp) := by
 refine Ct.of Tryz.func306 rfl (by kernel_rfl) Tryz.ntmps306 (by simp) fun c => ?_
 unfold Sh.rectoref11_marked at hS
 refine Zq (Zr ?_)
 refine Za ?_
 refine Zl ?_
 refine Zq (Zr ?_)
 refine Zm ?_
 obtain ⟨y5_1, ey5_1, hS⟩ := bd_s hS
 refine VL.q (q_call (rectoref11_Join_ct l_0 ey5_1) rfl (fun _ _ => rfl)) (by decide) ?_
 refine Za ?_
 refine Zl ?_
 refine Zq (Zq (Zr ?_))
 refine Zm ?_
 refine Zs ?_
 refine Zl ?_
 refine VC.cond_dec rfl (fun h7 => ?_) (fun h7 => ?_)
 ·
  replace hS := it_t h7 hS
  refine Zq (Zr ?_)
  refine Za ?_
  refine Zl ?_
  cases hS
  exact Ze
 replace hS := it_f h7 hS
 refine Zk ?_
 refine Zq (Zr ?_)
 refine Zm ?_
 obtain ⟨y9_2, ey9_2, hS⟩ := bd_s hS
 refine VL.q (q_call (rectoref11_ended_ct y5_1 ey9_2) rfl (fun _ _ => rfl)) (by decide) ?_
 refine Za ?_
 refine Zl ?_
 cases hS
 exact Ze
theorem rectoref11_Text_ct (base_0 : Str) (ours_1 : Str) (theirs_2 : Str) (a_3 : Str) (b_4 : Str) {r : Str × Int × Rectoref3WrongP} (hS : Sh.rectoref11_Text base_0 ours_1 theirs_2 a_3 b_4 = some r) :
 Ct Tryz.prog 255 [str base_0, str ours_1, str theirs_2, str a_3, str b_4] Mo.tt (Ow.emp) (X := Str × Int × Rectoref3Wrong) (fun x => .tuple #[str x.1, i64 x.2.1, .agg (Dat.enc x.2.2).toArray]) (fun x => r = (x.1, x.2.1, x.2.2.pl)) (fun x => x.2.2.m) (fun x => Ow.emp) := by
 refine Ct.of Tryz.func255 rfl (by kernel_rfl) Tryz.ntmps255 (by simp) fun c => ?_
 unfold Sh.rectoref11_Text at hS
 refine Zq (Zr ?_)
 refine Za ?_
 refine Za ?_
 refine VL.alloc (cs := [.slice none 0 0, i64 0]) (by kernel_rfl) (by decide) fun b12_1 => ?_
 refine Zl ?_
 refine Zq (Zr ?_)
 refine Zm ?_
 obtain ⟨y20_2, ey20_2, hS⟩ := bd_s hS
 refine VL.callO (rectoref11_Split_ct base_0 ey20_2) rfl (by decide) ?_
 rintro q20_2_0 rfl
 try dsimp only
 refine Zm ?_
 obtain ⟨y22_3, ey22_3, hS⟩ := bd_s hS
 refine VL.callO (rectoref11_Split_ct ours_1 ey22_3) rfl (by decide) ?_
 rintro q22_3_0 rfl
 try dsimp only
 refine Zm ?_
 obtain ⟨y24_4, ey24_4, hS⟩ := bd_s hS
 refine VL.callO (rectoref11_Split_ct theirs_2 ey24_4) rfl (by decide) ?_
 rintro q24_4_0 rfl
 try dsimp only
 refine VL.shut q20_2_0 9 (fun _ _ _ _ => trivial) ?_
 refine VL.shut q22_3_0 9 (fun _ _ _ _ => trivial) ?_
 refine VL.shut q24_4_0 9 (fun _ _ _ _ => trivial) ?_
 obtain ⟨y25_5, ey25_5, hS⟩ := bd_s hS
 refine VL.callF (rectoref11_Chunks_ct q20_2_0 q22_3_0 q24_4_0 ey25_5) rfl (by decide) ?_
 rintro ⟨q25_5_0, q25_5_1⟩ rfl
 try dsimp only
 refine Zm ?_
 refine VL.q (q_extract rfl rfl) (by decide) ?_
 refine VL.q (q_extract rfl rfl) (by decide) ?_
 refine VL.alloc (cs := [.slice none 0 0, i64 0]) (by kernel_rfl) (by decide) fun b14_6 => ?_
 refine Za ?_
 refine VL.store (vc := [q25_5_1.parts.val, i64 q25_5_1.err]) (cs' := [q25_5_1.parts.val, i64 q25_5_1.err]) rfl rfl rfl gsz77 rfl rfl (Nat.le_of_ble_eq_true rfl) rfl ?_
 refine Zl ?_
 refine VC.keep [3, 4, 12, 14, 13] rfl ?_
 refine Zq (Zq (Zr ?_))
 refine VL.q (q_field gfa77_1 rfl) (by decide) ?_
 refine VL.q (q_fe gone3 rfl rfl) (by decide) ?_
 refine VL.q (q_neq rfl rfl) (by decide) ?_
 refine Zl ?_
 refine VC.cond_ndec rfl (fun h30 => ?_) (fun h30 => ?_)
 ·
  replace hS := it_f h30 hS
  refine Zq ?_
  refine VC.draw [(0, true), (1, true), (2, true), (3, false)] mixed (by kernel_rfl) (by kernel_rfl) (by kernel_rfl) ?_
  refine VD.q rfl (q_fes gagg77 rfl rfl) (by decide) ?_
  refine VD.q rfl (q_assign rfl) (by decide) ?_
  refine VD.q rfl (q_assign rfl) (by decide) ?_
  refine VD.one rfl ?_
  refine VL.store (vc := [q25_5_1.parts.val, i64 q25_5_1.err]) (cs' := [q25_5_1.parts.val, i64 q25_5_1.err]) rfl rfl rfl gsz77 rfl rfl (Nat.le_of_ble_eq_true rfl) rfl ?_
  refine VL.back (D' := []) (by kernel_rfl) (Pend.nil) ?_
  refine VD.to (fun _ _ h => h) ?_
  refine VC.keep [12, 10, 11] rfl ?_
  cases hS
  exact VC.ret (finG (vs := [str [], i64 0, .agg #[q25_5_1.parts.val, i64 q25_5_1.err]]) (.inr rfl) rfl (RVs.tmp rfl (RVs.tmp rfl (RVs.cell gagg77 rfl rfl Rd.blk (RVs.nil)))) ([], 0, ⟨q25_5_1.parts, q25_5_1.err⟩) rfl rfl (by (try dsimp only); exact InM.out) (fun _ _ => trivial))
 replace hS := it_t h30 hS
 refine Zk ?_
 refine Zq (Zr ?_)
 refine Za ?_
 refine Zl ?_
 refine Zq (Zr ?_)
 refine Za ?_
 refine Zl ?_
 refine Zq (Zq (Zr ?_))
 refine Za ?_
 refine Zl ?_
 refine Zb ?_
 refine VC.iter (S := Str × Int × Int) (fun sg => (sg.1, sg.2.1, sg.2.2)) (fun sg => [(3, str a_3), (4, str b_4), (12, ptr b12_1 0), (13, q25_5_0.val), (14, ptr b14_6 0), (15, str sg.1), (16, i64 sg.2.1), (17, i64 sg.2.2)]) (fun sg => Mo.tt) (fun sg => Ow.star (Blk b14_6 [q25_5_1.parts.val, i64 q25_5_1.err] 77) (Ow.star (Blk b12_1 [.slice none 0 0, i64 0] 77) (Ow.emp))) ([], 0, 0) [3, 4, 12, 13, 14, 15, 16, 17] hS rfl ?_
 clear hS
 rintro ⟨s15_7, n16_8, i17_9⟩ m1 y1 hS hK1
 show VC _ _ _ _ _ [(3, str a_3), (4, str b_4), (12, ptr b12_1 0), (13, q25_5_0.val), (14, ptr b14_6 0), (15, str s15_7), (16, i64 n16_8), (17, i64 i17_9)] (Mo.and Mo.tt _) (Ow.star (Blk b14_6 [q25_5_1.parts.val, i64 q25_5_1.err] 77) (Ow.star (Blk b12_1 [.slice none 0 0, i64 0] 77) (Ow.emp)))
 refine Zq (Zq (Zr ?_))
 refine Zm ?_
 refine Zm ?_
 refine VL.q (q_lnm Rectoref11Chunk.pl (s := q25_5_0) Tryz.underlying376 rfl) (by decide) ?_
 refine VL.q (q_lss rfl rfl) (by decide) ?_
 refine Zl ?_
 refine VC.cond_dec rfl (fun h35 => ?_) (fun h35 => ?_)
 ·
  replace hS := it_t h35 hS
  refine Zk ?_
  refine VC.cutJ (S := Str × Int) (fun sg => (sg.1, sg.2)) (fun sg => [(3, str a_3), (4, str b_4), (12, ptr b12_1 0), (13, q25_5_0.val), (14, ptr b14_6 0), (15, str sg.1), (16, i64 sg.2), (17, i64 i17_9)]) (fun sg => Mo.tt) (fun sg => Ow.star (Blk b14_6 [q25_5_1.parts.val, i64 q25_5_1.err] 77) (Ow.star (Blk b12_1 [.slice none 0 0, i64 0] 77) (Ow.emp))) hS ?_ ?_
  ·
   clear hS
   intro k12 hS
   refine Zb (Zq (Zq (Zr ?_)))
   refine Zm ?_
   refine Zm ?_
   obtain ⟨z40_13, nz40_13, hz40_13, hS⟩ := atm_s hS
   refine VL.deep z40_13.m hz40_13 (fun _ q => q) ?_
   refine VL.q (q_ixm (s := q25_5_0) Tryz.underlying376 gsz379 rfl rfl nz40_13 (lt_of_get nz40_13 hz40_13)) (by decide) ?_
   refine VL.q (q_field gfa379_3 rfl) (by decide) ?_
   refine VL.q (q_elf (s := q25_5_0) gone4 rfl hz40_13 rfl) (by decide) ?_
   refine VL.q (q_not rfl) (by decide) ?_
   refine Zl ?_
   refine VC.keep [3, 4, 12, 13, 14, 15, 16, 17, 43] rfl ?_
   refine VC.cond rfl (fun h43 => ?_) (fun h43 => ?_)
   ·
    replace hS := it_t h43 hS
    refine Zq (Zr ?_)
    refine Zm ?_
    refine Zm ?_
    refine Zm ?_
    obtain ⟨z47_14, nz47_14, hz47_14, hS⟩ := atm_s hS
    refine VL.deep z47_14.m hz47_14 (fun _ q => q) ?_
    refine VL.q (q_ixm (s := q25_5_0) Tryz.underlying376 gsz379 rfl rfl nz47_14 (lt_of_get nz47_14 hz47_14)) (by decide) ?_
    refine VL.q (q_field gfa379_4 rfl) (by decide) ?_
    refine VL.q (q_elf (s := q25_5_0) gone32 rfl hz47_14 rfl) (by decide) ?_
    obtain ⟨y50_15, ey50_15, hS⟩ := bd_s hS
    refine VL.q (q_call (rectoref11_Join_ct z47_14.out ey50_15) rfl (fun _ _ => rfl)) (by decide) ?_
    obtain ⟨b51, hS⟩ := gd_s hS
    obtain ⟨y51_16, ey51_16, hS⟩ := lt_s hS
    refine VL.q (q_catE rfl rfl b51 ey51_16) (by decide) ?_
    refine Za ?_
    refine Zl ?_
    refine VC.keep [3, 4, 12, 13, 14, 15, 16, 17] rfl ?_
    refine VC.exit_mt (y51_16, n16_8) [3, 4, 12, 13, 14, 15, 16, 17] (fun _ _ h => h) hS rfl
   replace hS := it_b h43 hS
   refine Zk ?_
   refine Zq (Zr ?_)
   refine Zm ?_
   obtain ⟨b53, hS⟩ := gd_s hS
   refine VL.q (q_add rfl rfl b53) (by decide) ?_
   refine Za ?_
   refine Zl ?_
   refine VC.draw ((List.range 25).map fun k => (k, true)) mixed (by kernel_rfl) (by kernel_rfl) (by kernel_rfl) ?_
   refine VD.q rfl (q_move rfl) (by decide) ?_
   obtain ⟨b55, hS⟩ := gd_s hS
   obtain ⟨y55_17, ey55_17, hS⟩ := lt_s hS
   refine VD.q rfl (q_catE rfl rfl b55 ey55_17) (by decide) ?_
   refine VD.q rfl (q_move rfl) (by decide) ?_
   obtain ⟨b57, hS⟩ := gd_s hS
   obtain ⟨y57_18, ey57_18, hS⟩ := lt_s hS
   refine VD.q rfl (q_catE rfl rfl b57 ey57_18) (by decide) ?_
   obtain ⟨b58, hS⟩ := gd_s hS
   obtain ⟨y58_19, ey58_19, hS⟩ := lt_s hS
   refine VD.q rfl (q_catE rfl rfl b58 ey58_19) (by decide) ?_
   refine VD.q rfl (q_move rfl) (by decide) ?_
   refine VD.q rfl (q_move rfl) (by decide) ?_
   obtain ⟨z61_20, nz61_20, hz61_20, hS⟩ := atm_s hS
   refine VD.deep z61_20.m hz61_20 (fun _ q => q) ?_
   refine VD.q rfl (q_ixm (s := q25_5_0) Tryz.underlying376 gsz379 rfl rfl nz61_20 (lt_of_get nz61_20 hz61_20)) (by decide) ?_
   refine VD.q rfl (q_field gfa379_1 rfl) (by decide) ?_
   refine VD.q rfl (q_elf (s := q25_5_0) gone32 rfl hz61_20 rfl) (by decide) ?_
   obtain ⟨y64_21, ey64_21, hS⟩ := bd_s hS
   refine VD.q rfl (q_call (rectoref11_marked_ct z61_20.ours ey64_21) rfl (fun _ _ => rfl)) (by decide) ?_
   obtain ⟨b65, hS⟩ := gd_s hS
   obtain ⟨y65_22, ey65_22, hS⟩ := lt_s hS
   refine VD.q rfl (q_catE rfl rfl b65 ey65_22) (by decide) ?_
   obtain ⟨b66, hS⟩ := gd_s hS
   obtain ⟨y66_23, ey66_23, hS⟩ := lt_s hS
   refine VD.q rfl (q_catE rfl rfl b66 ey66_23) (by decide) ?_
   refine VD.q rfl (q_move rfl) (by decide) ?_
   refine VD.q rfl (q_move rfl) (by decide) ?_
   obtain ⟨z69_24, nz69_24, hz69_24, hS⟩ := atm_s hS
   refine VD.deep z69_24.m hz69_24 (fun _ q => q) ?_
   refine VD.q rfl (q_ixm (s := q25_5_0) Tryz.underlying376 gsz379 rfl rfl nz69_24 (lt_of_get nz69_24 hz69_24)) (by decide) ?_
   refine VD.q rfl (q_field gfa379_2 rfl) (by decide) ?_
   refine VD.q rfl (q_elf (s := q25_5_0) gone32 rfl hz69_24 rfl) (by decide) ?_
   obtain ⟨y72_25, ey72_25, hS⟩ := bd_s hS
   refine VD.q rfl (q_call (rectoref11_marked_ct z69_24.theirs ey72_25) rfl (fun _ _ => rfl)) (by decide) ?_
   obtain ⟨b73, hS⟩ := gd_s hS
   obtain ⟨y73_26, ey73_26, hS⟩ := lt_s hS
   refine VD.q rfl (q_catE rfl rfl b73 ey73_26) (by decide) ?_
   obtain ⟨b74, hS⟩ := gd_s hS
   obtain ⟨y74_27, ey74_27, hS⟩ := lt_s hS
   refine VD.q rfl (q_catE rfl rfl b74 ey74_27) (by decide) ?_
   refine VD.q rfl (q_move rfl) (by decide) ?_
   obtain ⟨b76, hS⟩ := gd_s hS
   obtain ⟨y76_28, ey76_28, hS⟩ := lt_s hS
   refine VD.q rfl (q_catE rfl rfl b76 ey76_28) (by decide) ?_
   obtain ⟨b77, hS⟩ := gd_s hS
   obtain ⟨y77_29, ey77_29, hS⟩ := lt_s hS
   refine VD.q rfl (q_catE rfl rfl b77 ey77_29) (by decide) ?_
   refine VD.q rfl (q_assign rfl) (by decide) ?_
   refine VD.mt (y77_29, (n16_8 + 1)) [3, 4, 12, 13, 14, 15, 16, 17] (fun _ _ h => h) hS rfl
  clear hS
  rintro ⟨s15_10, n16_11⟩ hS
  show VC _ _ _ _ _ [(3, str a_3), (4, str b_4), (12, ptr b12_1 0), (13, q25_5_0.val), (14, ptr b14_6 0), (15, str s15_10), (16, i64 n16_11), (17, i64 i17_9)] (Mo.and Mo.tt _) (Ow.star (Blk b14_6 [q25_5_1.parts.val, i64 q25_5_1.err] 77) (Ow.star (Blk b12_1 [.slice none 0 0, i64 0] 77) (Ow.emp)))
  refine Zr ?_
  refine Zm ?_
  obtain ⟨b37, hS⟩ := gd_s hS
  refine VL.q (q_add rfl rfl b37) (by decide) ?_
  refine Za ?_
  refine VL.rnd (s15_10, n16_11, (i17_9 + 1)) [3, 4, 12, 13, 14, 15, 16, 17] (fun _ _ h => h) (go2 hS hK1) rfl
 replace hS := it_f h35 hS
 replace hS := up2 hS hK1
 refine Zx ?_
 refine VC.keep [12, 14, 15, 16] rfl ?_
 refine Zq ?_
 refine VC.draw [(0, true), (1, true), (2, true), (3, true), (4, true), (5, false)] mixed (by kernel_rfl) (by kernel_rfl) (by kernel_rfl) ?_
 refine VD.q rfl (q_move rfl) (by decide) ?_
 refine VD.q rfl (q_move rfl) (by decide) ?_
 refine VD.q rfl (q_fes gagg77 rfl rfl) (by decide) ?_
 refine VD.q rfl (q_assign rfl) (by decide) ?_
 refine VD.q rfl (q_assign rfl) (by decide) ?_
 refine VD.one rfl ?_
 refine VL.store (vc := [q25_5_1.parts.val, i64 q25_5_1.err]) (cs' := [q25_5_1.parts.val, i64 q25_5_1.err]) rfl rfl rfl gsz77 rfl rfl (Nat.le_of_ble_eq_true rfl) rfl ?_
 refine VL.back (D' := []) (by kernel_rfl) (Pend.nil) ?_
 refine VD.to (fun _ _ h => h) ?_
 cases hS
 exact VC.ret (finG (vs := [str s15_7, i64 n16_8, .agg #[q25_5_1.parts.val, i64 q25_5_1.err]]) (.inr rfl) rfl (RVs.tmp rfl (RVs.tmp rfl (RVs.cell gagg77 rfl rfl Rd.blk (RVs.nil)))) (s15_7, n16_8, ⟨q25_5_1.parts, q25_5_1.err⟩) rfl rfl (by (try dsimp only); exact InM.out) (fun _ _ => trivial))
theorem rectoref14_both_ct (b_0 : Rectoref14File) (is_1 : Bool) (o_2 : Rectoref14File) (t_3 : Rectoref14File) (an_4 : Str) (bn_5 : Str) {r : Rectoref14File × Bool} (hS : Sh.rectoref14_both b_0 is_1 o_2 t_3 an_4 bn_5 = some r) :
 Ct Tryz.prog 184 [.agg #[str b_0.path, i64 b_0.mode, str b_0.data], .bool is_1, .agg #[str o_2.path, i64 o_2.mode, str o_2.data], .agg #[str t_3.path, i64 t_3.mode, str t_3.data], str an_4, str bn_5] Mo.tt (Ow.emp) (X := Unit) (fun _ => .tuple #[.agg #[str r.1.path, i64 r.1.mode, str r.1.data], .bool r.2]) (fun _ => True) (fun _ => Mo.tt) (fun _ => Ow.emp) := by
 refine Ct.of Tryz.func184 rfl (by kernel_rfl) Tryz.ntmps184 (by simp) fun c => ?_
 unfold Sh.rectoref14_both at hS
 refine Zq (Zr ?_)
 refine VL.box (cs := [str b_0.path, i64 b_0.mode, str b_0.data]) rfl rfl (by decide) fun b6_1 => ?_
 refine VL.box (cs := [str o_2.path, i64 o_2.mode, str o_2.data]) rfl rfl (by decide) fun b8_2 => ?_
 refine VL.box (cs := [str t_3.path, i64 t_3.mode, str t_3.data]) rfl rfl (by decide) fun b9_3 => ?_
 refine VL.alloc (cs := [str [], i64 0, str []]) (by kernel_rfl) (by decide) fun b12_4 => ?_
 refine Za ?_
 refine Zl ?_
 refine Zq (Zr ?_)
 refine VL.q (q_fes gagg133 rfl rfl) (by decide) ?_
 refine VL.alloc (cs := [str [], i64 0, str []]) (by kernel_rfl) (by decide) fun b14_5 => ?_
 refine VL.store (vc := [str o_2.path, i64 o_2.mode, str o_2.data]) (cs' := [str o_2.path, i64 o_2.mode, str o_2.data]) rfl rfl rfl gsz133 rfl rfl (Nat.le_of_ble_eq_true rfl) rfl ?_
 refine Zl ?_
 refine VC.cutJ (S := Int) (fun (c1_6 : Int) => c1_6) (fun (c1_6 : Int) => [(1, .bool is_1), (4, str an_4), (5, str bn_5), (6, ptr b6_1 0), (8, ptr b8_2 0), (9, ptr b9_3 0), (12, ptr b12_4 0), (14, ptr b14_5 0)]) (fun (c1_6 : Int) => Mo.tt) (fun (c1_6 : Int) => Ow.star (Blk b14_5 [str o_2.path, i64 c1_6, str o_2.data] 133) (Ow.star (Blk b12_4 [str [], i64 0, str []] 133) (Ow.star (Blk b9_3 [str t_3.path, i64 t_3.mode, str t_3.data] 133) (Ow.star (Blk b8_2 [str o_2.path, i64 o_2.mode, str o_2.data] 133) (Ow.star (Blk b6_1 [str b_0.path, i64 b_0.mode, str b_0.data] 133) (Ow.emp)))))) hS ?_ ?_
 ·
  clear hS
  intro k7 hS
  refine VC.cutJ (S := Bool) (fun (x26_8 : Bool) => x26_8) (fun (x26_8 : Bool) => [(1, .bool is_1), (4, str an_4), (5, str bn_5), (6, ptr b6_1 0), (8, ptr b8_2 0), (9, ptr b9_3 0), (12, ptr b12_4 0), (14, ptr b14_5 0), (26, .bool x26_8)]) (fun (x26_8 : Bool) => Mo.tt) (fun (x26_8 : Bool) => Ow.star (Blk b14_5 [str o_2.path, i64 o_2.mode, str o_2.data] 133) (Ow.star (Blk b12_4 [str [], i64 0, str []] 133) (Ow.star (Blk b9_3 [str t_3.path, i64 t_3.mode, str t_3.data] 133) (Ow.star (Blk b8_2 [str o_2.path, i64 o_2.mode, str o_2.data] 133) (Ow.star (Blk b6_1 [str b_0.path, i64 b_0.mode, str b_0.data] 133) (Ow.emp)))))) hS ?_ ?_
  ·
   clear hS
   intro k9 hS
   refine Zr ?_
   refine Zm ?_
   refine Zm ?_
   refine VL.split 20 rfl (fun h20 => ?_) (fun h20 => ?_)
   ·
    replace hS := it_t h20 hS
    refine VL.gy rfl rfl (q_field gfa133_1 rfl) (by decide) ?_
    refine VL.gy rfl rfl (q_fe gone3 rfl rfl) (by decide) ?_
    refine VL.gy rfl rfl (q_field gfa133_1 rfl) (by decide) ?_
    refine VL.gy rfl rfl (q_fe gone3 rfl rfl) (by decide) ?_
    refine VL.gy rfl rfl (q_eql rfl rfl) (by decide) ?_
    refine Zt ?_
    refine VL.mt (decide (b_0.mode = o_2.mode)) [1, 4, 5, 6, 8, 9, 12, 14, 26] (fun _ _ h => h) hS rfl
   replace hS := it_b h20 hS
   refine Zn ?_
   refine Zn ?_
   refine Zn ?_
   refine Zn ?_
   refine Zn ?_
   refine Zf ?_
   refine VL.mt false [1, 4, 5, 6, 8, 9, 12, 14, 26] (fun _ _ h => h) hS rfl
  clear hS
  rintro x26_8 hS
  show VC _ _ _ _ _ [(1, .bool is_1), (4, str an_4), (5, str bn_5), (6, ptr b6_1 0), (8, ptr b8_2 0), (9, ptr b9_3 0), (12, ptr b12_4 0), (14, ptr b14_5 0), (26, .bool x26_8)] (Mo.and Mo.tt _) (Ow.star (Blk b14_5 [str o_2.path, i64 o_2.mode, str o_2.data] 133) (Ow.star (Blk b12_4 [str [], i64 0, str []] 133) (Ow.star (Blk b9_3 [str t_3.path, i64 t_3.mode, str t_3.data] 133) (Ow.star (Blk b8_2 [str o_2.path, i64 o_2.mode, str o_2.data] 133) (Ow.star (Blk b6_1 [str b_0.path, i64 b_0.mode, str b_0.data] 133) (Ow.emp))))))
  refine VC.cond rfl (fun h26 => ?_) (fun h26 => ?_)
  ·
   replace hS := it_t h26 hS
   refine Zr ?_
   refine VL.q (q_field gfa133_1 rfl) (by decide) ?_
   refine VL.q (q_fe gone3 rfl rfl) (by decide) ?_
   refine VL.q (q_field gfa133_1 rfl) (by decide) ?_
   refine VL.store (vc := [i64 t_3.mode]) (cs' := [str o_2.path, i64 t_3.mode, str o_2.data]) rfl rfl rfl gsz3 rfl rfl (Nat.le_of_ble_eq_true rfl) rfl ?_
   refine VL.mt t_3.mode [1, 4, 5, 6, 8, 9, 12, 14] (fun _ _ h => h) hS rfl
  replace hS := it_b h26 hS
  refine VC.skip_mt o_2.mode [1, 4, 5, 6, 8, 9, 12, 14] (fun _ _ h => h) hS rfl
 clear hS
 rintro c1_6 hS
 show VC _ _ _ _ _ [(1, .bool is_1), (4, str an_4), (5, str bn_5), (6, ptr b6_1 0), (8, ptr b8_2 0), (9, ptr b9_3 0), (12, ptr b12_4 0), (14, ptr b14_5 0)] (Mo.and Mo.tt _) (Ow.star (Blk b14_5 [str o_2.path, i64 c1_6, str o_2.data] 133) (Ow.star (Blk b12_4 [str [], i64 0, str []] 133) (Ow.star (Blk b9_3 [str t_3.path, i64 t_3.mode, str t_3.data] 133) (Ow.star (Blk b8_2 [str o_2.path, i64 o_2.mode, str o_2.data] 133) (Ow.star (Blk b6_1 [str b_0.path, i64 b_0.mode, str b_0.data] 133) (Ow.emp))))))
 refine Zq (Zb (Zq (Zr ?_)))
 refine VL.q (q_field gfa133_2 rfl) (by decide) ?_
 refine VL.q (q_fe gone9 rfl rfl) (by decide) ?_
 refine VL.q (q_field gfa133_2 rfl) (by decide) ?_
 refine VL.q (q_fe gone9 rfl rfl) (by decide) ?_
 refine Zs ?_
 refine Za ?_
 refine Zl ?_
 refine VC.cond_dec rfl (fun h30 => ?_) (fun h30 => ?_)
 ·
  replace hS := it_t h30 hS
  refine Zq (Zr ?_)
  refine VL.q (q_fes gagg133 rfl rfl) (by decide) ?_
  refine VL.store (vc := [str o_2.path, i64 c1_6, str o_2.data]) (cs' := [str o_2.path, i64 c1_6, str o_2.data]) rfl rfl rfl gsz133 rfl rfl (Nat.le_of_ble_eq_true rfl) rfl ?_
  refine Za ?_
  refine Zl ?_
  refine VC.keep [12, 13] rfl ?_
  cases hS
  exact VC.ret (finG (vs := [.agg #[str o_2.path, i64 c1_6, str o_2.data], .bool false]) (.inr rfl) rfl (RVs.cell gagg133 rfl rfl Rd.blk (RVs.tmp rfl (RVs.nil))) () rfl trivial (by (try dsimp only); exact InM.out) (fun _ _ => trivial))
 replace hS := it_f h30 hS
 refine VC.cutJ (S := Bool) (fun (x37_10 : Bool) => x37_10) (fun (x37_10 : Bool) => [(1, .bool is_1), (4, str an_4), (5, str bn_5), (6, ptr b6_1 0), (8, ptr b8_2 0), (9, ptr b9_3 0), (12, ptr b12_4 0), (14, ptr b14_5 0), (37, .bool x37_10)]) (fun (x37_10 : Bool) => Mo.tt) (fun (x37_10 : Bool) => Ow.star (Blk b14_5 [str o_2.path, i64 c1_6, str o_2.data] 133) (Ow.star (Blk b12_4 [str [], i64 0, str []] 133) (Ow.star (Blk b9_3 [str t_3.path, i64 t_3.mode, str t_3.data] 133) (Ow.star (Blk b8_2 [str o_2.path, i64 o_2.mode, str o_2.data] 133) (Ow.star (Blk b6_1 [str b_0.path, i64 b_0.mode, str b_0.data] 133) (Ow.emp)))))) hS ?_ ?_
 ·
  clear hS
  intro k11 hS
  refine Zr ?_
  refine Zm ?_
  refine Zm ?_
  refine VL.split 39 rfl (fun h39 => ?_) (fun h39 => ?_)
  ·
   replace hS := it_t h39 hS
   refine VL.gy rfl rfl (q_field gfa133_2 rfl) (by decide) ?_
   refine VL.gy rfl rfl (q_fe gone9 rfl rfl) (by decide) ?_
   refine VL.gy rfl rfl (q_field gfa133_2 rfl) (by decide) ?_
   refine VL.gy rfl rfl (q_fe gone9 rfl rfl) (by decide) ?_
   refine VL.gy rfl rfl (q_seq rfl rfl) (by decide) ?_
   refine Zt ?_
   refine Za ?_
   refine VL.mt (decide (o_2.data = b_0.data)) [1, 4, 5, 6, 8, 9, 12, 14, 37] (fun _ _ h => h) hS rfl
  replace hS := it_b h39 hS
  refine Zn ?_
  refine Zn ?_
  refine Zn ?_
  refine Zn ?_
  refine Zn ?_
  refine Zf ?_
  refine Za ?_
  refine VL.mt false [1, 4, 5, 6, 8, 9, 12, 14, 37] (fun _ _ h => h) hS rfl
 clear hS
 rintro x37_10 hS
 show VC _ _ _ _ _ [(1, .bool is_1), (4, str an_4), (5, str bn_5), (6, ptr b6_1 0), (8, ptr b8_2 0), (9, ptr b9_3 0), (12, ptr b12_4 0), (14, ptr b14_5 0), (37, .bool x37_10)] (Mo.and Mo.tt _) (Ow.star (Blk b14_5 [str o_2.path, i64 c1_6, str o_2.data] 133) (Ow.star (Blk b12_4 [str [], i64 0, str []] 133) (Ow.star (Blk b9_3 [str t_3.path, i64 t_3.mode, str t_3.data] 133) (Ow.star (Blk b8_2 [str o_2.path, i64 o_2.mode, str o_2.data] 133) (Ow.star (Blk b6_1 [str b_0.path, i64 b_0.mode, str b_0.data] 133) (Ow.emp))))))
 refine VC.cond rfl (fun h37 => ?_) (fun h37 => ?_)
 ·
  replace hS := it_t h37 hS
  refine Zq (Zr ?_)
  refine VL.q (q_field gfa133_2 rfl) (by decide) ?_
  refine VL.q (q_fe gone9 rfl rfl) (by decide) ?_
  refine VL.q (q_field gfa133_2 rfl) (by decide) ?_
  refine VL.store (vc := [str t_3.data]) (cs' := [str o_2.path, i64 c1_6, str t_3.data]) rfl rfl rfl gsz9 rfl rfl (Nat.le_of_ble_eq_true rfl) rfl ?_
  refine Zl ?_
  refine VC.keep [12, 14] rfl ?_
  refine Zq (Zr ?_)
  refine VL.q (q_fes gagg133 rfl rfl) (by decide) ?_
  refine VL.store (vc := [str o_2.path, i64 c1_6, str t_3.data]) (cs' := [str o_2.path, i64 c1_6, str t_3.data]) rfl rfl rfl gsz133 rfl rfl (Nat.le_of_ble_eq_true rfl) rfl ?_
  refine Za ?_
  refine Zl ?_
  cases hS
  exact VC.ret (finG (vs := [.agg #[str o_2.path, i64 c1_6, str t_3.data], .bool false]) (.inr rfl) rfl (RVs.cell gagg133 rfl rfl Rd.blk (RVs.tmp rfl (RVs.nil))) () rfl trivial (by (try dsimp only); exact InM.out) (fun _ _ => trivial))
 replace hS := it_b h37 hS
 refine VC.cutJ (S := Bool) (fun (x50_12 : Bool) => x50_12) (fun (x50_12 : Bool) => [(4, str an_4), (5, str bn_5), (6, ptr b6_1 0), (8, ptr b8_2 0), (9, ptr b9_3 0), (12, ptr b12_4 0), (14, ptr b14_5 0), (50, .bool x50_12)]) (fun (x50_12 : Bool) => Mo.tt) (fun (x50_12 : Bool) => Ow.star (Blk b14_5 [str o_2.path, i64 c1_6, str o_2.data] 133) (Ow.star (Blk b12_4 [str [], i64 0, str []] 133) (Ow.star (Blk b9_3 [str t_3.path, i64 t_3.mode, str t_3.data] 133) (Ow.star (Blk b8_2 [str o_2.path, i64 o_2.mode, str o_2.data] 133) (Ow.star (Blk b6_1 [str b_0.path, i64 b_0.mode, str b_0.data] 133) (Ow.emp)))))) hS ?_ ?_
 ·
  clear hS
  intro k13 hS
  refine Zr ?_
  refine Zm ?_
  refine Zm ?_
  refine VL.split 52 rfl (fun h52 => ?_) (fun h52 => ?_)
  ·
   replace hS := it_t h52 hS
   refine VL.gy rfl rfl (q_field gfa133_2 rfl) (by decide) ?_
   refine VL.gy rfl rfl (q_fe gone9 rfl rfl) (by decide) ?_
   refine VL.gy rfl rfl (q_field gfa133_2 rfl) (by decide) ?_
   refine VL.gy rfl rfl (q_fe gone9 rfl rfl) (by decide) ?_
   refine VL.gy rfl rfl (q_seq rfl rfl) (by decide) ?_
   refine Zt ?_
   refine Za ?_
   refine VL.mt (decide (t_3.data = b_0.data)) [4, 5, 6, 8, 9, 12, 14, 50] (fun _ _ h => h) hS rfl
  replace hS := it_b h52 hS
  refine Zn ?_
  refine Zn ?_
  refine Zn ?_
  refine Zn ?_
  refine Zn ?_
  refine Zf ?_
  refine Za ?_
  refine VL.mt false [4, 5, 6, 8, 9, 12, 14, 50] (fun _ _ h => h) hS rfl
 clear hS
 rintro x50_12 hS
 show VC _ _ _ _ _ [(4, str an_4), (5, str bn_5), (6, ptr b6_1 0), (8, ptr b8_2 0), (9, ptr b9_3 0), (12, ptr b12_4 0), (14, ptr b14_5 0), (50, .bool x50_12)] (Mo.and Mo.tt _) (Ow.star (Blk b14_5 [str o_2.path, i64 c1_6, str o_2.data] 133) (Ow.star (Blk b12_4 [str [], i64 0, str []] 133) (Ow.star (Blk b9_3 [str t_3.path, i64 t_3.mode, str t_3.data] 133) (Ow.star (Blk b8_2 [str o_2.path, i64 o_2.mode, str o_2.data] 133) (Ow.star (Blk b6_1 [str b_0.path, i64 b_0.mode, str b_0.data] 133) (Ow.emp))))))
 refine VC.cond rfl (fun h50 => ?_) (fun h50 => ?_)
 ·
  replace hS := it_t h50 hS
  refine Zq (Zr ?_)
  refine VL.q (q_fes gagg133 rfl rfl) (by decide) ?_
  refine VL.store (vc := [str o_2.path, i64 c1_6, str o_2.data]) (cs' := [str o_2.path, i64 c1_6, str o_2.data]) rfl rfl rfl gsz133 rfl rfl (Nat.le_of_ble_eq_true rfl) rfl ?_
  refine Za ?_
  refine Zl ?_
  cases hS
  exact VC.ret (finG (vs := [.agg #[str o_2.path, i64 c1_6, str o_2.data], .bool false]) (.inr rfl) rfl (RVs.cell gagg133 rfl rfl Rd.blk (RVs.tmp rfl (RVs.nil))) () rfl trivial (by (try dsimp only); exact InM.out) (fun _ _ => trivial))
 replace hS := it_b h50 hS
 refine Zk ?_
 refine Zq (Zr ?_)
 refine VL.q (q_field gfa133_2 rfl) (by decide) ?_
 refine VL.q (q_fe gone9 rfl rfl) (by decide) ?_
 refine VL.q (q_field gfa133_2 rfl) (by decide) ?_
 refine VL.q (q_fe gone9 rfl rfl) (by decide) ?_
 refine VL.q (q_field gfa133_2 rfl) (by decide) ?_
 refine VL.q (q_fe gone9 rfl rfl) (by decide) ?_
 refine Zm ?_
 refine Zm ?_
 obtain ⟨y69_14, ey69_14, hS⟩ := bd_s hS
 refine VL.callF (rectoref11_Text_ct b_0.data o_2.data t_3.data an_4 bn_5 ey69_14) rfl (by decide) ?_
 rintro ⟨q69_14_0, q69_14_1, q69_14_2⟩ rfl
 try dsimp only
 refine Zm ?_
 refine VL.q (q_extract rfl rfl) (by decide) ?_
 refine VL.q (q_extract rfl rfl) (by decide) ?_
 refine VL.q (q_extract rfl rfl) (by decide) ?_
 refine VL.alloc (cs := [.slice none 0 0, i64 0]) (by kernel_rfl) (by decide) fun b17_15 => ?_
 refine Za ?_
 refine Za ?_
 refine VL.store (vc := [q69_14_2.parts.val, i64 q69_14_2.err]) (cs' := [q69_14_2.parts.val, i64 q69_14_2.err]) rfl rfl rfl gsz77 rfl rfl (Nat.le_of_ble_eq_true rfl) rfl ?_
 refine Zl ?_
 refine VC.keep [12, 14, 17, 15, 16] rfl ?_
 refine Zq ?_
 refine VC.cutJ (S := Bool) (fun (x80_16 : Bool) => x80_16) (fun (x80_16 : Bool) => [(12, ptr b12_4 0), (14, ptr b14_5 0), (15, str q69_14_0), (16, i64 q69_14_1), (80, .bool x80_16)]) (fun (x80_16 : Bool) => Mo.tt) (fun (x80_16 : Bool) => Ow.star (Blk b17_15 [q69_14_2.parts.val, i64 q69_14_2.err] 77) (Ow.star (Blk b14_5 [str o_2.path, i64 c1_6, str o_2.data] 133) (Ow.star (Blk b12_4 [str [], i64 0, str []] 133) (Ow.star (Blk b9_3 [str t_3.path, i64 t_3.mode, str t_3.data] 133) (Ow.star (Blk b8_2 [str o_2.path, i64 o_2.mode, str o_2.data] 133) (Ow.star (Blk b6_1 [str b_0.path, i64 b_0.mode, str b_0.data] 133) (Ow.emp))))))) hS ?_ ?_
 ·
  clear hS
  intro k17 hS
  refine Zr ?_
  refine VL.q (q_field gfa77_1 rfl) (by decide) ?_
  refine VL.q (q_fe gone3 rfl rfl) (by decide) ?_
  refine VL.q (q_neq rfl rfl) (by decide) ?_
  refine Zm ?_
  refine VL.split_ndec 76 rfl (fun h76 => ?_) (fun h76 => ?_)
  ·
   replace hS := it_f h76 hS
   refine Zn ?_
   refine Zn ?_
   refine Zn ?_
   refine Zt ?_
   refine VL.mt true [12, 14, 15, 16, 80] (fun _ _ h => h) hS rfl
  replace hS := it_t h76 hS
  refine Zg ?_
  refine VL.gy rfl rfl (q_slen Tryz.underlying9 rfl) (by decide) ?_
  refine VL.gy rfl rfl (q_gtr rfl rfl) (by decide) ?_
  refine Zf ?_
  refine VL.mt (decide (4096 < (q69_14_0.length : Int))) [12, 14, 15, 16, 80] (fun _ _ h => h) hS rfl
 clear hS
 rintro x80_16 hS
 show VC _ _ _ _ _ [(12, ptr b12_4 0), (14, ptr b14_5 0), (15, str q69_14_0), (16, i64 q69_14_1), (80, .bool x80_16)] (Mo.and Mo.tt _) (Ow.star (Blk b17_15 [q69_14_2.parts.val, i64 q69_14_2.err] 77) (Ow.star (Blk b14_5 [str o_2.path, i64 c1_6, str o_2.data] 133) (Ow.star (Blk b12_4 [str [], i64 0, str []] 133) (Ow.star (Blk b9_3 [str t_3.path, i64 t_3.mode, str t_3.data] 133) (Ow.star (Blk b8_2 [str o_2.path, i64 o_2.mode, str o_2.data] 133) (Ow.star (Blk b6_1 [str b_0.path, i64 b_0.mode, str b_0.data] 133) (Ow.emp)))))))
 refine VC.cond rfl (fun h80 => ?_) (fun h80 => ?_)
 ·
  replace hS := it_t h80 hS
  refine Zq (Zr ?_)
  refine VL.q (q_fes gagg133 rfl rfl) (by decide) ?_
  refine VL.store (vc := [str o_2.path, i64 c1_6, str o_2.data]) (cs' := [str o_2.path, i64 c1_6, str o_2.data]) rfl rfl rfl gsz133 rfl rfl (Nat.le_of_ble_eq_true rfl) rfl ?_
  refine Za ?_
  refine Zl ?_
  cases hS
  exact VC.ret (finG (vs := [.agg #[str o_2.path, i64 c1_6, str o_2.data], .bool true]) (.inr rfl) rfl (RVs.cell gagg133 rfl rfl Rd.blk (RVs.tmp rfl (RVs.nil))) () rfl trivial (by (try dsimp only); exact InM.out) (fun _ _ => trivial))
 replace hS := it_b h80 hS
 refine Zk ?_
 refine Zq (Zr ?_)
 refine Zm ?_
 refine VL.q (q_field gfa133_2 rfl) (by decide) ?_
 refine VL.store (vc := [str q69_14_0]) (cs' := [str o_2.path, i64 c1_6, str q69_14_0]) rfl rfl rfl gsz9 rfl rfl (Nat.le_of_ble_eq_true rfl) rfl ?_
 refine Zl ?_
 refine Zq (Zr ?_)
 refine VL.q (q_fes gagg133 rfl rfl) (by decide) ?_
 refine Zm ?_
 refine VL.q (q_gtr rfl rfl) (by decide) ?_
 refine VL.store (vc := [str o_2.path, i64 c1_6, str q69_14_0]) (cs' := [str o_2.path, i64 c1_6, str q69_14_0]) rfl rfl rfl gsz133 rfl rfl (Nat.le_of_ble_eq_true rfl) rfl ?_
 refine Za ?_
 refine Zl ?_
 refine VC.keep [12, 13] rfl ?_
 cases hS
 exact VC.ret (finG (vs := [.agg #[str o_2.path, i64 c1_6, str q69_14_0], .bool (decide (0 < q69_14_1))]) (.inr rfl) rfl (RVs.cell gagg133 rfl rfl Rd.blk (RVs.tmp rfl (RVs.nil))) () rfl trivial (by (try dsimp only); exact InM.out) (fun _ _ => trivial))
theorem rectoref14_One_ct (p_0 : Str) (base_1 : Sv Rectoref14File) (ours_2 : Sv Rectoref14File) (theirs_3 : Sv Rectoref14File) (a_4 : Str) (b_5 : Str) {r : Rectoref14File × Bool × Bool} (hS : Sh.rectoref14_One p_0 base_1.l ours_2.l theirs_3.l a_4 b_5 = some r) :
 Ct Tryz.prog 101 [str p_0, base_1.val, ours_2.val, theirs_3.val, str a_4, str b_5] (base_1.ok.and (ours_2.ok.and theirs_3.ok)) (Ow.emp) (X := Unit) (fun _ => .tuple #[.agg #[str r.1.path, i64 r.1.mode, str r.1.data], .bool r.2.1, .bool r.2.2]) (fun _ => True) (fun _ => Mo.tt) (fun _ => Ow.emp) := by
 refine Ct.of Tryz.func101 rfl (by kernel_rfl) Tryz.ntmps101 (by simp) fun c => ?_
 unfold Sh.rectoref14_One at hS
 refine Zq (Zr ?_)
 refine VL.alloc (cs := [str [], i64 0, str []]) (by kernel_rfl) (by decide) fun b12_1 => ?_
 refine Za ?_
 refine Za ?_
 refine Zl ?_
 refine Zq (Zr ?_)
 refine Zm ?_
 refine Zm ?_
 obtain ⟨y26_2, ey26_2, hS⟩ := bd_s hS
 refine VL.q (q_call (rectoref14_Get_ct base_1 p_0 ey26_2) rfl (fun _ _ => rfl)) (by decide) ?_
 refine Zm ?_
 refine VL.q (q_extract rfl rfl) (by decide) ?_
 refine VL.q (q_extract rfl rfl) (by decide) ?_
 refine VL.alloc (cs := [str [], i64 0, str []]) (by kernel_rfl) (by decide) fun b15_3 => ?_
 refine VL.store (vc := [str y26_2.1.path, i64 y26_2.1.mode, str y26_2.1.data]) (cs' := [str y26_2.1.path, i64 y26_2.1.mode, str y26_2.1.data]) rfl rfl rfl gsz133 rfl rfl (Nat.le_of_ble_eq_true rfl) rfl ?_
 refine Za ?_
 refine Zl ?_
 refine VC.keep [0, 1, 2, 3, 4, 5, 12, 15, 16] rfl ?_
 refine Zq (Zr ?_)
 refine Zm ?_
 refine Zm ?_
 obtain ⟨y32_4, ey32_4, hS⟩ := bd_s hS
 refine VL.q (q_call (rectoref14_Get_ct ours_2 p_0 ey32_4) rfl (fun _ _ => rfl)) (by decide) ?_
 refine Zm ?_
 refine VL.q (q_extract rfl rfl) (by decide) ?_
 refine VL.q (q_extract rfl rfl) (by decide) ?_
 refine VL.alloc (cs := [str [], i64 0, str []]) (by kernel_rfl) (by decide) fun b17_5 => ?_
 refine VL.store (vc := [str y32_4.1.path, i64 y32_4.1.mode, str y32_4.1.data]) (cs' := [str y32_4.1.path, i64 y32_4.1.mode, str y32_4.1.data]) rfl rfl rfl gsz133 rfl rfl (Nat.le_of_ble_eq_true rfl) rfl ?_
 refine Za ?_
 refine Zl ?_
 refine Zq (Zr ?_)
 refine Zm ?_
 refine Zm ?_
 obtain ⟨y38_6, ey38_6, hS⟩ := bd_s hS
 refine VL.q (q_call (rectoref14_Get_ct theirs_3 p_0 ey38_6) rfl (fun _ _ => rfl)) (by decide) ?_
 refine Zm ?_
 refine VL.q (q_extract rfl rfl) (by decide) ?_
 refine VL.q (q_extract rfl rfl) (by decide) ?_
 refine VL.alloc (cs := [str [], i64 0, str []]) (by kernel_rfl) (by decide) fun b19_7 => ?_
 refine VL.store (vc := [str y38_6.1.path, i64 y38_6.1.mode, str y38_6.1.data]) (cs' := [str y38_6.1.path, i64 y38_6.1.mode, str y38_6.1.data]) rfl rfl rfl gsz133 rfl rfl (Nat.le_of_ble_eq_true rfl) rfl ?_
 refine Za ?_
 refine Zl ?_
 refine VC.keep [0, 1, 2, 3, 4, 5, 12, 15, 16, 17, 18, 19, 20] rfl ?_
 refine Zq (Zb ?_)
 refine VC.cutJ (S := Bool) (fun (x41_8 : Bool) => x41_8) (fun (x41_8 : Bool) => [(0, str p_0), (1, base_1.val), (2, ours_2.val), (4, str a_4), (5, str b_5), (12, ptr b12_1 0), (15, ptr b15_3 0), (16, .bool y26_2.2), (17, ptr b17_5 0), (18, .bool y32_4.2), (19, ptr b19_7 0), (20, .bool y38_6.2), (41, .bool x41_8)]) (fun (x41_8 : Bool) => Mo.tt) (fun (x41_8 : Bool) => Ow.star (Blk b19_7 [str y38_6.1.path, i64 y38_6.1.mode, str y38_6.1.data] 133) (Ow.star (Blk b17_5 [str y32_4.1.path, i64 y32_4.1.mode, str y32_4.1.data] 133) (Ow.star (Blk b15_3 [str y26_2.1.path, i64 y26_2.1.mode, str y26_2.1.data] 133) (Ow.star (Blk b12_1 [str [], i64 0, str []] 133) (Ow.emp))))) hS ?_ ?_
 ·
  clear hS
  intro k9 hS
  refine Zr ?_
  refine Zm ?_
  refine Zm ?_
  refine Zm ?_
  obtain ⟨y45_10, ey45_10, hS⟩ := bd_s hS
  refine VL.q (q_call (rectoref14_Like_ct ours_2 theirs_3 p_0 ey45_10) rfl (fun _ _ => rfl)) (by decide) ?_
  refine Zm ?_
  refine VL.split 46 rfl (fun h46 => ?_) (fun h46 => ?_)
  ·
   replace hS := it_t h46 hS
   refine Zn ?_
   refine Zn ?_
   refine Zn ?_
   refine Zn ?_
   refine Zt ?_
   refine Za ?_
   refine VL.mt true [0, 1, 2, 4, 5, 12, 15, 16, 17, 18, 19, 20, 41] (fun _ _ h => h) hS rfl
  replace hS := it_b h46 hS
  refine Zg ?_
  refine Zg ?_
  refine Zg ?_
  obtain ⟨y50_11, ey50_11, hS⟩ := bd_s hS
  refine VL.gy rfl rfl (q_call (rectoref14_Like_ct base_1 theirs_3 p_0 ey50_11) rfl (fun _ _ => rfl)) (by decide) ?_
  refine Zf ?_
  refine Za ?_
  refine VL.mt y50_11 [0, 1, 2, 4, 5, 12, 15, 16, 17, 18, 19, 20, 41] (fun _ _ h => h) hS rfl
 clear hS
 rintro x41_8 hS
 show VC _ _ _ _ _ [(0, str p_0), (1, base_1.val), (2, ours_2.val), (4, str a_4), (5, str b_5), (12, ptr b12_1 0), (15, ptr b15_3 0), (16, .bool y26_2.2), (17, ptr b17_5 0), (18, .bool y32_4.2), (19, ptr b19_7 0), (20, .bool y38_6.2), (41, .bool x41_8)] (Mo.and Mo.tt _) (Ow.star (Blk b19_7 [str y38_6.1.path, i64 y38_6.1.mode, str y38_6.1.data] 133) (Ow.star (Blk b17_5 [str y32_4.1.path, i64 y32_4.1.mode, str y32_4.1.data] 133) (Ow.star (Blk b15_3 [str y26_2.1.path, i64 y26_2.1.mode, str y26_2.1.data] 133) (Ow.star (Blk b12_1 [str [], i64 0, str []] 133) (Ow.emp)))))
 refine VC.cond rfl (fun h41 => ?_) (fun h41 => ?_)
 ·
  replace hS := it_t h41 hS
  refine Zq (Zr ?_)
  refine VL.q (q_fes gagg133 rfl rfl) (by decide) ?_
  refine Zm ?_
  refine VL.store (vc := [str y32_4.1.path, i64 y32_4.1.mode, str y32_4.1.data]) (cs' := [str y32_4.1.path, i64 y32_4.1.mode, str y32_4.1.data]) rfl rfl rfl gsz133 rfl rfl (Nat.le_of_ble_eq_true rfl) rfl ?_
  refine Za ?_
  refine Za ?_
  refine Zl ?_
  refine VC.keep [12, 13, 14] rfl ?_
  cases hS
  exact VC.ret (finG (vs := [.agg #[str y32_4.1.path, i64 y32_4.1.mode, str y32_4.1.data], .bool y32_4.2, .bool false]) (.inr rfl) rfl (RVs.cell gagg133 rfl rfl Rd.blk (RVs.tmp rfl (RVs.tmp rfl (RVs.nil)))) () rfl trivial (by (try dsimp only); exact InM.out) (fun _ _ => trivial))
 replace hS := it_b h41 hS
 refine Zq (Zr ?_)
 refine Zm ?_
 refine Zm ?_
 refine Zm ?_
 obtain ⟨y58_12, ey58_12, hS⟩ := bd_s hS
 refine VL.q (q_call (rectoref14_Like_ct base_1 ours_2 p_0 ey58_12) rfl (fun _ _ => rfl)) (by decide) ?_
 refine Za ?_
 refine Zl ?_
 refine VC.keep [4, 5, 12, 15, 16, 17, 18, 19, 20, 54] rfl ?_
 refine VC.cond rfl (fun h54 => ?_) (fun h54 => ?_)
 ·
  replace hS := it_t h54 hS
  refine Zq (Zr ?_)
  refine VL.q (q_fes gagg133 rfl rfl) (by decide) ?_
  refine Zm ?_
  refine VL.store (vc := [str y38_6.1.path, i64 y38_6.1.mode, str y38_6.1.data]) (cs' := [str y38_6.1.path, i64 y38_6.1.mode, str y38_6.1.data]) rfl rfl rfl gsz133 rfl rfl (Nat.le_of_ble_eq_true rfl) rfl ?_
  refine Za ?_
  refine Za ?_
  refine Zl ?_
  refine VC.keep [12, 13, 14] rfl ?_
  cases hS
  exact VC.ret (finG (vs := [.agg #[str y38_6.1.path, i64 y38_6.1.mode, str y38_6.1.data], .bool y38_6.2, .bool false]) (.inr rfl) rfl (RVs.cell gagg133 rfl rfl Rd.blk (RVs.tmp rfl (RVs.tmp rfl (RVs.nil)))) () rfl trivial (by (try dsimp only); exact InM.out) (fun _ _ => trivial))
 replace hS := it_b h54 hS
 refine VC.cutJ (S := Bool) (fun (x61_13 : Bool) => x61_13) (fun (x61_13 : Bool) => [(4, str a_4), (5, str b_5), (12, ptr b12_1 0), (15, ptr b15_3 0), (16, .bool y26_2.2), (17, ptr b17_5 0), (18, .bool y32_4.2), (19, ptr b19_7 0), (20, .bool y38_6.2), (61, .bool x61_13)]) (fun (x61_13 : Bool) => Mo.tt) (fun (x61_13 : Bool) => Ow.star (Blk b19_7 [str y38_6.1.path, i64 y38_6.1.mode, str y38_6.1.data] 133) (Ow.star (Blk b17_5 [str y32_4.1.path, i64 y32_4.1.mode, str y32_4.1.data] 133) (Ow.star (Blk b15_3 [str y26_2.1.path, i64 y26_2.1.mode, str y26_2.1.data] 133) (Ow.star (Blk b12_1 [str [], i64 0, str []] 133) (Ow.emp))))) hS ?_ ?_
 ·
  clear hS
  intro k14 hS
  refine Zr ?_
  refine Zm ?_
  refine Zm ?_
  refine VL.split 63 rfl (fun h63 => ?_) (fun h63 => ?_)
  ·
   replace hS := it_t h63 hS
   refine Zg ?_
   refine Zt ?_
   refine Za ?_
   refine VL.mt y38_6.2 [4, 5, 12, 15, 16, 17, 18, 19, 20, 61] (fun _ _ h => h) hS rfl
  replace hS := it_b h63 hS
  refine Zn ?_
  refine Zf ?_
  refine Za ?_
  refine VL.mt false [4, 5, 12, 15, 16, 17, 18, 19, 20, 61] (fun _ _ h => h) hS rfl
 clear hS
 rintro x61_13 hS
 show VC _ _ _ _ _ [(4, str a_4), (5, str b_5), (12, ptr b12_1 0), (15, ptr b15_3 0), (16, .bool y26_2.2), (17, ptr b17_5 0), (18, .bool y32_4.2), (19, ptr b19_7 0), (20, .bool y38_6.2), (61, .bool x61_13)] (Mo.and Mo.tt _) (Ow.star (Blk b19_7 [str y38_6.1.path, i64 y38_6.1.mode, str y38_6.1.data] 133) (Ow.star (Blk b17_5 [str y32_4.1.path, i64 y32_4.1.mode, str y32_4.1.data] 133) (Ow.star (Blk b15_3 [str y26_2.1.path, i64 y26_2.1.mode, str y26_2.1.data] 133) (Ow.star (Blk b12_1 [str [], i64 0, str []] 133) (Ow.emp)))))
 refine VC.cond rfl (fun h61 => ?_) (fun h61 => ?_)
 ·
  replace hS := it_t h61 hS
  refine Zq (Zr ?_)
  refine VL.q (q_fes gagg133 rfl rfl) (by decide) ?_
  refine Zm ?_
  refine VL.q (q_fes gagg133 rfl rfl) (by decide) ?_
  refine VL.q (q_fes gagg133 rfl rfl) (by decide) ?_
  refine Zm ?_
  refine Zm ?_
  obtain ⟨y73_15, ey73_15, hS⟩ := bd_s hS
  refine VL.q (q_call (rectoref14_both_ct (⟨y26_2.1.path, y26_2.1.mode, y26_2.1.data⟩ : Rectoref14File) y26_2.2 (⟨y32_4.1.path, y32_4.1.mode, y32_4.1.data⟩ : Rectoref14File) (⟨y38_6.1.path, y38_6.1.mode, y38_6.1.data⟩ : Rectoref14File) a_4 b_5 ey73_15) rfl (fun _ _ => rfl)) (by decide) ?_
  refine Zm ?_
  refine VL.q (q_extract rfl rfl) (by decide) ?_
  refine VL.q (q_extract rfl rfl) (by decide) ?_
  refine VL.alloc (cs := [str [], i64 0, str []]) (by kernel_rfl) (by decide) fun b21_16 => ?_
  refine VL.store (vc := [str y73_15.1.path, i64 y73_15.1.mode, str y73_15.1.data]) (cs' := [str y73_15.1.path, i64 y73_15.1.mode, str y73_15.1.data]) rfl rfl rfl gsz133 rfl rfl (Nat.le_of_ble_eq_true rfl) rfl ?_
  refine Za ?_
  refine Zl ?_
  refine VC.keep [12, 21, 22] rfl ?_
  refine Zq (Zr ?_)
  refine VL.q (q_fes gagg133 rfl rfl) (by decide) ?_
  refine Zm ?_
  refine VL.store (vc := [str y73_15.1.path, i64 y73_15.1.mode, str y73_15.1.data]) (cs' := [str y73_15.1.path, i64 y73_15.1.mode, str y73_15.1.data]) rfl rfl rfl gsz133 rfl rfl (Nat.le_of_ble_eq_true rfl) rfl ?_
  refine Za ?_
  refine Za ?_
  refine Zl ?_
  cases hS
  exact VC.ret (finG (vs := [.agg #[str y73_15.1.path, i64 y73_15.1.mode, str y73_15.1.data], .bool true, .bool y73_15.2]) (.inr rfl) rfl (RVs.cell gagg133 rfl rfl Rd.blk (RVs.tmp rfl (RVs.tmp rfl (RVs.nil)))) () rfl trivial (by (try dsimp only); exact InM.out) (fun _ _ => trivial))
 replace hS := it_b h61 hS
 refine Zq (Zr ?_)
 refine Zm ?_
 refine Za ?_
 refine Zl ?_
 refine VC.keep [12, 17, 19, 20, 78] rfl ?_
 refine VC.cond rfl (fun h78 => ?_) (fun h78 => ?_)
 ·
  replace hS := it_t h78 hS
  refine Zq (Zr ?_)
  refine VL.q (q_fes gagg133 rfl rfl) (by decide) ?_
  refine VL.store (vc := [str y32_4.1.path, i64 y32_4.1.mode, str y32_4.1.data]) (cs' := [str y32_4.1.path, i64 y32_4.1.mode, str y32_4.1.data]) rfl rfl rfl gsz133 rfl rfl (Nat.le_of_ble_eq_true rfl) rfl ?_
  refine Za ?_
  refine Za ?_
  refine Zl ?_
  cases hS
  exact VC.ret (finG (vs := [.agg #[str y32_4.1.path, i64 y32_4.1.mode, str y32_4.1.data], .bool true, .bool true]) (.inr rfl) rfl (RVs.cell gagg133 rfl rfl Rd.blk (RVs.tmp rfl (RVs.tmp rfl (RVs.nil)))) () rfl trivial (by (try dsimp only); exact InM.out) (fun _ _ => trivial))
 replace hS := it_b h78 hS
 refine Zk ?_
 refine Zq (Zr ?_)
 refine VL.q (q_fes gagg133 rfl rfl) (by decide) ?_
 refine Zm ?_
 refine VL.store (vc := [str y38_6.1.path, i64 y38_6.1.mode, str y38_6.1.data]) (cs' := [str y38_6.1.path, i64 y38_6.1.mode, str y38_6.1.data]) rfl rfl rfl gsz133 rfl rfl (Nat.le_of_ble_eq_true rfl) rfl ?_
 refine Za ?_
 refine Za ?_
 refine Zl ?_
 cases hS
 exact VC.ret (finG (vs := [.agg #[str y38_6.1.path, i64 y38_6.1.mode, str y38_6.1.data], .bool y38_6.2, .bool true]) (.inr rfl) rfl (RVs.cell gagg133 rfl rfl Rd.blk (RVs.tmp rfl (RVs.tmp rfl (RVs.nil)))) () rfl trivial (by (try dsimp only); exact InM.out) (fun _ _ => trivial))
theorem rectoref14_Merge_ct (base_0 : Sv Rectoref14File) (ours_1 : Sv Rectoref14File) (theirs_2 : Sv Rectoref14File) (a_3 : Str) (b_4 : Str) {r : Rectoref14ResultP × Rectoref3WrongP} (hS : Sh.rectoref14_Merge base_0.l ours_1.l theirs_2.l a_3 b_4 = some r) :
 Ct Tryz.prog 36 [base_0.val, ours_1.val, theirs_2.val, str a_3, str b_4] (base_0.ok.and (ours_1.ok.and theirs_2.ok)) (Ow.emp) (X := Rectoref14Result × Rectoref3Wrong) (fun x => .tuple #[.agg (Dat.enc x.1).toArray, .agg (Dat.enc x.2).toArray]) (fun x => r = (x.1.pl, x.2.pl)) (fun x => (x.1.m.and x.2.m)) (fun x => Ow.emp) := by
 refine Ct.of Tryz.func36 rfl (by kernel_rfl) Tryz.ntmps36 (by simp) fun c => ?_
 unfold Sh.rectoref14_Merge at hS
 refine Zq (Zr ?_)
 refine VL.alloc (cs := [.slice none 0 0, .slice none 0 0, .slice none 0 0]) (by kernel_rfl) (by decide) fun b10_1 => ?_
 refine VL.alloc (cs := [.slice none 0 0, i64 0]) (by kernel_rfl) (by decide) fun b11_2 => ?_
 refine Zl ?_
 refine Zq (Zr ?_)
 refine Zm ?_
 refine Zm ?_
 refine Zm ?_
 refine VL.lit (α := Sv Rectoref14File) (xs := [.tmp 26, .tmp 27, .tmp 28]) (vs := [base_0.val, ours_1.val, theirs_2.val]) [base_0, ours_1, theirs_2] Tryz.underlying70 glit45 (by decide) rfl rfl rfl rfl (by decide) (fun h m => List.forall_mem_cons.2 ⟨InM.out (X := base_0.ok) h m, List.forall_mem_cons.2 ⟨InM.out (X := ours_1.ok) h m, List.forall_mem_cons.2 ⟨InM.out (X := theirs_2.ok) h m, fun _ h => by cases h⟩⟩⟩) (by decide) (fun s29_3 hs29_3 => ?_) (by decide)
 replace hS := lt_to (congrArg (List.map Sv.l) hs29_3) hS
 refine Za ?_
 refine Zl ?_
 refine Zq (Zq (Zr ?_))
 refine Za ?_
 refine Zl ?_
 refine Zb ?_
 refine VC.iter (S := Int) (fun (i13_5 : Int) => i13_5) (fun (i13_5 : Int) => [(0, base_0.val), (1, ours_1.val), (2, theirs_2.val), (3, str a_3), (4, str b_4), (10, ptr b10_1 0), (11, ptr b11_2 0), (12, s29_3.val), (13, i64 i13_5)]) (fun (i13_5 : Int) => Mo.tt) (fun (i13_5 : Int) => Ow.star (Blk b11_2 [.slice none 0 0, i64 0] 77) (Ow.star (Blk b10_1 [.slice none 0 0, .slice none 0 0, .slice none 0 0] 74) (Ow.emp))) 0 [0, 1, 2, 3, 4, 10, 11, 12, 13] hS rfl ?_
 clear hS
 rintro i13_5 m1 y1 hS hK1
 show VC _ _ _ _ _ [(0, base_0.val), (1, ours_1.val), (2, theirs_2.val), (3, str a_3), (4, str b_4), (10, ptr b10_1 0), (11, ptr b11_2 0), (12, s29_3.val), (13, i64 i13_5)] (Mo.and Mo.tt _) (Ow.star (Blk b11_2 [.slice none 0 0, i64 0] 77) (Ow.star (Blk b10_1 [.slice none 0 0, .slice none 0 0, .slice none 0 0] 74) (Ow.emp)))
 refine Zq (Zq (Zr ?_))
 refine Zm ?_
 refine VL.q (q_lss rfl rfl) (by decide) ?_
 refine Zl ?_
 refine VC.cond_dec rfl (fun h31 => ?_) (fun h31 => ?_)
 ·
  replace hS := it_t h31 hS
  refine Zk ?_
  refine Zq (Zb (Zq (Zr ?_)))
  refine Zm ?_
  refine Zm ?_
  obtain ⟨z36_6, nz36_6, hz36_6, hS⟩ := atm_s hS
  refine VL.deep z36_6.ok hz36_6 (fun _ q => q) ?_
  refine VL.q (q_ixm (s := s29_3) Tryz.underlying70 gsz45 rfl rfl nz36_6 (lt_of_get nz36_6 hz36_6)) (by decide) ?_
  refine VL.q (q_el (s := s29_3) gone45 rfl hz36_6 rfl) (by decide) ?_
  obtain ⟨y38_7, ey38_7, hS⟩ := bd_s hS
  refine VL.callF (rectoref14_Check_ct z36_6 ey38_7) rfl (by decide) ?_
  rintro q38_7_0 rfl
  try dsimp only
  refine VL.alloc (cs := [.slice none 0 0, i64 0]) (by kernel_rfl) (by decide) fun b14_8 => ?_
  refine VL.store (vc := [q38_7_0.parts.val, i64 q38_7_0.err]) (cs' := [q38_7_0.parts.val, i64 q38_7_0.err]) rfl rfl rfl gsz77 rfl rfl (Nat.le_of_ble_eq_true rfl) rfl ?_
  refine Zl ?_
  refine VC.keep [0, 1, 2, 3, 4, 10, 11, 12, 13, 14] rfl ?_
  refine Zq (Zr ?_)
  refine VL.q (q_field gfa77_1 rfl) (by decide) ?_
  refine VL.q (q_fe gone3 rfl rfl) (by decide) ?_
  refine VL.q (q_neq rfl rfl) (by decide) ?_
  refine Zl ?_
  refine VC.cond_ndec rfl (fun h41 => ?_) (fun h41 => ?_)
  ·
   replace hS := it_f h41 hS
   refine Zq ?_
   refine VC.draw [(0, true), (1, true), (2, false), (3, false)] mixed (by kernel_rfl) (by kernel_rfl) (by kernel_rfl) ?_
   refine VD.q rfl (q_build (vs := []) (cs := #[.slice none 0 0, .slice none 0 0, .slice none 0 0]) rfl (by kernel_rfl)) (by decide) ?_
   refine VD.q rfl (q_fes gagg77 rfl rfl) (by decide) ?_
   refine VD.one rfl ?_
   refine VL.store (vc := [.slice none 0 0, .slice none 0 0, .slice none 0 0]) (cs' := [.slice none 0 0, .slice none 0 0, .slice none 0 0]) rfl rfl rfl gsz74 rfl rfl (Nat.le_of_ble_eq_true rfl) rfl ?_
   refine VL.back (D' := [(1, .agg #[q38_7_0.parts.val, i64 q38_7_0.err])]) (by kernel_rfl) (Pend.cons rfl (q_fes gagg77 rfl rfl) (Pend.nil)) ?_
   refine VD.one rfl ?_
   refine VL.store (vc := [q38_7_0.parts.val, i64 q38_7_0.err]) (cs' := [q38_7_0.parts.val, i64 q38_7_0.err]) rfl rfl rfl gsz77 rfl rfl (Nat.le_of_ble_eq_true rfl) rfl ?_
   refine VL.back (D' := []) (by kernel_rfl) (Pend.nil) ?_
   refine VD.to (fun _ _ h => h) ?_
   refine VC.keep [10, 11] rfl ?_
   replace hS := up2 hS hK1
   cases hS
   exact VC.ret (finG (vs := [.agg #[.slice none 0 0, .slice none 0 0, .slice none 0 0], .agg #[q38_7_0.parts.val, i64 q38_7_0.err]]) (.inr rfl) rfl (RVs.cell gagg74 rfl rfl Rd.blk (RVs.cell gagg77 rfl rfl Rd.blk (RVs.nil))) (⟨⟨none, 0, []⟩, ⟨none, 0, []⟩, ⟨none, 0, []⟩⟩, ⟨q38_7_0.parts, q38_7_0.err⟩) rfl rfl (by (try dsimp only); exact InM.out) (fun _ _ => trivial))
  replace hS := it_t h41 hS
  refine Zk ?_
  refine Zr ?_
  refine Zm ?_
  obtain ⟨b33, hS⟩ := gd_s hS
  refine VL.q (q_add rfl rfl b33) (by decide) ?_
  refine Za ?_
  refine VL.rnd (i13_5 + 1) [0, 1, 2, 3, 4, 10, 11, 12, 13] (fun _ _ h => h) (go2 hS hK1) rfl
 replace hS := it_f h31 hS
 replace hS := up2 hS hK1
 refine Zx ?_
 refine Zq (Zr ?_)
 refine VL.q (q_build (vs := []) (cs := #[.slice none 0 0, .slice none 0 0, .slice none 0 0]) rfl (by kernel_rfl)) (by decide) ?_
 refine VL.alloc (cs := [.slice none 0 0, .slice none 0 0, .slice none 0 0]) (by kernel_rfl) (by decide) fun b15_9 => ?_
 refine VL.store (vc := [.slice none 0 0, .slice none 0 0, .slice none 0 0]) (cs' := [.slice none 0 0, .slice none 0 0, .slice none 0 0]) rfl rfl rfl gsz74 rfl rfl (Nat.le_of_ble_eq_true rfl) rfl ?_
 refine Zl ?_
 refine Zq (Zr ?_)
 refine Zm ?_
 obtain ⟨y46_10, ey46_10, hS⟩ := bd_s hS
 refine VL.callO (rectoref14_Paths_ct s29_3 ey46_10) rfl (by decide) ?_
 rintro q46_10_0 rfl
 try dsimp only
 refine Za ?_
 refine Zl ?_
 refine Zq (Zq (Zr ?_))
 refine Za ?_
 refine Zl ?_
 refine Zb ?_
 refine VC.nilO (⟨none, 0, []⟩ : Sv Rectoref14File) 133 ⟨rfl, rfl⟩ ?_
 refine VC.nilO (⟨none, 0, []⟩ : Sv Rectoref14Entry) 122 ⟨rfl, rfl⟩ ?_
 refine VC.nilO (⟨none, 0, []⟩ : Sv Str) 9 ⟨rfl, rfl⟩ ?_
 refine VC.reB b15_9 (cs' := [(⟨none, 0, []⟩ : Sv Rectoref14File).val, (⟨none, 0, []⟩ : Sv Rectoref14Entry).val, (⟨none, 0, []⟩ : Sv Str).val]) rfl ?_
 refine VC.iter (S := Int × Sv Rectoref14File × Sv Rectoref14Entry × Sv Str) (fun sg => (sg.1, sg.2.1.l, sg.2.2.1.l, sg.2.2.2.l)) (fun sg => [(0, base_0.val), (1, ours_1.val), (2, theirs_2.val), (3, str a_3), (4, str b_4), (10, ptr b10_1 0), (11, ptr b11_2 0), (12, s29_3.val), (15, ptr b15_9 0), (16, q46_10_0.val), (17, i64 sg.1)]) (fun sg => Mo.tt) (fun sg => Ow.star (Blk b15_9 [sg.2.1.val, sg.2.2.1.val, sg.2.2.2.val] 74) (Ow.star (Blk b11_2 [.slice none 0 0, i64 0] 77) (Ow.star (Blk b10_1 [.slice none 0 0, .slice none 0 0, .slice none 0 0] 74) (Ow.star (Sv.own q46_10_0 9) (Ow.star (Sv.own sg.2.1 133) (Ow.star (Sv.own sg.2.2.1 122) (Ow.star (Sv.own sg.2.2.2 9) (Ow.emp)))))))) (0, (⟨none, 0, []⟩ : Sv Rectoref14File), (⟨none, 0, []⟩ : Sv Rectoref14Entry), (⟨none, 0, []⟩ : Sv Str)) [0, 1, 2, 3, 4, 10, 11, 12, 15, 16, 17] hS rfl ?_
 clear hS
 rintro ⟨i17_11, c0_12, c1_13, c2_14⟩ m1 y1 hS hK1
 show VC _ _ _ _ _ [(0, base_0.val), (1, ours_1.val), (2, theirs_2.val), (3, str a_3), (4, str b_4), (10, ptr b10_1 0), (11, ptr b11_2 0), (12, s29_3.val), (15, ptr b15_9 0), (16, q46_10_0.val), (17, i64 i17_11)] (Mo.and Mo.tt _) (Ow.star (Blk b15_9 [c0_12.val, c1_13.val, c2_14.val] 74) (Ow.star (Blk b11_2 [.slice none 0 0, i64 0] 77) (Ow.star (Blk b10_1 [.slice none 0 0, .slice none 0 0, .slice none 0 0] 74) (Ow.star (Sv.own q46_10_0 9) (Ow.star (Sv.own c0_12 133) (Ow.star (Sv.own c1_13 122) (Ow.star (Sv.own c2_14 9) (Ow.emp))))))))
 refine Zq (Zq (Zr ?_))
 refine Zm ?_
 refine Zm ?_
 refine VL.q (q_ln (s := q46_10_0) Tryz.underlying32 rfl) (by decide) ?_
 refine VL.q (q_lss rfl rfl) (by decide) ?_
 refine Zl ?_
 refine VC.cond_dec rfl (fun h50 => ?_) (fun h50 => ?_)
 ·
  replace hS := it_t h50 hS
  refine Zk ?_
  refine VC.cutJ (S := Sv Rectoref14File × Sv Rectoref14Entry × Sv Str) (fun sg => (sg.1.l, sg.2.1.l, sg.2.2.l)) (fun sg => [(0, base_0.val), (1, ours_1.val), (2, theirs_2.val), (3, str a_3), (4, str b_4), (10, ptr b10_1 0), (11, ptr b11_2 0), (12, s29_3.val), (15, ptr b15_9 0), (16, q46_10_0.val), (17, i64 i17_11)]) (fun sg => Mo.tt) (fun sg => Ow.star (Blk b15_9 [sg.1.val, sg.2.1.val, sg.2.2.val] 74) (Ow.star (Blk b11_2 [.slice none 0 0, i64 0] 77) (Ow.star (Blk b10_1 [.slice none 0 0, .slice none 0 0, .slice none 0 0] 74) (Ow.star (Sv.own q46_10_0 9) (Ow.star (Sv.own sg.1 133) (Ow.star (Sv.own sg.2.1 122) (Ow.star (Sv.own sg.2.2 9) (Ow.emp)))))))) hS ?_ ?_
  ·
   clear hS
   intro k18 hS
   refine Zb (Zq (Zr ?_))
   refine Zm ?_
   refine Zm ?_
   obtain ⟨z56_19, nz56_19, hz56_19, hS⟩ := at_s hS
   refine VL.q (q_ixo (s := q46_10_0) Tryz.underlying32 gsz9 rfl rfl nz56_19 (lt_of_get nz56_19 hz56_19)) (by decide) ?_
   refine VL.q (q_elo (s := q46_10_0) 9 gone9 rfl hz56_19 rfl) (by decide) ?_
   refine Zm ?_
   refine Zm ?_
   refine Zm ?_
   refine Zm ?_
   refine Zm ?_
   obtain ⟨y63_20, ey63_20, hS⟩ := bd_s hS
   refine VL.q (q_call (rectoref14_One_ct z56_19 base_0 ours_1 theirs_2 a_3 b_4 ey63_20) rfl (fun _ _ => rfl)) (by decide) ?_
   refine Zm ?_
   refine VL.q (q_extract rfl rfl) (by decide) ?_
   refine VL.q (q_extract rfl rfl) (by decide) ?_
   refine VL.q (q_extract rfl rfl) (by decide) ?_
   refine VL.alloc (cs := [str [], i64 0, str []]) (by kernel_rfl) (by decide) fun b18_21 => ?_
   refine VL.store (vc := [str y63_20.1.path, i64 y63_20.1.mode, str y63_20.1.data]) (cs' := [str y63_20.1.path, i64 y63_20.1.mode, str y63_20.1.data]) rfl rfl rfl gsz133 rfl rfl (Nat.le_of_ble_eq_true rfl) rfl ?_
   refine Za ?_
   refine Za ?_
   refine Zl ?_
   refine VC.keep [0, 1, 2, 3, 4, 10, 11, 12, 15, 16, 17, 18, 19, 20] rfl ?_
   refine VC.cutJ (S := Sv Rectoref14File) (fun (c0_22 : Sv Rectoref14File) => c0_22.l) (fun (c0_22 : Sv Rectoref14File) => [(0, base_0.val), (1, ours_1.val), (2, theirs_2.val), (3, str a_3), (4, str b_4), (10, ptr b10_1 0), (11, ptr b11_2 0), (12, s29_3.val), (15, ptr b15_9 0), (16, q46_10_0.val), (17, i64 i17_11), (20, .bool y63_20.2.2)]) (fun (c0_22 : Sv Rectoref14File) => Mo.tt) (fun (c0_22 : Sv Rectoref14File) => Ow.star (Blk b18_21 [str y63_20.1.path, i64 y63_20.1.mode, str y63_20.1.data] 133) (Ow.star (Blk b15_9 [c0_22.val, c1_13.val, c2_14.val] 74) (Ow.star (Blk b11_2 [.slice none 0 0, i64 0] 77) (Ow.star (Blk b10_1 [.slice none 0 0, .slice none 0 0, .slice none 0 0] 74) (Ow.star (Sv.own q46_10_0 9) (Ow.star (Sv.own c1_13 122) (Ow.star (Sv.own c2_14 9) (Ow.star (Sv.own c0_22 133) (Ow.emp))))))))) hS ?_ ?_
   ·
    clear hS
    intro k23 hS
    refine Zq (Zr ?_)
    refine Zm ?_
    refine Zl ?_
    refine VC.cond rfl (fun h67 => ?_) (fun h67 => ?_)
    ·
     replace hS := it_t h67 hS
     refine Zr ?_
     refine VL.q (q_field gfa74_0 rfl) (by decide) ?_
     refine VL.q (q_fe gone45 rfl rfl) (by decide) ?_
     refine VL.q (q_fes gagg133 rfl rfl) (by decide) ?_
     refine VL.lit (α := Rectoref14File) (xs := [.tmp 70]) (vs := [.agg #[str y63_20.1.path, i64 y63_20.1.mode, str y63_20.1.data]]) [⟨y63_20.1.path, y63_20.1.mode, y63_20.1.data⟩] Tryz.underlying45 glit133 (by decide) rfl rfl rfl rfl (by decide) (fun _ _ _ _ => trivial) (by decide) (fun s71_24 hs71_24 => ?_) (by decide)
     replace hS := lt_to hs71_24 hS
     obtain ⟨b72, hS⟩ := gd_s hS
     refine VL.app (s := c0_12) (r := s71_24) Tryz.underlying45 gapp133 (by decide) rfl Fo.out (ap1 b72) (ap2 b72 (by decide)) (by decide) (fun s72_26 hs72_26 => ?_)
     replace hS := lt_to hs72_26 hS
     refine VL.q (q_field gfa74_0 rfl) (by decide) ?_
     refine VL.store (vc := [s72_26.val]) (cs' := [s72_26.val, c1_13.val, c2_14.val]) rfl rfl rfl gsz45 rfl rfl (Nat.le_of_ble_eq_true rfl) rfl ?_
     refine VL.mt s72_26 [0, 1, 2, 3, 4, 10, 11, 12, 15, 16, 17, 20] (fun _ _ h => h) hS rfl
    replace hS := it_b h67 hS
    refine VC.skip_mt c0_12 [0, 1, 2, 3, 4, 10, 11, 12, 15, 16, 17, 20] (fun _ _ h => h) hS rfl
   clear hS
   rintro c0_22 hS
   show VC _ _ _ _ _ [(0, base_0.val), (1, ours_1.val), (2, theirs_2.val), (3, str a_3), (4, str b_4), (10, ptr b10_1 0), (11, ptr b11_2 0), (12, s29_3.val), (15, ptr b15_9 0), (16, q46_10_0.val), (17, i64 i17_11), (20, .bool y63_20.2.2)] (Mo.and Mo.tt _) (Ow.star (Blk b18_21 [str y63_20.1.path, i64 y63_20.1.mode, str y63_20.1.data] 133) (Ow.star (Blk b15_9 [c0_22.val, c1_13.val, c2_14.val] 74) (Ow.star (Blk b11_2 [.slice none 0 0, i64 0] 77) (Ow.star (Blk b10_1 [.slice none 0 0, .slice none 0 0, .slice none 0 0] 74) (Ow.star (Sv.own q46_10_0 9) (Ow.star (Sv.own c1_13 122) (Ow.star (Sv.own c2_14 9) (Ow.star (Sv.own c0_22 133) (Ow.emp)))))))))
   refine Zq (Zq (Zr ?_))
   refine Zm ?_
   refine VL.q (q_not rfl) (by decide) ?_
   refine Zl ?_
   refine VC.cond rfl (fun h75 => ?_) (fun h75 => ?_)
   ·
    replace hS := it_t h75 hS
    refine VC.exit_mt (c0_22, c1_13, c2_14) [0, 1, 2, 3, 4, 10, 11, 12, 15, 16, 17] (fun _ _ h => h) hS rfl
   replace hS := it_b h75 hS
   refine Zk ?_
   refine Zq ?_
   refine VC.draw [(0, true), (1, true), (2, true), (3, true), (4, true), (5, true), (6, false), (7, false), (8, true), (9, false)] mixed (by kernel_rfl) (by kernel_rfl) (by kernel_rfl) ?_
   refine VD.q rfl (q_field gfa74_2 rfl) (by decide) ?_
   refine VD.q rfl (q_fe gone32 rfl rfl) (by decide) ?_
   refine VD.q rfl (q_move rfl) (by decide) ?_
   refine VD.q rfl (q_move rfl) (by decide) ?_
   obtain ⟨z80_28, nz80_28, hz80_28, hS⟩ := at_s hS
   refine VD.q rfl (q_ixo (s := q46_10_0) Tryz.underlying32 gsz9 rfl rfl nz80_28 (lt_of_get nz80_28 hz80_28)) (by decide) ?_
   refine VD.q rfl (q_elo (s := q46_10_0) 9 gone9 rfl hz80_28 rfl) (by decide) ?_
   refine VD.one rfl ?_
   refine VL.lit (α := Str) (xs := [.tmp 81]) (vs := [str z80_28]) [z80_28] Tryz.underlying32 glit9 (by decide) rfl rfl rfl rfl (by decide) (fun _ _ _ _ => trivial) (by decide) (fun s82_29 hs82_29 => ?_) (by decide)
   replace hS := lt_to hs82_29 hS
   refine VL.back (D' := [(1, c2_14.val), (0, ptr b15_9 2)]) (by kernel_rfl) (Pend.cons rfl (q_fe gone32 rfl rfl) (Pend.cons rfl (q_field gfa74_2 rfl) (Pend.nil))) ?_
   refine VD.one rfl ?_
   obtain ⟨b83, hS⟩ := gd_s hS
   refine VL.app (s := c2_14) (r := s82_29) Tryz.underlying32 gapp9 (by decide) rfl Fo.out (ap1 b83) (ap2 b83 (by decide)) (by decide) (fun s83_31 hs83_31 => ?_)
   replace hS := lt_to hs83_31 hS
   refine VL.back (D' := []) (by kernel_rfl) (Pend.nil) ?_
   refine VD.q rfl (q_field gfa74_2 rfl) (by decide) ?_
   refine VD.one rfl ?_
   refine VL.store (vc := [s83_31.val]) (cs' := [c0_22.val, c1_13.val, s83_31.val]) rfl rfl rfl gsz32 rfl rfl (Nat.le_of_ble_eq_true rfl) rfl ?_
   refine VL.back (D' := []) (by kernel_rfl) (Pend.nil) ?_
   refine VD.to (fun _ _ h => h) ?_
   refine VC.keep [0, 1, 2, 3, 4, 10, 11, 12, 15, 16, 17] rfl ?_
   refine Zq (Zr ?_)
   refine Za ?_
   refine Zl ?_
   refine Zb ?_
   refine VC.iter (S := Int × Sv Rectoref14Entry) (fun sg => (sg.1, sg.2.l)) (fun sg => [(0, base_0.val), (1, ours_1.val), (2, theirs_2.val), (3, str a_3), (4, str b_4), (10, ptr b10_1 0), (11, ptr b11_2 0), (12, s29_3.val), (15, ptr b15_9 0), (16, q46_10_0.val), (17, i64 i17_11), (21, i64 sg.1)]) (fun sg => Mo.tt) (fun sg => Ow.star (Blk b15_9 [c0_22.val, sg.2.val, s83_31.val] 74) (Ow.star (Blk b18_21 [str y63_20.1.path, i64 y63_20.1.mode, str y63_20.1.data] 133) (Ow.star (Blk b11_2 [.slice none 0 0, i64 0] 77) (Ow.star (Blk b10_1 [.slice none 0 0, .slice none 0 0, .slice none 0 0] 74) (Ow.star (Sv.own s83_31 9) (Ow.star (Sv.own q46_10_0 9) (Ow.star (Sv.own c0_22 133) (Ow.star (Sv.own sg.2 122) (Ow.emp))))))))) (0, c1_13) [0, 1, 2, 3, 4, 10, 11, 12, 15, 16, 17, 21] hS rfl ?_
   clear hS
   rintro ⟨k21_33, c1_34⟩ m2 y2 hS hK2
   show VC _ _ _ _ _ [(0, base_0.val), (1, ours_1.val), (2, theirs_2.val), (3, str a_3), (4, str b_4), (10, ptr b10_1 0), (11, ptr b11_2 0), (12, s29_3.val), (15, ptr b15_9 0), (16, q46_10_0.val), (17, i64 i17_11), (21, i64 k21_33)] (Mo.and Mo.tt _) (Ow.star (Blk b15_9 [c0_22.val, c1_34.val, s83_31.val] 74) (Ow.star (Blk b18_21 [str y63_20.1.path, i64 y63_20.1.mode, str y63_20.1.data] 133) (Ow.star (Blk b11_2 [.slice none 0 0, i64 0] 77) (Ow.star (Blk b10_1 [.slice none 0 0, .slice none 0 0, .slice none 0 0] 74) (Ow.star (Sv.own s83_31 9) (Ow.star (Sv.own q46_10_0 9) (Ow.star (Sv.own c0_22 133) (Ow.star (Sv.own c1_34 122) (Ow.emp)))))))))
   refine Zq (Zq (Zr ?_))
   refine Zm ?_
   refine VL.q (q_lss rfl rfl) (by decide) ?_
   refine Zl ?_
   refine VC.cond_dec rfl (fun h86 => ?_) (fun h86 => ?_)
   ·
    replace hS := it_t h86 hS
    refine Zk ?_
    refine VC.cutJ (S := Sv Rectoref14Entry) (fun (c1_35 : Sv Rectoref14Entry) => c1_35.l) (fun (c1_35 : Sv Rectoref14Entry) => [(0, base_0.val), (1, ours_1.val), (2, theirs_2.val), (3, str a_3), (4, str b_4), (10, ptr b10_1 0), (11, ptr b11_2 0), (12, s29_3.val), (15, ptr b15_9 0), (16, q46_10_0.val), (17, i64 i17_11), (21, i64 k21_33)]) (fun (c1_35 : Sv Rectoref14Entry) => Mo.tt) (fun (c1_35 : Sv Rectoref14Entry) => Ow.star (Blk b15_9 [c0_22.val, c1_35.val, s83_31.val] 74) (Ow.star (Blk b18_21 [str y63_20.1.path, i64 y63_20.1.mode, str y63_20.1.data] 133) (Ow.star (Blk b11_2 [.slice none 0 0, i64 0] 77) (Ow.star (Blk b10_1 [.slice none 0 0, .slice none 0 0, .slice none 0 0] 74) (Ow.star (Sv.own s83_31 9) (Ow.star (Sv.own q46_10_0 9) (Ow.star (Sv.own c0_22 133) (Ow.star (Sv.own c1_35 122) (Ow.emp))))))))) hS ?_ ?_
    ·
     clear hS
     intro k36 hS
     refine Zb (Zq ?_)
     refine VC.draw [(0, true), (1, true), (2, true), (3, true), (4, true), (5, true), (6, true), (7, true), (8, true), (9, true), (10, true), (11, true), (12, false), (13, false), (14, true)] mixed (by kernel_rfl) (by kernel_rfl) (by kernel_rfl) ?_
     refine VD.q rfl (q_move rfl) (by decide) ?_
     refine VD.q rfl (q_move rfl) (by decide) ?_
     obtain ⟨z92_37, nz92_37, hz92_37, hS⟩ := atm_s hS
     refine VD.deep z92_37.ok hz92_37 (fun _ q => q) ?_
     refine VD.q rfl (q_ixm (s := s29_3) Tryz.underlying70 gsz45 rfl rfl nz92_37 (lt_of_get nz92_37 hz92_37)) (by decide) ?_
     refine VD.q rfl (q_el (s := s29_3) gone45 rfl hz92_37 rfl) (by decide) ?_
     refine VD.q rfl (q_move rfl) (by decide) ?_
     refine VD.q rfl (q_move rfl) (by decide) ?_
     obtain ⟨z96_38, nz96_38, hz96_38, hS⟩ := at_s hS
     refine VD.q rfl (q_ixo (s := q46_10_0) Tryz.underlying32 gsz9 rfl rfl nz96_38 (lt_of_get nz96_38 hz96_38)) (by decide) ?_
     refine VD.q rfl (q_elo (s := q46_10_0) 9 gone9 rfl hz96_38 rfl) (by decide) ?_
     obtain ⟨y98_39, ey98_39, hS⟩ := bd_s hS
     refine VD.q rfl (q_call (rectoref14_Get_ct z92_37 z96_38 ey98_39) rfl (fun _ _ => rfl)) (by decide) ?_
     refine VD.q rfl (q_move rfl) (by decide) ?_
     refine VD.q rfl (q_extract rfl rfl) (by decide) ?_
     refine VD.q rfl (q_extract rfl rfl) (by decide) ?_
     refine VD.one rfl ?_
     refine VL.alloc (cs := [str [], i64 0, str []]) (by kernel_rfl) (by decide) fun b22_40 => ?_
     refine VL.back (D' := [(11, .bool y98_39.2), (10, .agg #[str y98_39.1.path, i64 y98_39.1.mode, str y98_39.1.data]), (9, .tuple #[.agg #[str y98_39.1.path, i64 y98_39.1.mode, str y98_39.1.data], .bool y98_39.2]), (8, .tuple #[.agg #[str y98_39.1.path, i64 y98_39.1.mode, str y98_39.1.data], .bool y98_39.2]), (7, str z96_38), (6, ptr q46_10_0.b (q46_10_0.o + (i17_11).toNat * Dat.sz Str + 0)), (3, z92_37.val), (2, ptr s29_3.b (s29_3.o + (k21_33).toNat * Dat.sz (Sv Rectoref14File) + 0))]) (by kernel_rfl) (Pend.cons rfl (q_extract rfl rfl) (Pend.cons rfl (q_extract rfl rfl) (Pend.cons rfl (q_move rfl) (Pend.cons rfl (q_call (rectoref14_Get_ct z92_37 z96_38 ey98_39) rfl (fun _ _ => rfl)) (Pend.cons rfl (q_elo (s := q46_10_0) 9 gone9 rfl hz96_38 rfl) (Pend.cons rfl (q_ixo (s := q46_10_0) Tryz.underlying32 gsz9 rfl rfl nz96_38 (lt_of_get nz96_38 hz96_38)) (Pend.cons rfl (q_el (s := s29_3) gone45 rfl hz92_37 rfl) (Pend.cons rfl (q_ixm (s := s29_3) Tryz.underlying70 gsz45 rfl rfl nz92_37 (lt_of_get nz92_37 hz92_37)) (Pend.nil))))))))) ?_
     refine VD.one rfl ?_
     refine VL.store (vc := [str y98_39.1.path, i64 y98_39.1.mode, str y98_39.1.data]) (cs' := [str y98_39.1.path, i64 y98_39.1.mode, str y98_39.1.data]) rfl rfl rfl gsz133 rfl rfl (Nat.le_of_ble_eq_true rfl) rfl ?_
     refine VL.back (D' := [(11, .bool y98_39.2)]) (by kernel_rfl) (Pend.cons rfl (q_extract rfl rfl) (Pend.nil)) ?_
     refine VD.q rfl (q_assign rfl) (by decide) ?_
     refine VD.to (fun _ _ h => h) ?_
     refine VC.keep [0, 1, 2, 3, 4, 10, 11, 12, 15, 16, 17, 21, 22, 23] rfl ?_
     refine Zq (Zr ?_)
     refine Zm ?_
     refine Zl ?_
     refine VC.cond rfl (fun h101 => ?_) (fun h101 => ?_)
     ·
      replace hS := it_t h101 hS
      refine Zr ?_
      refine VL.q (q_field gfa74_1 rfl) (by decide) ?_
      refine VL.q (q_fe gone40 rfl rfl) (by decide) ?_
      refine VL.q (q_field gfa133_0 rfl) (by decide) ?_
      refine VL.q (q_fe gone9 rfl rfl) (by decide) ?_
      refine Zm ?_
      obtain ⟨b107, hS⟩ := gd_s hS
      refine VL.q (q_add rfl rfl b107) (by decide) ?_
      refine VL.q (q_field gfa133_1 rfl) (by decide) ?_
      refine VL.q (q_fe gone3 rfl rfl) (by decide) ?_
      refine VL.q (q_field gfa133_2 rfl) (by decide) ?_
      refine VL.q (q_fe gone9 rfl rfl) (by decide) ?_
      refine VL.q (q_build (vs := [(0, str y98_39.1.path), (1, i64 (k21_33 + 1)), (2, i64 y98_39.1.mode), (3, str y98_39.1.data)]) (cs := #[str y98_39.1.path, i64 (k21_33 + 1), i64 y98_39.1.mode, str y98_39.1.data, i64 0, i64 0]) rfl (by kernel_rfl)) (by decide) ?_
      refine VL.lit (α := Rectoref14Entry) (xs := [.tmp 112]) (vs := [.agg #[str y98_39.1.path, i64 (k21_33 + 1), i64 y98_39.1.mode, str y98_39.1.data, i64 0, i64 0]]) [⟨y98_39.1.path, (k21_33 + 1), y98_39.1.mode, y98_39.1.data, 0, 0⟩] Tryz.underlying40 glit122 (by decide) rfl rfl rfl rfl (by decide) (fun _ _ _ _ => trivial) (by decide) (fun s113_41 hs113_41 => ?_) (by decide)
      replace hS := lt_to hs113_41 hS
      obtain ⟨b114, hS⟩ := gd_s hS
      refine VL.app (s := c1_34) (r := s113_41) Tryz.underlying40 gapp122 (by decide) rfl Fo.out (ap1 b114) (ap2 b114 (by decide)) (by decide) (fun s114_43 hs114_43 => ?_)
      replace hS := lt_to hs114_43 hS
      refine VL.q (q_field gfa74_1 rfl) (by decide) ?_
      refine VL.store (vc := [s114_43.val]) (cs' := [c0_22.val, s114_43.val, s83_31.val]) rfl rfl rfl gsz40 rfl rfl (Nat.le_of_ble_eq_true rfl) rfl ?_
      refine VL.mt s114_43 [0, 1, 2, 3, 4, 10, 11, 12, 15, 16, 17, 21] (fun _ _ h => h) hS rfl
     replace hS := it_b h101 hS
     refine VC.skip_mt c1_34 [0, 1, 2, 3, 4, 10, 11, 12, 15, 16, 17, 21] (fun _ _ h => h) hS rfl
    clear hS
    rintro c1_35 hS
    show VC _ _ _ _ _ [(0, base_0.val), (1, ours_1.val), (2, theirs_2.val), (3, str a_3), (4, str b_4), (10, ptr b10_1 0), (11, ptr b11_2 0), (12, s29_3.val), (15, ptr b15_9 0), (16, q46_10_0.val), (17, i64 i17_11), (21, i64 k21_33)] (Mo.and Mo.tt _) (Ow.star (Blk b15_9 [c0_22.val, c1_35.val, s83_31.val] 74) (Ow.star (Blk b18_21 [str y63_20.1.path, i64 y63_20.1.mode, str y63_20.1.data] 133) (Ow.star (Blk b11_2 [.slice none 0 0, i64 0] 77) (Ow.star (Blk b10_1 [.slice none 0 0, .slice none 0 0, .slice none 0 0] 74) (Ow.star (Sv.own s83_31 9) (Ow.star (Sv.own q46_10_0 9) (Ow.star (Sv.own c0_22 133) (Ow.star (Sv.own c1_35 122) (Ow.emp)))))))))
    refine Zr ?_
    refine Zm ?_
    obtain ⟨b88, hS⟩ := gd_s hS
    refine VL.q (q_add rfl rfl b88) (by decide) ?_
    refine Za ?_
    refine VL.rnd ((k21_33 + 1), c1_35) [0, 1, 2, 3, 4, 10, 11, 12, 15, 16, 17, 21] (fun _ _ h => h) (go2 hS hK2) rfl
   replace hS := it_f h86 hS
   replace hS := up2 hS hK2
   refine VC.exit_mt (c0_22, c1_34, s83_31) [0, 1, 2, 3, 4, 10, 11, 12, 15, 16, 17] (fun _ _ h => h) hS rfl
  clear hS
  rintro ⟨c0_15, c1_16, c2_17⟩ hS
  show VC _ _ _ _ _ [(0, base_0.val), (1, ours_1.val), (2, theirs_2.val), (3, str a_3), (4, str b_4), (10, ptr b10_1 0), (11, ptr b11_2 0), (12, s29_3.val), (15, ptr b15_9 0), (16, q46_10_0.val), (17, i64 i17_11)] (Mo.and Mo.tt _) (Ow.star (Blk b15_9 [c0_15.val, c1_16.val, c2_17.val] 74) (Ow.star (Blk b11_2 [.slice none 0 0, i64 0] 77) (Ow.star (Blk b10_1 [.slice none 0 0, .slice none 0 0, .slice none 0 0] 74) (Ow.star (Sv.own q46_10_0 9) (Ow.star (Sv.own c0_15 133) (Ow.star (Sv.own c1_16 122) (Ow.star (Sv.own c2_17 9) (Ow.emp))))))))
  refine Zr ?_
  refine Zm ?_
  obtain ⟨b52, hS⟩ := gd_s hS
  refine VL.q (q_add rfl rfl b52) (by decide) ?_
  refine Za ?_
  refine VL.rnd ((i17_11 + 1), c0_15, c1_16, c2_17) [0, 1, 2, 3, 4, 10, 11, 12, 15, 16, 17] (fun _ _ h => h) (go2 hS hK1) rfl
 replace hS := it_f h50 hS
 replace hS := up2 hS hK1
 refine Zx ?_
 refine VC.keep [10, 11, 15] rfl ?_
 refine Zq (Zq (Zr ?_))
 refine VL.q (q_field gfa74_0 rfl) (by decide) ?_
 refine VL.q (q_fe gone45 rfl rfl) (by decide) ?_
 refine VL.q (q_ln (s := c0_12) Tryz.underlying45 rfl) (by decide) ?_
 refine VL.q (q_gtr rfl rfl) (by decide) ?_
 refine Zl ?_
 refine VC.cond_dec rfl (fun h119 => ?_) (fun h119 => ?_)
 ·
  replace hS := it_t h119 hS
  refine Zq (Zr ?_)
  refine VL.q (q_build (vs := []) (cs := #[.slice none 0 0, .slice none 0 0, .slice none 0 0]) rfl (by kernel_rfl)) (by decide) ?_
  obtain ⟨y121_45, ey121_45, hS⟩ := bd_s hS
  refine VL.callF (rectoref3_At_ct [102, 105, 108, 101] 64 4 ey121_45) rfl (by decide) ?_
  rintro q121_45_0 rfl
  try dsimp only
  refine VL.store (vc := [.slice none 0 0, .slice none 0 0, .slice none 0 0]) (cs' := [.slice none 0 0, .slice none 0 0, .slice none 0 0]) rfl rfl rfl gsz74 rfl rfl (Nat.le_of_ble_eq_true rfl) rfl ?_
  refine VL.store (vc := [q121_45_0.parts.val, i64 q121_45_0.err]) (cs' := [q121_45_0.parts.val, i64 q121_45_0.err]) rfl rfl rfl gsz77 rfl rfl (Nat.le_of_ble_eq_true rfl) rfl ?_
  refine Zl ?_
  cases hS
  exact VC.ret (finG (vs := [.agg #[.slice none 0 0, .slice none 0 0, .slice none 0 0], .agg #[q121_45_0.parts.val, i64 q121_45_0.err]]) (.inr rfl) rfl (RVs.cell gagg74 rfl rfl Rd.blk (RVs.cell gagg77 rfl rfl Rd.blk (RVs.nil))) (⟨⟨none, 0, []⟩, ⟨none, 0, []⟩, ⟨none, 0, []⟩⟩, ⟨q121_45_0.parts, q121_45_0.err⟩) rfl rfl (by (try dsimp only); exact InM.out) (fun _ _ => trivial))
 replace hS := it_f h119 hS
 refine Zk ?_
 refine Zq (Zq (Zr ?_))
 refine Za ?_
 refine Zl ?_
 refine Zb ?_
 refine VC.iter (S := Int) (fun (i24_46 : Int) => i24_46) (fun (i24_46 : Int) => [(10, ptr b10_1 0), (11, ptr b11_2 0), (15, ptr b15_9 0), (24, i64 i24_46)]) (fun (i24_46 : Int) => Mo.tt) (fun (i24_46 : Int) => Ow.star (Blk b15_9 [c0_12.val, c1_13.val, c2_14.val] 74) (Ow.star (Blk b11_2 [.slice none 0 0, i64 0] 77) (Ow.star (Blk b10_1 [.slice none 0 0, .slice none 0 0, .slice none 0 0] 74) (Ow.star (Sv.own c0_12 133) (Ow.star (Sv.own c1_13 122) (Ow.star (Sv.own c2_14 9) (Ow.emp))))))) 0 [10, 11, 15, 24] hS rfl ?_
 clear hS
 rintro i24_46 m1 y1 hS hK1
 show VC _ _ _ _ _ [(10, ptr b10_1 0), (11, ptr b11_2 0), (15, ptr b15_9 0), (24, i64 i24_46)] (Mo.and Mo.tt _) (Ow.star (Blk b15_9 [c0_12.val, c1_13.val, c2_14.val] 74) (Ow.star (Blk b11_2 [.slice none 0 0, i64 0] 77) (Ow.star (Blk b10_1 [.slice none 0 0, .slice none 0 0, .slice none 0 0] 74) (Ow.star (Sv.own c0_12 133) (Ow.star (Sv.own c1_13 122) (Ow.star (Sv.own c2_14 9) (Ow.emp)))))))
 refine Zq (Zq (Zr ?_))
 refine Zm ?_
 refine VL.q (q_field gfa74_0 rfl) (by decide) ?_
 refine VL.q (q_fe gone45 rfl rfl) (by decide) ?_
 refine VL.q (q_ln (s := c0_12) Tryz.underlying45 rfl) (by decide) ?_
 refine VL.q (q_lss rfl rfl) (by decide) ?_
 refine Zl ?_
 refine VC.cond_dec rfl (fun h126 => ?_) (fun h126 => ?_)
 ·
  replace hS := it_t h126 hS
  refine Zk ?_
  refine Zq (Zb (Zq (Zr ?_)))
  refine Za ?_
  refine Zl ?_
  refine Zb ?_
  refine VC.iter (S := Int) (fun (k25_47 : Int) => k25_47) (fun (k25_47 : Int) => [(10, ptr b10_1 0), (11, ptr b11_2 0), (15, ptr b15_9 0), (24, i64 i24_46), (25, i64 k25_47)]) (fun (k25_47 : Int) => Mo.tt) (fun (k25_47 : Int) => Ow.star (Blk b15_9 [c0_12.val, c1_13.val, c2_14.val] 74) (Ow.star (Blk b11_2 [.slice none 0 0, i64 0] 77) (Ow.star (Blk b10_1 [.slice none 0 0, .slice none 0 0, .slice none 0 0] 74) (Ow.star (Sv.own c0_12 133) (Ow.star (Sv.own c1_13 122) (Ow.star (Sv.own c2_14 9) (Ow.emp))))))) 0 [10, 11, 15, 24, 25] hS rfl ?_
  clear hS
  rintro k25_47 m2 y2 hS hK2
  show VC _ _ _ _ _ [(10, ptr b10_1 0), (11, ptr b11_2 0), (15, ptr b15_9 0), (24, i64 i24_46), (25, i64 k25_47)] (Mo.and Mo.tt _) (Ow.star (Blk b15_9 [c0_12.val, c1_13.val, c2_14.val] 74) (Ow.star (Blk b11_2 [.slice none 0 0, i64 0] 77) (Ow.star (Blk b10_1 [.slice none 0 0, .slice none 0 0, .slice none 0 0] 74) (Ow.star (Sv.own c0_12 133) (Ow.star (Sv.own c1_13 122) (Ow.star (Sv.own c2_14 9) (Ow.emp)))))))
  refine Zq (Zq (Zr ?_))
  refine Zm ?_
  refine Zm ?_
  refine VL.q (q_lss rfl rfl) (by decide) ?_
  refine Zl ?_
  refine VC.cond_dec rfl (fun h131 => ?_) (fun h131 => ?_)
  ·
   replace hS := it_t h131 hS
   refine Zk ?_
   refine Zq (Zb (Zq ?_))
   refine VC.draw ((List.range 13).map fun k => (k, true)) mixed (by kernel_rfl) (by kernel_rfl) (by kernel_rfl) ?_
   refine VD.q rfl (q_field gfa74_0 rfl) (by decide) ?_
   refine VD.q rfl (q_fe gone45 rfl rfl) (by decide) ?_
   refine VD.q rfl (q_move rfl) (by decide) ?_
   obtain ⟨z137_48, nz137_48, hz137_48, hS⟩ := at_s hS
   refine VD.q rfl (q_ixo (s := c0_12) Tryz.underlying45 gsz133 rfl rfl nz137_48 (lt_of_get nz137_48 hz137_48)) (by decide) ?_
   refine VD.q rfl (q_field gfa133_0 rfl) (by decide) ?_
   refine VD.q rfl (q_elfo (s := c0_12) gone9 rfl hz137_48 rfl) (by decide) ?_
   refine VD.q rfl (q_field gfa74_0 rfl) (by decide) ?_
   refine VD.q rfl (q_fe gone45 rfl rfl) (by decide) ?_
   refine VD.q rfl (q_move rfl) (by decide) ?_
   obtain ⟨z143_49, nz143_49, hz143_49, hS⟩ := at_s hS
   refine VD.q rfl (q_ixo (s := c0_12) Tryz.underlying45 gsz133 rfl rfl nz143_49 (lt_of_get nz143_49 hz143_49)) (by decide) ?_
   refine VD.q rfl (q_field gfa133_0 rfl) (by decide) ?_
   refine VD.q rfl (q_elfo (s := c0_12) gone9 rfl hz143_49 rfl) (by decide) ?_
   obtain ⟨y146_50, ey146_50, hS⟩ := bd_s hS
   refine VD.q rfl (q_call (rectoref1_Clash_ct z137_48.path z143_49.path ey146_50) rfl (fun _ _ => rfl)) (by decide) ?_
   refine VD.to (fun _ _ h => h) ?_
   refine VC.keep [10, 11, 15, 24, 25, 146] rfl ?_
   refine VC.cond rfl (fun h146 => ?_) (fun h146 => ?_)
   ·
    replace hS := it_t h146 hS
    refine Zq (Zr ?_)
    refine VL.q (q_build (vs := []) (cs := #[.slice none 0 0, .slice none 0 0, .slice none 0 0]) rfl (by kernel_rfl)) (by decide) ?_
    refine Zm ?_
    obtain ⟨y149_51, ey149_51, hS⟩ := bd_s hS
    refine VL.callF (rectoref3_At_ct [102, 105, 108, 101] i24_46 11 ey149_51) rfl (by decide) ?_
    rintro q149_51_0 rfl
    try dsimp only
    refine VL.store (vc := [.slice none 0 0, .slice none 0 0, .slice none 0 0]) (cs' := [.slice none 0 0, .slice none 0 0, .slice none 0 0]) rfl rfl rfl gsz74 rfl rfl (Nat.le_of_ble_eq_true rfl) rfl ?_
    refine VL.store (vc := [q149_51_0.parts.val, i64 q149_51_0.err]) (cs' := [q149_51_0.parts.val, i64 q149_51_0.err]) rfl rfl rfl gsz77 rfl rfl (Nat.le_of_ble_eq_true rfl) rfl ?_
    refine Zl ?_
    replace hS := up2 hS hK2
    replace hS := up2 hS hK1
    cases hS
    exact VC.ret (finG (vs := [.agg #[.slice none 0 0, .slice none 0 0, .slice none 0 0], .agg #[q149_51_0.parts.val, i64 q149_51_0.err]]) (.inr rfl) rfl (RVs.cell gagg74 rfl rfl Rd.blk (RVs.cell gagg77 rfl rfl Rd.blk (RVs.nil))) (⟨⟨none, 0, []⟩, ⟨none, 0, []⟩, ⟨none, 0, []⟩⟩, ⟨q149_51_0.parts, q149_51_0.err⟩) rfl rfl (by (try dsimp only); exact InM.out) (fun _ _ => trivial))
   replace hS := it_b h146 hS
   refine Zk ?_
   refine Zr ?_
   refine Zm ?_
   obtain ⟨b133, hS⟩ := gd_s hS
   refine VL.q (q_add rfl rfl b133) (by decide) ?_
   refine Za ?_
   refine VL.rnd (k25_47 + 1) [10, 11, 15, 24, 25] (fun _ _ h => h) (go2 hS hK2) rfl
  replace hS := it_f h131 hS
  replace hS := up2 hS hK2
  refine Zx ?_
  refine Zr ?_
  refine Zm ?_
  obtain ⟨b128, hS⟩ := gd_s hS
  refine VL.q (q_add rfl rfl b128) (by decide) ?_
  refine Za ?_
  refine VL.rnd (i24_46 + 1) [10, 11, 15, 24] (fun _ _ h => h) (go2 hS hK1) rfl
 replace hS := it_f h126 hS
 replace hS := up2 hS hK1
 refine Zx ?_
 refine Zq (Zr ?_)
 refine VL.q (q_fes gagg74 rfl rfl) (by decide) ?_
 refine VL.q (q_build (vs := []) (cs := #[.slice none 0 0, i64 0]) rfl (by kernel_rfl)) (by decide) ?_
 refine VL.store (vc := [c0_12.val, c1_13.val, c2_14.val]) (cs' := [c0_12.val, c1_13.val, c2_14.val]) rfl rfl rfl gsz74 rfl rfl (Nat.le_of_ble_eq_true rfl) rfl ?_
 refine VL.store (vc := [.slice none 0 0, i64 0]) (cs' := [.slice none 0 0, i64 0]) rfl rfl rfl gsz77 rfl rfl (Nat.le_of_ble_eq_true rfl) rfl ?_
 refine Zl ?_
 refine VC.keep [10, 11] rfl ?_
 refine VC.shut c0_12 133 (fun _ _ _ _ => trivial) ?_
 refine VC.shut c1_13 122 (fun _ _ _ _ => trivial) ?_
 refine VC.shut c2_14 9 (fun _ _ _ _ => trivial) ?_
 cases hS
 exact VC.ret (finG (vs := [.agg #[c0_12.val, c1_13.val, c2_14.val], .agg #[.slice none 0 0, i64 0]]) (.inr rfl) rfl (RVs.cell gagg74 rfl rfl Rd.blk (RVs.cell gagg77 rfl rfl Rd.blk (RVs.nil))) (⟨c0_12, c1_13, c2_14⟩, ⟨⟨none, 0, []⟩, 0⟩) rfl rfl (by (try dsimp only); exact InM.out) (fun _ _ => trivial))
theorem rectolaw16_TreesApart_ct (b_0 : Sv FilesFile) (o_1 : Sv FilesFile) (t_2 : Sv FilesFile) {r : Bool} (hS : Sh.rectolaw16_TreesApart b_0.l o_1.l t_2.l = some r) :
 Ct Tryz.prog 7 [b_0.val, o_1.val, t_2.val] (b_0.ok.and (o_1.ok.and t_2.ok)) (Ow.emp) (X := Unit) (fun _ => .bool r) (fun _ => True) (fun _ => Mo.tt) (fun _ => Ow.emp) := by
 refine Ct.of Tryz.func7 rfl (by kernel_rfl) Tryz.ntmps7 (by simp) fun c => ?_
 unfold Sh.rectolaw16_TreesApart at hS
 refine Zq (Zr ?_)
 refine Za ?_
 refine Zl ?_
 refine Zq (Zq (Zr ?_))
 obtain ⟨y15_1, ey15_1, hS⟩ := bd_s hS
 refine VL.q (q_call (rectolaw16_known_ct ey15_1) rfl (fun _ _ => rfl)) (by decide) ?_
 refine VL.q (q_not rfl) (by decide) ?_
 refine Zl ?_
 refine VC.cond rfl (fun h16 => ?_) (fun h16 => ?_)
 ·
  replace hS := it_t h16 hS
  refine Zq (Zr ?_)
  refine Za ?_
  refine Zl ?_
  cases hS
  exact Ze
 replace hS := it_b h16 hS
 refine Zk ?_
 refine Zq ?_
 refine VC.cutJ (S := Bool) (fun (x59_2 : Bool) => x59_2) (fun (x59_2 : Bool) => [(0, b_0.val), (1, o_1.val), (2, t_2.val), (59, .bool x59_2)]) (fun (x59_2 : Bool) => Mo.tt) (fun (x59_2 : Bool) => Ow.emp) hS ?_ ?_
 ·
  clear hS
  intro k3 hS
  refine Zr ?_
  refine Zm ?_
  obtain ⟨y18_4, ey18_4, hS⟩ := bd_s hS
  refine VL.q (q_call (rectolaw14_Few_ct b_0 ey18_4) rfl (fun _ _ => rfl)) (by decide) ?_
  refine VL.q (q_not rfl) (by decide) ?_
  refine Zm ?_
  refine VL.split 20 rfl (fun h20 => ?_) (fun h20 => ?_)
  ·
   replace hS := it_t h20 hS
   refine Zn ?_
   refine Zn ?_
   refine Zn ?_
   refine Zt ?_
   refine Zm ?_
   refine Zn ?_
   refine Zn ?_
   refine Zn ?_
   refine Zt ?_
   refine Zm ?_
   refine Zn ?_
   refine Zn ?_
   refine Zn ?_
   refine Zt ?_
   refine Zm ?_
   refine Zn ?_
   refine Zn ?_
   refine Zn ?_
   refine Zt ?_
   refine Zm ?_
   refine Zn ?_
   refine Zn ?_
   refine Zn ?_
   refine Zt ?_
   refine Zm ?_
   refine Zn ?_
   refine Zn ?_
   refine Zn ?_
   refine Zt ?_
   refine Zm ?_
   refine Zn ?_
   refine Zn ?_
   refine Zn ?_
   refine Zt ?_
   refine Zm ?_
   refine Zn ?_
   refine Zn ?_
   refine Zn ?_
   refine Zt ?_
   refine VL.mt true [0, 1, 2, 59] (fun _ _ h => h) hS rfl
  replace hS := it_b h20 hS
  refine Zg ?_
  obtain ⟨y22_5, ey22_5, hS⟩ := bd_s hS
  refine VL.gy rfl rfl (q_call (rectolaw14_Few_ct o_1 ey22_5) rfl (fun _ _ => rfl)) (by decide) ?_
  refine VL.gy rfl rfl (q_not rfl) (by decide) ?_
  refine Zf ?_
  refine Zm ?_
  refine VL.split 25 rfl (fun h25 => ?_) (fun h25 => ?_)
  ·
   replace hS := it_t h25 hS
   refine Zn ?_
   refine Zn ?_
   refine Zn ?_
   refine Zt ?_
   refine Zm ?_
   refine Zn ?_
   refine Zn ?_
   refine Zn ?_
   refine Zt ?_
   refine Zm ?_
   refine Zn ?_
   refine Zn ?_
   refine Zn ?_
   refine Zt ?_
   refine Zm ?_
   refine Zn ?_
   refine Zn ?_
   refine Zn ?_
   refine Zt ?_
   refine Zm ?_
   refine Zn ?_
   refine Zn ?_
   refine Zn ?_
   refine Zt ?_
   refine Zm ?_
   refine Zn ?_
   refine Zn ?_
   refine Zn ?_
   refine Zt ?_
   refine Zm ?_
   refine Zn ?_
   refine Zn ?_
   refine Zn ?_
   refine Zt ?_
   refine VL.mt true [0, 1, 2, 59] (fun _ _ h => h) hS rfl
  replace hS := it_b h25 hS
  refine Zg ?_
  obtain ⟨y27_6, ey27_6, hS⟩ := bd_s hS
  refine VL.gy rfl rfl (q_call (rectolaw14_Few_ct t_2 ey27_6) rfl (fun _ _ => rfl)) (by decide) ?_
  refine VL.gy rfl rfl (q_not rfl) (by decide) ?_
  refine Zf ?_
  refine Zm ?_
  refine VL.split 30 rfl (fun h30 => ?_) (fun h30 => ?_)
  ·
   replace hS := it_t h30 hS
   refine Zn ?_
   refine Zn ?_
   refine Zn ?_
   refine Zt ?_
   refine Zm ?_
   refine Zn ?_
   refine Zn ?_
   refine Zn ?_
   refine Zt ?_
   refine Zm ?_
   refine Zn ?_
   refine Zn ?_
   refine Zn ?_
   refine Zt ?_
   refine Zm ?_
   refine Zn ?_
   refine Zn ?_
   refine Zn ?_
   refine Zt ?_
   refine Zm ?_
   refine Zn ?_
   refine Zn ?_
   refine Zn ?_
   refine Zt ?_
   refine Zm ?_
   refine Zn ?_
   refine Zn ?_
   refine Zn ?_
   refine Zt ?_
   refine VL.mt true [0, 1, 2, 59] (fun _ _ h => h) hS rfl
  replace hS := it_b h30 hS
  refine Zg ?_
  refine VL.gy rfl rfl (q_ln (s := b_0) Tryz.underlying23 rfl) (by decide) ?_
  refine VL.gy rfl rfl (q_gtr rfl rfl) (by decide) ?_
  refine Zf ?_
  refine Zm ?_
  refine VL.split_dec 35 rfl (fun h35 => ?_) (fun h35 => ?_)
  ·
   replace hS := it_t h35 hS
   refine Zn ?_
   refine Zn ?_
   refine Zn ?_
   refine Zt ?_
   refine Zm ?_
   refine Zn ?_
   refine Zn ?_
   refine Zn ?_
   refine Zt ?_
   refine Zm ?_
   refine Zn ?_
   refine Zn ?_
   refine Zn ?_
   refine Zt ?_
   refine Zm ?_
   refine Zn ?_
   refine Zn ?_
   refine Zn ?_
   refine Zt ?_
   refine Zm ?_
   refine Zn ?_
   refine Zn ?_
   refine Zn ?_
   refine Zt ?_
   refine VL.mt true [0, 1, 2, 59] (fun _ _ h => h) hS rfl
  replace hS := it_f h35 hS
  refine Zg ?_
  refine VL.gy rfl rfl (q_ln (s := o_1) Tryz.underlying23 rfl) (by decide) ?_
  refine VL.gy rfl rfl (q_gtr rfl rfl) (by decide) ?_
  refine Zf ?_
  refine Zm ?_
  refine VL.split_dec 40 rfl (fun h40 => ?_) (fun h40 => ?_)
  ·
   replace hS := it_t h40 hS
   refine Zn ?_
   refine Zn ?_
   refine Zn ?_
   refine Zt ?_
   refine Zm ?_
   refine Zn ?_
   refine Zn ?_
   refine Zn ?_
   refine Zt ?_
   refine Zm ?_
   refine Zn ?_
   refine Zn ?_
   refine Zn ?_
   refine Zt ?_
   refine Zm ?_
   refine Zn ?_
   refine Zn ?_
   refine Zn ?_
   refine Zt ?_
   refine VL.mt true [0, 1, 2, 59] (fun _ _ h => h) hS rfl
  replace hS := it_f h40 hS
  refine Zg ?_
  refine VL.gy rfl rfl (q_ln (s := t_2) Tryz.underlying23 rfl) (by decide) ?_
  refine VL.gy rfl rfl (q_gtr rfl rfl) (by decide) ?_
  refine Zf ?_
  refine Zm ?_
  refine VL.split_dec 45 rfl (fun h45 => ?_) (fun h45 => ?_)
  ·
   replace hS := it_t h45 hS
   refine Zn ?_
   refine Zn ?_
   refine Zn ?_
   refine Zt ?_
   refine Zm ?_
   refine Zn ?_
   refine Zn ?_
   refine Zn ?_
   refine Zt ?_
   refine Zm ?_
   refine Zn ?_
   refine Zn ?_
   refine Zn ?_
   refine Zt ?_
   refine VL.mt true [0, 1, 2, 59] (fun _ _ h => h) hS rfl
  replace hS := it_f h45 hS
  refine Zg ?_
  refine VL.guard rfl rfl ?_
  obtain ⟨y47_7, ey47_7, hS⟩ := bd_s hS
  refine VL.callF (files_Row_Check_ct b_0 ey47_7) rfl (by decide) ?_
  rintro q47_7_0 rfl
  try dsimp only
  refine VL.gy rfl rfl (q_erne Tryz.underlying27 rfl) (by decide) ?_
  refine Zf ?_
  refine Zm ?_
  refine VL.split_ndec 50 rfl (fun h50 => ?_) (fun h50 => ?_)
  ·
   replace hS := it_f h50 hS
   refine Zn ?_
   refine Zn ?_
   refine Zn ?_
   refine Zt ?_
   refine Zm ?_
   refine Zn ?_
   refine Zn ?_
   refine Zn ?_
   refine Zt ?_
   refine VL.mt true [0, 1, 2, 59] (fun _ _ h => h) hS rfl
  replace hS := it_t h50 hS
  refine Zg ?_
  refine VL.guard rfl rfl ?_
  obtain ⟨y52_8, ey52_8, hS⟩ := bd_s hS
  refine VL.callF (files_Row_Check_ct o_1 ey52_8) rfl (by decide) ?_
  rintro q52_8_0 rfl
  try dsimp only
  refine VL.gy rfl rfl (q_erne Tryz.underlying27 rfl) (by decide) ?_
  refine Zf ?_
  refine Zm ?_
  refine VL.split_ndec 55 rfl (fun h55 => ?_) (fun h55 => ?_)
  ·
   replace hS := it_f h55 hS
   refine Zn ?_
   refine Zn ?_
   refine Zn ?_
   refine Zt ?_
   refine VL.mt true [0, 1, 2, 59] (fun _ _ h => h) hS rfl
  replace hS := it_t h55 hS
  refine Zg ?_
  refine VL.guard rfl rfl ?_
  obtain ⟨y57_9, ey57_9, hS⟩ := bd_s hS
  refine VL.callF (files_Row_Check_ct t_2 ey57_9) rfl (by decide) ?_
  rintro q57_9_0 rfl
  try dsimp only
  refine VL.gy rfl rfl (q_erne Tryz.underlying27 rfl) (by decide) ?_
  refine Zf ?_
  refine VL.mt (!decide (q57_9_0.pl.isNil = true)) [0, 1, 2, 59] (fun _ _ h => h) hS rfl
 clear hS
 rintro x59_2 hS
 show VC _ _ _ _ _ [(0, b_0.val), (1, o_1.val), (2, t_2.val), (59, .bool x59_2)] (Mo.and Mo.tt _) (Ow.emp)
 refine VC.cond rfl (fun h59 => ?_) (fun h59 => ?_)
 ·
  replace hS := it_t h59 hS
  refine Zq (Zr ?_)
  refine Za ?_
  refine Zl ?_
  cases hS
  exact Ze
 replace hS := it_b h59 hS
 refine Zk ?_
 refine Zq (Zr ?_)
 refine Zm ?_
 obtain ⟨y61_10, ey61_10, hS⟩ := bd_s hS
 refine VL.callO (rectolaw14_Of_ct b_0 ey61_10) rfl (by decide) ?_
 rintro q61_10_0 rfl
 try dsimp only
 refine Zm ?_
 obtain ⟨y63_11, ey63_11, hS⟩ := bd_s hS
 refine VL.callO (rectolaw14_Of_ct o_1 ey63_11) rfl (by decide) ?_
 rintro q63_11_0 rfl
 try dsimp only
 refine Zm ?_
 obtain ⟨y65_12, ey65_12, hS⟩ := bd_s hS
 refine VL.callO (rectolaw14_Of_ct t_2 ey65_12) rfl (by decide) ?_
 rintro q65_12_0 rfl
 try dsimp only
 refine VL.shut q61_10_0 133 (fun _ _ _ _ => trivial) ?_
 refine VL.shut q63_11_0 133 (fun _ _ _ _ => trivial) ?_
 refine VL.shut q65_12_0 133 (fun _ _ _ _ => trivial) ?_
 refine VL.lit (α := Sv Rectoref14File) (xs := [.tmp 61, .tmp 63, .tmp 65]) (vs := [q61_10_0.val, q63_11_0.val, q65_12_0.val]) [q61_10_0, q63_11_0, q65_12_0] Tryz.underlying70 glit45 (by decide) rfl rfl rfl rfl (by decide) (fun h m => List.forall_mem_cons.2 ⟨InM.out (X := q61_10_0.ok) h m, List.forall_mem_cons.2 ⟨InM.out (X := q63_11_0.ok) h m, List.forall_mem_cons.2 ⟨InM.out (X := q65_12_0.ok) h m, fun _ h => by cases h⟩⟩⟩) (by decide) (fun s66_13 hs66_13 => ?_) (by decide)
 replace hS := lt_to (congrArg (List.map Sv.l) hs66_13) hS
 obtain ⟨y67_15, ey67_15, hS⟩ := bd_s hS
 refine VL.callO (rectoref14_Paths_ct s66_13 ey67_15) rfl (by decide) ?_
 rintro q67_15_0 rfl
 try dsimp only
 refine Za ?_
 refine Zl ?_
 refine VC.keep [0, 1, 2, 7] rfl ?_
 refine Zq (Zq (Zr ?_))
 refine Za ?_
 refine Zl ?_
 refine Zb ?_
 refine VC.iter (S := Int) (fun (i8_16 : Int) => i8_16) (fun (i8_16 : Int) => [(0, b_0.val), (1, o_1.val), (2, t_2.val), (7, q67_15_0.val), (8, i64 i8_16)]) (fun (i8_16 : Int) => Mo.tt) (fun (i8_16 : Int) => Ow.star (Sv.own q67_15_0 9) (Ow.emp)) 0 [0, 1, 2, 7, 8] hS rfl ?_
 clear hS
 rintro i8_16 m1 y1 hS hK1
 show VC _ _ _ _ _ [(0, b_0.val), (1, o_1.val), (2, t_2.val), (7, q67_15_0.val), (8, i64 i8_16)] (Mo.and Mo.tt _) (Ow.star (Sv.own q67_15_0 9) (Ow.emp))
 refine Zq (Zq (Zr ?_))
 refine Zm ?_
 refine Zm ?_
 refine VL.q (q_ln (s := q67_15_0) Tryz.underlying32 rfl) (by decide) ?_
 refine VL.q (q_lss rfl rfl) (by decide) ?_
 refine Zl ?_
 refine VC.cond_dec rfl (fun h71 => ?_) (fun h71 => ?_)
 ·
  replace hS := it_t h71 hS
  refine Zk ?_
  refine Zq (Zb ?_)
  refine VC.cutJ (S := Bool) (fun (x95_17 : Bool) => x95_17) (fun (x95_17 : Bool) => [(0, b_0.val), (1, o_1.val), (2, t_2.val), (7, q67_15_0.val), (8, i64 i8_16), (95, .bool x95_17)]) (fun (x95_17 : Bool) => Mo.tt) (fun (x95_17 : Bool) => Ow.star (Sv.own q67_15_0 9) (Ow.emp)) hS ?_ ?_
  ·
   clear hS
   intro k18 hS
   refine VC.draw [(0, true), (2, true), (4, true), (5, true), (6, true), (7, true), (1, false), (3, false), (8, true), (9, true), (10, true), (11, true), (13, true), (15, true), (16, true), (17, true), (18, true), (12, false), (14, false), (19, true), (20, true), (21, true)] mixed (by kernel_rfl) (by kernel_rfl) (by kernel_rfl) ?_
   refine VD.q rfl (q_move rfl) (by decide) ?_
   refine VD.q rfl (q_move rfl) (by decide) ?_
   refine VD.q rfl (q_move rfl) (by decide) ?_
   refine VD.q rfl (q_move rfl) (by decide) ?_
   obtain ⟨z80_19, nz80_19, hz80_19, hS⟩ := at_s hS
   refine VD.q rfl (q_ixo (s := q67_15_0) Tryz.underlying32 gsz9 rfl rfl nz80_19 (lt_of_get nz80_19 hz80_19)) (by decide) ?_
   refine VD.q rfl (q_elo (s := q67_15_0) 9 gone9 rfl hz80_19 rfl) (by decide) ?_
   refine VD.one rfl ?_
   obtain ⟨y75_20, ey75_20, hS⟩ := bd_s hS
   refine VL.callO (rectolaw14_Of_ct b_0 ey75_20) rfl (by decide) ?_
   rintro q75_20_0 rfl
   try dsimp only
   refine VL.back (D' := [(7, str z80_19), (6, ptr q67_15_0.b (q67_15_0.o + (i8_16).toNat * Dat.sz Str + 0))]) (by kernel_rfl) (Pend.cons rfl (q_elo (s := q67_15_0) 9 gone9 rfl hz80_19 rfl) (Pend.cons rfl (q_ixo (s := q67_15_0) Tryz.underlying32 gsz9 rfl rfl nz80_19 (lt_of_get nz80_19 hz80_19)) (Pend.nil))) ?_
   refine VD.one rfl ?_
   obtain ⟨y77_21, ey77_21, hS⟩ := bd_s hS
   refine VL.callO (rectolaw14_Of_ct o_1 ey77_21) rfl (by decide) ?_
   rintro q77_21_0 rfl
   try dsimp only
   refine VL.back (D' := [(7, str z80_19), (6, ptr q67_15_0.b (q67_15_0.o + (i8_16).toNat * Dat.sz Str + 0))]) (by kernel_rfl) (Pend.cons rfl (q_elo (s := q67_15_0) 9 gone9 rfl hz80_19 rfl) (Pend.cons rfl (q_ixo (s := q67_15_0) Tryz.underlying32 gsz9 rfl rfl nz80_19 (lt_of_get nz80_19 hz80_19)) (Pend.nil))) ?_
   obtain ⟨y82_22, ey82_22, hS⟩ := bd_s hS
   refine VD.q rfl (q_callR (rectoref14_Like_ct q75_20_0 q77_21_0 z80_19 ey82_22) rfl (fun _ _ => rfl)) (by decide) ?_
   refine VD.q rfl (q_not rfl) (by decide) ?_
   refine VD.q rfl (q_move rfl) (by decide) ?_
   refine VD.split 84 rfl (fun h84 => ?_) (fun h84 => ?_)
   ·
    replace hS := it_t h84 hS
    refine VD.gy rfl rfl rfl (q_move rfl) (by decide) ?_
    refine VD.gy rfl rfl rfl (q_move rfl) (by decide) ?_
    refine VD.gy rfl rfl rfl (q_move rfl) (by decide) ?_
    refine VD.gy rfl rfl rfl (q_move rfl) (by decide) ?_
    obtain ⟨z91_23, nz91_23, hz91_23, hS⟩ := at_s hS
    refine VD.gy rfl rfl rfl (q_ixo (s := q67_15_0) Tryz.underlying32 gsz9 rfl rfl nz91_23 (lt_of_get nz91_23 hz91_23)) (by decide) ?_
    refine VD.gy rfl rfl rfl (q_elo (s := q67_15_0) 9 gone9 rfl hz91_23 rfl) (by decide) ?_
    refine VD.oneG rfl rfl rfl ?_
    refine VL.guard rfl rfl ?_
    obtain ⟨y86_24, ey86_24, hS⟩ := bd_s hS
    refine VL.callO (rectolaw14_Of_ct b_0 ey86_24) rfl (by decide) ?_
    rintro q86_24_0 rfl
    try dsimp only
    refine VL.back (D' := [(18, str z91_23), (17, ptr q67_15_0.b (q67_15_0.o + (i8_16).toNat * Dat.sz Str + 0)), (16, i64 i8_16), (15, q67_15_0.val), (13, t_2.val)]) (by kernel_rfl) (Pend.consG rfl rfl rfl (q_elo (s := q67_15_0) 9 gone9 rfl hz91_23 rfl) (Pend.consG rfl rfl rfl (q_ixo (s := q67_15_0) Tryz.underlying32 gsz9 rfl rfl nz91_23 (lt_of_get nz91_23 hz91_23)) (Pend.consG rfl rfl rfl (q_move rfl) (Pend.consG rfl rfl rfl (q_move rfl) (Pend.consG rfl rfl rfl (q_move rfl) (Pend.nil)))))) ?_
    refine VD.oneG rfl rfl rfl ?_
    refine VL.guard rfl rfl ?_
    obtain ⟨y88_25, ey88_25, hS⟩ := bd_s hS
    refine VL.callO (rectolaw14_Of_ct t_2 ey88_25) rfl (by decide) ?_
    rintro q88_25_0 rfl
    try dsimp only
    refine VL.back (D' := [(18, str z91_23), (17, ptr q67_15_0.b (q67_15_0.o + (i8_16).toNat * Dat.sz Str + 0)), (16, i64 i8_16), (15, q67_15_0.val)]) (by kernel_rfl) (Pend.consG rfl rfl rfl (q_elo (s := q67_15_0) 9 gone9 rfl hz91_23 rfl) (Pend.consG rfl rfl rfl (q_ixo (s := q67_15_0) Tryz.underlying32 gsz9 rfl rfl nz91_23 (lt_of_get nz91_23 hz91_23)) (Pend.consG rfl rfl rfl (q_move rfl) (Pend.consG rfl rfl rfl (q_move rfl) (Pend.nil))))) ?_
    obtain ⟨y93_26, ey93_26, hS⟩ := bd_s hS
    refine VD.gy rfl rfl rfl (q_callR (rectoref14_Like_ct q86_24_0 q88_25_0 z91_23 ey93_26) rfl (fun _ _ => rfl)) (by decide) ?_
    refine VD.gy rfl rfl rfl (q_not rfl) (by decide) ?_
    refine VD.q rfl (q_pick_t rfl rfl) (by decide) ?_
    refine VD.mt (!y93_26) [0, 1, 2, 7, 8, 95] (fun _ _ h => h) hS rfl
   replace hS := it_b h84 hS
   refine Zd ?_
   refine Zd ?_
   refine Zd ?_
   refine Zd ?_
   refine Zd ?_
   refine Zd ?_
   refine VD.oneN (D' := [(18, undef), (17, undef), (16, undef), (15, undef), (13, undef)]) rfl rfl rfl (by decide) (by decide) (by kernel_rfl) (Pend.consN rfl rfl rfl rfl (Pend.consN rfl rfl rfl rfl (Pend.consN rfl rfl rfl rfl (Pend.consN rfl rfl rfl rfl (Pend.consN rfl rfl rfl rfl (Pend.nil)))))) ?_
   refine VD.oneN (D' := [(18, undef), (17, undef), (16, undef), (15, undef)]) rfl rfl rfl (by decide) (by decide) (by kernel_rfl) (Pend.consN rfl rfl rfl rfl (Pend.consN rfl rfl rfl rfl (Pend.consN rfl rfl rfl rfl (Pend.consN rfl rfl rfl rfl (Pend.nil))))) ?_
   refine Zd ?_
   refine Zd ?_
   refine VD.q rfl (q_pick_f rfl rfl) (by decide) ?_
   refine VD.mt false [0, 1, 2, 7, 8, 95] (fun _ _ h => h) hS rfl
  clear hS
  rintro x95_17 hS
  show VC _ _ _ _ _ [(0, b_0.val), (1, o_1.val), (2, t_2.val), (7, q67_15_0.val), (8, i64 i8_16), (95, .bool x95_17)] (Mo.and Mo.tt _) (Ow.star (Sv.own q67_15_0 9) (Ow.emp))
  refine VC.cond rfl (fun h95 => ?_) (fun h95 => ?_)
  ·
   replace hS := it_t h95 hS
   refine Zq (Zr ?_)
   refine Za ?_
   refine Zl ?_
   replace hS := up2 hS hK1
   cases hS
   exact Ze
  replace hS := it_b h95 hS
  refine Zk ?_
  refine Zr ?_
  refine Zm ?_
  obtain ⟨b73, hS⟩ := gd_s hS
  refine VL.q (q_add rfl rfl b73) (by decide) ?_
  refine Za ?_
  refine VL.rnd (i8_16 + 1) [0, 1, 2, 7, 8] (fun _ _ h => h) (go2 hS hK1) rfl
 replace hS := it_f h71 hS
 replace hS := up2 hS hK1
 refine Zx ?_
 refine Zq (Zr ?_)
 refine Zm ?_
 refine Zm ?_
 refine Zm ?_
 obtain ⟨y100_27, ey100_27, hS⟩ := bd_s hS
 refine VL.callF (tmerge_Merge_ct b_0 o_1 t_2 [120] [121] ey100_27) rfl (by decide) ?_
 rintro ⟨q100_27_0, q100_27_1⟩ rfl
 try dsimp only
 refine Zm ?_
 refine VL.q (q_extract rfl rfl) (by decide) ?_
 refine VL.q (q_extract rfl rfl) (by decide) ?_
 refine VL.alloc (cs := [.slice none 0 0, .slice none 0 0, .slice none 0 0]) (by kernel_rfl) (by decide) fun b9_28 => ?_
 refine VL.store (vc := [q100_27_0.files.val, q100_27_0.entries.val, q100_27_0.conflicts.val]) (cs' := [q100_27_0.files.val, q100_27_0.entries.val, q100_27_0.conflicts.val]) rfl rfl rfl gsz34 rfl rfl (Nat.le_of_ble_eq_true rfl) rfl ?_
 refine Za ?_
 refine Zl ?_
 refine VC.keep [0, 1, 2, 7, 9, 10] rfl ?_
 refine Zq (Zq (Zr ?_))
 refine Zm ?_
 refine VL.q (q_erne Tryz.underlying27 rfl) (by decide) ?_
 refine Zl ?_
 refine VC.cond_ndec rfl (fun h104 => ?_) (fun h104 => ?_)
 ·
  replace hS := it_f h104 hS
  refine Zq (Zr ?_)
  refine Zm ?_
  obtain ⟨y107_29, ey107_29, hS⟩ := bd_s hS
  refine VL.callO (rectolaw14_Of_ct b_0 ey107_29) rfl (by decide) ?_
  rintro q107_29_0 rfl
  try dsimp only
  refine Zm ?_
  obtain ⟨y109_30, ey109_30, hS⟩ := bd_s hS
  refine VL.callO (rectolaw14_Of_ct o_1 ey109_30) rfl (by decide) ?_
  rintro q109_30_0 rfl
  try dsimp only
  refine Zm ?_
  obtain ⟨y111_31, ey111_31, hS⟩ := bd_s hS
  refine VL.callO (rectolaw14_Of_ct t_2 ey111_31) rfl (by decide) ?_
  rintro q111_31_0 rfl
  try dsimp only
  refine VL.shut q107_29_0 133 (fun _ _ _ _ => trivial) ?_
  refine VL.shut q109_30_0 133 (fun _ _ _ _ => trivial) ?_
  refine VL.shut q111_31_0 133 (fun _ _ _ _ => trivial) ?_
  obtain ⟨y112_32, ey112_32, hS⟩ := bd_s hS
  refine VL.callF (rectoref14_Merge_ct q107_29_0 q109_30_0 q111_31_0 [120] [121] ey112_32) rfl (by decide) ?_
  rintro ⟨q112_32_0, q112_32_1⟩ rfl
  try dsimp only
  refine Zm ?_
  refine VL.q (q_extract rfl rfl) (by decide) ?_
  refine VL.q (q_extract rfl rfl) (by decide) ?_
  refine VL.alloc (cs := [.slice none 0 0, .slice none 0 0, .slice none 0 0]) (by kernel_rfl) (by decide) fun b11_33 => ?_
  refine VL.alloc (cs := [.slice none 0 0, i64 0]) (by kernel_rfl) (by decide) fun b12_34 => ?_
  refine VL.store (vc := [q112_32_0.files.val, q112_32_0.entries.val, q112_32_0.conflicts.val]) (cs' := [q112_32_0.files.val, q112_32_0.entries.val, q112_32_0.conflicts.val]) rfl rfl rfl gsz74 rfl rfl (Nat.le_of_ble_eq_true rfl) rfl ?_
  refine VL.store (vc := [q112_32_1.parts.val, i64 q112_32_1.err]) (cs' := [q112_32_1.parts.val, i64 q112_32_1.err]) rfl rfl rfl gsz77 rfl rfl (Nat.le_of_ble_eq_true rfl) rfl ?_
  refine Zl ?_
  refine VC.keep [12] rfl ?_
  refine Zq (Zr ?_)
  refine VL.q (q_field gfa77_1 rfl) (by decide) ?_
  refine VL.q (q_fe gone3 rfl rfl) (by decide) ?_
  refine VL.q (q_neq rfl rfl) (by decide) ?_
  refine Za ?_
  refine Zl ?_
  cases hS
  exact Ze
 replace hS := it_t h104 hS
 refine Zk ?_
 refine Zq (Zq (Zr ?_))
 refine Za ?_
 refine Zl ?_
 refine Zb ?_
 refine VC.iter (S := Int) (fun (i13_35 : Int) => i13_35) (fun (i13_35 : Int) => [(0, b_0.val), (1, o_1.val), (2, t_2.val), (7, q67_15_0.val), (9, ptr b9_28 0), (13, i64 i13_35)]) (fun (i13_35 : Int) => Mo.tt) (fun (i13_35 : Int) => Ow.star (Blk b9_28 [q100_27_0.files.val, q100_27_0.entries.val, q100_27_0.conflicts.val] 34) (Ow.star (Sv.own q67_15_0 9) (Ow.emp))) 0 [0, 1, 2, 7, 9, 13] hS rfl ?_
 clear hS
 rintro i13_35 m1 y1 hS hK1
 show VC _ _ _ _ _ [(0, b_0.val), (1, o_1.val), (2, t_2.val), (7, q67_15_0.val), (9, ptr b9_28 0), (13, i64 i13_35)] (Mo.and Mo.tt _) (Ow.star (Blk b9_28 [q100_27_0.files.val, q100_27_0.entries.val, q100_27_0.conflicts.val] 34) (Ow.star (Sv.own q67_15_0 9) (Ow.emp)))
 refine Zq (Zq (Zr ?_))
 refine Zm ?_
 refine Zm ?_
 refine VL.q (q_ln (s := q67_15_0) Tryz.underlying32 rfl) (by decide) ?_
 refine VL.q (q_lss rfl rfl) (by decide) ?_
 refine Zl ?_
 refine VC.cond_dec rfl (fun h121 => ?_) (fun h121 => ?_)
 ·
  replace hS := it_t h121 hS
  refine Zk ?_
  refine Zq (Zb (Zq (Zr ?_)))
  refine Zm ?_
  obtain ⟨y125_36, ey125_36, hS⟩ := bd_s hS
  refine VL.callO (rectolaw14_Of_ct t_2 ey125_36) rfl (by decide) ?_
  rintro q125_36_0 rfl
  try dsimp only
  refine Za ?_
  refine Zl ?_
  refine VC.cutJ (S := Sv Rectoref14File) (fun (want14_37 : Sv Rectoref14File) => want14_37.l) (fun (want14_37 : Sv Rectoref14File) => [(0, b_0.val), (1, o_1.val), (2, t_2.val), (7, q67_15_0.val), (9, ptr b9_28 0), (13, i64 i13_35), (14, want14_37.val)]) (fun (want14_37 : Sv Rectoref14File) => Mo.tt) (fun (want14_37 : Sv Rectoref14File) => Ow.star (Blk b9_28 [q100_27_0.files.val, q100_27_0.entries.val, q100_27_0.conflicts.val] 34) (Ow.star (Sv.own q67_15_0 9) (Ow.star (Sv.own want14_37 133) (Ow.emp)))) hS ?_ ?_
  ·
   clear hS
   intro k38 hS
   refine Zq ?_
   refine VC.draw [(0, true), (2, true), (4, true), (5, true), (6, true), (7, true), (1, false), (3, false), (8, true), (9, true)] mixed (by kernel_rfl) (by kernel_rfl) (by kernel_rfl) ?_
   refine VD.q rfl (q_move rfl) (by decide) ?_
   refine VD.q rfl (q_move rfl) (by decide) ?_
   refine VD.q rfl (q_move rfl) (by decide) ?_
   refine VD.q rfl (q_move rfl) (by decide) ?_
   obtain ⟨z132_39, nz132_39, hz132_39, hS⟩ := at_s hS
   refine VD.q rfl (q_ixo (s := q67_15_0) Tryz.underlying32 gsz9 rfl rfl nz132_39 (lt_of_get nz132_39 hz132_39)) (by decide) ?_
   refine VD.q rfl (q_elo (s := q67_15_0) 9 gone9 rfl hz132_39 rfl) (by decide) ?_
   refine VD.one rfl ?_
   obtain ⟨y127_40, ey127_40, hS⟩ := bd_s hS
   refine VL.callO (rectolaw14_Of_ct b_0 ey127_40) rfl (by decide) ?_
   rintro q127_40_0 rfl
   try dsimp only
   refine VL.back (D' := [(7, str z132_39), (6, ptr q67_15_0.b (q67_15_0.o + (i13_35).toNat * Dat.sz Str + 0))]) (by kernel_rfl) (Pend.cons rfl (q_elo (s := q67_15_0) 9 gone9 rfl hz132_39 rfl) (Pend.cons rfl (q_ixo (s := q67_15_0) Tryz.underlying32 gsz9 rfl rfl nz132_39 (lt_of_get nz132_39 hz132_39)) (Pend.nil))) ?_
   refine VD.one rfl ?_
   obtain ⟨y129_41, ey129_41, hS⟩ := bd_s hS
   refine VL.callO (rectolaw14_Of_ct o_1 ey129_41) rfl (by decide) ?_
   rintro q129_41_0 rfl
   try dsimp only
   refine VL.back (D' := [(7, str z132_39), (6, ptr q67_15_0.b (q67_15_0.o + (i13_35).toNat * Dat.sz Str + 0))]) (by kernel_rfl) (Pend.cons rfl (q_elo (s := q67_15_0) 9 gone9 rfl hz132_39 rfl) (Pend.cons rfl (q_ixo (s := q67_15_0) Tryz.underlying32 gsz9 rfl rfl nz132_39 (lt_of_get nz132_39 hz132_39)) (Pend.nil))) ?_
   obtain ⟨y134_42, ey134_42, hS⟩ := bd_s hS
   refine VD.q rfl (q_callR (rectoref14_Like_ct q127_40_0 q129_41_0 z132_39 ey134_42) rfl (fun _ _ => rfl)) (by decide) ?_
   refine VD.q rfl (q_not rfl) (by decide) ?_
   refine VD.to (fun _ _ h => h) ?_
   refine VC.keep [0, 1, 2, 7, 9, 13, 14, 135] rfl ?_
   refine VC.cond rfl (fun h135 => ?_) (fun h135 => ?_)
   ·
    replace hS := it_t h135 hS
    refine Zr ?_
    refine Zm ?_
    obtain ⟨y137_43, ey137_43, hS⟩ := bd_s hS
    refine VL.callO (rectolaw14_Of_ct o_1 ey137_43) rfl (by decide) ?_
    rintro q137_43_0 rfl
    try dsimp only
    refine Za ?_
    refine VL.mt q137_43_0 [0, 1, 2, 7, 9, 13, 14] (fun _ _ h => h) hS rfl
   replace hS := it_b h135 hS
   refine VC.skip_mt q125_36_0 [0, 1, 2, 7, 9, 13, 14] (fun _ _ h => h) hS rfl
  clear hS
  rintro want14_37 hS
  show VC _ _ _ _ _ [(0, b_0.val), (1, o_1.val), (2, t_2.val), (7, q67_15_0.val), (9, ptr b9_28 0), (13, i64 i13_35), (14, want14_37.val)] (Mo.and Mo.tt _) (Ow.star (Blk b9_28 [q100_27_0.files.val, q100_27_0.entries.val, q100_27_0.conflicts.val] 34) (Ow.star (Sv.own q67_15_0 9) (Ow.star (Sv.own want14_37 133) (Ow.emp))))
  refine Zq ?_
  refine VC.draw [(0, true), (1, true), (3, true), (4, true), (5, true), (6, true), (7, true), (2, false), (8, true), (9, true)] mixed (by kernel_rfl) (by kernel_rfl) (by kernel_rfl) ?_
  refine VD.q rfl (q_field gfa34_0 rfl) (by decide) ?_
  refine VD.q rfl (q_fe gone23 rfl rfl) (by decide) ?_
  refine VD.q rfl (q_move rfl) (by decide) ?_
  refine VD.q rfl (q_move rfl) (by decide) ?_
  refine VD.q rfl (q_move rfl) (by decide) ?_
  obtain ⟨z144_44, nz144_44, hz144_44, hS⟩ := at_s hS
  refine VD.q rfl (q_ixo (s := q67_15_0) Tryz.underlying32 gsz9 rfl rfl nz144_44 (lt_of_get nz144_44 hz144_44)) (by decide) ?_
  refine VD.q rfl (q_elo (s := q67_15_0) 9 gone9 rfl hz144_44 rfl) (by decide) ?_
  refine VD.one rfl ?_
  obtain ⟨y140_45, ey140_45, hS⟩ := bd_s hS
  refine VL.callO (rectolaw14_Of_ct q100_27_0.files ey140_45) rfl (by decide) ?_
  rintro q140_45_0 rfl
  try dsimp only
  refine VL.back (D' := [(7, str z144_44), (6, ptr q67_15_0.b (q67_15_0.o + (i13_35).toNat * Dat.sz Str + 0))]) (by kernel_rfl) (Pend.cons rfl (q_elo (s := q67_15_0) 9 gone9 rfl hz144_44 rfl) (Pend.cons rfl (q_ixo (s := q67_15_0) Tryz.underlying32 gsz9 rfl rfl nz144_44 (lt_of_get nz144_44 hz144_44)) (Pend.nil))) ?_
  obtain ⟨y146_46, ey146_46, hS⟩ := bd_s hS
  refine VD.q rfl (q_callR (rectoref14_Like_ct q140_45_0 want14_37 z144_44 ey146_46) rfl (fun _ _ => rfl)) (by decide) ?_
  refine VD.q rfl (q_not rfl) (by decide) ?_
  refine VD.to (fun _ _ h => h) ?_
  refine VC.keep [0, 1, 2, 7, 9, 13, 147] rfl ?_
  refine VC.cond rfl (fun h147 => ?_) (fun h147 => ?_)
  ·
   replace hS := it_t h147 hS
   refine Zq (Zr ?_)
   refine Za ?_
   refine Zl ?_
   replace hS := up2 hS hK1
   cases hS
   exact Ze
  replace hS := it_b h147 hS
  refine Zk ?_
  refine Zr ?_
  refine Zm ?_
  obtain ⟨b123, hS⟩ := gd_s hS
  refine VL.q (q_add rfl rfl b123) (by decide) ?_
  refine Za ?_
  refine VL.rnd (i13_35 + 1) [0, 1, 2, 7, 9, 13] (fun _ _ h => h) (go2 hS hK1) rfl
 replace hS := it_f h121 hS
 replace hS := up2 hS hK1
 refine Zx ?_
 refine Zq (Zr ?_)
 refine VL.q (q_field gfa34_2 rfl) (by decide) ?_
 refine VL.q (q_fe gone32 rfl rfl) (by decide) ?_
 refine VL.q (q_ln (s := q100_27_0.conflicts) Tryz.underlying32 rfl) (by decide) ?_
 refine VL.q (q_eql rfl rfl) (by decide) ?_
 refine Zm ?_
 refine VL.split_dec 152 rfl (fun h152 => ?_) (fun h152 => ?_)
 ·
  replace hS := it_t h152 hS
  refine VL.gy rfl rfl (q_field gfa34_1 rfl) (by decide) ?_
  refine VL.gy rfl rfl (q_fe gone29 rfl rfl) (by decide) ?_
  refine VL.gy rfl rfl (q_ln (s := q100_27_0.entries) Tryz.underlying29 rfl) (by decide) ?_
  refine VL.gy rfl rfl (q_eql rfl rfl) (by decide) ?_
  refine Zt ?_
  refine Za ?_
  refine Zl ?_
  refine VC.keep [6] rfl ?_
  cases hS
  exact Ze
 replace hS := it_f h152 hS
 refine Zn ?_
 refine Zn ?_
 refine Zn ?_
 refine Zn ?_
 refine Zf ?_
 refine Za ?_
 refine Zl ?_
 refine VC.keep [6] rfl ?_
 cases hS
 exact Ze
end Go.Proofs.YtpmhinamcndmeaaGreatDoor
end

section
namespace Go.S
theorem at_get {α : Type} {l : List α} {i : Int} (h0 : 0 ≤ i) (h : i < l.length) : ∃ z, l[i.toNat]? = some z := ⟨_, List.getElem?_eq_getElem (by omega)⟩
theorem eqloop {α : Type} [DecidableEq α] (P : α → α → Prop) [∀ z w, Decidable (P z w)] (hP : ∀ z w, P z w ↔ z = w) (l r : List α) (hl : (l.length : Int) = r.length) (hb : (l.length : Int) ≤ 1000000000) (B : Int → Option (Int ⊕ Bool))
    (hB : ∀ i, B i = if i < (l.length : Int) then (at_ l i).bind (fun z => (at_ r i).bind (fun w => if P z w then gd (I64 (i + 1)) (go (i + 1)) else up (some false))) else up (some true)) : iter B 0 = some (decide (l = r)) := by
  apply Ok.eq
  refine ok_iter (I := fun i => 0 ≤ i ∧ i ≤ l.length ∧ l.take i.toNat = r.take i.toNat) (μ := fun i => (l.length - i).toNat) ?_ ⟨by omega, by omega, rfl⟩
  rintro i ⟨h0, h1, h2⟩
  rw [hB]
  simp only [ok_if, ok_up, ok_bd, ok_gd, ok_go, ok_some, ok_at]
  refine ⟨fun h => ?_, fun h => ?_⟩
  · obtain ⟨z, hz⟩ := at_get h0 h
    obtain ⟨w, hw⟩ := at_get (l := r) h0 (by omega)
    refine ⟨h0, z, hz, h0, w, hw, fun hp => ?_, fun hp => ?_⟩
    · have e := (hP z w).1 hp
      refine ⟨⟨by omega, by omega⟩, ⟨by omega, by omega, ?_⟩, by omega⟩
      rw [show (i + 1).toNat = i.toNat + 1 by omega, List.take_add_one, List.take_add_one, h2, hz, hw, e]
    · have e : z ≠ w := fun e => hp ((hP z w).2 e)
      refine (decide_eq_false fun q => e ?_).symm
      subst q
      rw [hz] at hw
      exact Option.some.inj hw
  · have e : i.toNat = l.length := by omega
    rw [e, List.take_length] at h2
    rw [show l.length = r.length by omega, List.take_length] at h2
    exact (decide_eq_true h2).symm
end Go.S
end

section
namespace Go.S
theorem get_lt {α : Type} {l : List α} {i : Nat} {x : α} (h : l[i]? = some x) : i < l.length := (List.getElem?_eq_some_iff.1 h).1
theorem at_last {α : Type} (l : List α) (z : α) : (l ++ [z])[(((l ++ [z]).length : Int) - 1).toNat]? = some z := by
  rw [show ((((l ++ [z]).length : Int) - 1).toNat) = l.length by simp]
  simp
theorem take_snoc {α : Type} {l : List α} {i : Int} {z : α} (h0 : 0 ≤ i) (h : l[i.toNat]? = some z) : l.take (i + 1).toNat = l.take i.toNat ++ [z] := by
  rw [show (i + 1).toNat = i.toNat + 1 by omega, List.take_add_one, h]; rfl
theorem ok_jnP {S R : Type} {K : S → Option R} {F : (S → Option R) → Option R} {Q : R → Prop} (P : S → Prop) (hK : ∀ s, P s → Ok (K s) Q) (hF : ∀ K' : S → Option R, (∀ s, P s → Ok (K' s) Q) → Ok (F K') Q) : Ok (jn K F) Q := hF K hK
theorem byte_eq {z : UInt8} {n : Nat} (hn : n < 256) : ((z.toNat : Int) = n) ↔ z = UInt8.ofNat n := by
  constructor
  · intro h
    apply UInt8.toNat_inj.1
    simp [Nat.mod_eq_of_lt hn]; omega
  · intro h
    subst h
    simp [Nat.mod_eq_of_lt hn]
theorem mid1 {α : Type} {s : List α} {i : Int} {z : α} (h0 : 0 ≤ i) (h : s[i.toNat]? = some z) : (s.drop i.toNat).take ((i + 1).toNat - i.toNat) = [z] := by
  obtain ⟨h1, h2⟩ := List.getElem?_eq_some_iff.1 h
  rw [show (i + 1).toNat - i.toNat = 1 by omega, List.drop_eq_getElem_cons h1, h2]
  rfl
end Go.S
end

section
namespace Go.S
open Go
def Fst {α : Type} (p : α → Bool) (l : List α) (r : Int) : Prop := (r = -1 ∧ ∀ z ∈ l, p z = false) ∨ ∃ k : Nat, r = k ∧ k < l.length ∧ (∀ z ∈ l.take k, p z = false) ∧ ∃ z, l[k]? = some z ∧ p z = true
theorem ixloop {α : Type} (p : α → Bool) (l : List α) (hb : l.length ≤ 1000000000) (F : α → Option Bool) (hF : ∀ z ∈ l, F z = some (p z)) (B : Int → Option (Int ⊕ Int))
    (hB : ∀ i, B i = if i < (l.length : Int) then (at_ l i).bind (fun z => (F z).bind (fun y => if y = true then up (some i) else gd (I64 (i + 1)) (go (i + 1)))) else up (some (-1))) : Ok (iter B 0) (Fst p l) := by
  refine ok_iter (I := fun i => 0 ≤ i ∧ i ≤ l.length ∧ ∀ z ∈ l.take i.toNat, p z = false) (μ := fun i => (l.length - i).toNat) ?_ ⟨by omega, by omega, by simp⟩
  rintro i ⟨h0, h1, h2⟩
  rw [hB]
  simp only [ok_if, ok_up, ok_bd, ok_some, ok_at]
  refine ⟨fun h => ?_, fun h => ?_⟩
  · obtain ⟨z, hz⟩ := at_get h0 h
    refine ⟨h0, z, hz, ?_⟩
    rw [hF z (List.mem_of_getElem? hz), ok_some]
    simp only [ok_if, ok_up, ok_gd, ok_go, ok_some]
    refine ⟨fun hp => .inr ⟨i.toNat, by omega, by omega, h2, z, hz, hp⟩, fun hp => ⟨⟨by omega, by omega⟩, ⟨by omega, by omega, fun y hy => ?_⟩, by omega⟩⟩
    rw [take_snoc h0 hz] at hy
    rcases List.mem_append.1 hy with q | q
    · exact h2 y q
    · rw [List.mem_singleton.1 q]; simpa using hp
  · rw [List.take_of_length_le (by omega)] at h2
    exact .inl ⟨rfl, h2⟩
theorem fst_any {α : Type} {p : α → Bool} {l : List α} {r : Int} (h : Fst p l r) : decide (0 ≤ r) = l.any p := by
  rcases h with ⟨rfl, h⟩ | ⟨k, rfl, hk, _, z, hz, hp⟩
  · have : l.any p = false := List.any_eq_false.2 fun z hz => by simp [h z hz]
    rw [this]; rfl
  · have : l.any p = true := List.any_eq_true.2 ⟨z, List.mem_of_getElem? hz, hp⟩
    rw [this]; simp
end Go.S
end

section
namespace Go.S
open Go
def spl (c : UInt8) : List UInt8 → List (List UInt8)
  | [] => [[]]
  | x :: r => if x = c then [] :: spl c r else match spl c r with
    | [] => [[x]]
    | y :: l => (x :: y) :: l
theorem spl_ne (c : UInt8) : ∀ s, spl c s ≠ []
  | [] => by simp [spl]
  | x :: r => by
    unfold spl
    split
    · simp
    · split <;> simp
theorem spl_len (c : UInt8) : ∀ s, (spl c s).length = s.count c + 1
  | [] => by simp [spl]
  | x :: r => by
    have ih := spl_len c r
    unfold spl
    by_cases h : x = c
    · simp [h, ih]
    · rw [if_neg h, List.count_cons_of_ne (by simpa using h)]
      cases hq : spl c r with
      | nil => exact absurd hq (spl_ne c r)
      | cons y l => rw [hq] at ih; simpa using ih
theorem spl_no {c : UInt8} : ∀ {s : List UInt8}, c ∉ s → spl c s = [s]
  | [], _ => rfl
  | x :: r, h => by
    have hx : x ≠ c := fun e => h (by simp [e])
    rw [spl, if_neg hx, spl_no fun e => h (List.mem_cons_of_mem _ e)]
theorem spl_at {c : UInt8} : ∀ {a : List UInt8} (b : List UInt8), c ∉ a → spl c (a ++ c :: b) = a :: spl c b
  | [], b, _ => by simp [spl]
  | x :: a, b, h => by
    have hx : x ≠ c := fun e => h (by simp [e])
    rw [List.cons_append, spl, if_neg hx, spl_at b fun e => h (List.mem_cons_of_mem _ e)]
theorem spl_snoc (c x : UInt8) : ∀ s, ∃ l y, spl c s = l ++ [y] ∧ spl c (s ++ [x]) = if x = c then l ++ [y, []] else l ++ [y ++ [x]]
  | [] => ⟨[], [], rfl, by by_cases h : x = c <;> simp [spl, h]⟩
  | z :: r => by
    obtain ⟨l, y, h1, h2⟩ := spl_snoc c x r
    by_cases hz : z = c
    · refine ⟨[] :: l, y, by simp [spl, hz, h1], ?_⟩
      rw [List.cons_append, spl, if_pos hz, h2]
      split <;> rfl
    · cases l with
      | nil =>
        refine ⟨[], z :: y, by simp [spl, hz, h1], ?_⟩
        rw [List.cons_append, spl, if_neg hz, h2]
        by_cases hx : x = c <;> simp [hx]
      | cons a l =>
        refine ⟨(z :: a) :: l, y, by simp [spl, hz, h1], ?_⟩
        rw [List.cons_append, spl, if_neg hz, h2]
        by_cases hx : x = c <;> simp [hx]
theorem ix_at {c : UInt8} : ∀ {a : List UInt8} (b : List UInt8), c ∉ a → Lib.indexByte (a ++ c :: b) c = a.length
  | [], b, _ => by simp [Lib.indexByte]
  | x :: a, b, h => by
    have hx : (x == c) = false := by simpa using fun e : x = c => h (by simp [e])
    rw [List.cons_append, Lib.indexByte, hx, ix_at b fun e => h (List.mem_cons_of_mem _ e)]
    simp
theorem split_mem {c : UInt8} {s : List UInt8} (h : c ∈ s) : ∃ a b, s = a ++ c :: b ∧ c ∉ a := by
  induction s with
  | nil => cases h
  | cons x r ih =>
    by_cases hx : x = c
    · exact ⟨[], r, by simp [hx], by simp⟩
    · rcases List.mem_cons.1 h with q | q
      · exact absurd q.symm hx
      · obtain ⟨a, b, e, hn⟩ := ih q
        exact ⟨x :: a, b, by simp [e], by simp [hn, Ne.symm hx]⟩
theorem byte_of (c : UInt8) : (c.toNat : Int).toNat.toUInt8 = c := by simp
theorem ixB_eq (s : List UInt8) (c : UInt8) : ixB s (c.toNat : Int) = Lib.indexByte s c := by unfold ixB; rw [byte_of]
theorem index_ok (s : List UInt8) (c : UInt8) : Sh.internal_stringslite_Index s [c] = some (Lib.indexByte s c) := by
  apply Ok.eq
  unfold Sh.internal_stringslite_Index
  simp only [ok_jn, ok_if, ok_bd, ok_some, ok_at]
  refine ⟨fun h => by simp at h, fun _ => ⟨fun h => ?_, fun _ => ⟨fun _ => ⟨by omega, c, rfl, ?_⟩, fun h => by simp at h⟩⟩⟩
  · have : s = [c] := by simpa using (of_decide_eq_true h).symm
    rw [this]; simp [Lib.indexByte]
  · unfold Sh.internal_stringslite_IndexByte
    rw [ixB_eq]; exact Ok.of rfl rfl
theorem sindex_ok (s : List UInt8) (c : UInt8) : Sh.strings_Index s [c] = some (Lib.indexByte s c) := by
  unfold Sh.strings_Index
  rw [index_ok]; rfl
theorem count_ok (s : List UInt8) (c : UInt8) : Sh.strings_Count s [c] = some (s.count c : Int) := by
  apply Ok.eq
  unfold Sh.strings_Count
  rw [if_neg (by simp), if_pos (by simp)]
  simp only [ok_bd, ok_at, ok_some]
  refine ⟨by omega, c, rfl, ?_⟩
  unfold cntB Lib.countByte
  rw [byte_of]
theorem split_ok {s : List UInt8} (c : UInt8) (hs : s.length ≤ 1000000000) : Sh.strings_Split s [c] = some (spl c s) := by
  apply Ok.eq
  unfold Sh.strings_Split Sh.strings_genSplit
  rw [ok_bd]
  have hc : s.count c ≤ s.length := List.count_le_length
  simp only [count_ok, ok_jn, ok_if, ok_bd, ok_gd, ok_lt, ok_some, ok_at]
  refine ⟨fun h => by omega, fun _ => ⟨fun h => by simp at h, fun _ => ⟨fun _ => ?_, fun h => by omega⟩⟩⟩
  have hm : (min ((s.count c : Int) + 1) ((s.length : Int) + 1)) = (s.count c : Int) + 1 := by omega
  rw [hm]
  refine ⟨⟨by omega, by omega⟩, ⟨by omega, by omega⟩, ⟨by omega, by omega⟩, ⟨by omega, by omega⟩, ?_⟩
  refine ok_iter (I := fun t => 0 ≤ t.2.2 ∧ t.2.2 + t.1.count c = s.count c ∧ t.2.1.length = s.count c + 1 ∧ t.2.1.take t.2.2.toNat ++ spl c t.1 = spl c s ∧ t.1.length ≤ s.length) (μ := fun t => t.1.length) ?_ ⟨by simp, by simp, by simp, by simp, by simp⟩
  rintro ⟨x, l, i⟩ ⟨i0, i1, i2, i3, i4⟩
  dsimp only at i0 i1 i2 i3 i4 ⊢
  have fin : c ∉ x → Ok (((at_ l i).bind fun z61_20 => lt (l.set i.toNat x) fun ys4_22 => gd (I64 (i + 1)) (gd ((0 : Int) ≤ (i + 1) ∧ (i + 1) ≤ (ys4_22.length : Int)) (lt (ys4_22.take (i + 1).toNat) fun y65_24 => some y65_24)))) (fun a => a = spl c s) := fun hx => by
    rw [spl_no hx] at i3
    rw [List.count_eq_zero_of_not_mem hx] at i1
    simp only [ok_bd, ok_gd, ok_lt, ok_some, ok_at]
    obtain ⟨z, hz⟩ := at_get (l := l) i0 (by omega)
    refine ⟨i0, z, hz, ⟨by omega, by omega⟩, ⟨by omega, by rw [List.length_set]; omega⟩, ?_⟩
    rw [← i3, show (i + 1).toNat = i.toNat + 1 by omega, List.take_add_one, List.getElem?_set, if_pos rfl, if_pos (get_lt hz), List.take_set_of_le (Nat.le_refl _)]
    simp
  simp only [ok_jn, ok_if, ok_up, ok_bd, ok_gd, ok_lt, ok_go, ok_some, ok_at, sindex_ok] at fin ⊢
  refine ⟨fun hi => ?_, fun hi => ?_⟩
  · have hmem : c ∈ x := List.count_pos_iff.1 (by omega)
    obtain ⟨a, b, e, ha⟩ := split_mem hmem
    subst e
    rw [ix_at b ha]
    have hl : (a ++ c :: b).length = a.length + b.length + 1 := by simp; omega
    have hcb : (a ++ c :: b).count c = b.count c + 1 := by simp [List.count_eq_zero_of_not_mem ha]
    obtain ⟨z, hz⟩ := at_get (l := l) i0 (by omega)
    refine ⟨fun h => by omega, fun _ => ⟨⟨by omega, by omega⟩, ⟨by omega, by omega⟩, i0, z, hz, ⟨by simp; omega, by simp; omega⟩, ⟨by simp; omega, by simp; omega⟩, ⟨by omega, by omega⟩, ⟨by omega, ?_, by simpa using i2, ?_, ?_⟩, ?_⟩⟩
    · simp only [List.length_cons, List.length_nil]
      rw [show ((a.length : Int) + ((0 + 1 : Nat) : Int)).toNat = a.length + 1 by omega]
      have : (a ++ c :: b).drop (a.length + 1) = b := by simp
      rw [this]; omega
    · simp only [List.length_cons, List.length_nil]
      rw [show ((a.length : Int) + ((0 + 1 : Nat) : Int)).toNat = a.length + 1 by omega, show ((a.length : Int) + 0).toNat = a.length by omega]
      have e1 : (a ++ c :: b).drop (a.length + 1) = b := by simp
      have e2 : (a ++ c :: b).take a.length = a := by simp
      rw [e1, e2, ← i3, spl_at b ha, show (i + 1).toNat = i.toNat + 1 by omega, List.take_add_one, List.getElem?_set, if_pos rfl, if_pos (get_lt hz), List.take_set_of_le (Nat.le_refl _)]
      simp
    · simp; omega
    · simp; omega
  · exact fin fun hm => by have := List.count_pos_iff.2 hm; omega
theorem spl_part (c : UInt8) : ∀ (s : List UInt8), ∀ y ∈ spl c s, y.length ≤ s.length
  | [], y, h => by simp [spl] at h; simp [h]
  | x :: r, y, h => by
    have ih := spl_part c r
    unfold spl at h
    split at h
    · rcases List.mem_cons.1 h with q | q
      · simp [q]
      · have := ih y q; simp; omega
    · split at h
      · have := List.mem_singleton.1 h; simp [this]
      · next a l hq =>
        rcases List.mem_cons.1 h with q | q
        · have := ih a (by rw [hq]; simp); simp [q]; omega
        · have := ih y (by rw [hq]; simp [q]); simp; omega
end Go.S
end

section
namespace Go.S
open Go
def goodN (n : Nat) : Bool := decide (97 ≤ n ∧ n ≤ 122) || decide (48 ≤ n ∧ n ≤ 57) || decide (n = 46) || decide (n = 45) || decide (n = 95)
theorem good_all : ∀ i : Fin 256, Sh.path_good ((i.val : Nat) : Int) = some (goodN i.val) ∧ Sh.rectoref1_good ((i.val : Nat) : Int) = some (goodN i.val) := by decide +kernel
theorem good_ok (z : UInt8) : Sh.path_good (z.toNat : Int) = some (goodN z.toNat) := (good_all ⟨z.toNat, z.toNat_lt⟩).1
theorem rgood_ok (z : UInt8) : Sh.rectoref1_good (z.toNat : Int) = some (goodN z.toNat) := (good_all ⟨z.toNat, z.toNat_lt⟩).2
def partS (s : List UInt8) : Bool := !(decide (s = []) || decide (s = [46]) || decide (s = [46, 46])) && s.all fun z => goodN z.toNat
theorem all_snoc {α : Type} (p : α → Bool) (l : List α) (z : α) : (l ++ [z]).all p = (l.all p && p z) := by simp
theorem all_false {α : Type} {p : α → Bool} {l : List α} {z : α} (hz : z ∈ l) (h : p z = false) : l.all p = false := by
  cases hq : l.all p with
  | false => rfl
  | true => rw [List.all_eq_true.1 hq z hz] at h; cases h
theorem part_ok {s : List UInt8} (hs : s.length ≤ 1000000000) : Sh.path_part s = some (partS s) := by
  apply Ok.eq
  unfold Sh.path_part partS
  refine ok_jnP (fun q => q = (decide (s = []) || decide (s = [46]) || decide (s = [46, 46]))) ?_ ?_
  · rintro q rfl
    generalize (decide (s = []) || decide (s = [46]) || decide (s = [46, 46])) = q
    simp only [ok_if, ok_some, ok_gd, ok_lt]
    refine ⟨fun h => by rw [h]; rfl, fun h => ⟨by omega, ?_⟩⟩
    have hq : q = false := by simpa using h
    subst hq
    rw [Bool.not_false, Bool.true_and]
    refine ok_iter (I := fun i => 0 ≤ i ∧ i ≤ s.length ∧ (s.take i.toNat).all (fun z => goodN z.toNat) = true) (μ := fun i => (s.length - i).toNat) ?_ ⟨by omega, by omega, by simp⟩
    rintro i ⟨i0, i1, i2⟩
    simp only [ok_if, ok_up, ok_bd, ok_gd, ok_go, ok_some, ok_at, good_ok]
    refine ⟨fun hi => ?_, fun hi => ?_⟩
    · obtain ⟨z, hz⟩ := at_get (l := s) i0 hi
      refine ⟨i0, z, hz, fun hb => ?_, fun hg => ⟨⟨by omega, by omega⟩, ⟨by omega, by omega, ?_⟩, by omega⟩⟩
      · exact (all_false (p := fun z : UInt8 => goodN z.toNat) (List.mem_of_getElem? hz) (by simpa using hb)).symm
      · rw [take_snoc i0 hz, all_snoc, i2]; simpa using hg
    · rw [← i2, show i.toNat = s.length by omega, List.take_length]
  · intro K hK
    simp only [ok_if]
    refine ⟨fun h => hK _ (by simp [h]), fun h1 => ⟨fun h => hK _ (by simp [h]), fun h2 => hK _ (by simp [h1, h2])⟩⟩
def checkP (p : List UInt8) : Int := if 64 < p.length then 4 else if (spl 47 p).all partS then 0 else 5
theorem pcheck_ok (p : List UInt8) : Sh.path_Check p = some (checkP p) := by
  apply Ok.eq
  unfold Sh.path_Check checkP
  simp only [ok_if, ok_some]
  refine ⟨fun h => by rw [if_pos (by omega)], fun h => ?_⟩
  rw [if_neg (by omega), split_ok 47 (by omega), Option.bind_some]
  have hpart := spl_part 47 p
  have hlen := spl_len 47 p
  have hcnt : p.count 47 ≤ p.length := List.count_le_length
  generalize spl 47 p = L at *
  refine ok_iter (I := fun i => 0 ≤ i ∧ i ≤ L.length ∧ (L.take i.toNat).all partS = true) (μ := fun i => (L.length - i).toNat) ?_ ⟨by omega, by omega, by simp⟩
  rintro i ⟨i0, i1, i2⟩
  simp only [ok_if, ok_up, ok_bd, ok_gd, ok_go, ok_some, ok_at]
  refine ⟨fun hi => ?_, fun hi => ?_⟩
  · obtain ⟨z, hz⟩ := at_get (l := L) i0 hi
    have := hpart z (List.mem_of_getElem? hz)
    refine ⟨i0, z, hz, Ok.of (part_ok (by omega)) ⟨fun hb => ?_, fun hg => ⟨⟨by omega, by omega⟩, ⟨by omega, by omega, ?_⟩, by omega⟩⟩⟩
    · rw [all_false (List.mem_of_getElem? hz) (by simpa using hb)]; rfl
    · rw [take_snoc i0 hz, all_snoc, i2]; simpa using hg
  · rw [show i.toNat = L.length by omega, List.take_length] at i2
    rw [i2]; rfl
theorem parts_ok {s : List UInt8} (hne : s ≠ []) (hs : s.length ≤ 1000000) : Sh.rectoref1_Parts s = some (spl 47 s) := by
  apply Ok.eq
  unfold Sh.rectoref1_Parts
  rw [if_neg hne, ok_lt]
  refine ok_iter (I := fun t => 0 ≤ t.2 ∧ t.2 ≤ s.length ∧ t.1 = spl 47 (s.take t.2.toNat)) (μ := fun t => (s.length - t.2).toNat) ?_ ⟨by simp, by simp, by simp [spl]⟩
  rintro ⟨o, i⟩ ⟨i0, i1, i2⟩
  dsimp only at i0 i1 i2 ⊢
  simp only [ok_jn, ok_if, ok_up, ok_bd, ok_gd, ok_lt, ok_go, ok_some, ok_at]
  refine ⟨fun hi => ?_, fun hi => ?_⟩
  · obtain ⟨z, hz⟩ := at_get (l := s) i0 hi
    obtain ⟨l, y, h1, h2⟩ := spl_snoc 47 z (s.take i.toNat)
    rw [← take_snoc i0 hz] at h2
    rw [← i2] at h1
    have hlen : o.length ≤ s.length + 1 := by
      rw [i2, spl_len]
      have : (s.take i.toNat).count 47 ≤ (s.take i.toNat).length := List.count_le_length
      rw [List.length_take] at this; omega
    subst h1
    have hl1 : (l ++ [y]).length = l.length + 1 := by simp
    refine ⟨i0, z, hz, fun hb => ?_, fun hb => ?_⟩
    · have hz10 : z = 47 := (byte_eq (n := 47) (by decide)).1 hb
      refine ⟨by simp; omega, ⟨by omega, by omega⟩, ⟨by omega, by omega, ?_⟩, by omega⟩
      rw [h2, if_pos hz10]; simp
    · have hz10 : ¬ z = 47 := fun e => hb ((byte_eq (n := 47) (by decide)).2 e)
      have hyl : y.length ≤ s.length := by
        have := spl_part 47 (s.take i.toNat) y (by rw [← i2]; simp)
        rw [List.length_take] at this; omega
      rw [at_last]
      refine ⟨⟨by omega, by omega⟩, ⟨by omega, by omega⟩, by omega, y, rfl, ⟨by omega, by omega⟩, ⟨i0, by omega, by omega⟩, ?_⟩
      rw [mid1 i0 hz]
      refine ⟨by simp; omega, by omega, y, rfl, ⟨by omega, by omega⟩, ⟨by omega, by omega, ?_⟩, by omega⟩
      rw [h2, if_neg hz10, show ((((l ++ [y]).length : Int) - 1).toNat) = l.length by simp]
      simp
  · rw [i2, show i.toNat = s.length by omega, List.take_length]
theorem rpcheck_ok (p : List UInt8) : Sh.rectoref1_Check p = some (checkP p) := by
  apply Ok.eq
  unfold Sh.rectoref1_Check checkP
  simp only [ok_if, ok_some]
  refine ⟨fun h => by rw [if_pos (by omega)], fun h => ?_⟩
  rw [if_neg (by omega)]
  by_cases hne : p = []
  · subst hne; exact Ok.of (a := (5 : Int)) rfl rfl
  rw [parts_ok hne (by omega), Option.bind_some]
  have hpart := spl_part 47 p
  have hlen := spl_len 47 p
  have hcnt : p.count 47 ≤ p.length := List.count_le_length
  generalize spl 47 p = L at *
  rw [if_neg (by omega)]
  refine ok_iter (I := fun i => 0 ≤ i ∧ i ≤ L.length ∧ (L.take i.toNat).all partS = true) (μ := fun i => (L.length - i).toNat) ?_ ⟨by omega, by omega, by simp⟩
  rintro i ⟨i0, i1, i2⟩
  simp only [ok_if, ok_up, ok_some]
  refine ⟨fun hi => ?_, fun hi => ?_⟩
  · obtain ⟨s, hs⟩ := at_get (l := L) i0 hi
    have hsl := hpart s (List.mem_of_getElem? hs)
    refine ok_jnP (fun _ => partS s = true) ?_ ?_
    · intro _ hg
      simp only [ok_gd, ok_go]
      refine ⟨⟨by omega, by omega⟩, ⟨by omega, by omega, ?_⟩, by omega⟩
      rw [take_snoc i0 hs, all_snoc, i2, hg]; rfl
    · intro K hK
      have bad : partS s = false → (5 : Int) = if L.all partS = true then 0 else 5 := fun q => by rw [all_false (List.mem_of_getElem? hs) q]; rfl
      refine ok_jnP (fun q => q = (decide (s = []) || decide (s = [46]) || decide (s = [46, 46]))) ?_ ?_
      · intro q hq
        simp only [ok_if, ok_up, ok_some]
        refine ⟨fun h => bad (by unfold partS; rw [← hq, h]; rfl), fun h => ?_⟩
        have hq' : q = false := by simpa using h
        have hP : partS s = s.all fun z => goodN z.toNat := by unfold partS; rw [← hq, hq']; simp
        refine ok_iter (I := fun k => 0 ≤ k ∧ k ≤ s.length ∧ (s.take k.toNat).all (fun z => goodN z.toNat) = true) (μ := fun k => (s.length - k).toNat) ?_ ⟨by omega, by omega, by simp⟩
        rintro k ⟨k0, k1, k2⟩
        simp only [ok_if, ok_up, ok_bd, ok_gd, ok_go, ok_some, ok_at, rgood_ok]
        refine ⟨i0, s, hs, fun hk => ?_, fun hk => hK () ?_⟩
        · obtain ⟨z, hz⟩ := at_get (l := s) k0 hk
          refine ⟨i0, s, hs, k0, z, hz, fun hb => bad ?_, fun hg => ⟨⟨by omega, by omega⟩, ⟨by omega, by omega, ?_⟩, by omega⟩⟩
          · rw [hP]; exact all_false (p := fun z : UInt8 => goodN z.toNat) (List.mem_of_getElem? hz) (by simpa using hb)
          · rw [take_snoc k0 hz, all_snoc, k2]; simpa using hg
        · rw [hP, ← k2, show k.toNat = s.length by omega, List.take_length]
      · intro K2 hK2
        simp only [ok_if, ok_bd, ok_at]
        refine ⟨i0, s, hs, fun h => hK2 _ (by simp [h]), fun h1 => ⟨i0, s, hs, fun h => hK2 _ (by simp [h]), fun h2 => ⟨i0, s, hs, hK2 _ (by simp [h1, h2])⟩⟩⟩
  · rw [show i.toNat = L.length by omega, List.take_length] at i2
    rw [i2]; rfl
def underS (p d : List UInt8) : Bool := if d = [] then !decide (p = []) else decide (d.length + 1 < p.length ∧ p.take (d.length + 1) = d ++ [47])
theorem under_ok {p d : List UInt8} (hd : d.length ≤ 1000000000) : Sh.path_Under p d = some (underS p d) := by
  apply Ok.eq
  unfold Sh.path_Under underS Sh.strings_HasPrefix Sh.internal_stringslite_HasPrefix
  simp only [ok_if, ok_some, ok_gd, ok_lt, ok_bd]
  refine ⟨fun h => by rw [if_pos h], fun h => ⟨⟨by omega, by omega⟩, fun hl => ⟨by simp; omega, ?_⟩, fun hl => ?_⟩⟩
  · rw [if_neg h]
    refine ⟨fun hp => ⟨⟨by omega, by simpa using hp⟩, ?_⟩, fun hp => ?_⟩
    · simp only [List.length_append, List.length_singleton]
      rw [show (((d.length + 1 : Nat)) : Int).toNat = d.length + 1 by omega]
      exact decide_eq_decide.2 ⟨fun q => ⟨by omega, q⟩, fun q => q.2⟩
    · simp at hp; omega
  · rw [if_neg h]
    symm; exact decide_eq_false (by omega)
theorem runder_ok {p d : List UInt8} (hd : d.length ≤ 1000000000) : Sh.rectoref1_Under p d = some (underS p d) := by
  apply Ok.eq
  unfold Sh.rectoref1_Under underS
  simp only [ok_if, ok_some, ok_gd, ok_lt, ok_bd, ok_at]
  refine ⟨fun h => by rw [if_pos h], fun h => ⟨⟨by omega, by omega⟩, fun hl => ⟨⟨by omega, by omega⟩, fun ht => ?_, fun ht => ?_⟩, fun hl => ?_⟩⟩
  · rw [if_neg h]
    rw [Int.toNat_natCast] at ht
    obtain ⟨z, hz⟩ := at_get (l := p) (i := d.length) (by omega) (by omega)
    refine ⟨by omega, z, hz, ?_⟩
    rw [Int.toNat_natCast] at hz
    rw [List.take_add_one, ht, hz]
    refine decide_eq_decide.2 ⟨fun q => ⟨by omega, ?_⟩, fun q => ?_⟩
    · have : z = 47 := (byte_eq (n := 47) (by decide)).1 q
      rw [this]; rfl
    · have := q.2
      simp at this
      rw [this]; rfl
  · rw [if_neg h]
    rw [Int.toNat_natCast] at ht
    symm
    refine decide_eq_false fun q => ht ?_
    have := congrArg (List.take d.length) q.2
    rw [List.take_take, Nat.min_eq_left (by omega), List.take_left] at this
    exact this
  · rw [if_neg h]
    symm; exact decide_eq_false (by omega)
def clashS (a b : List UInt8) : Bool := decide (a ≠ []) && decide (b ≠ []) && (underS a b || underS b a)
theorem clash_ok {a b : List UInt8} (ha : a.length ≤ 1000000000) (hb : b.length ≤ 1000000000) : Sh.path_Clash a b = some (clashS a b) := by
  apply Ok.eq
  unfold Sh.path_Clash clashS
  simp only [ok_if, ok_some, ok_bd, under_ok ha, under_ok hb]
  refine ⟨fun h => by simp [h], fun h => ⟨fun h2 => by simp [h2], fun h2 => ⟨fun h3 => by simp [h, h2, h3], fun h3 => by simp [h, h2, h3]⟩⟩⟩
theorem rclash_ok {a b : List UInt8} (ha : a.length ≤ 1000000000) (hb : b.length ≤ 1000000000) : Sh.rectoref1_Clash a b = some (clashS a b) := by
  apply Ok.eq
  unfold Sh.rectoref1_Clash clashS
  simp only [ok_if, ok_some, ok_bd, runder_ok ha, runder_ok hb]
  refine ⟨fun h => by simp [h], fun h => ⟨fun h2 => by simp [h2], fun h2 => ⟨fun h3 => by simp [h, h2, h3], fun h3 => by simp [h, h2, h3]⟩⟩⟩
end Go.S
end

section
namespace Go.S
open Go
set_option maxRecDepth 100000
theorem clip14 (l : List FilesFile) : Sh.slices_Clip_files_Row_files_File l = some l := by
  unfold Sh.slices_Clip_files_Row_files_File
  simp [lt, gd]
theorem clipS14 (l : List (List UInt8)) : Sh.slices_Clip_string_string l = some l := by
  unfold Sh.slices_Clip_string_string
  simp [lt, gd]
theorem pcmp14 (a b : List UInt8) : Sh.path_Compare a b = some (if a < b then -1 else if b < a then 1 else 0) := by
  unfold Sh.path_Compare Sh.cmp_Compare_string Sh.cmp_isNaN_string
  simp only [Option.bind_some, decide_true, Bool.not_true, Bool.false_eq_true, if_false, Go.Proofs.bytesLess_eq, decide_eq_true_eq]
  by_cases h1 : a < b
  · simp [h1]
  · simp only [h1, if_false, decide_false, Bool.false_or]
    by_cases h2 : a = b
    · subst h2; simp [List.lt_irrefl]
    · have h3 : b < a := by
        by_cases q : b < a
        · exact q
        · exact absurd (List.le_antisymm (List.not_lt.1 q) (List.not_lt.1 h1)) h2
      simp [h2, h3]
theorem half_ok {s : Int} (h0 : 0 ≤ s) (h1 : s ≤ 4000000000) : IntKind.wrap .i64 (sHr .u64 (IntKind.wrap .u64 s) 1) = s / 2 := by
  have e1 : IntKind.wrap .u64 s = s := IntWalk.u64_in _ (by omega)
  rw [e1]
  have e2 : sHr .u64 s 1 = s / 2 := by
    unfold sHr
    show s.fdiv (2 ^ 1) = s / 2
    rw [Int.fdiv_eq_ediv_of_nonneg s (by decide)]
    rfl
  rw [e2]
  exact IntWalk.i64_in _ (by omega)
def R (l : List FilesFile) : Prop := l.Pairwise (fun a b => a.path < b.path)
theorem R.sub {l l' : List FilesFile} (h : R l) (s : l'.Sublist l) : R l' := List.Pairwise.sublist s h
theorem R.uniq {l : List FilesFile} (h : R l) {a b : FilesFile} (ha : a ∈ l) (hb : b ∈ l) (e : a.path = b.path) : a = b := by
  obtain ⟨i, hi⟩ := List.getElem?_of_mem ha
  obtain ⟨j, hj⟩ := List.getElem?_of_mem hb
  obtain ⟨hi1, hi2⟩ := List.getElem?_eq_some_iff.1 hi
  obtain ⟨hj1, hj2⟩ := List.getElem?_eq_some_iff.1 hj
  rcases Nat.lt_trichotomy i j with q | q | q
  · have := List.pairwise_iff_getElem.1 h i j hi1 hj1 q
    rw [hi2, hj2, e] at this
    exact absurd this (List.lt_irrefl _)
  · subst q; rw [← hi2, ← hj2]
  · have := List.pairwise_iff_getElem.1 h j i hj1 hi1 q
    rw [hi2, hj2, e] at this
    exact absurd this (List.lt_irrefl _)
theorem R.ext {l l' : List FilesFile} (h : R l) (h' : R l') (m : ∀ z, z ∈ l ↔ z ∈ l') : l = l' := by
  have nd : ∀ {l : List FilesFile}, R l → l.Nodup := fun {l} h => by
    unfold R at h
    exact List.Pairwise.imp (fun {a b} (q : a.path < b.path) (e : a = b) => List.lt_irrefl b.path (e ▸ q)) h
  refine List.Perm.eq_of_pairwise (le := fun a b => a.path ≤ b.path) (fun a b ha hb h1 h2 => h.uniq ha ((m b).2 hb) (List.le_antisymm h1 h2)) (h.imp fun q => List.le_of_lt q) (h'.imp fun q => List.le_of_lt q) ((List.perm_ext_iff_of_nodup (nd h) (nd h')).2 m)
def gt (l : List FilesFile) (p : List UInt8) : Option FilesFile := l.find? (fun f => decide (f.path = p))
theorem gt_some {l : List FilesFile} (h : R l) {p : List UInt8} {z : FilesFile} : gt l p = some z ↔ z ∈ l ∧ z.path = p := by
  unfold gt
  constructor
  · intro q
    exact ⟨List.mem_of_find?_eq_some q, by simpa using List.find?_some q⟩
  · rintro ⟨hz, rfl⟩
    cases hq : l.find? (fun f => decide (f.path = z.path)) with
    | none => have := List.find?_eq_none.1 hq z hz; simp at this
    | some y =>
      have h1 := List.mem_of_find?_eq_some hq
      have h2 : y.path = z.path := by simpa using List.find?_some hq
      rw [h.uniq h1 hz h2]
theorem gt_none {l : List FilesFile} {p : List UInt8} : gt l p = none ↔ ∀ z ∈ l, z.path ≠ p := by
  unfold gt
  rw [List.find?_eq_none]
  simp
structure At (x : List FilesFile) (p : List UInt8) (i : Int) : Prop where
  i0 : 0 ≤ i
  i1 : i ≤ x.length
  lo : ∀ f ∈ x.take i.toNat, f.path < p
  hi : ∀ f ∈ x.drop i.toNat, ¬ f.path < p
theorem R.take_lt {x : List FilesFile} (h : R x) {i : Nat} {z : FilesFile} (hz : x[i]? = some z) : ∀ f ∈ x.take i, f.path < z.path := fun f hf => by
  obtain ⟨j, hj⟩ := List.getElem?_of_mem hf
  rw [List.getElem?_take] at hj
  split at hj
  · next q =>
    obtain ⟨a1, a2⟩ := List.getElem?_eq_some_iff.1 hj
    obtain ⟨b1, b2⟩ := List.getElem?_eq_some_iff.1 hz
    have := List.pairwise_iff_getElem.1 h j i a1 b1 q
    rwa [a2, b2] at this
  · cases hj
theorem R.drop_gt {x : List FilesFile} (h : R x) {i : Nat} {z : FilesFile} (hz : x[i]? = some z) : ∀ f ∈ x.drop (i + 1), z.path < f.path := fun f hf => by
  obtain ⟨j, hj⟩ := List.getElem?_of_mem hf
  rw [List.getElem?_drop] at hj
  obtain ⟨a1, a2⟩ := List.getElem?_eq_some_iff.1 hj
  obtain ⟨b1, b2⟩ := List.getElem?_eq_some_iff.1 hz
  have := List.pairwise_iff_getElem.1 h i (i + 1 + j) b1 a1 (by omega)
  rwa [a2, b2] at this
theorem drop_cons' {α : Type} {x : List α} {i : Nat} {z : α} (hz : x[i]? = some z) : x.drop i = z :: x.drop (i + 1) := by
  obtain ⟨b1, b2⟩ := List.getElem?_eq_some_iff.1 hz
  rw [List.drop_eq_getElem_cons b1, b2]
theorem find14 {x : List FilesFile} (h : R x) (hb : x.length ≤ 100000000) (p : List UInt8) : Ok (Sh.files_Row_find x p) fun r => At x p r.1 ∧ (r.2 = true ↔ ∃ z, x[r.1.toNat]? = some z ∧ z.path = p) := by
  unfold Sh.files_Row_find Sh.slices_BinarySearchFunc_files_Row_files_File_string
  rw [ok_bd]
  refine ok_iter (I := fun t => 0 ≤ t.1 ∧ t.1 ≤ t.2 ∧ t.2 ≤ x.length ∧ (∀ f ∈ x.take t.1.toNat, f.path < p) ∧ (∀ f ∈ x.drop t.2.toNat, ¬ f.path < p)) (μ := fun t => (t.2 - t.1).toNat) ?_ ⟨by simp, by simp, by simp, by simp, by simp⟩
  rintro ⟨i, j⟩ ⟨i0, i1, i2, i3, i4⟩
  dsimp only at i0 i1 i2 i3 i4 ⊢
  simp only [ok_if, ok_up, ok_gd]
  refine ⟨fun hij => ⟨⟨by omega, by omega⟩, ?_⟩, fun hij => ?_⟩
  · rw [half_ok (by omega) (by omega)]
    obtain ⟨z, hz⟩ := at_get (l := x) (i := (i + j) / 2) (by omega) (by omega)
    rw [ok_bd, ok_at]
    refine ⟨by omega, z, hz, ?_⟩
    unfold Sh.files_Row_find_1
    rw [pcmp14, Option.bind_some, Option.bind_some]
    simp only [ok_if, ok_gd, ok_go]
    refine ⟨fun hc => ⟨⟨by omega, by omega⟩, ⟨by omega, by omega, by omega, fun f hf => ?_, i4⟩, by omega⟩, fun hc => ⟨⟨i0, by omega, by omega, i3, fun f hf => ?_⟩, by omega⟩⟩
    · have hzp : z.path < p := by
        by_cases q : z.path < p
        · exact q
        · rw [if_neg q] at hc; split at hc <;> omega
      rw [show ((i + j) / 2 + 1).toNat = ((i + j) / 2).toNat + 1 by omega, List.take_add_one, hz] at hf
      rcases List.mem_append.1 hf with q | q
      · exact List.lt_trans (h.take_lt hz f q) hzp
      · have : f = z := by simpa using q
        rw [this]; exact hzp
    · have hzp : ¬ z.path < p := fun q => hc (by rw [if_pos q]; omega)
      rw [drop_cons' hz] at hf
      rcases List.mem_cons.1 hf with q | q
      · rw [q]; exact hzp
      · intro hlt
        exact hzp (List.lt_trans (h.drop_gt hz f q) hlt)
  · have hji : j = i := by omega
    subst hji
    simp only [ok_bd, ok_at, ok_some]
    refine ⟨fun hl => ?_, fun hl => ⟨⟨i0, i2, i3, i4⟩, ?_⟩⟩
    · obtain ⟨z, hz⟩ := at_get (l := x) i0 hl
      refine ⟨i0, z, hz, ?_⟩
      unfold Sh.files_Row_find_1
      rw [pcmp14, Option.bind_some, ok_some]
      refine ⟨⟨i0, i2, i3, i4⟩, ?_⟩
      rw [decide_eq_true_eq]
      have hnl : ¬ z.path < p := i4 z (by rw [drop_cons' hz]; exact List.mem_cons_self ..)
      rw [if_neg hnl]
      constructor
      · intro q
        refine ⟨z, hz, ?_⟩
        by_cases hp : p < z.path
        · rw [if_pos hp] at q; omega
        · exact List.le_antisymm (List.not_lt.1 hp) (List.not_lt.1 hnl)
      · rintro ⟨y, hy, rfl⟩
        rw [hz] at hy; cases hy
        rw [if_neg (List.lt_irrefl _)]
    · simp only [Bool.false_eq_true, false_iff]
      rintro ⟨z, hz, _⟩
      have := get_lt hz
      omega
theorem At.none {x : List FilesFile} {p : List UInt8} {i : Int} (h : R x) (a : At x p i) (hn : ¬ ∃ z, x[i.toNat]? = some z ∧ z.path = p) : ∀ z ∈ x, z.path ≠ p := fun z hz e => by
  rw [← List.take_append_drop i.toNat x] at hz
  rcases List.mem_append.1 hz with q | q
  · exact List.lt_irrefl p (e ▸ a.lo z q)
  · obtain ⟨y, hy⟩ : ∃ y, x[i.toNat]? = some y := by
      cases hq : x[i.toNat]? with
      | some y => exact ⟨y, rfl⟩
      | none =>
        have := List.getElem?_eq_none_iff.1 hq
        rw [List.drop_of_length_le this] at q; cases q
    have hyp : y.path ≠ p := fun e' => hn ⟨y, hy, e'⟩
    rw [drop_cons' hy] at q
    rcases List.mem_cons.1 q with q | q
    · rw [q] at e; exact hyp e
    · have h1 := h.drop_gt hy z q
      rw [e] at h1
      have h2 := a.hi y (by rw [drop_cons' hy]; exact List.mem_cons_self ..)
      exact h2 h1
def getF (x : List FilesFile) (p : List UInt8) : FilesFile × Bool := match gt x p with | some f => (f, true) | none => (⟨[], 0, []⟩, false)
theorem getF_some {x : List FilesFile} {p : List UInt8} {f : FilesFile} (h : gt x p = some f) : getF x p = (f, true) := by unfold getF; rw [h]
theorem getF_none {x : List FilesFile} {p : List UInt8} (h : gt x p = none) : getF x p = (⟨[], 0, []⟩, false) := by unfold getF; rw [h]
theorem get14 {x : List FilesFile} (h : R x) (hb : x.length ≤ 100000000) (p : List UInt8) : Sh.files_Row_Get x p = some (getF x p) := by
  apply Ok.eq
  unfold Sh.files_Row_Get
  refine ok_bd.2 ((find14 h hb p).mono fun r ⟨ha, hr⟩ => ?_)
  simp only [ok_if, ok_some]
  refine ⟨fun hn => ?_, fun hn => ?_⟩
  · have hf : ¬ r.2 = true := by simpa using hn
    have := ha.none h fun q => hf (hr.2 q)
    rw [getF_none (gt_none.2 this)]
  · have hf : r.2 = true := by simpa using hn
    obtain ⟨z, hz, hp⟩ := hr.1 hf
    rw [ok_bd, ok_at]
    refine ⟨ha.i0, z, hz, ?_⟩
    rw [ok_some, getF_some ((gt_some h).2 ⟨List.mem_of_getElem? hz, hp⟩)]
def putF (r : List FilesFile) (f : FilesFile) : List FilesFile := r.filter (fun z => decide (z.path < f.path)) ++ [f] ++ r.filter (fun z => decide (f.path < z.path))
theorem putF_mem (x : List FilesFile) (f z : FilesFile) : z ∈ putF x f ↔ z = f ∨ z ∈ x ∧ z.path ≠ f.path := by
  unfold putF
  simp only [List.mem_append, List.mem_singleton, List.mem_filter, decide_eq_true_eq]
  constructor
  · rintro ((⟨a, b⟩ | a) | ⟨a, b⟩)
    · exact .inr ⟨a, fun e => List.lt_irrefl _ (e ▸ b)⟩
    · exact .inl a
    · exact .inr ⟨a, fun e => List.lt_irrefl _ (e ▸ b)⟩
  · rintro (a | ⟨a, b⟩)
    · exact .inl (.inr a)
    · by_cases q : z.path < f.path
      · exact .inl (.inl ⟨a, q⟩)
      · by_cases q2 : f.path < z.path
        · exact .inr ⟨a, q2⟩
        · exact absurd (List.le_antisymm (List.not_lt.1 q2) (List.not_lt.1 q)) b
theorem putF_R {x : List FilesFile} (h : R x) (f : FilesFile) : R (putF x f) := by
  unfold putF R
  rw [List.append_assoc, List.pairwise_append]
  refine ⟨h.sub List.filter_sublist, ?_, fun a ha b hb => ?_⟩
  · refine List.pairwise_append.2 ⟨List.pairwise_singleton _ _, h.sub List.filter_sublist, fun a ha b hb => ?_⟩
    rw [List.mem_singleton.1 ha]
    exact of_decide_eq_true (List.mem_filter.1 hb).2
  · have h1 : a.path < f.path := of_decide_eq_true (List.mem_filter.1 ha).2
    rcases List.mem_append.1 hb with q | q
    · rw [List.mem_singleton.1 q]; exact h1
    · have h2 : f.path < b.path := of_decide_eq_true (List.mem_filter.1 q).2
      exact List.lt_trans h1 h2
end Go.S
end

section
namespace Go.S
open Go
def vF (f : FilesFile) : Prop := checkP f.path = 0 ∧ (f.mode = 1 ∨ f.mode = 2) ∧ f.data.length ≤ 4096
theorem checkP_len {p : List UInt8} (h : checkP p = 0) : p.length ≤ 64 := by
  unfold checkP at h
  split at h
  · omega
  · omega
structure GoodF (x : List FilesFile) : Prop where
  v : ∀ f ∈ x, vF f
  r : R x
  c : x.Pairwise (fun a b => clashS a.path b.path = false)
theorem GoodF.sub {l l' : List FilesFile} (h : GoodF l) (s : l'.Sublist l) : GoodF l' := ⟨fun f hf => h.v f (s.subset hf), h.r.sub s, List.Pairwise.sublist s h.c⟩
theorem clash_comm (a b : List UInt8) : clashS a b = clashS b a := by
  unfold clashS
  rw [Bool.or_comm (underS a b), Bool.and_comm (decide (a ≠ []))]
theorem clash_self (a : List UInt8) : clashS a a = false := by
  unfold clashS underS
  by_cases h : a = [] <;> simp [h]
  intro _
  omega
theorem fix14 (l : List FilesFile) (f : FilesFile) (hb : l.length ≤ 1000000000) (hl : ∀ z ∈ l, z.path.length ≤ 1000000000) (hf : f.path.length ≤ 1000000000) : Ok (Sh.slices_ContainsFunc_files_Row_files_File l f) (fun b => b = l.any fun y => clashS y.path f.path) := by
  unfold Sh.slices_ContainsFunc_files_Row_files_File Sh.slices_IndexFunc_files_Row_files_File
  rw [ok_bd]
  refine (ixloop (fun y => clashS y.path f.path) l hb (fun y => Sh.files_Row_wrong_1 y f) (fun y hy => ?_) _ fun i => rfl).mono fun r hr => ?_
  · unfold Sh.files_Row_wrong_1
    rw [clash_ok (hl y hy) hf]; rfl
  · rw [ok_some, fst_any hr]
theorem wrong14 {x : List FilesFile} (hb : x.length ≤ 1000000) (hl : ∀ z ∈ x, z.path.length ≤ 1000000000) {i : Int} (i0 : 0 ≤ i) (hi : i < x.length) {z : FilesFile} (hz : x[i.toNat]? = some z) :
    Ok (Sh.files_Row_wrong x i) fun e => e = 0 ↔ vF z ∧ (∀ y, 0 < i → x[(i - 1).toNat]? = some y → y.path < z.path) ∧ ∀ y ∈ x.take i.toNat, clashS y.path z.path = false := by
  unfold Sh.files_Row_wrong
  have hzm := List.mem_of_getElem? hz
  rw [ok_bd, ok_at]
  refine ⟨i0, z, hz, ?_⟩
  rw [pcheck_ok, Option.bind_some]
  by_cases hc : checkP z.path = 0
  · rw [if_pos hc]
    refine ok_jnP (fun b => b = false ↔ (z.mode = 1 ∨ z.mode = 2)) ?_ ?_
    · intro b hbm
      simp only [ok_if, ok_some]
      refine ⟨fun h => ⟨fun q => absurd q (by omega), fun ⟨⟨_, m, _⟩, _⟩ => by rw [hbm.2 m] at h; cases h⟩, fun h => ⟨fun hd => ⟨fun q => absurd q (by omega), fun ⟨⟨_, _, q⟩, _⟩ => absurd q (by omega)⟩, fun hd => ?_⟩⟩
      have hm := hbm.1 (by simpa using h)
      have hd' : z.data.length ≤ 4096 := by omega
      refine ok_jnP (fun b => b = false ↔ (∀ y, 0 < i → x[(i - 1).toNat]? = some y → y.path < z.path)) ?_ ?_
      · intro b hbm
        simp only [ok_if, ok_some]
        refine ⟨fun h => ⟨fun q => absurd q (by omega), fun ⟨_, q, _⟩ => by rw [hbm.2 q] at h; cases h⟩, fun h => ?_⟩
        have hr := hbm.1 (by simpa using h)
        simp only [ok_gd, ok_lt]
        refine ⟨⟨i0, by omega⟩, ok_bd.2 ((fix14 (x.take i.toNat) z (by rw [List.length_take]; omega) (fun y hy => hl y (List.mem_of_mem_take hy)) (hl z hzm)).mono fun c hcc => ?_)⟩
        simp only [ok_if, ok_some]
        refine ⟨fun h => ⟨fun q => absurd q (by omega), fun ⟨_, _, q⟩ => ?_⟩, fun h => ⟨fun _ => ⟨⟨hc, hm, hd'⟩, hr, fun y hy => ?_⟩, fun _ => (by first | rfl | trivial)⟩⟩
        · rw [hcc] at h
          obtain ⟨y, hy, hy2⟩ := List.any_eq_true.1 h
          rw [q y hy] at hy2; cases hy2
        · cases hq : clashS y.path z.path with
          | false => rfl
          | true => exact absurd (hcc.trans (List.any_eq_true.2 ⟨y, hy, hq⟩)) h
      · intro K hK
        simp only [ok_if, ok_gd]
        refine ⟨fun h => ⟨⟨by omega, by omega⟩, ?_⟩, fun h => hK _ ⟨fun _ y q => absurd q h, fun _ => rfl⟩⟩
        obtain ⟨y, hy⟩ := at_get (l := x) (i := i - 1) (by omega) (by omega)
        rw [ok_bd, ok_at]
        refine ⟨by omega, y, hy, ?_⟩
        rw [pcmp14, Option.bind_some]
        refine hK _ ?_
        rw [decide_eq_false_iff_not]
        constructor
        · intro q y' _ hy'
          rw [hy] at hy'; cases hy'
          by_cases q2 : y.path < z.path
          · exact q2
          · rw [if_neg q2] at q; split at q <;> omega
        · intro q
          rw [if_pos (q y h hy)]; omega
    · intro K hK
      simp only [ok_if]
      refine ⟨fun h => hK _ ⟨fun _ => .inl h, fun _ => rfl⟩, fun h => hK _ ⟨fun q => .inr (by simpa using q), fun q => ?_⟩⟩
      rcases q with q | q
      · exact absurd q h
      · simp [q]
  · rw [if_neg hc, ok_some]
    exact ⟨fun h => absurd h hc, fun ⟨⟨h, _⟩, _⟩ => absurd h hc⟩
theorem goodF_snoc {x : List FilesFile} {i : Int} (i0 : 0 ≤ i) {z : FilesFile} (hz : x[i.toNat]? = some z) (hg : GoodF (x.take i.toNat)) (hv : vF z) (hr : ∀ y, 0 < i → x[(i - 1).toNat]? = some y → y.path < z.path) (hc : ∀ y ∈ x.take i.toNat, clashS y.path z.path = false) : GoodF (x.take (i + 1).toNat) := by
  rw [take_snoc i0 hz]
  have hlt : ∀ a ∈ x.take i.toNat, a.path < z.path := fun a ha => by
    have hpos : 0 < i := by
      rcases Int.lt_or_le 0 i with q | q
      · exact q
      · rw [show i.toNat = 0 by omega] at ha; simp at ha
    have hil := get_lt hz
    obtain ⟨y, hy⟩ := at_get (l := x) (i := i - 1) (by omega) (by omega)
    have hyz := hr y hpos hy
    have he : x.take i.toNat = x.take (i - 1).toNat ++ [y] := by
      have := take_snoc (l := x) (i := i - 1) (by omega) hy
      rwa [show i - 1 + 1 = i by omega] at this
    rw [he] at ha
    rcases List.mem_append.1 ha with q | q
    · have hR := hg.r
      rw [he] at hR
      have := (List.pairwise_append.1 hR).2.2 a q y (List.mem_singleton_self _)
      exact List.lt_trans this hyz
    · rw [List.mem_singleton.1 q]; exact hyz
  refine ⟨fun f hf => ?_, List.pairwise_append.2 ⟨hg.r, List.pairwise_singleton _ _, fun a ha b hb => ?_⟩, List.pairwise_append.2 ⟨hg.c, List.pairwise_singleton _ _, fun a ha b hb => ?_⟩⟩
  · rcases List.mem_append.1 hf with q | q
    · exact hg.v f q
    · rw [List.mem_singleton.1 q]; exact hv
  · rw [List.mem_singleton.1 hb]; exact hlt a ha
  · rw [List.mem_singleton.1 hb]; exact hc a ha
theorem check14 {x : List FilesFile} (hb : x.length ≤ 1000000) (hl : ∀ z ∈ x, z.path.length ≤ 1000000000) : Ok (Sh.files_Row_Check x) fun e => e.isNil = true ↔ x.length ≤ 64 ∧ GoodF x := by
  unfold Sh.files_Row_Check
  simp only [ok_if, ok_some]
  refine ⟨fun h => ⟨fun q => (by cases q), fun q => absurd q.1 (by omega)⟩, fun h64 => ?_⟩
  refine ok_iter (I := fun i => 0 ≤ i ∧ i ≤ x.length ∧ GoodF (x.take i.toNat)) (μ := fun i => (x.length - i).toNat) ?_ ⟨by omega, by omega, ⟨fun f h => (by simp at h), by simp [R], by simp⟩⟩
  rintro i ⟨i0, i1, hg⟩
  simp only [ok_if, ok_up, ok_some]
  refine ⟨fun hi => ?_, fun hi => ?_⟩
  · obtain ⟨z, hz⟩ := at_get (l := x) i0 hi
    refine ok_bd.2 ((wrong14 hb hl i0 hi hz).mono fun e he => ?_)
    simp only [ok_if, ok_gd, ok_go, ok_up, ok_some]
    refine ⟨fun h => ⟨⟨by omega, by omega⟩, ⟨by omega, by omega, ?_⟩, by omega⟩, fun h => ⟨fun q => (by cases q), fun ⟨_, q⟩ => absurd (he.2 ?_) h⟩⟩
    · obtain ⟨a, b, c⟩ := he.1 h
      exact goodF_snoc i0 hz hg a b c
    · refine ⟨q.v z (List.mem_of_getElem? hz), fun y hpos hy => ?_, fun y hy => ?_⟩
      · exact q.r.take_lt hz y (List.mem_of_getElem? (i := (i - 1).toNat) (by rw [List.getElem?_take, if_pos (by omega)]; exact hy))
      · obtain ⟨j, hj⟩ := List.getElem?_of_mem hy
        rw [List.getElem?_take] at hj
        split at hj
        · next hlt =>
          have h1 := (List.getElem?_eq_some_iff.1 hj)
          have h2 := (List.getElem?_eq_some_iff.1 hz)
          have := List.pairwise_iff_getElem.1 q.c j i.toNat h1.1 h2.1 hlt
          rwa [h1.2, h2.2] at this
        · cases hj
  · rw [List.take_of_length_le (by omega)] at hg
    exact ⟨fun _ => ⟨by omega, hg⟩, fun _ => rfl⟩
theorem same14 (l r : List FilesFile) (hb : l.length ≤ 1000000000) : Sh.files_Row_Same l r = some (decide (l = r)) := by
  unfold Sh.files_Row_Same
  have : Sh.slices_Equal_files_Row_files_File l r = some (decide (l = r)) := by
    unfold Sh.slices_Equal_files_Row_files_File
    split
    · next h => exact eqloop (fun z w => z.path = w.path ∧ z.mode = w.mode ∧ z.data = w.data) (fun z w => by cases z; cases w; simp) l r h (by omega) _ fun i => rfl
    · next h => exact congrArg some (decide_eq_false fun e => h (by rw [e])).symm
  rw [this]; rfl
theorem few14 (l : List FilesFile) : Ok (Sh.rectolaw14_Few l) fun b => b = true → l.length ≤ 80 ∧ ∀ f ∈ l, f.path.length ≤ 100 := by
  unfold Sh.rectolaw14_Few
  simp only [ok_if, ok_some]
  refine ⟨fun _ h => (by cases h), fun hl => ?_⟩
  refine ok_iter (I := fun i => 0 ≤ i ∧ i ≤ l.length ∧ ∀ f ∈ l.take i.toNat, f.path.length ≤ 100) (μ := fun i => (l.length - i).toNat) ?_ ⟨by omega, by omega, by simp⟩
  rintro i ⟨i0, i1, i2⟩
  simp only [ok_if, ok_up, ok_some]
  refine ⟨fun hi => ?_, fun hi _ => ⟨by omega, by rw [List.take_of_length_le (by omega)] at i2; exact i2⟩⟩
  obtain ⟨z, hz⟩ := at_get (l := l) i0 hi
  refine ok_jnP (fun b => b = false → z.path.length ≤ 100) ?_ ?_
  · intro b hb
    simp only [ok_if, ok_up, ok_gd, ok_go, ok_some]
    refine ⟨fun _ h => (by cases h), fun h => ⟨⟨by omega, by omega⟩, ⟨by omega, by omega, fun f hf => ?_⟩, by omega⟩⟩
    rw [take_snoc i0 hz] at hf
    rcases List.mem_append.1 hf with q | q
    · exact i2 f q
    · rw [List.mem_singleton.1 q]; exact hb (by simpa using h)
  · intro K hK
    simp only [ok_bd, ok_at, ok_if]
    exact ⟨i0, z, hz, fun _ => hK _ fun h => (by cases h), fun h => ⟨i0, z, hz, hK _ fun _ => by omega⟩⟩
end Go.S
end

section
namespace Go.S
open Go
def PathsOf (ls : List (List FilesFile)) (r : List (List UInt8)) : Prop := r.Pairwise (· < ·) ∧ ∀ x, x ∈ r ↔ ∃ l ∈ ls, ∃ f ∈ l, f.path = x
theorem strict_ext {l l' : List (List UInt8)} (h : l.Pairwise (· < ·)) (h' : l'.Pairwise (· < ·)) (m : ∀ z, z ∈ l ↔ z ∈ l') : l = l' := by
  have nd : ∀ {l : List (List UInt8)}, l.Pairwise (· < ·) → l.Nodup := fun {l} h => h.imp (fun {a b} (q : a < b) (e : a = b) => List.lt_irrefl b (e ▸ q))
  exact List.Perm.eq_of_pairwise (le := fun a b => a ≤ b) (fun a b _ _ h1 h2 => List.le_antisymm h1 h2) (h.imp fun q => List.le_of_lt q) (h'.imp fun q => List.le_of_lt q) ((List.perm_ext_iff_of_nodup (nd h) (nd h')).2 m)
theorem paths14 (ls : List (List FilesFile)) (hn : ls.length ≤ 8) (hl : ∀ l ∈ ls, l.length ≤ 1000000 ∧ ∀ f ∈ l, f.path.length ≤ 1000000) : Ok (Sh.files_Paths ls) (fun r => PathsOf ls r ∧ r.length ≤ 8000000) := by
  unfold Sh.files_Paths
  refine ok_iter (I := fun t => 0 ≤ t.1 ∧ t.1 ≤ ls.length ∧ (t.2.length : Int) ≤ t.1 * 1000000 ∧ ∀ x, x ∈ t.2 ↔ ∃ l ∈ ls.take t.1.toNat, ∃ f ∈ l, f.path = x) (μ := fun t => (ls.length - t.1).toNat) ?_ ⟨by simp, by simp, by simp, by simp⟩
  rintro ⟨i, acc⟩ ⟨i0, i1, i2, i3⟩
  dsimp only at i0 i1 i2 i3 ⊢
  simp only [ok_if, ok_up, ok_bd, ok_at]
  refine ⟨fun hi => ?_, fun hi => ?_⟩
  · obtain ⟨l, hz⟩ := at_get (l := ls) i0 hi
    have hll := hl l (List.mem_of_getElem? hz)
    refine ⟨i0, l, hz, ?_⟩
    have hmul : (i + 1) * 1000000 = i * 1000000 + 1000000 := by rw [Int.add_mul]; omega
    have hle : i * 1000000 ≤ 8000000 := by omega
    refine ok_iter (I := fun t => 0 ≤ t.1 ∧ t.1 ≤ l.length ∧ (t.2.length : Int) ≤ i * 1000000 + t.1 ∧ ∀ x, x ∈ t.2 ↔ (∃ l ∈ ls.take i.toNat, ∃ f ∈ l, f.path = x) ∨ ∃ f ∈ l.take t.1.toNat, f.path = x) (μ := fun t => (l.length - t.1).toNat) ?_ ⟨by simp, by simp, by simpa using i2, by simpa using i3⟩
    rintro ⟨j, acc2⟩ ⟨j0, j1, j2, j3⟩
    dsimp only at j0 j1 j2 j3 ⊢
    simp only [ok_if, ok_up, ok_bd, ok_at, ok_gd, ok_lt, ok_go]
    refine ⟨fun hj => ?_, fun hj => ⟨⟨by omega, by omega⟩, ⟨by omega, by omega, by omega, fun x => ?_⟩, by omega⟩⟩
    · obtain ⟨f, hf⟩ := at_get (l := l) j0 hj
      have hfl := hll.2 f (List.mem_of_getElem? hf)
      refine ⟨j0, f, hf, ⟨by omega, by omega⟩, ⟨by omega, by omega⟩, ⟨by omega, by omega, by simp only [List.length_cons]; omega, fun x => ?_⟩, by omega⟩
      rw [List.mem_cons, j3, take_snoc j0 hf]
      constructor
      · rintro (q | q | ⟨g, hg, q⟩)
        · exact .inr ⟨f, by simp, q.symm⟩
        · exact .inl q
        · exact .inr ⟨g, List.mem_append_left _ hg, q⟩
      · rintro (q | ⟨g, hg, q⟩)
        · exact .inr (.inl q)
        · rcases List.mem_append.1 hg with h | h
          · exact .inr (.inr ⟨g, h, q⟩)
          · rw [List.mem_singleton.1 h] at q; exact .inl q.symm
    · rw [List.take_of_length_le (l := l) (i := j.toNat) (by omega)] at j3
      rw [j3, take_snoc i0 hz]
      constructor
      · rintro (⟨m, hm, q⟩ | q)
        · exact ⟨m, List.mem_append_left _ hm, q⟩
        · exact ⟨l, List.mem_append_right _ (List.mem_singleton_self _), q⟩
      · rintro ⟨m, hm, q⟩
        rcases List.mem_append.1 hm with h | h
        · exact .inl ⟨m, h, q⟩
        · rw [List.mem_singleton.1 h] at q; exact .inr q
  · rw [List.take_of_length_le (by omega)] at i3
    simp only [ok_gd, ok_lt]
    refine ⟨by omega, ?_⟩
    rw [clipS14, Option.bind_some, ok_some]
    exact ⟨⟨keysS_lt acc, fun x => (keysS_mem acc x).trans (i3 x)⟩, by have := keysS_len acc; omega⟩
end Go.S
end

section
namespace Go.S
open Go
theorem filter2_len {α : Type} (p q : α → Bool) (l : List α) (h : ∀ z ∈ l, p z = true → q z = false) : (l.filter p).length + (l.filter q).length ≤ l.length := by
  induction l with
  | nil => simp
  | cons a r ih =>
    have ih' := ih fun z hz => h z (List.mem_cons_of_mem _ hz)
    have ha := h a (List.mem_cons_self ..)
    cases hp : p a with
    | true => have hq := ha hp; simp [List.filter_cons, hp, hq]; omega
    | false => cases hq : q a <;> simp [List.filter_cons, hp, hq] <;> omega
theorem putF_len1 (x : List FilesFile) (f : FilesFile) : (putF x f).length ≤ x.length + 1 := by
  unfold putF
  have := filter2_len (fun z : FilesFile => decide (z.path < f.path)) (fun z => decide (f.path < z.path)) x (fun z _ h => by
    have h' : z.path < f.path := of_decide_eq_true h
    exact decide_eq_false fun q => List.lt_irrefl _ (List.lt_trans h' q))
  simp only [List.length_append, List.length_cons, List.length_nil]; omega
theorem paths_same {ls : List (List FilesFile)} {ps qs : List (List UInt8)} (h : PathsOf ls ps) (h' : PathsOf ls qs) : ps = qs := strict_ext h.1 h'.1 fun x => (h.2 x).trans (h'.2 x).symm
end Go.S
end

section
namespace Go.S
open Go
def toF (f : FilesFile) : Rectoref14File := ⟨f.path, f.mode, f.data⟩
theorem mapF_at {l : List FilesFile} {i : Nat} {z : FilesFile} (h : l[i]? = some z) : (l.map toF)[i]? = some (toF z) := by rw [List.getElem?_map, h]; rfl
theorem of14 (l : List FilesFile) (hb : l.length ≤ 1000000000) : Sh.rectolaw14_Of l = some (l.map toF) := by
  apply Ok.eq
  unfold Sh.rectolaw14_Of
  refine ok_iter (I := fun t => 0 ≤ t.2 ∧ t.2 ≤ l.length ∧ t.1 = (l.take t.2.toNat).map toF) (μ := fun t => (l.length - t.2).toNat) ?_ ⟨by simp, by simp, by simp⟩
  rintro ⟨o, i⟩ ⟨i0, i1, i2⟩
  dsimp only at i0 i1 i2 ⊢
  have hol : o.length ≤ i.toNat := by rw [i2, List.length_map, List.length_take]; omega
  simp only [ok_if, ok_up, ok_bd, ok_at, ok_lt, ok_gd, ok_go, ok_some]
  refine ⟨fun hi => ?_, fun hi => ?_⟩
  · obtain ⟨z, hz⟩ := at_get (l := l) i0 hi
    refine ⟨i0, z, hz, i0, z, hz, i0, z, hz, by simp; omega, ⟨by omega, by omega⟩, ⟨by omega, by omega, ?_⟩, by omega⟩
    rw [i2, take_snoc i0 hz, List.map_append]; rfl
  · rw [i2, List.take_of_length_le (by omega)]
abbrev loF (x : List FilesFile) (f : FilesFile) : List FilesFile := x.filter (fun z => decide (z.path < f.path))
abbrev hiF (x : List FilesFile) (f : FilesFile) : List FilesFile := x.filter (fun z => decide (f.path < z.path))
theorem putr14 {x : List FilesFile} (h : R x) (hb : x.length ≤ 100000000) (f : FilesFile) : Sh.rectoref14_Put (x.map toF) (toF f) = some ((putF x f).map toF) := by
  apply Ok.eq
  unfold Sh.rectoref14_Put
  refine ok_iter (I := fun t => 0 ≤ t.2.2 ∧ t.2.2 ≤ x.length ∧ t.1 = (loF (x.take t.2.2.toNat) f ++ (if t.2.1 = true then [f] else []) ++ hiF (x.take t.2.2.toNat) f).map toF ∧ (t.2.1 = false → ∀ z ∈ x.take t.2.2.toNat, z.path < f.path) ∧ (t.2.1 = true → ∀ z ∈ x.drop t.2.2.toNat, f.path < z.path)) (μ := fun t => (x.length - t.2.2).toNat) ?_ ⟨by simp, by simp, by simp, by simp, by simp⟩
  rintro ⟨o, u, i⟩ ⟨i0, i1, i2, i3, i4⟩
  dsimp only at i0 i1 i2 i3 i4 ⊢
  have hl1 : (loF (x.take i.toNat) f).length ≤ _ := List.length_filter_le (fun z : FilesFile => decide (z.path < f.path)) (x.take i.toNat)
  have hl2 : (hiF (x.take i.toNat) f).length ≤ _ := List.length_filter_le (fun z : FilesFile => decide (f.path < z.path)) (x.take i.toNat)
  have hl4 : (loF (x.take i.toNat) f).length + (hiF (x.take i.toNat) f).length ≤ (x.take i.toNat).length := filter2_len _ _ _ (fun z _ h => by
    have h' : z.path < f.path := of_decide_eq_true h
    exact decide_eq_false fun q => List.lt_irrefl _ (List.lt_trans h' q))
  have hl3 : (x.take i.toNat).length ≤ x.length := by rw [List.length_take]; omega
  have hol : ∀ (v : Bool), ((loF (x.take i.toNat) f ++ (if v = true then [f] else []) ++ hiF (x.take i.toNat) f).map toF).length ≤ 2 * x.length + 1 := by
    intro v
    rw [List.length_map, List.length_append, List.length_append]
    cases v <;> simp only [if_true, if_false, Bool.false_eq_true, List.length_cons, List.length_nil] <;> omega
  simp only [ok_if, ok_up, List.length_map]
  refine ⟨fun hi => ?_, fun hi => ?_⟩
  · obtain ⟨z, hz⟩ := at_get (l := x) i0 hi
    have hzm := mapF_at hz
    have hdz : x.drop i.toNat = z :: x.drop (i + 1).toNat := by rw [show (i + 1).toNat = i.toNat + 1 by omega]; exact drop_cons' hz
    have hgz : ∀ y ∈ x.drop (i + 1).toNat, z.path < y.path := by rw [show (i + 1).toNat = i.toNat + 1 by omega]; exact h.drop_gt hz
    have hsn := take_snoc i0 hz
    refine ok_jnP (fun w => w.1 = (loF (x.take (i + 1).toNat) f ++ (if w.2 = true then [f] else []) ++ hiF (x.take (i + 1).toNat) f).map toF ∧ (w.2 = false → ∀ z ∈ x.take (i + 1).toNat, z.path < f.path) ∧ (w.2 = true → ∀ z ∈ x.drop (i + 1).toNat, f.path < z.path)) ?_ ?_
    · rintro ⟨w1, w2⟩ ⟨a1, a2, a3⟩
      simp only [ok_gd, ok_go]
      exact ⟨⟨by omega, by omega⟩, ⟨by omega, by omega, a1, a2, a3⟩, by omega⟩
    · intro K7 hK7
      refine ok_jnP (fun w => w.1 = (loF (x.take i.toNat) f ++ (if w.2 = true then [f] else []) ++ hiF (x.take i.toNat) f).map toF ∧ (w.2 = false → z.path < f.path ∧ ∀ z ∈ x.take i.toNat, z.path < f.path) ∧ (w.2 = true → ¬ z.path < f.path)) ?_ ?_
      · rintro ⟨w1, w2⟩ ⟨a1, a2, a3⟩
        dsimp only at a1 a2 a3 ⊢
        have hw := hol w2
        rw [← a1] at hw
        simp only [ok_bd, ok_at, ok_if, ok_lt, ok_gd]
        refine ⟨i0, toF z, hzm, fun he => ?_, fun he => ⟨i0, toF z, hzm, by simp; omega, ?_⟩⟩
        · have he : z.path = f.path := he
          have hw2 : w2 = true := by
            cases w2 with
            | true => rfl
            | false => have := (a2 rfl).1; rw [he] at this; exact absurd this (List.lt_irrefl _)
          refine hK7 _ ⟨?_, fun q => absurd q (by rw [hw2]; simp), fun _ y hy => (by rw [← he]; exact hgz y hy)⟩
          rw [a1, hsn]
          simp [List.filter_append, he, List.lt_irrefl]
        · have he : ¬ z.path = f.path := he
          cases w2 with
          | true =>
            have hnz := a3 rfl
            have hfz : f.path < z.path := by
              by_cases q : f.path < z.path
              · exact q
              · exact absurd (List.le_antisymm (List.not_lt.1 q) (List.not_lt.1 hnz)) he
            refine hK7 _ ⟨?_, fun q => (by cases q), fun _ y hy => List.lt_trans hfz (hgz y hy)⟩
            rw [a1, hsn]
            simp [List.filter_append, hnz, hfz, toF]
          | false =>
            obtain ⟨b1, b2⟩ := a2 rfl
            have hnf : ¬ f.path < z.path := fun q => List.lt_irrefl _ (List.lt_trans q b1)
            have hnil : hiF (x.take i.toNat) f = [] := List.filter_eq_nil_iff.2 fun y hy => by
              have := b2 y hy
              simp only [decide_eq_true_eq]
              exact fun q => List.lt_irrefl _ (List.lt_trans q this)
            refine hK7 _ ⟨?_, fun _ y hy => ?_, fun q => (by cases q)⟩
            · rw [a1, hsn]
              have hnil' : (x.take i.toNat).filter (fun z => decide (f.path < z.path)) = [] := hnil
              simp [List.filter_append, b1, hnf, hnil', toF]
            · rw [hsn] at hy
              rcases List.mem_append.1 hy with q | q
              · exact b2 y q
              · rw [List.mem_singleton.1 q]; exact b1
      · intro K10 hK10
        refine ok_jnP (fun w => w = true ↔ u = false ∧ ¬ z.path < f.path) ?_ ?_
        · intro w hw
          have hwo := hol u
          rw [← i2] at hwo
          simp only [ok_if, ok_lt, ok_gd]
          refine ⟨fun q => ?_, fun q => ?_⟩
          · obtain ⟨hu, hnz⟩ := hw.1 q
            refine ⟨by simp; omega, hK10 _ ⟨?_, fun q => (by cases q), fun _ => hnz⟩⟩
            have hnil : (x.take i.toNat).filter (fun z => decide (f.path < z.path)) = [] := List.filter_eq_nil_iff.2 fun y hy => by
              have := i3 hu y hy
              simp only [decide_eq_true_eq]
              exact fun q => List.lt_irrefl _ (List.lt_trans q this)
            rw [i2, hu]
            simp [hnil, toF]
          · refine hK10 _ ⟨i2, fun hu => ?_, fun hu => ?_⟩
            · refine ⟨?_, i3 hu⟩
              by_cases hz' : z.path < f.path
              · exact hz'
              · exact absurd (hw.2 ⟨hu, hz'⟩) q
            · have := i4 hu z (by rw [hdz]; exact List.mem_cons_self ..)
              exact fun q => List.lt_irrefl _ (List.lt_trans q this)
        · intro K12 hK12
          simp only [ok_if, ok_bd, ok_at, Go.Proofs.bytesLess_eq]
          refine ⟨fun hu => ⟨i0, toF z, hzm, hK12 _ ?_⟩, fun hu => hK12 _ ?_⟩
          · have : (toF z).path = z.path := rfl
            have h2 : (toF f).path = f.path := rfl
            rw [this, h2]
            simp at hu
            simp [hu]
          · simp at hu
            simp [hu]
  · rw [List.take_of_length_le (by omega)] at i2 i3
    have hw := hol u
    rw [List.take_of_length_le (l := x) (by omega)] at hw
    rw [← i2] at hw
    simp only [ok_lt, ok_gd, ok_some]
    unfold putF
    cases u with
    | true =>
      refine ⟨fun h => (by simp at h), fun _ => ?_⟩
      rw [i2]; simp
    | false =>
      have hnil : x.filter (fun z => decide (f.path < z.path)) = [] := List.filter_eq_nil_iff.2 fun y hy => by
        have := i3 rfl y hy
        simp only [decide_eq_true_eq]
        exact fun q => List.lt_irrefl _ (List.lt_trans q this)
      refine ⟨fun _ => ⟨by simp; omega, ?_⟩, fun h => absurd rfl h⟩
      rw [i2]; simp [hnil, toF]
theorem getr14 (x : List FilesFile) (hb : x.length ≤ 1000000000) (p : List UInt8) : Sh.rectoref14_Get (x.map toF) p = some (toF (getF x p).1, (getF x p).2) := by
  apply Ok.eq
  unfold Sh.rectoref14_Get
  refine ok_iter (I := fun i => 0 ≤ i ∧ i ≤ x.length ∧ ∀ z ∈ x.take i.toNat, z.path ≠ p) (μ := fun i => (x.length - i).toNat) ?_ ⟨by omega, by omega, by simp⟩
  rintro i ⟨i0, i1, i2⟩
  simp only [ok_if, ok_up, ok_bd, ok_at, ok_gd, ok_go, ok_some, List.length_map]
  refine ⟨fun hi => ?_, fun hi => ?_⟩
  · obtain ⟨z, hz⟩ := at_get (l := x) i0 hi
    refine ⟨i0, toF z, mapF_at hz, fun hp => ⟨i0, toF z, mapF_at hz, ?_⟩, fun hp => ⟨⟨by omega, by omega⟩, ⟨by omega, by omega, fun y hy => ?_⟩, by omega⟩⟩
    · have hp : z.path = p := hp
      have : gt x p = some z := by
        unfold gt
        rw [← List.take_append_drop i.toNat x, List.find?_append, List.find?_eq_none.2 (fun y hy => by simpa using i2 y hy), drop_cons' hz]
        simp [hp]
      rw [getF_some this]
    · rw [take_snoc i0 hz] at hy
      rcases List.mem_append.1 hy with q | q
      · exact i2 y q
      · rw [List.mem_singleton.1 q]; exact hp
  · rw [List.take_of_length_le (by omega)] at i2
    rw [getF_none (gt_none.2 i2)]
    try rfl
theorem pathsr14 (ls : List (List FilesFile)) (hn : ls.length ≤ 8) (hl : ∀ l ∈ ls, l.length ≤ 1000000) : Ok (Sh.rectoref14_Paths (ls.map (·.map toF))) (fun r => PathsOf ls r ∧ r.length ≤ 8000000) := by
  unfold Sh.rectoref14_Paths
  refine ok_iter (I := fun t => 0 ≤ t.2 ∧ t.2 ≤ ls.length ∧ ∃ acc : List FilesFile, t.1 = acc.map toF ∧ R acc ∧ (acc.length : Int) ≤ t.2 * 1000000 ∧ ∀ x, (∃ f ∈ acc, f.path = x) ↔ ∃ l ∈ ls.take t.2.toNat, ∃ f ∈ l, f.path = x) (μ := fun t => (ls.length - t.2).toNat) ?_ ⟨by simp, by simp, [], by simp, by simp [R], by simp, by simp⟩
  rintro ⟨r, i⟩ ⟨i0, i1, acc, rfl, i2, i3, i4⟩
  dsimp only at i0 i1 i3 i4 ⊢
  simp only [ok_if, ok_up, List.length_map]
  refine ⟨fun hi => ?_, fun hi => ?_⟩
  · obtain ⟨l, hz⟩ := at_get (l := ls) i0 hi
    have hll := hl l (List.mem_of_getElem? hz)
    have hzm : (ls.map (·.map toF))[i.toNat]? = some (l.map toF) := by rw [List.getElem?_map, hz]; rfl
    have hmul : (i + 1) * 1000000 = i * 1000000 + 1000000 := by rw [Int.add_mul]; omega
    have hle : i * 1000000 ≤ 8000000 := by omega
    refine ok_iter (I := fun t => 0 ≤ t.2 ∧ t.2 ≤ l.length ∧ ∃ acc : List FilesFile, t.1 = acc.map toF ∧ R acc ∧ (acc.length : Int) ≤ i * 1000000 + t.2 ∧ ∀ x, (∃ f ∈ acc, f.path = x) ↔ (∃ l ∈ ls.take i.toNat, ∃ f ∈ l, f.path = x) ∨ ∃ f ∈ l.take t.2.toNat, f.path = x) (μ := fun t => (l.length - t.2).toNat) ?_ ⟨by simp, by simp, acc, rfl, i2, by simpa using i3, by simpa using i4⟩
    rintro ⟨r2, j⟩ ⟨j0, j1, acc2, rfl, j2, j3, j4⟩
    dsimp only at j0 j1 j3 j4 ⊢
    rw [ok_bd, ok_at]
    refine ⟨i0, _, hzm, ?_⟩
    simp only [ok_if, List.length_map]
    refine ⟨fun hj => ?_, fun hj => ?_⟩
    · obtain ⟨f, hf⟩ := at_get (l := l) j0 hj
      rw [ok_bd, ok_at]
      refine ⟨i0, _, hzm, ?_⟩
      rw [ok_bd, ok_at]
      refine ⟨j0, toF f, mapF_at hf, ?_⟩
      have hput := putr14 j2 (by omega) ⟨f.path, 0, []⟩
      rw [show (⟨(toF f).path, 0, []⟩ : Rectoref14File) = toF ⟨f.path, 0, []⟩ from rfl, hput, Option.bind_some]
      have hpl := putF_len1 acc2 ⟨f.path, 0, []⟩
      simp only [ok_gd, ok_go]
      refine ⟨⟨by omega, by omega⟩, ⟨by omega, by omega, _, rfl, putF_R j2 _, by omega, fun x => ?_⟩, by omega⟩
      rw [take_snoc j0 hf]
      have h4 := j4 x
      constructor
      · rintro ⟨g, hg, q⟩
        rcases (putF_mem _ _ _).1 hg with e | ⟨e, _⟩
        · rw [e] at q; exact .inr ⟨f, by simp, q⟩
        · rcases h4.1 ⟨g, e, q⟩ with e' | ⟨k, hk, e'⟩
          · exact .inl e'
          · exact .inr ⟨k, List.mem_append_left _ hk, e'⟩
      · intro q
        by_cases hx : f.path = x
        · exact ⟨_, (putF_mem _ _ _).2 (.inl rfl), hx⟩
        · have : (∃ l ∈ ls.take i.toNat, ∃ f ∈ l, f.path = x) ∨ ∃ f ∈ l.take j.toNat, f.path = x := by
            rcases q with q | ⟨k, hk, q⟩
            · exact .inl q
            · rcases List.mem_append.1 hk with e | e
              · exact .inr ⟨k, e, q⟩
              · rw [List.mem_singleton.1 e] at q; exact absurd q hx
          obtain ⟨g, hg, e⟩ := h4.2 this
          exact ⟨g, (putF_mem _ _ _).2 (.inr ⟨hg, fun e' => hx (e'.symm.trans e)⟩), e⟩
    · simp only [ok_up, ok_gd, ok_go]
      refine ⟨⟨by omega, by omega⟩, ⟨by omega, by omega, acc2, rfl, j2, by omega, fun x => ?_⟩, by omega⟩
      rw [List.take_of_length_le (l := l) (i := j.toNat) (by omega)] at j4
      rw [j4, take_snoc i0 hz]
      constructor
      · rintro (⟨m, hm, q⟩ | q)
        · exact ⟨m, List.mem_append_left _ hm, q⟩
        · exact ⟨l, List.mem_append_right _ (List.mem_singleton_self _), q⟩
      · rintro ⟨m, hm, q⟩
        rcases List.mem_append.1 hm with h | h
        · exact .inl ⟨m, h, q⟩
        · rw [List.mem_singleton.1 h] at q; exact .inr q
  · rw [List.take_of_length_le (by omega)] at i4
    have hle : i * 1000000 ≤ 8000000 := by omega
    refine ok_iter (I := fun t => 0 ≤ t.2 ∧ t.2 ≤ acc.length ∧ t.1 = (acc.take t.2.toNat).map (·.path)) (μ := fun t => (acc.length - t.2).toNat) ?_ ⟨by simp, by simp, by simp⟩
    rintro ⟨o, j⟩ ⟨j0, j1, j2⟩
    dsimp only at j0 j1 j2 ⊢
    have hol : o.length ≤ j.toNat := by rw [j2, List.length_map, List.length_take]; omega
    simp only [ok_if, ok_up, ok_bd, ok_at, ok_lt, ok_gd, ok_go, ok_some]
    refine ⟨fun hj => ?_, fun hj => ?_⟩
    · obtain ⟨f, hf⟩ := at_get (l := acc) j0 hj
      refine ⟨j0, toF f, mapF_at hf, by simp; omega, ⟨by omega, by omega⟩, ⟨by omega, by omega, ?_⟩, by omega⟩
      rw [j2, take_snoc j0 hf, List.map_append]; rfl
    · rw [List.take_of_length_le (by omega)] at j2
      refine ⟨⟨by rw [j2]; exact List.pairwise_map.2 i2, fun x => ?_⟩, by omega⟩
      rw [← i4, j2, List.mem_map]
end Go.S
end

section
namespace Go.S
open Go
theorem gt_path {rf : List FilesFile} {p : List UInt8} {f : FilesFile} (h : gt rf p = some f) : f.path = p := by simpa using List.find?_some h
theorem paths_all {ls : List (List FilesFile)} {ps : List (List UInt8)} {o : List FilesFile} (h : PathsOf ls ps) (ho : R o) (hm : ∀ f ∈ o, f.path ∈ ps) : ps.filterMap (gt o) = o := by
  have hR : R (ps.filterMap (gt o)) := by
    unfold R
    rw [List.pairwise_filterMap]
    refine h.1.imp fun {a b} hab f hf g hg => ?_
    rw [gt_path hf, gt_path hg]; exact hab
  refine hR.ext ho fun z => ?_
  rw [List.mem_filterMap]
  constructor
  · rintro ⟨p, _, hp⟩
    exact ((gt_some ho).1 hp).1
  · intro hz
    exact ⟨z.path, hm z hz, (gt_some ho).2 ⟨hz, rfl⟩⟩
end Go.S
end

section
namespace Go.S
theorem gl_at {α : Type} {l : List α} {i : Int} (h0 : 0 ≤ i) (h : i < l.length) : ∃ z, l[i.toNat]? = some z := ⟨_, List.getElem?_eq_getElem (by omega)⟩
theorem gl_snoc {α : Type} {l : List α} {i : Int} {z : α} (h0 : 0 ≤ i) (h : l[i.toNat]? = some z) : l.take (i + 1).toNat = l.take i.toNat ++ [z] := by
  rw [show (i + 1).toNat = i.toNat + 1 by omega, List.take_add_one, h]; rfl
theorem gl_atv {α : Type} {l : List α} {i : Int} {z : α} (h0 : 0 ≤ i) (h : l[i.toNat]? = some z) : at_ l i = some z := by
  unfold at_; rw [if_pos h0, h]
theorem gl_map {α β : Type} (f : α → β) {l : List α} {i : Nat} {z : α} (h : l[i]? = some z) : (l.map f)[i]? = some (f z) := by rw [List.getElem?_map, h]; rfl
def Nx {T R : Type} (t : T) (y : T ⊕ R) : Prop := y = .inl t
def Up {T R : Type} (Q : R → Prop) (y : T ⊕ R) : Prop := ∃ r, y = .inr r ∧ Q r
theorem nx_go {T R : Type} {t t' : T} (h : t' = t) : Ok (go t' : Option (T ⊕ R)) (Nx t) := ⟨_, rfl, by rw [h]; rfl⟩
theorem nx_gd {T R : Type} {c : Prop} [Decidable c] {t t' : T} (hc : c) (h : t' = t) : Ok (gd c (go t' : Option (T ⊕ R))) (Nx t) := ok_gd.2 ⟨hc, nx_go h⟩
theorem up_up {T R : Type} {o : Option R} {Q : R → Prop} (h : Ok o Q) : Ok (up o : Option (T ⊕ R)) (Up Q) := ok_up.2 (h.mono fun r hr => ⟨r, rfl, hr⟩)
theorem gl_foldL {α τ R : Type} {Q : R → Prop} (l : List α) (f : τ → α → τ) (t0 : τ) (B : Int × τ → Option ((Int × τ) ⊕ R))
    (hB : ∀ (i : Int) z, 0 ≤ i → i < l.length → l[i.toNat]? = some z → ∀ s, s = (l.take i.toNat).foldl f t0 → Ok (B (i, s)) (Nx (i + 1, f s z)))
    (hE : ∀ s, s = l.foldl f t0 → Ok (B ((l.length : Int), s)) (Up Q)) : Ok (iter B (0, t0)) Q := by
  refine ok_iter (I := fun t => 0 ≤ t.1 ∧ t.1 ≤ l.length ∧ t.2 = (l.take t.1.toNat).foldl f t0) (μ := fun t => (l.length - t.1).toNat) ?_ ⟨by dsimp only; omega, by dsimp only; omega, by simp⟩
  rintro ⟨i, t⟩ ⟨i0, i1, i2⟩
  dsimp only at i0 i1 i2 ⊢
  by_cases hi : i < l.length
  · obtain ⟨z, hz⟩ := gl_at i0 hi
    refine (hB i z i0 hi hz t i2).mono ?_
    rintro y hy
    cases hy
    refine ⟨⟨by dsimp only; omega, by dsimp only; omega, ?_⟩, by dsimp only; omega⟩
    show _ = (l.take (i + 1).toNat).foldl f t0
    rw [gl_snoc i0 hz, List.foldl_append, i2]; rfl
  · have e : i = l.length := by omega
    subst e
    rw [List.take_of_length_le (by omega)] at i2
    refine (hE t i2).mono ?_
    rintro y ⟨r, rfl, hr⟩
    exact hr
theorem gl_chk {α R : Type} {Q : R → Prop} (l : List α) (P : α → Prop) (B : Int → Option (Int ⊕ R))
    (hB : ∀ (i : Int) z, 0 ≤ i → i < l.length → l[i.toNat]? = some z → (∀ y ∈ l.take i.toNat, P y) → Ok (B i) (fun y => y = .inl (i + 1) ∧ P z ∨ ∃ r, y = .inr r ∧ Q r))
    (hE : (∀ y ∈ l, P y) → Ok (B (l.length : Int)) (Up Q)) : Ok (iter B 0) Q := by
  refine ok_iter (I := fun i => 0 ≤ i ∧ i ≤ l.length ∧ ∀ y ∈ l.take i.toNat, P y) (μ := fun i => (l.length - i).toNat) ?_ ⟨by omega, by omega, by simp⟩
  rintro i ⟨i0, i1, i2⟩
  by_cases hi : i < l.length
  · obtain ⟨z, hz⟩ := gl_at i0 hi
    refine (hB i z i0 hi hz i2).mono ?_
    rintro y (⟨rfl, hp⟩ | ⟨r, rfl, hr⟩)
    · refine ⟨⟨by omega, by omega, fun y hy => ?_⟩, by omega⟩
      rw [gl_snoc i0 hz] at hy
      rcases List.mem_append.1 hy with q | q
      · exact i2 y q
      · rw [List.mem_singleton.1 q]; exact hp
    · exact hr
  · have e : i = l.length := by omega
    subst e
    rw [List.take_of_length_le (by omega)] at i2
    refine (hE i2).mono ?_
    rintro y ⟨r, rfl, hr⟩
    exact hr
end Go.S
end

section
namespace Go.S
open Go
theorem knownL16 : Sh.rectolaw16_known = some true := by decide +kernel
def oneT (r : List FilesFile) (p : List UInt8) : TmergeOne := ⟨(getF r p).1.path, (getF r p).1.mode, (getF r p).1.data, (getF r p).2⟩
theorem of16 {r : List FilesFile} (h : R r) (hb : r.length ≤ 1000000) (p : List UInt8) : Sh.tmerge_of r p = some (oneT r p) := by
  unfold Sh.tmerge_of
  rw [get14 h (by omega), Option.bind_some]; rfl
theorem oneT_some {r : List FilesFile} {p : List UInt8} {f : FilesFile} (h : gt r p = some f) : oneT r p = ⟨f.path, f.mode, f.data, true⟩ := by
  unfold oneT; rw [getF_some h]
theorem oneT_none {r : List FilesFile} {p : List UInt8} (h : gt r p = none) : oneT r p = ⟨[], 0, [], false⟩ := by
  unfold oneT; rw [getF_none h]
theorem oneT_eq {a b : List FilesFile} {p : List UInt8} : ((oneT a p).file_path = (oneT b p).file_path ∧ (oneT a p).file_mode = (oneT b p).file_mode ∧ (oneT a p).file_data = (oneT b p).file_data ∧ (oneT a p).is = (oneT b p).is) ↔ gt a p = gt b p := by
  cases ha : gt a p with
  | none =>
    cases hb : gt b p with
    | none => rw [oneT_none ha, oneT_none hb]; simp
    | some g => rw [oneT_none ha, oneT_some hb]; simp
  | some f =>
    cases hb : gt b p with
    | none => rw [oneT_some ha, oneT_none hb]; simp
    | some g => rw [oneT_some ha, oneT_some hb]; cases f; cases g; simp
def srcT (b o t : List FilesFile) (p : List UInt8) : List FilesFile := if gt o p = gt t p ∨ gt b p = gt t p then o else t
def Cln (b o t : List FilesFile) (p : List UInt8) : Prop := gt o p = gt t p ∨ gt b p = gt t p ∨ gt b p = gt o p
structure Bd (l : List FilesFile) : Prop where
  r : R l
  n : l.length ≤ 1000000
  p : ∀ f ∈ l, f.path.length ≤ 1000000
theorem one16 {b o t : List FilesFile} (hb : Bd b) (ho : Bd o) (ht : Bd t) {p : List UInt8} (hc : Cln b o t p) (x y : List UInt8) : Sh.tmerge_One p b o t x y = some ((getF (srcT b o t p) p).1, (getF (srcT b o t p) p).2, false) := by
  apply Ok.eq
  unfold Sh.tmerge_One
  rw [of16 hb.r hb.n, Option.bind_some, of16 ho.r ho.n, Option.bind_some, of16 ht.r ht.n, Option.bind_some]
  refine ok_jnP (fun v => v = decide (gt o p = gt t p ∨ gt b p = gt t p)) ?_ ?_
  · rintro v rfl
    by_cases q : gt o p = gt t p ∨ gt b p = gt t p
    · rw [if_pos (decide_eq_true q), ok_some]
      unfold srcT
      rw [if_pos q]; rfl
    · have q3 : gt b p = gt o p := by
        rcases hc with h | h | h
        · exact absurd (.inl h) q
        · exact absurd (.inr h) q
        · exact h
      rw [if_neg (by simp [q]), if_pos (oneT_eq.2 q3), ok_some]
      unfold srcT
      rw [if_neg q]; rfl
  · intro K hK
    by_cases q : gt o p = gt t p
    · rw [if_pos (oneT_eq.2 q)]
      exact hK _ (by simp [q])
    · rw [if_neg fun k => q (oneT_eq.1 k)]
      refine hK _ ?_
      rw [decide_eq_decide]
      rw [oneT_eq]
      simp [q]
def noCl (l : List FilesFile) : Prop := l.Pairwise fun a b => clashS a.path b.path = false
theorem fltT (l : List FilesFile) (f : FilesFile) (hb : l.length ≤ 1000000000) (hl : ∀ z ∈ l, z.path.length ≤ 1000000000) (hf : f.path.length ≤ 1000000000) : Ok (Sh.slices_ContainsFunc_files_Row_files_File_v2 l f) (fun b => b = l.any fun y => clashS y.path f.path) := by
  unfold Sh.slices_ContainsFunc_files_Row_files_File_v2 Sh.slices_IndexFunc_files_Row_files_File_v2
  rw [ok_bd]
  refine (ixloop (fun y => clashS y.path f.path) l hb (fun y => Sh.tmerge_fault_1 y f) (fun y hy => ?_) _ fun i => rfl).mono fun r hr => ?_
  · unfold Sh.tmerge_fault_1
    rw [clash_ok (hl y hy) hf]; rfl
  · rw [ok_some, fst_any hr]
theorem fault16 (l : List FilesFile) (hl : ∀ z ∈ l, z.path.length ≤ 1000000) : Ok (Sh.tmerge_fault l) fun e => e.isNil = true ↔ l.length ≤ 64 ∧ noCl l := by
  unfold Sh.tmerge_fault
  rw [ok_if]
  refine ⟨fun h => ok_some.2 ⟨fun q => (by cases q), fun q => absurd q.1 (by omega)⟩, fun h64 => ?_⟩
  refine ok_iter (I := fun i => 0 ≤ i ∧ i ≤ l.length ∧ noCl (l.take i.toNat)) (μ := fun i => (l.length - i).toNat) ?_ ⟨by omega, by omega, by simp [noCl]⟩
  rintro i ⟨i0, i1, hg⟩
  by_cases hi : i < l.length
  · obtain ⟨z, hz⟩ := gl_at i0 hi
    have hzm := List.mem_of_getElem? hz
    rw [if_pos hi, gl_atv i0 hz, Option.bind_some]
    refine ok_gd.2 ⟨⟨i0, by omega⟩, ok_lt.2 (ok_bd.2 ((fltT (l.take i.toNat) z (by rw [List.length_take]; omega) (fun y hy => by have := hl y (List.mem_of_mem_take hy); omega) (by have := hl z hzm; omega)).mono fun v hv => ?_))⟩
    subst hv
    cases ha : (l.take i.toNat).any fun y => clashS y.path z.path with
    | true =>
      rw [if_pos (by rfl)]
      refine ok_up.2 (ok_some.2 ⟨fun q => (by cases q), fun q => ?_⟩)
      obtain ⟨y, hy, hc⟩ := List.any_eq_true.1 ha
      obtain ⟨j, hj⟩ := List.getElem?_of_mem hy
      rw [List.getElem?_take] at hj
      split at hj
      · next hlt =>
        have h1 := (List.getElem?_eq_some_iff.1 hj)
        have h2 := (List.getElem?_eq_some_iff.1 hz)
        have := List.pairwise_iff_getElem.1 q.2 j i.toNat h1.1 h2.1 hlt
        rw [h1.2, h2.2, hc] at this
        cases this
      · cases hj
    | false =>
      rw [if_neg (by simp)]
      refine ok_gd.2 ⟨⟨by omega, by omega⟩, ok_go.2 ⟨⟨by omega, by omega, ?_⟩, by omega⟩⟩
      unfold noCl
      rw [gl_snoc i0 hz]
      refine List.pairwise_append.2 ⟨hg, List.pairwise_singleton _ _, fun y hy w hw => ?_⟩
      rw [List.mem_singleton.1 hw]
      have := List.any_eq_false.1 ha y hy
      simpa using this
  · rw [if_neg hi]
    rw [List.take_of_length_le (by omega)] at hg
    exact ok_up.2 (ok_some.2 ⟨fun _ => ⟨by omega, hg⟩, fun _ => rfl⟩)
def outT (b o t : List FilesFile) (ps : List (List UInt8)) : List FilesFile := ps.filterMap fun p => gt (srcT b o t p) p
theorem GoodF.bd {x : List FilesFile} (h : x.length ≤ 64 ∧ GoodF x) : Bd x := ⟨h.2.r, by omega, fun f hf => by have := checkP_len (h.2.v f hf).1; omega⟩
theorem getF_fold (r : List FilesFile) (p : List UInt8) (a : List FilesFile) : (if (getF r p).2 = true then a ++ [(⟨(getF r p).1.path, (getF r p).1.mode, (getF r p).1.data⟩ : FilesFile)] else a) = a ++ (gt r p).toList := by
  cases h : gt r p with
  | none => rw [getF_none h]; simp
  | some f => rw [getF_some h]; simp
theorem src_mem {b o t : List FilesFile} {p : List UInt8} {f : FilesFile} (h : gt (srcT b o t p) p = some f) : f ∈ o ∨ f ∈ t := by
  unfold srcT at h
  split at h
  · exact .inl (List.mem_of_find?_eq_some h)
  · exact .inr (List.mem_of_find?_eq_some h)
theorem fm_fold (b o t : List FilesFile) : ∀ (ps : List (List UInt8)) (a : List FilesFile), ps.foldl (fun (s : List FilesFile × List IndexEntry × List Str) p => (s.1 ++ (gt (srcT b o t p) p).toList, s.2.1, s.2.2)) (a, [], []) = (a ++ outT b o t ps, [], [])
  | [], a => by simp [outT]
  | p :: r, a => by
    rw [List.foldl_cons, fm_fold b o t r]
    unfold outT
    rw [List.filterMap_cons]
    cases h : gt (srcT b o t p) p with
    | none => simp [h]
    | some f => simp [h]
theorem outT_len (b o t : List FilesFile) (ps : List (List UInt8)) : (outT b o t ps).length ≤ ps.length := List.length_filterMap_le _ _
theorem merge16 {b o t : List FilesFile} (hb : b.length ≤ 64 ∧ GoodF b) (ho : o.length ≤ 64 ∧ GoodF o) (ht : t.length ≤ 64 ∧ GoodF t) (x y : List UInt8) {ps : List (List UInt8)} (hps : PathsOf [b, o, t] ps) (hc : ∀ p ∈ ps, Cln b o t p) :
    Ok (Sh.tmerge_Merge b o t x y) fun r => ((outT b o t ps).length ≤ 64 ∧ noCl (outT b o t ps) → r = (⟨outT b o t ps, [], []⟩, Err.nil)) ∧ (¬ ((outT b o t ps).length ≤ 64 ∧ noCl (outT b o t ps)) → r.2.isNil = false) := by
  have bb := GoodF.bd hb
  have bo := GoodF.bd ho
  have bt := GoodF.bd ht
  unfold Sh.tmerge_Merge
  rw [ok_lt]
  refine gl_chk [b, o, t] (fun _ => True) _ ?_ ?_
  · intro i z i0 hi hz _
    have hzm := List.mem_of_getElem? hz
    have hg : z.length ≤ 64 ∧ GoodF z := by
      simp only [List.mem_cons, List.not_mem_nil, or_false] at hzm
      rcases hzm with rfl | rfl | rfl
      · exact hb
      · exact ho
      · exact ht
    rw [if_pos hi, gl_atv i0 hz, Option.bind_some]
    simp only [List.length_cons, List.length_nil] at hi
    refine ok_bd.2 ((check14 (x := z) (by omega) fun w hw => by have := (GoodF.bd hg).p w hw; omega).mono fun e he => ?_)
    rw [if_pos (he.2 hg)]
    exact ok_gd.2 ⟨⟨by omega, by omega⟩, ⟨_, rfl, .inl ⟨rfl, trivial⟩⟩⟩
  · intro _
    rw [if_neg (by omega)]
    refine up_up (ok_lt.2 (ok_bd.2 ((paths14 [b, o, t] (by simp) (fun l hl => ?_)).mono ?_)))
    · simp only [List.mem_cons, List.not_mem_nil, or_false] at hl
      rcases hl with rfl | rfl | rfl
      · exact ⟨bb.n, bb.p⟩
      · exact ⟨bo.n, bo.p⟩
      · exact ⟨bt.n, bt.p⟩
    rintro qs ⟨hqs, hql⟩
    obtain rfl := paths_same hps hqs
    refine gl_foldL ps (fun (s : List FilesFile × List IndexEntry × List Str) p => (s.1 ++ (gt (srcT b o t p) p).toList, s.2.1, s.2.2)) ([], [], []) _ ?_ ?_
    · intro i z i0 hi hz s hs
      rw [fm_fold, List.nil_append] at hs
      subst hs
      have hol := outT_len b o t (ps.take i.toNat)
      have htl : (ps.take i.toNat).length ≤ 8000000 := by rw [List.length_take]; omega
      have hcz := hc z (List.mem_of_getElem? hz)
      dsimp only
      rw [if_pos hi, gl_atv i0 hz, Option.bind_some, one16 bb bo bt hcz, Option.bind_some]
      refine ok_jnP (fun c => c = outT b o t (ps.take i.toNat) ++ (gt (srcT b o t z) z).toList) ?_ ?_
      · rintro c rfl
        rw [if_neg (by simp)]
        exact nx_gd ⟨by omega, by omega⟩ rfl
      · intro K hK
        have e := getF_fold (srcT b o t z) z (outT b o t (ps.take i.toNat))
        by_cases q : (getF (srcT b o t z) z).2 = true
        · rw [if_pos q] at e
          rw [if_pos q]
          simp only [ok_lt, ok_gd]
          exact ⟨by simp only [List.length_cons, List.length_nil]; omega, hK _ e⟩
        · rw [if_neg q] at e
          rw [if_neg q]
          exact hK _ e
    · intro s hs
      rw [fm_fold, List.nil_append] at hs
      subst hs
      have hol := outT_len b o t ps
      dsimp only
      rw [if_neg (by omega)]
      refine up_up (ok_bd.2 ((fault16 (outT b o t ps) fun z hz => ?_).mono fun e he => ?_))
      · unfold outT at hz
        obtain ⟨p, _, hp⟩ := List.mem_filterMap.1 hz
        rcases src_mem hp with q | q
        · exact bo.p z q
        · exact bt.p z q
      rw [ok_if]
      refine ⟨fun q => ?_, fun q => ?_⟩
      · have clipI : Sh.slices_Clip_index_Entry_index_Entry [] = some [] := by
          unfold Sh.slices_Clip_index_Entry_index_Entry
          simp [lt, gd]
        rw [clip14, Option.bind_some, clipI, Option.bind_some, clipS14, Option.bind_some, ok_some]
        exact ⟨fun _ => rfl, fun k => absurd (he.1 q) k⟩
      · rw [ok_some]
        refine ⟨fun k => absurd (he.2 k) q, fun _ => by simpa using q⟩
theorem out_all {b o t s : List FilesFile} {ps : List (List UInt8)} (hps : PathsOf [b, o, t] ps) (hs : R s) (hm : s = o ∨ s = t) (h : ∀ p, gt (srcT b o t p) p = gt s p) : outT b o t ps = s := by
  have e : outT b o t ps = ps.filterMap (gt s) := by
    unfold outT
    congr 1
    funext p
    exact h p
  rw [e]
  refine paths_all hps hs fun f hf => (hps.2 f.path).2 ?_
  rcases hm with rfl | rfl
  · exact ⟨s, by simp, f, hf, rfl⟩
  · exact ⟨s, by simp, f, hf, rfl⟩
theorem GoodF.ncl {x : List FilesFile} (h : GoodF x) : noCl x := h.c
theorem exPaths (ls : List (List FilesFile)) : ∃ ps, PathsOf ls ps := ⟨keysS (ls.flatMap fun l => l.map (·.path)), keysS_lt _, fun x => by rw [keysS_mem]; simp only [List.mem_flatMap, List.mem_map]⟩
theorem side16 {b o t s : List FilesFile} (hb : b.length ≤ 64 ∧ GoodF b) (ho : o.length ≤ 64 ∧ GoodF o) (ht : t.length ≤ 64 ∧ GoodF t) (x y : List UInt8) (hm : s = o ∨ s = t) (hc : ∀ p, Cln b o t p) (h : ∀ p, gt (srcT b o t p) p = gt s p) : Sh.tmerge_Merge b o t x y = some (⟨s, [], []⟩, Err.nil) := by
  obtain ⟨ps, hps⟩ := exPaths [b, o, t]
  have hs : s.length ≤ 64 ∧ GoodF s := by rcases hm with rfl | rfl <;> assumption
  have e := out_all hps hs.2.r hm h
  apply Ok.eq
  refine (merge16 hb ho ht x y hps fun p _ => hc p).mono fun r hr => ?_
  rw [e] at hr
  exact hr.1 ⟨hs.1, hs.2.ncl⟩
theorem treesSides_ok (b o : List FilesFile) : Sh.rectolaw16_TreesSides b o = some true := by
  apply Ok.eq
  unfold Sh.rectolaw16_TreesSides
  rw [knownL16, Option.bind_some, if_neg (by simp)]
  refine ok_jnP (fun v => v = false → (b.length ≤ 64 ∧ GoodF b) ∧ o.length ≤ 64 ∧ GoodF o) ?_ ?_
  · intro v hv
    cases v with
    | true => rw [if_pos rfl, ok_some]
    | false =>
      obtain ⟨hB, hO⟩ := hv rfl
      have hol := hO.1
      rw [if_neg (by simp)]
      rw [side16 hB hO hB _ _ (s := o) (.inl rfl) (fun p => .inr (.inl rfl)) (fun p => by unfold srcT; rw [if_pos (.inr rfl)]), Option.bind_some]
      rw [side16 hB hB hO _ _ (s := o) (.inr rfl) (fun p => .inr (.inr rfl)) (fun p => by
        unfold srcT
        split
        · next q => rcases q with q | q <;> exact q
        · rfl), Option.bind_some]
      rw [side16 hB hO hO _ _ (s := o) (.inl rfl) (fun p => .inl rfl) (fun p => by unfold srcT; rw [if_pos (.inl rfl)]), Option.bind_some]
      dsimp only
      rw [if_pos (by rfl), if_pos (by rfl), if_pos (by rfl), same14 o o (by omega), Option.bind_some, if_pos (by simp), Option.bind_some, if_pos (by simp), Option.bind_some, if_pos (by simp)]
      simp [gd, Ok, S.I64]
  · intro K hK
    refine ok_bd.2 ((few14 b).mono fun b1 h1 => ?_)
    rw [ok_if]
    refine ⟨fun _ => hK _ (by simp), fun q1 => ok_bd.2 ((few14 o).mono fun b2 h2 => ?_)⟩
    rw [ok_if]
    refine ⟨fun _ => hK _ (by simp), fun q2 => ?_⟩
    obtain ⟨a1, a2⟩ := h1 (by simpa using q1)
    obtain ⟨c1, c2⟩ := h2 (by simpa using q2)
    refine ok_bd.2 ((check14 (x := b) (by omega) fun z hz => by have := a2 z hz; omega).mono fun b3 h3 => ?_)
    rw [ok_if]
    refine ⟨fun q3 => ok_bd.2 ((check14 (x := o) (by omega) fun z hz => by have := c2 z hz; omega).mono fun b4 h4 => ?_), fun _ => hK _ (by simp)⟩
    exact hK _ fun q => ⟨h3.1 q3, h4.1 (by simpa using q)⟩
end Go.S
end

section
namespace Go.S
open Go
theorem good_clash {x : List FilesFile} (h : GoodF x) {a b : FilesFile} (ha : a ∈ x) (hb : b ∈ x) : clashS a.path b.path = false := by
  obtain ⟨i, hi⟩ := List.getElem?_of_mem ha
  obtain ⟨j, hj⟩ := List.getElem?_of_mem hb
  obtain ⟨hi1, hi2⟩ := List.getElem?_eq_some_iff.1 hi
  obtain ⟨hj1, hj2⟩ := List.getElem?_eq_some_iff.1 hj
  rcases Nat.lt_trichotomy i j with q | q | q
  · have := List.pairwise_iff_getElem.1 h.c i j hi1 hj1 q
    rwa [hi2, hj2] at this
  · subst q
    rw [← hi2, ← hj2]; exact clash_self _
  · have := List.pairwise_iff_getElem.1 h.c j i hj1 hi1 q
    rw [hi2, hj2] at this
    rw [clash_comm]; exact this
theorem like16 (a b : List FilesFile) (la : a.length ≤ 1000000000) (lb : b.length ≤ 1000000000) (p : List UInt8) : Sh.rectoref14_Like (a.map toF) (b.map toF) p = some (decide (gt a p = gt b p)) := by
  unfold Sh.rectoref14_Like
  rw [getr14 a la, getr14 b lb, Option.bind_some, Option.bind_some]
  cases ha : gt a p with
  | none =>
    rw [getF_none ha]
    cases hb : gt b p with
    | none => rw [getF_none hb]; simp
    | some g => rw [getF_some hb]; simp
  | some f =>
    rw [getF_some ha]
    cases hb : gt b p with
    | none => rw [getF_none hb]; simp
    | some g =>
      rw [getF_some hb]
      by_cases h : f = g
      · subst h; simp
      · have : ¬ (f.path = g.path ∧ f.mode = g.mode ∧ f.data = g.data) := fun q => h (by cases f; cases g; simpa using q)
        simp [toF, this, h]
theorem rcause16 {f : FilesFile} (h : vF f) : Sh.rectoref14_Cause (⟨f.path, f.mode, f.data⟩ : Rectoref14File) = some 0 := by
  obtain ⟨h1, h2, h3⟩ := h
  have hm : Sh.rectoref14_Mode f.mode = some true := by
    unfold Sh.rectoref14_Mode
    rcases h2 with q | q <;> simp [q]
  unfold Sh.rectoref14_Cause
  rw [rpcheck_ok, Option.bind_some, if_pos h1]
  dsimp only
  rw [hm, Option.bind_some, if_neg (by simp), if_neg (by omega)]
theorem rcheck16 {x : List FilesFile} (h : x.length ≤ 64 ∧ GoodF x) : Sh.rectoref14_Check (x.map toF) = some ⟨[], 0⟩ := by
  apply Ok.eq
  have hn := h.1
  have bx := GoodF.bd h
  unfold Sh.rectoref14_Check
  have hlen : (x.map toF).length = x.length := List.length_map ..
  simp only [hlen]
  rw [if_neg (by omega)]
  refine gl_chk x (fun _ => True) _ ?_ ?_
  · intro i z i0 hi hz _
    have hzm := List.mem_of_getElem? hz
    rw [if_pos hi, gl_atv i0 (gl_map toF hz), Option.bind_some]
    show Ok ((Sh.rectoref14_Cause (⟨z.path, z.mode, z.data⟩ : Rectoref14File)).bind _) _
    rw [rcause16 (h.2.v z hzm), Option.bind_some]
    refine ok_jnP (fun e => e = 0) ?_ ?_
    · rintro e rfl
      refine ok_jnP (fun e => e = 0) ?_ ?_
      · rintro e rfl
        rw [if_pos rfl]
        exact ok_gd.2 ⟨⟨by omega, by omega⟩, ⟨_, rfl, .inl ⟨rfl, trivial⟩⟩⟩
      · intro K hK
        refine ok_iter (I := fun t => t.1 = 0 ∧ 0 ≤ t.2 ∧ t.2 ≤ i) (μ := fun t => (i - t.2).toNat) ?_ ⟨rfl, by dsimp only; omega, by dsimp only; omega⟩
        rintro ⟨e, k⟩ ⟨e0, k0, k1⟩
        dsimp only at e0 k0 k1 ⊢
        subst e0
        by_cases hk : k < i
        · obtain ⟨w, hw⟩ := gl_at (l := x) k0 (by omega)
          have hwm := List.mem_of_getElem? hw
          have hwp := bx.p w hwm
          have hzp := bx.p z hzm
          have hcl : Sh.rectoref1_Clash (toF w).path (toF z).path = some (clashS w.path z.path) := rclash_ok (a := w.path) (by omega) (by show z.path.length ≤ _; omega)
          rw [if_pos hk, if_pos rfl]
          refine ok_jnP (fun e => e = 0) ?_ ?_
          · rintro e rfl
            exact ok_gd.2 ⟨⟨by omega, by omega⟩, ok_go.2 ⟨⟨rfl, by omega, by omega⟩, by omega⟩⟩
          · intro K2 hK2
            rw [gl_atv k0 (gl_map toF hw), Option.bind_some, Option.bind_some, hcl, Option.bind_some, good_clash h.2 hwm hzm, if_neg (by simp)]
            exact hK2 _ rfl
        · rw [if_neg hk]
          exact ok_up.2 (hK 0 rfl)
    · intro K hK
      refine ok_jnP (fun b => b = false) ?_ ?_
      · rintro b rfl
        rw [if_neg (by simp)]; exact hK _ rfl
      · intro K2 hK2
        rw [if_pos rfl]
        by_cases hp : 0 < i
        · obtain ⟨w, hw⟩ := gl_at (l := x) (i := i - 1) (by omega) (by omega)
          rw [if_pos hp]
          refine ok_gd.2 ⟨⟨by omega, by omega⟩, ?_⟩
          rw [gl_atv (by omega) (gl_map toF hw), Option.bind_some, Option.bind_some]
          refine hK2 _ ?_
          have hlt : w.path < z.path := h.2.r.take_lt hz w (List.mem_of_getElem? (i := (i - 1).toNat) (by rw [List.getElem?_take, if_pos (by omega)]; exact hw))
          show (!Op.bytesLess w.path z.path) = false
          rw [Go.Proofs.bytesLess_eq, decide_eq_true hlt]; rfl
        · rw [if_neg hp]; exact hK2 _ rfl
  · intro _
    rw [if_neg (by omega)]
    exact up_up (ok_some.2 rfl)
theorem rone16 {b o t : List FilesFile} (hb : Bd b) (ho : Bd o) (ht : Bd t) {p : List UInt8} (hc : Cln b o t p) (x y : List UInt8) : Sh.rectoref14_One p (b.map toF) (o.map toF) (t.map toF) x y = some (toF (getF (srcT b o t p) p).1, (getF (srcT b o t p) p).2, false) := by
  apply Ok.eq
  have hbn := hb.n
  have hon := ho.n
  have htn := ht.n
  unfold Sh.rectoref14_One
  rw [getr14 b (by omega), Option.bind_some, getr14 o (by omega), Option.bind_some, getr14 t (by omega), Option.bind_some]
  refine ok_jnP (fun v => v = decide (gt o p = gt t p ∨ gt b p = gt t p)) ?_ ?_
  · rintro v rfl
    by_cases q : gt o p = gt t p ∨ gt b p = gt t p
    · rw [if_pos (decide_eq_true q), ok_some]
      unfold srcT
      rw [if_pos q]
    · have q3 : gt b p = gt o p := by
        rcases hc with h | h | h
        · exact absurd (.inl h) q
        · exact absurd (.inr h) q
        · exact h
      rw [if_neg (by simp [q]), like16 b o (by omega) (by omega), Option.bind_some, if_pos (decide_eq_true q3), ok_some]
      unfold srcT
      rw [if_neg q]
  · intro K hK
    rw [like16 o t (by omega) (by omega), Option.bind_some]
    by_cases q : gt o p = gt t p
    · rw [if_pos (decide_eq_true q)]
      exact hK _ (by simp [q])
    · rw [if_neg (by simp [q]), like16 b t (by omega) (by omega), Option.bind_some]
      refine hK _ ?_
      rw [decide_eq_decide]
      simp [q]
theorem rfm_fold (b o t : List FilesFile) : ∀ (ps : List (List UInt8)) (a : List Rectoref14File), ps.foldl (fun (s : List Rectoref14File × List Rectoref14Entry × List Str) p => (s.1 ++ (gt (srcT b o t p) p).toList.map toF, s.2.1, s.2.2)) (a, [], []) = (a ++ (outT b o t ps).map toF, [], [])
  | [], a => by simp [outT]
  | p :: r, a => by
    rw [List.foldl_cons, rfm_fold b o t r]
    unfold outT
    rw [List.filterMap_cons]
    cases h : gt (srcT b o t p) p with
    | none => simp [h]
    | some f => simp [h]
theorem rgetF_fold (r : List FilesFile) (p : List UInt8) (a : List Rectoref14File) : (if (getF r p).2 = true then a ++ [(⟨(toF (getF r p).1).path, (toF (getF r p).1).mode, (toF (getF r p).1).data⟩ : Rectoref14File)] else a) = a ++ (gt r p).toList.map toF := by
  cases h : gt r p with
  | none => rw [getF_none h]; simp
  | some f => rw [getF_some h]; simp [toF]
theorem rmerge16 {b o t : List FilesFile} (hb : b.length ≤ 64 ∧ GoodF b) (ho : o.length ≤ 64 ∧ GoodF o) (ht : t.length ≤ 64 ∧ GoodF t) (x y : List UInt8) {ps : List (List UInt8)} (hps : PathsOf [b, o, t] ps) (hc : ∀ p ∈ ps, Cln b o t p) :
    Ok (Sh.rectoref14_Merge (b.map toF) (o.map toF) (t.map toF) x y) fun r => ¬ ((outT b o t ps).length ≤ 64 ∧ noCl (outT b o t ps)) → r.2.err ≠ 0 := by
  have bb := GoodF.bd hb
  have bo := GoodF.bd ho
  have bt := GoodF.bd ht
  have hout : ∀ z ∈ outT b o t ps, z.path.length ≤ 1000000 := fun z hz => by
    unfold outT at hz
    obtain ⟨p, _, hp⟩ := List.mem_filterMap.1 hz
    rcases src_mem hp with q | q
    · exact bo.p z q
    · exact bt.p z q
  unfold Sh.rectoref14_Merge
  rw [ok_lt]
  have el : [b.map toF, o.map toF, t.map toF] = [b, o, t].map (·.map toF) := rfl
  rw [el]
  refine gl_chk [b, o, t] (fun _ => True) _ ?_ ?_
  · intro i z i0 hi hz _
    have hzm := List.mem_of_getElem? hz
    have hg : z.length ≤ 64 ∧ GoodF z := by
      simp only [List.mem_cons, List.not_mem_nil, or_false] at hzm
      rcases hzm with rfl | rfl | rfl
      · exact hb
      · exact ho
      · exact ht
    simp only [List.length_cons, List.length_nil] at hi
    rw [if_pos (by omega), gl_atv i0 (gl_map (·.map toF) hz), Option.bind_some, rcheck16 hg, Option.bind_some, if_pos (by rfl)]
    exact ok_gd.2 ⟨⟨by omega, by omega⟩, ⟨_, rfl, .inl ⟨rfl, trivial⟩⟩⟩
  · intro _
    rw [if_neg (by simp)]
    refine up_up (ok_bd.2 ((pathsr14 [b, o, t] (by simp) (fun l hl => ?_)).mono ?_))
    · simp only [List.mem_cons, List.not_mem_nil, or_false] at hl
      rcases hl with rfl | rfl | rfl
      · exact bb.n
      · exact bo.n
      · exact bt.n
    rintro qs ⟨hqs, hql⟩
    obtain rfl := paths_same hps hqs
    refine gl_foldL ps (fun (s : List Rectoref14File × List Rectoref14Entry × List Str) p => (s.1 ++ (gt (srcT b o t p) p).toList.map toF, s.2.1, s.2.2)) ([], [], []) _ ?_ ?_
    · intro i z i0 hi hz s hs
      rw [rfm_fold, List.nil_append] at hs
      subst hs
      have hol := outT_len b o t (ps.take i.toNat)
      have htl : (ps.take i.toNat).length ≤ 8000000 := by rw [List.length_take]; omega
      have hcz := hc z (List.mem_of_getElem? hz)
      have hml : ((outT b o t (ps.take i.toNat)).map toF).length = (outT b o t (ps.take i.toNat)).length := List.length_map ..
      dsimp only
      rw [if_pos hi]
      refine ok_jnP (fun s => s = ((outT b o t (ps.take i.toNat)).map toF ++ (gt (srcT b o t z) z).toList.map toF, [], [])) ?_ ?_
      · rintro s rfl
        exact nx_gd ⟨by omega, by omega⟩ rfl
      · intro K hK
        rw [gl_atv i0 hz, Option.bind_some, rone16 bb bo bt hcz, Option.bind_some]
        refine ok_jnP (fun c => c = (outT b o t (ps.take i.toNat)).map toF ++ (gt (srcT b o t z) z).toList.map toF) ?_ ?_
        · rintro c rfl
          rw [if_pos (by rfl)]
          exact hK _ rfl
        · intro K2 hK2
          have e := rgetF_fold (srcT b o t z) z ((outT b o t (ps.take i.toNat)).map toF)
          by_cases q : (getF (srcT b o t z) z).2 = true
          · rw [if_pos q] at e
            rw [if_pos q]
            simp only [ok_lt, ok_gd]
            exact ⟨by simp only [List.length_cons, List.length_nil]; omega, hK2 _ e⟩
          · rw [if_neg q] at e
            rw [if_neg q]
            exact hK2 _ e
    · intro s hs
      rw [rfm_fold, List.nil_append] at hs
      subst hs
      have hml : ((outT b o t ps).map toF).length = (outT b o t ps).length := List.length_map ..
      generalize outT b o t ps = l at hout hml ⊢
      dsimp only
      rw [if_neg (by omega)]
      refine up_up ?_
      rw [hml, ok_if]
      refine ⟨fun h => ?_, fun h64 => ?_⟩
      · have ea : Sh.rectoref3_At [102, 105, 108, 101] 64 4 = some ⟨[⟨[102, 105, 108, 101], 64⟩], 4⟩ := rfl
        rw [ea, Option.bind_some, ok_some]
        intro _
        show (4 : Int) ≠ 0
        omega
      · refine ok_iter (I := fun i => 0 ≤ i ∧ i ≤ l.length ∧ noCl (l.take i.toNat)) (μ := fun i => (l.length - i).toNat) ?_ ⟨by omega, by omega, by simp [noCl]⟩
        rintro i ⟨i0, i1, hg⟩
        by_cases hi : i < l.length
        · obtain ⟨z, hz⟩ := gl_at i0 hi
          have hzp := hout z (List.mem_of_getElem? hz)
          rw [if_pos hi]
          refine ok_iter (I := fun k => 0 ≤ k ∧ k ≤ i ∧ ∀ w ∈ l.take k.toNat, clashS w.path z.path = false) (μ := fun k => (i - k).toNat) ?_ ⟨by omega, by omega, by simp⟩
          rintro k ⟨k0, k1, hk2⟩
          by_cases hk : k < i
          · obtain ⟨w, hw⟩ := gl_at (l := l) k0 (by omega)
            have hwp := hout w (List.mem_of_getElem? hw)
            have hcl : Sh.rectoref1_Clash (toF w).path (toF z).path = some (clashS w.path z.path) := rclash_ok (a := w.path) (by omega) (by show z.path.length ≤ _; omega)
            rw [if_pos hk, gl_atv k0 (gl_map toF hw), Option.bind_some, gl_atv i0 (gl_map toF hz), Option.bind_some, hcl, Option.bind_some]
            cases hq : clashS w.path z.path with
            | true =>
              have ea : Sh.rectoref3_At [102, 105, 108, 101] i 11 = some ⟨[⟨[102, 105, 108, 101], i⟩], 11⟩ := rfl
              rw [if_pos rfl, ea, Option.bind_some]
              refine ok_up.2 (ok_up.2 (ok_some.2 ?_))
              intro _
              show (11 : Int) ≠ 0
              omega
            | false =>
              rw [if_neg (by simp)]
              refine ok_gd.2 ⟨⟨by omega, by omega⟩, ok_go.2 ⟨⟨by omega, by omega, fun v hv => ?_⟩, by omega⟩⟩
              rw [gl_snoc k0 hw] at hv
              rcases List.mem_append.1 hv with q | q
              · exact hk2 v q
              · rw [List.mem_singleton.1 q]; exact hq
          · have ek : k = i := by omega
            subst ek
            rw [if_neg hk]
            refine ok_up.2 (ok_gd.2 ⟨⟨by omega, by omega⟩, ok_go.2 ⟨⟨by omega, by omega, ?_⟩, by omega⟩⟩)
            unfold noCl
            rw [gl_snoc i0 hz]
            exact List.pairwise_append.2 ⟨hg, List.pairwise_singleton _ _, fun y hy w hw => by rw [List.mem_singleton.1 hw]; exact hk2 y hy⟩
        · rw [if_neg hi]
          rw [List.take_of_length_le (by omega)] at hg
          exact ok_up.2 (ok_some.2 fun k => absurd ⟨by omega, hg⟩ k)
theorem gt_outT {b o t : List FilesFile} {ps : List (List UInt8)} (ho : R (outT b o t ps)) {p : List UInt8} (hp : p ∈ ps) : gt (outT b o t ps) p = gt (srcT b o t p) p := by
  cases h : gt (srcT b o t p) p with
  | some f => exact (gt_some ho).2 ⟨List.mem_filterMap.2 ⟨p, hp, h⟩, gt_path h⟩
  | none =>
    refine gt_none.2 fun z hz hq => ?_
    unfold outT at hz
    obtain ⟨q, _, hq2⟩ := List.mem_filterMap.1 hz
    have := gt_path hq2
    rw [hq] at this
    subst this
    rw [h] at hq2
    cases hq2
theorem outT_R {b o t : List FilesFile} {ps : List (List UInt8)} (h : ps.Pairwise (· < ·)) : R (outT b o t ps) := by
  unfold R outT
  rw [List.pairwise_filterMap]
  refine h.imp fun {a c} hac f hf g hg => ?_
  rw [gt_path hf, gt_path hg]; exact hac
end Go.S
end

section
namespace Go.S
open Go
theorem treesApart_ok (b o t : List FilesFile) : Sh.rectolaw16_TreesApart b o t = some true := by
  apply Ok.eq
  unfold Sh.rectolaw16_TreesApart
  rw [knownL16, Option.bind_some, if_neg (by simp)]
  refine ok_jnP (fun v => v = false → (b.length ≤ 64 ∧ GoodF b) ∧ (o.length ≤ 64 ∧ GoodF o) ∧ t.length ≤ 64 ∧ GoodF t) ?_ ?_
  · intro v hv
    cases v with
    | true => rw [if_pos rfl, ok_some]
    | false =>
      obtain ⟨hB, hO, hT⟩ := hv rfl
      have bb := GoodF.bd hB
      have bo := GoodF.bd hO
      have bt := GoodF.bd hT
      have hbl := hB.1
      have hol := hO.1
      have htl := hT.1
      have ob := of14 b (by omega)
      have oo := of14 o (by omega)
      have ot := of14 t (by omega)
      rw [if_neg (by simp), ob, Option.bind_some, oo, Option.bind_some, ot, Option.bind_some, ok_lt]
      have el : [b.map toF, o.map toF, t.map toF] = [b, o, t].map (·.map toF) := rfl
      rw [el]
      refine ok_bd.2 ((pathsr14 [b, o, t] (by simp) (fun l hl => ?_)).mono ?_)
      · simp only [List.mem_cons, List.not_mem_nil, or_false] at hl
        rcases hl with rfl | rfl | rfl
        · exact bb.n
        · exact bo.n
        · exact bt.n
      rintro ps ⟨hps, hpl⟩
      refine gl_chk ps (fun p => gt b p = gt o p ∨ gt b p = gt t p) _ ?_ ?_
      · intro i z i0 hi hz _
        rw [if_pos hi]
        refine ok_jnP (fun v => v = false → gt b z = gt o z ∨ gt b z = gt t z) ?_ ?_
        · intro v hv
          cases v with
          | true =>
            rw [if_pos rfl]
            exact ⟨_, rfl, .inr ⟨true, rfl, rfl⟩⟩
          | false =>
            rw [if_neg (by simp)]
            exact ok_gd.2 ⟨⟨by omega, by omega⟩, ⟨_, rfl, .inl ⟨rfl, hv rfl⟩⟩⟩
        · intro K hK
          rw [gl_atv i0 hz, Option.bind_some, Option.bind_some, Option.bind_some, like16 b o (by omega) (by omega), Option.bind_some]
          by_cases q : gt b z = gt o z
          · rw [if_neg (by simp [q])]
            exact hK _ fun _ => .inl q
          · rw [if_pos (by simp [q]), Option.bind_some, Option.bind_some, Option.bind_some, like16 b t (by omega) (by omega), Option.bind_some]
            exact hK _ fun h => .inr (by simpa using h)
      · intro hP
        rw [if_neg (by omega)]
        have hc : ∀ p ∈ ps, Cln b o t p := fun p hp => by
          rcases hP p hp with q | q
          · exact .inr (.inr q)
          · exact .inr (.inl q)
        refine up_up (ok_bd.2 ((merge16 hB hO hT _ _ hps hc).mono ?_))
        rintro r ⟨h1, h2⟩
        by_cases hg : (outT b o t ps).length ≤ 64 ∧ noCl (outT b o t ps)
        · have hr := h1 hg
          subst hr
          have hRo := outT_R (b := b) (o := o) (t := t) hps.1
          have hoL := hg.1
          dsimp only
          rw [if_pos (by rfl)]
          refine gl_chk ps (fun _ => True) _ ?_ ?_
          · intro i z i0 hi hz _
            have hzm := List.mem_of_getElem? hz
            have hgo := gt_outT hRo hzm
            rw [if_pos hi, Option.bind_some]
            refine ok_jnP (fun w => ∃ s, s.length ≤ 1000000 ∧ w = s.map toF ∧ gt (outT b o t ps) z = gt s z) ?_ ?_
            · rintro w ⟨s, hs, rfl, hq⟩
              rw [gl_atv i0 hz, Option.bind_some, of14 _ (by omega), Option.bind_some, like16 _ s (by omega) (by omega), Option.bind_some, if_neg (by simp [hq])]
              exact ok_gd.2 ⟨⟨by omega, by omega⟩, ⟨_, rfl, .inl ⟨rfl, trivial⟩⟩⟩
            · intro K hK
              rw [gl_atv i0 hz, Option.bind_some, Option.bind_some, Option.bind_some, like16 b o (by omega) (by omega), Option.bind_some]
              by_cases q : gt b z = gt o z
              · rw [if_neg (by simp [q])]
                refine hK _ ⟨t, bt.n, rfl, ?_⟩
                rw [hgo]
                unfold srcT
                split
                · next k =>
                  rcases k with k | k
                  · exact k
                  · rw [← q]; exact k
                · rfl
              · rw [if_pos (by simp [q]), Option.bind_some]
                refine hK _ ⟨o, bo.n, rfl, ?_⟩
                rw [hgo]
                unfold srcT
                have q2 : gt b z = gt t z := by
                  rcases hP z hzm with k | k
                  · exact absurd k q
                  · exact k
                rw [if_pos (.inr q2)]
          · intro _
            rw [if_neg (by omega)]
            exact up_up (by simp [ok_some])
        · rw [if_neg (by simp [h2 hg]), Option.bind_some, Option.bind_some, Option.bind_some]
          refine ok_bd.2 ((rmerge16 hB hO hT _ _ hps hc).mono fun w hw => ok_some.2 ?_)
          simpa using hw hg
  · intro K hK
    refine ok_bd.2 ((few14 b).mono fun b1 h1 => ?_)
    rw [ok_if]
    refine ⟨fun _ => hK _ (by simp), fun q1 => ok_bd.2 ((few14 o).mono fun b2 h2 => ?_)⟩
    rw [ok_if]
    refine ⟨fun _ => hK _ (by simp), fun q2 => ok_bd.2 ((few14 t).mono fun b2' h2' => ?_)⟩
    rw [ok_if]
    refine ⟨fun _ => hK _ (by simp), fun q2' => ?_⟩
    obtain ⟨a1, a2⟩ := h1 (by simpa using q1)
    obtain ⟨c1, c2⟩ := h2 (by simpa using q2)
    obtain ⟨d1, d2⟩ := h2' (by simpa using q2')
    simp only [ok_if]
    refine ⟨fun _ => hK _ (by simp), fun _ => ⟨fun _ => hK _ (by simp), fun _ => ⟨fun _ => hK _ (by simp), fun _ => ?_⟩⟩⟩
    refine ok_bd.2 ((check14 (x := b) (by omega) fun z hz => by have := a2 z hz; omega).mono fun b3 h3 => ?_)
    rw [ok_if]
    refine ⟨fun q3 => ok_bd.2 ((check14 (x := o) (by omega) fun z hz => by have := c2 z hz; omega).mono fun b4 h4 => ?_), fun _ => hK _ (by simp)⟩
    rw [ok_if]
    refine ⟨fun q4 => ok_bd.2 ((check14 (x := t) (by omega) fun z hz => by have := d2 z hz; omega).mono fun b5 h5 => ?_), fun _ => hK _ (by simp)⟩
    exact hK _ fun q => ⟨h3.1 q3, h4.1 q4, h5.1 (by simpa using q)⟩
end Go.S
end
