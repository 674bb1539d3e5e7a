/- Part of the proofs of: The laws on plans hold for every input: what is laid into a folder keeps what was changed, a clean folder takes any tree, and by force the index is the tree. -/
import Derived.Test.YtpmhinamcndmeaaGreatDoorPC
set_option linter.unusedVariables false
set_option linter.unusedSimpArgs false
set_option linter.unusedSectionVars false
section
set_option linter.unusedVariables false
namespace Go.Proofs.YtpmhinamcndmeaaGreatDoor
set_option maxHeartbeats 4000000
set_option maxRecDepth 100000
open Go.RowKit Go.V
open Go.S hiding Str
theorem index_Check_ct (l_0 : Sv IndexEntry) {r : Err} (hS : Sh.index_Check l_0.l = some r) :
 Ct Tryz.prog 77 [l_0.val] l_0.ok (Ow.emp) (X := Er) (fun x => x.val) (fun x => r = x.pl) (fun x => x.ok) (fun x => Ow.emp) := by
 refine Ct.of Tryz.func77 rfl (by kernel_rfl) Tryz.ntmps77 (by simp) fun c => ?_
 unfold Sh.index_Check at hS
 refine Zq (Zr ?_)
 refine Za ?_
 refine Zl ?_
 refine Zq (Zq (Zr ?_))
 refine Zm ?_
 refine VL.q (q_ln (s := l_0) Tryz.underlying29 rfl) (by decide) ?_
 refine VL.q (q_gtr rfl rfl) (by decide) ?_
 refine Zl ?_
 refine VC.cond_dec rfl (fun h7 => ?_) (fun h7 => ?_)
 ·
  replace hS := it_t h7 hS
  refine Zq (Zr ?_)
  refine VL.q (q_mkif Tryz.underlying105 (fun _ h => by cases h) rfl) (by decide) ?_
  refine VL.q (q_build (vs := [(0, str [101, 110, 116, 114, 121]), (1, i64 256), (2, (Er.no 4).val)]) (cs := #[str [101, 110, 116, 114, 121], i64 256, (Er.no 4).val]) rfl (by kernel_rfl)) (by decide) ?_
  refine VL.box (cs := [str [101, 110, 116, 114, 121], i64 256, (Er.no 4).val]) rfl rfl (by decide) fun b10_1 => ?_
  refine VL.shutB b10_1 ?_
  refine VL.q (q_mkif Tryz.underlying104 (fun _ h => by cases h) rfl) (by decide) ?_
  refine Za ?_
  refine Zl ?_
  cases hS
  exact VC.ret (fin1 (.inr rfl) rfl rfl (Er.fault b10_1 [101, 110, 116, 114, 121] 256 (Er.no 4)) rfl rfl (by (try dsimp only); exact InM.out) (fun _ _ => trivial))
 replace hS := it_f h7 hS
 refine Zk ?_
 refine Zq (Zq (Zr ?_))
 refine Zm ?_
 refine VL.q (q_ln (s := l_0) Tryz.underlying29 rfl) (by decide) ?_
 refine Zm ?_
 refine Zl ?_
 refine Zb ?_
 refine VC.iter (S := Int) (fun (x14_2 : Int) => x14_2) (fun (x14_2 : Int) => [(0, l_0.val), (13, i64 (l_0.l.length : Int)), (14, i64 x14_2)]) (fun (x14_2 : Int) => Mo.tt) (fun (x14_2 : Int) => Ow.emp) 0 [0, 13, 14] hS rfl ?_
 clear hS
 rintro x14_2 m1 y1 hS hK1
 show VC _ _ _ _ _ [(0, l_0.val), (13, i64 (l_0.l.length : Int)), (14, i64 x14_2)] (Mo.and Mo.tt _) (Ow.emp)
 refine Zq (Zr ?_)
 refine VL.q (q_lss rfl rfl) (by decide) ?_
 refine Zl ?_
 refine Zq ?_
 refine VC.cond_dec rfl (fun h15 => ?_) (fun h15 => ?_)
 ·
  replace hS := it_t h15 hS
  refine Zk ?_
  refine Zq (Zb (Zq (Zr ?_)))
  refine Zm ?_
  refine Za ?_
  refine Zl ?_
  refine Zq (Zr ?_)
  refine Zm ?_
  refine Zm ?_
  obtain ⟨y19_3, ey19_3, hS⟩ := bd_s hS
  refine VL.q (q_call (index_wrong_ct l_0 x14_2 ey19_3) rfl (fun _ _ => rfl)) (by decide) ?_
  refine Za ?_
  refine Zl ?_
  refine Zq (Zr ?_)
  refine Zm ?_
  refine VL.q (q_neq rfl rfl) (by decide) ?_
  refine Zl ?_
  refine VC.cond_ndec rfl (fun h21 => ?_) (fun h21 => ?_)
  ·
   replace hS := it_f h21 hS
   refine Zq (Zr ?_)
   refine Zm ?_
   refine Zm ?_
   refine VL.q (q_mkif Tryz.underlying105 (fun _ h => by cases h) rfl) (by decide) ?_
   refine VL.q (q_build (vs := [(0, str [101, 110, 116, 114, 121]), (1, i64 x14_2), (2, (Er.no y19_3).val)]) (cs := #[str [101, 110, 116, 114, 121], i64 x14_2, (Er.no y19_3).val]) rfl (by kernel_rfl)) (by decide) ?_
   refine VL.box (cs := [str [101, 110, 116, 114, 121], i64 x14_2, (Er.no y19_3).val]) rfl rfl (by decide) fun b26_4 => ?_
   refine VL.shutB b26_4 ?_
   refine VL.q (q_mkif Tryz.underlying104 (fun _ h => by cases h) rfl) (by decide) ?_
   refine Za ?_
   refine Zl ?_
   refine VC.keep [2] rfl ?_
   replace hS := up2 hS hK1
   cases hS
   exact VC.ret (fin1 (.inr rfl) rfl rfl (Er.fault b26_4 [101, 110, 116, 114, 121] x14_2 (Er.no y19_3)) rfl rfl (by (try dsimp only); exact InM.out) (fun _ _ => trivial))
  replace hS := it_t h21 hS
  refine Zk ?_
  refine VC.keep [0, 13, 14] rfl ?_
  refine Zr ?_
  obtain ⟨b28, hS⟩ := gd_s hS
  refine VL.q (q_add rfl rfl b28) (by decide) ?_
  refine Zm ?_
  refine VL.rnd (x14_2 + 1) [0, 13, 14] (fun _ _ h => h) (go2 hS hK1) rfl
 replace hS := it_f h15 hS
 replace hS := up2 hS hK1
 refine Zx ?_
 refine Zq (Zr ?_)
 refine Za ?_
 refine Zl ?_
 cases hS
 exact VC.ret (fin1 (.inr rfl) rfl rfl .nil rfl rfl (by (try dsimp only); exact InM.out) (fun _ _ => trivial))
theorem rectolaw1_texts_ct (a_0 : Sv Str) (b_1 : Sv Str) {r : Bool} (hS : Sh.rectolaw1_texts a_0.l b_1.l = some r) :
 Ct Tryz.prog 119 [a_0.val, b_1.val] (a_0.ok.and b_1.ok) (Ow.emp) (X := Unit) (fun _ => .bool r) (fun _ => True) (fun _ => Mo.tt) (fun _ => Ow.emp) := by
 refine Ct.of Tryz.func119 rfl (by kernel_rfl) Tryz.ntmps119 (by simp) fun c => ?_
 unfold Sh.rectolaw1_texts at hS
 refine Zq (Zr ?_)
 refine Za ?_
 refine Zl ?_
 refine Zq (Zq (Zr ?_))
 refine Zm ?_
 refine VL.q (q_ln (s := a_0) Tryz.underlying32 rfl) (by decide) ?_
 refine Zm ?_
 refine VL.q (q_ln (s := b_1) Tryz.underlying32 rfl) (by decide) ?_
 refine VL.q (q_neq rfl rfl) (by decide) ?_
 refine Zl ?_
 refine VC.cond_ndec rfl (fun h10 => ?_) (fun h10 => ?_)
 ·
  replace hS := it_f h10 hS
  refine Zq (Zr ?_)
  refine Za ?_
  refine Zl ?_
  cases hS
  exact Ze
 replace hS := it_t h10 hS
 refine Zk ?_
 refine Zq (Zq (Zr ?_))
 refine Za ?_
 refine Zl ?_
 refine Zb ?_
 refine VC.iter (S := Int) (fun (i5_1 : Int) => i5_1) (fun (i5_1 : Int) => [(0, a_0.val), (1, b_1.val), (5, i64 i5_1)]) (fun (i5_1 : Int) => Mo.tt) (fun (i5_1 : Int) => Ow.emp) 0 [0, 1, 5] hS rfl ?_
 clear hS
 rintro i5_1 m1 y1 hS hK1
 show VC _ _ _ _ _ [(0, a_0.val), (1, b_1.val), (5, i64 i5_1)] (Mo.and Mo.tt _) (Ow.emp)
 refine Zq (Zq (Zr ?_))
 refine Zm ?_
 refine Zm ?_
 refine VL.q (q_ln (s := a_0) Tryz.underlying32 rfl) (by decide) ?_
 refine VL.q (q_lss rfl rfl) (by decide) ?_
 refine Zl ?_
 refine VC.cond_dec rfl (fun h14 => ?_) (fun h14 => ?_)
 ·
  replace hS := it_t h14 hS
  refine Zk ?_
  refine Zq (Zb (Zq ?_))
  refine VC.draw ((List.range 9).map fun k => (k, true)) mixed (by kernel_rfl) (by kernel_rfl) (by kernel_rfl) ?_
  refine VD.q rfl (q_move rfl) (by decide) ?_
  refine VD.q rfl (q_move rfl) (by decide) ?_
  obtain ⟨z19_2, nz19_2, hz19_2, hS⟩ := at_s hS
  refine VD.q rfl (q_ixm (s := a_0) Tryz.underlying32 gsz9 rfl rfl nz19_2 (lt_of_get nz19_2 hz19_2)) (by decide) ?_
  refine VD.q rfl (q_el (s := a_0) gone9 rfl hz19_2 rfl) (by decide) ?_
  refine VD.q rfl (q_move rfl) (by decide) ?_
  refine VD.q rfl (q_move rfl) (by decide) ?_
  obtain ⟨z23_3, nz23_3, hz23_3, hS⟩ := at_s hS
  refine VD.q rfl (q_ixm (s := b_1) Tryz.underlying32 gsz9 rfl rfl nz23_3 (lt_of_get nz23_3 hz23_3)) (by decide) ?_
  refine VD.q rfl (q_el (s := b_1) gone9 rfl hz23_3 rfl) (by decide) ?_
  refine VD.q rfl (q_sne rfl rfl) (by decide) ?_
  refine VD.to (fun _ _ h => h) ?_
  refine VC.keep [0, 1, 5, 25] rfl ?_
  refine VC.cond_ndec rfl (fun h25 => ?_) (fun h25 => ?_)
  ·
   replace hS := it_f h25 hS
   refine Zq (Zr ?_)
   refine Za ?_
   refine Zl ?_
   replace hS := up2 hS hK1
   cases hS
   exact Ze
  replace hS := it_t h25 hS
  refine Zk ?_
  refine Zr ?_
  refine Zm ?_
  obtain ⟨b16, hS⟩ := gd_s hS
  refine VL.q (q_add rfl rfl b16) (by decide) ?_
  refine Za ?_
  refine VL.rnd (i5_1 + 1) [0, 1, 5] (fun _ _ h => h) (go2 hS hK1) rfl
 replace hS := it_f h14 hS
 replace hS := up2 hS hK1
 refine Zx ?_
 refine Zq (Zr ?_)
 refine Za ?_
 refine Zl ?_
 cases hS
 exact Ze
theorem rectolaw1_Texts_ct (a_0 : Sv Str) (b_1 : Sv Str) {r : Bool} (hS : Sh.rectolaw1_Texts a_0.l b_1.l = some r) :
 Ct Tryz.prog 44 [a_0.val, b_1.val] (a_0.ok.and b_1.ok) (Ow.emp) (X := Unit) (fun _ => .bool r) (fun _ => True) (fun _ => Mo.tt) (fun _ => Ow.emp) := by
 refine Ct.of Tryz.func44 rfl (by kernel_rfl) Tryz.ntmps44 (by simp) fun c => ?_
 unfold Sh.rectolaw1_Texts at hS
 refine Zq (Zr ?_)
 refine Za ?_
 refine Zl ?_
 refine Zq (Zr ?_)
 refine Zm ?_
 refine Zm ?_
 obtain ⟨y7_1, ey7_1, hS⟩ := bd_s hS
 refine VL.q (q_call (rectolaw1_texts_ct a_0 b_1 ey7_1) rfl (fun _ _ => rfl)) (by decide) ?_
 refine Za ?_
 refine Zl ?_
 cases hS
 exact Ze
theorem rectolaw20_Few_ct (h_0 : Sv FilesFile) (r_1 : TmergeResult) (ix_2 : Sv IndexEntry) (w_3 : Sv FilesFile) {r : Bool} (hS : Sh.rectolaw20_Few h_0.l r_1.pl ix_2.l w_3.l = some r) :
 Ct Tryz.prog 22 [h_0.val, .agg #[r_1.files.val, r_1.entries.val, r_1.conflicts.val], ix_2.val, w_3.val] (h_0.ok.and (r_1.files.ok.and (r_1.entries.ok.and (r_1.conflicts.ok.and (ix_2.ok.and w_3.ok))))) (Ow.emp) (X := Unit) (fun _ => .bool r) (fun _ => True) (fun _ => Mo.tt) (fun _ => Ow.emp) := by
 refine Ct.of Tryz.func22 rfl (by kernel_rfl) Tryz.ntmps22 (by simp) fun c => ?_
 unfold Sh.rectolaw20_Few at hS
 refine Zq (Zr ?_)
 refine VL.box (cs := [r_1.files.val, r_1.entries.val, r_1.conflicts.val]) rfl rfl (by decide) fun b5_1 => ?_
 refine Za ?_
 refine Zl ?_
 refine Zq ?_
 refine VC.draw [(0, true), (1, true), (2, true), (3, true), (4, true), (5, true), (6, true), (7, true), (8, true), (9, true), (10, true), (11, true), (12, true), (13, true), (14, true), (15, true), (16, true), (17, true), (18, true), (19, true), (20, true), (21, true), (22, true), (23, true), (24, true), (25, true), (26, true), (27, true), (28, false), (29, true), (30, true), (31, true), (32, true), (33, true), (34, false), (35, true), (36, true), (37, true), (38, true), (39, false), (40, true), (41, true), (42, true), (43, true), (44, false), (45, true), (46, true), (47, true), (48, true), (49, true), (50, false), (51, true), (52, true), (53, true), (54, true), (55, true), (57, true), (58, true), (56, false), (59, true), (60, true), (61, true)] mixed (by kernel_rfl) (by kernel_rfl) (by kernel_rfl) ?_
 refine VD.q rfl (q_move rfl) (by decide) ?_
 obtain ⟨y10_2, ey10_2, hS⟩ := bd_s hS
 refine VD.q rfl (q_call (rectolaw14_Few_ct h_0 ey10_2) rfl (fun _ _ => rfl)) (by decide) ?_
 refine VD.q rfl (q_move rfl) (by decide) ?_
 refine VD.split 11 rfl (fun h11 => ?_) (fun h11 => ?_)
 ·
  replace hS := it_t h11 hS
  refine VD.gy rfl rfl rfl (q_field gfa34_0 rfl) (by decide) ?_
  refine VD.gy rfl rfl rfl (q_fe gone23 rfl rfl) (by decide) ?_
  obtain ⟨y14_3, ey14_3, hS⟩ := bd_s hS
  refine VD.gy rfl rfl rfl (q_call (rectolaw14_Few_ct r_1.files ey14_3) rfl (fun _ _ => rfl)) (by decide) ?_
  refine VD.q rfl (q_pick_t rfl rfl) (by decide) ?_
  refine VD.q rfl (q_move rfl) (by decide) ?_
  refine VD.split 16 rfl (fun h16 => ?_) (fun h16 => ?_)
  ·
   replace hS := it_t h16 hS
   refine VD.gy rfl rfl rfl (q_field gfa34_1 rfl) (by decide) ?_
   refine VD.gy rfl rfl rfl (q_fe gone29 rfl rfl) (by decide) ?_
   obtain ⟨y19_4, ey19_4, hS⟩ := bd_s hS
   refine VD.gy rfl rfl rfl (q_call (rectolaw15_Few_ct r_1.entries ey19_4) rfl (fun _ _ => rfl)) (by decide) ?_
   refine VD.q rfl (q_pick_t rfl rfl) (by decide) ?_
   refine VD.q rfl (q_move rfl) (by decide) ?_
   refine VD.split 21 rfl (fun h21 => ?_) (fun h21 => ?_)
   ·
    replace hS := it_t h21 hS
    refine VD.gy rfl rfl rfl (q_field gfa34_2 rfl) (by decide) ?_
    refine VD.gy rfl rfl rfl (q_fe gone32 rfl rfl) (by decide) ?_
    refine VD.gy rfl rfl rfl (q_ln (s := r_1.conflicts) Tryz.underlying32 rfl) (by decide) ?_
    refine VD.gy rfl rfl rfl (q_leq rfl rfl) (by decide) ?_
    refine VD.q rfl (q_pick_t rfl rfl) (by decide) ?_
    refine VD.q rfl (q_move rfl) (by decide) ?_
    refine VD.split_dec 27 rfl (fun h27 => ?_) (fun h27 => ?_)
    ·
     replace hS := it_t h27 hS
     refine VD.gy rfl rfl rfl (q_move rfl) (by decide) ?_
     obtain ⟨y29_5, ey29_5, hS⟩ := bd_s hS
     refine VD.gy rfl rfl rfl (q_call (rectolaw15_Few_ct ix_2 ey29_5) rfl (fun _ _ => rfl)) (by decide) ?_
     refine VD.q rfl (q_pick_t rfl rfl) (by decide) ?_
     refine VD.q rfl (q_move rfl) (by decide) ?_
     refine VD.split 31 rfl (fun h31 => ?_) (fun h31 => ?_)
     ·
      replace hS := it_t h31 hS
      refine VD.gy rfl rfl rfl (q_move rfl) (by decide) ?_
      obtain ⟨y33_6, ey33_6, hS⟩ := bd_s hS
      refine VD.gy rfl rfl rfl (q_call (rectolaw14_Few_ct w_3 ey33_6) rfl (fun _ _ => rfl)) (by decide) ?_
      refine VD.q rfl (q_pick_t rfl rfl) (by decide) ?_
      refine VD.q rfl (q_move rfl) (by decide) ?_
      refine VD.split 35 rfl (fun h35 => ?_) (fun h35 => ?_)
      ·
       replace hS := it_t h35 hS
       refine VD.gy rfl rfl rfl (q_move rfl) (by decide) ?_
       refine VD.oneG rfl rfl rfl ?_
       refine VL.guard rfl rfl ?_
       obtain ⟨y37_7, ey37_7, hS⟩ := bd_s hS
       refine VL.callF (files_Row_Check_ct h_0 ey37_7) rfl (by decide) ?_
       rintro q37_7_0 rfl
       try dsimp only
       refine VL.back (D' := []) (by kernel_rfl) (Pend.nil) ?_
       refine VD.gy rfl rfl rfl (q_ereq Tryz.underlying27 rfl) (by decide) ?_
       refine VD.q rfl (q_pick_t rfl rfl) (by decide) ?_
       refine VD.q rfl (q_move rfl) (by decide) ?_
       refine VD.split_dec 40 rfl (fun h40 => ?_) (fun h40 => ?_)
       ·
        replace hS := it_t h40 hS
        refine VD.gy rfl rfl rfl (q_field gfa34_0 rfl) (by decide) ?_
        refine VD.gy rfl rfl rfl (q_fe gone23 rfl rfl) (by decide) ?_
        refine VD.oneG rfl rfl rfl ?_
        refine VL.guard rfl rfl ?_
        obtain ⟨y43_8, ey43_8, hS⟩ := bd_s hS
        refine VL.callF (files_Row_Check_ct r_1.files ey43_8) rfl (by decide) ?_
        rintro q43_8_0 rfl
        try dsimp only
        refine VL.back (D' := []) (by kernel_rfl) (Pend.nil) ?_
        refine VD.gy rfl rfl rfl (q_ereq Tryz.underlying27 rfl) (by decide) ?_
        refine VD.q rfl (q_pick_t rfl rfl) (by decide) ?_
        refine VD.q rfl (q_move rfl) (by decide) ?_
        refine VD.split_dec 46 rfl (fun h46 => ?_) (fun h46 => ?_)
        ·
         replace hS := it_t h46 hS
         refine VD.gy rfl rfl rfl (q_move rfl) (by decide) ?_
         refine VD.oneG rfl rfl rfl ?_
         refine VL.guard rfl rfl ?_
         obtain ⟨y48_9, ey48_9, hS⟩ := bd_s hS
         refine VL.callF (index_Check_ct ix_2 ey48_9) rfl (by decide) ?_
         rintro q48_9_0 rfl
         try dsimp only
         refine VL.back (D' := []) (by kernel_rfl) (Pend.nil) ?_
         refine VD.gy rfl rfl rfl (q_ereq Tryz.underlying27 rfl) (by decide) ?_
         refine VD.q rfl (q_pick_t rfl rfl) (by decide) ?_
         refine VD.q rfl (q_move rfl) (by decide) ?_
         refine VD.split_dec 51 rfl (fun h51 => ?_) (fun h51 => ?_)
         ·
          replace hS := it_t h51 hS
          refine VD.gy rfl rfl rfl (q_move rfl) (by decide) ?_
          refine VD.oneG rfl rfl rfl ?_
          refine VL.guard rfl rfl ?_
          obtain ⟨y53_10, ey53_10, hS⟩ := bd_s hS
          refine VL.callF (files_Row_Check_ct w_3 ey53_10) rfl (by decide) ?_
          rintro q53_10_0 rfl
          try dsimp only
          refine VL.back (D' := []) (by kernel_rfl) (Pend.nil) ?_
          refine VD.gy rfl rfl rfl (q_ereq Tryz.underlying27 rfl) (by decide) ?_
          refine VD.q rfl (q_pick_t rfl rfl) (by decide) ?_
          refine VD.q rfl (q_move rfl) (by decide) ?_
          refine VD.split_dec 56 rfl (fun h56 => ?_) (fun h56 => ?_)
          ·
           replace hS := it_t h56 hS
           refine VD.gy rfl rfl rfl (q_field gfa34_1 rfl) (by decide) ?_
           refine VD.gy rfl rfl rfl (q_fe gone29 rfl rfl) (by decide) ?_
           refine VD.oneG rfl rfl rfl ?_
           refine VL.guard rfl rfl ?_
           obtain ⟨y59_11, ey59_11, hS⟩ := bd_s hS
           refine VL.callF (index_Check_ct r_1.entries ey59_11) rfl (by decide) ?_
           rintro q59_11_0 rfl
           try dsimp only
           refine VL.back (D' := []) (by kernel_rfl) (Pend.nil) ?_
           refine VD.gy rfl rfl rfl (q_ereq Tryz.underlying27 rfl) (by decide) ?_
           refine VD.q rfl (q_pick_t rfl rfl) (by decide) ?_
           refine VD.q rfl (q_move rfl) (by decide) ?_
           refine VD.split_dec 62 rfl (fun h62 => ?_) (fun h62 => ?_)
           ·
            replace hS := it_t h62 hS
            refine VD.gy rfl rfl rfl (q_field gfa34_1 rfl) (by decide) ?_
            refine VD.gy rfl rfl rfl (q_fe gone29 rfl rfl) (by decide) ?_
            refine VD.gy rfl rfl rfl (q_field gfa34_2 rfl) (by decide) ?_
            refine VD.gy rfl rfl rfl (q_fe gone32 rfl rfl) (by decide) ?_
            refine VD.oneG rfl rfl rfl ?_
            refine VL.guard rfl rfl ?_
            obtain ⟨y65_12, ey65_12, hS⟩ := bd_s hS
            refine VL.callF (index_Conflicts_ct r_1.entries ey65_12) rfl (by decide) ?_
            rintro q65_12_0 rfl
            try dsimp only
            refine VL.back (D' := [(58, r_1.conflicts.val), (57, ptr b5_1 2)]) (by kernel_rfl) (Pend.consG rfl rfl rfl (q_fe gone32 rfl rfl) (Pend.consG rfl rfl rfl (q_field gfa34_2 rfl) (Pend.nil))) ?_
            obtain ⟨y68_13, ey68_13, hS⟩ := bd_s hS
            refine VD.gy rfl rfl rfl (q_call (rectolaw1_Texts_ct q65_12_0 r_1.conflicts ey68_13) rfl (fun _ _ => rfl)) (by decide) ?_
            refine VD.q rfl (q_pick_t rfl rfl) (by decide) ?_
            refine VD.q rfl (q_assign rfl) (by decide) ?_
            refine VD.to (fun _ _ h => h) ?_
            refine VC.keep [8] rfl ?_
            cases hS
            exact Ze
           replace hS := it_f h62 hS
           refine Zd ?_
           refine Zd ?_
           refine Zd ?_
           refine Zd ?_
           refine VD.oneN (D' := [(58, undef), (57, undef)]) rfl rfl rfl (by decide) (by decide) (by kernel_rfl) (Pend.consN rfl rfl rfl rfl (Pend.consN rfl rfl rfl rfl (Pend.nil))) ?_
           refine Zd ?_
           refine VD.q rfl (q_pick_f rfl rfl) (by decide) ?_
           refine VD.q rfl (q_assign rfl) (by decide) ?_
           refine VD.to (fun _ _ h => h) ?_
           refine VC.keep [8] rfl ?_
           cases hS
           exact Ze
          replace hS := it_f h56 hS
          refine Zd ?_
          refine Zd ?_
          refine VD.oneN (D' := []) rfl rfl rfl (by decide) (by decide) (by kernel_rfl) (Pend.nil) ?_
          refine Zd ?_
          refine VD.q rfl (q_pick_f rfl rfl) (by decide) ?_
          refine VD.q rfl (q_move rfl) (by decide) ?_
          refine Zd ?_
          refine Zd ?_
          refine Zd ?_
          refine Zd ?_
          refine VD.oneN (D' := [(58, undef), (57, undef)]) rfl rfl rfl (by decide) (by decide) (by kernel_rfl) (Pend.consN rfl rfl rfl rfl (Pend.consN rfl rfl rfl rfl (Pend.nil))) ?_
          refine Zd ?_
          refine VD.q rfl (q_pick_f rfl rfl) (by decide) ?_
          refine VD.q rfl (q_assign rfl) (by decide) ?_
          refine VD.to (fun _ _ h => h) ?_
          refine VC.keep [8] rfl ?_
          cases hS
          exact Ze
         replace hS := it_f h51 hS
         refine Zd ?_
         refine VD.oneN (D' := []) rfl rfl rfl (by decide) (by decide) (by kernel_rfl) (Pend.nil) ?_
         refine Zd ?_
         refine VD.q rfl (q_pick_f rfl rfl) (by decide) ?_
         refine VD.q rfl (q_move rfl) (by decide) ?_
         refine Zd ?_
         refine Zd ?_
         refine VD.oneN (D' := []) rfl rfl rfl (by decide) (by decide) (by kernel_rfl) (Pend.nil) ?_
         refine Zd ?_
         refine VD.q rfl (q_pick_f rfl rfl) (by decide) ?_
         refine VD.q rfl (q_move rfl) (by decide) ?_
         refine Zd ?_
         refine Zd ?_
         refine Zd ?_
         refine Zd ?_
         refine VD.oneN (D' := [(58, undef), (57, undef)]) rfl rfl rfl (by decide) (by decide) (by kernel_rfl) (Pend.consN rfl rfl rfl rfl (Pend.consN rfl rfl rfl rfl (Pend.nil))) ?_
         refine Zd ?_
         refine VD.q rfl (q_pick_f rfl rfl) (by decide) ?_
         refine VD.q rfl (q_assign rfl) (by decide) ?_
         refine VD.to (fun _ _ h => h) ?_
         refine VC.keep [8] rfl ?_
         cases hS
         exact Ze
        replace hS := it_f h46 hS
        refine Zd ?_
        refine VD.oneN (D' := []) rfl rfl rfl (by decide) (by decide) (by kernel_rfl) (Pend.nil) ?_
        refine Zd ?_
        refine VD.q rfl (q_pick_f rfl rfl) (by decide) ?_
        refine VD.q rfl (q_move rfl) (by decide) ?_
        refine Zd ?_
        refine VD.oneN (D' := []) rfl rfl rfl (by decide) (by decide) (by kernel_rfl) (Pend.nil) ?_
        refine Zd ?_
        refine VD.q rfl (q_pick_f rfl rfl) (by decide) ?_
        refine VD.q rfl (q_move rfl) (by decide) ?_
        refine Zd ?_
        refine Zd ?_
        refine VD.oneN (D' := []) rfl rfl rfl (by decide) (by decide) (by kernel_rfl) (Pend.nil) ?_
        refine Zd ?_
        refine VD.q rfl (q_pick_f rfl rfl) (by decide) ?_
        refine VD.q rfl (q_move rfl) (by decide) ?_
        refine Zd ?_
        refine Zd ?_
        refine Zd ?_
        refine Zd ?_
        refine VD.oneN (D' := [(58, undef), (57, undef)]) rfl rfl rfl (by decide) (by decide) (by kernel_rfl) (Pend.consN rfl rfl rfl rfl (Pend.consN rfl rfl rfl rfl (Pend.nil))) ?_
        refine Zd ?_
        refine VD.q rfl (q_pick_f rfl rfl) (by decide) ?_
        refine VD.q rfl (q_assign rfl) (by decide) ?_
        refine VD.to (fun _ _ h => h) ?_
        refine VC.keep [8] rfl ?_
        cases hS
        exact Ze
       replace hS := it_f h40 hS
       refine Zd ?_
       refine Zd ?_
       refine VD.oneN (D' := []) rfl rfl rfl (by decide) (by decide) (by kernel_rfl) (Pend.nil) ?_
       refine Zd ?_
       refine VD.q rfl (q_pick_f rfl rfl) (by decide) ?_
       refine VD.q rfl (q_move rfl) (by decide) ?_
       refine Zd ?_
       refine VD.oneN (D' := []) rfl rfl rfl (by decide) (by decide) (by kernel_rfl) (Pend.nil) ?_
       refine Zd ?_
       refine VD.q rfl (q_pick_f rfl rfl) (by decide) ?_
       refine VD.q rfl (q_move rfl) (by decide) ?_
       refine Zd ?_
       refine VD.oneN (D' := []) rfl rfl rfl (by decide) (by decide) (by kernel_rfl) (Pend.nil) ?_
       refine Zd ?_
       refine VD.q rfl (q_pick_f rfl rfl) (by decide) ?_
       refine VD.q rfl (q_move rfl) (by decide) ?_
       refine Zd ?_
       refine Zd ?_
       refine VD.oneN (D' := []) rfl rfl rfl (by decide) (by decide) (by kernel_rfl) (Pend.nil) ?_
       refine Zd ?_
       refine VD.q rfl (q_pick_f rfl rfl) (by decide) ?_
       refine VD.q rfl (q_move rfl) (by decide) ?_
       refine Zd ?_
       refine Zd ?_
       refine Zd ?_
       refine Zd ?_
       refine VD.oneN (D' := [(58, undef), (57, undef)]) rfl rfl rfl (by decide) (by decide) (by kernel_rfl) (Pend.consN rfl rfl rfl rfl (Pend.consN rfl rfl rfl rfl (Pend.nil))) ?_
       refine Zd ?_
       refine VD.q rfl (q_pick_f rfl rfl) (by decide) ?_
       refine VD.q rfl (q_assign rfl) (by decide) ?_
       refine VD.to (fun _ _ h => h) ?_
       refine VC.keep [8] rfl ?_
       cases hS
       exact Ze
      replace hS := it_b h35 hS
      refine Zd ?_
      refine VD.oneN (D' := []) rfl rfl rfl (by decide) (by decide) (by kernel_rfl) (Pend.nil) ?_
      refine Zd ?_
      refine VD.q rfl (q_pick_f rfl rfl) (by decide) ?_
      refine VD.q rfl (q_move rfl) (by decide) ?_
      refine Zd ?_
      refine Zd ?_
      refine VD.oneN (D' := []) rfl rfl rfl (by decide) (by decide) (by kernel_rfl) (Pend.nil) ?_
      refine Zd ?_
      refine VD.q rfl (q_pick_f rfl rfl) (by decide) ?_
      refine VD.q rfl (q_move rfl) (by decide) ?_
      refine Zd ?_
      refine VD.oneN (D' := []) rfl rfl rfl (by decide) (by decide) (by kernel_rfl) (Pend.nil) ?_
      refine Zd ?_
      refine VD.q rfl (q_pick_f rfl rfl) (by decide) ?_
      refine VD.q rfl (q_move rfl) (by decide) ?_
      refine Zd ?_
      refine VD.oneN (D' := []) rfl rfl rfl (by decide) (by decide) (by kernel_rfl) (Pend.nil) ?_
      refine Zd ?_
      refine VD.q rfl (q_pick_f rfl rfl) (by decide) ?_
      refine VD.q rfl (q_move rfl) (by decide) ?_
      refine Zd ?_
      refine Zd ?_
      refine VD.oneN (D' := []) rfl rfl rfl (by decide) (by decide) (by kernel_rfl) (Pend.nil) ?_
      refine Zd ?_
      refine VD.q rfl (q_pick_f rfl rfl) (by decide) ?_
      refine VD.q rfl (q_move rfl) (by decide) ?_
      refine Zd ?_
      refine Zd ?_
      refine Zd ?_
      refine Zd ?_
      refine VD.oneN (D' := [(58, undef), (57, undef)]) rfl rfl rfl (by decide) (by decide) (by kernel_rfl) (Pend.consN rfl rfl rfl rfl (Pend.consN rfl rfl rfl rfl (Pend.nil))) ?_
      refine Zd ?_
      refine VD.q rfl (q_pick_f rfl rfl) (by decide) ?_
      refine VD.q rfl (q_assign rfl) (by decide) ?_
      refine VD.to (fun _ _ h => h) ?_
      refine VC.keep [8] rfl ?_
      cases hS
      exact Ze
     replace hS := it_b h31 hS
     refine Zd ?_
     refine Zd ?_
     refine VD.q rfl (q_pick_f rfl rfl) (by decide) ?_
     refine VD.q rfl (q_move rfl) (by decide) ?_
     refine Zd ?_
     refine VD.oneN (D' := []) rfl rfl rfl (by decide) (by decide) (by kernel_rfl) (Pend.nil) ?_
     refine Zd ?_
     refine VD.q rfl (q_pick_f rfl rfl) (by decide) ?_
     refine VD.q rfl (q_move rfl) (by decide) ?_
     refine Zd ?_
     refine Zd ?_
     refine VD.oneN (D' := []) rfl rfl rfl (by decide) (by decide) (by kernel_rfl) (Pend.nil) ?_
     refine Zd ?_
     refine VD.q rfl (q_pick_f rfl rfl) (by decide) ?_
     refine VD.q rfl (q_move rfl) (by decide) ?_
     refine Zd ?_
     refine VD.oneN (D' := []) rfl rfl rfl (by decide) (by decide) (by kernel_rfl) (Pend.nil) ?_
     refine Zd ?_
     refine VD.q rfl (q_pick_f rfl rfl) (by decide) ?_
     refine VD.q rfl (q_move rfl) (by decide) ?_
     refine Zd ?_
     refine VD.oneN (D' := []) rfl rfl rfl (by decide) (by decide) (by kernel_rfl) (Pend.nil) ?_
     refine Zd ?_
     refine VD.q rfl (q_pick_f rfl rfl) (by decide) ?_
     refine VD.q rfl (q_move rfl) (by decide) ?_
     refine Zd ?_
     refine Zd ?_
     refine VD.oneN (D' := []) rfl rfl rfl (by decide) (by decide) (by kernel_rfl) (Pend.nil) ?_
     refine Zd ?_
     refine VD.q rfl (q_pick_f rfl rfl) (by decide) ?_
     refine VD.q rfl (q_move rfl) (by decide) ?_
     refine Zd ?_
     refine Zd ?_
     refine Zd ?_
     refine Zd ?_
     refine VD.oneN (D' := [(58, undef), (57, undef)]) rfl rfl rfl (by decide) (by decide) (by kernel_rfl) (Pend.consN rfl rfl rfl rfl (Pend.consN rfl rfl rfl rfl (Pend.nil))) ?_
     refine Zd ?_
     refine VD.q rfl (q_pick_f rfl rfl) (by decide) ?_
     refine VD.q rfl (q_assign rfl) (by decide) ?_
     refine VD.to (fun _ _ h => h) ?_
     refine VC.keep [8] rfl ?_
     cases hS
     exact Ze
    replace hS := it_f h27 hS
    refine Zd ?_
    refine Zd ?_
    refine VD.q rfl (q_pick_f rfl rfl) (by decide) ?_
    refine VD.q rfl (q_move rfl) (by decide) ?_
    refine Zd ?_
    refine Zd ?_
    refine VD.q rfl (q_pick_f rfl rfl) (by decide) ?_
    refine VD.q rfl (q_move rfl) (by decide) ?_
    refine Zd ?_
    refine VD.oneN (D' := []) rfl rfl rfl (by decide) (by decide) (by kernel_rfl) (Pend.nil) ?_
    refine Zd ?_
    refine VD.q rfl (q_pick_f rfl rfl) (by decide) ?_
    refine VD.q rfl (q_move rfl) (by decide) ?_
    refine Zd ?_
    refine Zd ?_
    refine VD.oneN (D' := []) rfl rfl rfl (by decide) (by decide) (by kernel_rfl) (Pend.nil) ?_
    refine Zd ?_
    refine VD.q rfl (q_pick_f rfl rfl) (by decide) ?_
    refine VD.q rfl (q_move rfl) (by decide) ?_
    refine Zd ?_
    refine VD.oneN (D' := []) rfl rfl rfl (by decide) (by decide) (by kernel_rfl) (Pend.nil) ?_
    refine Zd ?_
    refine VD.q rfl (q_pick_f rfl rfl) (by decide) ?_
    refine VD.q rfl (q_move rfl) (by decide) ?_
    refine Zd ?_
    refine VD.oneN (D' := []) rfl rfl rfl (by decide) (by decide) (by kernel_rfl) (Pend.nil) ?_
    refine Zd ?_
    refine VD.q rfl (q_pick_f rfl rfl) (by decide) ?_
    refine VD.q rfl (q_move rfl) (by decide) ?_
    refine Zd ?_
    refine Zd ?_
    refine VD.oneN (D' := []) rfl rfl rfl (by decide) (by decide) (by kernel_rfl) (Pend.nil) ?_
    refine Zd ?_
    refine VD.q rfl (q_pick_f rfl rfl) (by decide) ?_
    refine VD.q rfl (q_move rfl) (by decide) ?_
    refine Zd ?_
    refine Zd ?_
    refine Zd ?_
    refine Zd ?_
    refine VD.oneN (D' := [(58, undef), (57, undef)]) rfl rfl rfl (by decide) (by decide) (by kernel_rfl) (Pend.consN rfl rfl rfl rfl (Pend.consN rfl rfl rfl rfl (Pend.nil))) ?_
    refine Zd ?_
    refine VD.q rfl (q_pick_f rfl rfl) (by decide) ?_
    refine VD.q rfl (q_assign rfl) (by decide) ?_
    refine VD.to (fun _ _ h => h) ?_
    refine VC.keep [8] rfl ?_
    cases hS
    exact Ze
   replace hS := it_b h21 hS
   refine Zd ?_
   refine Zd ?_
   refine Zd ?_
   refine Zd ?_
   refine VD.q rfl (q_pick_f rfl rfl) (by decide) ?_
   refine VD.q rfl (q_move rfl) (by decide) ?_
   refine Zd ?_
   refine Zd ?_
   refine VD.q rfl (q_pick_f rfl rfl) (by decide) ?_
   refine VD.q rfl (q_move rfl) (by decide) ?_
   refine Zd ?_
   refine Zd ?_
   refine VD.q rfl (q_pick_f rfl rfl) (by decide) ?_
   refine VD.q rfl (q_move rfl) (by decide) ?_
   refine Zd ?_
   refine VD.oneN (D' := []) rfl rfl rfl (by decide) (by decide) (by kernel_rfl) (Pend.nil) ?_
   refine Zd ?_
   refine VD.q rfl (q_pick_f rfl rfl) (by decide) ?_
   refine VD.q rfl (q_move rfl) (by decide) ?_
   refine Zd ?_
   refine Zd ?_
   refine VD.oneN (D' := []) rfl rfl rfl (by decide) (by decide) (by kernel_rfl) (Pend.nil) ?_
   refine Zd ?_
   refine VD.q rfl (q_pick_f rfl rfl) (by decide) ?_
   refine VD.q rfl (q_move rfl) (by decide) ?_
   refine Zd ?_
   refine VD.oneN (D' := []) rfl rfl rfl (by decide) (by decide) (by kernel_rfl) (Pend.nil) ?_
   refine Zd ?_
   refine VD.q rfl (q_pick_f rfl rfl) (by decide) ?_
   refine VD.q rfl (q_move rfl) (by decide) ?_
   refine Zd ?_
   refine VD.oneN (D' := []) rfl rfl rfl (by decide) (by decide) (by kernel_rfl) (Pend.nil) ?_
   refine Zd ?_
   refine VD.q rfl (q_pick_f rfl rfl) (by decide) ?_
   refine VD.q rfl (q_move rfl) (by decide) ?_
   refine Zd ?_
   refine Zd ?_
   refine VD.oneN (D' := []) rfl rfl rfl (by decide) (by decide) (by kernel_rfl) (Pend.nil) ?_
   refine Zd ?_
   refine VD.q rfl (q_pick_f rfl rfl) (by decide) ?_
   refine VD.q rfl (q_move rfl) (by decide) ?_
   refine Zd ?_
   refine Zd ?_
   refine Zd ?_
   refine Zd ?_
   refine VD.oneN (D' := [(58, undef), (57, undef)]) rfl rfl rfl (by decide) (by decide) (by kernel_rfl) (Pend.consN rfl rfl rfl rfl (Pend.consN rfl rfl rfl rfl (Pend.nil))) ?_
   refine Zd ?_
   refine VD.q rfl (q_pick_f rfl rfl) (by decide) ?_
   refine VD.q rfl (q_assign rfl) (by decide) ?_
   refine VD.to (fun _ _ h => h) ?_
   refine VC.keep [8] rfl ?_
   cases hS
   exact Ze
  replace hS := it_b h16 hS
  refine Zd ?_
  refine Zd ?_
  refine Zd ?_
  refine VD.q rfl (q_pick_f rfl rfl) (by decide) ?_
  refine VD.q rfl (q_move rfl) (by decide) ?_
  refine Zd ?_
  refine Zd ?_
  refine Zd ?_
  refine Zd ?_
  refine VD.q rfl (q_pick_f rfl rfl) (by decide) ?_
  refine VD.q rfl (q_move rfl) (by decide) ?_
  refine Zd ?_
  refine Zd ?_
  refine VD.q rfl (q_pick_f rfl rfl) (by decide) ?_
  refine VD.q rfl (q_move rfl) (by decide) ?_
  refine Zd ?_
  refine Zd ?_
  refine VD.q rfl (q_pick_f rfl rfl) (by decide) ?_
  refine VD.q rfl (q_move rfl) (by decide) ?_
  refine Zd ?_
  refine VD.oneN (D' := []) rfl rfl rfl (by decide) (by decide) (by kernel_rfl) (Pend.nil) ?_
  refine Zd ?_
  refine VD.q rfl (q_pick_f rfl rfl) (by decide) ?_
  refine VD.q rfl (q_move rfl) (by decide) ?_
  refine Zd ?_
  refine Zd ?_
  refine VD.oneN (D' := []) rfl rfl rfl (by decide) (by decide) (by kernel_rfl) (Pend.nil) ?_
  refine Zd ?_
  refine VD.q rfl (q_pick_f rfl rfl) (by decide) ?_
  refine VD.q rfl (q_move rfl) (by decide) ?_
  refine Zd ?_
  refine VD.oneN (D' := []) rfl rfl rfl (by decide) (by decide) (by kernel_rfl) (Pend.nil) ?_
  refine Zd ?_
  refine VD.q rfl (q_pick_f rfl rfl) (by decide) ?_
  refine VD.q rfl (q_move rfl) (by decide) ?_
  refine Zd ?_
  refine VD.oneN (D' := []) rfl rfl rfl (by decide) (by decide) (by kernel_rfl) (Pend.nil) ?_
  refine Zd ?_
  refine VD.q rfl (q_pick_f rfl rfl) (by decide) ?_
  refine VD.q rfl (q_move rfl) (by decide) ?_
  refine Zd ?_
  refine Zd ?_
  refine VD.oneN (D' := []) rfl rfl rfl (by decide) (by decide) (by kernel_rfl) (Pend.nil) ?_
  refine Zd ?_
  refine VD.q rfl (q_pick_f rfl rfl) (by decide) ?_
  refine VD.q rfl (q_move rfl) (by decide) ?_
  refine Zd ?_
  refine Zd ?_
  refine Zd ?_
  refine Zd ?_
  refine VD.oneN (D' := [(58, undef), (57, undef)]) rfl rfl rfl (by decide) (by decide) (by kernel_rfl) (Pend.consN rfl rfl rfl rfl (Pend.consN rfl rfl rfl rfl (Pend.nil))) ?_
  refine Zd ?_
  refine VD.q rfl (q_pick_f rfl rfl) (by decide) ?_
  refine VD.q rfl (q_assign rfl) (by decide) ?_
  refine VD.to (fun _ _ h => h) ?_
  refine VC.keep [8] rfl ?_
  cases hS
  exact Ze
 replace hS := it_b h11 hS
 refine Zd ?_
 refine Zd ?_
 refine Zd ?_
 refine VD.q rfl (q_pick_f rfl rfl) (by decide) ?_
 refine VD.q rfl (q_move rfl) (by decide) ?_
 refine Zd ?_
 refine Zd ?_
 refine Zd ?_
 refine VD.q rfl (q_pick_f rfl rfl) (by decide) ?_
 refine VD.q rfl (q_move rfl) (by decide) ?_
 refine Zd ?_
 refine Zd ?_
 refine Zd ?_
 refine Zd ?_
 refine VD.q rfl (q_pick_f rfl rfl) (by decide) ?_
 refine VD.q rfl (q_move rfl) (by decide) ?_
 refine Zd ?_
 refine Zd ?_
 refine VD.q rfl (q_pick_f rfl rfl) (by decide) ?_
 refine VD.q rfl (q_move rfl) (by decide) ?_
 refine Zd ?_
 refine Zd ?_
 refine VD.q rfl (q_pick_f rfl rfl) (by decide) ?_
 refine VD.q rfl (q_move rfl) (by decide) ?_
 refine Zd ?_
 refine VD.oneN (D' := []) rfl rfl rfl (by decide) (by decide) (by kernel_rfl) (Pend.nil) ?_
 refine Zd ?_
 refine VD.q rfl (q_pick_f rfl rfl) (by decide) ?_
 refine VD.q rfl (q_move rfl) (by decide) ?_
 refine Zd ?_
 refine Zd ?_
 refine VD.oneN (D' := []) rfl rfl rfl (by decide) (by decide) (by kernel_rfl) (Pend.nil) ?_
 refine Zd ?_
 refine VD.q rfl (q_pick_f rfl rfl) (by decide) ?_
 refine VD.q rfl (q_move rfl) (by decide) ?_
 refine Zd ?_
 refine VD.oneN (D' := []) rfl rfl rfl (by decide) (by decide) (by kernel_rfl) (Pend.nil) ?_
 refine Zd ?_
 refine VD.q rfl (q_pick_f rfl rfl) (by decide) ?_
 refine VD.q rfl (q_move rfl) (by decide) ?_
 refine Zd ?_
 refine VD.oneN (D' := []) rfl rfl rfl (by decide) (by decide) (by kernel_rfl) (Pend.nil) ?_
 refine Zd ?_
 refine VD.q rfl (q_pick_f rfl rfl) (by decide) ?_
 refine VD.q rfl (q_move rfl) (by decide) ?_
 refine Zd ?_
 refine Zd ?_
 refine VD.oneN (D' := []) rfl rfl rfl (by decide) (by decide) (by kernel_rfl) (Pend.nil) ?_
 refine Zd ?_
 refine VD.q rfl (q_pick_f rfl rfl) (by decide) ?_
 refine VD.q rfl (q_move rfl) (by decide) ?_
 refine Zd ?_
 refine Zd ?_
 refine Zd ?_
 refine Zd ?_
 refine VD.oneN (D' := [(58, undef), (57, undef)]) rfl rfl rfl (by decide) (by decide) (by kernel_rfl) (Pend.consN rfl rfl rfl rfl (Pend.consN rfl rfl rfl rfl (Pend.nil))) ?_
 refine Zd ?_
 refine VD.q rfl (q_pick_f rfl rfl) (by decide) ?_
 refine VD.q rfl (q_assign rfl) (by decide) ?_
 refine VD.to (fun _ _ h => h) ?_
 refine VC.keep [8] rfl ?_
 cases hS
 exact Ze
theorem rectolaw14_Of_ct (r_0 : Sv FilesFile) {r : List Rectoref14File} (hS : Sh.rectolaw14_Of r_0.l = some r) :
 Ct Tryz.prog 25 [r_0.val] r_0.ok (Ow.emp) (X := Sv Rectoref14File) (fun x => x.val) (fun x => r = x.l) (fun x => Mo.tt) (fun x => Sv.own x 133) := by
 refine Ct.of Tryz.func25 rfl (by kernel_rfl) Tryz.ntmps25 (by simp) fun c => ?_
 unfold Sh.rectolaw14_Of at hS
 refine Zq (Zr ?_)
 refine Za ?_
 refine Zl ?_
 refine Zq (Zr ?_)
 refine Za ?_
 refine Zl ?_
 refine Zq (Zq (Zr ?_))
 refine Za ?_
 refine Zl ?_
 refine Zb ?_
 refine VC.nilO (⟨none, 0, []⟩ : Sv Rectoref14File) 133 ⟨rfl, rfl⟩ ?_
 refine VC.iter (S := Sv Rectoref14File × Int) (fun sg => (sg.1.l, sg.2)) (fun sg => [(0, r_0.val), (3, sg.1.val), (4, i64 sg.2)]) (fun sg => Mo.tt) (fun sg => Ow.star (Sv.own sg.1 133) (Ow.emp)) (⟨none, 0, []⟩, 0) [0, 3, 4] hS rfl ?_
 clear hS
 rintro ⟨out3_1, i4_2⟩ m1 y1 hS hK1
 show VC _ _ _ _ _ [(0, r_0.val), (3, out3_1.val), (4, i64 i4_2)] (Mo.and Mo.tt _) (Ow.star (Sv.own out3_1 133) (Ow.emp))
 refine Zq (Zq (Zr ?_))
 refine Zm ?_
 refine Zm ?_
 refine VL.q (q_ln (s := r_0) Tryz.underlying23 rfl) (by decide) ?_
 refine VL.q (q_lss rfl rfl) (by decide) ?_
 refine Zl ?_
 refine VC.cond_dec rfl (fun h8 => ?_) (fun h8 => ?_)
 ·
  replace hS := it_t h8 hS
  refine Zk ?_
  refine Zq (Zb ?_)
  refine VC.draw [(0, true), (1, true), (2, true), (3, true), (4, true), (5, true), (6, true), (7, true), (8, true), (9, true), (10, true), (11, true), (12, true), (13, true), (14, true), (15, true), (16, true), (17, false), (18, false), (19, true)] mixed (by kernel_rfl) (by kernel_rfl) (by kernel_rfl) ?_
  refine VD.q rfl (q_move rfl) (by decide) ?_
  refine VD.q rfl (q_move rfl) (by decide) ?_
  refine VD.q rfl (q_move rfl) (by decide) ?_
  obtain ⟨z14_3, nz14_3, hz14_3, hS⟩ := at_s hS
  refine VD.q rfl (q_ixm (s := r_0) Tryz.underlying23 gsz50 rfl rfl nz14_3 (lt_of_get nz14_3 hz14_3)) (by decide) ?_
  refine VD.q rfl (q_field gfa50_0 rfl) (by decide) ?_
  refine VD.q rfl (q_elf (s := r_0) gone9 rfl hz14_3 rfl) (by decide) ?_
  refine VD.q rfl (q_move rfl) (by decide) ?_
  refine VD.q rfl (q_move rfl) (by decide) ?_
  obtain ⟨z19_4, nz19_4, hz19_4, hS⟩ := at_s hS
  refine VD.q rfl (q_ixm (s := r_0) Tryz.underlying23 gsz50 rfl rfl nz19_4 (lt_of_get nz19_4 hz19_4)) (by decide) ?_
  refine VD.q rfl (q_field gfa50_1 rfl) (by decide) ?_
  refine VD.q rfl (q_elf (s := r_0) gone3 rfl hz19_4 rfl) (by decide) ?_
  refine VD.q rfl (q_move rfl) (by decide) ?_
  refine VD.q rfl (q_move rfl) (by decide) ?_
  obtain ⟨z24_5, nz24_5, hz24_5, hS⟩ := at_s hS
  refine VD.q rfl (q_ixm (s := r_0) Tryz.underlying23 gsz50 rfl rfl nz24_5 (lt_of_get nz24_5 hz24_5)) (by decide) ?_
  refine VD.q rfl (q_field gfa50_2 rfl) (by decide) ?_
  refine VD.q rfl (q_elf (s := r_0) gone9 rfl hz24_5 rfl) (by decide) ?_
  refine VD.q rfl (q_build (vs := [(0, str z14_3.path), (1, i64 z19_4.mode), (2, str z24_5.data)]) (cs := #[str z14_3.path, i64 z19_4.mode, str z24_5.data]) rfl (by kernel_rfl)) (by decide) ?_
  refine VD.one rfl ?_
  refine VL.lit (α := Rectoref14File) (xs := [.tmp 27]) (vs := [.agg #[str z14_3.path, i64 z19_4.mode, str z24_5.data]]) [⟨z14_3.path, z19_4.mode, z24_5.data⟩] Tryz.underlying45 glit133 (by decide) rfl rfl rfl rfl (by decide) (fun _ _ _ _ => trivial) (by decide) (fun s28_6 hs28_6 => ?_) (by decide)
  replace hS := lt_to hs28_6 hS
  refine VL.back (D' := []) (by kernel_rfl) (Pend.nil) ?_
  refine VD.one rfl ?_
  obtain ⟨b29, hS⟩ := gd_s hS
  refine VL.app (s := out3_1) (r := s28_6) Tryz.underlying45 gapp133 (by decide) rfl Fo.out (ap1 b29) (ap2 b29 (by decide)) (by decide) (fun s29_8 hs29_8 => ?_)
  replace hS := lt_to hs29_8 hS
  refine VL.back (D' := []) (by kernel_rfl) (Pend.nil) ?_
  refine VD.q rfl (q_assign rfl) (by decide) ?_
  refine VD.to (fun _ _ h => h) ?_
  refine VC.keep [0, 3, 4] rfl ?_
  refine Zr ?_
  refine Zm ?_
  obtain ⟨b10, hS⟩ := gd_s hS
  refine VL.q (q_add rfl rfl b10) (by decide) ?_
  refine Za ?_
  refine VL.rnd (s29_8, (i4_2 + 1)) [0, 3, 4] (fun _ _ h => h) (go2 hS hK1) rfl
 replace hS := it_f h8 hS
 replace hS := up2 hS hK1
 refine Zx ?_
 refine Zq (Zr ?_)
 refine Zm ?_
 refine Za ?_
 refine Zl ?_
 cases hS
 exact VC.ret (fin1 (.inr rfl) rfl rfl out3_1 rfl rfl (by (try dsimp only); exact InM.out) (by (try dsimp only); exact EntO.out))
theorem rectolaw15_Of_ct (l_0 : Sv IndexEntry) {r : List Rectoref14Entry} (hS : Sh.rectolaw15_Of l_0.l = some r) :
 Ct Tryz.prog 20 [l_0.val] l_0.ok (Ow.emp) (X := Sv Rectoref14Entry) (fun x => x.val) (fun x => r = x.l) (fun x => Mo.tt) (fun x => Sv.own x 122) := by
 refine Ct.of Tryz.func20 rfl (by kernel_rfl) Tryz.ntmps20 (by simp) fun c => ?_
 unfold Sh.rectolaw15_Of at hS
 refine Zq (Zr ?_)
 refine Za ?_
 refine Zl ?_
 refine Zq (Zr ?_)
 refine Za ?_
 refine Zl ?_
 refine Zq (Zq (Zr ?_))
 refine Za ?_
 refine Zl ?_
 refine Zb ?_
 refine VC.nilO (⟨none, 0, []⟩ : Sv Rectoref14Entry) 122 ⟨rfl, rfl⟩ ?_
 refine VC.iter (S := Sv Rectoref14Entry × Int) (fun sg => (sg.1.l, sg.2)) (fun sg => [(0, l_0.val), (3, sg.1.val), (4, i64 sg.2)]) (fun sg => Mo.tt) (fun sg => Ow.star (Sv.own sg.1 122) (Ow.emp)) (⟨none, 0, []⟩, 0) [0, 3, 4] hS rfl ?_
 clear hS
 rintro ⟨out3_1, i4_2⟩ m1 y1 hS hK1
 show VC _ _ _ _ _ [(0, l_0.val), (3, out3_1.val), (4, i64 i4_2)] (Mo.and Mo.tt _) (Ow.star (Sv.own out3_1 122) (Ow.emp))
 refine Zq (Zq (Zr ?_))
 refine Zm ?_
 refine Zm ?_
 refine VL.q (q_ln (s := l_0) Tryz.underlying29 rfl) (by decide) ?_
 refine VL.q (q_lss rfl rfl) (by decide) ?_
 refine Zl ?_
 refine VC.cond_dec rfl (fun h9 => ?_) (fun h9 => ?_)
 ·
  replace hS := it_t h9 hS
  refine Zk ?_
  refine Zq (Zb (Zq (Zr ?_)))
  refine Zm ?_
  refine Zm ?_
  obtain ⟨z14_3, nz14_3, hz14_3, hS⟩ := at_s hS
  refine VL.q (q_ixm (s := l_0) Tryz.underlying29 gsz83 rfl rfl nz14_3 (lt_of_get nz14_3 hz14_3)) (by decide) ?_
  refine VL.q (q_els (s := l_0) gagg83 rfl rfl hz14_3) (by decide) ?_
  refine VL.alloc (cs := [str [], i64 0, i64 0, str [], i64 0, i64 0]) (by kernel_rfl) (by decide) fun b5_4 => ?_
  refine VL.store (vc := [str z14_3.path, i64 z14_3.stage, i64 z14_3.mode, str z14_3.data, i64 z14_3.time, i64 z14_3.size]) (cs' := [str z14_3.path, i64 z14_3.stage, i64 z14_3.mode, str z14_3.data, i64 z14_3.time, i64 z14_3.size]) rfl rfl rfl gsz83 rfl rfl (Nat.le_of_ble_eq_true rfl) rfl ?_
  refine Zl ?_
  refine VC.keep [0, 3, 4, 5] rfl ?_
  refine Zr ?_
  refine Zm ?_
  refine VL.q (q_field gfa83_0 rfl) (by decide) ?_
  refine VL.q (q_fe gone9 rfl rfl) (by decide) ?_
  refine VL.q (q_field gfa83_1 rfl) (by decide) ?_
  refine VL.q (q_fe gone3 rfl rfl) (by decide) ?_
  refine VL.q (q_field gfa83_2 rfl) (by decide) ?_
  refine VL.q (q_fe gone3 rfl rfl) (by decide) ?_
  refine VL.q (q_field gfa83_3 rfl) (by decide) ?_
  refine VL.q (q_fe gone9 rfl rfl) (by decide) ?_
  refine VL.q (q_field gfa83_4 rfl) (by decide) ?_
  refine VL.q (q_fe gone3 rfl rfl) (by decide) ?_
  refine VL.q (q_field gfa83_5 rfl) (by decide) ?_
  refine VL.q (q_fe gone3 rfl rfl) (by decide) ?_
  refine VL.q (q_build (vs := [(0, str z14_3.path), (1, i64 z14_3.stage), (2, i64 z14_3.mode), (3, str z14_3.data), (4, i64 z14_3.time), (5, i64 z14_3.size)]) (cs := #[str z14_3.path, i64 z14_3.stage, i64 z14_3.mode, str z14_3.data, i64 z14_3.time, i64 z14_3.size]) rfl (by kernel_rfl)) (by decide) ?_
  refine VL.lit (α := Rectoref14Entry) (xs := [.tmp 29]) (vs := [.agg #[str z14_3.path, i64 z14_3.stage, i64 z14_3.mode, str z14_3.data, i64 z14_3.time, i64 z14_3.size]]) [⟨z14_3.path, z14_3.stage, z14_3.mode, z14_3.data, z14_3.time, z14_3.size⟩] Tryz.underlying40 glit122 (by decide) rfl rfl rfl rfl (by decide) (fun _ _ _ _ => trivial) (by decide) (fun s30_5 hs30_5 => ?_) (by decide)
  replace hS := lt_to hs30_5 hS
  obtain ⟨b31, hS⟩ := gd_s hS
  refine VL.app (s := out3_1) (r := s30_5) Tryz.underlying40 gapp122 (by decide) rfl Fo.out (ap1 b31) (ap2 b31 (by decide)) (by decide) (fun s31_7 hs31_7 => ?_)
  replace hS := lt_to hs31_7 hS
  refine Za ?_
  refine Zl ?_
  refine VC.keep [0, 3, 4] rfl ?_
  refine Zr ?_
  refine Zm ?_
  obtain ⟨b11, hS⟩ := gd_s hS
  refine VL.q (q_add rfl rfl b11) (by decide) ?_
  refine Za ?_
  refine VL.rnd (s31_7, (i4_2 + 1)) [0, 3, 4] (fun _ _ h => h) (go2 hS hK1) rfl
 replace hS := it_f h9 hS
 replace hS := up2 hS hK1
 refine Zx ?_
 refine Zq (Zr ?_)
 refine Zm ?_
 refine Za ?_
 refine Zl ?_
 cases hS
 exact VC.ret (fin1 (.inr rfl) rfl rfl out3_1 rfl rfl (by (try dsimp only); exact InM.out) (by (try dsimp only); exact EntO.out))
theorem rectoref14_Stage_ct (l_0 : Sv Rectoref14Entry) (n_1 : Int) {r : List Rectoref14File} (hS : Sh.rectoref14_Stage l_0.l n_1 = some r) :
 Ct Tryz.prog 23 [l_0.val, i64 n_1] l_0.ok (Ow.emp) (X := Sv Rectoref14File) (fun x => x.val) (fun x => r = x.l) (fun x => Mo.tt) (fun x => Sv.own x 133) := by
 refine Ct.of Tryz.func23 rfl (by kernel_rfl) Tryz.ntmps23 (by simp) fun c => ?_
 unfold Sh.rectoref14_Stage at hS
 refine Zq (Zr ?_)
 refine Za ?_
 refine Zl ?_
 refine Zq (Zr ?_)
 refine Za ?_
 refine Zl ?_
 refine Zq (Zq (Zr ?_))
 refine Za ?_
 refine Zl ?_
 refine Zb ?_
 refine VC.nilO (⟨none, 0, []⟩ : Sv Rectoref14File) 133 ⟨rfl, rfl⟩ ?_
 refine VC.iter (S := Sv Rectoref14File × Int) (fun sg => (sg.1.l, sg.2)) (fun sg => [(0, l_0.val), (1, i64 n_1), (5, sg.1.val), (6, i64 sg.2)]) (fun sg => Mo.tt) (fun sg => Ow.star (Sv.own sg.1 133) (Ow.emp)) (⟨none, 0, []⟩, 0) [0, 1, 5, 6] hS rfl ?_
 clear hS
 rintro ⟨out5_1, i6_2⟩ m1 y1 hS hK1
 show VC _ _ _ _ _ [(0, l_0.val), (1, i64 n_1), (5, out5_1.val), (6, i64 i6_2)] (Mo.and Mo.tt _) (Ow.star (Sv.own out5_1 133) (Ow.emp))
 refine Zq (Zq (Zr ?_))
 refine Zm ?_
 refine Zm ?_
 refine VL.q (q_ln (s := l_0) Tryz.underlying40 rfl) (by decide) ?_
 refine VL.q (q_lss rfl rfl) (by decide) ?_
 refine Zl ?_
 refine VC.cond_dec rfl (fun h10 => ?_) (fun h10 => ?_)
 ·
  replace hS := it_t h10 hS
  refine Zk ?_
  refine VC.cutJ (S := Sv Rectoref14File) (fun (out5_3 : Sv Rectoref14File) => out5_3.l) (fun (out5_3 : Sv Rectoref14File) => [(0, l_0.val), (1, i64 n_1), (5, out5_3.val), (6, i64 i6_2)]) (fun (out5_3 : Sv Rectoref14File) => Mo.tt) (fun (out5_3 : Sv Rectoref14File) => Ow.star (Sv.own out5_3 133) (Ow.emp)) hS ?_ ?_
  ·
   clear hS
   intro k4 hS
   refine Zb (Zq (Zr ?_))
   refine Zm ?_
   refine Zm ?_
   obtain ⟨z15_5, nz15_5, hz15_5, hS⟩ := at_s hS
   refine VL.q (q_ixm (s := l_0) Tryz.underlying40 gsz122 rfl rfl nz15_5 (lt_of_get nz15_5 hz15_5)) (by decide) ?_
   refine VL.q (q_field gfa122_1 rfl) (by decide) ?_
   refine VL.q (q_elf (s := l_0) gone3 rfl hz15_5 rfl) (by decide) ?_
   refine Zm ?_
   refine VL.q (q_eql rfl rfl) (by decide) ?_
   refine Zl ?_
   refine VC.keep [0, 1, 5, 6, 19] rfl ?_
   refine VC.cond_dec rfl (fun h19 => ?_) (fun h19 => ?_)
   ·
    replace hS := it_t h19 hS
    refine VC.draw [(0, true), (1, true), (2, true), (3, true), (4, true), (5, true), (6, true), (7, true), (8, true), (9, true), (10, true), (11, true), (12, true), (13, true), (14, true), (15, true), (16, true), (17, false), (18, false), (19, true)] mixed (by kernel_rfl) (by kernel_rfl) (by kernel_rfl) ?_
    refine VD.q rfl (q_move rfl) (by decide) ?_
    refine VD.q rfl (q_move rfl) (by decide) ?_
    refine VD.q rfl (q_move rfl) (by decide) ?_
    obtain ⟨z23_6, nz23_6, hz23_6, hS⟩ := at_s hS
    refine VD.q rfl (q_ixm (s := l_0) Tryz.underlying40 gsz122 rfl rfl nz23_6 (lt_of_get nz23_6 hz23_6)) (by decide) ?_
    refine VD.q rfl (q_field gfa122_0 rfl) (by decide) ?_
    refine VD.q rfl (q_elf (s := l_0) gone9 rfl hz23_6 rfl) (by decide) ?_
    refine VD.q rfl (q_move rfl) (by decide) ?_
    refine VD.q rfl (q_move rfl) (by decide) ?_
    obtain ⟨z28_7, nz28_7, hz28_7, hS⟩ := at_s hS
    refine VD.q rfl (q_ixm (s := l_0) Tryz.underlying40 gsz122 rfl rfl nz28_7 (lt_of_get nz28_7 hz28_7)) (by decide) ?_
    refine VD.q rfl (q_field gfa122_2 rfl) (by decide) ?_
    refine VD.q rfl (q_elf (s := l_0) gone3 rfl hz28_7 rfl) (by decide) ?_
    refine VD.q rfl (q_move rfl) (by decide) ?_
    refine VD.q rfl (q_move rfl) (by decide) ?_
    obtain ⟨z33_8, nz33_8, hz33_8, hS⟩ := at_s hS
    refine VD.q rfl (q_ixm (s := l_0) Tryz.underlying40 gsz122 rfl rfl nz33_8 (lt_of_get nz33_8 hz33_8)) (by decide) ?_
    refine VD.q rfl (q_field gfa122_3 rfl) (by decide) ?_
    refine VD.q rfl (q_elf (s := l_0) gone9 rfl hz33_8 rfl) (by decide) ?_
    refine VD.q rfl (q_build (vs := [(0, str z23_6.path), (1, i64 z28_7.mode), (2, str z33_8.data)]) (cs := #[str z23_6.path, i64 z28_7.mode, str z33_8.data]) rfl (by kernel_rfl)) (by decide) ?_
    refine VD.one rfl ?_
    refine VL.lit (α := Rectoref14File) (xs := [.tmp 36]) (vs := [.agg #[str z23_6.path, i64 z28_7.mode, str z33_8.data]]) [⟨z23_6.path, z28_7.mode, z33_8.data⟩] Tryz.underlying45 glit133 (by decide) rfl rfl rfl rfl (by decide) (fun _ _ _ _ => trivial) (by decide) (fun s37_9 hs37_9 => ?_) (by decide)
    replace hS := lt_to hs37_9 hS
    refine VL.back (D' := []) (by kernel_rfl) (Pend.nil) ?_
    refine VD.one rfl ?_
    obtain ⟨b38, hS⟩ := gd_s hS
    refine VL.app (s := out5_1) (r := s37_9) Tryz.underlying45 gapp133 (by decide) rfl Fo.out (ap1 b38) (ap2 b38 (by decide)) (by decide) (fun s38_11 hs38_11 => ?_)
    replace hS := lt_to hs38_11 hS
    refine VL.back (D' := []) (by kernel_rfl) (Pend.nil) ?_
    refine VD.q rfl (q_assign rfl) (by decide) ?_
    refine VD.mt s38_11 [0, 1, 5, 6] (fun _ _ h => h) hS rfl
   replace hS := it_f h19 hS
   refine VC.skip_mt out5_1 [0, 1, 5, 6] (fun _ _ h => h) hS rfl
  clear hS
  rintro out5_3 hS
  show VC _ _ _ _ _ [(0, l_0.val), (1, i64 n_1), (5, out5_3.val), (6, i64 i6_2)] (Mo.and Mo.tt _) (Ow.star (Sv.own out5_3 133) (Ow.emp))
  refine Zr ?_
  refine Zm ?_
  obtain ⟨b12, hS⟩ := gd_s hS
  refine VL.q (q_add rfl rfl b12) (by decide) ?_
  refine Za ?_
  refine VL.rnd (out5_3, (i6_2 + 1)) [0, 1, 5, 6] (fun _ _ h => h) (go2 hS hK1) rfl
 replace hS := it_f h10 hS
 replace hS := up2 hS hK1
 refine Zx ?_
 refine Zq (Zr ?_)
 refine Zm ?_
 refine Za ?_
 refine Zl ?_
 cases hS
 exact VC.ret (fin1 (.inr rfl) rfl rfl out5_1 rfl rfl (by (try dsimp only); exact InM.out) (by (try dsimp only); exact EntO.out))
theorem rectoref14_Put_ct (r_0 : Sv Rectoref14File) (f_1 : Rectoref14File) {r : List Rectoref14File} (hS : Sh.rectoref14_Put r_0.l f_1 = some r) :
 Ct Tryz.prog 83 [r_0.val, .agg #[str f_1.path, i64 f_1.mode, str f_1.data]] r_0.ok (Ow.emp) (X := Sv Rectoref14File) (fun x => x.val) (fun x => r = x.l) (fun x => Mo.tt) (fun x => Sv.own x 133) := by
 refine Ct.of Tryz.func83 rfl (by kernel_rfl) Tryz.ntmps83 (by simp) fun c => ?_
 unfold Sh.rectoref14_Put at hS
 refine Zq (Zr ?_)
 refine VL.box (cs := [str f_1.path, i64 f_1.mode, str f_1.data]) rfl rfl (by decide) fun b3_1 => ?_
 refine Za ?_
 refine Zl ?_
 refine Zq (Zr ?_)
 refine Za ?_
 refine Zl ?_
 refine Zq (Zr ?_)
 refine Za ?_
 refine Zl ?_
 refine Zq (Zq (Zr ?_))
 refine Za ?_
 refine Zl ?_
 refine Zb ?_
 refine VC.nilO (⟨none, 0, []⟩ : Sv Rectoref14File) 133 ⟨rfl, rfl⟩ ?_
 refine VC.iter (S := Sv Rectoref14File × Bool × Int) (fun sg => (sg.1.l, sg.2.1, sg.2.2)) (fun sg => [(0, r_0.val), (3, ptr b3_1 0), (5, sg.1.val), (6, .bool sg.2.1), (7, i64 sg.2.2)]) (fun sg => Mo.tt) (fun sg => Ow.star (Blk b3_1 [str f_1.path, i64 f_1.mode, str f_1.data] 133) (Ow.star (Sv.own sg.1 133) (Ow.emp))) (⟨none, 0, []⟩, false, 0) [0, 3, 5, 6, 7] hS rfl ?_
 clear hS
 rintro ⟨out5_2, put6_3, i7_4⟩ m1 y1 hS hK1
 show VC _ _ _ _ _ [(0, r_0.val), (3, ptr b3_1 0), (5, out5_2.val), (6, .bool put6_3), (7, i64 i7_4)] (Mo.and Mo.tt _) (Ow.star (Blk b3_1 [str f_1.path, i64 f_1.mode, str f_1.data] 133) (Ow.star (Sv.own out5_2 133) (Ow.emp)))
 refine Zq (Zq (Zr ?_))
 refine Zm ?_
 refine Zm ?_
 refine VL.q (q_ln (s := r_0) Tryz.underlying45 rfl) (by decide) ?_
 refine VL.q (q_lss rfl rfl) (by decide) ?_
 refine Zl ?_
 refine VC.cond_dec rfl (fun h11 => ?_) (fun h11 => ?_)
 ·
  replace hS := it_t h11 hS
  refine Zk ?_
  refine VC.cutJ (S := Sv Rectoref14File × Bool) (fun sg => (sg.1.l, sg.2)) (fun sg => [(0, r_0.val), (3, ptr b3_1 0), (5, sg.1.val), (6, .bool sg.2), (7, i64 i7_4)]) (fun sg => Mo.tt) (fun sg => Ow.star (Blk b3_1 [str f_1.path, i64 f_1.mode, str f_1.data] 133) (Ow.star (Sv.own sg.1 133) (Ow.emp))) hS ?_ ?_
  ·
   clear hS
   intro k7 hS
   refine Zb ?_
   refine VC.cutJ (S := Sv Rectoref14File × Bool) (fun sg => (sg.1.l, sg.2)) (fun sg => [(0, r_0.val), (3, ptr b3_1 0), (5, sg.1.val), (6, .bool sg.2), (7, i64 i7_4)]) (fun sg => Mo.tt) (fun sg => Ow.star (Blk b3_1 [str f_1.path, i64 f_1.mode, str f_1.data] 133) (Ow.star (Sv.own sg.1 133) (Ow.emp))) hS ?_ ?_
   ·
    clear hS
    intro k10 hS
    refine VC.cutJ (S := Bool) (fun (x25_11 : Bool) => x25_11) (fun (x25_11 : Bool) => [(0, r_0.val), (3, ptr b3_1 0), (5, out5_2.val), (6, .bool put6_3), (7, i64 i7_4), (25, .bool x25_11)]) (fun (x25_11 : Bool) => Mo.tt) (fun (x25_11 : Bool) => Ow.star (Blk b3_1 [str f_1.path, i64 f_1.mode, str f_1.data] 133) (Ow.star (Sv.own out5_2 133) (Ow.emp))) hS ?_ ?_
    ·
     clear hS
     intro k12 hS
     refine VC.draw ((List.range 12).map fun k => (k, true)) mixed (by kernel_rfl) (by kernel_rfl) (by kernel_rfl) ?_
     refine VD.q rfl (q_move rfl) (by decide) ?_
     refine VD.q rfl (q_not rfl) (by decide) ?_
     refine VD.q rfl (q_move rfl) (by decide) ?_
     refine VD.split 16 rfl (fun h16 => ?_) (fun h16 => ?_)
     ·
      replace hS := it_t h16 hS
      refine VD.gy rfl rfl rfl (q_move rfl) (by decide) ?_
      refine VD.gy rfl rfl rfl (q_move rfl) (by decide) ?_
      obtain ⟨z19_13, nz19_13, hz19_13, hS⟩ := at_s hS
      refine VD.gy rfl rfl rfl (q_ixm (s := r_0) Tryz.underlying45 gsz133 rfl rfl nz19_13 (lt_of_get nz19_13 hz19_13)) (by decide) ?_
      refine VD.gy rfl rfl rfl (q_field gfa133_0 rfl) (by decide) ?_
      refine VD.gy rfl rfl rfl (q_elf (s := r_0) gone9 rfl hz19_13 rfl) (by decide) ?_
      refine VD.gy rfl rfl rfl (q_field gfa133_0 rfl) (by decide) ?_
      refine VD.gy rfl rfl rfl (q_fe gone9 rfl rfl) (by decide) ?_
      refine VD.gy rfl rfl rfl (q_sgeq rfl rfl) (by decide) ?_
      refine VD.q rfl (q_pick_t rfl rfl) (by decide) ?_
      refine VD.mt (!Op.bytesLess z19_13.path f_1.path) [0, 3, 5, 6, 7, 25] (fun _ _ h => h) hS rfl
     replace hS := it_b h16 hS
     refine Zd ?_
     refine Zd ?_
     refine Zd ?_
     refine Zd ?_
     refine Zd ?_
     refine Zd ?_
     refine Zd ?_
     refine Zd ?_
     refine VD.q rfl (q_pick_f rfl rfl) (by decide) ?_
     refine VD.mt false [0, 3, 5, 6, 7, 25] (fun _ _ h => h) hS rfl
    clear hS
    rintro x25_11 hS
    show VC _ _ _ _ _ [(0, r_0.val), (3, ptr b3_1 0), (5, out5_2.val), (6, .bool put6_3), (7, i64 i7_4), (25, .bool x25_11)] (Mo.and Mo.tt _) (Ow.star (Blk b3_1 [str f_1.path, i64 f_1.mode, str f_1.data] 133) (Ow.star (Sv.own out5_2 133) (Ow.emp)))
    refine VC.cond rfl (fun h25 => ?_) (fun h25 => ?_)
    ·
     replace hS := it_t h25 hS
     refine Zq (Zr ?_)
     refine Zm ?_
     refine VL.q (q_fes gagg133 rfl rfl) (by decide) ?_
     refine VL.lit (α := Rectoref14File) (xs := [.tmp 27]) (vs := [.agg #[str f_1.path, i64 f_1.mode, str f_1.data]]) [⟨f_1.path, f_1.mode, f_1.data⟩] Tryz.underlying45 glit133 (by decide) rfl rfl rfl rfl (by decide) (fun _ _ _ _ => trivial) (by decide) (fun s28_14 hs28_14 => ?_) (by decide)
     replace hS := lt_to hs28_14 hS
     obtain ⟨b29, hS⟩ := gd_s hS
     refine VL.app (s := out5_2) (r := s28_14) Tryz.underlying45 gapp133 (by decide) rfl Fo.out (ap1 b29) (ap2 b29 (by decide)) (by decide) (fun s29_16 hs29_16 => ?_)
     replace hS := lt_to hs29_16 hS
     refine Za ?_
     refine Zl ?_
     refine Zr ?_
     refine Za ?_
     refine VL.mt (s29_16, true) [0, 3, 5, 6, 7] (fun _ _ h => h) hS rfl
    replace hS := it_b h25 hS
    refine VC.skip_mt (out5_2, put6_3) [0, 3, 5, 6, 7] (fun _ _ h => h) hS rfl
   clear hS
   rintro ⟨out5_8, put6_9⟩ hS
   show VC _ _ _ _ _ [(0, r_0.val), (3, ptr b3_1 0), (5, out5_8.val), (6, .bool put6_9), (7, i64 i7_4)] (Mo.and Mo.tt _) (Ow.star (Blk b3_1 [str f_1.path, i64 f_1.mode, str f_1.data] 133) (Ow.star (Sv.own out5_8 133) (Ow.emp)))
   refine Zq ?_
   refine VC.draw ((List.range 8).map fun k => (k, true)) mixed (by kernel_rfl) (by kernel_rfl) (by kernel_rfl) ?_
   refine VD.q rfl (q_move rfl) (by decide) ?_
   refine VD.q rfl (q_move rfl) (by decide) ?_
   obtain ⟨z32_18, nz32_18, hz32_18, hS⟩ := at_s hS
   refine VD.q rfl (q_ixm (s := r_0) Tryz.underlying45 gsz133 rfl rfl nz32_18 (lt_of_get nz32_18 hz32_18)) (by decide) ?_
   refine VD.q rfl (q_field gfa133_0 rfl) (by decide) ?_
   refine VD.q rfl (q_elf (s := r_0) gone9 rfl hz32_18 rfl) (by decide) ?_
   refine VD.q rfl (q_field gfa133_0 rfl) (by decide) ?_
   refine VD.q rfl (q_fe gone9 rfl rfl) (by decide) ?_
   refine VD.q rfl (q_sne rfl rfl) (by decide) ?_
   refine VD.to (fun _ _ h => h) ?_
   refine VC.keep [0, 3, 5, 6, 7, 37] rfl ?_
   refine VC.cond_ndec rfl (fun h37 => ?_) (fun h37 => ?_)
   ·
    replace hS := it_f h37 hS
    refine Zr ?_
    refine Zm ?_
    refine Zm ?_
    refine Zm ?_
    obtain ⟨z41_19, nz41_19, hz41_19, hS⟩ := at_s hS
    refine VL.q (q_ixm (s := r_0) Tryz.underlying45 gsz133 rfl rfl nz41_19 (lt_of_get nz41_19 hz41_19)) (by decide) ?_
    refine VL.q (q_els (s := r_0) gagg133 rfl rfl hz41_19) (by decide) ?_
    refine VL.lit (α := Rectoref14File) (xs := [.tmp 42]) (vs := [.agg #[str z41_19.path, i64 z41_19.mode, str z41_19.data]]) [⟨z41_19.path, z41_19.mode, z41_19.data⟩] Tryz.underlying45 glit133 (by decide) rfl rfl rfl rfl (by decide) (fun _ _ _ _ => trivial) (by decide) (fun s43_20 hs43_20 => ?_) (by decide)
    replace hS := lt_to hs43_20 hS
    obtain ⟨b44, hS⟩ := gd_s hS
    refine VL.app (s := out5_8) (r := s43_20) Tryz.underlying45 gapp133 (by decide) rfl Fo.out (ap1 b44) (ap2 b44 (by decide)) (by decide) (fun s44_22 hs44_22 => ?_)
    replace hS := lt_to hs44_22 hS
    refine Za ?_
    refine VL.mt (s44_22, put6_9) [0, 3, 5, 6, 7] (fun _ _ h => h) hS rfl
   replace hS := it_t h37 hS
   refine VC.skip_mt (out5_8, put6_9) [0, 3, 5, 6, 7] (fun _ _ h => h) hS rfl
  clear hS
  rintro ⟨out5_5, put6_6⟩ hS
  show VC _ _ _ _ _ [(0, r_0.val), (3, ptr b3_1 0), (5, out5_5.val), (6, .bool put6_6), (7, i64 i7_4)] (Mo.and Mo.tt _) (Ow.star (Blk b3_1 [str f_1.path, i64 f_1.mode, str f_1.data] 133) (Ow.star (Sv.own out5_5 133) (Ow.emp)))
  refine Zr ?_
  refine Zm ?_
  obtain ⟨b13, hS⟩ := gd_s hS
  refine VL.q (q_add rfl rfl b13) (by decide) ?_
  refine Za ?_
  refine VL.rnd (out5_5, put6_6, (i7_4 + 1)) [0, 3, 5, 6, 7] (fun _ _ h => h) (go2 hS hK1) rfl
 replace hS := it_f h11 hS
 replace hS := up2 hS hK1
 refine Zx ?_
 refine Zq (Zq (Zr ?_))
 refine Zm ?_
 refine VL.q (q_not rfl) (by decide) ?_
 refine Zl ?_
 refine VC.keep [3, 5, 46] rfl ?_
 refine VC.cond rfl (fun h46 => ?_) (fun h46 => ?_)
 ·
  replace hS := it_t h46 hS
  refine Zr ?_
  refine Zm ?_
  refine VL.q (q_fes gagg133 rfl rfl) (by decide) ?_
  refine VL.lit (α := Rectoref14File) (xs := [.tmp 48]) (vs := [.agg #[str f_1.path, i64 f_1.mode, str f_1.data]]) [⟨f_1.path, f_1.mode, f_1.data⟩] Tryz.underlying45 glit133 (by decide) rfl rfl rfl rfl (by decide) (fun _ _ _ _ => trivial) (by decide) (fun s49_24 hs49_24 => ?_) (by decide)
  replace hS := lt_to hs49_24 hS
  obtain ⟨b50, hS⟩ := gd_s hS
  refine VL.app (s := out5_2) (r := s49_24) Tryz.underlying45 gapp133 (by decide) rfl Fo.out (ap1 b50) (ap2 b50 (by decide)) (by decide) (fun s50_26 hs50_26 => ?_)
  replace hS := lt_to hs50_26 hS
  refine Za ?_
  refine Zl ?_
  refine Zq (Zr ?_)
  refine Zm ?_
  refine Za ?_
  refine Zl ?_
  cases hS
  exact VC.ret (fin1 (.inr rfl) rfl rfl s50_26 rfl rfl (by (try dsimp only); exact InM.out) (by (try dsimp only); exact EntO.out))
 replace hS := it_b h46 hS
 refine Zk ?_
 refine Zq (Zr ?_)
 refine Zm ?_
 refine Za ?_
 refine Zl ?_
 cases hS
 exact VC.ret (fin1 (.inr rfl) rfl rfl out5_2 rfl rfl (by (try dsimp only); exact InM.out) (by (try dsimp only); exact EntO.out))
theorem rectoref14_Paths_ct (l_0 : Sv (Sv Rectoref14File)) {r : List Str} (hS : Sh.rectoref14_Paths (l_0.l.map Sv.l) = some r) :
 Ct Tryz.prog 34 [l_0.val] l_0.ok (Ow.emp) (X := Sv Str) (fun x => x.val) (fun x => r = x.l) (fun x => Mo.tt) (fun x => Sv.own x 9) := by
 refine Ct.of Tryz.func34 rfl (by kernel_rfl) Tryz.ntmps34 (by simp) fun c => ?_
 unfold Sh.rectoref14_Paths at hS
 refine Zq (Zr ?_)
 refine Za ?_
 refine Zl ?_
 refine Zq (Zr ?_)
 refine Za ?_
 refine Zl ?_
 refine Zq (Zq (Zr ?_))
 refine Za ?_
 refine Zl ?_
 refine Zb ?_
 refine VC.nilO (⟨none, 0, []⟩ : Sv Rectoref14File) 133 ⟨rfl, rfl⟩ ?_
 refine VC.iter (S := Sv Rectoref14File × Int) (fun sg => (sg.1.l, sg.2)) (fun sg => [(0, l_0.val), (3, sg.1.val), (4, i64 sg.2)]) (fun sg => Mo.tt) (fun sg => Ow.star (Sv.own sg.1 133) (Ow.emp)) (⟨none, 0, []⟩, 0) [0, 3, 4] hS rfl ?_
 clear hS
 rintro ⟨r3_1, i4_2⟩ m1 y1 hS hK1
 show VC _ _ _ _ _ [(0, l_0.val), (3, r3_1.val), (4, i64 i4_2)] (Mo.and Mo.tt _) (Ow.star (Sv.own r3_1 133) (Ow.emp))
 refine Zq (Zq (Zr ?_))
 refine Zm ?_
 refine Zm ?_
 refine VL.q (q_lnm Sv.l (s := l_0) Tryz.underlying70 rfl) (by decide) ?_
 refine VL.q (q_lss rfl rfl) (by decide) ?_
 refine Zl ?_
 refine VC.cond_dec rfl (fun h11 => ?_) (fun h11 => ?_)
 ·
  replace hS := it_t h11 hS
  refine Zk ?_
  refine Zq (Zb (Zq (Zr ?_)))
  refine Za ?_
  refine Zl ?_
  refine Zb ?_
  refine VC.iter (S := Sv Rectoref14File × Int) (fun sg => (sg.1.l, sg.2)) (fun sg => [(0, l_0.val), (3, sg.1.val), (4, i64 i4_2), (5, i64 sg.2)]) (fun sg => Mo.tt) (fun sg => Ow.star (Sv.own sg.1 133) (Ow.emp)) (r3_1, 0) [0, 3, 4, 5] hS rfl ?_
  clear hS
  rintro ⟨r3_3, k5_4⟩ m2 y2 hS hK2
  show VC _ _ _ _ _ [(0, l_0.val), (3, r3_3.val), (4, i64 i4_2), (5, i64 k5_4)] (Mo.and Mo.tt _) (Ow.star (Sv.own r3_3 133) (Ow.emp))
  refine Zq (Zq (Zr ?_))
  refine Zm ?_
  refine Zm ?_
  refine Zm ?_
  obtain ⟨z17_5, nz17_5, hz17_5, hS⟩ := atm_s hS
  refine VL.deep z17_5.ok hz17_5 (fun _ q => q) ?_
  refine VL.q (q_ixm (s := l_0) Tryz.underlying70 gsz45 rfl rfl nz17_5 (lt_of_get nz17_5 hz17_5)) (by decide) ?_
  refine VL.q (q_el (s := l_0) gone45 rfl hz17_5 rfl) (by decide) ?_
  refine VL.q (q_ln (s := z17_5) Tryz.underlying45 rfl) (by decide) ?_
  refine VL.q (q_lss rfl rfl) (by decide) ?_
  refine Zl ?_
  refine VC.cond_dec rfl (fun h20 => ?_) (fun h20 => ?_)
  ·
   replace hS := it_t h20 hS
   refine Zk ?_
   refine VC.keep [0, 3, 4, 5] rfl ?_
   refine Zq (Zb (Zr ?_))
   refine Zm ?_
   refine Zm ?_
   refine Zm ?_
   obtain ⟨z26_6, nz26_6, hz26_6, hS⟩ := atm_s hS
   refine VL.deep z26_6.ok hz26_6 (fun _ q => q) ?_
   refine VL.q (q_ixm (s := l_0) Tryz.underlying70 gsz45 rfl rfl nz26_6 (lt_of_get nz26_6 hz26_6)) (by decide) ?_
   refine VL.q (q_el (s := l_0) gone45 rfl hz26_6 rfl) (by decide) ?_
   refine Zm ?_
   obtain ⟨z29_7, nz29_7, hz29_7, hS⟩ := at_s hS
   refine VL.q (q_ixm (s := z26_6) Tryz.underlying45 gsz133 rfl rfl nz29_7 (lt_of_get nz29_7 hz29_7)) (by decide) ?_
   refine VL.q (q_field gfa133_0 rfl) (by decide) ?_
   refine VL.q (q_elf (s := z26_6) gone9 rfl hz29_7 rfl) (by decide) ?_
   refine VL.q (q_build (vs := [(0, str z29_7.path)]) (cs := #[str z29_7.path, i64 0, str []]) rfl (by kernel_rfl)) (by decide) ?_
   obtain ⟨y33_8, ey33_8, hS⟩ := bd_s hS
   refine VL.callOR (rectoref14_Put_ct r3_3 (⟨z29_7.path, 0, []⟩ : Rectoref14File) ey33_8) rfl (by decide) ?_
   rintro q33_8_0 rfl
   try dsimp only
   refine Za ?_
   refine Zl ?_
   refine VC.keep [0, 3, 4, 5] rfl ?_
   refine Zr ?_
   refine Zm ?_
   obtain ⟨b22, hS⟩ := gd_s hS
   refine VL.q (q_add rfl rfl b22) (by decide) ?_
   refine Za ?_
   refine VL.rnd (q33_8_0, (k5_4 + 1)) [0, 3, 4, 5] (fun _ _ h => h) (go2 hS hK2) rfl
  replace hS := it_f h20 hS
  replace hS := up2 hS hK2
  refine Zx ?_
  refine VC.keep [0, 3, 4] rfl ?_
  refine Zr ?_
  refine Zm ?_
  obtain ⟨b13, hS⟩ := gd_s hS
  refine VL.q (q_add rfl rfl b13) (by decide) ?_
  refine Za ?_
  refine VL.rnd (r3_3, (i4_2 + 1)) [0, 3, 4] (fun _ _ h => h) (go2 hS hK1) rfl
 replace hS := it_f h11 hS
 replace hS := up2 hS hK1
 refine Zx ?_
 refine Zq (Zr ?_)
 refine Za ?_
 refine Zl ?_
 refine Zq (Zq (Zr ?_))
 refine Za ?_
 refine Zl ?_
 refine Zb ?_
 refine VC.nilO (⟨none, 0, []⟩ : Sv Str) 9 ⟨rfl, rfl⟩ ?_
 refine VC.iter (S := Sv Str × Int) (fun sg => (sg.1.l, sg.2)) (fun sg => [(3, r3_1.val), (6, sg.1.val), (7, i64 sg.2)]) (fun sg => Mo.tt) (fun sg => Ow.star (Sv.own r3_1 133) (Ow.star (Sv.own sg.1 9) (Ow.emp))) (⟨none, 0, []⟩, 0) [3, 6, 7] hS rfl ?_
 clear hS
 rintro ⟨out6_9, i7_10⟩ m1 y1 hS hK1
 show VC _ _ _ _ _ [(3, r3_1.val), (6, out6_9.val), (7, i64 i7_10)] (Mo.and Mo.tt _) (Ow.star (Sv.own r3_1 133) (Ow.star (Sv.own out6_9 9) (Ow.emp)))
 refine Zq (Zq (Zr ?_))
 refine Zm ?_
 refine Zm ?_
 refine VL.q (q_ln (s := r3_1) Tryz.underlying45 rfl) (by decide) ?_
 refine VL.q (q_lss rfl rfl) (by decide) ?_
 refine Zl ?_
 refine VC.cond_dec rfl (fun h37 => ?_) (fun h37 => ?_)
 ·
  replace hS := it_t h37 hS
  refine Zk ?_
  refine Zq (Zb (Zr ?_))
  refine Zm ?_
  refine Zm ?_
  refine Zm ?_
  obtain ⟨z43_11, nz43_11, hz43_11, hS⟩ := at_s hS
  refine VL.q (q_ixo (s := r3_1) Tryz.underlying45 gsz133 rfl rfl nz43_11 (lt_of_get nz43_11 hz43_11)) (by decide) ?_
  refine VL.q (q_field gfa133_0 rfl) (by decide) ?_
  refine VL.q (q_elfo (s := r3_1) gone9 rfl hz43_11 rfl) (by decide) ?_
  refine VL.lit (α := Str) (xs := [.tmp 45]) (vs := [str z43_11.path]) [z43_11.path] Tryz.underlying32 glit9 (by decide) rfl rfl rfl rfl (by decide) (fun _ _ _ _ => trivial) (by decide) (fun s46_12 hs46_12 => ?_) (by decide)
  replace hS := lt_to hs46_12 hS
  obtain ⟨b47, hS⟩ := gd_s hS
  refine VL.app (s := out6_9) (r := s46_12) Tryz.underlying32 gapp9 (by decide) rfl Fo.out (ap1 b47) (ap2 b47 (by decide)) (by decide) (fun s47_14 hs47_14 => ?_)
  replace hS := lt_to hs47_14 hS
  refine Za ?_
  refine Zl ?_
  refine VC.keep [3, 6, 7] rfl ?_
  refine Zr ?_
  refine Zm ?_
  obtain ⟨b39, hS⟩ := gd_s hS
  refine VL.q (q_add rfl rfl b39) (by decide) ?_
  refine Za ?_
  refine VL.rnd (s47_14, (i7_10 + 1)) [3, 6, 7] (fun _ _ h => h) (go2 hS hK1) rfl
 replace hS := it_f h37 hS
 replace hS := up2 hS hK1
 refine Zx ?_
 refine Zq (Zr ?_)
 refine Zm ?_
 refine Za ?_
 refine Zl ?_
 cases hS
 exact VC.ret (fin1 (.inr rfl) rfl rfl out6_9 rfl rfl (by (try dsimp only); exact InM.out) (by (try dsimp only); exact EntO.out))
theorem rectoref14_Tracked_ct (head_0 : Sv Rectoref14File) (ix_1 : Sv Rectoref14Entry) {r : List Str} (hS : Sh.rectoref14_Tracked head_0.l ix_1.l = some r) :
 Ct Tryz.prog 81 [head_0.val, ix_1.val] (head_0.ok.and ix_1.ok) (Ow.emp) (X := Sv Str) (fun x => x.val) (fun x => r = x.l) (fun x => Mo.tt) (fun x => Sv.own x 9) := by
 refine Ct.of Tryz.func81 rfl (by kernel_rfl) Tryz.ntmps81 (by simp) fun c => ?_
 unfold Sh.rectoref14_Tracked at hS
 refine Zq (Zr ?_)
 refine Za ?_
 refine Zl ?_
 refine Zq (Zr ?_)
 refine Zm ?_
 refine Zm ?_
 obtain ⟨y7_1, ey7_1, hS⟩ := bd_s hS
 refine VL.callO (rectoref14_Stage_ct ix_1 0 ey7_1) rfl (by decide) ?_
 rintro q7_1_0 rfl
 try dsimp only
 refine Zm ?_
 obtain ⟨y9_2, ey9_2, hS⟩ := bd_s hS
 refine VL.callO (rectoref14_Stage_ct ix_1 1 ey9_2) rfl (by decide) ?_
 rintro q9_2_0 rfl
 try dsimp only
 refine Zm ?_
 obtain ⟨y11_3, ey11_3, hS⟩ := bd_s hS
 refine VL.callO (rectoref14_Stage_ct ix_1 2 ey11_3) rfl (by decide) ?_
 rintro q11_3_0 rfl
 try dsimp only
 refine Zm ?_
 obtain ⟨y13_4, ey13_4, hS⟩ := bd_s hS
 refine VL.callO (rectoref14_Stage_ct ix_1 3 ey13_4) rfl (by decide) ?_
 rintro q13_4_0 rfl
 try dsimp only
 refine VL.shut q7_1_0 133 (fun _ _ _ _ => trivial) ?_
 refine VL.shut q9_2_0 133 (fun _ _ _ _ => trivial) ?_
 refine VL.shut q11_3_0 133 (fun _ _ _ _ => trivial) ?_
 refine VL.shut q13_4_0 133 (fun _ _ _ _ => trivial) ?_
 refine VL.lit (α := Sv Rectoref14File) (xs := [.tmp 5, .tmp 7, .tmp 9, .tmp 11, .tmp 13]) (vs := [head_0.val, q7_1_0.val, q9_2_0.val, q11_3_0.val, q13_4_0.val]) [head_0, q7_1_0, q9_2_0, q11_3_0, q13_4_0] Tryz.underlying70 glit45 (by decide) rfl rfl rfl rfl (by decide) (fun h m => List.forall_mem_cons.2 ⟨InM.out (X := head_0.ok) h m, List.forall_mem_cons.2 ⟨InM.out (X := q7_1_0.ok) h m, List.forall_mem_cons.2 ⟨InM.out (X := q9_2_0.ok) h m, List.forall_mem_cons.2 ⟨InM.out (X := q11_3_0.ok) h m, List.forall_mem_cons.2 ⟨InM.out (X := q13_4_0.ok) h m, fun _ h => by cases h⟩⟩⟩⟩⟩) (by decide) (fun s14_5 hs14_5 => ?_) (by decide)
 replace hS := lt_to (congrArg (List.map Sv.l) hs14_5) hS
 obtain ⟨y15_7, ey15_7, hS⟩ := bd_s hS
 refine VL.callO (rectoref14_Paths_ct s14_5 ey15_7) rfl (by decide) ?_
 rintro q15_7_0 rfl
 try dsimp only
 refine Za ?_
 refine Zl ?_
 refine VC.keep [4] rfl ?_
 cases hS
 exact VC.ret (fin1 (.inr rfl) rfl rfl q15_7_0 rfl rfl (by (try dsimp only); exact InM.out) (by (try dsimp only); exact EntO.out))
theorem rectoref14_Cut_ct (r_0 : Sv Rectoref14File) (p_1 : Str) {r : List Rectoref14File} (hS : Sh.rectoref14_Cut r_0.l p_1 = some r) :
 Ct Tryz.prog 82 [r_0.val, str p_1] r_0.ok (Ow.emp) (X := Sv Rectoref14File) (fun x => x.val) (fun x => r = x.l) (fun x => Mo.tt) (fun x => Sv.own x 133) := by
 refine Ct.of Tryz.func82 rfl (by kernel_rfl) Tryz.ntmps82 (by simp) fun c => ?_
 unfold Sh.rectoref14_Cut at hS
 refine Zq (Zr ?_)
 refine Za ?_
 refine Zl ?_
 refine Zq (Zr ?_)
 refine Za ?_
 refine Zl ?_
 refine Zq (Zq (Zr ?_))
 refine Za ?_
 refine Zl ?_
 refine Zb ?_
 refine VC.nilO (⟨none, 0, []⟩ : Sv Rectoref14File) 133 ⟨rfl, rfl⟩ ?_
 refine VC.iter (S := Sv Rectoref14File × Int) (fun sg => (sg.1.l, sg.2)) (fun sg => [(0, r_0.val), (1, str p_1), (5, sg.1.val), (6, i64 sg.2)]) (fun sg => Mo.tt) (fun sg => Ow.star (Sv.own sg.1 133) (Ow.emp)) (⟨none, 0, []⟩, 0) [0, 1, 5, 6] hS rfl ?_
 clear hS
 rintro ⟨out5_1, i6_2⟩ m1 y1 hS hK1
 show VC _ _ _ _ _ [(0, r_0.val), (1, str p_1), (5, out5_1.val), (6, i64 i6_2)] (Mo.and Mo.tt _) (Ow.star (Sv.own out5_1 133) (Ow.emp))
 refine Zq (Zq (Zr ?_))
 refine Zm ?_
 refine Zm ?_
 refine VL.q (q_ln (s := r_0) Tryz.underlying45 rfl) (by decide) ?_
 refine VL.q (q_lss rfl rfl) (by decide) ?_
 refine Zl ?_
 refine VC.cond_dec rfl (fun h10 => ?_) (fun h10 => ?_)
 ·
  replace hS := it_t h10 hS
  refine Zk ?_
  refine VC.cutJ (S := Sv Rectoref14File) (fun (out5_3 : Sv Rectoref14File) => out5_3.l) (fun (out5_3 : Sv Rectoref14File) => [(0, r_0.val), (1, str p_1), (5, out5_3.val), (6, i64 i6_2)]) (fun (out5_3 : Sv Rectoref14File) => Mo.tt) (fun (out5_3 : Sv Rectoref14File) => Ow.star (Sv.own out5_3 133) (Ow.emp)) hS ?_ ?_
  ·
   clear hS
   intro k4 hS
   refine Zb (Zq (Zr ?_))
   refine Zm ?_
   refine Zm ?_
   obtain ⟨z15_5, nz15_5, hz15_5, hS⟩ := at_s hS
   refine VL.q (q_ixm (s := r_0) Tryz.underlying45 gsz133 rfl rfl nz15_5 (lt_of_get nz15_5 hz15_5)) (by decide) ?_
   refine VL.q (q_field gfa133_0 rfl) (by decide) ?_
   refine VL.q (q_elf (s := r_0) gone9 rfl hz15_5 rfl) (by decide) ?_
   refine Zm ?_
   refine VL.q (q_sne rfl rfl) (by decide) ?_
   refine Zl ?_
   refine VC.keep [0, 1, 5, 6, 19] rfl ?_
   refine VC.cond_ndec rfl (fun h19 => ?_) (fun h19 => ?_)
   ·
    replace hS := it_f h19 hS
    refine Zr ?_
    refine Zm ?_
    refine Zm ?_
    refine Zm ?_
    obtain ⟨z23_6, nz23_6, hz23_6, hS⟩ := at_s hS
    refine VL.q (q_ixm (s := r_0) Tryz.underlying45 gsz133 rfl rfl nz23_6 (lt_of_get nz23_6 hz23_6)) (by decide) ?_
    refine VL.q (q_els (s := r_0) gagg133 rfl rfl hz23_6) (by decide) ?_
    refine VL.lit (α := Rectoref14File) (xs := [.tmp 24]) (vs := [.agg #[str z23_6.path, i64 z23_6.mode, str z23_6.data]]) [⟨z23_6.path, z23_6.mode, z23_6.data⟩] Tryz.underlying45 glit133 (by decide) rfl rfl rfl rfl (by decide) (fun _ _ _ _ => trivial) (by decide) (fun s25_7 hs25_7 => ?_) (by decide)
    replace hS := lt_to hs25_7 hS
    obtain ⟨b26, hS⟩ := gd_s hS
    refine VL.app (s := out5_1) (r := s25_7) Tryz.underlying45 gapp133 (by decide) rfl Fo.out (ap1 b26) (ap2 b26 (by decide)) (by decide) (fun s26_9 hs26_9 => ?_)
    replace hS := lt_to hs26_9 hS
    refine Za ?_
    refine VL.mt s26_9 [0, 1, 5, 6] (fun _ _ h => h) hS rfl
   replace hS := it_t h19 hS
   refine VC.skip_mt out5_1 [0, 1, 5, 6] (fun _ _ h => h) hS rfl
  clear hS
  rintro out5_3 hS
  show VC _ _ _ _ _ [(0, r_0.val), (1, str p_1), (5, out5_3.val), (6, i64 i6_2)] (Mo.and Mo.tt _) (Ow.star (Sv.own out5_3 133) (Ow.emp))
  refine Zr ?_
  refine Zm ?_
  obtain ⟨b12, hS⟩ := gd_s hS
  refine VL.q (q_add rfl rfl b12) (by decide) ?_
  refine Za ?_
  refine VL.rnd (out5_3, (i6_2 + 1)) [0, 1, 5, 6] (fun _ _ h => h) (go2 hS hK1) rfl
 replace hS := it_f h10 hS
 replace hS := up2 hS hK1
 refine Zx ?_
 refine Zq (Zr ?_)
 refine Zm ?_
 refine Za ?_
 refine Zl ?_
 cases hS
 exact VC.ret (fin1 (.inr rfl) rfl rfl out5_1 rfl rfl (by (try dsimp only); exact InM.out) (by (try dsimp only); exact EntO.out))
theorem rectoref1_Under_ct (p_0 : Str) (dir_1 : Str) {r : Bool} (hS : Sh.rectoref1_Under p_0 dir_1 = some r) :
 Ct Tryz.prog 185 [str p_0, str dir_1] Mo.tt (Ow.emp) (X := Unit) (fun _ => .bool r) (fun _ => True) (fun _ => Mo.tt) (fun _ => Ow.emp) := by
 refine Ct.of Tryz.func185 rfl (by kernel_rfl) Tryz.ntmps185 (by simp) fun c => ?_
 unfold Sh.rectoref1_Under at hS
 refine Zq (Zr ?_)
 refine Za ?_
 refine Zl ?_
 refine Zq (Zq (Zr ?_))
 refine Zm ?_
 refine Zs ?_
 refine Zl ?_
 refine VC.cond_dec rfl (fun h6 => ?_) (fun h6 => ?_)
 ·
  replace hS := it_t h6 hS
  refine Zq (Zr ?_)
  refine Zm ?_
  refine VL.q (q_sne rfl rfl) (by decide) ?_
  refine Za ?_
  refine Zl ?_
  cases hS
  exact Ze
 replace hS := it_f h6 hS
 refine Zk ?_
 refine Zq (Zr ?_)
 refine Zm ?_
 refine VL.q (q_slen Tryz.underlying9 rfl) (by decide) ?_
 refine Zm ?_
 refine VL.q (q_slen Tryz.underlying9 rfl) (by decide) ?_
 obtain ⟨b13, hS⟩ := gd_s hS
 refine VL.q (q_add rfl rfl b13) (by decide) ?_
 refine VL.q (q_gtr rfl rfl) (by decide) ?_
 refine Zm ?_
 refine VL.split_dec 15 rfl (fun h15 => ?_) (fun h15 => ?_)
 ·
  replace hS := it_t h15 hS
  refine Zg ?_
  refine Zg ?_
  refine VL.gy rfl rfl (q_slen Tryz.underlying9 rfl) (by decide) ?_
  obtain ⟨b19, hS⟩ := gd_s hS
  obtain ⟨y19_1, ey19_1, hS⟩ := lt_s hS
  refine VL.gy rfl rfl (q_stoE Tryz.underlying9 rfl rfl b19.1 b19.2 ey19_1) (by decide) ?_
  refine Zg ?_
  refine VL.gy rfl rfl (q_seq rfl rfl) (by decide) ?_
  refine Zt ?_
  refine Zm ?_
  refine VL.split_dec 23 rfl (fun h23 => ?_) (fun h23 => ?_)
  ·
   replace hS := it_t h23 hS
   refine Zg ?_
   refine Zg ?_
   refine VL.gy rfl rfl (q_slen Tryz.underlying9 rfl) (by decide) ?_
   obtain ⟨z27_2, nz27_2, hz27_2, hS⟩ := at_s hS
   refine VL.gy rfl rfl (q_sidx Tryz.underlying9 rfl rfl nz27_2 hz27_2) (by decide) ?_
   refine VL.gy rfl rfl (q_eql rfl rfl) (by decide) ?_
   refine Zt ?_
   refine Za ?_
   refine Zl ?_
   refine VC.keep [4] rfl ?_
   cases hS
   exact Ze
  replace hS := it_f h23 hS
  refine Zn ?_
  refine Zn ?_
  refine Zn ?_
  refine Zn ?_
  refine Zn ?_
  refine Zf ?_
  refine Za ?_
  refine Zl ?_
  refine VC.keep [4] rfl ?_
  cases hS
  exact Ze
 replace hS := it_f h15 hS
 refine Zn ?_
 refine Zn ?_
 refine Zn ?_
 refine Zn ?_
 refine Zn ?_
 refine Zn ?_
 refine Zf ?_
 refine Zm ?_
 refine Zn ?_
 refine Zn ?_
 refine Zn ?_
 refine Zn ?_
 refine Zn ?_
 refine Zf ?_
 refine Za ?_
 refine Zl ?_
 refine VC.keep [4] rfl ?_
 cases hS
 exact Ze
theorem rectoref1_Clash_ct (a_0 : Str) (b_1 : Str) {r : Bool} (hS : Sh.rectoref1_Clash a_0 b_1 = some r) :
 Ct Tryz.prog 103 [str a_0, str b_1] Mo.tt (Ow.emp) (X := Unit) (fun _ => .bool r) (fun _ => True) (fun _ => Mo.tt) (fun _ => Ow.emp) := by
 refine Ct.of Tryz.func103 rfl (by kernel_rfl) Tryz.ntmps103 (by simp) fun c => ?_
 unfold Sh.rectoref1_Clash at hS
 refine Zq (Zr ?_)
 refine Za ?_
 refine Zl ?_
 refine Zq (Zr ?_)
 refine Zm ?_
 refine VL.q (q_sne rfl rfl) (by decide) ?_
 refine Zm ?_
 refine VL.split_ndec 7 rfl (fun h7 => ?_) (fun h7 => ?_)
 ·
  replace hS := it_f h7 hS
  refine Zg ?_
  refine VL.gy rfl rfl (q_sne rfl rfl) (by decide) ?_
  refine Zt ?_
  refine Zm ?_
  refine VL.split_ndec 11 rfl (fun h11 => ?_) (fun h11 => ?_)
  ·
   replace hS := it_f h11 hS
   refine Zg ?_
   refine Zg ?_
   obtain ⟨y14_1, ey14_1, hS⟩ := bd_s hS
   refine VL.gy rfl rfl (q_call (rectoref1_Under_ct a_0 b_1 ey14_1) rfl (fun _ _ => rfl)) (by decide) ?_
   refine Zg ?_
   refine VL.split 15 rfl (fun h15 => ?_) (fun h15 => ?_)
   ·
    replace hS := it_t h15 hS
    refine Zn ?_
    refine Zn ?_
    refine Zn ?_
    refine VL.gy rfl rfl (q_pick_t rfl rfl) (by decide) ?_
    refine Zt ?_
    refine Za ?_
    refine Zl ?_
    refine VC.keep [4] rfl ?_
    cases hS
    exact Ze
   replace hS := it_b h15 hS
   refine Zg ?_
   refine Zg ?_
   obtain ⟨y18_2, ey18_2, hS⟩ := bd_s hS
   refine VL.gy rfl rfl (q_call (rectoref1_Under_ct b_1 a_0 ey18_2) rfl (fun _ _ => rfl)) (by decide) ?_
   refine VL.gy rfl rfl (q_pick_f rfl rfl) (by decide) ?_
   refine Zt ?_
   refine Za ?_
   refine Zl ?_
   refine VC.keep [4] rfl ?_
   cases hS
   exact Ze
  replace hS := it_t h11 hS
  refine Zn ?_
  refine Zn ?_
  refine Zn ?_
  refine Zn ?_
  refine VL.gu rfl rfl (by decide) ?_
  refine VL.gu rfl rfl (by decide) ?_
  refine VL.gu rfl rfl (by decide) ?_
  refine Zn ?_
  refine Zf ?_
  refine Za ?_
  refine Zl ?_
  refine VC.keep [4] rfl ?_
  cases hS
  exact Ze
 replace hS := it_t h7 hS
 refine Zn ?_
 refine Zn ?_
 refine Zf ?_
 refine Zm ?_
 refine Zn ?_
 refine Zn ?_
 refine Zn ?_
 refine Zn ?_
 refine VL.gu rfl rfl (by decide) ?_
 refine VL.gu rfl rfl (by decide) ?_
 refine VL.gu rfl rfl (by decide) ?_
 refine Zn ?_
 refine Zf ?_
 refine Za ?_
 refine Zl ?_
 refine VC.keep [4] rfl ?_
 cases hS
 exact Ze
theorem rectoref14_Clear_ct (r_0 : Sv Rectoref14File) (p_1 : Str) {r : List Rectoref14File} (hS : Sh.rectoref14_Clear r_0.l p_1 = some r) :
 Ct Tryz.prog 84 [r_0.val, str p_1] r_0.ok (Ow.emp) (X := Sv Rectoref14File) (fun x => x.val) (fun x => r = x.l) (fun x => Mo.tt) (fun x => Sv.own x 133) := by
 refine Ct.of Tryz.func84 rfl (by kernel_rfl) Tryz.ntmps84 (by simp) fun c => ?_
 unfold Sh.rectoref14_Clear at hS
 refine Zq (Zr ?_)
 refine Za ?_
 refine Zl ?_
 refine Zq (Zr ?_)
 refine Za ?_
 refine Zl ?_
 refine Zq (Zq (Zr ?_))
 refine Za ?_
 refine Zl ?_
 refine Zb ?_
 refine VC.nilO (⟨none, 0, []⟩ : Sv Rectoref14File) 133 ⟨rfl, rfl⟩ ?_
 refine VC.iter (S := Sv Rectoref14File × Int) (fun sg => (sg.1.l, sg.2)) (fun sg => [(0, r_0.val), (1, str p_1), (5, sg.1.val), (6, i64 sg.2)]) (fun sg => Mo.tt) (fun sg => Ow.star (Sv.own sg.1 133) (Ow.emp)) (⟨none, 0, []⟩, 0) [0, 1, 5, 6] hS rfl ?_
 clear hS
 rintro ⟨out5_1, i6_2⟩ m1 y1 hS hK1
 show VC _ _ _ _ _ [(0, r_0.val), (1, str p_1), (5, out5_1.val), (6, i64 i6_2)] (Mo.and Mo.tt _) (Ow.star (Sv.own out5_1 133) (Ow.emp))
 refine Zq (Zq (Zr ?_))
 refine Zm ?_
 refine Zm ?_
 refine VL.q (q_ln (s := r_0) Tryz.underlying45 rfl) (by decide) ?_
 refine VL.q (q_lss rfl rfl) (by decide) ?_
 refine Zl ?_
 refine VC.cond_dec rfl (fun h10 => ?_) (fun h10 => ?_)
 ·
  replace hS := it_t h10 hS
  refine Zk ?_
  refine VC.cutJ (S := Sv Rectoref14File) (fun (out5_3 : Sv Rectoref14File) => out5_3.l) (fun (out5_3 : Sv Rectoref14File) => [(0, r_0.val), (1, str p_1), (5, out5_3.val), (6, i64 i6_2)]) (fun (out5_3 : Sv Rectoref14File) => Mo.tt) (fun (out5_3 : Sv Rectoref14File) => Ow.star (Sv.own out5_3 133) (Ow.emp)) hS ?_ ?_
  ·
   clear hS
   intro k4 hS
   refine Zb (Zq (Zr ?_))
   refine Zm ?_
   refine Zm ?_
   obtain ⟨z15_5, nz15_5, hz15_5, hS⟩ := at_s hS
   refine VL.q (q_ixm (s := r_0) Tryz.underlying45 gsz133 rfl rfl nz15_5 (lt_of_get nz15_5 hz15_5)) (by decide) ?_
   refine VL.q (q_field gfa133_0 rfl) (by decide) ?_
   refine VL.q (q_elf (s := r_0) gone9 rfl hz15_5 rfl) (by decide) ?_
   refine Zm ?_
   obtain ⟨y19_6, ey19_6, hS⟩ := bd_s hS
   refine VL.q (q_call (rectoref1_Clash_ct z15_5.path p_1 ey19_6) rfl (fun _ _ => rfl)) (by decide) ?_
   refine VL.q (q_not rfl) (by decide) ?_
   refine Zl ?_
   refine VC.keep [0, 1, 5, 6, 20] rfl ?_
   refine VC.cond rfl (fun h20 => ?_) (fun h20 => ?_)
   ·
    replace hS := it_t h20 hS
    refine Zr ?_
    refine Zm ?_
    refine Zm ?_
    refine Zm ?_
    obtain ⟨z24_7, nz24_7, hz24_7, hS⟩ := at_s hS
    refine VL.q (q_ixm (s := r_0) Tryz.underlying45 gsz133 rfl rfl nz24_7 (lt_of_get nz24_7 hz24_7)) (by decide) ?_
    refine VL.q (q_els (s := r_0) gagg133 rfl rfl hz24_7) (by decide) ?_
    refine VL.lit (α := Rectoref14File) (xs := [.tmp 25]) (vs := [.agg #[str z24_7.path, i64 z24_7.mode, str z24_7.data]]) [⟨z24_7.path, z24_7.mode, z24_7.data⟩] Tryz.underlying45 glit133 (by decide) rfl rfl rfl rfl (by decide) (fun _ _ _ _ => trivial) (by decide) (fun s26_8 hs26_8 => ?_) (by decide)
    replace hS := lt_to hs26_8 hS
    obtain ⟨b27, hS⟩ := gd_s hS
    refine VL.app (s := out5_1) (r := s26_8) Tryz.underlying45 gapp133 (by decide) rfl Fo.out (ap1 b27) (ap2 b27 (by decide)) (by decide) (fun s27_10 hs27_10 => ?_)
    replace hS := lt_to hs27_10 hS
    refine Za ?_
    refine VL.mt s27_10 [0, 1, 5, 6] (fun _ _ h => h) hS rfl
   replace hS := it_b h20 hS
   refine VC.skip_mt out5_1 [0, 1, 5, 6] (fun _ _ h => h) hS rfl
  clear hS
  rintro out5_3 hS
  show VC _ _ _ _ _ [(0, r_0.val), (1, str p_1), (5, out5_3.val), (6, i64 i6_2)] (Mo.and Mo.tt _) (Ow.star (Sv.own out5_3 133) (Ow.emp))
  refine Zr ?_
  refine Zm ?_
  obtain ⟨b12, hS⟩ := gd_s hS
  refine VL.q (q_add rfl rfl b12) (by decide) ?_
  refine Za ?_
  refine VL.rnd (out5_3, (i6_2 + 1)) [0, 1, 5, 6] (fun _ _ h => h) (go2 hS hK1) rfl
 replace hS := it_f h10 hS
 replace hS := up2 hS hK1
 refine Zx ?_
 refine Zq (Zr ?_)
 refine Zm ?_
 refine Za ?_
 refine Zl ?_
 cases hS
 exact VC.ret (fin1 (.inr rfl) rfl rfl out5_1 rfl rfl (by (try dsimp only); exact InM.out) (by (try dsimp only); exact EntO.out))
theorem rectoref14_Of_ct (r_0 : Sv Rectoref14File) {r : List Rectoref14Entry} (hS : Sh.rectoref14_Of r_0.l = some r) :
 Ct Tryz.prog 85 [r_0.val] r_0.ok (Ow.emp) (X := Sv Rectoref14Entry) (fun x => x.val) (fun x => r = x.l) (fun x => Mo.tt) (fun x => Sv.own x 122) := by
 refine Ct.of Tryz.func85 rfl (by kernel_rfl) Tryz.ntmps85 (by simp) fun c => ?_
 unfold Sh.rectoref14_Of at hS
 refine Zq (Zr ?_)
 refine Za ?_
 refine Zl ?_
 refine Zq (Zr ?_)
 refine Za ?_
 refine Zl ?_
 refine Zq (Zq (Zr ?_))
 refine Za ?_
 refine Zl ?_
 refine Zb ?_
 refine VC.nilO (⟨none, 0, []⟩ : Sv Rectoref14Entry) 122 ⟨rfl, rfl⟩ ?_
 refine VC.iter (S := Sv Rectoref14Entry × Int) (fun sg => (sg.1.l, sg.2)) (fun sg => [(0, r_0.val), (3, sg.1.val), (4, i64 sg.2)]) (fun sg => Mo.tt) (fun sg => Ow.star (Sv.own sg.1 122) (Ow.emp)) (⟨none, 0, []⟩, 0) [0, 3, 4] hS rfl ?_
 clear hS
 rintro ⟨out3_1, i4_2⟩ m1 y1 hS hK1
 show VC _ _ _ _ _ [(0, r_0.val), (3, out3_1.val), (4, i64 i4_2)] (Mo.and Mo.tt _) (Ow.star (Sv.own out3_1 122) (Ow.emp))
 refine Zq (Zq (Zr ?_))
 refine Zm ?_
 refine Zm ?_
 refine VL.q (q_ln (s := r_0) Tryz.underlying45 rfl) (by decide) ?_
 refine VL.q (q_lss rfl rfl) (by decide) ?_
 refine Zl ?_
 refine VC.cond_dec rfl (fun h8 => ?_) (fun h8 => ?_)
 ·
  replace hS := it_t h8 hS
  refine Zk ?_
  refine Zq (Zb ?_)
  refine VC.draw [(0, true), (1, true), (2, true), (3, true), (4, true), (5, true), (6, true), (7, true), (8, true), (9, true), (10, true), (11, true), (12, true), (13, true), (14, true), (15, true), (16, true), (17, false), (18, false), (19, true)] mixed (by kernel_rfl) (by kernel_rfl) (by kernel_rfl) ?_
  refine VD.q rfl (q_move rfl) (by decide) ?_
  refine VD.q rfl (q_move rfl) (by decide) ?_
  refine VD.q rfl (q_move rfl) (by decide) ?_
  obtain ⟨z14_3, nz14_3, hz14_3, hS⟩ := at_s hS
  refine VD.q rfl (q_ixm (s := r_0) Tryz.underlying45 gsz133 rfl rfl nz14_3 (lt_of_get nz14_3 hz14_3)) (by decide) ?_
  refine VD.q rfl (q_field gfa133_0 rfl) (by decide) ?_
  refine VD.q rfl (q_elf (s := r_0) gone9 rfl hz14_3 rfl) (by decide) ?_
  refine VD.q rfl (q_move rfl) (by decide) ?_
  refine VD.q rfl (q_move rfl) (by decide) ?_
  obtain ⟨z19_4, nz19_4, hz19_4, hS⟩ := at_s hS
  refine VD.q rfl (q_ixm (s := r_0) Tryz.underlying45 gsz133 rfl rfl nz19_4 (lt_of_get nz19_4 hz19_4)) (by decide) ?_
  refine VD.q rfl (q_field gfa133_1 rfl) (by decide) ?_
  refine VD.q rfl (q_elf (s := r_0) gone3 rfl hz19_4 rfl) (by decide) ?_
  refine VD.q rfl (q_move rfl) (by decide) ?_
  refine VD.q rfl (q_move rfl) (by decide) ?_
  obtain ⟨z24_5, nz24_5, hz24_5, hS⟩ := at_s hS
  refine VD.q rfl (q_ixm (s := r_0) Tryz.underlying45 gsz133 rfl rfl nz24_5 (lt_of_get nz24_5 hz24_5)) (by decide) ?_
  refine VD.q rfl (q_field gfa133_2 rfl) (by decide) ?_
  refine VD.q rfl (q_elf (s := r_0) gone9 rfl hz24_5 rfl) (by decide) ?_
  refine VD.q rfl (q_build (vs := [(0, str z14_3.path), (2, i64 z19_4.mode), (3, str z24_5.data)]) (cs := #[str z14_3.path, i64 0, i64 z19_4.mode, str z24_5.data, i64 0, i64 0]) rfl (by kernel_rfl)) (by decide) ?_
  refine VD.one rfl ?_
  refine VL.lit (α := Rectoref14Entry) (xs := [.tmp 27]) (vs := [.agg #[str z14_3.path, i64 0, i64 z19_4.mode, str z24_5.data, i64 0, i64 0]]) [⟨z14_3.path, 0, z19_4.mode, z24_5.data, 0, 0⟩] Tryz.underlying40 glit122 (by decide) rfl rfl rfl rfl (by decide) (fun _ _ _ _ => trivial) (by decide) (fun s28_6 hs28_6 => ?_) (by decide)
  replace hS := lt_to hs28_6 hS
  refine VL.back (D' := []) (by kernel_rfl) (Pend.nil) ?_
  refine VD.one rfl ?_
  obtain ⟨b29, hS⟩ := gd_s hS
  refine VL.app (s := out3_1) (r := s28_6) Tryz.underlying40 gapp122 (by decide) rfl Fo.out (ap1 b29) (ap2 b29 (by decide)) (by decide) (fun s29_8 hs29_8 => ?_)
  replace hS := lt_to hs29_8 hS
  refine VL.back (D' := []) (by kernel_rfl) (Pend.nil) ?_
  refine VD.q rfl (q_assign rfl) (by decide) ?_
  refine VD.to (fun _ _ h => h) ?_
  refine VC.keep [0, 3, 4] rfl ?_
  refine Zr ?_
  refine Zm ?_
  obtain ⟨b10, hS⟩ := gd_s hS
  refine VL.q (q_add rfl rfl b10) (by decide) ?_
  refine Za ?_
  refine VL.rnd (s29_8, (i4_2 + 1)) [0, 3, 4] (fun _ _ h => h) (go2 hS hK1) rfl
 replace hS := it_f h8 hS
 replace hS := up2 hS hK1
 refine Zx ?_
 refine Zq (Zr ?_)
 refine Zm ?_
 refine Za ?_
 refine Zl ?_
 cases hS
 exact VC.ret (fin1 (.inr rfl) rfl rfl out3_1 rfl rfl (by (try dsimp only); exact InM.out) (by (try dsimp only); exact EntO.out))
theorem rectoref14_Force_ct (head_0 : Sv Rectoref14File) (to_1 : Sv Rectoref14File) (ix_2 : Sv Rectoref14Entry) (work_3 : Sv Rectoref14File) {r : List Rectoref14Entry × List Rectoref14File} (hS : Sh.rectoref14_Force head_0.l to_1.l ix_2.l work_3.l = some r) :
 Ct Tryz.prog 27 [head_0.val, to_1.val, ix_2.val, work_3.val] (head_0.ok.and (to_1.ok.and (ix_2.ok.and work_3.ok))) (Ow.emp) (X := Sv Rectoref14Entry × Sv Rectoref14File) (fun x => .tuple #[x.1.val, x.2.val]) (fun x => r = (x.1.l, x.2.l)) (fun x => x.2.ok) (fun x => Sv.own x.1 122) := by
 refine Ct.of Tryz.func27 rfl (by kernel_rfl) Tryz.ntmps27 (by simp) fun c => ?_
 unfold Sh.rectoref14_Force at hS
 refine Zq (Zr ?_)
 refine Za ?_
 refine Za ?_
 refine Zl ?_
 refine Zq (Zr ?_)
 refine Zm ?_
 refine Zm ?_
 obtain ⟨y15_1, ey15_1, hS⟩ := bd_s hS
 refine VL.callO (rectoref14_Tracked_ct head_0 ix_2 ey15_1) rfl (by decide) ?_
 rintro q15_1_0 rfl
 try dsimp only
 refine Za ?_
 refine Zl ?_
 refine Zq (Zq (Zr ?_))
 refine Za ?_
 refine Zl ?_
 refine VC.keep [1, 3, 10, 11] rfl ?_
 refine Zb ?_
 refine VC.iter (S := Sv Rectoref14File × Int) (fun sg => (sg.1.l, sg.2)) (fun sg => [(1, to_1.val), (3, sg.1.val), (10, q15_1_0.val), (11, i64 sg.2)]) (fun sg => sg.1.ok) (fun sg => Ow.star (Sv.own q15_1_0 9) (Ow.emp)) (work_3, 0) [1, 3, 10, 11] hS rfl ?_
 clear hS
 rintro ⟨work3_2, i11_3⟩ m1 y1 hS hK1
 show VC _ _ _ _ _ [(1, to_1.val), (3, work3_2.val), (10, q15_1_0.val), (11, i64 i11_3)] (Mo.and work3_2.ok _) (Ow.star (Sv.own q15_1_0 9) (Ow.emp))
 refine Zq (Zq (Zr ?_))
 refine Zm ?_
 refine Zm ?_
 refine VL.q (q_ln (s := q15_1_0) Tryz.underlying32 rfl) (by decide) ?_
 refine VL.q (q_lss rfl rfl) (by decide) ?_
 refine Zl ?_
 refine VC.cond_dec rfl (fun h19 => ?_) (fun h19 => ?_)
 ·
  replace hS := it_t h19 hS
  refine Zk ?_
  refine Zq (Zb (Zr ?_))
  refine Zm ?_
  refine Zm ?_
  refine Zm ?_
  obtain ⟨z25_4, nz25_4, hz25_4, hS⟩ := at_s hS
  refine VL.q (q_ixo (s := q15_1_0) Tryz.underlying32 gsz9 rfl rfl nz25_4 (lt_of_get nz25_4 hz25_4)) (by decide) ?_
  refine VL.q (q_elo (s := q15_1_0) 9 gone9 rfl hz25_4 rfl) (by decide) ?_
  obtain ⟨y27_5, ey27_5, hS⟩ := bd_s hS
  refine VL.callO (rectoref14_Cut_ct work3_2 z25_4 ey27_5) rfl (by decide) ?_
  rintro q27_5_0 rfl
  try dsimp only
  refine Za ?_
  refine Zl ?_
  refine VC.keep [1, 3, 10, 11] rfl ?_
  refine Zr ?_
  refine Zm ?_
  obtain ⟨b21, hS⟩ := gd_s hS
  refine VL.q (q_add rfl rfl b21) (by decide) ?_
  refine Za ?_
  refine VL.shut q27_5_0 133 (fun _ _ _ _ => trivial) ?_
  refine VL.rnd (q27_5_0, (i11_3 + 1)) [1, 3, 10, 11] (fun _ _ h => h) (go2 hS hK1) rfl
 replace hS := it_f h19 hS
 replace hS := up2 hS hK1
 refine Zx ?_
 refine Zq (Zq (Zr ?_))
 refine Za ?_
 refine Zl ?_
 refine Zb ?_
 refine VC.iter (S := Sv Rectoref14File × Int) (fun sg => (sg.1.l, sg.2)) (fun sg => [(1, to_1.val), (3, sg.1.val), (12, i64 sg.2)]) (fun sg => sg.1.ok) (fun sg => Ow.emp) (work3_2, 0) [1, 3, 12] hS rfl ?_
 clear hS
 rintro ⟨work3_6, i12_7⟩ m1 y1 hS hK1
 show VC _ _ _ _ _ [(1, to_1.val), (3, work3_6.val), (12, i64 i12_7)] (Mo.and work3_6.ok _) (Ow.emp)
 refine Zq (Zq (Zr ?_))
 refine Zm ?_
 refine Zm ?_
 refine VL.q (q_ln (s := to_1) Tryz.underlying45 rfl) (by decide) ?_
 refine VL.q (q_lss rfl rfl) (by decide) ?_
 refine Zl ?_
 refine VC.cond_dec rfl (fun h31 => ?_) (fun h31 => ?_)
 ·
  replace hS := it_t h31 hS
  refine Zk ?_
  refine Zq (Zb ?_)
  refine VC.draw [(0, true), (1, true), (2, true), (3, true), (4, true), (5, true), (7, true), (8, true), (9, true), (10, true), (6, false), (11, false), (12, true)] mixed (by kernel_rfl) (by kernel_rfl) (by kernel_rfl) ?_
  refine VD.q rfl (q_move rfl) (by decide) ?_
  refine VD.q rfl (q_move rfl) (by decide) ?_
  refine VD.q rfl (q_move rfl) (by decide) ?_
  obtain ⟨z37_8, nz37_8, hz37_8, hS⟩ := at_s hS
  refine VD.q rfl (q_ixm (s := to_1) Tryz.underlying45 gsz133 rfl rfl nz37_8 (lt_of_get nz37_8 hz37_8)) (by decide) ?_
  refine VD.q rfl (q_field gfa133_0 rfl) (by decide) ?_
  refine VD.q rfl (q_elf (s := to_1) gone9 rfl hz37_8 rfl) (by decide) ?_
  refine VD.q rfl (q_move rfl) (by decide) ?_
  refine VD.q rfl (q_move rfl) (by decide) ?_
  obtain ⟨z43_9, nz43_9, hz43_9, hS⟩ := at_s hS
  refine VD.q rfl (q_ixm (s := to_1) Tryz.underlying45 gsz133 rfl rfl nz43_9 (lt_of_get nz43_9 hz43_9)) (by decide) ?_
  refine VD.q rfl (q_els (s := to_1) gagg133 rfl rfl hz43_9) (by decide) ?_
  refine VD.one rfl ?_
  obtain ⟨y40_10, ey40_10, hS⟩ := bd_s hS
  refine VL.callO (rectoref14_Clear_ct work3_6 z37_8.path ey40_10) rfl (by decide) ?_
  rintro q40_10_0 rfl
  try dsimp only
  refine VL.back (D' := [(10, .agg #[str z43_9.path, i64 z43_9.mode, str z43_9.data]), (9, ptr to_1.b (to_1.o + (i12_7).toNat * Dat.sz Rectoref14File + 0))]) (by kernel_rfl) (Pend.cons rfl (q_els (s := to_1) gagg133 rfl rfl hz43_9) (Pend.cons rfl (q_ixm (s := to_1) Tryz.underlying45 gsz133 rfl rfl nz43_9 (lt_of_get nz43_9 hz43_9)) (Pend.nil))) ?_
  refine VD.one rfl ?_
  obtain ⟨y45_11, ey45_11, hS⟩ := bd_s hS
  refine VL.callOR (rectoref14_Put_ct q40_10_0 (⟨z43_9.path, z43_9.mode, z43_9.data⟩ : Rectoref14File) ey45_11) rfl (by decide) ?_
  rintro q45_11_0 rfl
  try dsimp only
  refine VL.back (D' := []) (by kernel_rfl) (Pend.nil) ?_
  refine VD.q rfl (q_assign rfl) (by decide) ?_
  refine VD.to (fun _ _ h => h) ?_
  refine VC.keep [1, 3, 12] rfl ?_
  refine Zr ?_
  refine Zm ?_
  obtain ⟨b33, hS⟩ := gd_s hS
  refine VL.q (q_add rfl rfl b33) (by decide) ?_
  refine Za ?_
  refine VL.shut q45_11_0 133 (fun _ _ _ _ => trivial) ?_
  refine VL.rnd (q45_11_0, (i12_7 + 1)) [1, 3, 12] (fun _ _ h => h) (go2 hS hK1) rfl
 replace hS := it_f h31 hS
 replace hS := up2 hS hK1
 refine Zx ?_
 refine Zq (Zr ?_)
 refine Zm ?_
 obtain ⟨y47_12, ey47_12, hS⟩ := bd_s hS
 refine VL.callO (rectoref14_Of_ct to_1 ey47_12) rfl (by decide) ?_
 rintro q47_12_0 rfl
 try dsimp only
 refine Zm ?_
 refine Za ?_
 refine Za ?_
 refine Zl ?_
 refine VC.keep [8, 9] rfl ?_
 cases hS
 exact VC.ret (fin2 (.inr rfl) rfl rfl rfl (q47_12_0, work3_6) rfl rfl (by (try dsimp only); exact InM.out) (by (try dsimp only); exact EntO.out))
theorem rectolaw15_All_ct (a_0 : Sv IndexEntry) (b_1 : Sv Rectoref14Entry) {r : Bool} (hS : Sh.rectolaw15_All a_0.l b_1.l = some r) :
 Ct Tryz.prog 19 [a_0.val, b_1.val] (a_0.ok.and b_1.ok) (Ow.emp) (X := Unit) (fun _ => .bool r) (fun _ => True) (fun _ => Mo.tt) (fun _ => Ow.emp) := by
 refine Ct.of Tryz.func19 rfl (by kernel_rfl) Tryz.ntmps19 (by simp) fun c => ?_
 unfold Sh.rectolaw15_All at hS
 refine Zq (Zr ?_)
 refine Za ?_
 refine Zl ?_
 refine Zq (Zr ?_)
 refine Zm ?_
 obtain ⟨y8_1, ey8_1, hS⟩ := bd_s hS
 refine VL.callO (rectolaw15_Of_ct a_0 ey8_1) rfl (by decide) ?_
 rintro q8_1_0 rfl
 try dsimp only
 refine Za ?_
 refine Zl ?_
 refine Zq (Zq (Zr ?_))
 refine Zm ?_
 refine VL.q (q_ln (s := q8_1_0) Tryz.underlying40 rfl) (by decide) ?_
 refine Zm ?_
 refine VL.q (q_ln (s := b_1) Tryz.underlying40 rfl) (by decide) ?_
 refine VL.q (q_neq rfl rfl) (by decide) ?_
 refine Zl ?_
 refine VC.keep [1, 5, 13] rfl ?_
 refine VC.cond_ndec rfl (fun h13 => ?_) (fun h13 => ?_)
 ·
  replace hS := it_f h13 hS
  refine Zq (Zr ?_)
  refine Za ?_
  refine Zl ?_
  cases hS
  exact Ze
 replace hS := it_t h13 hS
 refine Zk ?_
 refine Zq (Zq (Zr ?_))
 refine Za ?_
 refine Zl ?_
 refine Zb ?_
 refine VC.iter (S := Int) (fun (i6_2 : Int) => i6_2) (fun (i6_2 : Int) => [(1, b_1.val), (5, q8_1_0.val), (6, i64 i6_2)]) (fun (i6_2 : Int) => Mo.tt) (fun (i6_2 : Int) => Ow.star (Sv.own q8_1_0 122) (Ow.emp)) 0 [1, 5, 6] hS rfl ?_
 clear hS
 rintro i6_2 m1 y1 hS hK1
 show VC _ _ _ _ _ [(1, b_1.val), (5, q8_1_0.val), (6, i64 i6_2)] (Mo.and Mo.tt _) (Ow.star (Sv.own q8_1_0 122) (Ow.emp))
 refine Zq (Zq (Zr ?_))
 refine Zm ?_
 refine Zm ?_
 refine VL.q (q_ln (s := q8_1_0) Tryz.underlying40 rfl) (by decide) ?_
 refine VL.q (q_lss rfl rfl) (by decide) ?_
 refine Zl ?_
 refine VC.cond_dec rfl (fun h17 => ?_) (fun h17 => ?_)
 ·
  replace hS := it_t h17 hS
  refine Zk ?_
  refine Zq (Zb (Zq ?_))
  refine VC.draw ((List.range 9).map fun k => (k, true)) mixed (by kernel_rfl) (by kernel_rfl) (by kernel_rfl) ?_
  refine VD.q rfl (q_move rfl) (by decide) ?_
  refine VD.q rfl (q_move rfl) (by decide) ?_
  obtain ⟨z22_3, nz22_3, hz22_3, hS⟩ := at_s hS
  refine VD.q rfl (q_ixo (s := q8_1_0) Tryz.underlying40 gsz122 rfl rfl nz22_3 (lt_of_get nz22_3 hz22_3)) (by decide) ?_
  refine VD.q rfl (q_elso (s := q8_1_0) gagg122 rfl rfl hz22_3) (by decide) ?_
  refine VD.q rfl (q_move rfl) (by decide) ?_
  refine VD.q rfl (q_move rfl) (by decide) ?_
  obtain ⟨z26_4, nz26_4, hz26_4, hS⟩ := at_s hS
  refine VD.q rfl (q_ixm (s := b_1) Tryz.underlying40 gsz122 rfl rfl nz26_4 (lt_of_get nz26_4 hz26_4)) (by decide) ?_
  refine VD.q rfl (q_els (s := b_1) gagg122 rfl rfl hz26_4) (by decide) ?_
  refine VD.q rfl (q_stneq geqg122 (geqs122 z22_3.path z22_3.stage z22_3.mode z22_3.data z22_3.time z22_3.size z26_4.path z26_4.stage z26_4.mode z26_4.data z26_4.time z26_4.size) rfl rfl) (by decide) ?_
  refine VD.to (fun _ _ h => h) ?_
  refine VC.keep [1, 5, 6, 28] rfl ?_
  refine VC.cond_ndec rfl (fun h28 => ?_) (fun h28 => ?_)
  ·
   replace hS := it_f h28 hS
   refine Zq (Zr ?_)
   refine Za ?_
   refine Zl ?_
   replace hS := up2 hS hK1
   cases hS
   exact Ze
  replace hS := it_t h28 hS
  refine Zk ?_
  refine Zr ?_
  refine Zm ?_
  obtain ⟨b19, hS⟩ := gd_s hS
  refine VL.q (q_add rfl rfl b19) (by decide) ?_
  refine Za ?_
  refine VL.rnd (i6_2 + 1) [1, 5, 6] (fun _ _ h => h) (go2 hS hK1) rfl
 replace hS := it_f h17 hS
 replace hS := up2 hS hK1
 refine Zx ?_
 refine Zq (Zr ?_)
 refine Za ?_
 refine Zl ?_
 cases hS
 exact Ze
theorem rectoref14_Same_ct (a_0 : Sv Rectoref14File) (b_1 : Sv Rectoref14File) {r : Bool} (hS : Sh.rectoref14_Same a_0.l b_1.l = some r) :
 Ct Tryz.prog 28 [a_0.val, b_1.val] (a_0.ok.and b_1.ok) (Ow.emp) (X := Unit) (fun _ => .bool r) (fun _ => True) (fun _ => Mo.tt) (fun _ => Ow.emp) := by
 refine Ct.of Tryz.func28 rfl (by kernel_rfl) Tryz.ntmps28 (by simp) fun c => ?_
 unfold Sh.rectoref14_Same at hS
 refine Zq (Zr ?_)
 refine Za ?_
 refine Zl ?_
 refine Zq (Zq (Zr ?_))
 refine Zm ?_
 refine VL.q (q_ln (s := a_0) Tryz.underlying45 rfl) (by decide) ?_
 refine Zm ?_
 refine VL.q (q_ln (s := b_1) Tryz.underlying45 rfl) (by decide) ?_
 refine VL.q (q_neq rfl rfl) (by decide) ?_
 refine Zl ?_
 refine VC.cond_ndec rfl (fun h10 => ?_) (fun h10 => ?_)
 ·
  replace hS := it_f h10 hS
  refine Zq (Zr ?_)
  refine Za ?_
  refine Zl ?_
  cases hS
  exact Ze
 replace hS := it_t h10 hS
 refine Zk ?_
 refine Zq (Zq (Zr ?_))
 refine Za ?_
 refine Zl ?_
 refine Zb ?_
 refine VC.iter (S := Int) (fun (i5_1 : Int) => i5_1) (fun (i5_1 : Int) => [(0, a_0.val), (1, b_1.val), (5, i64 i5_1)]) (fun (i5_1 : Int) => Mo.tt) (fun (i5_1 : Int) => Ow.emp) 0 [0, 1, 5] hS rfl ?_
 clear hS
 rintro i5_1 m1 y1 hS hK1
 show VC _ _ _ _ _ [(0, a_0.val), (1, b_1.val), (5, i64 i5_1)] (Mo.and Mo.tt _) (Ow.emp)
 refine Zq (Zq (Zr ?_))
 refine Zm ?_
 refine Zm ?_
 refine VL.q (q_ln (s := a_0) Tryz.underlying45 rfl) (by decide) ?_
 refine VL.q (q_lss rfl rfl) (by decide) ?_
 refine Zl ?_
 refine VC.cond_dec rfl (fun h14 => ?_) (fun h14 => ?_)
 ·
  replace hS := it_t h14 hS
  refine Zk ?_
  refine Zq (Zb (Zq ?_))
  refine VC.draw ((List.range 9).map fun k => (k, true)) mixed (by kernel_rfl) (by kernel_rfl) (by kernel_rfl) ?_
  refine VD.q rfl (q_move rfl) (by decide) ?_
  refine VD.q rfl (q_move rfl) (by decide) ?_
  obtain ⟨z19_2, nz19_2, hz19_2, hS⟩ := at_s hS
  refine VD.q rfl (q_ixm (s := a_0) Tryz.underlying45 gsz133 rfl rfl nz19_2 (lt_of_get nz19_2 hz19_2)) (by decide) ?_
  refine VD.q rfl (q_els (s := a_0) gagg133 rfl rfl hz19_2) (by decide) ?_
  refine VD.q rfl (q_move rfl) (by decide) ?_
  refine VD.q rfl (q_move rfl) (by decide) ?_
  obtain ⟨z23_3, nz23_3, hz23_3, hS⟩ := at_s hS
  refine VD.q rfl (q_ixm (s := b_1) Tryz.underlying45 gsz133 rfl rfl nz23_3 (lt_of_get nz23_3 hz23_3)) (by decide) ?_
  refine VD.q rfl (q_els (s := b_1) gagg133 rfl rfl hz23_3) (by decide) ?_
  refine VD.q rfl (q_stneq geqg133 (geqs133 z19_2.path z19_2.mode z19_2.data z23_3.path z23_3.mode z23_3.data) rfl rfl) (by decide) ?_
  refine VD.to (fun _ _ h => h) ?_
  refine VC.keep [0, 1, 5, 25] rfl ?_
  refine VC.cond_ndec rfl (fun h25 => ?_) (fun h25 => ?_)
  ·
   replace hS := it_f h25 hS
   refine Zq (Zr ?_)
   refine Za ?_
   refine Zl ?_
   replace hS := up2 hS hK1
   cases hS
   exact Ze
  replace hS := it_t h25 hS
  refine Zk ?_
  refine Zr ?_
  refine Zm ?_
  obtain ⟨b16, hS⟩ := gd_s hS
  refine VL.q (q_add rfl rfl b16) (by decide) ?_
  refine Za ?_
  refine VL.rnd (i5_1 + 1) [0, 1, 5] (fun _ _ h => h) (go2 hS hK1) rfl
 replace hS := it_f h14 hS
 replace hS := up2 hS hK1
 refine Zx ?_
 refine Zq (Zr ?_)
 refine Za ?_
 refine Zl ?_
 cases hS
 exact Ze
theorem index_Same_1_ct (x_0 : IndexEntry) (y_1 : IndexEntry) {r : Bool} (hS : Sh.index_Same_1 x_0 y_1 = some r) :
 Ct Tryz.prog 67 [.agg #[str x_0.path, i64 x_0.stage, i64 x_0.mode, str x_0.data, i64 x_0.time, i64 x_0.size], .agg #[str y_1.path, i64 y_1.stage, i64 y_1.mode, str y_1.data, i64 y_1.time, i64 y_1.size]] Mo.tt (Ow.emp) (X := Unit) (fun _ => .bool r) (fun _ => True) (fun _ => Mo.tt) (fun _ => Ow.emp) := by
 refine Ct.of Tryz.func67 rfl (by kernel_rfl) Tryz.ntmps67 (by simp) fun c => ?_
 unfold Sh.index_Same_1 at hS
 refine Zq (Zr ?_)
 refine VL.box (cs := [str x_0.path, i64 x_0.stage, i64 x_0.mode, str x_0.data, i64 x_0.time, i64 x_0.size]) rfl rfl (by decide) fun b2_1 => ?_
 refine VL.box (cs := [str y_1.path, i64 y_1.stage, i64 y_1.mode, str y_1.data, i64 y_1.time, i64 y_1.size]) rfl rfl (by decide) fun b3_2 => ?_
 refine Za ?_
 refine Zl ?_
 refine Zq (Zr ?_)
 refine VL.q (q_field gfa83_0 rfl) (by decide) ?_
 refine VL.q (q_fe gone9 rfl rfl) (by decide) ?_
 refine VL.q (q_field gfa83_0 rfl) (by decide) ?_
 refine VL.q (q_fe gone9 rfl rfl) (by decide) ?_
 refine Zs ?_
 refine Zm ?_
 refine VL.split_dec 10 rfl (fun h10 => ?_) (fun h10 => ?_)
 ·
  replace hS := it_t h10 hS
  refine VL.gy rfl rfl (q_field gfa83_1 rfl) (by decide) ?_
  refine VL.gy rfl rfl (q_fe gone3 rfl rfl) (by decide) ?_
  refine VL.gy rfl rfl (q_field gfa83_1 rfl) (by decide) ?_
  refine VL.gy rfl rfl (q_fe gone3 rfl rfl) (by decide) ?_
  refine VL.gy rfl rfl (q_eql rfl rfl) (by decide) ?_
  refine Zt ?_
  refine Zm ?_
  refine VL.split_dec 17 rfl (fun h17 => ?_) (fun h17 => ?_)
  ·
   replace hS := it_t h17 hS
   refine VL.gy rfl rfl (q_field gfa83_2 rfl) (by decide) ?_
   refine VL.gy rfl rfl (q_fe gone3 rfl rfl) (by decide) ?_
   refine VL.gy rfl rfl (q_field gfa83_2 rfl) (by decide) ?_
   refine VL.gy rfl rfl (q_fe gone3 rfl rfl) (by decide) ?_
   refine VL.gy rfl rfl (q_eql rfl rfl) (by decide) ?_
   refine Zt ?_
   refine Zm ?_
   refine VL.split_dec 24 rfl (fun h24 => ?_) (fun h24 => ?_)
   ·
    replace hS := it_t h24 hS
    refine VL.gy rfl rfl (q_field gfa83_3 rfl) (by decide) ?_
    refine VL.gy rfl rfl (q_fe gone9 rfl rfl) (by decide) ?_
    refine VL.gy rfl rfl (q_field gfa83_3 rfl) (by decide) ?_
    refine VL.gy rfl rfl (q_fe gone9 rfl rfl) (by decide) ?_
    refine VL.gy rfl rfl (q_seq rfl rfl) (by decide) ?_
    refine Zt ?_
    refine Za ?_
    refine Zl ?_
    refine VC.keep [4] rfl ?_
    cases hS
    exact Ze
   replace hS := it_f h24 hS
   refine Zn ?_
   refine Zn ?_
   refine Zn ?_
   refine Zn ?_
   refine Zn ?_
   refine Zf ?_
   refine Za ?_
   refine Zl ?_
   refine VC.keep [4] rfl ?_
   cases hS
   exact Ze
  replace hS := it_f h17 hS
  refine Zn ?_
  refine Zn ?_
  refine Zn ?_
  refine Zn ?_
  refine Zn ?_
  refine Zf ?_
  refine Zm ?_
  refine Zn ?_
  refine Zn ?_
  refine Zn ?_
  refine Zn ?_
  refine Zn ?_
  refine Zf ?_
  refine Za ?_
  refine Zl ?_
  refine VC.keep [4] rfl ?_
  cases hS
  exact Ze
 replace hS := it_f h10 hS
 refine Zn ?_
 refine Zn ?_
 refine Zn ?_
 refine Zn ?_
 refine Zn ?_
 refine Zf ?_
 refine Zm ?_
 refine Zn ?_
 refine Zn ?_
 refine Zn ?_
 refine Zn ?_
 refine Zn ?_
 refine Zf ?_
 refine Zm ?_
 refine Zn ?_
 refine Zn ?_
 refine Zn ?_
 refine Zn ?_
 refine Zn ?_
 refine Zf ?_
 refine Za ?_
 refine Zl ?_
 refine VC.keep [4] rfl ?_
 cases hS
 exact Ze
theorem slices_EqualFunc_index_Entry_index_Entry_index_Entry_index_Entry_ct (s1_0 : Sv IndexEntry) (s2_1 : Sv IndexEntry) {r : Bool} (hS : Sh.slices_EqualFunc_index_Entry_index_Entry_index_Entry_index_Entry s1_0.l s2_1.l = some r) :
 Ct Tryz.prog 66 [s1_0.val, s2_1.val, .func (.func 67) #[] #[]] (s1_0.ok.and s2_1.ok) (Ow.emp) (X := Unit) (fun _ => .bool r) (fun _ => True) (fun _ => Mo.tt) (fun _ => Ow.emp) := by
 refine Ct.of Tryz.func66 rfl (by kernel_rfl) Tryz.ntmps66 (by simp) fun c => ?_
 unfold Sh.slices_EqualFunc_index_Entry_index_Entry_index_Entry_index_Entry at hS
 refine Zq (Zr ?_)
 refine Za ?_
 refine Zl ?_
 refine Zq (Zq (Zr ?_))
 refine Zm ?_
 refine VL.q (q_ln (s := s1_0) Tryz.underlying29 rfl) (by decide) ?_
 refine Zm ?_
 refine VL.q (q_ln (s := s2_1) Tryz.underlying29 rfl) (by decide) ?_
 refine VL.q (q_neq rfl rfl) (by decide) ?_
 refine Zl ?_
 refine VC.cond_ndec rfl (fun h14 => ?_) (fun h14 => ?_)
 ·
  replace hS := it_f h14 hS
  refine Zq (Zr ?_)
  refine Za ?_
  refine Zl ?_
  cases hS
  exact Ze
 replace hS := it_t h14 hS
 refine Zk ?_
 refine Zq (Zq (Zr ?_))
 refine Zm ?_
 refine VL.q (q_ln (s := s1_0) Tryz.underlying29 rfl) (by decide) ?_
 refine Zm ?_
 refine Zl ?_
 refine VC.keep [1, 2, 15, 16, 17] rfl ?_
 refine Zb ?_
 refine VC.iter (S := Int) (fun (x17_1 : Int) => x17_1) (fun (x17_1 : Int) => [(1, s2_1.val), (2, .func (.func 67) #[] #[]), (15, s1_0.val), (16, i64 (s1_0.l.length : Int)), (17, i64 x17_1)]) (fun (x17_1 : Int) => Mo.tt) (fun (x17_1 : Int) => Ow.emp) 0 [1, 2, 15, 16, 17] hS rfl ?_
 clear hS
 rintro x17_1 m1 y1 hS hK1
 show VC _ _ _ _ _ [(1, s2_1.val), (2, .func (.func 67) #[] #[]), (15, s1_0.val), (16, i64 (s1_0.l.length : Int)), (17, i64 x17_1)] (Mo.and Mo.tt _) (Ow.emp)
 refine Zq (Zr ?_)
 refine VL.q (q_lss rfl rfl) (by decide) ?_
 refine Zl ?_
 refine Zq ?_
 refine VC.cond_dec rfl (fun h18 => ?_) (fun h18 => ?_)
 ·
  replace hS := it_t h18 hS
  refine Zk ?_
  refine Zq (Zb (Zq (Zr ?_)))
  refine Zm ?_
  obtain ⟨z20_2, nz20_2, hz20_2, hS⟩ := at_s hS
  refine VL.q (q_ixm (s := s1_0) Tryz.underlying29 gsz83 rfl rfl nz20_2 (lt_of_get nz20_2 hz20_2)) (by decide) ?_
  refine VL.q (q_els (s := s1_0) gagg83 rfl rfl hz20_2) (by decide) ?_
  refine VL.alloc (cs := [str [], i64 0, i64 0, str [], i64 0, i64 0]) (by kernel_rfl) (by decide) fun b8_3 => ?_
  refine Za ?_
  refine VL.store (vc := [str z20_2.path, i64 z20_2.stage, i64 z20_2.mode, str z20_2.data, i64 z20_2.time, i64 z20_2.size]) (cs' := [str z20_2.path, i64 z20_2.stage, i64 z20_2.mode, str z20_2.data, i64 z20_2.time, i64 z20_2.size]) rfl rfl rfl gsz83 rfl rfl (Nat.le_of_ble_eq_true rfl) rfl ?_
  refine Zl ?_
  refine Zq (Zr ?_)
  refine Zm ?_
  refine Zm ?_
  obtain ⟨z24_4, nz24_4, hz24_4, hS⟩ := at_s hS
  refine VL.q (q_ixm (s := s2_1) Tryz.underlying29 gsz83 rfl rfl nz24_4 (lt_of_get nz24_4 hz24_4)) (by decide) ?_
  refine VL.q (q_els (s := s2_1) gagg83 rfl rfl hz24_4) (by decide) ?_
  refine VL.alloc (cs := [str [], i64 0, i64 0, str [], i64 0, i64 0]) (by kernel_rfl) (by decide) fun b9_5 => ?_
  refine VL.store (vc := [str z24_4.path, i64 z24_4.stage, i64 z24_4.mode, str z24_4.data, i64 z24_4.time, i64 z24_4.size]) (cs' := [str z24_4.path, i64 z24_4.stage, i64 z24_4.mode, str z24_4.data, i64 z24_4.time, i64 z24_4.size]) rfl rfl rfl gsz83 rfl rfl (Nat.le_of_ble_eq_true rfl) rfl ?_
  refine Zl ?_
  refine VC.keep [1, 2, 15, 16, 17, 8, 9] rfl ?_
  refine Zq (Zr ?_)
  refine Zm ?_
  refine VL.q (q_fes gagg83 rfl rfl) (by decide) ?_
  refine VL.q (q_fes gagg83 rfl rfl) (by decide) ?_
  obtain ⟨y29_6, ey29_6, hS⟩ := bd_s hS
  refine VL.q (q_callV (index_Same_1_ct (⟨z20_2.path, z20_2.stage, z20_2.mode, z20_2.data, z20_2.time, z20_2.size⟩ : IndexEntry) (⟨z24_4.path, z24_4.stage, z24_4.mode, z24_4.data, z24_4.time, z24_4.size⟩ : IndexEntry) ey29_6) rfl rfl (fun _ _ => rfl)) (by decide) ?_
  refine VL.q (q_not rfl) (by decide) ?_
  refine Zl ?_
  refine VC.cond rfl (fun h30 => ?_) (fun h30 => ?_)
  ·
   replace hS := it_t h30 hS
   refine Zq (Zr ?_)
   refine Za ?_
   refine Zl ?_
   refine VC.keep [6] rfl ?_
   replace hS := up2 hS hK1
   cases hS
   exact Ze
  replace hS := it_b h30 hS
  refine Zk ?_
  refine VC.keep [1, 2, 15, 16, 17] rfl ?_
  refine Zr ?_
  obtain ⟨b31, hS⟩ := gd_s hS
  refine VL.q (q_add rfl rfl b31) (by decide) ?_
  refine Zm ?_
  refine VL.rnd (x17_1 + 1) [1, 2, 15, 16, 17] (fun _ _ h => h) (go2 hS hK1) rfl
 replace hS := it_f h18 hS
 replace hS := up2 hS hK1
 refine Zx ?_
 refine Zq (Zr ?_)
 refine Za ?_
 refine Zl ?_
 cases hS
 exact Ze
theorem index_Same_ct (a_0 : Sv IndexEntry) (b_1 : Sv IndexEntry) {r : Bool} (hS : Sh.index_Same a_0.l b_1.l = some r) :
 Ct Tryz.prog 18 [a_0.val, b_1.val] (a_0.ok.and b_1.ok) (Ow.emp) (X := Unit) (fun _ => .bool r) (fun _ => True) (fun _ => Mo.tt) (fun _ => Ow.emp) := by
 refine Ct.of Tryz.func18 rfl (by kernel_rfl) Tryz.ntmps18 (by simp) fun c => ?_
 unfold Sh.index_Same at hS
 refine Zq (Zr ?_)
 refine Za ?_
 refine Zl ?_
 refine Zq (Zr ?_)
 refine Zm ?_
 refine Zm ?_
 obtain ⟨y7_1, ey7_1, hS⟩ := bd_s hS
 refine VL.q (q_call (slices_EqualFunc_index_Entry_index_Entry_index_Entry_index_Entry_ct a_0 b_1 ey7_1) rfl (fun _ _ => rfl)) (by decide) ?_
 refine Za ?_
 refine Zl ?_
 cases hS
 exact Ze
theorem rectolaw20_PlanForces_ct (h_0 : Sv FilesFile) (to_1 : Sv FilesFile) (ix_2 : Sv IndexEntry) (w_3 : Sv FilesFile) {r : Bool} (hS : Sh.rectolaw20_PlanForces h_0.l to_1.l ix_2.l w_3.l = some r) :
 Ct Tryz.prog 5 [h_0.val, to_1.val, ix_2.val, w_3.val] (h_0.ok.and (to_1.ok.and (ix_2.ok.and w_3.ok))) (Ow.emp) (X := Unit) (fun _ => .bool r) (fun _ => True) (fun _ => Mo.tt) (fun _ => Ow.emp) := by
 refine Ct.of Tryz.func5 rfl (by kernel_rfl) Tryz.ntmps5 (by simp) fun c => ?_
 unfold Sh.rectolaw20_PlanForces at hS
 refine Zq (Zr ?_)
 refine Za ?_
 refine Zl ?_
 refine Zq (Zq (Zr ?_))
 obtain ⟨y16_1, ey16_1, hS⟩ := bd_s hS
 refine VL.q (q_call (rectolaw20_known_ct ey16_1) rfl (fun _ _ => rfl)) (by decide) ?_
 refine VL.q (q_not rfl) (by decide) ?_
 refine Zl ?_
 refine VC.cond rfl (fun h17 => ?_) (fun h17 => ?_)
 ·
  replace hS := it_t h17 hS
  refine Zq (Zr ?_)
  refine Za ?_
  refine Zl ?_
  cases hS
  exact Ze
 replace hS := it_b h17 hS
 refine Zk ?_
 refine Zq (Zq (Zr ?_))
 refine Zm ?_
 refine Zm ?_
 refine VL.q (q_build (vs := [(0, to_1.val)]) (cs := #[to_1.val, .slice none 0 0, .slice none 0 0]) rfl (by kernel_rfl)) (by decide) ?_
 refine Zm ?_
 refine Zm ?_
 obtain ⟨y23_2, ey23_2, hS⟩ := bd_s hS
 refine VL.q (q_call (rectolaw20_Few_ct h_0 (⟨to_1, ⟨none, 0, []⟩, ⟨none, 0, []⟩⟩ : TmergeResult) ix_2 w_3 ey23_2) rfl (fun _ _ => rfl)) (by decide) ?_
 refine VL.q (q_not rfl) (by decide) ?_
 refine Zl ?_
 refine VC.keep [0, 1, 2, 3, 24] rfl ?_
 refine VC.cond rfl (fun h24 => ?_) (fun h24 => ?_)
 ·
  replace hS := it_t h24 hS
  refine Zq (Zr ?_)
  refine Za ?_
  refine Zl ?_
  cases hS
  exact Ze
 replace hS := it_b h24 hS
 refine Zk ?_
 refine Zq (Zr ?_)
 refine Zm ?_
 refine Zm ?_
 refine Zm ?_
 refine Zm ?_
 obtain ⟨y30_3, ey30_3, hS⟩ := bd_s hS
 refine VL.callF (plan_Force_ct h_0 to_1 ix_2 w_3 ey30_3) rfl (by decide) ?_
 rintro ⟨q30_3_0, q30_3_1⟩ rfl
 try dsimp only
 refine Zm ?_
 refine VL.q (q_extract rfl rfl) (by decide) ?_
 refine VL.q (q_extract rfl rfl) (by decide) ?_
 refine Za ?_
 refine Za ?_
 refine Zl ?_
 refine VC.keep [0, 1, 2, 3, 9, 10] rfl ?_
 refine Zq (Zr ?_)
 refine Zm ?_
 obtain ⟨y35_4, ey35_4, hS⟩ := bd_s hS
 refine VL.callO (rectolaw14_Of_ct h_0 ey35_4) rfl (by decide) ?_
 rintro q35_4_0 rfl
 try dsimp only
 refine Zm ?_
 obtain ⟨y37_5, ey37_5, hS⟩ := bd_s hS
 refine VL.callO (rectolaw14_Of_ct to_1 ey37_5) rfl (by decide) ?_
 rintro q37_5_0 rfl
 try dsimp only
 refine Zm ?_
 obtain ⟨y39_6, ey39_6, hS⟩ := bd_s hS
 refine VL.callO (rectolaw15_Of_ct ix_2 ey39_6) rfl (by decide) ?_
 rintro q39_6_0 rfl
 try dsimp only
 refine Zm ?_
 obtain ⟨y41_7, ey41_7, hS⟩ := bd_s hS
 refine VL.callO (rectolaw14_Of_ct w_3 ey41_7) rfl (by decide) ?_
 rintro q41_7_0 rfl
 try dsimp only
 refine VL.shut q35_4_0 133 (fun _ _ _ _ => trivial) ?_
 refine VL.shut q37_5_0 133 (fun _ _ _ _ => trivial) ?_
 refine VL.shut q39_6_0 122 (fun _ _ _ _ => trivial) ?_
 refine VL.shut q41_7_0 133 (fun _ _ _ _ => trivial) ?_
 obtain ⟨y42_8, ey42_8, hS⟩ := bd_s hS
 refine VL.callO (rectoref14_Force_ct q35_4_0 q37_5_0 q39_6_0 q41_7_0 ey42_8) rfl (by decide) ?_
 rintro ⟨q42_8_0, q42_8_1⟩ rfl
 try dsimp only
 refine Zm ?_
 refine VL.q (q_extract rfl rfl) (by decide) ?_
 refine VL.q (q_extract rfl rfl) (by decide) ?_
 refine Za ?_
 refine Za ?_
 refine Zl ?_
 refine VC.keep [1, 9, 10, 11, 12] rfl ?_
 refine Zq ?_
 refine VC.cutJ (S := Bool) (fun (x55_9 : Bool) => x55_9) (fun (x55_9 : Bool) => [(1, to_1.val), (9, q30_3_0.val), (10, q30_3_1.val), (55, .bool x55_9)]) (fun (x55_9 : Bool) => Mo.tt) (fun (x55_9 : Bool) => Ow.emp) hS ?_ ?_
 ·
  clear hS
  intro k10 hS
  refine Zr ?_
  refine Zm ?_
  refine Zm ?_
  obtain ⟨y47_11, ey47_11, hS⟩ := bd_s hS
  refine VL.q (q_callR (rectolaw15_All_ct q30_3_0 q42_8_0 ey47_11) rfl (fun _ _ => rfl)) (by decide) ?_
  refine VL.q (q_not rfl) (by decide) ?_
  refine Zm ?_
  refine VL.split 49 rfl (fun h49 => ?_) (fun h49 => ?_)
  ·
   replace hS := it_t h49 hS
   refine Zn ?_
   refine Zn ?_
   refine Zn ?_
   refine Zn ?_
   refine Zn ?_
   refine Zt ?_
   refine VL.mt true [1, 9, 10, 55] (fun _ _ h => h) hS rfl
  replace hS := it_b h49 hS
  refine Zg ?_
  refine VL.guard rfl rfl ?_
  obtain ⟨y51_12, ey51_12, hS⟩ := bd_s hS
  refine VL.callO (rectolaw14_Of_ct q30_3_1 ey51_12) rfl (by decide) ?_
  rintro q51_12_0 rfl
  try dsimp only
  refine Zg ?_
  obtain ⟨y53_13, ey53_13, hS⟩ := bd_s hS
  refine VL.gy rfl rfl (q_callR (rectoref14_Same_ct q51_12_0 q42_8_1 ey53_13) rfl (fun _ _ => rfl)) (by decide) ?_
  refine VL.gy rfl rfl (q_not rfl) (by decide) ?_
  refine Zf ?_
  refine VL.mt (!y53_13) [1, 9, 10, 55] (fun _ _ h => h) hS rfl
 clear hS
 rintro x55_9 hS
 show VC _ _ _ _ _ [(1, to_1.val), (9, q30_3_0.val), (10, q30_3_1.val), (55, .bool x55_9)] (Mo.and Mo.tt _) (Ow.emp)
 refine VC.cond rfl (fun h55 => ?_) (fun h55 => ?_)
 ·
  replace hS := it_t h55 hS
  refine Zq (Zr ?_)
  refine Za ?_
  refine Zl ?_
  cases hS
  exact Ze
 replace hS := it_b h55 hS
 refine Zk ?_
 refine Zq (Zq (Zr ?_))
 refine Za ?_
 refine Zl ?_
 refine Zb ?_
 refine VC.iter (S := Int) (fun (i13_14 : Int) => i13_14) (fun (i13_14 : Int) => [(1, to_1.val), (9, q30_3_0.val), (10, q30_3_1.val), (13, i64 i13_14)]) (fun (i13_14 : Int) => Mo.tt) (fun (i13_14 : Int) => Ow.emp) 0 [1, 9, 10, 13] hS rfl ?_
 clear hS
 rintro i13_14 m1 y1 hS hK1
 show VC _ _ _ _ _ [(1, to_1.val), (9, q30_3_0.val), (10, q30_3_1.val), (13, i64 i13_14)] (Mo.and Mo.tt _) (Ow.emp)
 refine Zq (Zq (Zr ?_))
 refine Zm ?_
 refine Zm ?_
 refine VL.q (q_ln (s := to_1) Tryz.underlying23 rfl) (by decide) ?_
 refine VL.q (q_lss rfl rfl) (by decide) ?_
 refine Zl ?_
 refine VC.cond_dec rfl (fun h59 => ?_) (fun h59 => ?_)
 ·
  replace hS := it_t h59 hS
  refine Zk ?_
  refine Zq (Zb (Zq (Zr ?_)))
  refine Zm ?_
  refine Zm ?_
  refine Zm ?_
  obtain ⟨z66_15, nz66_15, hz66_15, hS⟩ := at_s hS
  refine VL.q (q_ixm (s := to_1) Tryz.underlying23 gsz50 rfl rfl nz66_15 (lt_of_get nz66_15 hz66_15)) (by decide) ?_
  refine VL.q (q_field gfa50_0 rfl) (by decide) ?_
  refine VL.q (q_elf (s := to_1) gone9 rfl hz66_15 rfl) (by decide) ?_
  obtain ⟨y69_16, ey69_16, hS⟩ := bd_s hS
  refine VL.q (q_call (files_Row_Get_ct q30_3_1 z66_15.path ey69_16) rfl (fun _ _ => rfl)) (by decide) ?_
  refine Zm ?_
  refine VL.q (q_extract rfl rfl) (by decide) ?_
  refine VL.q (q_extract rfl rfl) (by decide) ?_
  refine VL.alloc (cs := [str [], i64 0, str []]) (by kernel_rfl) (by decide) fun b14_17 => ?_
  refine VL.store (vc := [str y69_16.1.path, i64 y69_16.1.mode, str y69_16.1.data]) (cs' := [str y69_16.1.path, i64 y69_16.1.mode, str y69_16.1.data]) rfl rfl rfl gsz50 rfl rfl (Nat.le_of_ble_eq_true rfl) rfl ?_
  refine Za ?_
  refine Zl ?_
  refine VC.keep [1, 9, 10, 13, 14, 15] rfl ?_
  refine VC.cutJ (S := Bool) (fun (x81_18 : Bool) => x81_18) (fun (x81_18 : Bool) => [(1, to_1.val), (9, q30_3_0.val), (10, q30_3_1.val), (13, i64 i13_14), (81, .bool x81_18)]) (fun (x81_18 : Bool) => Mo.tt) (fun (x81_18 : Bool) => Ow.star (Blk b14_17 [str y69_16.1.path, i64 y69_16.1.mode, str y69_16.1.data] 50) (Ow.emp)) hS ?_ ?_
  ·
   clear hS
   intro k19 hS
   refine VC.draw ((List.range 10).map fun k => (k, true)) mixed (by kernel_rfl) (by kernel_rfl) (by kernel_rfl) ?_
   refine VD.q rfl (q_move rfl) (by decide) ?_
   refine VD.q rfl (q_not rfl) (by decide) ?_
   refine VD.q rfl (q_move rfl) (by decide) ?_
   refine VD.split 74 rfl (fun h74 => ?_) (fun h74 => ?_)
   ·
    replace hS := it_t h74 hS
    refine Zd ?_
    refine Zd ?_
    refine Zd ?_
    refine Zd ?_
    refine Zd ?_
    refine Zd ?_
    refine VD.q rfl (q_pick_t rfl rfl) (by decide) ?_
    refine VD.mt true [1, 9, 10, 13, 81] (fun _ _ h => h) hS rfl
   replace hS := it_b h74 hS
   refine VD.gy rfl rfl rfl (q_fes gagg50 rfl rfl) (by decide) ?_
   refine VD.gy rfl rfl rfl (q_move rfl) (by decide) ?_
   refine VD.gy rfl rfl rfl (q_move rfl) (by decide) ?_
   obtain ⟨z78_20, nz78_20, hz78_20, hS⟩ := at_s hS
   refine VD.gy rfl rfl rfl (q_ixm (s := to_1) Tryz.underlying23 gsz50 rfl rfl nz78_20 (lt_of_get nz78_20 hz78_20)) (by decide) ?_
   refine VD.gy rfl rfl rfl (q_els (s := to_1) gagg50 rfl rfl hz78_20) (by decide) ?_
   refine VD.gy rfl rfl rfl (q_stneq geqg50 (geqs50 y69_16.1.path y69_16.1.mode y69_16.1.data z78_20.path z78_20.mode z78_20.data) rfl rfl) (by decide) ?_
   refine VD.q rfl (q_pick_f rfl rfl) (by decide) ?_
   refine VD.mt (!decide (y69_16.1.path = z78_20.path ∧ y69_16.1.mode = z78_20.mode ∧ y69_16.1.data = z78_20.data)) [1, 9, 10, 13, 81] (fun _ _ h => h) hS rfl
  clear hS
  rintro x81_18 hS
  show VC _ _ _ _ _ [(1, to_1.val), (9, q30_3_0.val), (10, q30_3_1.val), (13, i64 i13_14), (81, .bool x81_18)] (Mo.and Mo.tt _) (Ow.star (Blk b14_17 [str y69_16.1.path, i64 y69_16.1.mode, str y69_16.1.data] 50) (Ow.emp))
  refine VC.cond rfl (fun h81 => ?_) (fun h81 => ?_)
  ·
   replace hS := it_t h81 hS
   refine Zq (Zr ?_)
   refine Za ?_
   refine Zl ?_
   replace hS := up2 hS hK1
   cases hS
   exact Ze
  replace hS := it_b h81 hS
  refine Zk ?_
  refine Zr ?_
  refine Zm ?_
  obtain ⟨b61, hS⟩ := gd_s hS
  refine VL.q (q_add rfl rfl b61) (by decide) ?_
  refine Za ?_
  refine VL.rnd (i13_14 + 1) [1, 9, 10, 13] (fun _ _ h => h) (go2 hS hK1) rfl
 replace hS := it_f h59 hS
 replace hS := up2 hS hK1
 refine Zx ?_
 refine Zq (Zr ?_)
 refine Zm ?_
 refine Zm ?_
 obtain ⟨y84_21, ey84_21, hS⟩ := bd_s hS
 refine VL.callF (index_Of_ct to_1 ey84_21) rfl (by decide) ?_
 rintro q84_21_0 rfl
 try dsimp only
 obtain ⟨y85_22, ey85_22, hS⟩ := bd_s hS
 refine VL.q (q_call (index_Same_ct q30_3_0 q84_21_0 ey85_22) rfl (fun _ _ => rfl)) (by decide) ?_
 refine Za ?_
 refine Zl ?_
 refine VC.keep [8] rfl ?_
 cases hS
 exact Ze
theorem slices_Equal_files_Row_files_File_ct (s1_0 : Sv FilesFile) (s2_1 : Sv FilesFile) {r : Bool} (hS : Sh.slices_Equal_files_Row_files_File s1_0.l s2_1.l = some r) :
 Ct Tryz.prog 65 [s1_0.val, s2_1.val] (s1_0.ok.and s2_1.ok) (Ow.emp) (X := Unit) (fun _ => .bool r) (fun _ => True) (fun _ => Mo.tt) (fun _ => Ow.emp) := by
 refine Ct.of Tryz.func65 rfl (by kernel_rfl) Tryz.ntmps65 (by simp) fun c => ?_
 unfold Sh.slices_Equal_files_Row_files_File at hS
 refine Zq (Zr ?_)
 refine Za ?_
 refine Zl ?_
 refine Zq (Zq (Zr ?_))
 refine Zm ?_
 refine VL.q (q_ln (s := s1_0) Tryz.underlying23 rfl) (by decide) ?_
 refine Zm ?_
 refine VL.q (q_ln (s := s2_1) Tryz.underlying23 rfl) (by decide) ?_
 refine VL.q (q_neq rfl rfl) (by decide) ?_
 refine Zl ?_
 refine VC.cond_ndec rfl (fun h10 => ?_) (fun h10 => ?_)
 ·
  replace hS := it_f h10 hS
  refine Zq (Zr ?_)
  refine Za ?_
  refine Zl ?_
  cases hS
  exact Ze
 replace hS := it_t h10 hS
 refine Zk ?_
 refine Zq (Zq (Zr ?_))
 refine Zm ?_
 refine VL.q (q_ln (s := s1_0) Tryz.underlying23 rfl) (by decide) ?_
 refine Zm ?_
 refine Zl ?_
 refine VC.keep [0, 1, 12, 13] rfl ?_
 refine Zb ?_
 refine VC.iter (S := Int) (fun (x13_1 : Int) => x13_1) (fun (x13_1 : Int) => [(0, s1_0.val), (1, s2_1.val), (12, i64 (s1_0.l.length : Int)), (13, i64 x13_1)]) (fun (x13_1 : Int) => Mo.tt) (fun (x13_1 : Int) => Ow.emp) 0 [0, 1, 12, 13] hS rfl ?_
 clear hS
 rintro x13_1 m1 y1 hS hK1
 show VC _ _ _ _ _ [(0, s1_0.val), (1, s2_1.val), (12, i64 (s1_0.l.length : Int)), (13, i64 x13_1)] (Mo.and Mo.tt _) (Ow.emp)
 refine Zq (Zr ?_)
 refine VL.q (q_lss rfl rfl) (by decide) ?_
 refine Zl ?_
 refine Zq ?_
 refine VC.cond_dec rfl (fun h14 => ?_) (fun h14 => ?_)
 ·
  replace hS := it_t h14 hS
  refine Zk ?_
  refine Zq (Zb (Zq (Zr ?_)))
  refine Zm ?_
  refine Za ?_
  refine Zl ?_
  refine Zq ?_
  refine VC.draw ((List.range 9).map fun k => (k, true)) mixed (by kernel_rfl) (by kernel_rfl) (by kernel_rfl) ?_
  refine VD.q rfl (q_move rfl) (by decide) ?_
  refine VD.q rfl (q_move rfl) (by decide) ?_
  obtain ⟨z18_2, nz18_2, hz18_2, hS⟩ := at_s hS
  refine VD.q rfl (q_ixm (s := s1_0) Tryz.underlying23 gsz50 rfl rfl nz18_2 (lt_of_get nz18_2 hz18_2)) (by decide) ?_
  refine VD.q rfl (q_els (s := s1_0) gagg50 rfl rfl hz18_2) (by decide) ?_
  refine VD.q rfl (q_move rfl) (by decide) ?_
  refine VD.q rfl (q_move rfl) (by decide) ?_
  obtain ⟨z22_3, nz22_3, hz22_3, hS⟩ := at_s hS
  refine VD.q rfl (q_ixm (s := s2_1) Tryz.underlying23 gsz50 rfl rfl nz22_3 (lt_of_get nz22_3 hz22_3)) (by decide) ?_
  refine VD.q rfl (q_els (s := s2_1) gagg50 rfl rfl hz22_3) (by decide) ?_
  refine VD.q rfl (q_stneq geqg50 (geqs50 z18_2.path z18_2.mode z18_2.data z22_3.path z22_3.mode z22_3.data) rfl rfl) (by decide) ?_
  refine VD.to (fun _ _ h => h) ?_
  refine VC.keep [0, 1, 12, 13, 24] rfl ?_
  refine VC.cond_ndec rfl (fun h24 => ?_) (fun h24 => ?_)
  ·
   replace hS := it_f h24 hS
   refine Zq (Zr ?_)
   refine Za ?_
   refine Zl ?_
   replace hS := up2 hS hK1
   cases hS
   exact Ze
  replace hS := it_t h24 hS
  refine Zk ?_
  refine Zr ?_
  obtain ⟨b25, hS⟩ := gd_s hS
  refine VL.q (q_add rfl rfl b25) (by decide) ?_
  refine Zm ?_
  refine VL.rnd (x13_1 + 1) [0, 1, 12, 13] (fun _ _ h => h) (go2 hS hK1) rfl
 replace hS := it_f h14 hS
 replace hS := up2 hS hK1
 refine Zx ?_
 refine Zq (Zr ?_)
 refine Za ?_
 refine Zl ?_
 cases hS
 exact Ze
theorem files_Row_Same_ct (r_0 : Sv FilesFile) (q_1 : Sv FilesFile) {r : Bool} (hS : Sh.files_Row_Same r_0.l q_1.l = some r) :
 Ct Tryz.prog 17 [r_0.val, q_1.val] (r_0.ok.and q_1.ok) (Ow.emp) (X := Unit) (fun _ => .bool r) (fun _ => True) (fun _ => Mo.tt) (fun _ => Ow.emp) := by
 refine Ct.of Tryz.func17 rfl (by kernel_rfl) Tryz.ntmps17 (by simp) fun c => ?_
 unfold Sh.files_Row_Same at hS
 refine Zq (Zr ?_)
 refine Za ?_
 refine Zl ?_
 refine Zq (Zr ?_)
 refine Zm ?_
 refine Zm ?_
 obtain ⟨y7_1, ey7_1, hS⟩ := bd_s hS
 refine VL.q (q_call (slices_Equal_files_Row_files_File_ct r_0 q_1 ey7_1) rfl (fun _ _ => rfl)) (by decide) ?_
 refine Za ?_
 refine Zl ?_
 cases hS
 exact Ze
theorem rectolaw20_PlanClean_ct (a_0 : Sv FilesFile) (b_1 : Sv FilesFile) {r : Bool} (hS : Sh.rectolaw20_PlanClean a_0.l b_1.l = some r) :
 Ct Tryz.prog 3 [a_0.val, b_1.val] (a_0.ok.and b_1.ok) (Ow.emp) (X := Unit) (fun _ => .bool r) (fun _ => True) (fun _ => Mo.tt) (fun _ => Ow.emp) := by
 refine Ct.of Tryz.func3 rfl (by kernel_rfl) Tryz.ntmps3 (by simp) fun c => ?_
 unfold Sh.rectolaw20_PlanClean at hS
 refine Zq (Zr ?_)
 refine Za ?_
 refine Zl ?_
 refine Zq (Zq (Zr ?_))
 obtain ⟨y10_1, ey10_1, hS⟩ := bd_s hS
 refine VL.q (q_call (rectolaw20_known_ct ey10_1) rfl (fun _ _ => rfl)) (by decide) ?_
 refine VL.q (q_not rfl) (by decide) ?_
 refine Zl ?_
 refine VC.cond rfl (fun h11 => ?_) (fun h11 => ?_)
 ·
  replace hS := it_t h11 hS
  refine Zq (Zr ?_)
  refine Za ?_
  refine Zl ?_
  cases hS
  exact Ze
 replace hS := it_b h11 hS
 refine Zk ?_
 refine Zq ?_
 refine VC.cutJ (S := Bool) (fun (x29_2 : Bool) => x29_2) (fun (x29_2 : Bool) => [(0, a_0.val), (1, b_1.val), (29, .bool x29_2)]) (fun (x29_2 : Bool) => Mo.tt) (fun (x29_2 : Bool) => Ow.emp) hS ?_ ?_
 ·
  clear hS
  intro k3 hS
  refine Zr ?_
  refine Zm ?_
  obtain ⟨y13_4, ey13_4, hS⟩ := bd_s hS
  refine VL.q (q_call (rectolaw14_Few_ct a_0 ey13_4) rfl (fun _ _ => rfl)) (by decide) ?_
  refine VL.q (q_not rfl) (by decide) ?_
  refine Zm ?_
  refine VL.split 15 rfl (fun h15 => ?_) (fun h15 => ?_)
  ·
   replace hS := it_t h15 hS
   refine Zn ?_
   refine Zn ?_
   refine Zn ?_
   refine Zt ?_
   refine Zm ?_
   refine Zn ?_
   refine Zn ?_
   refine Zn ?_
   refine Zt ?_
   refine Zm ?_
   refine Zn ?_
   refine Zn ?_
   refine Zn ?_
   refine Zt ?_
   refine VL.mt true [0, 1, 29] (fun _ _ h => h) hS rfl
  replace hS := it_b h15 hS
  refine Zg ?_
  obtain ⟨y17_5, ey17_5, hS⟩ := bd_s hS
  refine VL.gy rfl rfl (q_call (rectolaw14_Few_ct b_1 ey17_5) rfl (fun _ _ => rfl)) (by decide) ?_
  refine VL.gy rfl rfl (q_not rfl) (by decide) ?_
  refine Zf ?_
  refine Zm ?_
  refine VL.split 20 rfl (fun h20 => ?_) (fun h20 => ?_)
  ·
   replace hS := it_t h20 hS
   refine Zn ?_
   refine Zn ?_
   refine Zn ?_
   refine Zt ?_
   refine Zm ?_
   refine Zn ?_
   refine Zn ?_
   refine Zn ?_
   refine Zt ?_
   refine VL.mt true [0, 1, 29] (fun _ _ h => h) hS rfl
  replace hS := it_b h20 hS
  refine Zg ?_
  refine VL.guard rfl rfl ?_
  obtain ⟨y22_6, ey22_6, hS⟩ := bd_s hS
  refine VL.callF (files_Row_Check_ct a_0 ey22_6) rfl (by decide) ?_
  rintro q22_6_0 rfl
  try dsimp only
  refine VL.gy rfl rfl (q_erne Tryz.underlying27 rfl) (by decide) ?_
  refine Zf ?_
  refine Zm ?_
  refine VL.split_ndec 25 rfl (fun h25 => ?_) (fun h25 => ?_)
  ·
   replace hS := it_f h25 hS
   refine Zn ?_
   refine Zn ?_
   refine Zn ?_
   refine Zt ?_
   refine VL.mt true [0, 1, 29] (fun _ _ h => h) hS rfl
  replace hS := it_t h25 hS
  refine Zg ?_
  refine VL.guard rfl rfl ?_
  obtain ⟨y27_7, ey27_7, hS⟩ := bd_s hS
  refine VL.callF (files_Row_Check_ct b_1 ey27_7) rfl (by decide) ?_
  rintro q27_7_0 rfl
  try dsimp only
  refine VL.gy rfl rfl (q_erne Tryz.underlying27 rfl) (by decide) ?_
  refine Zf ?_
  refine VL.mt (!decide (q27_7_0.pl.isNil = true)) [0, 1, 29] (fun _ _ h => h) hS rfl
 clear hS
 rintro x29_2 hS
 show VC _ _ _ _ _ [(0, a_0.val), (1, b_1.val), (29, .bool x29_2)] (Mo.and Mo.tt _) (Ow.emp)
 refine VC.cond rfl (fun h29 => ?_) (fun h29 => ?_)
 ·
  replace hS := it_t h29 hS
  refine Zq (Zr ?_)
  refine Za ?_
  refine Zl ?_
  cases hS
  exact Ze
 replace hS := it_b h29 hS
 refine Zk ?_
 refine Zq (Zr ?_)
 refine Zm ?_
 refine Zm ?_
 refine VL.q (q_build (vs := [(0, b_1.val)]) (cs := #[b_1.val, .slice none 0 0, .slice none 0 0]) rfl (by kernel_rfl)) (by decide) ?_
 refine Zm ?_
 obtain ⟨y35_8, ey35_8, hS⟩ := bd_s hS
 refine VL.callF (index_Of_ct a_0 ey35_8) rfl (by decide) ?_
 rintro q35_8_0 rfl
 try dsimp only
 refine Zm ?_
 obtain ⟨y37_9, ey37_9, hS⟩ := bd_s hS
 refine VL.callF (plan_Apply_ct a_0 (⟨b_1, ⟨none, 0, []⟩, ⟨none, 0, []⟩⟩ : TmergeResult) q35_8_0 a_0 ey37_9) rfl (by decide) ?_
 rintro ⟨q37_9_0, q37_9_1, q37_9_2⟩ rfl
 try dsimp only
 refine Zm ?_
 refine VL.q (q_extract rfl rfl) (by decide) ?_
 refine VL.q (q_extract rfl rfl) (by decide) ?_
 refine VL.q (q_extract rfl rfl) (by decide) ?_
 refine Za ?_
 refine Za ?_
 refine Za ?_
 refine Zl ?_
 refine VC.keep [0, 1, 5, 6, 7] rfl ?_
 refine Zq (Zr ?_)
 refine Zm ?_
 refine Zm ?_
 refine Zm ?_
 obtain ⟨y45_10, ey45_10, hS⟩ := bd_s hS
 refine VL.callF (index_Of_ct a_0 ey45_10) rfl (by decide) ?_
 rintro q45_10_0 rfl
 try dsimp only
 refine Zm ?_
 obtain ⟨y47_11, ey47_11, hS⟩ := bd_s hS
 refine VL.callF (plan_Force_ct a_0 b_1 q45_10_0 a_0 ey47_11) rfl (by decide) ?_
 rintro ⟨q47_11_0, q47_11_1⟩ rfl
 try dsimp only
 refine Zm ?_
 refine VL.q (q_extract rfl rfl) (by decide) ?_
 refine VL.q (q_extract rfl rfl) (by decide) ?_
 refine Za ?_
 refine Za ?_
 refine Zl ?_
 refine VC.keep [0, 1, 5, 6, 7, 8, 9] rfl ?_
 refine Zq (Zr ?_)
 refine Zm ?_
 refine VL.q (q_ereq Tryz.underlying27 rfl) (by decide) ?_
 refine Zm ?_
 refine VL.split_dec 52 rfl (fun h52 => ?_) (fun h52 => ?_)
 ·
  replace hS := it_t h52 hS
  refine Zg ?_
  refine Zg ?_
  obtain ⟨y55_12, ey55_12, hS⟩ := bd_s hS
  refine VL.gy rfl rfl (q_call (files_Row_Same_ct q37_9_1 b_1 ey55_12) rfl (fun _ _ => rfl)) (by decide) ?_
  refine Zt ?_
  refine Zm ?_
  refine VL.split 57 rfl (fun h57 => ?_) (fun h57 => ?_)
  ·
   replace hS := it_t h57 hS
   refine Zg ?_
   refine Zg ?_
   obtain ⟨y60_13, ey60_13, hS⟩ := bd_s hS
   refine VL.gy rfl rfl (q_call (files_Row_Same_ct q47_11_1 b_1 ey60_13) rfl (fun _ _ => rfl)) (by decide) ?_
   refine Zt ?_
   refine Zm ?_
   refine VL.split 62 rfl (fun h62 => ?_) (fun h62 => ?_)
   ·
    replace hS := it_t h62 hS
    refine Zg ?_
    refine Zg ?_
    refine VL.guard rfl rfl ?_
    obtain ⟨y65_14, ey65_14, hS⟩ := bd_s hS
    refine VL.callF (index_Of_ct b_1 ey65_14) rfl (by decide) ?_
    rintro q65_14_0 rfl
    try dsimp only
    obtain ⟨y66_15, ey66_15, hS⟩ := bd_s hS
    refine VL.gy rfl rfl (q_call (index_Same_ct q37_9_0 q65_14_0 ey66_15) rfl (fun _ _ => rfl)) (by decide) ?_
    refine Zt ?_
    refine Zm ?_
    refine VL.split 68 rfl (fun h68 => ?_) (fun h68 => ?_)
    ·
     replace hS := it_t h68 hS
     refine Zg ?_
     refine Zg ?_
     refine VL.guard rfl rfl ?_
     obtain ⟨y71_16, ey71_16, hS⟩ := bd_s hS
     refine VL.callF (index_Of_ct b_1 ey71_16) rfl (by decide) ?_
     rintro q71_16_0 rfl
     try dsimp only
     refine VL.guard rfl rfl ?_
     obtain ⟨y72_17, ey72_17, hS⟩ := bd_s hS
     refine VL.callO (rectolaw15_Of_ct q71_16_0 ey72_17) rfl (by decide) ?_
     rintro q72_17_0 rfl
     try dsimp only
     obtain ⟨y73_18, ey73_18, hS⟩ := bd_s hS
     refine VL.gy rfl rfl (q_callR (rectolaw15_All_ct q47_11_0 q72_17_0 ey73_18) rfl (fun _ _ => rfl)) (by decide) ?_
     refine Zt ?_
     refine Zm ?_
     refine VL.split 75 rfl (fun h75 => ?_) (fun h75 => ?_)
     ·
      replace hS := it_t h75 hS
      refine Zg ?_
      refine Zg ?_
      refine VL.gy rfl rfl (q_build (vs := [(0, b_1.val)]) (cs := #[b_1.val, .slice none 0 0, .slice none 0 0]) rfl (by kernel_rfl)) (by decide) ?_
      refine Zg ?_
      refine VL.guard rfl rfl ?_
      obtain ⟨y80_19, ey80_19, hS⟩ := bd_s hS
      refine VL.callF (index_Of_ct a_0 ey80_19) rfl (by decide) ?_
      rintro q80_19_0 rfl
      try dsimp only
      refine Zg ?_
      refine VL.guard rfl rfl ?_
      obtain ⟨y82_20, ey82_20, hS⟩ := bd_s hS
      refine VL.callF (plan_Lost_ct a_0 (⟨b_1, ⟨none, 0, []⟩, ⟨none, 0, []⟩⟩ : TmergeResult) q80_19_0 a_0 ey82_20) rfl (by decide) ?_
      rintro q82_20_0 rfl
      try dsimp only
      refine VL.gy rfl rfl (q_ln (s := q82_20_0) Tryz.underlying32 rfl) (by decide) ?_
      refine VL.gy rfl rfl (q_eql rfl rfl) (by decide) ?_
      refine Zt ?_
      refine Za ?_
      refine Zl ?_
      refine VC.keep [4] rfl ?_
      cases hS
      exact Ze
     replace hS := it_b h75 hS
     refine Zn ?_
     refine Zn ?_
     refine Zn ?_
     refine Zn ?_
     refine Zn ?_
     refine Zn ?_
     refine Zn ?_
     refine Zn ?_
     refine Zn ?_
     refine Zf ?_
     refine Za ?_
     refine Zl ?_
     refine VC.keep [4] rfl ?_
     cases hS
     exact Ze
    replace hS := it_b h68 hS
    refine Zn ?_
    refine Zn ?_
    refine Zn ?_
    refine Zn ?_
    refine Zn ?_
    refine Zf ?_
    refine Zm ?_
    refine Zn ?_
    refine Zn ?_
    refine Zn ?_
    refine Zn ?_
    refine Zn ?_
    refine Zn ?_
    refine Zn ?_
    refine Zn ?_
    refine Zn ?_
    refine Zf ?_
    refine Za ?_
    refine Zl ?_
    refine VC.keep [4] rfl ?_
    cases hS
    exact Ze
   replace hS := it_b h62 hS
   refine Zn ?_
   refine Zn ?_
   refine Zn ?_
   refine Zn ?_
   refine Zf ?_
   refine Zm ?_
   refine Zn ?_
   refine Zn ?_
   refine Zn ?_
   refine Zn ?_
   refine Zn ?_
   refine Zf ?_
   refine Zm ?_
   refine Zn ?_
   refine Zn ?_
   refine Zn ?_
   refine Zn ?_
   refine Zn ?_
   refine Zn ?_
   refine Zn ?_
   refine Zn ?_
   refine Zn ?_
   refine Zf ?_
   refine Za ?_
   refine Zl ?_
   refine VC.keep [4] rfl ?_
   cases hS
   exact Ze
  replace hS := it_b h57 hS
  refine Zn ?_
  refine Zn ?_
  refine Zn ?_
  refine Zf ?_
  refine Zm ?_
  refine Zn ?_
  refine Zn ?_
  refine Zn ?_
  refine Zn ?_
  refine Zf ?_
  refine Zm ?_
  refine Zn ?_
  refine Zn ?_
  refine Zn ?_
  refine Zn ?_
  refine Zn ?_
  refine Zf ?_
  refine Zm ?_
  refine Zn ?_
  refine Zn ?_
  refine Zn ?_
  refine Zn ?_
  refine Zn ?_
  refine Zn ?_
  refine Zn ?_
  refine Zn ?_
  refine Zn ?_
  refine Zf ?_
  refine Za ?_
  refine Zl ?_
  refine VC.keep [4] rfl ?_
  cases hS
  exact Ze
 replace hS := it_f h52 hS
 refine Zn ?_
 refine Zn ?_
 refine Zn ?_
 refine Zf ?_
 refine Zm ?_
 refine Zn ?_
 refine Zn ?_
 refine Zn ?_
 refine Zf ?_
 refine Zm ?_
 refine Zn ?_
 refine Zn ?_
 refine Zn ?_
 refine Zn ?_
 refine Zf ?_
 refine Zm ?_
 refine Zn ?_
 refine Zn ?_
 refine Zn ?_
 refine Zn ?_
 refine Zn ?_
 refine Zf ?_
 refine Zm ?_
 refine Zn ?_
 refine Zn ?_
 refine Zn ?_
 refine Zn ?_
 refine Zn ?_
 refine Zn ?_
 refine Zn ?_
 refine Zn ?_
 refine Zn ?_
 refine Zf ?_
 refine Za ?_
 refine Zl ?_
 refine VC.keep [4] rfl ?_
 cases hS
 exact Ze
theorem rectoref14_Get_ct (r_0 : Sv Rectoref14File) (p_1 : Str) {r : Rectoref14File × Bool} (hS : Sh.rectoref14_Get r_0.l p_1 = some r) :
 Ct Tryz.prog 79 [r_0.val, str p_1] r_0.ok (Ow.emp) (X := Unit) (fun _ => .tuple #[.agg #[str r.1.path, i64 r.1.mode, str r.1.data], .bool r.2]) (fun _ => True) (fun _ => Mo.tt) (fun _ => Ow.emp) := by
 refine Ct.of Tryz.func79 rfl (by kernel_rfl) Tryz.ntmps79 (by simp) fun c => ?_
 unfold Sh.rectoref14_Get at hS
 refine Zq (Zr ?_)
 refine VL.alloc (cs := [str [], i64 0, str []]) (by kernel_rfl) (by decide) fun b4_1 => ?_
 refine Za ?_
 refine Zl ?_
 refine Zq (Zq (Zr ?_))
 refine Za ?_
 refine Zl ?_
 refine Zb ?_
 refine VC.iter (S := Int) (fun (i6_2 : Int) => i6_2) (fun (i6_2 : Int) => [(0, r_0.val), (1, str p_1), (4, ptr b4_1 0), (6, i64 i6_2)]) (fun (i6_2 : Int) => Mo.tt) (fun (i6_2 : Int) => Ow.star (Blk b4_1 [str [], i64 0, str []] 133) (Ow.emp)) 0 [0, 1, 4, 6] hS rfl ?_
 clear hS
 rintro i6_2 m1 y1 hS hK1
 show VC _ _ _ _ _ [(0, r_0.val), (1, str p_1), (4, ptr b4_1 0), (6, i64 i6_2)] (Mo.and Mo.tt _) (Ow.star (Blk b4_1 [str [], i64 0, str []] 133) (Ow.emp))
 refine Zq (Zq (Zr ?_))
 refine Zm ?_
 refine Zm ?_
 refine VL.q (q_ln (s := r_0) Tryz.underlying45 rfl) (by decide) ?_
 refine VL.q (q_lss rfl rfl) (by decide) ?_
 refine Zl ?_
 refine VC.cond_dec rfl (fun h10 => ?_) (fun h10 => ?_)
 ·
  replace hS := it_t h10 hS
  refine Zk ?_
  refine Zq (Zb (Zq (Zr ?_)))
  refine Zm ?_
  refine Zm ?_
  obtain ⟨z15_3, nz15_3, hz15_3, hS⟩ := at_s hS
  refine VL.q (q_ixm (s := r_0) Tryz.underlying45 gsz133 rfl rfl nz15_3 (lt_of_get nz15_3 hz15_3)) (by decide) ?_
  refine VL.q (q_field gfa133_0 rfl) (by decide) ?_
  refine VL.q (q_elf (s := r_0) gone9 rfl hz15_3 rfl) (by decide) ?_
  refine Zm ?_
  refine Zs ?_
  refine Zl ?_
  refine VC.keep [0, 1, 4, 6, 19] rfl ?_
  refine VC.cond_dec rfl (fun h19 => ?_) (fun h19 => ?_)
  ·
   replace hS := it_t h19 hS
   refine Zq (Zr ?_)
   refine Zm ?_
   refine Zm ?_
   obtain ⟨z22_4, nz22_4, hz22_4, hS⟩ := at_s hS
   refine VL.q (q_ixm (s := r_0) Tryz.underlying45 gsz133 rfl rfl nz22_4 (lt_of_get nz22_4 hz22_4)) (by decide) ?_
   refine VL.q (q_els (s := r_0) gagg133 rfl rfl hz22_4) (by decide) ?_
   refine VL.store (vc := [str z22_4.path, i64 z22_4.mode, str z22_4.data]) (cs' := [str z22_4.path, i64 z22_4.mode, str z22_4.data]) rfl rfl rfl gsz133 rfl rfl (Nat.le_of_ble_eq_true rfl) rfl ?_
   refine Za ?_
   refine Zl ?_
   replace hS := up2 hS hK1
   cases hS
   exact VC.ret (finG (vs := [.agg #[str z22_4.path, i64 z22_4.mode, str z22_4.data], .bool true]) (.inr rfl) rfl (RVs.cell gagg133 rfl rfl Rd.blk (RVs.tmp rfl (RVs.nil))) () rfl trivial (by (try dsimp only); exact InM.out) (fun _ _ => trivial))
  replace hS := it_f h19 hS
  refine Zk ?_
  refine Zr ?_
  refine Zm ?_
  obtain ⟨b12, hS⟩ := gd_s hS
  refine VL.q (q_add rfl rfl b12) (by decide) ?_
  refine Za ?_
  refine VL.rnd (i6_2 + 1) [0, 1, 4, 6] (fun _ _ h => h) (go2 hS hK1) rfl
 replace hS := it_f h10 hS
 replace hS := up2 hS hK1
 refine Zx ?_
 refine Zq (Zr ?_)
 refine VL.q (q_build (vs := []) (cs := #[str [], i64 0, str []]) rfl (by kernel_rfl)) (by decide) ?_
 refine VL.store (vc := [str [], i64 0, str []]) (cs' := [str [], i64 0, str []]) rfl rfl rfl gsz133 rfl rfl (Nat.le_of_ble_eq_true rfl) rfl ?_
 refine Za ?_
 refine Zl ?_
 cases hS
 exact VC.ret (finG (vs := [.agg #[str [], i64 0, str []], .bool false]) (.inr rfl) rfl (RVs.cell gagg133 rfl rfl Rd.blk (RVs.tmp rfl (RVs.nil))) () rfl trivial (by (try dsimp only); exact InM.out) (fun _ _ => trivial))
theorem rectoref14_Like_ct (a_0 : Sv Rectoref14File) (b_1 : Sv Rectoref14File) (p_2 : Str) {r : Bool} (hS : Sh.rectoref14_Like a_0.l b_1.l p_2 = some r) :
 Ct Tryz.prog 24 [a_0.val, b_1.val, str p_2] (a_0.ok.and b_1.ok) (Ow.emp) (X := Unit) (fun _ => .bool r) (fun _ => True) (fun _ => Mo.tt) (fun _ => Ow.emp) := by
 refine Ct.of Tryz.func24 rfl (by kernel_rfl) Tryz.ntmps24 (by simp) fun c => ?_
 unfold Sh.rectoref14_Like at hS
 refine Zq (Zr ?_)
 refine Za ?_
 refine Zl ?_
 refine Zq (Zr ?_)
 refine Zm ?_
 refine Zm ?_
 obtain ⟨y14_1, ey14_1, hS⟩ := bd_s hS
 refine VL.q (q_call (rectoref14_Get_ct a_0 p_2 ey14_1) rfl (fun _ _ => rfl)) (by decide) ?_
 refine Zm ?_
 refine VL.q (q_extract rfl rfl) (by decide) ?_
 refine VL.q (q_extract rfl rfl) (by decide) ?_
 refine VL.alloc (cs := [str [], i64 0, str []]) (by kernel_rfl) (by decide) fun b7_2 => ?_
 refine VL.store (vc := [str y14_1.1.path, i64 y14_1.1.mode, str y14_1.1.data]) (cs' := [str y14_1.1.path, i64 y14_1.1.mode, str y14_1.1.data]) rfl rfl rfl gsz133 rfl rfl (Nat.le_of_ble_eq_true rfl) rfl ?_
 refine Za ?_
 refine Zl ?_
 refine VC.keep [1, 2, 7, 8] rfl ?_
 refine Zq (Zr ?_)
 refine Zm ?_
 refine Zm ?_
 obtain ⟨y20_3, ey20_3, hS⟩ := bd_s hS
 refine VL.q (q_call (rectoref14_Get_ct b_1 p_2 ey20_3) rfl (fun _ _ => rfl)) (by decide) ?_
 refine Zm ?_
 refine VL.q (q_extract rfl rfl) (by decide) ?_
 refine VL.q (q_extract rfl rfl) (by decide) ?_
 refine VL.alloc (cs := [str [], i64 0, str []]) (by kernel_rfl) (by decide) fun b9_4 => ?_
 refine VL.store (vc := [str y20_3.1.path, i64 y20_3.1.mode, str y20_3.1.data]) (cs' := [str y20_3.1.path, i64 y20_3.1.mode, str y20_3.1.data]) rfl rfl rfl gsz133 rfl rfl (Nat.le_of_ble_eq_true rfl) rfl ?_
 refine Za ?_
 refine Zl ?_
 refine VC.keep [7, 8, 9, 10] rfl ?_
 refine Zq (Zr ?_)
 refine Zm ?_
 refine Zm ?_
 refine VL.q (q_beql Tryz.underlying4 rfl rfl) (by decide) ?_
 refine Zm ?_
 refine VL.split_dec 26 rfl (fun h26 => ?_) (fun h26 => ?_)
 ·
  replace hS := it_t h26 hS
  refine VL.gy rfl rfl (q_fes gagg133 rfl rfl) (by decide) ?_
  refine VL.gy rfl rfl (q_fes gagg133 rfl rfl) (by decide) ?_
  refine VL.gy rfl rfl (q_steql geqg133 (geqs133 y14_1.1.path y14_1.1.mode y14_1.1.data y20_3.1.path y20_3.1.mode y20_3.1.data) rfl rfl) (by decide) ?_
  refine Zt ?_
  refine Za ?_
  refine Zl ?_
  refine VC.keep [6] rfl ?_
  cases hS
  exact Ze
 replace hS := it_f h26 hS
 refine Zn ?_
 refine Zn ?_
 refine Zn ?_
 refine Zf ?_
 refine Za ?_
 refine Zl ?_
 refine VC.keep [6] rfl ?_
 cases hS
 exact Ze
theorem rectolaw20_PlanKeeps_ct (h_0 : Sv FilesFile) (r_1 : TmergeResult) (ix_2 : Sv IndexEntry) (w_3 : Sv FilesFile) {r : Bool} (hS : Sh.rectolaw20_PlanKeeps h_0.l r_1.pl ix_2.l w_3.l = some r) :
 Ct Tryz.prog 4 [h_0.val, .agg #[r_1.files.val, r_1.entries.val, r_1.conflicts.val], ix_2.val, w_3.val] (h_0.ok.and (r_1.files.ok.and (r_1.entries.ok.and (r_1.conflicts.ok.and (ix_2.ok.and w_3.ok))))) (Ow.emp) (X := Unit) (fun _ => .bool r) (fun _ => True) (fun _ => Mo.tt) (fun _ => Ow.emp) := by
 refine Ct.of Tryz.func4 rfl (by kernel_rfl) Tryz.ntmps4 (by simp) fun c => ?_
 unfold Sh.rectolaw20_PlanKeeps at hS
 refine Zq (Zr ?_)
 refine VL.box (cs := [r_1.files.val, r_1.entries.val, r_1.conflicts.val]) rfl rfl (by decide) fun b5_1 => ?_
 refine Za ?_
 refine Zl ?_
 refine Zq (Zq (Zr ?_))
 obtain ⟨y16_2, ey16_2, hS⟩ := bd_s hS
 refine VL.q (q_call (rectolaw20_known_ct ey16_2) rfl (fun _ _ => rfl)) (by decide) ?_
 refine VL.q (q_not rfl) (by decide) ?_
 refine Zl ?_
 refine VC.cond rfl (fun h17 => ?_) (fun h17 => ?_)
 ·
  replace hS := it_t h17 hS
  refine Zq (Zr ?_)
  refine Za ?_
  refine Zl ?_
  cases hS
  exact Ze
 replace hS := it_b h17 hS
 refine Zk ?_
 refine Zq (Zq (Zr ?_))
 refine Zm ?_
 refine VL.q (q_fes gagg34 rfl rfl) (by decide) ?_
 refine Zm ?_
 refine Zm ?_
 obtain ⟨y22_3, ey22_3, hS⟩ := bd_s hS
 refine VL.q (q_call (rectolaw20_Few_ct h_0 r_1 ix_2 w_3 ey22_3) rfl (fun _ _ => rfl)) (by decide) ?_
 refine VL.q (q_not rfl) (by decide) ?_
 refine Zl ?_
 refine VC.keep [0, 2, 3, 5, 23] rfl ?_
 refine VC.cond rfl (fun h23 => ?_) (fun h23 => ?_)
 ·
  replace hS := it_t h23 hS
  refine Zq (Zr ?_)
  refine Za ?_
  refine Zl ?_
  cases hS
  exact Ze
 replace hS := it_b h23 hS
 refine Zk ?_
 refine Zq (Zr ?_)
 refine Zm ?_
 refine VL.q (q_fes gagg34 rfl rfl) (by decide) ?_
 refine Zm ?_
 refine Zm ?_
 obtain ⟨y29_4, ey29_4, hS⟩ := bd_s hS
 refine VL.callF (plan_Apply_ct h_0 r_1 ix_2 w_3 ey29_4) rfl (by decide) ?_
 rintro ⟨q29_4_0, q29_4_1, q29_4_2⟩ rfl
 try dsimp only
 refine Zm ?_
 refine VL.q (q_extract rfl rfl) (by decide) ?_
 refine VL.q (q_extract rfl rfl) (by decide) ?_
 refine VL.q (q_extract rfl rfl) (by decide) ?_
 refine Za ?_
 refine Za ?_
 refine Za ?_
 refine Zl ?_
 refine VC.keep [2, 3, 10, 11] rfl ?_
 refine Zq (Zq (Zr ?_))
 refine Zm ?_
 refine VL.q (q_erne Tryz.underlying27 rfl) (by decide) ?_
 refine Zl ?_
 refine VC.cond_ndec rfl (fun h34 => ?_) (fun h34 => ?_)
 ·
  replace hS := it_f h34 hS
  refine Zq (Zr ?_)
  refine Zm ?_
  refine Zm ?_
  obtain ⟨y37_5, ey37_5, hS⟩ := bd_s hS
  refine VL.q (q_call (files_Row_Same_ct q29_4_1 w_3 ey37_5) rfl (fun _ _ => rfl)) (by decide) ?_
  refine Za ?_
  refine Zl ?_
  cases hS
  exact Ze
 replace hS := it_t h34 hS
 refine Zk ?_
 refine Zq (Zr ?_)
 refine Zm ?_
 obtain ⟨y39_6, ey39_6, hS⟩ := bd_s hS
 refine VL.callO (rectolaw15_Of_ct ix_2 ey39_6) rfl (by decide) ?_
 rintro q39_6_0 rfl
 try dsimp only
 obtain ⟨y40_7, ey40_7, hS⟩ := bd_s hS
 refine VL.callOR (rectoref14_Stage_ct q39_6_0 0 ey40_7) rfl (by decide) ?_
 rintro q40_7_0 rfl
 try dsimp only
 refine Za ?_
 refine Zl ?_
 refine Zq (Zq (Zr ?_))
 refine Za ?_
 refine Zl ?_
 refine VC.keep [3, 10, 12, 13] rfl ?_
 refine Zb ?_
 refine VC.iter (S := Int) (fun (i13_8 : Int) => i13_8) (fun (i13_8 : Int) => [(3, w_3.val), (10, q29_4_1.val), (12, q40_7_0.val), (13, i64 i13_8)]) (fun (i13_8 : Int) => Mo.tt) (fun (i13_8 : Int) => Ow.star (Blk b5_1 [r_1.files.val, r_1.entries.val, r_1.conflicts.val] 34) (Ow.star (Sv.own q40_7_0 133) (Ow.emp))) 0 [3, 10, 12, 13] hS rfl ?_
 clear hS
 rintro i13_8 m1 y1 hS hK1
 show VC _ _ _ _ _ [(3, w_3.val), (10, q29_4_1.val), (12, q40_7_0.val), (13, i64 i13_8)] (Mo.and Mo.tt _) (Ow.star (Blk b5_1 [r_1.files.val, r_1.entries.val, r_1.conflicts.val] 34) (Ow.star (Sv.own q40_7_0 133) (Ow.emp)))
 refine Zq (Zq (Zr ?_))
 refine Zm ?_
 refine Zm ?_
 refine VL.q (q_ln (s := w_3) Tryz.underlying23 rfl) (by decide) ?_
 refine VL.q (q_lss rfl rfl) (by decide) ?_
 refine Zl ?_
 refine VC.cond_dec rfl (fun h44 => ?_) (fun h44 => ?_)
 ·
  replace hS := it_t h44 hS
  refine Zk ?_
  refine VC.cutJ (S := Unit) (fun (_ : Unit) => ()) (fun (_ : Unit) => [(3, w_3.val), (10, q29_4_1.val), (12, q40_7_0.val), (13, i64 i13_8)]) (fun (_ : Unit) => Mo.tt) (fun (_ : Unit) => Ow.star (Blk b5_1 [r_1.files.val, r_1.entries.val, r_1.conflicts.val] 34) (Ow.star (Sv.own q40_7_0 133) (Ow.emp))) hS ?_ ?_
  ·
   clear hS
   intro k9 hS
   refine Zb (Zq (Zq ?_))
   refine VC.draw [(0, true), (1, true), (3, true), (4, true), (5, true), (6, true), (7, true), (2, false), (8, true)] mixed (by kernel_rfl) (by kernel_rfl) (by kernel_rfl) ?_
   refine VD.q rfl (q_move rfl) (by decide) ?_
   refine VD.q rfl (q_move rfl) (by decide) ?_
   refine VD.q rfl (q_move rfl) (by decide) ?_
   refine VD.q rfl (q_move rfl) (by decide) ?_
   obtain ⟨z52_10, nz52_10, hz52_10, hS⟩ := at_s hS
   refine VD.q rfl (q_ixm (s := w_3) Tryz.underlying23 gsz50 rfl rfl nz52_10 (lt_of_get nz52_10 hz52_10)) (by decide) ?_
   refine VD.q rfl (q_field gfa50_0 rfl) (by decide) ?_
   refine VD.q rfl (q_elf (s := w_3) gone9 rfl hz52_10 rfl) (by decide) ?_
   refine VD.one rfl ?_
   obtain ⟨y49_11, ey49_11, hS⟩ := bd_s hS
   refine VL.callO (rectolaw14_Of_ct w_3 ey49_11) rfl (by decide) ?_
   rintro q49_11_0 rfl
   try dsimp only
   refine VL.back (D' := [(7, str z52_10.path), (6, ptr w_3.b (w_3.o + (i13_8).toNat * Dat.sz FilesFile + 0)), (5, ptr w_3.b (w_3.o + (i13_8).toNat * Dat.sz FilesFile + 0))]) (by kernel_rfl) (Pend.cons rfl (q_elf (s := w_3) gone9 rfl hz52_10 rfl) (Pend.cons rfl (q_field gfa50_0 rfl) (Pend.cons rfl (q_ixm (s := w_3) Tryz.underlying23 gsz50 rfl rfl nz52_10 (lt_of_get nz52_10 hz52_10)) (Pend.nil)))) ?_
   obtain ⟨y55_12, ey55_12, hS⟩ := bd_s hS
   refine VD.q rfl (q_callR (rectoref14_Like_ct q40_7_0 q49_11_0 z52_10.path ey55_12) rfl (fun _ _ => rfl)) (by decide) ?_
   refine VD.to (fun _ _ h => h) ?_
   refine VC.keep [3, 10, 12, 13, 55] rfl ?_
   refine VC.cond rfl (fun h55 => ?_) (fun h55 => ?_)
   ·
    replace hS := it_t h55 hS
    refine VC.exit_mt () [3, 10, 12, 13] (fun _ _ h => h) hS rfl
   replace hS := it_b h55 hS
   refine Zk ?_
   refine Zq (Zr ?_)
   refine Zm ?_
   refine Zm ?_
   refine Zm ?_
   obtain ⟨z60_13, nz60_13, hz60_13, hS⟩ := at_s hS
   refine VL.q (q_ixm (s := w_3) Tryz.underlying23 gsz50 rfl rfl nz60_13 (lt_of_get nz60_13 hz60_13)) (by decide) ?_
   refine VL.q (q_field gfa50_0 rfl) (by decide) ?_
   refine VL.q (q_elf (s := w_3) gone9 rfl hz60_13 rfl) (by decide) ?_
   obtain ⟨y63_14, ey63_14, hS⟩ := bd_s hS
   refine VL.q (q_call (files_Row_Get_ct q29_4_1 z60_13.path ey63_14) rfl (fun _ _ => rfl)) (by decide) ?_
   refine Zm ?_
   refine VL.q (q_extract rfl rfl) (by decide) ?_
   refine VL.q (q_extract rfl rfl) (by decide) ?_
   refine VL.alloc (cs := [str [], i64 0, str []]) (by kernel_rfl) (by decide) fun b14_15 => ?_
   refine VL.store (vc := [str y63_14.1.path, i64 y63_14.1.mode, str y63_14.1.data]) (cs' := [str y63_14.1.path, i64 y63_14.1.mode, str y63_14.1.data]) rfl rfl rfl gsz50 rfl rfl (Nat.le_of_ble_eq_true rfl) rfl ?_
   refine Za ?_
   refine Zl ?_
   refine VC.keep [3, 10, 12, 13, 14, 15] rfl ?_
   refine VC.cutJ (S := Bool) (fun (x75_16 : Bool) => x75_16) (fun (x75_16 : Bool) => [(3, w_3.val), (10, q29_4_1.val), (12, q40_7_0.val), (13, i64 i13_8), (75, .bool x75_16)]) (fun (x75_16 : Bool) => Mo.tt) (fun (x75_16 : Bool) => Ow.star (Blk b14_15 [str y63_14.1.path, i64 y63_14.1.mode, str y63_14.1.data] 50) (Ow.star (Blk b5_1 [r_1.files.val, r_1.entries.val, r_1.conflicts.val] 34) (Ow.star (Sv.own q40_7_0 133) (Ow.emp)))) hS ?_ ?_
   ·
    clear hS
    intro k17 hS
    refine VC.draw ((List.range 10).map fun k => (k, true)) mixed (by kernel_rfl) (by kernel_rfl) (by kernel_rfl) ?_
    refine VD.q rfl (q_move rfl) (by decide) ?_
    refine VD.q rfl (q_not rfl) (by decide) ?_
    refine VD.q rfl (q_move rfl) (by decide) ?_
    refine VD.split 68 rfl (fun h68 => ?_) (fun h68 => ?_)
    ·
     replace hS := it_t h68 hS
     refine Zd ?_
     refine Zd ?_
     refine Zd ?_
     refine Zd ?_
     refine Zd ?_
     refine Zd ?_
     refine VD.q rfl (q_pick_t rfl rfl) (by decide) ?_
     refine VD.mt true [3, 10, 12, 13, 75] (fun _ _ h => h) hS rfl
    replace hS := it_b h68 hS
    refine VD.gy rfl rfl rfl (q_fes gagg50 rfl rfl) (by decide) ?_
    refine VD.gy rfl rfl rfl (q_move rfl) (by decide) ?_
    refine VD.gy rfl rfl rfl (q_move rfl) (by decide) ?_
    obtain ⟨z72_18, nz72_18, hz72_18, hS⟩ := at_s hS
    refine VD.gy rfl rfl rfl (q_ixm (s := w_3) Tryz.underlying23 gsz50 rfl rfl nz72_18 (lt_of_get nz72_18 hz72_18)) (by decide) ?_
    refine VD.gy rfl rfl rfl (q_els (s := w_3) gagg50 rfl rfl hz72_18) (by decide) ?_
    refine VD.gy rfl rfl rfl (q_stneq geqg50 (geqs50 y63_14.1.path y63_14.1.mode y63_14.1.data z72_18.path z72_18.mode z72_18.data) rfl rfl) (by decide) ?_
    refine VD.q rfl (q_pick_f rfl rfl) (by decide) ?_
    refine VD.mt (!decide (y63_14.1.path = z72_18.path ∧ y63_14.1.mode = z72_18.mode ∧ y63_14.1.data = z72_18.data)) [3, 10, 12, 13, 75] (fun _ _ h => h) hS rfl
   clear hS
   rintro x75_16 hS
   show VC _ _ _ _ _ [(3, w_3.val), (10, q29_4_1.val), (12, q40_7_0.val), (13, i64 i13_8), (75, .bool x75_16)] (Mo.and Mo.tt _) (Ow.star (Blk b14_15 [str y63_14.1.path, i64 y63_14.1.mode, str y63_14.1.data] 50) (Ow.star (Blk b5_1 [r_1.files.val, r_1.entries.val, r_1.conflicts.val] 34) (Ow.star (Sv.own q40_7_0 133) (Ow.emp))))
   refine VC.cond rfl (fun h75 => ?_) (fun h75 => ?_)
   ·
    replace hS := it_t h75 hS
    refine Zq (Zr ?_)
    refine Za ?_
    refine Zl ?_
    replace hS := up2 hS hK1
    cases hS
    exact Ze
   replace hS := it_b h75 hS
   refine VC.skip_mt () [3, 10, 12, 13] (fun _ _ h => h) hS rfl
  clear hS
  rintro _ hS
  show VC _ _ _ _ _ [(3, w_3.val), (10, q29_4_1.val), (12, q40_7_0.val), (13, i64 i13_8)] (Mo.and Mo.tt _) (Ow.star (Blk b5_1 [r_1.files.val, r_1.entries.val, r_1.conflicts.val] 34) (Ow.star (Sv.own q40_7_0 133) (Ow.emp)))
  refine Zr ?_
  refine Zm ?_
  obtain ⟨b46, hS⟩ := gd_s hS
  refine VL.q (q_add rfl rfl b46) (by decide) ?_
  refine Za ?_
  refine VL.rnd (i13_8 + 1) [3, 10, 12, 13] (fun _ _ h => h) (go2 hS hK1) rfl
 replace hS := it_f h44 hS
 replace hS := up2 hS hK1
 refine Zx ?_
 refine Zq (Zr ?_)
 refine Za ?_
 refine Zl ?_
 cases hS
 exact Ze
end Go.Proofs.YtpmhinamcndmeaaGreatDoor
end

section
namespace Go.S
theorem at_get {α : Type} {l : List α} {i : Int} (h0 : 0 ≤ i) (h : i < l.length) : ∃ z, l[i.toNat]? = some z := ⟨_, List.getElem?_eq_getElem (by omega)⟩
theorem eqloop {α : Type} [DecidableEq α] (P : α → α → Prop) [∀ z w, Decidable (P z w)] (hP : ∀ z w, P z w ↔ z = w) (l r : List α) (hl : (l.length : Int) = r.length) (hb : (l.length : Int) ≤ 1000000000) (B : Int → Option (Int ⊕ Bool))
    (hB : ∀ i, B i = if i < (l.length : Int) then (at_ l i).bind (fun z => (at_ r i).bind (fun w => if P z w then gd (I64 (i + 1)) (go (i + 1)) else up (some false))) else up (some true)) : iter B 0 = some (decide (l = r)) := by
  apply Ok.eq
  refine ok_iter (I := fun i => 0 ≤ i ∧ i ≤ l.length ∧ l.take i.toNat = r.take i.toNat) (μ := fun i => (l.length - i).toNat) ?_ ⟨by omega, by omega, rfl⟩
  rintro i ⟨h0, h1, h2⟩
  rw [hB]
  simp only [ok_if, ok_up, ok_bd, ok_gd, ok_go, ok_some, ok_at]
  refine ⟨fun h => ?_, fun h => ?_⟩
  · obtain ⟨z, hz⟩ := at_get h0 h
    obtain ⟨w, hw⟩ := at_get (l := r) h0 (by omega)
    refine ⟨h0, z, hz, h0, w, hw, fun hp => ?_, fun hp => ?_⟩
    · have e := (hP z w).1 hp
      refine ⟨⟨by omega, by omega⟩, ⟨by omega, by omega, ?_⟩, by omega⟩
      rw [show (i + 1).toNat = i.toNat + 1 by omega, List.take_add_one, List.take_add_one, h2, hz, hw, e]
    · have e : z ≠ w := fun e => hp ((hP z w).2 e)
      refine (decide_eq_false fun q => e ?_).symm
      subst q
      rw [hz] at hw
      exact Option.some.inj hw
  · have e : i.toNat = l.length := by omega
    rw [e, List.take_length] at h2
    rw [show l.length = r.length by omega, List.take_length] at h2
    exact (decide_eq_true h2).symm
end Go.S
end

section
namespace Go.S
theorem get_lt {α : Type} {l : List α} {i : Nat} {x : α} (h : l[i]? = some x) : i < l.length := (List.getElem?_eq_some_iff.1 h).1
theorem take_snoc {α : Type} {l : List α} {i : Int} {z : α} (h0 : 0 ≤ i) (h : l[i.toNat]? = some z) : l.take (i + 1).toNat = l.take i.toNat ++ [z] := by
  rw [show (i + 1).toNat = i.toNat + 1 by omega, List.take_add_one, h]; rfl
theorem filter_snoc {α : Type} (p : α → Bool) (l : List α) (z : α) : (l ++ [z]).filter p = l.filter p ++ (if p z then [z] else []) := by
  rw [List.filter_append]; cases h : p z <;> simp [h]
theorem ok_jnP {S R : Type} {K : S → Option R} {F : (S → Option R) → Option R} {Q : R → Prop} (P : S → Prop) (hK : ∀ s, P s → Ok (K s) Q) (hF : ∀ K' : S → Option R, (∀ s, P s → Ok (K' s) Q) → Ok (F K') Q) : Ok (jn K F) Q := hF K hK
theorem byte_eq {z : UInt8} {n : Nat} (hn : n < 256) : ((z.toNat : Int) = n) ↔ z = UInt8.ofNat n := by
  constructor
  · intro h
    apply UInt8.toNat_inj.1
    simp [Nat.mod_eq_of_lt hn]; omega
  · intro h
    subst h
    simp [Nat.mod_eq_of_lt hn]
end Go.S
end

section
namespace Go.S
open Go
def Fst {α : Type} (p : α → Bool) (l : List α) (r : Int) : Prop := (r = -1 ∧ ∀ z ∈ l, p z = false) ∨ ∃ k : Nat, r = k ∧ k < l.length ∧ (∀ z ∈ l.take k, p z = false) ∧ ∃ z, l[k]? = some z ∧ p z = true
theorem ixloop {α : Type} (p : α → Bool) (l : List α) (hb : l.length ≤ 1000000000) (F : α → Option Bool) (hF : ∀ z ∈ l, F z = some (p z)) (B : Int → Option (Int ⊕ Int))
    (hB : ∀ i, B i = if i < (l.length : Int) then (at_ l i).bind (fun z => (F z).bind (fun y => if y = true then up (some i) else gd (I64 (i + 1)) (go (i + 1)))) else up (some (-1))) : Ok (iter B 0) (Fst p l) := by
  refine ok_iter (I := fun i => 0 ≤ i ∧ i ≤ l.length ∧ ∀ z ∈ l.take i.toNat, p z = false) (μ := fun i => (l.length - i).toNat) ?_ ⟨by omega, by omega, by simp⟩
  rintro i ⟨h0, h1, h2⟩
  rw [hB]
  simp only [ok_if, ok_up, ok_bd, ok_some, ok_at]
  refine ⟨fun h => ?_, fun h => ?_⟩
  · obtain ⟨z, hz⟩ := at_get h0 h
    refine ⟨h0, z, hz, ?_⟩
    rw [hF z (List.mem_of_getElem? hz), ok_some]
    simp only [ok_if, ok_up, ok_gd, ok_go, ok_some]
    refine ⟨fun hp => .inr ⟨i.toNat, by omega, by omega, h2, z, hz, hp⟩, fun hp => ⟨⟨by omega, by omega⟩, ⟨by omega, by omega, fun y hy => ?_⟩, by omega⟩⟩
    rw [take_snoc h0 hz] at hy
    rcases List.mem_append.1 hy with q | q
    · exact h2 y q
    · rw [List.mem_singleton.1 q]; simpa using hp
  · rw [List.take_of_length_le (by omega)] at h2
    exact .inl ⟨rfl, h2⟩
theorem fst_any {α : Type} {p : α → Bool} {l : List α} {r : Int} (h : Fst p l r) : decide (0 ≤ r) = l.any p := by
  rcases h with ⟨rfl, h⟩ | ⟨k, rfl, hk, _, z, hz, hp⟩
  · have : l.any p = false := List.any_eq_false.2 fun z hz => by simp [h z hz]
    rw [this]; rfl
  · have : l.any p = true := List.any_eq_true.2 ⟨z, List.mem_of_getElem? hz, hp⟩
    rw [this]; simp
theorem set_take {α : Type} {s : List α} {i : Nat} {z : α} (h : i < s.length) : (s.set i z).take (i + 1) = s.take i ++ [z] := by
  rw [List.take_add_one, List.getElem?_set_self h, List.take_set_of_le (Nat.le_refl i)]; rfl
theorem delloop {α : Type} (p : α → Bool) (l : List α) (hb : l.length ≤ 1000000000) (F : α → Option Bool) (hF : ∀ z ∈ l, F z = some (p z)) (k : Nat) (hk : k < l.length) (h0 : ∀ z ∈ l.take k, p z = false) (hz : ∃ z, l[k]? = some z ∧ p z = true)
    (B : List α × Int × Int → Option ((List α × Int × Int) ⊕ List α))
    (hB : ∀ t, B t = if t.2.2 < (t.1.length : Int) then (jn (fun (u : List α × Int) => gd (I64 (t.2.2 + 1)) (go (u.1, u.2, (t.2.2 + 1)))) (fun k7 => (at_ t.1 t.2.2).bind (fun z => (F z).bind (fun y => if (!y) = true then ((at_ t.1 t.2.1).bind (fun _ => lt (t.1.set t.2.1.toNat z) (fun ys => gd (I64 (t.2.1 + 1)) (k7 (ys, (t.2.1 + 1)))))) else (k7 (t.1, t.2.1))))))
      else (up (gd ((0 : Int) ≤ t.2.1 ∧ t.2.1 ≤ (t.1.length : Int)) (lt (t.1.take t.2.1.toNat) (fun ys => some ys))))) :
    iter B (l, (k : Int), (k : Int) + 1) = some (l.filter fun z => !p z) := by
  apply Ok.eq
  refine ok_iter (I := fun t => 0 ≤ t.2.1 ∧ t.2.1 < t.2.2 ∧ t.2.2 ≤ l.length ∧ t.1.length = l.length ∧ t.1.take t.2.1.toNat = (l.take t.2.2.toNat).filter (fun z => !p z) ∧ ∀ j, t.2.2.toNat ≤ j → t.1[j]? = l[j]?) (μ := fun t => (l.length - t.2.2).toNat) ?_ ?_
  · rintro ⟨s, i, j⟩ ⟨i0, i1, i2, i3, i4, i5⟩
    dsimp only at i0 i1 i2 i3 i4 i5
    rw [hB]
    dsimp only
    simp only [ok_if, ok_up, ok_gd, ok_lt, ok_some]
    refine ⟨fun hj => ?_, fun hj => ⟨⟨i0, by omega⟩, ?_⟩⟩
    · obtain ⟨z, hz⟩ := at_get (l := l) (i := j) (by omega) (by omega)
      have hs : s[j.toNat]? = some z := by rw [i5 _ (Nat.le_refl _), hz]
      have hzl := List.mem_of_getElem? hz
      refine ok_jnP (fun u => 0 ≤ u.2 ∧ u.2 < j + 1 ∧ u.1.length = l.length ∧ u.1.take u.2.toNat = (l.take (j + 1).toNat).filter (fun z => !p z) ∧ ∀ m, (j + 1).toNat ≤ m → u.1[m]? = l[m]?) ?_ ?_
      · rintro ⟨s', i'⟩ ⟨q1, q2, q3, q4, q5⟩
        simp only [ok_gd, ok_go]
        exact ⟨⟨by omega, by omega⟩, ⟨q1, q2, by omega, q3, q4, q5⟩, by omega⟩
      · intro K hK
        rw [ok_bd, ok_at]
        refine ⟨by omega, z, hs, ?_⟩
        rw [hF z hzl, ok_bd, ok_some, ok_if]
        have hsn : (l.take (j + 1).toNat).filter (fun z => !p z) = (l.take j.toNat).filter (fun z => !p z) ++ (if (!p z) = true then [z] else []) := by rw [take_snoc (by omega) hz, filter_snoc]
        refine ⟨fun hp => ?_, fun hp => hK _ ⟨i0, by omega, i3, by rw [hsn, if_neg hp, List.append_nil]; exact i4, fun m hm => i5 m (by omega)⟩⟩
        obtain ⟨y, hy⟩ := at_get (l := s) (i := i) i0 (by omega)
        rw [ok_bd, ok_at]
        refine ⟨i0, y, hy, ?_⟩
        simp only [ok_lt, ok_gd]
        refine ⟨⟨by omega, by omega⟩, hK _ ⟨by omega, by omega, by simpa using i3, ?_, fun m hm => ?_⟩⟩
        · rw [hsn, if_pos hp, show (i + 1).toNat = i.toNat + 1 by omega, set_take (by omega), i4]
        · rw [List.getElem?_set_ne (by omega)]
          exact i5 m (by omega)
    · rw [i4, List.take_of_length_le (by omega)]
  · obtain ⟨z, hz, hp⟩ := hz
    refine ⟨by dsimp only; omega, by dsimp only; omega, by dsimp only; omega, rfl, ?_, fun j _ => rfl⟩
    dsimp only
    rw [show ((k : Int) + 1).toNat = k + 1 by omega, show ((k : Int)).toNat = k by omega, List.take_add_one, hz, Option.toList, filter_snoc]
    rw [if_neg (by simp [hp]), List.append_nil]
    exact (List.filter_eq_self.2 fun x hx => by simp [h0 x hx]).symm
theorem del_ok {α : Type} (p : α → Bool) (l : List α) (hb : l.length ≤ 1000000000) (F : α → Option Bool) (hF : ∀ z ∈ l, F z = some (p z)) (ix : Option Int) (hix : Ok ix (Fst p l))
    (B : List α × Int × Int → Option ((List α × Int × Int) ⊕ List α))
    (hB : ∀ t, B t = if t.2.2 < (t.1.length : Int) then (jn (fun (u : List α × Int) => gd (I64 (t.2.2 + 1)) (go (u.1, u.2, (t.2.2 + 1)))) (fun k7 => (at_ t.1 t.2.2).bind (fun z => (F z).bind (fun y => if (!y) = true then ((at_ t.1 t.2.1).bind (fun _ => lt (t.1.set t.2.1.toNat z) (fun ys => gd (I64 (t.2.1 + 1)) (k7 (ys, (t.2.1 + 1)))))) else (k7 (t.1, t.2.1))))))
      else (up (gd ((0 : Int) ≤ t.2.1 ∧ t.2.1 ≤ (t.1.length : Int)) (lt (t.1.take t.2.1.toNat) (fun ys => some ys))))) :
    (ix.bind fun y => if y = -1 then some l else gd (I64 (y + 1)) (iter B (l, y, y + 1))) = some (l.filter fun z => !p z) := by
  obtain ⟨r, hr, h⟩ := hix
  rw [hr, Option.bind_some]
  rcases h with ⟨rfl, h⟩ | ⟨k, rfl, hk, h0, hz⟩
  · rw [if_pos rfl]
    exact congrArg some (List.filter_eq_self.2 fun x hx => by simp [h x hx]).symm
  · rw [if_neg (by omega)]
    unfold gd
    rw [if_pos (show I64 ((k : Int) + 1) from ⟨by omega, by omega⟩)]
    exact delloop p l hb F hF k hk h0 hz B hB
end Go.S
end

section
namespace Go.S
open Go
def spl (c : UInt8) : List UInt8 → List (List UInt8)
  | [] => [[]]
  | x :: r => if x = c then [] :: spl c r else match spl c r with
    | [] => [[x]]
    | y :: l => (x :: y) :: l
theorem spl_ne (c : UInt8) : ∀ s, spl c s ≠ []
  | [] => by simp [spl]
  | x :: r => by
    unfold spl
    split
    · simp
    · split <;> simp
theorem spl_len (c : UInt8) : ∀ s, (spl c s).length = s.count c + 1
  | [] => by simp [spl]
  | x :: r => by
    have ih := spl_len c r
    unfold spl
    by_cases h : x = c
    · simp [h, ih]
    · rw [if_neg h, List.count_cons_of_ne (by simpa using h)]
      cases hq : spl c r with
      | nil => exact absurd hq (spl_ne c r)
      | cons y l => rw [hq] at ih; simpa using ih
theorem spl_no {c : UInt8} : ∀ {s : List UInt8}, c ∉ s → spl c s = [s]
  | [], _ => rfl
  | x :: r, h => by
    have hx : x ≠ c := fun e => h (by simp [e])
    rw [spl, if_neg hx, spl_no fun e => h (List.mem_cons_of_mem _ e)]
theorem spl_at {c : UInt8} : ∀ {a : List UInt8} (b : List UInt8), c ∉ a → spl c (a ++ c :: b) = a :: spl c b
  | [], b, _ => by simp [spl]
  | x :: a, b, h => by
    have hx : x ≠ c := fun e => h (by simp [e])
    rw [List.cons_append, spl, if_neg hx, spl_at b fun e => h (List.mem_cons_of_mem _ e)]
theorem ix_at {c : UInt8} : ∀ {a : List UInt8} (b : List UInt8), c ∉ a → Lib.indexByte (a ++ c :: b) c = a.length
  | [], b, _ => by simp [Lib.indexByte]
  | x :: a, b, h => by
    have hx : (x == c) = false := by simpa using fun e : x = c => h (by simp [e])
    rw [List.cons_append, Lib.indexByte, hx, ix_at b fun e => h (List.mem_cons_of_mem _ e)]
    simp
theorem split_mem {c : UInt8} {s : List UInt8} (h : c ∈ s) : ∃ a b, s = a ++ c :: b ∧ c ∉ a := by
  induction s with
  | nil => cases h
  | cons x r ih =>
    by_cases hx : x = c
    · exact ⟨[], r, by simp [hx], by simp⟩
    · rcases List.mem_cons.1 h with q | q
      · exact absurd q.symm hx
      · obtain ⟨a, b, e, hn⟩ := ih q
        exact ⟨x :: a, b, by simp [e], by simp [hn, Ne.symm hx]⟩
theorem byte_of (c : UInt8) : (c.toNat : Int).toNat.toUInt8 = c := by simp
theorem ixB_eq (s : List UInt8) (c : UInt8) : ixB s (c.toNat : Int) = Lib.indexByte s c := by unfold ixB; rw [byte_of]
theorem index_ok (s : List UInt8) (c : UInt8) : Sh.internal_stringslite_Index s [c] = some (Lib.indexByte s c) := by
  apply Ok.eq
  unfold Sh.internal_stringslite_Index
  simp only [ok_jn, ok_if, ok_bd, ok_some, ok_at]
  refine ⟨fun h => by simp at h, fun _ => ⟨fun h => ?_, fun _ => ⟨fun _ => ⟨by omega, c, rfl, ?_⟩, fun h => by simp at h⟩⟩⟩
  · have : s = [c] := by simpa using (of_decide_eq_true h).symm
    rw [this]; simp [Lib.indexByte]
  · unfold Sh.internal_stringslite_IndexByte
    rw [ixB_eq]; exact Ok.of rfl rfl
theorem sindex_ok (s : List UInt8) (c : UInt8) : Sh.strings_Index s [c] = some (Lib.indexByte s c) := by
  unfold Sh.strings_Index
  rw [index_ok]; rfl
theorem count_ok (s : List UInt8) (c : UInt8) : Sh.strings_Count s [c] = some (s.count c : Int) := by
  apply Ok.eq
  unfold Sh.strings_Count
  rw [if_neg (by simp), if_pos (by simp)]
  simp only [ok_bd, ok_at, ok_some]
  refine ⟨by omega, c, rfl, ?_⟩
  unfold cntB Lib.countByte
  rw [byte_of]
theorem split_ok {s : List UInt8} (c : UInt8) (hs : s.length ≤ 1000000000) : Sh.strings_Split s [c] = some (spl c s) := by
  apply Ok.eq
  unfold Sh.strings_Split Sh.strings_genSplit
  rw [ok_bd]
  have hc : s.count c ≤ s.length := List.count_le_length
  simp only [count_ok, ok_jn, ok_if, ok_bd, ok_gd, ok_lt, ok_some, ok_at]
  refine ⟨fun h => by omega, fun _ => ⟨fun h => by simp at h, fun _ => ⟨fun _ => ?_, fun h => by omega⟩⟩⟩
  have hm : (min ((s.count c : Int) + 1) ((s.length : Int) + 1)) = (s.count c : Int) + 1 := by omega
  rw [hm]
  refine ⟨⟨by omega, by omega⟩, ⟨by omega, by omega⟩, ⟨by omega, by omega⟩, ⟨by omega, by omega⟩, ?_⟩
  refine ok_iter (I := fun t => 0 ≤ t.2.2 ∧ t.2.2 + t.1.count c = s.count c ∧ t.2.1.length = s.count c + 1 ∧ t.2.1.take t.2.2.toNat ++ spl c t.1 = spl c s ∧ t.1.length ≤ s.length) (μ := fun t => t.1.length) ?_ ⟨by simp, by simp, by simp, by simp, by simp⟩
  rintro ⟨x, l, i⟩ ⟨i0, i1, i2, i3, i4⟩
  dsimp only at i0 i1 i2 i3 i4 ⊢
  have fin : c ∉ x → Ok (((at_ l i).bind fun z61_20 => lt (l.set i.toNat x) fun ys4_22 => gd (I64 (i + 1)) (gd ((0 : Int) ≤ (i + 1) ∧ (i + 1) ≤ (ys4_22.length : Int)) (lt (ys4_22.take (i + 1).toNat) fun y65_24 => some y65_24)))) (fun a => a = spl c s) := fun hx => by
    rw [spl_no hx] at i3
    rw [List.count_eq_zero_of_not_mem hx] at i1
    simp only [ok_bd, ok_gd, ok_lt, ok_some, ok_at]
    obtain ⟨z, hz⟩ := at_get (l := l) i0 (by omega)
    refine ⟨i0, z, hz, ⟨by omega, by omega⟩, ⟨by omega, by rw [List.length_set]; omega⟩, ?_⟩
    rw [← i3, show (i + 1).toNat = i.toNat + 1 by omega, List.take_add_one, List.getElem?_set, if_pos rfl, if_pos (get_lt hz), List.take_set_of_le (Nat.le_refl _)]
    simp
  simp only [ok_jn, ok_if, ok_up, ok_bd, ok_gd, ok_lt, ok_go, ok_some, ok_at, sindex_ok] at fin ⊢
  refine ⟨fun hi => ?_, fun hi => ?_⟩
  · have hmem : c ∈ x := List.count_pos_iff.1 (by omega)
    obtain ⟨a, b, e, ha⟩ := split_mem hmem
    subst e
    rw [ix_at b ha]
    have hl : (a ++ c :: b).length = a.length + b.length + 1 := by simp; omega
    have hcb : (a ++ c :: b).count c = b.count c + 1 := by simp [List.count_eq_zero_of_not_mem ha]
    obtain ⟨z, hz⟩ := at_get (l := l) i0 (by omega)
    refine ⟨fun h => by omega, fun _ => ⟨⟨by omega, by omega⟩, ⟨by omega, by omega⟩, i0, z, hz, ⟨by simp; omega, by simp; omega⟩, ⟨by simp; omega, by simp; omega⟩, ⟨by omega, by omega⟩, ⟨by omega, ?_, by simpa using i2, ?_, ?_⟩, ?_⟩⟩
    · simp only [List.length_cons, List.length_nil]
      rw [show ((a.length : Int) + ((0 + 1 : Nat) : Int)).toNat = a.length + 1 by omega]
      have : (a ++ c :: b).drop (a.length + 1) = b := by simp
      rw [this]; omega
    · simp only [List.length_cons, List.length_nil]
      rw [show ((a.length : Int) + ((0 + 1 : Nat) : Int)).toNat = a.length + 1 by omega, show ((a.length : Int) + 0).toNat = a.length by omega]
      have e1 : (a ++ c :: b).drop (a.length + 1) = b := by simp
      have e2 : (a ++ c :: b).take a.length = a := by simp
      rw [e1, e2, ← i3, spl_at b ha, show (i + 1).toNat = i.toNat + 1 by omega, List.take_add_one, List.getElem?_set, if_pos rfl, if_pos (get_lt hz), List.take_set_of_le (Nat.le_refl _)]
      simp
    · simp; omega
    · simp; omega
  · exact fin fun hm => by have := List.count_pos_iff.2 hm; omega
theorem spl_part (c : UInt8) : ∀ (s : List UInt8), ∀ y ∈ spl c s, y.length ≤ s.length
  | [], y, h => by simp [spl] at h; simp [h]
  | x :: r, y, h => by
    have ih := spl_part c r
    unfold spl at h
    split at h
    · rcases List.mem_cons.1 h with q | q
      · simp [q]
      · have := ih y q; simp; omega
    · split at h
      · have := List.mem_singleton.1 h; simp [this]
      · next a l hq =>
        rcases List.mem_cons.1 h with q | q
        · have := ih a (by rw [hq]; simp); simp [q]; omega
        · have := ih y (by rw [hq]; simp [q]); simp; omega
end Go.S
end

section
namespace Go.S
open Go
def goodN (n : Nat) : Bool := decide (97 ≤ n ∧ n ≤ 122) || decide (48 ≤ n ∧ n ≤ 57) || decide (n = 46) || decide (n = 45) || decide (n = 95)
theorem good_all : ∀ i : Fin 256, Sh.path_good ((i.val : Nat) : Int) = some (goodN i.val) := by decide +kernel
theorem good_ok (z : UInt8) : Sh.path_good (z.toNat : Int) = some (goodN z.toNat) := good_all ⟨z.toNat, z.toNat_lt⟩
def partS (s : List UInt8) : Bool := !(decide (s = []) || decide (s = [46]) || decide (s = [46, 46])) && s.all fun z => goodN z.toNat
theorem all_snoc {α : Type} (p : α → Bool) (l : List α) (z : α) : (l ++ [z]).all p = (l.all p && p z) := by simp
theorem all_false {α : Type} {p : α → Bool} {l : List α} {z : α} (hz : z ∈ l) (h : p z = false) : l.all p = false := by
  cases hq : l.all p with
  | false => rfl
  | true => rw [List.all_eq_true.1 hq z hz] at h; cases h
theorem part_ok {s : List UInt8} (hs : s.length ≤ 1000000000) : Sh.path_part s = some (partS s) := by
  apply Ok.eq
  unfold Sh.path_part partS
  refine ok_jnP (fun q => q = (decide (s = []) || decide (s = [46]) || decide (s = [46, 46]))) ?_ ?_
  · rintro q rfl
    generalize (decide (s = []) || decide (s = [46]) || decide (s = [46, 46])) = q
    simp only [ok_if, ok_some, ok_gd, ok_lt]
    refine ⟨fun h => by rw [h]; rfl, fun h => ⟨by omega, ?_⟩⟩
    have hq : q = false := by simpa using h
    subst hq
    rw [Bool.not_false, Bool.true_and]
    refine ok_iter (I := fun i => 0 ≤ i ∧ i ≤ s.length ∧ (s.take i.toNat).all (fun z => goodN z.toNat) = true) (μ := fun i => (s.length - i).toNat) ?_ ⟨by omega, by omega, by simp⟩
    rintro i ⟨i0, i1, i2⟩
    simp only [ok_if, ok_up, ok_bd, ok_gd, ok_go, ok_some, ok_at, good_ok]
    refine ⟨fun hi => ?_, fun hi => ?_⟩
    · obtain ⟨z, hz⟩ := at_get (l := s) i0 hi
      refine ⟨i0, z, hz, fun hb => ?_, fun hg => ⟨⟨by omega, by omega⟩, ⟨by omega, by omega, ?_⟩, by omega⟩⟩
      · exact (all_false (p := fun z : UInt8 => goodN z.toNat) (List.mem_of_getElem? hz) (by simpa using hb)).symm
      · rw [take_snoc i0 hz, all_snoc, i2]; simpa using hg
    · rw [← i2, show i.toNat = s.length by omega, List.take_length]
  · intro K hK
    simp only [ok_if]
    refine ⟨fun h => hK _ (by simp [h]), fun h1 => ⟨fun h => hK _ (by simp [h]), fun h2 => hK _ (by simp [h1, h2])⟩⟩
def checkP (p : List UInt8) : Int := if 64 < p.length then 4 else if (spl 47 p).all partS then 0 else 5
theorem pcheck_ok (p : List UInt8) : Sh.path_Check p = some (checkP p) := by
  apply Ok.eq
  unfold Sh.path_Check checkP
  simp only [ok_if, ok_some]
  refine ⟨fun h => by rw [if_pos (by omega)], fun h => ?_⟩
  rw [if_neg (by omega), split_ok 47 (by omega), Option.bind_some]
  have hpart := spl_part 47 p
  have hlen := spl_len 47 p
  have hcnt : p.count 47 ≤ p.length := List.count_le_length
  generalize spl 47 p = L at *
  refine ok_iter (I := fun i => 0 ≤ i ∧ i ≤ L.length ∧ (L.take i.toNat).all partS = true) (μ := fun i => (L.length - i).toNat) ?_ ⟨by omega, by omega, by simp⟩
  rintro i ⟨i0, i1, i2⟩
  simp only [ok_if, ok_up, ok_bd, ok_gd, ok_go, ok_some, ok_at]
  refine ⟨fun hi => ?_, fun hi => ?_⟩
  · obtain ⟨z, hz⟩ := at_get (l := L) i0 hi
    have := hpart z (List.mem_of_getElem? hz)
    refine ⟨i0, z, hz, Ok.of (part_ok (by omega)) ⟨fun hb => ?_, fun hg => ⟨⟨by omega, by omega⟩, ⟨by omega, by omega, ?_⟩, by omega⟩⟩⟩
    · rw [all_false (List.mem_of_getElem? hz) (by simpa using hb)]; rfl
    · rw [take_snoc i0 hz, all_snoc, i2]; simpa using hg
  · rw [show i.toNat = L.length by omega, List.take_length] at i2
    rw [i2]; rfl
def underS (p d : List UInt8) : Bool := if d = [] then !decide (p = []) else decide (d.length + 1 < p.length ∧ p.take (d.length + 1) = d ++ [47])
theorem under_ok {p d : List UInt8} (hd : d.length ≤ 1000000000) : Sh.path_Under p d = some (underS p d) := by
  apply Ok.eq
  unfold Sh.path_Under underS Sh.strings_HasPrefix Sh.internal_stringslite_HasPrefix
  simp only [ok_if, ok_some, ok_gd, ok_lt, ok_bd]
  refine ⟨fun h => by rw [if_pos h], fun h => ⟨⟨by omega, by omega⟩, fun hl => ⟨by simp; omega, ?_⟩, fun hl => ?_⟩⟩
  · rw [if_neg h]
    refine ⟨fun hp => ⟨⟨by omega, by simpa using hp⟩, ?_⟩, fun hp => ?_⟩
    · simp only [List.length_append, List.length_singleton]
      rw [show (((d.length + 1 : Nat)) : Int).toNat = d.length + 1 by omega]
      exact decide_eq_decide.2 ⟨fun q => ⟨by omega, q⟩, fun q => q.2⟩
    · simp at hp; omega
  · rw [if_neg h]
    symm; exact decide_eq_false (by omega)
theorem runder_ok {p d : List UInt8} (hd : d.length ≤ 1000000000) : Sh.rectoref1_Under p d = some (underS p d) := by
  apply Ok.eq
  unfold Sh.rectoref1_Under underS
  simp only [ok_if, ok_some, ok_gd, ok_lt, ok_bd, ok_at]
  refine ⟨fun h => by rw [if_pos h], fun h => ⟨⟨by omega, by omega⟩, fun hl => ⟨⟨by omega, by omega⟩, fun ht => ?_, fun ht => ?_⟩, fun hl => ?_⟩⟩
  · rw [if_neg h]
    rw [Int.toNat_natCast] at ht
    obtain ⟨z, hz⟩ := at_get (l := p) (i := d.length) (by omega) (by omega)
    refine ⟨by omega, z, hz, ?_⟩
    rw [Int.toNat_natCast] at hz
    rw [List.take_add_one, ht, hz]
    refine decide_eq_decide.2 ⟨fun q => ⟨by omega, ?_⟩, fun q => ?_⟩
    · have : z = 47 := (byte_eq (n := 47) (by decide)).1 q
      rw [this]; rfl
    · have := q.2
      simp at this
      rw [this]; rfl
  · rw [if_neg h]
    rw [Int.toNat_natCast] at ht
    symm
    refine decide_eq_false fun q => ht ?_
    have := congrArg (List.take d.length) q.2
    rw [List.take_take, Nat.min_eq_left (by omega), List.take_left] at this
    exact this
  · rw [if_neg h]
    symm; exact decide_eq_false (by omega)
def clashS (a b : List UInt8) : Bool := decide (a ≠ []) && decide (b ≠ []) && (underS a b || underS b a)
theorem clash_ok {a b : List UInt8} (ha : a.length ≤ 1000000000) (hb : b.length ≤ 1000000000) : Sh.path_Clash a b = some (clashS a b) := by
  apply Ok.eq
  unfold Sh.path_Clash clashS
  simp only [ok_if, ok_some, ok_bd, under_ok ha, under_ok hb]
  refine ⟨fun h => by simp [h], fun h => ⟨fun h2 => by simp [h2], fun h2 => ⟨fun h3 => by simp [h, h2, h3], fun h3 => by simp [h, h2, h3]⟩⟩⟩
theorem rclash_ok {a b : List UInt8} (ha : a.length ≤ 1000000000) (hb : b.length ≤ 1000000000) : Sh.rectoref1_Clash a b = some (clashS a b) := by
  apply Ok.eq
  unfold Sh.rectoref1_Clash clashS
  simp only [ok_if, ok_some, ok_bd, runder_ok ha, runder_ok hb]
  refine ⟨fun h => by simp [h], fun h => ⟨fun h2 => by simp [h2], fun h2 => ⟨fun h3 => by simp [h, h2, h3], fun h3 => by simp [h, h2, h3]⟩⟩⟩
end Go.S
end

section
namespace Go.S
open Go
set_option maxRecDepth 100000
theorem clone14 {l : List FilesFile} (h : l.length ≤ 4294967296) : Sh.slices_Clone_files_Row_files_File l = some l := by
  unfold Sh.slices_Clone_files_Row_files_File
  simp [lt, gd, h]
theorem clip14 (l : List FilesFile) : Sh.slices_Clip_files_Row_files_File l = some l := by
  unfold Sh.slices_Clip_files_Row_files_File
  simp [lt, gd]
theorem clipS14 (l : List (List UInt8)) : Sh.slices_Clip_string_string l = some l := by
  unfold Sh.slices_Clip_string_string
  simp [lt, gd]
theorem pcmp14 (a b : List UInt8) : Sh.path_Compare a b = some (if a < b then -1 else if b < a then 1 else 0) := by
  unfold Sh.path_Compare Sh.cmp_Compare_string Sh.cmp_isNaN_string
  simp only [Option.bind_some, decide_true, Bool.not_true, Bool.false_eq_true, if_false, Go.Proofs.bytesLess_eq, decide_eq_true_eq]
  by_cases h1 : a < b
  · simp [h1]
  · simp only [h1, if_false, decide_false, Bool.false_or]
    by_cases h2 : a = b
    · subst h2; simp [List.lt_irrefl]
    · have h3 : b < a := by
        by_cases q : b < a
        · exact q
        · exact absurd (List.le_antisymm (List.not_lt.1 q) (List.not_lt.1 h1)) h2
      simp [h2, h3]
theorem half_ok {s : Int} (h0 : 0 ≤ s) (h1 : s ≤ 4000000000) : IntKind.wrap .i64 (sHr .u64 (IntKind.wrap .u64 s) 1) = s / 2 := by
  have e1 : IntKind.wrap .u64 s = s := IntWalk.u64_in _ (by omega)
  rw [e1]
  have e2 : sHr .u64 s 1 = s / 2 := by
    unfold sHr
    show s.fdiv (2 ^ 1) = s / 2
    rw [Int.fdiv_eq_ediv_of_nonneg s (by decide)]
    rfl
  rw [e2]
  exact IntWalk.i64_in _ (by omega)
def R (l : List FilesFile) : Prop := l.Pairwise (fun a b => a.path < b.path)
theorem R.sub {l l' : List FilesFile} (h : R l) (s : l'.Sublist l) : R l' := List.Pairwise.sublist s h
theorem R.uniq {l : List FilesFile} (h : R l) {a b : FilesFile} (ha : a ∈ l) (hb : b ∈ l) (e : a.path = b.path) : a = b := by
  obtain ⟨i, hi⟩ := List.getElem?_of_mem ha
  obtain ⟨j, hj⟩ := List.getElem?_of_mem hb
  obtain ⟨hi1, hi2⟩ := List.getElem?_eq_some_iff.1 hi
  obtain ⟨hj1, hj2⟩ := List.getElem?_eq_some_iff.1 hj
  rcases Nat.lt_trichotomy i j with q | q | q
  · have := List.pairwise_iff_getElem.1 h i j hi1 hj1 q
    rw [hi2, hj2, e] at this
    exact absurd this (List.lt_irrefl _)
  · subst q; rw [← hi2, ← hj2]
  · have := List.pairwise_iff_getElem.1 h j i hj1 hi1 q
    rw [hi2, hj2, e] at this
    exact absurd this (List.lt_irrefl _)
theorem R.ext {l l' : List FilesFile} (h : R l) (h' : R l') (m : ∀ z, z ∈ l ↔ z ∈ l') : l = l' := by
  have nd : ∀ {l : List FilesFile}, R l → l.Nodup := fun {l} h => by
    unfold R at h
    exact List.Pairwise.imp (fun {a b} (q : a.path < b.path) (e : a = b) => List.lt_irrefl b.path (e ▸ q)) h
  refine List.Perm.eq_of_pairwise (le := fun a b => a.path ≤ b.path) (fun a b ha hb h1 h2 => h.uniq ha ((m b).2 hb) (List.le_antisymm h1 h2)) (h.imp fun q => List.le_of_lt q) (h'.imp fun q => List.le_of_lt q) ((List.perm_ext_iff_of_nodup (nd h) (nd h')).2 m)
def gt (l : List FilesFile) (p : List UInt8) : Option FilesFile := l.find? (fun f => decide (f.path = p))
theorem gt_some {l : List FilesFile} (h : R l) {p : List UInt8} {z : FilesFile} : gt l p = some z ↔ z ∈ l ∧ z.path = p := by
  unfold gt
  constructor
  · intro q
    exact ⟨List.mem_of_find?_eq_some q, by simpa using List.find?_some q⟩
  · rintro ⟨hz, rfl⟩
    cases hq : l.find? (fun f => decide (f.path = z.path)) with
    | none => have := List.find?_eq_none.1 hq z hz; simp at this
    | some y =>
      have h1 := List.mem_of_find?_eq_some hq
      have h2 : y.path = z.path := by simpa using List.find?_some hq
      rw [h.uniq h1 hz h2]
theorem gt_none {l : List FilesFile} {p : List UInt8} : gt l p = none ↔ ∀ z ∈ l, z.path ≠ p := by
  unfold gt
  rw [List.find?_eq_none]
  simp
theorem R.extg {l l' : List FilesFile} (h : R l) (h' : R l') (m : ∀ p, gt l p = gt l' p) : l = l' := h.ext h' fun z => by
  constructor
  · intro q
    have := (gt_some h).2 ⟨q, rfl⟩
    rw [m] at this
    exact ((gt_some h').1 this).1
  · intro q
    have := (gt_some h').2 ⟨q, rfl⟩
    rw [← m] at this
    exact ((gt_some h).1 this).1
structure At (x : List FilesFile) (p : List UInt8) (i : Int) : Prop where
  i0 : 0 ≤ i
  i1 : i ≤ x.length
  lo : ∀ f ∈ x.take i.toNat, f.path < p
  hi : ∀ f ∈ x.drop i.toNat, ¬ f.path < p
theorem R.take_lt {x : List FilesFile} (h : R x) {i : Nat} {z : FilesFile} (hz : x[i]? = some z) : ∀ f ∈ x.take i, f.path < z.path := fun f hf => by
  obtain ⟨j, hj⟩ := List.getElem?_of_mem hf
  rw [List.getElem?_take] at hj
  split at hj
  · next q =>
    obtain ⟨a1, a2⟩ := List.getElem?_eq_some_iff.1 hj
    obtain ⟨b1, b2⟩ := List.getElem?_eq_some_iff.1 hz
    have := List.pairwise_iff_getElem.1 h j i a1 b1 q
    rwa [a2, b2] at this
  · cases hj
theorem R.drop_gt {x : List FilesFile} (h : R x) {i : Nat} {z : FilesFile} (hz : x[i]? = some z) : ∀ f ∈ x.drop (i + 1), z.path < f.path := fun f hf => by
  obtain ⟨j, hj⟩ := List.getElem?_of_mem hf
  rw [List.getElem?_drop] at hj
  obtain ⟨a1, a2⟩ := List.getElem?_eq_some_iff.1 hj
  obtain ⟨b1, b2⟩ := List.getElem?_eq_some_iff.1 hz
  have := List.pairwise_iff_getElem.1 h i (i + 1 + j) b1 a1 (by omega)
  rwa [a2, b2] at this
theorem drop_cons' {α : Type} {x : List α} {i : Nat} {z : α} (hz : x[i]? = some z) : x.drop i = z :: x.drop (i + 1) := by
  obtain ⟨b1, b2⟩ := List.getElem?_eq_some_iff.1 hz
  rw [List.drop_eq_getElem_cons b1, b2]
theorem find14 {x : List FilesFile} (h : R x) (hb : x.length ≤ 100000000) (p : List UInt8) : Ok (Sh.files_Row_find x p) fun r => At x p r.1 ∧ (r.2 = true ↔ ∃ z, x[r.1.toNat]? = some z ∧ z.path = p) := by
  unfold Sh.files_Row_find Sh.slices_BinarySearchFunc_files_Row_files_File_string
  rw [ok_bd]
  refine ok_iter (I := fun t => 0 ≤ t.1 ∧ t.1 ≤ t.2 ∧ t.2 ≤ x.length ∧ (∀ f ∈ x.take t.1.toNat, f.path < p) ∧ (∀ f ∈ x.drop t.2.toNat, ¬ f.path < p)) (μ := fun t => (t.2 - t.1).toNat) ?_ ⟨by simp, by simp, by simp, by simp, by simp⟩
  rintro ⟨i, j⟩ ⟨i0, i1, i2, i3, i4⟩
  dsimp only at i0 i1 i2 i3 i4 ⊢
  simp only [ok_if, ok_up, ok_gd]
  refine ⟨fun hij => ⟨⟨by omega, by omega⟩, ?_⟩, fun hij => ?_⟩
  · rw [half_ok (by omega) (by omega)]
    obtain ⟨z, hz⟩ := at_get (l := x) (i := (i + j) / 2) (by omega) (by omega)
    rw [ok_bd, ok_at]
    refine ⟨by omega, z, hz, ?_⟩
    unfold Sh.files_Row_find_1
    rw [pcmp14, Option.bind_some, Option.bind_some]
    simp only [ok_if, ok_gd, ok_go]
    refine ⟨fun hc => ⟨⟨by omega, by omega⟩, ⟨by omega, by omega, by omega, fun f hf => ?_, i4⟩, by omega⟩, fun hc => ⟨⟨i0, by omega, by omega, i3, fun f hf => ?_⟩, by omega⟩⟩
    · have hzp : z.path < p := by
        by_cases q : z.path < p
        · exact q
        · rw [if_neg q] at hc; split at hc <;> omega
      rw [show ((i + j) / 2 + 1).toNat = ((i + j) / 2).toNat + 1 by omega, List.take_add_one, hz] at hf
      rcases List.mem_append.1 hf with q | q
      · exact List.lt_trans (h.take_lt hz f q) hzp
      · have : f = z := by simpa using q
        rw [this]; exact hzp
    · have hzp : ¬ z.path < p := fun q => hc (by rw [if_pos q]; omega)
      rw [drop_cons' hz] at hf
      rcases List.mem_cons.1 hf with q | q
      · rw [q]; exact hzp
      · intro hlt
        exact hzp (List.lt_trans (h.drop_gt hz f q) hlt)
  · have hji : j = i := by omega
    subst hji
    simp only [ok_bd, ok_at, ok_some]
    refine ⟨fun hl => ?_, fun hl => ⟨⟨i0, i2, i3, i4⟩, ?_⟩⟩
    · obtain ⟨z, hz⟩ := at_get (l := x) i0 hl
      refine ⟨i0, z, hz, ?_⟩
      unfold Sh.files_Row_find_1
      rw [pcmp14, Option.bind_some, ok_some]
      refine ⟨⟨i0, i2, i3, i4⟩, ?_⟩
      rw [decide_eq_true_eq]
      have hnl : ¬ z.path < p := i4 z (by rw [drop_cons' hz]; exact List.mem_cons_self ..)
      rw [if_neg hnl]
      constructor
      · intro q
        refine ⟨z, hz, ?_⟩
        by_cases hp : p < z.path
        · rw [if_pos hp] at q; omega
        · exact List.le_antisymm (List.not_lt.1 hp) (List.not_lt.1 hnl)
      · rintro ⟨y, hy, rfl⟩
        rw [hz] at hy; cases hy
        rw [if_neg (List.lt_irrefl _)]
    · simp only [Bool.false_eq_true, false_iff]
      rintro ⟨z, hz, _⟩
      have := get_lt hz
      omega
theorem At.none {x : List FilesFile} {p : List UInt8} {i : Int} (h : R x) (a : At x p i) (hn : ¬ ∃ z, x[i.toNat]? = some z ∧ z.path = p) : ∀ z ∈ x, z.path ≠ p := fun z hz e => by
  rw [← List.take_append_drop i.toNat x] at hz
  rcases List.mem_append.1 hz with q | q
  · exact List.lt_irrefl p (e ▸ a.lo z q)
  · obtain ⟨y, hy⟩ : ∃ y, x[i.toNat]? = some y := by
      cases hq : x[i.toNat]? with
      | some y => exact ⟨y, rfl⟩
      | none =>
        have := List.getElem?_eq_none_iff.1 hq
        rw [List.drop_of_length_le this] at q; cases q
    have hyp : y.path ≠ p := fun e' => hn ⟨y, hy, e'⟩
    rw [drop_cons' hy] at q
    rcases List.mem_cons.1 q with q | q
    · rw [q] at e; exact hyp e
    · have h1 := h.drop_gt hy z q
      rw [e] at h1
      have h2 := a.hi y (by rw [drop_cons' hy]; exact List.mem_cons_self ..)
      exact h2 h1
def getF (x : List FilesFile) (p : List UInt8) : FilesFile × Bool := match gt x p with | some f => (f, true) | none => (⟨[], 0, []⟩, false)
theorem getF_some {x : List FilesFile} {p : List UInt8} {f : FilesFile} (h : gt x p = some f) : getF x p = (f, true) := by unfold getF; rw [h]
theorem getF_none {x : List FilesFile} {p : List UInt8} (h : gt x p = none) : getF x p = (⟨[], 0, []⟩, false) := by unfold getF; rw [h]
theorem get14 {x : List FilesFile} (h : R x) (hb : x.length ≤ 100000000) (p : List UInt8) : Sh.files_Row_Get x p = some (getF x p) := by
  apply Ok.eq
  unfold Sh.files_Row_Get
  refine ok_bd.2 ((find14 h hb p).mono fun r ⟨ha, hr⟩ => ?_)
  simp only [ok_if, ok_some]
  refine ⟨fun hn => ?_, fun hn => ?_⟩
  · have hf : ¬ r.2 = true := by simpa using hn
    have := ha.none h fun q => hf (hr.2 q)
    rw [getF_none (gt_none.2 this)]
  · have hf : r.2 = true := by simpa using hn
    obtain ⟨z, hz, hp⟩ := hr.1 hf
    rw [ok_bd, ok_at]
    refine ⟨ha.i0, z, hz, ?_⟩
    rw [ok_some, getF_some ((gt_some h).2 ⟨List.mem_of_getElem? hz, hp⟩)]
def putF (r : List FilesFile) (f : FilesFile) : List FilesFile := r.filter (fun z => decide (z.path < f.path)) ++ [f] ++ r.filter (fun z => decide (f.path < z.path))
theorem put14 {x : List FilesFile} (h : R x) (hb : x.length ≤ 100000000) (f : FilesFile) : Sh.files_Row_Put x f = some (putF x f) := by
  apply Ok.eq
  unfold Sh.files_Row_Put
  rw [clone14 (by omega), Option.bind_some]
  refine ok_bd.2 ((find14 h hb f.path).mono fun r ⟨ha, hr⟩ => ?_)
  have hlo : x.filter (fun z => decide (z.path < f.path)) = x.take r.1.toNat := by
    conv => lhs; rw [← List.take_append_drop r.1.toNat x, List.filter_append]
    rw [List.filter_eq_self.2 fun z hz => decide_eq_true (ha.lo z hz), List.filter_eq_nil_iff.2 fun z hz => by simpa using ha.hi z hz, List.append_nil]
  have hlo2 : (x.take r.1.toNat).filter (fun z => decide (f.path < z.path)) = [] := List.filter_eq_nil_iff.2 fun z hz => by
    have := ha.lo z hz
    simp only [decide_eq_true_eq]
    exact fun q => List.lt_irrefl _ (List.lt_trans q this)
  simp only [ok_if]
  refine ⟨fun hf => ?_, fun hf => ?_⟩
  · obtain ⟨z, hz, hp⟩ := hr.1 hf
    have hlt := get_lt hz
    rw [ok_bd, ok_at]
    refine ⟨ha.i0, z, hz, ?_⟩
    simp only [ok_lt]
    rw [clip14, Option.bind_some, ok_some]
    unfold putF
    have hhi : x.filter (fun z => decide (f.path < z.path)) = x.drop (r.1.toNat + 1) := by
      conv => lhs; rw [← List.take_append_drop r.1.toNat x, List.filter_append, hlo2, List.nil_append, drop_cons' hz]
      rw [List.filter_cons_of_neg (by rw [hp]; simp [List.lt_irrefl])]
      exact List.filter_eq_self.2 fun y hy => decide_eq_true (by rw [← hp]; exact h.drop_gt hz y hy)
    rw [hlo, hhi]
    apply List.ext_getElem?
    intro j
    rw [List.getElem?_set]
    have hlen : (x.take r.1.toNat).length = r.1.toNat := by rw [List.length_take]; omega
    split
    · next q =>
      subst q
      rw [List.append_assoc, List.getElem?_append_right (by omega), hlen, Nat.sub_self]
      first | rw [if_pos hlt]; rfl | rfl
    · next q =>
      by_cases hj : j < r.1.toNat
      · rw [List.append_assoc, List.getElem?_append_left (by omega), List.getElem?_take, if_pos hj]
      · rw [List.append_assoc, List.getElem?_append_right (by omega), hlen, show j - r.1.toNat = (j - r.1.toNat - 1) + 1 by omega]
        simp only [List.singleton_append, List.getElem?_cons_succ, List.getElem?_drop]
        congr 1; omega
  · have hn := ha.none h fun q => hf (hr.2 q)
    simp only [ok_lt, ok_gd]
    refine ⟨⟨⟨ha.i0, ha.i1⟩, by simp, by simp; omega⟩, ?_⟩
    rw [clip14, Option.bind_some, ok_some]
    unfold putF
    have hhi : x.filter (fun z => decide (f.path < z.path)) = x.drop r.1.toNat := by
      conv => lhs; rw [← List.take_append_drop r.1.toNat x, List.filter_append, hlo2, List.nil_append]
      refine List.filter_eq_self.2 fun y hy => decide_eq_true ?_
      by_cases q : f.path < y.path
      · exact q
      · exact absurd (List.le_antisymm (List.not_lt.1 q) (List.not_lt.1 (ha.hi y hy))) (hn y (List.mem_of_mem_drop hy))
    rw [hlo, hhi]
theorem putF_mem (x : List FilesFile) (f z : FilesFile) : z ∈ putF x f ↔ z = f ∨ z ∈ x ∧ z.path ≠ f.path := by
  unfold putF
  simp only [List.mem_append, List.mem_singleton, List.mem_filter, decide_eq_true_eq]
  constructor
  · rintro ((⟨a, b⟩ | a) | ⟨a, b⟩)
    · exact .inr ⟨a, fun e => List.lt_irrefl _ (e ▸ b)⟩
    · exact .inl a
    · exact .inr ⟨a, fun e => List.lt_irrefl _ (e ▸ b)⟩
  · rintro (a | ⟨a, b⟩)
    · exact .inl (.inr a)
    · by_cases q : z.path < f.path
      · exact .inl (.inl ⟨a, q⟩)
      · by_cases q2 : f.path < z.path
        · exact .inr ⟨a, q2⟩
        · exact absurd (List.le_antisymm (List.not_lt.1 q2) (List.not_lt.1 q)) b
theorem putF_R {x : List FilesFile} (h : R x) (f : FilesFile) : R (putF x f) := by
  unfold putF R
  rw [List.append_assoc, List.pairwise_append]
  refine ⟨h.sub List.filter_sublist, ?_, fun a ha b hb => ?_⟩
  · refine List.pairwise_append.2 ⟨List.pairwise_singleton _ _, h.sub List.filter_sublist, fun a ha b hb => ?_⟩
    rw [List.mem_singleton.1 ha]
    exact of_decide_eq_true (List.mem_filter.1 hb).2
  · have h1 : a.path < f.path := of_decide_eq_true (List.mem_filter.1 ha).2
    rcases List.mem_append.1 hb with q | q
    · rw [List.mem_singleton.1 q]; exact h1
    · have h2 : f.path < b.path := of_decide_eq_true (List.mem_filter.1 q).2
      exact List.lt_trans h1 h2
end Go.S
end

section
namespace Go.S
open Go
def vF (f : FilesFile) : Prop := checkP f.path = 0 ∧ (f.mode = 1 ∨ f.mode = 2) ∧ f.data.length ≤ 4096
theorem checkP_len {p : List UInt8} (h : checkP p = 0) : p.length ≤ 64 := by
  unfold checkP at h
  split at h
  · omega
  · omega
structure GoodF (x : List FilesFile) : Prop where
  v : ∀ f ∈ x, vF f
  r : R x
  c : x.Pairwise (fun a b => clashS a.path b.path = false)
theorem GoodF.sub {l l' : List FilesFile} (h : GoodF l) (s : l'.Sublist l) : GoodF l' := ⟨fun f hf => h.v f (s.subset hf), h.r.sub s, List.Pairwise.sublist s h.c⟩
theorem clash_comm (a b : List UInt8) : clashS a b = clashS b a := by
  unfold clashS
  rw [Bool.or_comm (underS a b), Bool.and_comm (decide (a ≠ []))]
theorem clash_self (a : List UInt8) : clashS a a = false := by
  unfold clashS underS
  by_cases h : a = [] <;> simp [h]
  intro _
  omega
theorem fix14 (l : List FilesFile) (f : FilesFile) (hb : l.length ≤ 1000000000) (hl : ∀ z ∈ l, z.path.length ≤ 1000000000) (hf : f.path.length ≤ 1000000000) : Ok (Sh.slices_ContainsFunc_files_Row_files_File l f) (fun b => b = l.any fun y => clashS y.path f.path) := by
  unfold Sh.slices_ContainsFunc_files_Row_files_File Sh.slices_IndexFunc_files_Row_files_File_v3
  rw [ok_bd]
  refine (ixloop (fun y => clashS y.path f.path) l hb (fun y => Sh.files_Row_wrong_1 y f) (fun y hy => ?_) _ fun i => rfl).mono fun r hr => ?_
  · unfold Sh.files_Row_wrong_1
    rw [clash_ok (hl y hy) hf]; rfl
  · rw [ok_some, fst_any hr]
theorem wrong14 {x : List FilesFile} (hb : x.length ≤ 1000000) (hl : ∀ z ∈ x, z.path.length ≤ 1000000000) {i : Int} (i0 : 0 ≤ i) (hi : i < x.length) {z : FilesFile} (hz : x[i.toNat]? = some z) :
    Ok (Sh.files_Row_wrong x i) fun e => e = 0 ↔ vF z ∧ (∀ y, 0 < i → x[(i - 1).toNat]? = some y → y.path < z.path) ∧ ∀ y ∈ x.take i.toNat, clashS y.path z.path = false := by
  unfold Sh.files_Row_wrong
  have hzm := List.mem_of_getElem? hz
  rw [ok_bd, ok_at]
  refine ⟨i0, z, hz, ?_⟩
  rw [pcheck_ok, Option.bind_some]
  by_cases hc : checkP z.path = 0
  · rw [if_pos hc]
    refine ok_jnP (fun b => b = false ↔ (z.mode = 1 ∨ z.mode = 2)) ?_ ?_
    · intro b hbm
      simp only [ok_if, ok_some]
      refine ⟨fun h => ⟨fun q => absurd q (by omega), fun ⟨⟨_, m, _⟩, _⟩ => by rw [hbm.2 m] at h; cases h⟩, fun h => ⟨fun hd => ⟨fun q => absurd q (by omega), fun ⟨⟨_, _, q⟩, _⟩ => absurd q (by omega)⟩, fun hd => ?_⟩⟩
      have hm := hbm.1 (by simpa using h)
      have hd' : z.data.length ≤ 4096 := by omega
      refine ok_jnP (fun b => b = false ↔ (∀ y, 0 < i → x[(i - 1).toNat]? = some y → y.path < z.path)) ?_ ?_
      · intro b hbm
        simp only [ok_if, ok_some]
        refine ⟨fun h => ⟨fun q => absurd q (by omega), fun ⟨_, q, _⟩ => by rw [hbm.2 q] at h; cases h⟩, fun h => ?_⟩
        have hr := hbm.1 (by simpa using h)
        simp only [ok_gd, ok_lt]
        refine ⟨⟨i0, by omega⟩, ok_bd.2 ((fix14 (x.take i.toNat) z (by rw [List.length_take]; omega) (fun y hy => hl y (List.mem_of_mem_take hy)) (hl z hzm)).mono fun c hcc => ?_)⟩
        simp only [ok_if, ok_some]
        refine ⟨fun h => ⟨fun q => absurd q (by omega), fun ⟨_, _, q⟩ => ?_⟩, fun h => ⟨fun _ => ⟨⟨hc, hm, hd'⟩, hr, fun y hy => ?_⟩, fun _ => (by first | rfl | trivial)⟩⟩
        · rw [hcc] at h
          obtain ⟨y, hy, hy2⟩ := List.any_eq_true.1 h
          rw [q y hy] at hy2; cases hy2
        · cases hq : clashS y.path z.path with
          | false => rfl
          | true => exact absurd (hcc.trans (List.any_eq_true.2 ⟨y, hy, hq⟩)) h
      · intro K hK
        simp only [ok_if, ok_gd]
        refine ⟨fun h => ⟨⟨by omega, by omega⟩, ?_⟩, fun h => hK _ ⟨fun _ y q => absurd q h, fun _ => rfl⟩⟩
        obtain ⟨y, hy⟩ := at_get (l := x) (i := i - 1) (by omega) (by omega)
        rw [ok_bd, ok_at]
        refine ⟨by omega, y, hy, ?_⟩
        rw [pcmp14, Option.bind_some]
        refine hK _ ?_
        rw [decide_eq_false_iff_not]
        constructor
        · intro q y' _ hy'
          rw [hy] at hy'; cases hy'
          by_cases q2 : y.path < z.path
          · exact q2
          · rw [if_neg q2] at q; split at q <;> omega
        · intro q
          rw [if_pos (q y h hy)]; omega
    · intro K hK
      simp only [ok_if]
      refine ⟨fun h => hK _ ⟨fun _ => .inl h, fun _ => rfl⟩, fun h => hK _ ⟨fun q => .inr (by simpa using q), fun q => ?_⟩⟩
      rcases q with q | q
      · exact absurd q h
      · simp [q]
  · rw [if_neg hc, ok_some]
    exact ⟨fun h => absurd h hc, fun ⟨⟨h, _⟩, _⟩ => absurd h hc⟩
theorem goodF_snoc {x : List FilesFile} {i : Int} (i0 : 0 ≤ i) {z : FilesFile} (hz : x[i.toNat]? = some z) (hg : GoodF (x.take i.toNat)) (hv : vF z) (hr : ∀ y, 0 < i → x[(i - 1).toNat]? = some y → y.path < z.path) (hc : ∀ y ∈ x.take i.toNat, clashS y.path z.path = false) : GoodF (x.take (i + 1).toNat) := by
  rw [take_snoc i0 hz]
  have hlt : ∀ a ∈ x.take i.toNat, a.path < z.path := fun a ha => by
    have hpos : 0 < i := by
      rcases Int.lt_or_le 0 i with q | q
      · exact q
      · rw [show i.toNat = 0 by omega] at ha; simp at ha
    have hil := get_lt hz
    obtain ⟨y, hy⟩ := at_get (l := x) (i := i - 1) (by omega) (by omega)
    have hyz := hr y hpos hy
    have he : x.take i.toNat = x.take (i - 1).toNat ++ [y] := by
      have := take_snoc (l := x) (i := i - 1) (by omega) hy
      rwa [show i - 1 + 1 = i by omega] at this
    rw [he] at ha
    rcases List.mem_append.1 ha with q | q
    · have hR := hg.r
      rw [he] at hR
      have := (List.pairwise_append.1 hR).2.2 a q y (List.mem_singleton_self _)
      exact List.lt_trans this hyz
    · rw [List.mem_singleton.1 q]; exact hyz
  refine ⟨fun f hf => ?_, List.pairwise_append.2 ⟨hg.r, List.pairwise_singleton _ _, fun a ha b hb => ?_⟩, List.pairwise_append.2 ⟨hg.c, List.pairwise_singleton _ _, fun a ha b hb => ?_⟩⟩
  · rcases List.mem_append.1 hf with q | q
    · exact hg.v f q
    · rw [List.mem_singleton.1 q]; exact hv
  · rw [List.mem_singleton.1 hb]; exact hlt a ha
  · rw [List.mem_singleton.1 hb]; exact hc a ha
theorem check14 {x : List FilesFile} (hb : x.length ≤ 1000000) (hl : ∀ z ∈ x, z.path.length ≤ 1000000000) : Ok (Sh.files_Row_Check x) fun e => e.isNil = true ↔ x.length ≤ 64 ∧ GoodF x := by
  unfold Sh.files_Row_Check
  simp only [ok_if, ok_some]
  refine ⟨fun h => ⟨fun q => (by cases q), fun q => absurd q.1 (by omega)⟩, fun h64 => ?_⟩
  refine ok_iter (I := fun i => 0 ≤ i ∧ i ≤ x.length ∧ GoodF (x.take i.toNat)) (μ := fun i => (x.length - i).toNat) ?_ ⟨by omega, by omega, ⟨fun f h => (by simp at h), by simp [R], by simp⟩⟩
  rintro i ⟨i0, i1, hg⟩
  simp only [ok_if, ok_up, ok_some]
  refine ⟨fun hi => ?_, fun hi => ?_⟩
  · obtain ⟨z, hz⟩ := at_get (l := x) i0 hi
    refine ok_bd.2 ((wrong14 hb hl i0 hi hz).mono fun e he => ?_)
    simp only [ok_if, ok_gd, ok_go, ok_up, ok_some]
    refine ⟨fun h => ⟨⟨by omega, by omega⟩, ⟨by omega, by omega, ?_⟩, by omega⟩, fun h => ⟨fun q => (by cases q), fun ⟨_, q⟩ => absurd (he.2 ?_) h⟩⟩
    · obtain ⟨a, b, c⟩ := he.1 h
      exact goodF_snoc i0 hz hg a b c
    · refine ⟨q.v z (List.mem_of_getElem? hz), fun y hpos hy => ?_, fun y hy => ?_⟩
      · exact q.r.take_lt hz y (List.mem_of_getElem? (i := (i - 1).toNat) (by rw [List.getElem?_take, if_pos (by omega)]; exact hy))
      · obtain ⟨j, hj⟩ := List.getElem?_of_mem hy
        rw [List.getElem?_take] at hj
        split at hj
        · next hlt =>
          have h1 := (List.getElem?_eq_some_iff.1 hj)
          have h2 := (List.getElem?_eq_some_iff.1 hz)
          have := List.pairwise_iff_getElem.1 q.c j i.toNat h1.1 h2.1 hlt
          rwa [h1.2, h2.2] at this
        · cases hj
  · rw [List.take_of_length_le (by omega)] at hg
    exact ⟨fun _ => ⟨by omega, hg⟩, fun _ => rfl⟩
theorem cut14 {l : List FilesFile} (p : List UInt8) (hb : l.length ≤ 1000000000) : Sh.files_Row_Cut l p = some (l.filter fun z => !decide (z.path = p)) := by
  unfold Sh.files_Row_Cut
  rw [clone14 (by omega), Option.bind_some]
  have hix : Ok (Sh.slices_IndexFunc_files_Row_files_File l p) (Fst (fun z => decide (z.path = p)) l) := by
    unfold Sh.slices_IndexFunc_files_Row_files_File
    exact ixloop (fun z => decide (z.path = p)) l hb (fun z => Sh.files_Row_Cut_1 z p) (fun z hz => rfl) _ fun i => rfl
  have : Sh.slices_DeleteFunc_files_Row_files_File l p = some (l.filter fun z => !decide (z.path = p)) := by
    unfold Sh.slices_DeleteFunc_files_Row_files_File
    exact del_ok (fun z => decide (z.path = p)) l hb (fun z => Sh.files_Row_Cut_1 z p) (fun z hz => rfl) _ hix _ fun t => rfl
  rw [this, Option.bind_some, clip14]
  rfl
theorem clear14 {l : List FilesFile} (p : List UInt8) (hb : l.length ≤ 1000000000) (hl : ∀ z ∈ l, z.path.length ≤ 1000000000) (hp : p.length ≤ 1000000000) : Sh.files_Row_Clear l p = some (l.filter fun z => !clashS z.path p) := by
  unfold Sh.files_Row_Clear
  rw [clone14 (by omega), Option.bind_some]
  have hF : ∀ z ∈ l, Sh.files_Row_Clear_1 z p = some (clashS z.path p) := fun z hz => by
    unfold Sh.files_Row_Clear_1
    rw [clash_ok (hl z hz) hp]; rfl
  have hix : Ok (Sh.slices_IndexFunc_files_Row_files_File_v2 l p) (Fst (fun z => clashS z.path p) l) := by
    unfold Sh.slices_IndexFunc_files_Row_files_File_v2
    exact ixloop (fun z => clashS z.path p) l hb (fun z => Sh.files_Row_Clear_1 z p) hF _ fun i => rfl
  have : Sh.slices_DeleteFunc_files_Row_files_File_v2 l p = some (l.filter fun z => !clashS z.path p) := by
    unfold Sh.slices_DeleteFunc_files_Row_files_File_v2
    exact del_ok (fun z => clashS z.path p) l hb (fun z => Sh.files_Row_Clear_1 z p) hF _ hix _ fun t => rfl
  rw [this, Option.bind_some, clip14]
  rfl
theorem same14 (l r : List FilesFile) (hb : l.length ≤ 1000000000) : Sh.files_Row_Same l r = some (decide (l = r)) := by
  unfold Sh.files_Row_Same
  have : Sh.slices_Equal_files_Row_files_File l r = some (decide (l = r)) := by
    unfold Sh.slices_Equal_files_Row_files_File
    split
    · next h => exact eqloop (fun z w => z.path = w.path ∧ z.mode = w.mode ∧ z.data = w.data) (fun z w => by cases z; cases w; simp) l r h (by omega) _ fun i => rfl
    · next h => exact congrArg some (decide_eq_false fun e => h (by rw [e])).symm
  rw [this]; rfl
theorem few14 (l : List FilesFile) : Ok (Sh.rectolaw14_Few l) fun b => b = true → l.length ≤ 80 ∧ ∀ f ∈ l, f.path.length ≤ 100 := by
  unfold Sh.rectolaw14_Few
  simp only [ok_if, ok_some]
  refine ⟨fun _ h => (by cases h), fun hl => ?_⟩
  refine ok_iter (I := fun i => 0 ≤ i ∧ i ≤ l.length ∧ ∀ f ∈ l.take i.toNat, f.path.length ≤ 100) (μ := fun i => (l.length - i).toNat) ?_ ⟨by omega, by omega, by simp⟩
  rintro i ⟨i0, i1, i2⟩
  simp only [ok_if, ok_up, ok_some]
  refine ⟨fun hi => ?_, fun hi _ => ⟨by omega, by rw [List.take_of_length_le (by omega)] at i2; exact i2⟩⟩
  obtain ⟨z, hz⟩ := at_get (l := l) i0 hi
  refine ok_jnP (fun b => b = false → z.path.length ≤ 100) ?_ ?_
  · intro b hb
    simp only [ok_if, ok_up, ok_gd, ok_go, ok_some]
    refine ⟨fun _ h => (by cases h), fun h => ⟨⟨by omega, by omega⟩, ⟨by omega, by omega, fun f hf => ?_⟩, by omega⟩⟩
    rw [take_snoc i0 hz] at hf
    rcases List.mem_append.1 hf with q | q
    · exact i2 f q
    · rw [List.mem_singleton.1 q]; exact hb (by simpa using h)
  · intro K hK
    simp only [ok_bd, ok_at, ok_if]
    exact ⟨i0, z, hz, fun _ => hK _ fun h => (by cases h), fun h => ⟨i0, z, hz, hK _ fun _ => by omega⟩⟩
end Go.S
end

section
namespace Go.S
open Go
def PathsOf (ls : List (List FilesFile)) (r : List (List UInt8)) : Prop := r.Pairwise (· < ·) ∧ ∀ x, x ∈ r ↔ ∃ l ∈ ls, ∃ f ∈ l, f.path = x
theorem strict_ext {l l' : List (List UInt8)} (h : l.Pairwise (· < ·)) (h' : l'.Pairwise (· < ·)) (m : ∀ z, z ∈ l ↔ z ∈ l') : l = l' := by
  have nd : ∀ {l : List (List UInt8)}, l.Pairwise (· < ·) → l.Nodup := fun {l} h => h.imp (fun {a b} (q : a < b) (e : a = b) => List.lt_irrefl b (e ▸ q))
  exact List.Perm.eq_of_pairwise (le := fun a b => a ≤ b) (fun a b _ _ h1 h2 => List.le_antisymm h1 h2) (h.imp fun q => List.le_of_lt q) (h'.imp fun q => List.le_of_lt q) ((List.perm_ext_iff_of_nodup (nd h) (nd h')).2 m)
theorem paths14 (ls : List (List FilesFile)) (hn : ls.length ≤ 8) (hl : ∀ l ∈ ls, l.length ≤ 1000000 ∧ ∀ f ∈ l, f.path.length ≤ 1000000) : Ok (Sh.files_Paths ls) (fun r => PathsOf ls r ∧ r.length ≤ 8000000) := by
  unfold Sh.files_Paths
  refine ok_iter (I := fun t => 0 ≤ t.1 ∧ t.1 ≤ ls.length ∧ (t.2.length : Int) ≤ t.1 * 1000000 ∧ ∀ x, x ∈ t.2 ↔ ∃ l ∈ ls.take t.1.toNat, ∃ f ∈ l, f.path = x) (μ := fun t => (ls.length - t.1).toNat) ?_ ⟨by simp, by simp, by simp, by simp⟩
  rintro ⟨i, acc⟩ ⟨i0, i1, i2, i3⟩
  dsimp only at i0 i1 i2 i3 ⊢
  simp only [ok_if, ok_up, ok_bd, ok_at]
  refine ⟨fun hi => ?_, fun hi => ?_⟩
  · obtain ⟨l, hz⟩ := at_get (l := ls) i0 hi
    have hll := hl l (List.mem_of_getElem? hz)
    refine ⟨i0, l, hz, ?_⟩
    have hmul : (i + 1) * 1000000 = i * 1000000 + 1000000 := by rw [Int.add_mul]; omega
    have hle : i * 1000000 ≤ 8000000 := by omega
    refine ok_iter (I := fun t => 0 ≤ t.1 ∧ t.1 ≤ l.length ∧ (t.2.length : Int) ≤ i * 1000000 + t.1 ∧ ∀ x, x ∈ t.2 ↔ (∃ l ∈ ls.take i.toNat, ∃ f ∈ l, f.path = x) ∨ ∃ f ∈ l.take t.1.toNat, f.path = x) (μ := fun t => (l.length - t.1).toNat) ?_ ⟨by simp, by simp, by simpa using i2, by simpa using i3⟩
    rintro ⟨j, acc2⟩ ⟨j0, j1, j2, j3⟩
    dsimp only at j0 j1 j2 j3 ⊢
    simp only [ok_if, ok_up, ok_bd, ok_at, ok_gd, ok_lt, ok_go]
    refine ⟨fun hj => ?_, fun hj => ⟨⟨by omega, by omega⟩, ⟨by omega, by omega, by omega, fun x => ?_⟩, by omega⟩⟩
    · obtain ⟨f, hf⟩ := at_get (l := l) j0 hj
      have hfl := hll.2 f (List.mem_of_getElem? hf)
      refine ⟨j0, f, hf, ⟨by omega, by omega⟩, ⟨by omega, by omega⟩, ⟨by omega, by omega, by simp only [List.length_cons]; omega, fun x => ?_⟩, by omega⟩
      rw [List.mem_cons, j3, take_snoc j0 hf]
      constructor
      · rintro (q | q | ⟨g, hg, q⟩)
        · exact .inr ⟨f, by simp, q.symm⟩
        · exact .inl q
        · exact .inr ⟨g, List.mem_append_left _ hg, q⟩
      · rintro (q | ⟨g, hg, q⟩)
        · exact .inr (.inl q)
        · rcases List.mem_append.1 hg with h | h
          · exact .inr (.inr ⟨g, h, q⟩)
          · rw [List.mem_singleton.1 h] at q; exact .inl q.symm
    · rw [List.take_of_length_le (l := l) (i := j.toNat) (by omega)] at j3
      rw [j3, take_snoc i0 hz]
      constructor
      · rintro (⟨m, hm, q⟩ | q)
        · exact ⟨m, List.mem_append_left _ hm, q⟩
        · exact ⟨l, List.mem_append_right _ (List.mem_singleton_self _), q⟩
      · rintro ⟨m, hm, q⟩
        rcases List.mem_append.1 hm with h | h
        · exact .inl ⟨m, h, q⟩
        · rw [List.mem_singleton.1 h] at q; exact .inr q
  · rw [List.take_of_length_le (by omega)] at i3
    simp only [ok_gd, ok_lt]
    refine ⟨by omega, ?_⟩
    rw [clipS14, Option.bind_some, ok_some]
    exact ⟨⟨keysS_lt acc, fun x => (keysS_mem acc x).trans (i3 x)⟩, by have := keysS_len acc; omega⟩
end Go.S
end

section
namespace Go.S
open Go
theorem filter2_len {α : Type} (p q : α → Bool) (l : List α) (h : ∀ z ∈ l, p z = true → q z = false) : (l.filter p).length + (l.filter q).length ≤ l.length := by
  induction l with
  | nil => simp
  | cons a r ih =>
    have ih' := ih fun z hz => h z (List.mem_cons_of_mem _ hz)
    have ha := h a (List.mem_cons_self ..)
    cases hp : p a with
    | true => have hq := ha hp; simp [List.filter_cons, hp, hq]; omega
    | false => cases hq : q a <;> simp [List.filter_cons, hp, hq] <;> omega
theorem putF_len1 (x : List FilesFile) (f : FilesFile) : (putF x f).length ≤ x.length + 1 := by
  unfold putF
  have := filter2_len (fun z : FilesFile => decide (z.path < f.path)) (fun z => decide (f.path < z.path)) x (fun z _ h => by
    have h' : z.path < f.path := of_decide_eq_true h
    exact decide_eq_false fun q => List.lt_irrefl _ (List.lt_trans h' q))
  simp only [List.length_append, List.length_cons, List.length_nil]; omega
theorem gt_put {l : List FilesFile} (h : R l) (f : FilesFile) (q : List UInt8) : gt (putF l f) q = if q = f.path then some f else gt l q := by
  have hR := putF_R h f
  split
  · next e => exact (gt_some hR).2 ⟨(putF_mem l f f).2 (.inl rfl), e.symm⟩
  · next e =>
    cases hg : gt l q with
    | none =>
      refine gt_none.2 fun z hz hq => ?_
      rcases (putF_mem l f z).1 hz with a | ⟨a, _⟩
      · rw [a] at hq; exact e hq.symm
      · exact gt_none.1 hg z a hq
    | some z =>
      obtain ⟨a, b⟩ := (gt_some h).1 hg
      exact (gt_some hR).2 ⟨(putF_mem l f z).2 (.inr ⟨a, fun c => e (b.symm.trans c)⟩), b⟩
end Go.S
end

section
namespace Go.S
open Go
def toF (f : FilesFile) : Rectoref14File := ⟨f.path, f.mode, f.data⟩
def ofF (f : Rectoref14File) : FilesFile := ⟨f.path, f.mode, f.data⟩
theorem mapF_at {l : List FilesFile} {i : Nat} {z : FilesFile} (h : l[i]? = some z) : (l.map toF)[i]? = some (toF z) := by rw [List.getElem?_map, h]; rfl
theorem toF_inj {a b : List FilesFile} (h : a.map toF = b.map toF) : a = b := by
  have := congrArg (List.map ofF) h
  rw [List.map_map, List.map_map, show ofF ∘ toF = id from rfl, List.map_id, List.map_id] at this
  exact this
theorem of14 (l : List FilesFile) (hb : l.length ≤ 1000000000) : Sh.rectolaw14_Of l = some (l.map toF) := by
  apply Ok.eq
  unfold Sh.rectolaw14_Of
  refine ok_iter (I := fun t => 0 ≤ t.2 ∧ t.2 ≤ l.length ∧ t.1 = (l.take t.2.toNat).map toF) (μ := fun t => (l.length - t.2).toNat) ?_ ⟨by simp, by simp, by simp⟩
  rintro ⟨o, i⟩ ⟨i0, i1, i2⟩
  dsimp only at i0 i1 i2 ⊢
  have hol : o.length ≤ i.toNat := by rw [i2, List.length_map, List.length_take]; omega
  simp only [ok_if, ok_up, ok_bd, ok_at, ok_lt, ok_gd, ok_go, ok_some]
  refine ⟨fun hi => ?_, fun hi => ?_⟩
  · obtain ⟨z, hz⟩ := at_get (l := l) i0 hi
    refine ⟨i0, z, hz, i0, z, hz, i0, z, hz, by simp; omega, ⟨by omega, by omega⟩, ⟨by omega, by omega, ?_⟩, by omega⟩
    rw [i2, take_snoc i0 hz, List.map_append]; rfl
  · rw [i2, List.take_of_length_le (by omega)]
abbrev loF (x : List FilesFile) (f : FilesFile) : List FilesFile := x.filter (fun z => decide (z.path < f.path))
abbrev hiF (x : List FilesFile) (f : FilesFile) : List FilesFile := x.filter (fun z => decide (f.path < z.path))
theorem putr14 {x : List FilesFile} (h : R x) (hb : x.length ≤ 100000000) (f : FilesFile) : Sh.rectoref14_Put (x.map toF) (toF f) = some ((putF x f).map toF) := by
  apply Ok.eq
  unfold Sh.rectoref14_Put
  refine ok_iter (I := fun t => 0 ≤ t.2.2 ∧ t.2.2 ≤ x.length ∧ t.1 = (loF (x.take t.2.2.toNat) f ++ (if t.2.1 = true then [f] else []) ++ hiF (x.take t.2.2.toNat) f).map toF ∧ (t.2.1 = false → ∀ z ∈ x.take t.2.2.toNat, z.path < f.path) ∧ (t.2.1 = true → ∀ z ∈ x.drop t.2.2.toNat, f.path < z.path)) (μ := fun t => (x.length - t.2.2).toNat) ?_ ⟨by simp, by simp, by simp, by simp, by simp⟩
  rintro ⟨o, u, i⟩ ⟨i0, i1, i2, i3, i4⟩
  dsimp only at i0 i1 i2 i3 i4 ⊢
  have hl1 : (loF (x.take i.toNat) f).length ≤ _ := List.length_filter_le (fun z : FilesFile => decide (z.path < f.path)) (x.take i.toNat)
  have hl2 : (hiF (x.take i.toNat) f).length ≤ _ := List.length_filter_le (fun z : FilesFile => decide (f.path < z.path)) (x.take i.toNat)
  have hl4 : (loF (x.take i.toNat) f).length + (hiF (x.take i.toNat) f).length ≤ (x.take i.toNat).length := filter2_len _ _ _ (fun z _ h => by
    have h' : z.path < f.path := of_decide_eq_true h
    exact decide_eq_false fun q => List.lt_irrefl _ (List.lt_trans h' q))
  have hl3 : (x.take i.toNat).length ≤ x.length := by rw [List.length_take]; omega
  have hol : ∀ (v : Bool), ((loF (x.take i.toNat) f ++ (if v = true then [f] else []) ++ hiF (x.take i.toNat) f).map toF).length ≤ 2 * x.length + 1 := by
    intro v
    rw [List.length_map, List.length_append, List.length_append]
    cases v <;> simp only [if_true, if_false, Bool.false_eq_true, List.length_cons, List.length_nil] <;> omega
  simp only [ok_if, ok_up, List.length_map]
  refine ⟨fun hi => ?_, fun hi => ?_⟩
  · obtain ⟨z, hz⟩ := at_get (l := x) i0 hi
    have hzm := mapF_at hz
    have hdz : x.drop i.toNat = z :: x.drop (i + 1).toNat := by rw [show (i + 1).toNat = i.toNat + 1 by omega]; exact drop_cons' hz
    have hgz : ∀ y ∈ x.drop (i + 1).toNat, z.path < y.path := by rw [show (i + 1).toNat = i.toNat + 1 by omega]; exact h.drop_gt hz
    have hsn := take_snoc i0 hz
    refine ok_jnP (fun w => w.1 = (loF (x.take (i + 1).toNat) f ++ (if w.2 = true then [f] else []) ++ hiF (x.take (i + 1).toNat) f).map toF ∧ (w.2 = false → ∀ z ∈ x.take (i + 1).toNat, z.path < f.path) ∧ (w.2 = true → ∀ z ∈ x.drop (i + 1).toNat, f.path < z.path)) ?_ ?_
    · rintro ⟨w1, w2⟩ ⟨a1, a2, a3⟩
      simp only [ok_gd, ok_go]
      exact ⟨⟨by omega, by omega⟩, ⟨by omega, by omega, a1, a2, a3⟩, by omega⟩
    · intro K7 hK7
      refine ok_jnP (fun w => w.1 = (loF (x.take i.toNat) f ++ (if w.2 = true then [f] else []) ++ hiF (x.take i.toNat) f).map toF ∧ (w.2 = false → z.path < f.path ∧ ∀ z ∈ x.take i.toNat, z.path < f.path) ∧ (w.2 = true → ¬ z.path < f.path)) ?_ ?_
      · rintro ⟨w1, w2⟩ ⟨a1, a2, a3⟩
        dsimp only at a1 a2 a3 ⊢
        have hw := hol w2
        rw [← a1] at hw
        simp only [ok_bd, ok_at, ok_if, ok_lt, ok_gd]
        refine ⟨i0, toF z, hzm, fun he => ?_, fun he => ⟨i0, toF z, hzm, by simp; omega, ?_⟩⟩
        · have he : z.path = f.path := he
          have hw2 : w2 = true := by
            cases w2 with
            | true => rfl
            | false => have := (a2 rfl).1; rw [he] at this; exact absurd this (List.lt_irrefl _)
          refine hK7 _ ⟨?_, fun q => absurd q (by rw [hw2]; simp), fun _ y hy => (by rw [← he]; exact hgz y hy)⟩
          rw [a1, hsn]
          simp [List.filter_append, he, List.lt_irrefl]
        · have he : ¬ z.path = f.path := he
          cases w2 with
          | true =>
            have hnz := a3 rfl
            have hfz : f.path < z.path := by
              by_cases q : f.path < z.path
              · exact q
              · exact absurd (List.le_antisymm (List.not_lt.1 q) (List.not_lt.1 hnz)) he
            refine hK7 _ ⟨?_, fun q => (by cases q), fun _ y hy => List.lt_trans hfz (hgz y hy)⟩
            rw [a1, hsn]
            simp [List.filter_append, hnz, hfz, toF]
          | false =>
            obtain ⟨b1, b2⟩ := a2 rfl
            have hnf : ¬ f.path < z.path := fun q => List.lt_irrefl _ (List.lt_trans q b1)
            have hnil : hiF (x.take i.toNat) f = [] := List.filter_eq_nil_iff.2 fun y hy => by
              have := b2 y hy
              simp only [decide_eq_true_eq]
              exact fun q => List.lt_irrefl _ (List.lt_trans q this)
            refine hK7 _ ⟨?_, fun _ y hy => ?_, fun q => (by cases q)⟩
            · rw [a1, hsn]
              have hnil' : (x.take i.toNat).filter (fun z => decide (f.path < z.path)) = [] := hnil
              simp [List.filter_append, b1, hnf, hnil', toF]
            · rw [hsn] at hy
              rcases List.mem_append.1 hy with q | q
              · exact b2 y q
              · rw [List.mem_singleton.1 q]; exact b1
      · intro K10 hK10
        refine ok_jnP (fun w => w = true ↔ u = false ∧ ¬ z.path < f.path) ?_ ?_
        · intro w hw
          have hwo := hol u
          rw [← i2] at hwo
          simp only [ok_if, ok_lt, ok_gd]
          refine ⟨fun q => ?_, fun q => ?_⟩
          · obtain ⟨hu, hnz⟩ := hw.1 q
            refine ⟨by simp; omega, hK10 _ ⟨?_, fun q => (by cases q), fun _ => hnz⟩⟩
            have hnil : (x.take i.toNat).filter (fun z => decide (f.path < z.path)) = [] := List.filter_eq_nil_iff.2 fun y hy => by
              have := i3 hu y hy
              simp only [decide_eq_true_eq]
              exact fun q => List.lt_irrefl _ (List.lt_trans q this)
            rw [i2, hu]
            simp [hnil, toF]
          · refine hK10 _ ⟨i2, fun hu => ?_, fun hu => ?_⟩
            · refine ⟨?_, i3 hu⟩
              by_cases hz' : z.path < f.path
              · exact hz'
              · exact absurd (hw.2 ⟨hu, hz'⟩) q
            · have := i4 hu z (by rw [hdz]; exact List.mem_cons_self ..)
              exact fun q => List.lt_irrefl _ (List.lt_trans q this)
        · intro K12 hK12
          simp only [ok_if, ok_bd, ok_at, Go.Proofs.bytesLess_eq]
          refine ⟨fun hu => ⟨i0, toF z, hzm, hK12 _ ?_⟩, fun hu => hK12 _ ?_⟩
          · have : (toF z).path = z.path := rfl
            have h2 : (toF f).path = f.path := rfl
            rw [this, h2]
            simp at hu
            simp [hu]
          · simp at hu
            simp [hu]
  · rw [List.take_of_length_le (by omega)] at i2 i3
    have hw := hol u
    rw [List.take_of_length_le (l := x) (by omega)] at hw
    rw [← i2] at hw
    simp only [ok_lt, ok_gd, ok_some]
    unfold putF
    cases u with
    | true =>
      refine ⟨fun h => (by simp at h), fun _ => ?_⟩
      rw [i2]; simp
    | false =>
      have hnil : x.filter (fun z => decide (f.path < z.path)) = [] := List.filter_eq_nil_iff.2 fun y hy => by
        have := i3 rfl y hy
        simp only [decide_eq_true_eq]
        exact fun q => List.lt_irrefl _ (List.lt_trans q this)
      refine ⟨fun _ => ⟨by simp; omega, ?_⟩, fun h => absurd rfl h⟩
      rw [i2]; simp [hnil, toF]
theorem getr14 (x : List FilesFile) (hb : x.length ≤ 1000000000) (p : List UInt8) : Sh.rectoref14_Get (x.map toF) p = some (toF (getF x p).1, (getF x p).2) := by
  apply Ok.eq
  unfold Sh.rectoref14_Get
  refine ok_iter (I := fun i => 0 ≤ i ∧ i ≤ x.length ∧ ∀ z ∈ x.take i.toNat, z.path ≠ p) (μ := fun i => (x.length - i).toNat) ?_ ⟨by omega, by omega, by simp⟩
  rintro i ⟨i0, i1, i2⟩
  simp only [ok_if, ok_up, ok_bd, ok_at, ok_gd, ok_go, ok_some, List.length_map]
  refine ⟨fun hi => ?_, fun hi => ?_⟩
  · obtain ⟨z, hz⟩ := at_get (l := x) i0 hi
    refine ⟨i0, toF z, mapF_at hz, fun hp => ⟨i0, toF z, mapF_at hz, ?_⟩, fun hp => ⟨⟨by omega, by omega⟩, ⟨by omega, by omega, fun y hy => ?_⟩, by omega⟩⟩
    · have hp : z.path = p := hp
      have : gt x p = some z := by
        unfold gt
        rw [← List.take_append_drop i.toNat x, List.find?_append, List.find?_eq_none.2 (fun y hy => by simpa using i2 y hy), drop_cons' hz]
        simp [hp]
      rw [getF_some this]
    · rw [take_snoc i0 hz] at hy
      rcases List.mem_append.1 hy with q | q
      · exact i2 y q
      · rw [List.mem_singleton.1 q]; exact hp
  · rw [List.take_of_length_le (by omega)] at i2
    rw [getF_none (gt_none.2 i2)]
    try rfl
theorem samer14 (a b : List FilesFile) (la : a.length ≤ 1000000000) : Sh.rectoref14_Same (a.map toF) (b.map toF) = some (decide (a = b)) := by
  unfold Sh.rectoref14_Same
  have hd : decide (a.map toF = b.map toF) = decide (a = b) := decide_eq_decide.2 ⟨toF_inj, fun h => by rw [h]⟩
  rw [← hd]
  split
  · next h => exact eqloop (fun z w => z.path = w.path ∧ z.mode = w.mode ∧ z.data = w.data) (fun z w => by cases z; cases w; simp) _ _ h (by simp; omega) _ fun i => rfl
  · next h => exact congrArg some (decide_eq_false fun e => h (by rw [e])).symm
theorem texts14 (a b : List (List UInt8)) (la : a.length ≤ 1000000000) : Sh.rectolaw1_Texts a b = some (decide (a = b)) := by
  unfold Sh.rectolaw1_Texts
  have : Sh.rectolaw1_texts a b = some (decide (a = b)) := by
    unfold Sh.rectolaw1_texts
    split
    · next h => exact eqloop (fun z w => z = w) (fun z w => Iff.rfl) _ _ h (by omega) _ fun i => rfl
    · next h => exact congrArg some (decide_eq_false fun e => h (by rw [e])).symm
  rw [this]; rfl
theorem pathsr14 (ls : List (List FilesFile)) (hn : ls.length ≤ 8) (hl : ∀ l ∈ ls, l.length ≤ 1000000) : Ok (Sh.rectoref14_Paths (ls.map (·.map toF))) (fun r => PathsOf ls r ∧ r.length ≤ 8000000) := by
  unfold Sh.rectoref14_Paths
  refine ok_iter (I := fun t => 0 ≤ t.2 ∧ t.2 ≤ ls.length ∧ ∃ acc : List FilesFile, t.1 = acc.map toF ∧ R acc ∧ (acc.length : Int) ≤ t.2 * 1000000 ∧ ∀ x, (∃ f ∈ acc, f.path = x) ↔ ∃ l ∈ ls.take t.2.toNat, ∃ f ∈ l, f.path = x) (μ := fun t => (ls.length - t.2).toNat) ?_ ⟨by simp, by simp, [], by simp, by simp [R], by simp, by simp⟩
  rintro ⟨r, i⟩ ⟨i0, i1, acc, rfl, i2, i3, i4⟩
  dsimp only at i0 i1 i3 i4 ⊢
  simp only [ok_if, ok_up, List.length_map]
  refine ⟨fun hi => ?_, fun hi => ?_⟩
  · obtain ⟨l, hz⟩ := at_get (l := ls) i0 hi
    have hll := hl l (List.mem_of_getElem? hz)
    have hzm : (ls.map (·.map toF))[i.toNat]? = some (l.map toF) := by rw [List.getElem?_map, hz]; rfl
    have hmul : (i + 1) * 1000000 = i * 1000000 + 1000000 := by rw [Int.add_mul]; omega
    have hle : i * 1000000 ≤ 8000000 := by omega
    refine ok_iter (I := fun t => 0 ≤ t.2 ∧ t.2 ≤ l.length ∧ ∃ acc : List FilesFile, t.1 = acc.map toF ∧ R acc ∧ (acc.length : Int) ≤ i * 1000000 + t.2 ∧ ∀ x, (∃ f ∈ acc, f.path = x) ↔ (∃ l ∈ ls.take i.toNat, ∃ f ∈ l, f.path = x) ∨ ∃ f ∈ l.take t.2.toNat, f.path = x) (μ := fun t => (l.length - t.2).toNat) ?_ ⟨by simp, by simp, acc, rfl, i2, by simpa using i3, by simpa using i4⟩
    rintro ⟨r2, j⟩ ⟨j0, j1, acc2, rfl, j2, j3, j4⟩
    dsimp only at j0 j1 j3 j4 ⊢
    rw [ok_bd, ok_at]
    refine ⟨i0, _, hzm, ?_⟩
    simp only [ok_if, List.length_map]
    refine ⟨fun hj => ?_, fun hj => ?_⟩
    · obtain ⟨f, hf⟩ := at_get (l := l) j0 hj
      rw [ok_bd, ok_at]
      refine ⟨i0, _, hzm, ?_⟩
      rw [ok_bd, ok_at]
      refine ⟨j0, toF f, mapF_at hf, ?_⟩
      have hput := putr14 j2 (by omega) ⟨f.path, 0, []⟩
      rw [show (⟨(toF f).path, 0, []⟩ : Rectoref14File) = toF ⟨f.path, 0, []⟩ from rfl, hput, Option.bind_some]
      have hpl := putF_len1 acc2 ⟨f.path, 0, []⟩
      simp only [ok_gd, ok_go]
      refine ⟨⟨by omega, by omega⟩, ⟨by omega, by omega, _, rfl, putF_R j2 _, by omega, fun x => ?_⟩, by omega⟩
      rw [take_snoc j0 hf]
      have h4 := j4 x
      constructor
      · rintro ⟨g, hg, q⟩
        rcases (putF_mem _ _ _).1 hg with e | ⟨e, _⟩
        · rw [e] at q; exact .inr ⟨f, by simp, q⟩
        · rcases h4.1 ⟨g, e, q⟩ with e' | ⟨k, hk, e'⟩
          · exact .inl e'
          · exact .inr ⟨k, List.mem_append_left _ hk, e'⟩
      · intro q
        by_cases hx : f.path = x
        · exact ⟨_, (putF_mem _ _ _).2 (.inl rfl), hx⟩
        · have : (∃ l ∈ ls.take i.toNat, ∃ f ∈ l, f.path = x) ∨ ∃ f ∈ l.take j.toNat, f.path = x := by
            rcases q with q | ⟨k, hk, q⟩
            · exact .inl q
            · rcases List.mem_append.1 hk with e | e
              · exact .inr ⟨k, e, q⟩
              · rw [List.mem_singleton.1 e] at q; exact absurd q hx
          obtain ⟨g, hg, e⟩ := h4.2 this
          exact ⟨g, (putF_mem _ _ _).2 (.inr ⟨hg, fun e' => hx (e'.symm.trans e)⟩), e⟩
    · simp only [ok_up, ok_gd, ok_go]
      refine ⟨⟨by omega, by omega⟩, ⟨by omega, by omega, acc2, rfl, j2, by omega, fun x => ?_⟩, by omega⟩
      rw [List.take_of_length_le (l := l) (i := j.toNat) (by omega)] at j4
      rw [j4, take_snoc i0 hz]
      constructor
      · rintro (⟨m, hm, q⟩ | q)
        · exact ⟨m, List.mem_append_left _ hm, q⟩
        · exact ⟨l, List.mem_append_right _ (List.mem_singleton_self _), q⟩
      · rintro ⟨m, hm, q⟩
        rcases List.mem_append.1 hm with h | h
        · exact .inl ⟨m, h, q⟩
        · rw [List.mem_singleton.1 h] at q; exact .inr q
  · rw [List.take_of_length_le (by omega)] at i4
    have hle : i * 1000000 ≤ 8000000 := by omega
    refine ok_iter (I := fun t => 0 ≤ t.2 ∧ t.2 ≤ acc.length ∧ t.1 = (acc.take t.2.toNat).map (·.path)) (μ := fun t => (acc.length - t.2).toNat) ?_ ⟨by simp, by simp, by simp⟩
    rintro ⟨o, j⟩ ⟨j0, j1, j2⟩
    dsimp only at j0 j1 j2 ⊢
    have hol : o.length ≤ j.toNat := by rw [j2, List.length_map, List.length_take]; omega
    simp only [ok_if, ok_up, ok_bd, ok_at, ok_lt, ok_gd, ok_go, ok_some]
    refine ⟨fun hj => ?_, fun hj => ?_⟩
    · obtain ⟨f, hf⟩ := at_get (l := acc) j0 hj
      refine ⟨j0, toF f, mapF_at hf, by simp; omega, ⟨by omega, by omega⟩, ⟨by omega, by omega, ?_⟩, by omega⟩
      rw [j2, take_snoc j0 hf, List.map_append]; rfl
    · rw [List.take_of_length_le (by omega)] at j2
      refine ⟨⟨by rw [j2]; exact List.pairwise_map.2 i2, fun x => ?_⟩, by omega⟩
      rw [← i4, j2, List.mem_map]
end Go.S
end

section
namespace Go.S
open Go
theorem gt_clear {l : List FilesFile} (h : R l) (p q : List UInt8) : gt (l.filter fun z => !clashS z.path p) q = if clashS q p = true then none else gt l q := by
  have hR : R (l.filter fun z => !clashS z.path p) := h.sub List.filter_sublist
  split
  · next e =>
    refine gt_none.2 fun z hz hq => ?_
    have := (List.mem_filter.1 hz).2
    rw [hq, e] at this
    cases this
  · next e =>
    cases hg : gt l q with
    | none => exact gt_none.2 fun z hz hq => gt_none.1 hg z (List.mem_filter.1 hz).1 hq
    | some z =>
      obtain ⟨a, b⟩ := (gt_some h).1 hg
      exact (gt_some hR).2 ⟨List.mem_filter.2 ⟨a, by rw [b]; simp [e]⟩, b⟩
def stepF (x : List FilesFile) (f : FilesFile) : List FilesFile := putF (x.filter fun z => !clashS z.path f.path) f
theorem stepF_R {x : List FilesFile} (h : R x) (f : FilesFile) : R (stepF x f) := putF_R (h.sub List.filter_sublist) f
theorem stepF_len (x : List FilesFile) (f : FilesFile) : (stepF x f).length ≤ x.length + 1 := by
  unfold stepF
  have := putF_len1 (x.filter fun z => !clashS z.path f.path) f
  have := List.length_filter_le (fun z : FilesFile => !clashS z.path f.path) x
  omega
theorem stepF_mem {x : List FilesFile} {f z : FilesFile} (h : z ∈ stepF x f) : z = f ∨ z ∈ x := by
  rcases (putF_mem _ f z).1 h with q | ⟨q, _⟩
  · exact .inl q
  · exact .inr (List.mem_filter.1 q).1
theorem gt_step {x : List FilesFile} (h : R x) (f : FilesFile) (q : List UInt8) : gt (stepF x f) q = if q = f.path then some f else if clashS q f.path = true then none else gt x q := by
  unfold stepF
  rw [gt_put (h.sub List.filter_sublist) f q, gt_clear h]
def forceF (to acc : List FilesFile) : List FilesFile := to.foldl stepF acc
theorem force_R : ∀ (to acc : List FilesFile), R acc → R (forceF to acc)
  | [], _, h => h
  | f :: r, _, h => force_R r _ (stepF_R h f)
theorem force_len : ∀ (to acc : List FilesFile), (forceF to acc).length ≤ acc.length + to.length
  | [], acc => by simp [forceF]
  | f :: r, acc => by
    have := force_len r (stepF acc f)
    have := stepF_len acc f
    show (forceF r (stepF acc f)).length ≤ _
    simp only [List.length_cons]; omega
theorem force_mem : ∀ (to acc : List FilesFile) (z : FilesFile), z ∈ forceF to acc → z ∈ to ∨ z ∈ acc
  | [], _, _, h => .inr h
  | f :: r, acc, z, h => by
    rcases force_mem r (stepF acc f) z h with q | q
    · exact .inl (List.mem_cons_of_mem _ q)
    · rcases stepF_mem q with q | q
      · exact .inl (q ▸ List.mem_cons_self ..)
      · exact .inr q
theorem force_keep : ∀ (to acc : List FilesFile), R acc → ∀ {q : List UInt8} {g : FilesFile}, gt acc q = some g → (∀ f ∈ to, f.path ≠ q ∧ clashS q f.path = false) → gt (forceF to acc) q = some g
  | [], _, _, _, _, hg, _ => hg
  | f :: r, acc, h, q, g, hg, hn => by
    refine force_keep r (stepF acc f) (stepF_R h f) ?_ fun z hz => hn z (List.mem_cons_of_mem _ hz)
    obtain ⟨a, b⟩ := hn f (List.mem_cons_self ..)
    rw [gt_step h, if_neg fun e => a e.symm, if_neg (by rw [b]; decide), hg]
theorem force_get : ∀ (to acc : List FilesFile), R acc → GoodF to → ∀ f ∈ to, gt (forceF to acc) f.path = some f
  | [], _, _, _, _, hf => (by cases hf)
  | a :: r, acc, h, hg, f, hf => by
    have hgr : GoodF r := hg.sub (List.sublist_cons_self a r)
    rcases List.mem_cons.1 hf with rfl | q
    · refine force_keep r _ (stepF_R h f) (by rw [gt_step h, if_pos rfl]) fun z hz => ⟨fun e => ?_, ?_⟩
      · have := (List.pairwise_cons.1 hg.r).1 z hz
        rw [e] at this
        exact List.lt_irrefl _ this
      · exact (List.pairwise_cons.1 hg.c).1 z hz
    · exact force_get r _ (stepF_R h a) hgr f q
def cutsF (ps : List (List UInt8)) (x : List FilesFile) : List FilesFile := ps.foldl (fun x p => x.filter fun z => !decide (z.path = p)) x
theorem cuts_eq : ∀ (ps : List (List UInt8)) (x : List FilesFile), cutsF ps x = x.filter fun z => !decide (z.path ∈ ps)
  | [], x => by simp [cutsF, List.filter_eq_self.2]
  | p :: r, x => by
    show cutsF r _ = _
    rw [cuts_eq r, List.filter_filter]
    congr 1
    funext z
    by_cases a : z.path = p <;> by_cases b : z.path ∈ r <;> simp [a, b]
theorem cuts_R {x : List FilesFile} (h : R x) (ps : List (List UInt8)) : R (cutsF ps x) := by
  rw [cuts_eq]; exact h.sub List.filter_sublist
theorem cuts_len (ps : List (List UInt8)) (x : List FilesFile) : (cutsF ps x).length ≤ x.length := by
  rw [cuts_eq]; exact List.length_filter_le _ _
theorem gt_cuts {x : List FilesFile} (h : R x) (ps : List (List UInt8)) (q : List UInt8) : gt (cutsF ps x) q = if q ∈ ps then none else gt x q := by
  have hR := cuts_R h ps
  rw [cuts_eq] at hR ⊢
  split
  · next e =>
    refine gt_none.2 fun z hz hq => ?_
    have := (List.mem_filter.1 hz).2
    rw [hq] at this
    simp [e] at this
  · next e =>
    cases hg : gt x q with
    | none => exact gt_none.2 fun z hz hq => gt_none.1 hg z (List.mem_filter.1 hz).1 hq
    | some z =>
      obtain ⟨a, b⟩ := (gt_some h).1 hg
      exact (gt_some hR).2 ⟨List.mem_filter.2 ⟨a, by simp [b, e]⟩, b⟩
def putO (x : List FilesFile) : Option FilesFile → List FilesFile
  | some f => putF x f
  | none => x
def putsF (rf : List FilesFile) (ps : List (List UInt8)) (x : List FilesFile) : List FilesFile := ps.foldl (fun x p => putO x (gt rf p)) x
theorem putO_R {x : List FilesFile} (h : R x) (o : Option FilesFile) : R (putO x o) := by
  cases o with
  | none => exact h
  | some f => exact putF_R h f
theorem putO_len (x : List FilesFile) (o : Option FilesFile) : (putO x o).length ≤ x.length + 1 := by
  cases o with
  | none => simp [putO]
  | some f => exact putF_len1 x f
theorem puts_R {rf : List FilesFile} : ∀ (ps : List (List UInt8)) (x : List FilesFile), R x → R (putsF rf ps x)
  | [], _, h => h
  | p :: r, _, h => puts_R r _ (putO_R h (gt rf p))
theorem puts_len {rf : List FilesFile} : ∀ (ps : List (List UInt8)) (x : List FilesFile), (putsF rf ps x).length ≤ x.length + ps.length
  | [], x => by simp [putsF]
  | p :: r, x => by
    have := puts_len (rf := rf) r (putO x (gt rf p))
    have := putO_len x (gt rf p)
    show (putsF rf r (putO x (gt rf p))).length ≤ _
    simp only [List.length_cons]; omega
theorem gt_path {rf : List FilesFile} {p : List UInt8} {f : FilesFile} (h : gt rf p = some f) : f.path = p := by simpa using List.find?_some h
theorem gt_putO {rf x : List FilesFile} (h : R x) (p q : List UInt8) : gt (putO x (gt rf p)) q = if q = p ∧ gt rf p ≠ none then gt rf p else gt x q := by
  cases hp : gt rf p with
  | none => simp [putO]
  | some f =>
    have e := gt_path hp
    show gt (putF x f) q = _
    rw [gt_put h, e]
    by_cases hq : q = p <;> simp [hq]
theorem gt_puts {rf : List FilesFile} : ∀ (ps : List (List UInt8)) (x : List FilesFile), R x → ∀ q, gt (putsF rf ps x) q = if q ∈ ps ∧ gt rf q ≠ none then gt rf q else gt x q
  | [], x, _, q => by simp [putsF]
  | p :: r, x, h, q => by
    show gt (putsF rf r (putO x (gt rf p))) q = _
    rw [gt_puts r _ (putO_R h _), gt_putO h]
    by_cases a : q = p
    · subst a
      by_cases b : gt rf q = none <;> simp [b]
    · simp [a]
theorem gt_laid {rf x : List FilesFile} (h : R x) (ps : List (List UInt8)) (q : List UInt8) : gt (putsF rf ps (cutsF ps x)) q = if q ∈ ps then gt rf q else gt x q := by
  rw [gt_puts ps _ (cuts_R h ps), gt_cuts h]
  by_cases a : q ∈ ps
  · by_cases b : gt rf q = none <;> simp [a, b]
  · simp [a]
end Go.S
end

section
namespace Go.S
open Go
theorem clone15 {l : List IndexEntry} (h : l.length ≤ 4294967296) : Sh.slices_Clone_index_Entry_index_Entry l = some l := by
  unfold Sh.slices_Clone_index_Entry_index_Entry
  simp [lt, gd, h]
theorem clip15 (l : List IndexEntry) : Sh.slices_Clip_index_Entry_index_Entry l = some l := by
  unfold Sh.slices_Clip_index_Entry_index_Entry
  simp [lt, gd]
def givesS (e x : IndexEntry) : Bool := clashS x.path e.path || (decide (x.path = e.path) && (if e.stage = 1 ∨ e.stage = 2 ∨ e.stage = 3 then decide (x.stage = 0) || decide (x.stage = e.stage) else true))
theorem gives_ok {x e : IndexEntry} (hx : x.path.length ≤ 1000000000) (he : e.path.length ≤ 1000000000) : Sh.index_Put_1 x e = some (givesS e x) := by
  unfold Sh.index_Put_1 Sh.index_gives
  rw [clash_ok hx he]
  simp only [Option.bind_some, jn]
  unfold givesS
  cases clashS x.path e.path with
  | true => simp
  | false =>
    by_cases h1 : x.path = e.path
    · simp only [h1, if_true, Bool.false_eq_true, if_false, decide_true, Bool.true_and, Bool.false_or]
      by_cases a : e.stage = 1
      · by_cases b : x.stage = 0 <;> simp [a, b]
      by_cases a2 : e.stage = 2
      · by_cases b : x.stage = 0 <;> simp [a2, b]
      by_cases a3 : e.stage = 3
      · by_cases b : x.stage = 0 <;> simp [a3, b]
      simp [a, a2, a3]
    · simp [h1]
theorem ix15 (l : List IndexEntry) (e : IndexEntry) (hb : l.length ≤ 1000000000) (hl : ∀ z ∈ l, z.path.length ≤ 1000000000) (he : e.path.length ≤ 1000000000) : Ok (Sh.slices_IndexFunc_index_Entry_index_Entry_v2 l e) (Fst (givesS e) l) := by
  unfold Sh.slices_IndexFunc_index_Entry_index_Entry_v2
  exact ixloop (givesS e) l hb (fun z => Sh.index_Put_1 z e) (fun z hz => gives_ok (hl z hz) he) _ fun i => rfl
theorem del15 (l : List IndexEntry) (e : IndexEntry) (hb : l.length ≤ 1000000000) (hl : ∀ z ∈ l, z.path.length ≤ 1000000000) (he : e.path.length ≤ 1000000000) : Sh.slices_DeleteFunc_index_Entry_index_Entry_v2 l e = some (l.filter fun z => !givesS e z) := by
  unfold Sh.slices_DeleteFunc_index_Entry_index_Entry_v2
  exact del_ok (givesS e) l hb (fun z => Sh.index_Put_1 z e) (fun z hz => gives_ok (hl z hz) he) _ (ix15 l e hb hl he) _ fun t => rfl
theorem ixd15 (l : List IndexEntry) (p : List UInt8) (hb : l.length ≤ 1000000000) : Ok (Sh.slices_IndexFunc_index_Entry_index_Entry l p) (Fst (fun z => decide (z.path = p)) l) := by
  unfold Sh.slices_IndexFunc_index_Entry_index_Entry
  exact ixloop (fun z => decide (z.path = p)) l hb (fun z => Sh.index_Drop_1 z p) (fun z hz => rfl) _ fun i => rfl
theorem drop15 (l : List IndexEntry) (p : List UInt8) (hb : l.length ≤ 1000000000) : Sh.index_Drop l p = some (l.filter fun z => !decide (z.path = p)) := by
  unfold Sh.index_Drop
  rw [clone15 (by omega), Option.bind_some]
  have : Sh.slices_DeleteFunc_index_Entry_index_Entry l p = some (l.filter fun z => !decide (z.path = p)) := by
    unfold Sh.slices_DeleteFunc_index_Entry_index_Entry
    exact del_ok (fun z => decide (z.path = p)) l hb (fun z => Sh.index_Drop_1 z p) (fun z hz => rfl) _ (ixd15 l p hb) _ fun t => rfl
  rw [this, Option.bind_some, clip15]
  rfl
def lt2 (a b : IndexEntry) : Prop := a.path < b.path ∨ a.path = b.path ∧ a.stage < b.stage
def bf (a b : IndexEntry) : Bool := Op.bytesLess a.path b.path || (decide (a.path = b.path) && decide (a.stage < b.stage))
theorem bf_iff (a b : IndexEntry) : bf a b = true ↔ lt2 a b := by
  unfold bf lt2
  simp [Go.Proofs.bytesLess_eq]
theorem lt2_trans {a b c : IndexEntry} (h : lt2 a b) (k : lt2 b c) : lt2 a c := by
  rcases h with h | ⟨h, h'⟩ <;> rcases k with k | ⟨k, k'⟩
  · exact .inl (List.lt_trans h k)
  · exact .inl (k ▸ h)
  · exact .inl (h ▸ k)
  · exact .inr ⟨h.trans k, by omega⟩
theorem pcmp_ok (a b : List UInt8) : Sh.path_Compare a b = some (if a < b then -1 else if b < a then 1 else 0) := by
  unfold Sh.path_Compare Sh.cmp_Compare_string Sh.cmp_isNaN_string
  simp only [Option.bind_some, decide_true, Bool.not_true, Bool.false_eq_true, if_false, Go.Proofs.bytesLess_eq, decide_eq_true_eq]
  by_cases h1 : a < b
  · simp [h1]
  · simp only [h1, if_false, decide_false, Bool.false_or]
    by_cases h2 : a = b
    · subst h2; simp [List.lt_irrefl]
    · have h3 : b < a := by
        by_cases q : b < a
        · exact q
        · exact absurd (List.le_antisymm (List.not_lt.1 q) (List.not_lt.1 h1)) h2
      simp [h2, h3]
theorem icmp_ok (a b : Int) : Sh.cmp_Compare_int a b = some (if a < b then -1 else if b < a then 1 else 0) := by
  unfold Sh.cmp_Compare_int Sh.cmp_isNaN_int
  simp only [Option.bind_some, decide_true, Bool.not_true, Bool.false_eq_true, if_false]
  split
  · rfl
  · split <;> rfl
theorem or_ok (a b : Int) : Sh.cmp_Or_int [a, b] = some (if a = 0 then b else a) := by
  apply Ok.eq
  unfold Sh.cmp_Or_int
  refine ok_iter (I := fun i => i = 0 ∨ a = 0 ∧ (i = 1 ∨ b = 0 ∧ i = 2)) (μ := fun i => (2 - i).toNat) ?_ (.inl rfl)
  intro i hi
  simp only [ok_if, ok_up, ok_bd, ok_gd, ok_go, ok_some, ok_at, List.length_cons, List.length_nil]
  rcases hi with rfl | ⟨ha, rfl | ⟨hb, rfl⟩⟩
  · refine ⟨fun _ => ⟨by omega, a, rfl, fun h => ⟨⟨by omega, by omega⟩, .inr ⟨h, .inl rfl⟩, by omega⟩, fun h => by rw [if_neg h]⟩, fun h => absurd (by omega) h⟩
  · refine ⟨fun _ => ⟨by omega, b, rfl, fun h => ⟨⟨by omega, by omega⟩, .inr ⟨ha, .inr ⟨h, rfl⟩⟩, by omega⟩, fun h => by rw [if_pos ha]⟩, fun h => absurd (by omega) h⟩
  · refine ⟨fun h => absurd h (by omega), fun _ => by rw [if_pos ha, hb]⟩
theorem cmp15 (a b : IndexEntry) : ∃ n, Sh.index_compare a b = some n ∧ (n < 0 ↔ lt2 a b) := by
  unfold Sh.index_compare
  rw [pcmp_ok, Option.bind_some, icmp_ok, Option.bind_some]
  simp only [lt]
  rw [or_ok]
  refine ⟨_, rfl, ?_⟩
  unfold lt2
  by_cases h1 : a.path < b.path
  · simp [h1]
  · by_cases h2 : b.path < a.path
    · have : a.path ≠ b.path := fun e => List.lt_irrefl _ (e ▸ h2)
      simp [h1, h2, this]
    · have he : a.path = b.path := List.le_antisymm (List.not_lt.1 h2) (List.not_lt.1 h1)
      have hi : ¬ b.path < b.path := List.lt_irrefl _
      simp only [he, hi, if_false, if_true, false_or, true_and]
      by_cases h3 : a.stage < b.stage
      · simp [h3]
      · simp only [h3, if_false, iff_false]
        split <;> omega
def putP (l : List IndexEntry) (e : IndexEntry) : List IndexEntry := (l.filter fun z => !givesS e z).takeWhile (bf · e) ++ [e] ++ (l.filter fun z => !givesS e z).dropWhile (bf · e)
theorem tw_snoc {α : Type} {p : α → Bool} {l : List α} {i : Nat} (h : i < l.length) (hall : ∀ z ∈ l.take i, p z = true) (hz : ∀ z, l[i]? = some z → p z = false) : l.takeWhile p = l.take i ∧ l.dropWhile p = l.drop i := by
  have e : l = l.take i ++ l.drop i := (List.take_append_drop i l).symm
  obtain ⟨z, hz'⟩ : ∃ z, l[i]? = some z := ⟨_, List.getElem?_eq_getElem h⟩
  have hd : l.drop i = z :: l.drop (i + 1) := by
    rw [List.drop_eq_getElem_cons h]
    congr 1
    rw [List.getElem?_eq_getElem h] at hz'
    exact Option.some.inj hz'
  have hp := hz z hz'
  constructor
  · conv => lhs; rw [e, List.takeWhile_append_of_pos hall, hd, List.takeWhile_cons_of_neg (by simp [hp]), List.append_nil]
  · conv => lhs; rw [e, List.dropWhile_append_of_pos hall, hd, List.dropWhile_cons_of_neg (by simp [hp])]
    exact hd.symm
theorem tw_all {α : Type} {p : α → Bool} {l : List α} (hall : ∀ z ∈ l, p z = true) : l.takeWhile p = l ∧ l.dropWhile p = [] := by
  have h1 := List.takeWhile_append_of_pos (l₂ := []) hall
  have h2 := List.dropWhile_append_of_pos (l₂ := []) hall
  simp only [List.append_nil, List.takeWhile_nil, List.dropWhile_nil] at h1 h2
  exact ⟨h1, h2⟩
theorem put15 (l : List IndexEntry) (e : IndexEntry) (hb : l.length ≤ 1000000) (hl : ∀ z ∈ l, z.path.length ≤ 1000000000) (he : e.path.length ≤ 1000000000) : Sh.index_Put l e = some (putP l e) := by
  apply Ok.eq
  unfold Sh.index_Put
  rw [clone15 (by omega), Option.bind_some, del15 l e (by omega) hl he, Option.bind_some]
  unfold putP
  have hlen : (l.filter fun z => !givesS e z).length ≤ 1000000 := Nat.le_trans (List.length_filter_le _ _) hb
  generalize l.filter (fun z => !givesS e z) = y at hlen ⊢
  refine ok_jnP (fun i => 0 ≤ i ∧ i ≤ y.length ∧ y.takeWhile (bf · e) = y.take i.toNat ∧ y.dropWhile (bf · e) = y.drop i.toNat) ?_ ?_
  · rintro i ⟨h1, h2, h3, h4⟩
    simp only [ok_lt, ok_gd]
    refine ⟨⟨⟨h1, h2⟩, by simp, by simp; omega⟩, ?_⟩
    rw [clip15, Option.bind_some, ok_some, h3, h4]
  · intro K hK
    refine ok_iter (I := fun i => 0 ≤ i ∧ i ≤ y.length ∧ ∀ z ∈ y.take i.toNat, bf z e = true) (μ := fun i => (y.length - i).toNat) ?_ ⟨by omega, by omega, by simp⟩
    rintro i ⟨i0, i1, i2⟩
    simp only [ok_if, ok_up, ok_bd, ok_some, ok_at]
    refine ⟨fun hi => ?_, fun hi => ?_⟩
    · obtain ⟨z, hz⟩ := at_get i0 hi
      obtain ⟨n, hn, hn2⟩ := cmp15 z e
      refine ⟨i0, z, hz, ?_⟩
      rw [hn, ok_some]
      refine ⟨fun h => ?_, fun h => ?_⟩
      · simp only [ok_gd, ok_go]
        refine ⟨⟨by omega, by omega⟩, ⟨by omega, by omega, fun w hw => ?_⟩, by omega⟩
        rw [take_snoc i0 hz] at hw
        rcases List.mem_append.1 hw with q | q
        · exact i2 w q
        · rw [List.mem_singleton.1 q]; exact (bf_iff z e).2 (hn2.1 h)
      · have := tw_snoc (p := (bf · e)) (l := y) (i := i.toNat) (by omega) i2 (fun w hw => by
          rw [hz] at hw; cases hw
          cases hq : bf z e with
          | false => rfl
          | true => exact absurd (hn2.2 ((bf_iff z e).1 hq)) h)
        exact hK i ⟨i0, i1, this.1, this.2⟩
    · rw [List.take_of_length_le (by omega)] at i2
      have := tw_all i2
      exact hK i ⟨i0, i1, by rw [this.1, List.take_of_length_le (by omega)], by rw [this.2, List.drop_of_length_le (by omega)]⟩
end Go.S
end

section
namespace Go.S
open Go
def toE (x : IndexEntry) : Rectoref14Entry := ⟨x.path, x.stage, x.mode, x.data, x.time, x.size⟩
theorem of15 {l : List IndexEntry} (h : l.length ≤ 1000000) : Sh.rectolaw15_Of l = some (l.map toE) := by
  apply Ok.eq
  unfold Sh.rectolaw15_Of
  refine ok_iter (I := fun t => 0 ≤ t.2 ∧ t.2 ≤ l.length ∧ t.1 = (l.take t.2.toNat).map toE) (μ := fun t => (l.length - t.2).toNat) ?_ ⟨by simp, by simp, by simp⟩
  rintro ⟨o, i⟩ ⟨i0, i1, i2⟩
  dsimp only at i0 i1 i2 ⊢
  simp only [ok_if, ok_up, ok_bd, ok_gd, ok_lt, ok_go, ok_some, ok_at]
  refine ⟨fun hi => ?_, fun hi => ?_⟩
  · obtain ⟨x, hx⟩ := at_get (l := l) i0 hi
    refine ⟨i0, x, hx, ?_, ⟨by omega, by omega⟩, ⟨by omega, by omega, ?_⟩, by omega⟩
    · rw [i2]; simp only [List.length_map, List.length_take, List.length_cons, List.length_nil]; omega
    · rw [take_snoc i0 hx, List.map_append, i2]; rfl
  · rw [i2, List.take_of_length_le (by omega)]
end Go.S
end

section
namespace Go.S
open Go
def vE (e : IndexEntry) : Prop := checkP e.path = 0 ∧ 0 ≤ e.stage ∧ e.stage ≤ 3 ∧ (e.mode = 1 ∨ e.mode = 2) ∧ e.data.length ≤ 4096 ∧ 0 ≤ e.time ∧ 0 ≤ e.size
def rel15 (a b : IndexEntry) : Prop := lt2 a b ∧ ¬ (a.path = b.path ∧ (a.stage = 0 ∨ b.stage = 0)) ∧ clashS a.path b.path = false
structure GoodI (x : List IndexEntry) : Prop where
  v : ∀ e ∈ x, vE e
  pw : x.Pairwise rel15
theorem filter_tw {α : Type} (p : α → Bool) (A B : List α) (hA : ∀ z ∈ A, p z = true) (hB : ∀ z ∈ B, p z = false) : (A ++ B).takeWhile p = A ∧ (A ++ B).dropWhile p = B := by
  rw [List.takeWhile_append_of_pos hA, List.dropWhile_append_of_pos hA]
  cases B with
  | nil => simp
  | cons b r =>
    have := hB b (List.mem_cons_self ..)
    simp [this]
theorem wrong1_ok (x e : IndexEntry) : Sh.index_wrong_1 x e = some (decide (x.path = e.path ∧ (x.stage = 0 ∨ e.stage = 0))) := by
  unfold Sh.index_wrong_1 Sh.index_beside
  by_cases h1 : x.path = e.path
  · by_cases h2 : x.stage = 0 <;> simp [h1, h2]
  · simp [h1]
end Go.S
end

section
namespace Go.S
open Go
def entE (f : FilesFile) : IndexEntry := ⟨f.path, 0, f.mode, f.data, 0, 0⟩
theorem drop_ent (x : List FilesFile) (p : List UInt8) : (x.map entE).filter (fun z => !decide (z.path = p)) = (x.filter fun z => !decide (z.path = p)).map entE := by
  rw [List.filter_map]; rfl
theorem parted {x : List FilesFile} (h : R x) (f : FilesFile) : (x.filter fun z => !decide (z.path = f.path)) = x.filter (fun z => decide (z.path < f.path)) ++ x.filter (fun z => decide (f.path < z.path)) := by
  have hR := putF_R h f
  have hs : (x.filter (fun z => decide (z.path < f.path)) ++ x.filter (fun z => decide (f.path < z.path))).Sublist (putF x f) := by
    unfold putF
    refine List.Sublist.append ?_ (List.Sublist.refl _)
    exact List.sublist_append_left _ _
  refine R.ext (h.sub List.filter_sublist) (hR.sub hs) fun z => ?_
  simp only [List.mem_append, List.mem_filter, Bool.not_eq_true', decide_eq_false_iff_not, decide_eq_true_eq]
  constructor
  · rintro ⟨a, b⟩
    by_cases q : z.path < f.path
    · exact .inl ⟨a, q⟩
    · by_cases q2 : f.path < z.path
      · exact .inr ⟨a, q2⟩
      · exact absurd (List.le_antisymm (List.not_lt.1 q2) (List.not_lt.1 q)) b
  · rintro (⟨a, b⟩ | ⟨a, b⟩)
    · exact ⟨a, fun e => List.lt_irrefl _ (e ▸ b)⟩
    · exact ⟨a, fun e => List.lt_irrefl _ (e ▸ b)⟩
theorem gives_ent {f z : FilesFile} (hc : clashS z.path f.path = false) : givesS (entE f) (entE z) = decide (z.path = f.path) := by
  unfold givesS entE
  simp [hc]
theorem bf_ent (z f : FilesFile) : bf (entE z) (entE f) = decide (z.path < f.path) := by
  rw [Bool.eq_iff_iff, bf_iff, decide_eq_true_eq]
  unfold lt2 entE
  simp
theorem put_ent {x : List FilesFile} {f : FilesFile} (h : R x) (hc : ∀ z ∈ x, clashS z.path f.path = false) : putP (x.map entE) (entE f) = (putF x f).map entE := by
  unfold putP
  have e1 : (x.map entE).filter (fun z => !givesS (entE f) z) = (x.filter fun z => !decide (z.path = f.path)).map entE := by
    rw [List.filter_map]
    congr 1
    refine List.filter_congr fun z hz => ?_
    show (!givesS (entE f) (entE z)) = _
    rw [gives_ent (hc z hz)]
  rw [e1, parted h, List.takeWhile_map, List.dropWhile_map]
  have e2 : ((fun x => bf x (entE f)) ∘ entE) = fun z => decide (z.path < f.path) := by
    funext z; exact bf_ent z f
  rw [e2]
  obtain ⟨a, b⟩ := filter_tw (fun z : FilesFile => decide (z.path < f.path)) (x.filter (fun z => decide (z.path < f.path))) (x.filter (fun z => decide (f.path < z.path))) (fun z hz => (List.mem_filter.1 hz).2) (fun z hz => by
    have := of_decide_eq_true (List.mem_filter.1 hz).2
    exact decide_eq_false fun q => List.lt_irrefl _ (List.lt_trans q this))
  rw [a, b]
  unfold putF
  simp
def dropsE (ps : List (List UInt8)) (l : List IndexEntry) : List IndexEntry := ps.foldl (fun l p => l.filter fun z => !decide (z.path = p)) l
theorem drops_ent : ∀ (ps : List (List UInt8)) (x : List FilesFile), dropsE ps (x.map entE) = (cutsF ps x).map entE
  | [], _ => rfl
  | p :: r, x => by
    show dropsE r ((x.map entE).filter fun z => !decide (z.path = p)) = (cutsF r (x.filter fun z => !decide (z.path = p))).map entE
    rw [drop_ent, drops_ent r]
end Go.S
end

section
namespace Go.S
open Go
theorem fixE1 (l : List IndexEntry) (e : IndexEntry) (hb : l.length ≤ 1000000000) (hl : ∀ z ∈ l, z.path.length ≤ 1000000000) (he : e.path.length ≤ 1000000000) : Ok (Sh.slices_ContainsFunc_index_Entry_index_Entry_v3 l e) (fun b => b = l.any fun y => clashS y.path e.path) := by
  unfold Sh.slices_ContainsFunc_index_Entry_index_Entry_v3 Sh.slices_IndexFunc_index_Entry_index_Entry_v5
  rw [ok_bd]
  refine (ixloop (fun y => clashS y.path e.path) l hb (fun y => Sh.index_wrong_2 y e) (fun y hy => ?_) _ fun i => rfl).mono fun r hr => ?_
  · unfold Sh.index_wrong_2
    rw [clash_ok (hl y hy) he]; rfl
  · rw [ok_some, fst_any hr]
theorem fixE2 (l : List IndexEntry) (e : IndexEntry) (hb : l.length ≤ 1000000000) : Ok (Sh.slices_ContainsFunc_index_Entry_index_Entry_v2 l e) (fun b => b = l.any fun y => decide (y.path = e.path ∧ (y.stage = 0 ∨ e.stage = 0))) := by
  unfold Sh.slices_ContainsFunc_index_Entry_index_Entry_v2 Sh.slices_IndexFunc_index_Entry_index_Entry_v4
  rw [ok_bd]
  refine (ixloop (fun y => decide (y.path = e.path ∧ (y.stage = 0 ∨ e.stage = 0))) l hb (fun y => Sh.index_wrong_1 y e) (fun y hy => wrong1_ok y e) _ fun i => rfl).mono fun r hr => ?_
  rw [ok_some, fst_any hr]
theorem wrongC15 {x : List IndexEntry} (hb : x.length ≤ 1000000) (hl : ∀ z ∈ x, z.path.length ≤ 1000000000) {i : Int} (i0 : 0 ≤ i) (hi : i < x.length) {z : IndexEntry} (hz : x[i.toNat]? = some z) :
    Ok (Sh.index_wrong x i) fun e => e = 0 → vE z ∧ (∀ y, 0 < i → x[(i - 1).toNat]? = some y → lt2 y z) ∧ ∀ y ∈ x.take i.toNat, ¬ (y.path = z.path ∧ (y.stage = 0 ∨ z.stage = 0)) ∧ clashS y.path z.path = false := by
  unfold Sh.index_wrong
  have hzm := List.mem_of_getElem? hz
  rw [ok_bd, ok_at]
  refine ⟨i0, z, hz, ?_⟩
  rw [pcheck_ok, Option.bind_some]
  by_cases hc : checkP z.path = 0
  · rw [if_pos hc]
    refine ok_jnP (fun b => b = false → 0 ≤ z.stage ∧ z.stage ≤ 3 ∧ (z.mode = 1 ∨ z.mode = 2) ∧ 0 ≤ z.time ∧ 0 ≤ z.size) ?_ ?_
    · intro b hbm
      simp only [ok_if, ok_some]
      refine ⟨fun _ q => absurd q (by omega), fun h => ⟨fun _ q => absurd q (by omega), fun hd => ?_⟩⟩
      obtain ⟨m1, m2, m3, m4, m5⟩ := hbm (by simpa using h)
      refine ok_jnP (fun b => b = false → (∀ y, 0 < i → x[(i - 1).toNat]? = some y → lt2 y z) ∧ ∀ y ∈ x.take i.toNat, ¬ (y.path = z.path ∧ (y.stage = 0 ∨ z.stage = 0))) ?_ ?_
      · intro b hb2
        simp only [ok_if, ok_some, ok_gd, ok_lt]
        refine ⟨fun _ q => absurd q (by omega), fun h => ⟨⟨i0, by omega⟩, ok_bd.2 ((fixE1 (x.take i.toNat) z (by rw [List.length_take]; omega) (fun y hy => hl y (List.mem_of_mem_take hy)) (hl z hzm)).mono fun c hcc => ?_)⟩⟩
        obtain ⟨r1, r2⟩ := hb2 (by simpa using h)
        simp only [ok_if, ok_some]
        refine ⟨fun _ q => absurd q (by omega), fun h2 _ => ⟨⟨hc, m1, m2, m3, by omega, m4, m5⟩, r1, fun y hy => ⟨r2 y hy, ?_⟩⟩⟩
        cases hq : clashS y.path z.path with
        | false => rfl
        | true => exact absurd (hcc.trans (List.any_eq_true.2 ⟨y, hy, hq⟩)) h2
      · intro K hK
        refine ok_jnP (fun b => b = false → ∀ y, 0 < i → x[(i - 1).toNat]? = some y → lt2 y z) ?_ ?_
        · intro b hb3
          simp only [ok_if, ok_gd, ok_lt]
          refine ⟨fun h => hK _ fun q => (by rw [h] at q; cases q), fun h => ⟨⟨i0, by omega⟩, ok_bd.2 ((fixE2 (x.take i.toNat) z (by rw [List.length_take]; omega)).mono fun c hcc => hK _ fun hf => ⟨hb3 (by simpa using h), fun y hy q => ?_⟩)⟩⟩
          rw [hcc] at hf
          have := List.any_eq_false.1 hf y hy
          exact this (decide_eq_true q)
        · intro K2 hK2
          simp only [ok_if, ok_gd]
          refine ⟨fun h => ⟨⟨by omega, by omega⟩, ?_⟩, fun h => hK2 _ fun _ y q => absurd q h⟩
          obtain ⟨y, hy⟩ := at_get (l := x) (i := i - 1) (by omega) (by omega)
          rw [ok_bd, ok_at]
          refine ⟨by omega, y, hy, ?_⟩
          obtain ⟨n, hn, hn2⟩ := cmp15 y z
          rw [hn, Option.bind_some]
          refine hK2 _ fun q y' _ hy' => ?_
          rw [hy] at hy'; cases hy'
          exact hn2.1 (by have := of_decide_eq_false q; omega)
    · intro K hK
      have no : Ok (K true) _ := hK true fun q => (by cases q)
      have yes : 0 ≤ z.stage → z.stage ≤ 3 → (z.mode = 1 ∨ z.mode = 2) → 0 ≤ z.time → Ok (K (decide (z.size < 0))) _ := fun a b c d => hK _ fun q => ⟨a, b, c, d, by have := of_decide_eq_false q; omega⟩
      simp only [ok_if]
      exact ⟨fun _ => no, fun h1 => ⟨fun _ => no, fun h2 => ⟨fun hm => ⟨fun _ => no, fun h3 => yes (by omega) (by omega) (.inl hm) (by omega)⟩, fun _ => ⟨fun hm => ⟨fun _ => no, fun h3 => yes (by omega) (by omega) (.inr hm) (by omega)⟩, fun _ => no⟩⟩⟩⟩
  · rw [if_neg hc, ok_some]
    exact fun h => absurd h hc
theorem goodI_snoc {x : List IndexEntry} {i : Int} (i0 : 0 ≤ i) {z : IndexEntry} (hz : x[i.toNat]? = some z) (hg : GoodI (x.take i.toNat)) (hv : vE z) (hr : ∀ y, 0 < i → x[(i - 1).toNat]? = some y → lt2 y z) (hc : ∀ y ∈ x.take i.toNat, ¬ (y.path = z.path ∧ (y.stage = 0 ∨ z.stage = 0)) ∧ clashS y.path z.path = false) : GoodI (x.take (i + 1).toNat) := by
  rw [take_snoc i0 hz]
  have hlt : ∀ a ∈ x.take i.toNat, lt2 a z := fun a ha => by
    have hpos : 0 < i := by
      rcases Int.lt_or_le 0 i with q | q
      · exact q
      · rw [show i.toNat = 0 by omega] at ha; simp at ha
    have hil := get_lt hz
    obtain ⟨y, hy⟩ := at_get (l := x) (i := i - 1) (by omega) (by omega)
    have hyz := hr y hpos hy
    have he : x.take i.toNat = x.take (i - 1).toNat ++ [y] := by
      have := take_snoc (l := x) (i := i - 1) (by omega) hy
      rwa [show i - 1 + 1 = i by omega] at this
    rw [he] at ha
    rcases List.mem_append.1 ha with q | q
    · have hR := hg.pw
      rw [he] at hR
      have := (List.pairwise_append.1 hR).2.2 a q y (List.mem_singleton_self _)
      exact lt2_trans this.1 hyz
    · rw [List.mem_singleton.1 q]; exact hyz
  refine ⟨fun f hf => ?_, List.pairwise_append.2 ⟨hg.pw, List.pairwise_singleton _ _, fun a ha b hb => ?_⟩⟩
  · rcases List.mem_append.1 hf with q | q
    · exact hg.v f q
    · rw [List.mem_singleton.1 q]; exact hv
  · rw [List.mem_singleton.1 hb]; exact ⟨hlt a ha, hc a ha⟩
theorem checkC15 {x : List IndexEntry} (hb : x.length ≤ 1000000) (hl : ∀ z ∈ x, z.path.length ≤ 1000000000) : Ok (Sh.index_Check x) fun e => e.isNil = true → x.length ≤ 256 ∧ GoodI x := by
  unfold Sh.index_Check
  simp only [ok_if, ok_some]
  refine ⟨fun h q => (by cases q), fun h64 => ?_⟩
  refine ok_iter (I := fun i => 0 ≤ i ∧ i ≤ x.length ∧ GoodI (x.take i.toNat)) (μ := fun i => (x.length - i).toNat) ?_ ⟨by omega, by omega, ⟨fun f h => (by simp at h), by simp⟩⟩
  rintro i ⟨i0, i1, hg⟩
  simp only [ok_if, ok_up, ok_some]
  refine ⟨fun hi => ?_, fun hi => ?_⟩
  · obtain ⟨z, hz⟩ := at_get (l := x) i0 hi
    refine ok_bd.2 ((wrongC15 hb hl i0 hi hz).mono fun e he => ?_)
    simp only [ok_if, ok_gd, ok_go, ok_up, ok_some]
    refine ⟨fun h => ⟨⟨by omega, by omega⟩, ⟨by omega, by omega, ?_⟩, by omega⟩, fun h q => (by cases q)⟩
    obtain ⟨a, b, c⟩ := he h
    exact goodI_snoc i0 hz hg a b c
  · rw [List.take_of_length_le (by omega)] at hg
    exact fun _ => ⟨by omega, hg⟩
theorem all15 {x : List IndexEntry} (h : x.length ≤ 1000000) : Sh.rectolaw15_All x (x.map toE) = some true := by
  unfold Sh.rectolaw15_All
  rw [of15 h, Option.bind_some, if_pos rfl]
  rw [eqloop (fun z w : Rectoref14Entry => z.path = w.path ∧ z.stage = w.stage ∧ z.mode = w.mode ∧ z.data = w.data ∧ z.time = w.time ∧ z.size = w.size) (fun z w => by cases z; cases w; simp) (x.map toE) (x.map toE) rfl (by rw [List.length_map]; omega) _ fun i => rfl]
  simp
end Go.S
end

section
namespace Go.S
theorem gl_at {α : Type} {l : List α} {i : Int} (h0 : 0 ≤ i) (h : i < l.length) : ∃ z, l[i.toNat]? = some z := ⟨_, List.getElem?_eq_getElem (by omega)⟩
theorem gl_snoc {α : Type} {l : List α} {i : Int} {z : α} (h0 : 0 ≤ i) (h : l[i.toNat]? = some z) : l.take (i + 1).toNat = l.take i.toNat ++ [z] := by
  rw [show (i + 1).toNat = i.toNat + 1 by omega, List.take_add_one, h]; rfl
theorem gl_atv {α : Type} {l : List α} {i : Int} {z : α} (h0 : 0 ≤ i) (h : l[i.toNat]? = some z) : at_ l i = some z := by
  unfold at_; rw [if_pos h0, h]
theorem gl_map {α β : Type} (f : α → β) {l : List α} {i : Nat} {z : α} (h : l[i]? = some z) : (l.map f)[i]? = some (f z) := by rw [List.getElem?_map, h]; rfl
def Nx {T R : Type} (t : T) (y : T ⊕ R) : Prop := y = .inl t
def Up {T R : Type} (Q : R → Prop) (y : T ⊕ R) : Prop := ∃ r, y = .inr r ∧ Q r
theorem nx_go {T R : Type} {t t' : T} (h : t' = t) : Ok (go t' : Option (T ⊕ R)) (Nx t) := ⟨_, rfl, by rw [h]; rfl⟩
theorem nx_gd {T R : Type} {c : Prop} [Decidable c] {t t' : T} (hc : c) (h : t' = t) : Ok (gd c (go t' : Option (T ⊕ R))) (Nx t) := ok_gd.2 ⟨hc, nx_go h⟩
theorem up_up {T R : Type} {o : Option R} {Q : R → Prop} (h : Ok o Q) : Ok (up o : Option (T ⊕ R)) (Up Q) := ok_up.2 (h.mono fun r hr => ⟨r, rfl, hr⟩)
theorem gl_fold {α τ R : Type} {Q : R → Prop} (l : List α) (f : τ → α → τ) (t0 : τ) (B : τ × Int → Option ((τ × Int) ⊕ R))
    (hB : ∀ (i : Int) z, 0 ≤ i → i < l.length → l[i.toNat]? = some z → ∀ s, s = (l.take i.toNat).foldl f t0 → Ok (B (s, i)) (Nx (f s z, i + 1)))
    (hE : ∀ s, s = l.foldl f t0 → Ok (B (s, (l.length : Int))) (Up Q)) : Ok (iter B (t0, 0)) Q := by
  refine ok_iter (I := fun t => 0 ≤ t.2 ∧ t.2 ≤ l.length ∧ t.1 = (l.take t.2.toNat).foldl f t0) (μ := fun t => (l.length - t.2).toNat) ?_ ⟨by dsimp only; omega, by dsimp only; omega, by simp⟩
  rintro ⟨t, i⟩ ⟨i0, i1, i2⟩
  dsimp only at i0 i1 i2 ⊢
  by_cases hi : i < l.length
  · obtain ⟨z, hz⟩ := gl_at i0 hi
    refine (hB i z i0 hi hz t i2).mono ?_
    rintro y hy
    cases hy
    refine ⟨⟨by dsimp only; omega, by dsimp only; omega, ?_⟩, by dsimp only; omega⟩
    show _ = (l.take (i + 1).toNat).foldl f t0
    rw [gl_snoc i0 hz, List.foldl_append, i2]; rfl
  · have e : i = l.length := by omega
    subst e
    rw [List.take_of_length_le (by omega)] at i2
    refine (hE t i2).mono ?_
    rintro y ⟨r, rfl, hr⟩
    exact hr
theorem gl_fold2 {α σ τ R : Type} {Q : R → Prop} (l : List α) (f : σ → α → σ) (g : τ → α → τ) (s0 : σ) (t0 : τ) (B : σ × τ × Int → Option ((σ × τ × Int) ⊕ R))
    (hB : ∀ (i : Int) z, 0 ≤ i → i < l.length → l[i.toNat]? = some z → ∀ s t, s = (l.take i.toNat).foldl f s0 → t = (l.take i.toNat).foldl g t0 → Ok (B (s, t, i)) (Nx (f s z, g t z, i + 1)))
    (hE : ∀ s t, s = l.foldl f s0 → t = l.foldl g t0 → Ok (B (s, t, (l.length : Int))) (Up Q)) : Ok (iter B (s0, t0, 0)) Q := by
  refine ok_iter (I := fun t => 0 ≤ t.2.2 ∧ t.2.2 ≤ l.length ∧ t.1 = (l.take t.2.2.toNat).foldl f s0 ∧ t.2.1 = (l.take t.2.2.toNat).foldl g t0) (μ := fun t => (l.length - t.2.2).toNat) ?_ ⟨by dsimp only; omega, by dsimp only; omega, by simp, by simp⟩
  rintro ⟨s, t, i⟩ ⟨i0, i1, i2, i3⟩
  dsimp only at i0 i1 i2 i3 ⊢
  by_cases hi : i < l.length
  · obtain ⟨z, hz⟩ := gl_at i0 hi
    refine (hB i z i0 hi hz s t i2 i3).mono ?_
    rintro y hy
    cases hy
    refine ⟨⟨by dsimp only; omega, by dsimp only; omega, ?_, ?_⟩, by dsimp only; omega⟩
    · show _ = (l.take (i + 1).toNat).foldl f s0
      rw [gl_snoc i0 hz, List.foldl_append, i2]; rfl
    · show _ = (l.take (i + 1).toNat).foldl g t0
      rw [gl_snoc i0 hz, List.foldl_append, i3]; rfl
  · have e : i = l.length := by omega
    subst e
    rw [List.take_of_length_le (by omega)] at i2 i3
    refine (hE s t i2 i3).mono ?_
    rintro y ⟨r, rfl, hr⟩
    exact hr
theorem gl_flat {α β : Type} (g : α → List β) : ∀ (l : List α) (a : List β), l.foldl (fun a z => a ++ g z) a = a ++ l.flatMap g
  | [], a => by simp
  | z :: r, a => by rw [List.foldl_cons, gl_flat g r, List.flatMap_cons, List.append_assoc]
theorem gl_fm {α β : Type} (p : α → Bool) (g : α → β) : ∀ l : List α, l.flatMap (fun z => if p z = true then [g z] else []) = (l.filter p).map g
  | [] => rfl
  | z :: r => by
    rw [List.flatMap_cons, gl_fm p g r, List.filter_cons]
    split <;> simp
theorem gl_app {α β R : Type} {Q : R → Prop} (l : List α) (p : α → Bool) (g : α → β) (a : List β) (B : List β × Int → Option ((List β × Int) ⊕ R))
    (hB : ∀ (i : Int) z, 0 ≤ i → i < l.length → l[i.toNat]? = some z → ∀ s, s.length ≤ a.length + i.toNat → Ok (B (s, i)) (Nx ((if p z = true then s ++ [g z] else s), i + 1)))
    (hE : ∀ s, s = a ++ (l.filter p).map g → Ok (B (s, (l.length : Int))) (Up Q)) : Ok (iter B (a, 0)) Q := by
  have hf : ∀ m : List α, m.foldl (fun a z => a ++ (if p z = true then [g z] else [])) a = a ++ (m.filter p).map g := fun m => by
    rw [gl_flat (fun z => if p z = true then [g z] else []), gl_fm]
  refine gl_fold l (fun s z => s ++ (if p z = true then [g z] else [])) a B (fun i z i0 hi hz s hs => ?_) (fun s hs => hE s (by rw [hs, hf]))
  have hl : s.length ≤ a.length + i.toNat := by
    rw [hs, hf, List.length_append, List.length_map]
    have := List.length_filter_le p (l.take i.toNat)
    rw [List.length_take] at this
    omega
  have := hB i z i0 hi hz s hl
  split at this
  · next q => simpa [q] using this
  · next q => simpa [q] using this
theorem gl_chk {α R : Type} {Q : R → Prop} (l : List α) (P : α → Prop) (B : Int → Option (Int ⊕ R))
    (hB : ∀ (i : Int) z, 0 ≤ i → i < l.length → l[i.toNat]? = some z → (∀ y ∈ l.take i.toNat, P y) → Ok (B i) (fun y => y = .inl (i + 1) ∧ P z ∨ ∃ r, y = .inr r ∧ Q r))
    (hE : (∀ y ∈ l, P y) → Ok (B (l.length : Int)) (Up Q)) : Ok (iter B 0) Q := by
  refine ok_iter (I := fun i => 0 ≤ i ∧ i ≤ l.length ∧ ∀ y ∈ l.take i.toNat, P y) (μ := fun i => (l.length - i).toNat) ?_ ⟨by omega, by omega, by simp⟩
  rintro i ⟨i0, i1, i2⟩
  by_cases hi : i < l.length
  · obtain ⟨z, hz⟩ := gl_at i0 hi
    refine (hB i z i0 hi hz i2).mono ?_
    rintro y (⟨rfl, hp⟩ | ⟨r, rfl, hr⟩)
    · refine ⟨⟨by omega, by omega, fun y hy => ?_⟩, by omega⟩
      rw [gl_snoc i0 hz] at hy
      rcases List.mem_append.1 hy with q | q
      · exact i2 y q
      · rw [List.mem_singleton.1 q]; exact hp
    · exact hr
  · have e : i = l.length := by omega
    subst e
    rw [List.take_of_length_le (by omega)] at i2
    refine (hE i2).mono ?_
    rintro y ⟨r, rfl, hr⟩
    exact hr
end Go.S
end

section
namespace Go.S
open Go
def oneP (r : List FilesFile) (p : List UInt8) : PlanOne := ⟨(getF r p).1.path, (getF r p).1.mode, (getF r p).1.data, (getF r p).2⟩
theorem of20 {r : List FilesFile} (h : R r) (hb : r.length ≤ 1000000) (p : List UInt8) : Sh.plan_of r p = some (oneP r p) := by
  unfold Sh.plan_of
  rw [get14 h (by omega), Option.bind_some]; rfl
theorem one_some {r : List FilesFile} {p : List UInt8} {f : FilesFile} (h : gt r p = some f) : oneP r p = ⟨f.path, f.mode, f.data, true⟩ := by
  unfold oneP; rw [getF_some h]
theorem one_none {r : List FilesFile} {p : List UInt8} (h : gt r p = none) : oneP r p = ⟨[], 0, [], false⟩ := by
  unfold oneP; rw [getF_none h]
theorem one_eq {a b : List FilesFile} {p : List UInt8} : ((oneP a p).file_path = (oneP b p).file_path ∧ (oneP a p).file_mode = (oneP b p).file_mode ∧ (oneP a p).file_data = (oneP b p).file_data ∧ (oneP a p).is = (oneP b p).is) ↔ gt a p = gt b p := by
  cases ha : gt a p with
  | none =>
    cases hb : gt b p with
    | none => rw [one_none ha, one_none hb]; simp
    | some g => rw [one_none ha, one_some hb]; simp
  | some f =>
    cases hb : gt b p with
    | none => rw [one_some ha, one_none hb]; simp
    | some g => rw [one_some ha, one_some hb]; cases f; cases g; simp
theorem paths_keys {ls : List (List FilesFile)} {r : List (List UInt8)} (h : PathsOf ls r) : r = keysS (ls.flatMap fun l => l.map (·.path)) := strict_ext h.1 (keysS_lt _) fun x => by
  rw [h.2, keysS_mem]
  simp only [List.mem_flatMap, List.mem_map]
structure Bd (l : List FilesFile) : Prop where
  r : R l
  n : l.length ≤ 1000000
  p : ∀ f ∈ l, f.path.length ≤ 1000000
def touchedP (h : List FilesFile) (r : TmergeResultP) : List (List UInt8) := keysS ((keysS (h.map (·.path) ++ r.files.map (·.path))).filter (fun p => !decide (gt h p = gt r.files p)) ++ r.conflicts)
theorem touched20 {h : List FilesFile} {r : TmergeResultP} (hh : Bd h) (hf : Bd r.files) (hc : r.conflicts.length ≤ 1000000) : Sh.plan_touched h r = some (touchedP h r) := by
  apply Ok.eq
  unfold Sh.plan_touched
  rw [ok_lt, ok_bd]
  refine (paths14 [h, r.files] (by simp) (fun l hl => ?_)).mono ?_
  · simp only [List.mem_cons, List.not_mem_nil, or_false] at hl
    rcases hl with rfl | rfl
    · exact ⟨hh.n, hh.p⟩
    · exact ⟨hf.n, hf.p⟩
  rintro ps ⟨hps, hl⟩
  have e := paths_keys hps
  simp only [List.flatMap_cons, List.flatMap_nil, List.append_nil] at e
  refine gl_app ps (fun p => !decide (gt h p = gt r.files p)) (fun p => p) [] _ ?_ ?_
  · intro i z i0 hi hz s hs
    simp only [List.length_nil] at hs
    dsimp only
    rw [if_pos hi, gl_atv i0 hz, Option.bind_some, of20 hh.r hh.n, Option.bind_some, of20 hf.r hf.n, Option.bind_some]
    by_cases q : gt h z = gt r.files z
    · rw [if_pos (one_eq.2 q)]
      exact nx_gd ⟨by omega, by omega⟩ (by simp [q])
    · rw [if_neg fun k => q (one_eq.1 k)]
      simp only [ok_lt, ok_gd]
      exact ⟨by simp only [List.length_cons, List.length_nil]; omega, ⟨by omega, by omega⟩, nx_go (by simp [q])⟩
  · intro s hs
    dsimp only
    rw [if_neg (by omega)]
    refine up_up ?_
    have hsl : s.length ≤ 8000000 := by
      rw [hs, List.nil_append, List.length_map]
      exact Nat.le_trans (List.length_filter_le _ _) hl
    have h2 := (sortS_perm (s ++ r.conflicts)).length_eq
    simp only [List.length_append] at h2
    simp only [ok_gd, ok_lt, ok_some, List.length_append]
    refine ⟨by omega, by omega, by omega, ?_⟩
    rw [hs, List.nil_append, List.map_id', e]; rfl
theorem touched_mem {h : List FilesFile} {r : TmergeResultP} {p : List UInt8} : p ∈ touchedP h r ↔ gt h p ≠ gt r.files p ∨ p ∈ r.conflicts := by
  unfold touchedP
  rw [keysS_mem, List.mem_append, List.mem_filter, keysS_mem, List.mem_append, List.mem_map, List.mem_map]
  simp only [Bool.not_eq_true', decide_eq_false_iff_not]
  constructor
  · rintro (⟨_, q⟩ | q)
    · exact .inl q
    · exact .inr q
  · rintro (q | q)
    · refine .inl ⟨?_, q⟩
      cases ha : gt h p with
      | some f => exact .inl ⟨f, List.mem_of_find?_eq_some ha, gt_path ha⟩
      | none =>
        cases hb : gt r.files p with
        | some f => exact .inr ⟨f, List.mem_of_find?_eq_some hb, gt_path hb⟩
        | none => rw [ha, hb] at q; exact absurd rfl q
    · exact .inr q
theorem touched_len (h : List FilesFile) (r : TmergeResultP) : (touchedP h r).length ≤ h.length + r.files.length + r.conflicts.length := by
  unfold touchedP
  refine Nat.le_trans (keysS_len _) ?_
  rw [List.length_append]
  have h1 := List.length_filter_le (fun p => !decide (gt h p = gt r.files p)) (keysS (h.map (·.path) ++ r.files.map (·.path)))
  have h2 := keysS_len (h.map (·.path) ++ r.files.map (·.path))
  simp only [List.length_append, List.length_map] at h2
  omega
def stF (n : Int) (l : List IndexEntry) : List FilesFile := (l.filter fun z => decide (z.stage = n)).map fun z => ⟨z.path, z.mode, z.data⟩
def confS (l : List IndexEntry) : List (List UInt8) := keysS ((l.filter fun z => !decide (z.stage = 0)).map (·.path))
theorem stage20 (l : List IndexEntry) (n : Int) (hb : l.length ≤ 1000000) : Sh.index_Stage l n = some (stF n l) := by
  apply Ok.eq
  unfold Sh.index_Stage
  refine gl_app l (fun z => decide (z.stage = n)) (fun z => (⟨z.path, z.mode, z.data⟩ : FilesFile)) [] _ ?_ ?_
  · intro i z i0 hi hz s hs
    simp only [List.length_nil] at hs
    dsimp only
    rw [if_pos hi, gl_atv i0 hz, Option.bind_some]
    by_cases q : z.stage = n
    · rw [if_pos q]
      simp only [ok_lt, ok_gd]
      exact ⟨by simp only [List.length_cons, List.length_nil]; omega, ⟨by omega, by omega⟩, nx_go (by simp [q])⟩
    · rw [if_neg q]
      exact nx_gd ⟨by omega, by omega⟩ (by simp [q])
  · intro s hs
    dsimp only
    rw [if_neg (by omega)]
    refine up_up ?_
    rw [clip14, Option.bind_some, ok_some, hs]; rfl
theorem conf20 (l : List IndexEntry) (hb : l.length ≤ 1000000) : Sh.index_Conflicts l = some (confS l) := by
  apply Ok.eq
  unfold Sh.index_Conflicts
  refine gl_app l (fun z => !decide (z.stage = 0)) (·.path) [] _ ?_ ?_
  · intro i z i0 hi hz s hs
    simp only [List.length_nil] at hs
    dsimp only
    rw [if_pos hi, gl_atv i0 hz, Option.bind_some]
    by_cases q : z.stage = 0
    · rw [if_pos q]
      exact nx_gd ⟨by omega, by omega⟩ (by simp [q])
    · rw [if_neg q]
      simp only [ok_lt, ok_gd]
      exact ⟨by simp only [List.length_cons, List.length_nil]; omega, ⟨by omega, by omega⟩, nx_go (by simp [q])⟩
  · intro s hs
    dsimp only
    rw [if_neg (by omega)]
    refine up_up ?_
    have hsl : s.length ≤ 1000000 := by
      rw [hs, List.nil_append, List.length_map]
      exact Nat.le_trans (List.length_filter_le _ _) hb
    have h2 := (sortS_perm s).length_eq
    simp only [ok_gd, ok_lt]
    refine ⟨by omega, by omega, ?_⟩
    rw [clipS14, Option.bind_some, ok_some, hs]; rfl
theorem stF_R {l : List IndexEntry} (h : GoodI l) (n : Int) : R (stF n l) := by
  unfold R stF
  rw [List.pairwise_map]
  refine List.Pairwise.imp_of_mem ?_ (List.Pairwise.sublist List.filter_sublist h.pw)
  intro a b ha hb hab
  have h1 := of_decide_eq_true (List.mem_filter.1 ha).2
  have h2 := of_decide_eq_true (List.mem_filter.1 hb).2
  rcases hab.1 with q | ⟨_, q⟩
  · exact q
  · omega
theorem stF_len (n : Int) (l : List IndexEntry) : (stF n l).length ≤ l.length := by
  unfold stF
  rw [List.length_map]
  exact List.length_filter_le _ _
theorem stF_mem {n : Int} {l : List IndexEntry} {f : FilesFile} (h : f ∈ stF n l) : ∃ e ∈ l, e.stage = n ∧ e.path = f.path ∧ e.mode = f.mode ∧ e.data = f.data := by
  unfold stF at h
  obtain ⟨e, he, rfl⟩ := List.mem_map.1 h
  exact ⟨e, (List.mem_filter.1 he).1, of_decide_eq_true (List.mem_filter.1 he).2, rfl, rfl, rfl⟩
theorem cont20 (l : List (List UInt8)) (p : List UInt8) (hb : l.length ≤ 1000000000) : Sh.slices_Contains_string_string l p = some (decide (p ∈ l)) := by
  apply Ok.eq
  unfold Sh.slices_Contains_string_string
  rw [ok_bd]
  refine (ixloop (fun z => decide (p = z)) l hb (fun z => some (decide (p = z))) (fun _ _ => rfl) _ fun i => ?_).mono ?_
  · simp only [Option.bind_some, decide_eq_true_eq]
  · intro r hr
    rw [ok_some, fst_any hr]
    rw [Bool.eq_iff_iff, List.any_eq_true, decide_eq_true_eq]
    constructor
    · rintro ⟨x, hx, q⟩
      rw [of_decide_eq_true q]; exact hx
    · intro q
      exact ⟨p, q, decide_eq_true rfl⟩
def safeP (h : List FilesFile) (ix : List IndexEntry) (w : List FilesFile) (p : List UInt8) : Bool := decide (gt w p = gt (stF 0 ix) p) && decide (gt (stF 0 ix) p = gt h p) && !decide (p ∈ confS ix)
theorem confS_len (l : List IndexEntry) : (confS l).length ≤ l.length := by
  unfold confS
  refine Nat.le_trans (keysS_len _) ?_
  rw [List.length_map]
  exact List.length_filter_le _ _
theorem safe20 {h w : List FilesFile} {ix : List IndexEntry} (hh : Bd h) (hw : Bd w) (hi : GoodI ix) (hb : ix.length ≤ 1000000) (p : List UInt8) : Sh.plan_safe h ix w p = some (safeP h ix w p) := by
  unfold Sh.plan_safe
  have hl := stF_len 0 ix
  have hc := confS_len ix
  rw [stage20 ix 0 hb, Option.bind_some, of20 (stF_R hi 0) (by omega), Option.bind_some, of20 hw.r hw.n, Option.bind_some]
  by_cases q : gt w p = gt (stF 0 ix) p
  · rw [if_pos (one_eq.2 q), of20 hh.r hh.n, Option.bind_some]
    by_cases q2 : gt (stF 0 ix) p = gt h p
    · rw [if_pos (one_eq.2 q2), conf20 ix hb, Option.bind_some, cont20 _ _ (by omega), Option.bind_some]
      unfold safeP
      rw [decide_eq_true q, decide_eq_true q2]; rfl
    · rw [if_neg fun k => q2 (one_eq.1 k)]
      unfold safeP
      rw [decide_eq_false q2, Bool.and_false]; rfl
  · rw [if_neg fun k => q (one_eq.1 k)]
    unfold safeP
    rw [decide_eq_false q]; rfl
def hitP (r : TmergeResultP) (f : FilesFile) (p : List UInt8) : Bool := (gt r.files p).isSome && clashS p f.path
theorem lost1 {r : TmergeResultP} (hf : Bd r.files) {f : FilesFile} (hl : f.path.length ≤ 1000000) {p : List UInt8} (hp : p.length ≤ 1000000) : Sh.plan_Lost_1 p r f = some (hitP r f p) := by
  unfold Sh.plan_Lost_1 hitP
  rw [of20 hf.r hf.n, Option.bind_some]
  cases hg : gt r.files p with
  | none => rw [one_none hg]; rfl
  | some g =>
    rw [one_some hg, if_pos (by rfl), clash_ok (by omega) (by omega), Option.bind_some]; rfl
theorem any20 {r : TmergeResultP} (hf : Bd r.files) {f : FilesFile} (hl : f.path.length ≤ 1000000) {all : List (List UInt8)} (hb : all.length ≤ 1000000000) (hp : ∀ p ∈ all, p.length ≤ 1000000) : Sh.slices_ContainsFunc_string_string all r f = some (all.any (hitP r f)) := by
  apply Ok.eq
  unfold Sh.slices_ContainsFunc_string_string
  rw [ok_bd]
  refine (ixloop (hitP r f) all hb (fun z => Sh.plan_Lost_1 z r f) (fun z hz => lost1 hf hl (hp z hz)) _ fun i => rfl).mono ?_
  intro x hx
  rw [ok_some, fst_any hx]
def lostW (r : TmergeResultP) (all : List (List UInt8)) (w : FilesFile) : Bool := if w.path ∈ all ∧ gt r.files w.path = none then false else all.any (hitP r w)
def lostP (all : List (List UInt8)) (h : List FilesFile) (r : TmergeResultP) (ix : List IndexEntry) (w : List FilesFile) : List (List UInt8) := keysS (all.filter (fun p => !safeP h ix w p) ++ (w.filter (lostW r all)).map (·.path))
theorem touched_path {h : List FilesFile} {r : TmergeResultP} (hh : Bd h) (hf : Bd r.files) (hc : ∀ p ∈ r.conflicts, p.length ≤ 1000000) : ∀ p ∈ touchedP h r, p.length ≤ 1000000 := fun p hp => by
  rcases touched_mem.1 hp with q | q
  · cases ha : gt h p with
    | some f => rw [← gt_path ha]; exact hh.p f (List.mem_of_find?_eq_some ha)
    | none =>
      cases hb : gt r.files p with
      | some f => rw [← gt_path hb]; exact hf.p f (List.mem_of_find?_eq_some hb)
      | none => rw [ha, hb] at q; exact absurd rfl q
  · exact hc p q
theorem lost20 {h w : List FilesFile} {r : TmergeResultP} {ix : List IndexEntry} (hh : Bd h) (hf : Bd r.files) (hw : Bd w) (hi : GoodI ix) (hb : ix.length ≤ 1000000) (hc : r.conflicts.length ≤ 1000000) (hcp : ∀ p ∈ r.conflicts, p.length ≤ 1000000) : Sh.plan_Lost h r ix w = some (lostP (touchedP h r) h r ix w) := by
  apply Ok.eq
  unfold Sh.plan_Lost
  rw [touched20 hh hf hc, Option.bind_some]
  have hal : (touchedP h r).length ≤ 3000000 := by
    have := touched_len h r
    have h1 := hh.n
    have h2 := hf.n
    omega
  have hap := touched_path hh hf hcp
  unfold lostP
  generalize touchedP h r = all at hal hap ⊢
  refine gl_app all (fun p => !safeP h ix w p) (fun p => p) [] _ ?_ ?_
  · intro i z i0 hi' hz s hs
    simp only [List.length_nil] at hs
    dsimp only
    rw [if_pos hi', gl_atv i0 hz, Option.bind_some, safe20 hh hw hi hb, Option.bind_some]
    cases q : safeP h ix w z with
    | false =>
      rw [if_pos (by rfl)]
      simp only [ok_lt, ok_gd]
      exact ⟨by simp only [List.length_cons, List.length_nil]; omega, ⟨by omega, by omega⟩, nx_go (by simp)⟩
    | true =>
      rw [if_neg (by simp)]
      exact nx_gd ⟨by omega, by omega⟩ (by simp)
  · intro s hs
    dsimp only
    rw [if_neg (by omega)]
    refine up_up ?_
    have hsl : s.length ≤ 3000000 := by
      rw [hs, List.nil_append, List.length_map]
      exact Nat.le_trans (List.length_filter_le _ _) hal
    rw [List.nil_append, List.map_id'] at hs
    have hwn := hw.n
    refine gl_app w (lostW r all) (·.path) s _ ?_ ?_
    · intro i z i0 hi' hz t ht
      have hzm := List.mem_of_getElem? hz
      dsimp only
      rw [if_pos hi', gl_atv i0 hz, Option.bind_some]
      refine ok_jnP (fun _ => ¬ (z.path ∈ all ∧ gt r.files z.path = none)) ?_ ?_
      · intro _ hn
        rw [any20 hf (hw.p z hzm) (by omega) hap, Option.bind_some]
        have hlw : lostW r all z = all.any (hitP r z) := by unfold lostW; rw [if_neg hn]
        rw [hlw]
        cases all.any (hitP r z) with
        | true =>
          rw [if_pos (by rfl)]
          simp only [ok_lt, ok_gd]
          exact ⟨by simp only [List.length_cons, List.length_nil]; omega, ⟨by omega, by omega⟩, nx_go (by simp)⟩
        | false =>
          rw [if_neg (by simp)]
          exact nx_gd ⟨by omega, by omega⟩ (by simp)
      · intro K hK
        rw [cont20 _ _ (by omega), Option.bind_some]
        by_cases m : z.path ∈ all
        · rw [if_pos (decide_eq_true m), of20 hf.r hf.n, Option.bind_some]
          cases hg : gt r.files z.path with
          | none =>
            rw [one_none hg, if_pos (by rfl)]
            have hlw : lostW r all z = false := by unfold lostW; rw [if_pos ⟨m, hg⟩]
            exact nx_gd ⟨by omega, by omega⟩ (by rw [hlw]; simp)
          | some g =>
            rw [one_some hg, if_neg (by simp)]
            exact hK () fun k => by rw [hg] at k; cases k.2
        · rw [if_neg (by simp [m])]
          exact hK () fun k => m k.1
    · intro t ht
      dsimp only
      rw [if_neg (by omega)]
      refine up_up ?_
      have htl : t.length ≤ 4000000 := by
        rw [ht, List.length_append, List.length_map]
        have := List.length_filter_le (lostW r all) w
        omega
      have h2 := (sortS_perm t).length_eq
      simp only [ok_gd, ok_lt]
      refine ⟨by omega, by omega, ?_⟩
      rw [clipS14, Option.bind_some, ok_some, ht, hs]; rfl
end Go.S
end
