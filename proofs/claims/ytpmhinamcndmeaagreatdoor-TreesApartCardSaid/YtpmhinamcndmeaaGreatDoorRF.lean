/- Part of the proofs of: Three trees are merged as the document says where one side is as it was, and where the changes are apart: for all trees. -/
import Derived.Test.YtpmhinamcndmeaaGreatDoorRE
set_option linter.unusedVariables false
set_option linter.unusedSimpArgs false
set_option linter.unusedSectionVars false
section
set_option linter.unusedVariables false
namespace Go.Proofs.YtpmhinamcndmeaaGreatDoor
set_option maxHeartbeats 4000000
set_option maxRecDepth 100000
open Go.RowKit Go.V
open Go.S hiding Str
theorem slices_Clip_files_Row_files_File_ct (s_0 : Sv FilesFile) {r : List FilesFile} (hS : Sh.slices_Clip_files_Row_files_File s_0.l = some r) :
 Ct Tryz.prog 55 [s_0.val] s_0.ok (Ow.emp) (X := Sv FilesFile) (fun x => x.val) (fun x => r = x.l) (fun x => x.ok) (fun x => Ow.emp) := by
 refine Ct.of Tryz.func55 rfl (by kernel_rfl) Tryz.ntmps55 (by simp) fun c => ?_
 unfold Sh.slices_Clip_files_Row_files_File at hS
 refine Zq (Zr ?_)
 refine Za ?_
 refine Zl ?_
 refine Zq (Zr ?_)
 refine Zm ?_
 refine Zm ?_
 refine VL.q (q_ln (s := s_0) Tryz.underlying23 rfl) (by decide) ?_
 refine Zm ?_
 refine VL.q (q_ln (s := s_0) Tryz.underlying23 rfl) (by decide) ?_
 obtain ⟨b8, hS⟩ := gd_s hS
 refine VL.stom Tryz.underlying23 gsz50 rfl rfl rfl b8.1 (b8.2) (by decide) fun s8_1 hs8_1 => ?_
 replace hS := lt_to hs8_1 hS
 refine Za ?_
 refine Zl ?_
 cases hS
 exact VC.ret (fin1 (.inr rfl) rfl rfl s8_1 rfl rfl (by (try dsimp only); exact InM.out) (fun _ _ => trivial))
theorem slices_Clip_index_Entry_index_Entry_ct (s_0 : Sv IndexEntry) {r : List IndexEntry} (hS : Sh.slices_Clip_index_Entry_index_Entry s_0.l = some r) :
 Ct Tryz.prog 53 [s_0.val] s_0.ok (Ow.emp) (X := Sv IndexEntry) (fun x => x.val) (fun x => r = x.l) (fun x => x.ok) (fun x => Ow.emp) := by
 refine Ct.of Tryz.func53 rfl (by kernel_rfl) Tryz.ntmps53 (by simp) fun c => ?_
 unfold Sh.slices_Clip_index_Entry_index_Entry at hS
 refine Zq (Zr ?_)
 refine Za ?_
 refine Zl ?_
 refine Zq (Zr ?_)
 refine Zm ?_
 refine Zm ?_
 refine VL.q (q_ln (s := s_0) Tryz.underlying29 rfl) (by decide) ?_
 refine Zm ?_
 refine VL.q (q_ln (s := s_0) Tryz.underlying29 rfl) (by decide) ?_
 obtain ⟨b8, hS⟩ := gd_s hS
 refine VL.stom Tryz.underlying29 gsz83 rfl rfl rfl b8.1 (b8.2) (by decide) fun s8_1 hs8_1 => ?_
 replace hS := lt_to hs8_1 hS
 refine Za ?_
 refine Zl ?_
 cases hS
 exact VC.ret (fin1 (.inr rfl) rfl rfl s8_1 rfl rfl (by (try dsimp only); exact InM.out) (fun _ _ => trivial))
theorem tmerge_Merge_ct (base_0 : Sv FilesFile) (ours_1 : Sv FilesFile) (theirs_2 : Sv FilesFile) (a_3 : Str) (b_4 : Str) {r : TmergeResultP × Err} (hS : Sh.tmerge_Merge base_0.l ours_1.l theirs_2.l a_3 b_4 = some r) :
 Ct Tryz.prog 35 [base_0.val, ours_1.val, theirs_2.val, str a_3, str b_4] (base_0.ok.and (ours_1.ok.and theirs_2.ok)) (Ow.emp) (X := TmergeResult × Er) (fun x => .tuple #[.agg (Dat.enc x.1).toArray, x.2.val]) (fun x => r = (x.1.pl, x.2.pl)) (fun x => (x.1.m.and x.2.ok)) (fun x => Ow.emp) := by
 refine Ct.of Tryz.func35 rfl (by kernel_rfl) Tryz.ntmps35 (by simp) fun c => ?_
 unfold Sh.tmerge_Merge at hS
 refine Zq (Zr ?_)
 refine VL.alloc (cs := [.slice none 0 0, .slice none 0 0, .slice none 0 0]) (by kernel_rfl) (by decide) fun b10_1 => ?_
 refine Za ?_
 refine Zl ?_
 refine Zq (Zq (Zr ?_))
 refine Zm ?_
 refine Zm ?_
 refine Zm ?_
 refine VL.lit (α := Sv FilesFile) (xs := [.tmp 22, .tmp 23, .tmp 24]) (vs := [base_0.val, ours_1.val, theirs_2.val]) [base_0, ours_1, theirs_2] Tryz.underlying81 glit23 (by decide) rfl rfl rfl rfl (by decide) (fun h m => List.forall_mem_cons.2 ⟨InM.out (X := base_0.ok) h m, List.forall_mem_cons.2 ⟨InM.out (X := ours_1.ok) h m, List.forall_mem_cons.2 ⟨InM.out (X := theirs_2.ok) h m, fun _ h => by cases h⟩⟩⟩) (by decide) (fun s25_2 hs25_2 => ?_) (by decide)
 replace hS := lt_to (congrArg (List.map Sv.l) hs25_2) hS
 refine VL.q (q_lnm Sv.l (s := s25_2) Tryz.underlying81 rfl) (by decide) ?_
 refine Zm ?_
 refine Zl ?_
 refine Zb ?_
 refine VC.iter (S := Int) (fun (x27_4 : Int) => x27_4) (fun (x27_4 : Int) => [(0, base_0.val), (1, ours_1.val), (2, theirs_2.val), (3, str a_3), (4, str b_4), (10, ptr b10_1 0), (25, s25_2.val), (26, i64 ((s25_2.l.map Sv.l).length : Int)), (27, i64 x27_4)]) (fun (x27_4 : Int) => Mo.tt) (fun (x27_4 : Int) => Ow.star (Blk b10_1 [.slice none 0 0, .slice none 0 0, .slice none 0 0] 34) (Ow.emp)) 0 [0, 1, 2, 3, 4, 10, 25, 26, 27] hS rfl ?_
 clear hS
 rintro x27_4 m1 y1 hS hK1
 show VC _ _ _ _ _ [(0, base_0.val), (1, ours_1.val), (2, theirs_2.val), (3, str a_3), (4, str b_4), (10, ptr b10_1 0), (25, s25_2.val), (26, i64 ((s25_2.l.map Sv.l).length : Int)), (27, i64 x27_4)] (Mo.and Mo.tt _) (Ow.star (Blk b10_1 [.slice none 0 0, .slice none 0 0, .slice none 0 0] 34) (Ow.emp))
 refine Zq (Zr ?_)
 refine VL.q (q_lss rfl rfl) (by decide) ?_
 refine Zl ?_
 refine Zq ?_
 refine VC.cond_dec rfl (fun h28 => ?_) (fun h28 => ?_)
 ·
  replace hS := it_t h28 hS
  refine Zk ?_
  refine Zq (Zb (Zq (Zr ?_)))
  obtain ⟨z29_5, nz29_5, hz29_5, hS⟩ := atm_s hS
  refine VL.deep z29_5.ok hz29_5 (fun _ q => q) ?_
  refine VL.q (q_ixm (s := s25_2) Tryz.underlying81 gsz23 rfl rfl nz29_5 (lt_of_get nz29_5 hz29_5)) (by decide) ?_
  refine VL.q (q_el (s := s25_2) gone23 rfl hz29_5 rfl) (by decide) ?_
  refine Za ?_
  refine Zl ?_
  refine Zq (Zr ?_)
  refine Zm ?_
  obtain ⟨y32_6, ey32_6, hS⟩ := bd_s hS
  refine VL.callF (files_Row_Check_ct z29_5 ey32_6) rfl (by decide) ?_
  rintro q32_6_0 rfl
  try dsimp only
  refine Za ?_
  refine Zl ?_
  refine Zq (Zr ?_)
  refine Zm ?_
  refine VL.q (q_erne Tryz.underlying27 rfl) (by decide) ?_
  refine Zl ?_
  refine VC.keep [0, 1, 2, 3, 4, 10, 25, 26, 27, 14, 34] rfl ?_
  refine VC.cond_ndec rfl (fun h34 => ?_) (fun h34 => ?_)
  ·
   replace hS := it_f h34 hS
   refine Zq (Zr ?_)
   refine VL.q (q_build (vs := []) (cs := #[.slice none 0 0, .slice none 0 0, .slice none 0 0]) rfl (by kernel_rfl)) (by decide) ?_
   refine Zm ?_
   refine VL.store (vc := [.slice none 0 0, .slice none 0 0, .slice none 0 0]) (cs' := [.slice none 0 0, .slice none 0 0, .slice none 0 0]) rfl rfl rfl gsz34 rfl rfl (Nat.le_of_ble_eq_true rfl) rfl ?_
   refine Za ?_
   refine Zl ?_
   refine VC.keep [10, 11] rfl ?_
   replace hS := up2 hS hK1
   cases hS
   exact VC.ret (finG (vs := [.agg #[.slice none 0 0, .slice none 0 0, .slice none 0 0], q32_6_0.val]) (.inr rfl) rfl (RVs.cell gagg34 rfl rfl Rd.blk (RVs.tmp rfl (RVs.nil))) (⟨⟨none, 0, []⟩, ⟨none, 0, []⟩, ⟨none, 0, []⟩⟩, q32_6_0) rfl rfl (by (try dsimp only); exact InM.out) (fun _ _ => trivial))
  replace hS := it_t h34 hS
  refine Zk ?_
  refine Zr ?_
  obtain ⟨b37, hS⟩ := gd_s hS
  refine VL.q (q_add rfl rfl b37) (by decide) ?_
  refine Zm ?_
  refine VL.rnd (x27_4 + 1) [0, 1, 2, 3, 4, 10, 25, 26, 27] (fun _ _ h => h) (go2 hS hK1) rfl
 replace hS := it_f h28 hS
 replace hS := up2 hS hK1
 refine Zx ?_
 refine Zq (Zr ?_)
 refine VL.alloc (cs := [.slice none 0 0, .slice none 0 0, .slice none 0 0]) (by kernel_rfl) (by decide) fun b15_7 => ?_
 refine Zl ?_
 refine Zq (Zq (Zr ?_))
 refine Zm ?_
 refine Zm ?_
 refine Zm ?_
 refine VL.lit (α := Sv FilesFile) (xs := [.tmp 38, .tmp 39, .tmp 40]) (vs := [base_0.val, ours_1.val, theirs_2.val]) [base_0, ours_1, theirs_2] Tryz.underlying81 glit23 (by decide) rfl rfl rfl rfl (by decide) (fun h m => List.forall_mem_cons.2 ⟨InM.out (X := base_0.ok) h m, List.forall_mem_cons.2 ⟨InM.out (X := ours_1.ok) h m, List.forall_mem_cons.2 ⟨InM.out (X := theirs_2.ok) h m, fun _ h => by cases h⟩⟩⟩) (by decide) (fun s41_8 hs41_8 => ?_) (by decide)
 replace hS := lt_to (congrArg (List.map Sv.l) hs41_8) hS
 obtain ⟨y42_10, ey42_10, hS⟩ := bd_s hS
 refine VL.callF (files_Paths_ct s41_8 ey42_10) rfl (by decide) ?_
 rintro q42_10_0 rfl
 try dsimp only
 refine VL.q (q_ln (s := q42_10_0) Tryz.underlying32 rfl) (by decide) ?_
 refine Zm ?_
 refine Zl ?_
 refine VC.keep [0, 1, 2, 3, 4, 10, 15, 42, 43, 44] rfl ?_
 refine Zb ?_
 refine VC.nilO (⟨none, 0, []⟩ : Sv FilesFile) 50 ⟨rfl, rfl⟩ ?_
 refine VC.nilO (⟨none, 0, []⟩ : Sv IndexEntry) 83 ⟨rfl, rfl⟩ ?_
 refine VC.nilO (⟨none, 0, []⟩ : Sv Str) 9 ⟨rfl, rfl⟩ ?_
 refine VC.reB b15_7 (cs' := [(⟨none, 0, []⟩ : Sv FilesFile).val, (⟨none, 0, []⟩ : Sv IndexEntry).val, (⟨none, 0, []⟩ : Sv Str).val]) rfl ?_
 refine VC.iter (S := Int × Sv FilesFile × Sv IndexEntry × Sv Str) (fun sg => (sg.1, sg.2.1.l, sg.2.2.1.l, sg.2.2.2.l)) (fun sg => [(0, base_0.val), (1, ours_1.val), (2, theirs_2.val), (3, str a_3), (4, str b_4), (10, ptr b10_1 0), (15, ptr b15_7 0), (42, q42_10_0.val), (43, i64 (q42_10_0.l.length : Int)), (44, i64 sg.1)]) (fun sg => Mo.tt) (fun sg => Ow.star (Blk b15_7 [sg.2.1.val, sg.2.2.1.val, sg.2.2.2.val] 34) (Ow.star (Blk b10_1 [.slice none 0 0, .slice none 0 0, .slice none 0 0] 34) (Ow.star (Sv.own sg.2.1 50) (Ow.star (Sv.own sg.2.2.1 83) (Ow.star (Sv.own sg.2.2.2 9) (Ow.emp)))))) (0, (⟨none, 0, []⟩ : Sv FilesFile), (⟨none, 0, []⟩ : Sv IndexEntry), (⟨none, 0, []⟩ : Sv Str)) [0, 1, 2, 3, 4, 10, 15, 42, 43, 44] hS rfl ?_
 clear hS
 rintro ⟨x44_11, c0_12, c1_13, c2_14⟩ m1 y1 hS hK1
 show VC _ _ _ _ _ [(0, base_0.val), (1, ours_1.val), (2, theirs_2.val), (3, str a_3), (4, str b_4), (10, ptr b10_1 0), (15, ptr b15_7 0), (42, q42_10_0.val), (43, i64 (q42_10_0.l.length : Int)), (44, i64 x44_11)] (Mo.and Mo.tt _) (Ow.star (Blk b15_7 [c0_12.val, c1_13.val, c2_14.val] 34) (Ow.star (Blk b10_1 [.slice none 0 0, .slice none 0 0, .slice none 0 0] 34) (Ow.star (Sv.own c0_12 50) (Ow.star (Sv.own c1_13 83) (Ow.star (Sv.own c2_14 9) (Ow.emp))))))
 refine Zq (Zr ?_)
 refine VL.q (q_lss rfl rfl) (by decide) ?_
 refine Zl ?_
 refine Zq ?_
 refine VC.cond_dec rfl (fun h45 => ?_) (fun h45 => ?_)
 ·
  replace hS := it_t h45 hS
  refine Zk ?_
  refine Zq (Zb (Zq (Zr ?_)))
  obtain ⟨z46_15, nz46_15, hz46_15, hS⟩ := at_s hS
  refine VL.q (q_ixm (s := q42_10_0) Tryz.underlying32 gsz9 rfl rfl nz46_15 (lt_of_get nz46_15 hz46_15)) (by decide) ?_
  refine VL.q (q_el (s := q42_10_0) gone9 rfl hz46_15 rfl) (by decide) ?_
  refine Za ?_
  refine Zl ?_
  refine Zq (Zr ?_)
  refine Zm ?_
  refine Zm ?_
  refine Zm ?_
  refine Zm ?_
  refine Zm ?_
  refine Zm ?_
  obtain ⟨y55_16, ey55_16, hS⟩ := bd_s hS
  refine VL.q (q_call (tmerge_One_ct z46_15 base_0 ours_1 theirs_2 a_3 b_4 ey55_16) rfl (fun _ _ => rfl)) (by decide) ?_
  refine Zm ?_
  refine VL.q (q_extract rfl rfl) (by decide) ?_
  refine VL.q (q_extract rfl rfl) (by decide) ?_
  refine VL.q (q_extract rfl rfl) (by decide) ?_
  refine VL.alloc (cs := [str [], i64 0, str []]) (by kernel_rfl) (by decide) fun b18_17 => ?_
  refine VL.store (vc := [str y55_16.1.path, i64 y55_16.1.mode, str y55_16.1.data]) (cs' := [str y55_16.1.path, i64 y55_16.1.mode, str y55_16.1.data]) rfl rfl rfl gsz50 rfl rfl (Nat.le_of_ble_eq_true rfl) rfl ?_
  refine Za ?_
  refine Za ?_
  refine Zl ?_
  refine VC.keep [0, 1, 2, 3, 4, 10, 15, 42, 43, 44, 17, 18, 19, 20] rfl ?_
  refine VC.cutJ (S := Sv FilesFile) (fun (c0_18 : Sv FilesFile) => c0_18.l) (fun (c0_18 : Sv FilesFile) => [(0, base_0.val), (1, ours_1.val), (2, theirs_2.val), (3, str a_3), (4, str b_4), (10, ptr b10_1 0), (15, ptr b15_7 0), (17, str z46_15), (20, .bool y55_16.2.2), (42, q42_10_0.val), (43, i64 (q42_10_0.l.length : Int)), (44, i64 x44_11)]) (fun (c0_18 : Sv FilesFile) => Mo.tt) (fun (c0_18 : Sv FilesFile) => Ow.star (Blk b18_17 [str y55_16.1.path, i64 y55_16.1.mode, str y55_16.1.data] 50) (Ow.star (Blk b15_7 [c0_18.val, c1_13.val, c2_14.val] 34) (Ow.star (Blk b10_1 [.slice none 0 0, .slice none 0 0, .slice none 0 0] 34) (Ow.star (Sv.own c1_13 83) (Ow.star (Sv.own c2_14 9) (Ow.star (Sv.own c0_18 50) (Ow.emp))))))) hS ?_ ?_
  ·
   clear hS
   intro k19 hS
   refine Zq (Zr ?_)
   refine Zm ?_
   refine Zl ?_
   refine VC.cond rfl (fun h59 => ?_) (fun h59 => ?_)
   ·
    replace hS := it_t h59 hS
    refine Zr ?_
    refine VL.q (q_field gfa34_0 rfl) (by decide) ?_
    refine VL.q (q_fe gone23 rfl rfl) (by decide) ?_
    refine VL.q (q_fes gagg50 rfl rfl) (by decide) ?_
    refine VL.lit (α := FilesFile) (xs := [.tmp 62]) (vs := [.agg #[str y55_16.1.path, i64 y55_16.1.mode, str y55_16.1.data]]) [⟨y55_16.1.path, y55_16.1.mode, y55_16.1.data⟩] Tryz.underlying23 glit50 (by decide) rfl rfl rfl rfl (by decide) (fun _ _ _ _ => trivial) (by decide) (fun s63_20 hs63_20 => ?_) (by decide)
    replace hS := lt_to hs63_20 hS
    obtain ⟨b64, hS⟩ := gd_s hS
    refine VL.app (s := c0_12) (r := s63_20) Tryz.underlying23 gapp50 (by decide) rfl Fo.out (ap1 b64) (ap2 b64 (by decide)) (by decide) (fun s64_22 hs64_22 => ?_)
    replace hS := lt_to hs64_22 hS
    refine VL.q (q_field gfa34_0 rfl) (by decide) ?_
    refine VL.store (vc := [s64_22.val]) (cs' := [s64_22.val, c1_13.val, c2_14.val]) rfl rfl rfl gsz23 rfl rfl (Nat.le_of_ble_eq_true rfl) rfl ?_
    refine VL.mt s64_22 [0, 1, 2, 3, 4, 10, 15, 17, 20, 42, 43, 44] (fun _ _ h => h) hS rfl
   replace hS := it_b h59 hS
   refine VC.skip_mt c0_12 [0, 1, 2, 3, 4, 10, 15, 17, 20, 42, 43, 44] (fun _ _ h => h) hS rfl
  clear hS
  rintro c0_18 hS
  show VC _ _ _ _ _ [(0, base_0.val), (1, ours_1.val), (2, theirs_2.val), (3, str a_3), (4, str b_4), (10, ptr b10_1 0), (15, ptr b15_7 0), (17, str z46_15), (20, .bool y55_16.2.2), (42, q42_10_0.val), (43, i64 (q42_10_0.l.length : Int)), (44, i64 x44_11)] (Mo.and Mo.tt _) (Ow.star (Blk b18_17 [str y55_16.1.path, i64 y55_16.1.mode, str y55_16.1.data] 50) (Ow.star (Blk b15_7 [c0_18.val, c1_13.val, c2_14.val] 34) (Ow.star (Blk b10_1 [.slice none 0 0, .slice none 0 0, .slice none 0 0] 34) (Ow.star (Sv.own c1_13 83) (Ow.star (Sv.own c2_14 9) (Ow.star (Sv.own c0_18 50) (Ow.emp)))))))
  refine Zq (Zr ?_)
  refine Zm ?_
  refine Zl ?_
  refine VC.cond rfl (fun h66 => ?_) (fun h66 => ?_)
  ·
   replace hS := it_t h66 hS
   refine Zq (Zr ?_)
   refine VL.q (q_field gfa34_2 rfl) (by decide) ?_
   refine VL.q (q_fe gone32 rfl rfl) (by decide) ?_
   refine Zm ?_
   refine VL.lit (α := Str) (xs := [.tmp 69]) (vs := [str z46_15]) [z46_15] Tryz.underlying32 glit9 (by decide) rfl rfl rfl rfl (by decide) (fun _ _ _ _ => trivial) (by decide) (fun s70_24 hs70_24 => ?_) (by decide)
   replace hS := lt_to hs70_24 hS
   obtain ⟨b71, hS⟩ := gd_s hS
   refine VL.app (s := c2_14) (r := s70_24) Tryz.underlying32 gapp9 (by decide) rfl Fo.out (ap1 b71) (ap2 b71 (by decide)) (by decide) (fun s71_26 hs71_26 => ?_)
   replace hS := lt_to hs71_26 hS
   refine VL.q (q_field gfa34_2 rfl) (by decide) ?_
   refine VL.store (vc := [s71_26.val]) (cs' := [c0_18.val, c1_13.val, s71_26.val]) rfl rfl rfl gsz32 rfl rfl (Nat.le_of_ble_eq_true rfl) rfl ?_
   refine Zl ?_
   refine VC.keep [0, 1, 2, 3, 4, 10, 15, 17, 42, 43, 44] rfl ?_
   refine VC.draw [(0, true), (1, true), (2, true), (3, true), (4, true), (5, true), (6, false), (7, false), (8, false), (9, true), (10, false)] mixed (by kernel_rfl) (by kernel_rfl) (by kernel_rfl) ?_
   refine VD.q rfl (q_field gfa34_1 rfl) (by decide) ?_
   refine VD.q rfl (q_fe gone29 rfl rfl) (by decide) ?_
   refine VD.q rfl (q_move rfl) (by decide) ?_
   refine VD.q rfl (q_move rfl) (by decide) ?_
   refine VD.q rfl (q_move rfl) (by decide) ?_
   refine VD.q rfl (q_move rfl) (by decide) ?_
   refine VD.one rfl ?_
   refine VL.lit (α := Sv FilesFile) (xs := [.tmp 76, .tmp 77, .tmp 78]) (vs := [base_0.val, ours_1.val, theirs_2.val]) [base_0, ours_1, theirs_2] Tryz.underlying81 glit23 (by decide) rfl rfl rfl rfl (by decide) (fun h m => List.forall_mem_cons.2 ⟨InM.out (X := base_0.ok) h m, List.forall_mem_cons.2 ⟨InM.out (X := ours_1.ok) h m, List.forall_mem_cons.2 ⟨InM.out (X := theirs_2.ok) h m, fun _ h => by cases h⟩⟩⟩) (by decide) (fun s79_28 hs79_28 => ?_) (by decide)
   replace hS := lt_to (congrArg (List.map Sv.l) hs79_28) hS
   refine VL.back (D' := [(1, c1_13.val), (0, ptr b15_7 1)]) (by kernel_rfl) (Pend.cons rfl (q_fe gone29 rfl rfl) (Pend.cons rfl (q_field gfa34_1 rfl) (Pend.nil))) ?_
   refine VD.one rfl ?_
   obtain ⟨y80_30, ey80_30, hS⟩ := bd_s hS
   refine VL.callO (tmerge_stages_ct z46_15 s79_28 ey80_30) rfl (by decide) ?_
   rintro q80_30_0 rfl
   try dsimp only
   refine VL.back (D' := [(1, c1_13.val), (0, ptr b15_7 1)]) (by kernel_rfl) (Pend.cons rfl (q_fe gone29 rfl rfl) (Pend.cons rfl (q_field gfa34_1 rfl) (Pend.nil))) ?_
   refine VD.one rfl ?_
   refine VL.shut q80_30_0 83 (fun _ _ _ _ => trivial) ?_
   obtain ⟨b81, hS⟩ := gd_s hS
   refine VL.app (s := c1_13) (r := q80_30_0) Tryz.underlying29 gapp83 (by decide) rfl Fo.out (ap1 b81) (ap2 b81 (by decide)) (by decide) (fun s81_31 hs81_31 => ?_)
   replace hS := lt_to hs81_31 hS
   refine VL.back (D' := []) (by kernel_rfl) (Pend.nil) ?_
   refine VD.q rfl (q_field gfa34_1 rfl) (by decide) ?_
   refine VD.one rfl ?_
   refine VL.store (vc := [s81_31.val]) (cs' := [c0_18.val, s81_31.val, s71_26.val]) rfl rfl rfl gsz29 rfl rfl (Nat.le_of_ble_eq_true rfl) rfl ?_
   refine VL.back (D' := []) (by kernel_rfl) (Pend.nil) ?_
   refine VD.to (fun _ _ h => h) ?_
   refine VC.keep [0, 1, 2, 3, 4, 10, 15, 42, 43, 44] rfl ?_
   refine Zr ?_
   obtain ⟨b83, hS⟩ := gd_s hS
   refine VL.q (q_add rfl rfl b83) (by decide) ?_
   refine Zm ?_
   refine VL.rnd ((x44_11 + 1), c0_18, s81_31, s71_26) [0, 1, 2, 3, 4, 10, 15, 42, 43, 44] (fun _ _ h => h) (go2 hS hK1) rfl
  replace hS := it_b h66 hS
  refine Zk ?_
  refine Zr ?_
  obtain ⟨b83, hS⟩ := gd_s hS
  refine VL.q (q_add rfl rfl b83) (by decide) ?_
  refine Zm ?_
  refine VL.rnd ((x44_11 + 1), c0_18, c1_13, c2_14) [0, 1, 2, 3, 4, 10, 15, 42, 43, 44] (fun _ _ h => h) (go2 hS hK1) rfl
 replace hS := it_f h45 hS
 replace hS := up2 hS hK1
 refine Zx ?_
 refine VC.keep [10, 15] rfl ?_
 refine Zq (Zq (Zr ?_))
 refine VL.q (q_field gfa34_0 rfl) (by decide) ?_
 refine VL.q (q_fe gone23 rfl rfl) (by decide) ?_
 refine VL.shut c0_12 50 (fun _ _ _ _ => trivial) ?_
 obtain ⟨y86_33, ey86_33, hS⟩ := bd_s hS
 refine VL.callF (tmerge_fault_ct c0_12 ey86_33) rfl (by decide) ?_
 rintro q86_33_0 rfl
 try dsimp only
 refine Za ?_
 refine Zl ?_
 refine Zq (Zr ?_)
 refine Zm ?_
 refine VL.q (q_erne Tryz.underlying27 rfl) (by decide) ?_
 refine Zl ?_
 refine VC.cond_ndec rfl (fun h88 => ?_) (fun h88 => ?_)
 ·
  replace hS := it_f h88 hS
  refine Zq (Zr ?_)
  refine VL.q (q_build (vs := []) (cs := #[.slice none 0 0, .slice none 0 0, .slice none 0 0]) rfl (by kernel_rfl)) (by decide) ?_
  refine Zm ?_
  refine VL.store (vc := [.slice none 0 0, .slice none 0 0, .slice none 0 0]) (cs' := [.slice none 0 0, .slice none 0 0, .slice none 0 0]) rfl rfl rfl gsz34 rfl rfl (Nat.le_of_ble_eq_true rfl) rfl ?_
  refine Za ?_
  refine Zl ?_
  refine VC.keep [10, 11] rfl ?_
  cases hS
  exact VC.ret (finG (vs := [.agg #[.slice none 0 0, .slice none 0 0, .slice none 0 0], q86_33_0.val]) (.inr rfl) rfl (RVs.cell gagg34 rfl rfl Rd.blk (RVs.tmp rfl (RVs.nil))) (⟨⟨none, 0, []⟩, ⟨none, 0, []⟩, ⟨none, 0, []⟩⟩, q86_33_0) rfl rfl (by (try dsimp only); exact InM.out) (fun _ _ => trivial))
 replace hS := it_t h88 hS
 refine Zk ?_
 refine Zq ?_
 refine VC.draw [(0, true), (1, true), (3, true), (4, true), (6, true), (7, true), (2, false), (5, false), (8, false), (9, true), (10, false), (11, true)] mixed (by kernel_rfl) (by kernel_rfl) (by kernel_rfl) ?_
 refine VD.q rfl (q_field gfa34_0 rfl) (by decide) ?_
 refine VD.q rfl (q_fe gone23 rfl rfl) (by decide) ?_
 refine VD.q rfl (q_field gfa34_1 rfl) (by decide) ?_
 refine VD.q rfl (q_fe gone29 rfl rfl) (by decide) ?_
 refine VD.q rfl (q_field gfa34_2 rfl) (by decide) ?_
 refine VD.q rfl (q_fe gone32 rfl rfl) (by decide) ?_
 refine VD.one rfl ?_
 obtain ⟨y93_34, ey93_34, hS⟩ := bd_s hS
 refine VL.callF (slices_Clip_files_Row_files_File_ct c0_12 ey93_34) rfl (by decide) ?_
 rintro q93_34_0 rfl
 try dsimp only
 refine VL.back (D' := [(7, c2_14.val), (6, ptr b15_7 2), (4, c1_13.val), (3, ptr b15_7 1)]) (by kernel_rfl) (Pend.cons rfl (q_fe gone32 rfl rfl) (Pend.cons rfl (q_field gfa34_2 rfl) (Pend.cons rfl (q_fe gone29 rfl rfl) (Pend.cons rfl (q_field gfa34_1 rfl) (Pend.nil))))) ?_
 refine VD.one rfl ?_
 refine VL.shut c1_13 83 (fun _ _ _ _ => trivial) ?_
 obtain ⟨y96_35, ey96_35, hS⟩ := bd_s hS
 refine VL.callF (slices_Clip_index_Entry_index_Entry_ct c1_13 ey96_35) rfl (by decide) ?_
 rintro q96_35_0 rfl
 try dsimp only
 refine VL.back (D' := [(7, c2_14.val), (6, ptr b15_7 2)]) (by kernel_rfl) (Pend.cons rfl (q_fe gone32 rfl rfl) (Pend.cons rfl (q_field gfa34_2 rfl) (Pend.nil))) ?_
 refine VD.one rfl ?_
 refine VL.shut c2_14 9 (fun _ _ _ _ => trivial) ?_
 obtain ⟨y99_36, ey99_36, hS⟩ := bd_s hS
 refine VL.callF (slices_Clip_string_string_ct c2_14 ey99_36) rfl (by decide) ?_
 rintro q99_36_0 rfl
 try dsimp only
 refine VL.back (D' := []) (by kernel_rfl) (Pend.nil) ?_
 refine VD.q rfl (q_build (vs := [(0, q93_34_0.val), (1, q96_35_0.val), (2, q99_36_0.val)]) (cs := #[q93_34_0.val, q96_35_0.val, q99_36_0.val]) rfl (by kernel_rfl)) (by decide) ?_
 refine VD.one rfl ?_
 refine VL.store (vc := [q93_34_0.val, q96_35_0.val, q99_36_0.val]) (cs' := [q93_34_0.val, q96_35_0.val, q99_36_0.val]) rfl rfl rfl gsz34 rfl rfl (Nat.le_of_ble_eq_true rfl) rfl ?_
 refine VL.back (D' := []) (by kernel_rfl) (Pend.nil) ?_
 refine VD.q rfl (q_assign rfl) (by decide) ?_
 refine VD.to (fun _ _ h => h) ?_
 refine VC.keep [10, 11] rfl ?_
 cases hS
 exact VC.ret (finG (vs := [.agg #[q93_34_0.val, q96_35_0.val, q99_36_0.val], .nilIface]) (.inr rfl) rfl (RVs.cell gagg34 rfl rfl Rd.blk (RVs.tmp rfl (RVs.nil))) (⟨q93_34_0, q96_35_0, q99_36_0⟩, .nil) rfl rfl (by (try dsimp only); exact InM.out) (fun _ _ => trivial))
theorem rectolaw16_known_ct  {r : Bool} (hS : Sh.rectolaw16_known = some r) :
 Ct Tryz.prog 33 [] Mo.tt (Ow.emp) (X := Unit) (fun _ => .bool r) (fun _ => True) (fun _ => Mo.tt) (fun _ => Ow.emp) := by
 refine Ct.of Tryz.func33 rfl (by kernel_rfl) Tryz.ntmps33 (by simp) fun c => ?_
 unfold Sh.rectolaw16_known at hS
 refine Zq (Zr ?_)
 refine Za ?_
 refine Zl ?_
 refine Zq (Zr ?_)
 refine VL.q (q_build (vs := [(0, str [97]), (1, i64 1), (2, str [120, 10])]) (cs := #[str [97], i64 1, str [120, 10]]) rfl (by kernel_rfl)) (by decide) ?_
 refine VL.q (q_build (vs := [(0, str [98]), (1, i64 1), (2, str [121, 10])]) (cs := #[str [98], i64 1, str [121, 10]]) rfl (by kernel_rfl)) (by decide) ?_
 refine VL.lit (α := FilesFile) (xs := [.tmp 9, .tmp 10]) (vs := [.agg #[str [97], i64 1, str [120, 10]], .agg #[str [98], i64 1, str [121, 10]]]) [⟨[97], 1, [120, 10]⟩, ⟨[98], 1, [121, 10]⟩] Tryz.underlying23 glit50 (by decide) rfl rfl rfl rfl (by decide) (fun _ _ _ _ => trivial) (by decide) (fun s11_1 hs11_1 => ?_) (by decide)
 replace hS := lt_to hs11_1 hS
 refine Za ?_
 refine Zl ?_
 refine Zq (Zr ?_)
 refine VL.q (q_build (vs := [(0, str [97]), (1, i64 1), (2, str [88, 10])]) (cs := #[str [97], i64 1, str [88, 10]]) rfl (by kernel_rfl)) (by decide) ?_
 refine VL.q (q_build (vs := [(0, str [98]), (1, i64 1), (2, str [49, 10])]) (cs := #[str [98], i64 1, str [49, 10]]) rfl (by kernel_rfl)) (by decide) ?_
 refine VL.lit (α := FilesFile) (xs := [.tmp 12, .tmp 13]) (vs := [.agg #[str [97], i64 1, str [88, 10]], .agg #[str [98], i64 1, str [49, 10]]]) [⟨[97], 1, [88, 10]⟩, ⟨[98], 1, [49, 10]⟩] Tryz.underlying23 glit50 (by decide) rfl rfl rfl rfl (by decide) (fun _ _ _ _ => trivial) (by decide) (fun s14_3 hs14_3 => ?_) (by decide)
 replace hS := lt_to hs14_3 hS
 refine Za ?_
 refine Zl ?_
 refine Zq (Zr ?_)
 refine VL.q (q_build (vs := [(0, str [97]), (1, i64 1), (2, str [120, 10])]) (cs := #[str [97], i64 1, str [120, 10]]) rfl (by kernel_rfl)) (by decide) ?_
 refine VL.q (q_build (vs := [(0, str [98]), (1, i64 1), (2, str [50, 10])]) (cs := #[str [98], i64 1, str [50, 10]]) rfl (by kernel_rfl)) (by decide) ?_
 refine VL.lit (α := FilesFile) (xs := [.tmp 15, .tmp 16]) (vs := [.agg #[str [97], i64 1, str [120, 10]], .agg #[str [98], i64 1, str [50, 10]]]) [⟨[97], 1, [120, 10]⟩, ⟨[98], 1, [50, 10]⟩] Tryz.underlying23 glit50 (by decide) rfl rfl rfl rfl (by decide) (fun _ _ _ _ => trivial) (by decide) (fun s17_5 hs17_5 => ?_) (by decide)
 replace hS := lt_to hs17_5 hS
 refine Za ?_
 refine Zl ?_
 refine VC.keep [1, 2, 3] rfl ?_
 refine Zq (Zr ?_)
 refine Zm ?_
 refine Zm ?_
 refine Zm ?_
 obtain ⟨y22_7, ey22_7, hS⟩ := bd_s hS
 refine VL.callF (tmerge_Merge_ct s11_1 s14_3 s17_5 [112] [113] ey22_7) rfl (by decide) ?_
 rintro ⟨q22_7_0, q22_7_1⟩ rfl
 try dsimp only
 refine Zm ?_
 refine VL.q (q_extract rfl rfl) (by decide) ?_
 refine VL.q (q_extract rfl rfl) (by decide) ?_
 refine VL.alloc (cs := [.slice none 0 0, .slice none 0 0, .slice none 0 0]) (by kernel_rfl) (by decide) fun b4_8 => ?_
 refine VL.store (vc := [q22_7_0.files.val, q22_7_0.entries.val, q22_7_0.conflicts.val]) (cs' := [q22_7_0.files.val, q22_7_0.entries.val, q22_7_0.conflicts.val]) rfl rfl rfl gsz34 rfl rfl (Nat.le_of_ble_eq_true rfl) rfl ?_
 refine Za ?_
 refine Zl ?_
 refine VC.keep [1, 2, 3, 4, 5] rfl ?_
 refine Zq (Zr ?_)
 refine Zm ?_
 refine Zm ?_
 refine Zm ?_
 obtain ⟨y29_9, ey29_9, hS⟩ := bd_s hS
 refine VL.q (q_call (tmerge_One_ct [97] s11_1 s14_3 s17_5 [112] [113] ey29_9) rfl (fun _ _ => rfl)) (by decide) ?_
 refine Zm ?_
 refine VL.q (q_extract rfl rfl) (by decide) ?_
 refine VL.q (q_extract rfl rfl) (by decide) ?_
 refine VL.q (q_extract rfl rfl) (by decide) ?_
 refine VL.alloc (cs := [str [], i64 0, str []]) (by kernel_rfl) (by decide) fun b6_10 => ?_
 refine VL.store (vc := [str y29_9.1.path, i64 y29_9.1.mode, str y29_9.1.data]) (cs' := [str y29_9.1.path, i64 y29_9.1.mode, str y29_9.1.data]) rfl rfl rfl gsz50 rfl rfl (Nat.le_of_ble_eq_true rfl) rfl ?_
 refine Za ?_
 refine Za ?_
 refine Zl ?_
 refine VC.keep [4, 5, 6, 7, 8] rfl ?_
 refine Zq (Zr ?_)
 refine Zm ?_
 refine VL.q (q_ereq Tryz.underlying27 rfl) (by decide) ?_
 refine Zm ?_
 refine VL.split_dec 35 rfl (fun h35 => ?_) (fun h35 => ?_)
 ·
  replace hS := it_t h35 hS
  refine VL.gy rfl rfl (q_field gfa34_0 rfl) (by decide) ?_
  refine VL.gy rfl rfl (q_fe gone23 rfl rfl) (by decide) ?_
  refine VL.gy rfl rfl (q_ln (s := q22_7_0.files) Tryz.underlying23 rfl) (by decide) ?_
  refine VL.gy rfl rfl (q_eql rfl rfl) (by decide) ?_
  refine Zt ?_
  refine Zm ?_
  refine VL.split_dec 41 rfl (fun h41 => ?_) (fun h41 => ?_)
  ·
   replace hS := it_t h41 hS
   refine VL.gy rfl rfl (q_field gfa34_0 rfl) (by decide) ?_
   refine VL.gy rfl rfl (q_fe gone23 rfl rfl) (by decide) ?_
   obtain ⟨z44_11, nz44_11, hz44_11, hS⟩ := at_s hS
   refine VL.gy rfl rfl (q_ixm (s := q22_7_0.files) Tryz.underlying23 gsz50 rfl rfl nz44_11 (lt_of_get nz44_11 hz44_11)) (by decide) ?_
   refine VL.gy rfl rfl (q_field gfa50_2 rfl) (by decide) ?_
   refine VL.gy rfl rfl (q_elf (s := q22_7_0.files) gone9 rfl hz44_11 rfl) (by decide) ?_
   refine VL.gy rfl rfl (q_seq rfl rfl) (by decide) ?_
   refine Zt ?_
   refine Zm ?_
   refine VL.split_dec 49 rfl (fun h49 => ?_) (fun h49 => ?_)
   ·
    replace hS := it_t h49 hS
    refine VL.gy rfl rfl (q_field gfa34_2 rfl) (by decide) ?_
    refine VL.gy rfl rfl (q_fe gone32 rfl rfl) (by decide) ?_
    refine VL.gy rfl rfl (q_ln (s := q22_7_0.conflicts) Tryz.underlying32 rfl) (by decide) ?_
    refine VL.gy rfl rfl (q_eql rfl rfl) (by decide) ?_
    refine Zt ?_
    refine Zm ?_
    refine VL.split_dec 55 rfl (fun h55 => ?_) (fun h55 => ?_)
    ·
     replace hS := it_t h55 hS
     refine VL.gy rfl rfl (q_field gfa34_2 rfl) (by decide) ?_
     refine VL.gy rfl rfl (q_fe gone32 rfl rfl) (by decide) ?_
     obtain ⟨z58_12, nz58_12, hz58_12, hS⟩ := at_s hS
     refine VL.gy rfl rfl (q_ixm (s := q22_7_0.conflicts) Tryz.underlying32 gsz9 rfl rfl nz58_12 (lt_of_get nz58_12 hz58_12)) (by decide) ?_
     refine VL.gy rfl rfl (q_el (s := q22_7_0.conflicts) gone9 rfl hz58_12 rfl) (by decide) ?_
     refine VL.gy rfl rfl (q_seq rfl rfl) (by decide) ?_
     refine Zt ?_
     refine Zm ?_
     refine VL.split_dec 62 rfl (fun h62 => ?_) (fun h62 => ?_)
     ·
      replace hS := it_t h62 hS
      refine VL.gy rfl rfl (q_field gfa34_1 rfl) (by decide) ?_
      refine VL.gy rfl rfl (q_fe gone29 rfl rfl) (by decide) ?_
      refine VL.gy rfl rfl (q_ln (s := q22_7_0.entries) Tryz.underlying29 rfl) (by decide) ?_
      refine VL.gy rfl rfl (q_eql rfl rfl) (by decide) ?_
      refine Zt ?_
      refine Zm ?_
      refine VL.split_dec 68 rfl (fun h68 => ?_) (fun h68 => ?_)
      ·
       replace hS := it_t h68 hS
       refine VL.gy rfl rfl (q_field gfa50_2 rfl) (by decide) ?_
       refine VL.gy rfl rfl (q_fe gone9 rfl rfl) (by decide) ?_
       refine VL.gy rfl rfl (q_seq rfl rfl) (by decide) ?_
       refine Zt ?_
       refine Zm ?_
       refine VL.split_dec 73 rfl (fun h73 => ?_) (fun h73 => ?_)
       ·
        replace hS := it_t h73 hS
        refine Zg ?_
        refine Zt ?_
        refine Zm ?_
        refine VL.split 76 rfl (fun h76 => ?_) (fun h76 => ?_)
        ·
         replace hS := it_t h76 hS
         refine Zg ?_
         refine VL.gy rfl rfl (q_not rfl) (by decide) ?_
         refine Zt ?_
         refine Za ?_
         refine Zl ?_
         refine VC.keep [0] rfl ?_
         cases hS
         exact Ze
        replace hS := it_b h76 hS
        refine Zn ?_
        refine Zn ?_
        refine Zf ?_
        refine Za ?_
        refine Zl ?_
        refine VC.keep [0] rfl ?_
        cases hS
        exact Ze
       replace hS := it_f h73 hS
       refine Zn ?_
       refine Zf ?_
       refine Zm ?_
       refine Zn ?_
       refine Zn ?_
       refine Zf ?_
       refine Za ?_
       refine Zl ?_
       refine VC.keep [0] rfl ?_
       cases hS
       exact Ze
      replace hS := it_f h68 hS
      refine Zn ?_
      refine Zn ?_
      refine Zn ?_
      refine Zf ?_
      refine Zm ?_
      refine Zn ?_
      refine Zf ?_
      refine Zm ?_
      refine Zn ?_
      refine Zn ?_
      refine Zf ?_
      refine Za ?_
      refine Zl ?_
      refine VC.keep [0] rfl ?_
      cases hS
      exact Ze
     replace hS := it_f h62 hS
     refine Zn ?_
     refine Zn ?_
     refine Zn ?_
     refine Zn ?_
     refine Zf ?_
     refine Zm ?_
     refine Zn ?_
     refine Zn ?_
     refine Zn ?_
     refine Zf ?_
     refine Zm ?_
     refine Zn ?_
     refine Zf ?_
     refine Zm ?_
     refine Zn ?_
     refine Zn ?_
     refine Zf ?_
     refine Za ?_
     refine Zl ?_
     refine VC.keep [0] rfl ?_
     cases hS
     exact Ze
    replace hS := it_f h55 hS
    refine Zn ?_
    refine Zn ?_
    refine Zn ?_
    refine Zn ?_
    refine Zn ?_
    refine Zf ?_
    refine Zm ?_
    refine Zn ?_
    refine Zn ?_
    refine Zn ?_
    refine Zn ?_
    refine Zf ?_
    refine Zm ?_
    refine Zn ?_
    refine Zn ?_
    refine Zn ?_
    refine Zf ?_
    refine Zm ?_
    refine Zn ?_
    refine Zf ?_
    refine Zm ?_
    refine Zn ?_
    refine Zn ?_
    refine Zf ?_
    refine Za ?_
    refine Zl ?_
    refine VC.keep [0] rfl ?_
    cases hS
    exact Ze
   replace hS := it_f h49 hS
   refine Zn ?_
   refine Zn ?_
   refine Zn ?_
   refine Zn ?_
   refine Zf ?_
   refine Zm ?_
   refine Zn ?_
   refine Zn ?_
   refine Zn ?_
   refine Zn ?_
   refine Zn ?_
   refine Zf ?_
   refine Zm ?_
   refine Zn ?_
   refine Zn ?_
   refine Zn ?_
   refine Zn ?_
   refine Zf ?_
   refine Zm ?_
   refine Zn ?_
   refine Zn ?_
   refine Zn ?_
   refine Zf ?_
   refine Zm ?_
   refine Zn ?_
   refine Zf ?_
   refine Zm ?_
   refine Zn ?_
   refine Zn ?_
   refine Zf ?_
   refine Za ?_
   refine Zl ?_
   refine VC.keep [0] rfl ?_
   cases hS
   exact Ze
  replace hS := it_f h41 hS
  refine Zn ?_
  refine Zn ?_
  refine Zn ?_
  refine Zn ?_
  refine Zn ?_
  refine Zn ?_
  refine Zf ?_
  refine Zm ?_
  refine Zn ?_
  refine Zn ?_
  refine Zn ?_
  refine Zn ?_
  refine Zf ?_
  refine Zm ?_
  refine Zn ?_
  refine Zn ?_
  refine Zn ?_
  refine Zn ?_
  refine Zn ?_
  refine Zf ?_
  refine Zm ?_
  refine Zn ?_
  refine Zn ?_
  refine Zn ?_
  refine Zn ?_
  refine Zf ?_
  refine Zm ?_
  refine Zn ?_
  refine Zn ?_
  refine Zn ?_
  refine Zf ?_
  refine Zm ?_
  refine Zn ?_
  refine Zf ?_
  refine Zm ?_
  refine Zn ?_
  refine Zn ?_
  refine Zf ?_
  refine Za ?_
  refine Zl ?_
  refine VC.keep [0] rfl ?_
  cases hS
  exact Ze
 replace hS := it_f h35 hS
 refine Zn ?_
 refine Zn ?_
 refine Zn ?_
 refine Zn ?_
 refine Zf ?_
 refine Zm ?_
 refine Zn ?_
 refine Zn ?_
 refine Zn ?_
 refine Zn ?_
 refine Zn ?_
 refine Zn ?_
 refine Zf ?_
 refine Zm ?_
 refine Zn ?_
 refine Zn ?_
 refine Zn ?_
 refine Zn ?_
 refine Zf ?_
 refine Zm ?_
 refine Zn ?_
 refine Zn ?_
 refine Zn ?_
 refine Zn ?_
 refine Zn ?_
 refine Zf ?_
 refine Zm ?_
 refine Zn ?_
 refine Zn ?_
 refine Zn ?_
 refine Zn ?_
 refine Zf ?_
 refine Zm ?_
 refine Zn ?_
 refine Zn ?_
 refine Zn ?_
 refine Zf ?_
 refine Zm ?_
 refine Zn ?_
 refine Zf ?_
 refine Zm ?_
 refine Zn ?_
 refine Zn ?_
 refine Zf ?_
 refine Za ?_
 refine Zl ?_
 refine VC.keep [0] rfl ?_
 cases hS
 exact Ze
theorem rectolaw14_Few_ct (r_0 : Sv FilesFile) {r : Bool} (hS : Sh.rectolaw14_Few r_0.l = some r) :
 Ct Tryz.prog 12 [r_0.val] r_0.ok (Ow.emp) (X := Unit) (fun _ => .bool r) (fun _ => True) (fun _ => Mo.tt) (fun _ => Ow.emp) := by
 refine Ct.of Tryz.func12 rfl (by kernel_rfl) Tryz.ntmps12 (by simp) fun c => ?_
 unfold Sh.rectolaw14_Few at hS
 refine Zq (Zr ?_)
 refine Za ?_
 refine Zl ?_
 refine Zq (Zq (Zr ?_))
 refine Zm ?_
 refine VL.q (q_ln (s := r_0) Tryz.underlying23 rfl) (by decide) ?_
 refine VL.q (q_gtr rfl rfl) (by decide) ?_
 refine Zl ?_
 refine VC.cond_dec rfl (fun h6 => ?_) (fun h6 => ?_)
 ·
  replace hS := it_t h6 hS
  refine Zq (Zr ?_)
  refine Za ?_
  refine Zl ?_
  cases hS
  exact Ze
 replace hS := it_f h6 hS
 refine Zk ?_
 refine Zq (Zq (Zr ?_))
 refine Za ?_
 refine Zl ?_
 refine Zb ?_
 refine VC.iter (S := Int) (fun (i3_1 : Int) => i3_1) (fun (i3_1 : Int) => [(0, r_0.val), (3, i64 i3_1)]) (fun (i3_1 : Int) => Mo.tt) (fun (i3_1 : Int) => Ow.emp) 0 [0, 3] hS rfl ?_
 clear hS
 rintro i3_1 m1 y1 hS hK1
 show VC _ _ _ _ _ [(0, r_0.val), (3, i64 i3_1)] (Mo.and Mo.tt _) (Ow.emp)
 refine Zq (Zq (Zr ?_))
 refine Zm ?_
 refine Zm ?_
 refine VL.q (q_ln (s := r_0) Tryz.underlying23 rfl) (by decide) ?_
 refine VL.q (q_lss rfl rfl) (by decide) ?_
 refine Zl ?_
 refine VC.cond_dec rfl (fun h10 => ?_) (fun h10 => ?_)
 ·
  replace hS := it_t h10 hS
  refine Zk ?_
  refine Zq (Zb ?_)
  refine VC.cutJ (S := Bool) (fun (x28_2 : Bool) => x28_2) (fun (x28_2 : Bool) => [(0, r_0.val), (3, i64 i3_1), (28, .bool x28_2)]) (fun (x28_2 : Bool) => Mo.tt) (fun (x28_2 : Bool) => Ow.emp) hS ?_ ?_
  ·
   clear hS
   intro k3 hS
   refine Zr ?_
   refine Zm ?_
   refine Zm ?_
   obtain ⟨z15_4, nz15_4, hz15_4, hS⟩ := at_s hS
   refine VL.q (q_ixm (s := r_0) Tryz.underlying23 gsz50 rfl rfl nz15_4 (lt_of_get nz15_4 hz15_4)) (by decide) ?_
   refine VL.q (q_field gfa50_0 rfl) (by decide) ?_
   refine VL.q (q_elf (s := r_0) gone9 rfl hz15_4 rfl) (by decide) ?_
   refine VL.q (q_slen Tryz.underlying9 rfl) (by decide) ?_
   refine VL.q (q_gtr rfl rfl) (by decide) ?_
   refine Zm ?_
   refine VL.split_dec 20 rfl (fun h20 => ?_) (fun h20 => ?_)
   ·
    replace hS := it_t h20 hS
    refine Zn ?_
    refine Zn ?_
    refine Zn ?_
    refine Zn ?_
    refine Zn ?_
    refine Zn ?_
    refine Zn ?_
    refine Zt ?_
    refine VL.mt true [0, 3, 28] (fun _ _ h => h) hS rfl
   replace hS := it_f h20 hS
   refine Zg ?_
   refine Zg ?_
   obtain ⟨z23_5, nz23_5, hz23_5, hS⟩ := at_s hS
   refine VL.gy rfl rfl (q_ixm (s := r_0) Tryz.underlying23 gsz50 rfl rfl nz23_5 (lt_of_get nz23_5 hz23_5)) (by decide) ?_
   refine VL.gy rfl rfl (q_field gfa50_2 rfl) (by decide) ?_
   refine VL.gy rfl rfl (q_elf (s := r_0) gone9 rfl hz23_5 rfl) (by decide) ?_
   refine VL.gy rfl rfl (q_slen Tryz.underlying9 rfl) (by decide) ?_
   refine VL.gy rfl rfl (q_gtr rfl rfl) (by decide) ?_
   refine Zf ?_
   refine VL.mt (decide (5000 < (z23_5.data.length : Int))) [0, 3, 28] (fun _ _ h => h) hS rfl
  clear hS
  rintro x28_2 hS
  show VC _ _ _ _ _ [(0, r_0.val), (3, i64 i3_1), (28, .bool x28_2)] (Mo.and Mo.tt _) (Ow.emp)
  refine VC.cond rfl (fun h28 => ?_) (fun h28 => ?_)
  ·
   replace hS := it_t h28 hS
   refine Zq (Zr ?_)
   refine Za ?_
   refine Zl ?_
   replace hS := up2 hS hK1
   cases hS
   exact Ze
  replace hS := it_b h28 hS
  refine Zk ?_
  refine Zr ?_
  refine Zm ?_
  obtain ⟨b12, hS⟩ := gd_s hS
  refine VL.q (q_add rfl rfl b12) (by decide) ?_
  refine Za ?_
  refine VL.rnd (i3_1 + 1) [0, 3] (fun _ _ h => h) (go2 hS hK1) rfl
 replace hS := it_f h10 hS
 replace hS := up2 hS hK1
 refine Zx ?_
 refine Zq (Zr ?_)
 refine Za ?_
 refine Zl ?_
 cases hS
 exact Ze
theorem slices_Equal_files_Row_files_File_ct (s1_0 : Sv FilesFile) (s2_1 : Sv FilesFile) {r : Bool} (hS : Sh.slices_Equal_files_Row_files_File s1_0.l s2_1.l = some r) :
 Ct Tryz.prog 65 [s1_0.val, s2_1.val] (s1_0.ok.and s2_1.ok) (Ow.emp) (X := Unit) (fun _ => .bool r) (fun _ => True) (fun _ => Mo.tt) (fun _ => Ow.emp) := by
 refine Ct.of Tryz.func65 rfl (by kernel_rfl) Tryz.ntmps65 (by simp) fun c => ?_
 unfold Sh.slices_Equal_files_Row_files_File at hS
 refine Zq (Zr ?_)
 refine Za ?_
 refine Zl ?_
 refine Zq (Zq (Zr ?_))
 refine Zm ?_
 refine VL.q (q_ln (s := s1_0) Tryz.underlying23 rfl) (by decide) ?_
 refine Zm ?_
 refine VL.q (q_ln (s := s2_1) Tryz.underlying23 rfl) (by decide) ?_
 refine VL.q (q_neq rfl rfl) (by decide) ?_
 refine Zl ?_
 refine VC.cond_ndec rfl (fun h10 => ?_) (fun h10 => ?_)
 ·
  replace hS := it_f h10 hS
  refine Zq (Zr ?_)
  refine Za ?_
  refine Zl ?_
  cases hS
  exact Ze
 replace hS := it_t h10 hS
 refine Zk ?_
 refine Zq (Zq (Zr ?_))
 refine Zm ?_
 refine VL.q (q_ln (s := s1_0) Tryz.underlying23 rfl) (by decide) ?_
 refine Zm ?_
 refine Zl ?_
 refine VC.keep [0, 1, 12, 13] rfl ?_
 refine Zb ?_
 refine VC.iter (S := Int) (fun (x13_1 : Int) => x13_1) (fun (x13_1 : Int) => [(0, s1_0.val), (1, s2_1.val), (12, i64 (s1_0.l.length : Int)), (13, i64 x13_1)]) (fun (x13_1 : Int) => Mo.tt) (fun (x13_1 : Int) => Ow.emp) 0 [0, 1, 12, 13] hS rfl ?_
 clear hS
 rintro x13_1 m1 y1 hS hK1
 show VC _ _ _ _ _ [(0, s1_0.val), (1, s2_1.val), (12, i64 (s1_0.l.length : Int)), (13, i64 x13_1)] (Mo.and Mo.tt _) (Ow.emp)
 refine Zq (Zr ?_)
 refine VL.q (q_lss rfl rfl) (by decide) ?_
 refine Zl ?_
 refine Zq ?_
 refine VC.cond_dec rfl (fun h14 => ?_) (fun h14 => ?_)
 ·
  replace hS := it_t h14 hS
  refine Zk ?_
  refine Zq (Zb (Zq (Zr ?_)))
  refine Zm ?_
  refine Za ?_
  refine Zl ?_
  refine Zq ?_
  refine VC.draw ((List.range 9).map fun k => (k, true)) mixed (by kernel_rfl) (by kernel_rfl) (by kernel_rfl) ?_
  refine VD.q rfl (q_move rfl) (by decide) ?_
  refine VD.q rfl (q_move rfl) (by decide) ?_
  obtain ⟨z18_2, nz18_2, hz18_2, hS⟩ := at_s hS
  refine VD.q rfl (q_ixm (s := s1_0) Tryz.underlying23 gsz50 rfl rfl nz18_2 (lt_of_get nz18_2 hz18_2)) (by decide) ?_
  refine VD.q rfl (q_els (s := s1_0) gagg50 rfl rfl hz18_2) (by decide) ?_
  refine VD.q rfl (q_move rfl) (by decide) ?_
  refine VD.q rfl (q_move rfl) (by decide) ?_
  obtain ⟨z22_3, nz22_3, hz22_3, hS⟩ := at_s hS
  refine VD.q rfl (q_ixm (s := s2_1) Tryz.underlying23 gsz50 rfl rfl nz22_3 (lt_of_get nz22_3 hz22_3)) (by decide) ?_
  refine VD.q rfl (q_els (s := s2_1) gagg50 rfl rfl hz22_3) (by decide) ?_
  refine VD.q rfl (q_stneq geqg50 (geqs50 z18_2.path z18_2.mode z18_2.data z22_3.path z22_3.mode z22_3.data) rfl rfl) (by decide) ?_
  refine VD.to (fun _ _ h => h) ?_
  refine VC.keep [0, 1, 12, 13, 24] rfl ?_
  refine VC.cond_ndec rfl (fun h24 => ?_) (fun h24 => ?_)
  ·
   replace hS := it_f h24 hS
   refine Zq (Zr ?_)
   refine Za ?_
   refine Zl ?_
   replace hS := up2 hS hK1
   cases hS
   exact Ze
  replace hS := it_t h24 hS
  refine Zk ?_
  refine Zr ?_
  obtain ⟨b25, hS⟩ := gd_s hS
  refine VL.q (q_add rfl rfl b25) (by decide) ?_
  refine Zm ?_
  refine VL.rnd (x13_1 + 1) [0, 1, 12, 13] (fun _ _ h => h) (go2 hS hK1) rfl
 replace hS := it_f h14 hS
 replace hS := up2 hS hK1
 refine Zx ?_
 refine Zq (Zr ?_)
 refine Za ?_
 refine Zl ?_
 cases hS
 exact Ze
theorem files_Row_Same_ct (r_0 : Sv FilesFile) (q_1 : Sv FilesFile) {r : Bool} (hS : Sh.files_Row_Same r_0.l q_1.l = some r) :
 Ct Tryz.prog 17 [r_0.val, q_1.val] (r_0.ok.and q_1.ok) (Ow.emp) (X := Unit) (fun _ => .bool r) (fun _ => True) (fun _ => Mo.tt) (fun _ => Ow.emp) := by
 refine Ct.of Tryz.func17 rfl (by kernel_rfl) Tryz.ntmps17 (by simp) fun c => ?_
 unfold Sh.files_Row_Same at hS
 refine Zq (Zr ?_)
 refine Za ?_
 refine Zl ?_
 refine Zq (Zr ?_)
 refine Zm ?_
 refine Zm ?_
 obtain ⟨y7_1, ey7_1, hS⟩ := bd_s hS
 refine VL.q (q_call (slices_Equal_files_Row_files_File_ct r_0 q_1 ey7_1) rfl (fun _ _ => rfl)) (by decide) ?_
 refine Za ?_
 refine Zl ?_
 cases hS
 exact Ze
theorem rectolaw16_TreesSides_ct (b_0 : Sv FilesFile) (o_1 : Sv FilesFile) {r : Bool} (hS : Sh.rectolaw16_TreesSides b_0.l o_1.l = some r) :
 Ct Tryz.prog 9 [b_0.val, o_1.val] (b_0.ok.and o_1.ok) (Ow.emp) (X := Unit) (fun _ => .bool r) (fun _ => True) (fun _ => Mo.tt) (fun _ => Ow.emp) := by
 refine Ct.of Tryz.func9 rfl (by kernel_rfl) Tryz.ntmps9 (by simp) fun c => ?_
 unfold Sh.rectolaw16_TreesSides at hS
 refine Zq (Zr ?_)
 refine Za ?_
 refine Zl ?_
 refine Zq (Zq (Zr ?_))
 obtain ⟨y11_1, ey11_1, hS⟩ := bd_s hS
 refine VL.q (q_call (rectolaw16_known_ct ey11_1) rfl (fun _ _ => rfl)) (by decide) ?_
 refine VL.q (q_not rfl) (by decide) ?_
 refine Zl ?_
 refine VC.cond rfl (fun h12 => ?_) (fun h12 => ?_)
 ·
  replace hS := it_t h12 hS
  refine Zq (Zr ?_)
  refine Za ?_
  refine Zl ?_
  cases hS
  exact Ze
 replace hS := it_b h12 hS
 refine Zk ?_
 refine Zq ?_
 refine VC.cutJ (S := Bool) (fun (x30_2 : Bool) => x30_2) (fun (x30_2 : Bool) => [(0, b_0.val), (1, o_1.val), (30, .bool x30_2)]) (fun (x30_2 : Bool) => Mo.tt) (fun (x30_2 : Bool) => Ow.emp) hS ?_ ?_
 ·
  clear hS
  intro k3 hS
  refine Zr ?_
  refine Zm ?_
  obtain ⟨y14_4, ey14_4, hS⟩ := bd_s hS
  refine VL.q (q_call (rectolaw14_Few_ct b_0 ey14_4) rfl (fun _ _ => rfl)) (by decide) ?_
  refine VL.q (q_not rfl) (by decide) ?_
  refine Zm ?_
  refine VL.split 16 rfl (fun h16 => ?_) (fun h16 => ?_)
  ·
   replace hS := it_t h16 hS
   refine Zn ?_
   refine Zn ?_
   refine Zn ?_
   refine Zt ?_
   refine Zm ?_
   refine Zn ?_
   refine Zn ?_
   refine Zn ?_
   refine Zt ?_
   refine Zm ?_
   refine Zn ?_
   refine Zn ?_
   refine Zn ?_
   refine Zt ?_
   refine VL.mt true [0, 1, 30] (fun _ _ h => h) hS rfl
  replace hS := it_b h16 hS
  refine Zg ?_
  obtain ⟨y18_5, ey18_5, hS⟩ := bd_s hS
  refine VL.gy rfl rfl (q_call (rectolaw14_Few_ct o_1 ey18_5) rfl (fun _ _ => rfl)) (by decide) ?_
  refine VL.gy rfl rfl (q_not rfl) (by decide) ?_
  refine Zf ?_
  refine Zm ?_
  refine VL.split 21 rfl (fun h21 => ?_) (fun h21 => ?_)
  ·
   replace hS := it_t h21 hS
   refine Zn ?_
   refine Zn ?_
   refine Zn ?_
   refine Zt ?_
   refine Zm ?_
   refine Zn ?_
   refine Zn ?_
   refine Zn ?_
   refine Zt ?_
   refine VL.mt true [0, 1, 30] (fun _ _ h => h) hS rfl
  replace hS := it_b h21 hS
  refine Zg ?_
  refine VL.guard rfl rfl ?_
  obtain ⟨y23_6, ey23_6, hS⟩ := bd_s hS
  refine VL.callF (files_Row_Check_ct b_0 ey23_6) rfl (by decide) ?_
  rintro q23_6_0 rfl
  try dsimp only
  refine VL.gy rfl rfl (q_erne Tryz.underlying27 rfl) (by decide) ?_
  refine Zf ?_
  refine Zm ?_
  refine VL.split_ndec 26 rfl (fun h26 => ?_) (fun h26 => ?_)
  ·
   replace hS := it_f h26 hS
   refine Zn ?_
   refine Zn ?_
   refine Zn ?_
   refine Zt ?_
   refine VL.mt true [0, 1, 30] (fun _ _ h => h) hS rfl
  replace hS := it_t h26 hS
  refine Zg ?_
  refine VL.guard rfl rfl ?_
  obtain ⟨y28_7, ey28_7, hS⟩ := bd_s hS
  refine VL.callF (files_Row_Check_ct o_1 ey28_7) rfl (by decide) ?_
  rintro q28_7_0 rfl
  try dsimp only
  refine VL.gy rfl rfl (q_erne Tryz.underlying27 rfl) (by decide) ?_
  refine Zf ?_
  refine VL.mt (!decide (q28_7_0.pl.isNil = true)) [0, 1, 30] (fun _ _ h => h) hS rfl
 clear hS
 rintro x30_2 hS
 show VC _ _ _ _ _ [(0, b_0.val), (1, o_1.val), (30, .bool x30_2)] (Mo.and Mo.tt _) (Ow.emp)
 refine VC.cond rfl (fun h30 => ?_) (fun h30 => ?_)
 ·
  replace hS := it_t h30 hS
  refine Zq (Zr ?_)
  refine Za ?_
  refine Zl ?_
  cases hS
  exact Ze
 replace hS := it_b h30 hS
 refine Zk ?_
 refine Zq (Zr ?_)
 refine Zm ?_
 refine Zm ?_
 refine Zm ?_
 obtain ⟨y35_8, ey35_8, hS⟩ := bd_s hS
 refine VL.callF (tmerge_Merge_ct b_0 o_1 b_0 [120] [121] ey35_8) rfl (by decide) ?_
 rintro ⟨q35_8_0, q35_8_1⟩ rfl
 try dsimp only
 refine Zm ?_
 refine VL.q (q_extract rfl rfl) (by decide) ?_
 refine VL.q (q_extract rfl rfl) (by decide) ?_
 refine VL.alloc (cs := [.slice none 0 0, .slice none 0 0, .slice none 0 0]) (by kernel_rfl) (by decide) fun b5_9 => ?_
 refine VL.store (vc := [q35_8_0.files.val, q35_8_0.entries.val, q35_8_0.conflicts.val]) (cs' := [q35_8_0.files.val, q35_8_0.entries.val, q35_8_0.conflicts.val]) rfl rfl rfl gsz34 rfl rfl (Nat.le_of_ble_eq_true rfl) rfl ?_
 refine Za ?_
 refine Zl ?_
 refine VC.keep [0, 1, 5, 6] rfl ?_
 refine Zq (Zr ?_)
 refine Zm ?_
 refine Zm ?_
 refine Zm ?_
 obtain ⟨y42_10, ey42_10, hS⟩ := bd_s hS
 refine VL.callF (tmerge_Merge_ct b_0 b_0 o_1 [120] [121] ey42_10) rfl (by decide) ?_
 rintro ⟨q42_10_0, q42_10_1⟩ rfl
 try dsimp only
 refine Zm ?_
 refine VL.q (q_extract rfl rfl) (by decide) ?_
 refine VL.q (q_extract rfl rfl) (by decide) ?_
 refine VL.alloc (cs := [.slice none 0 0, .slice none 0 0, .slice none 0 0]) (by kernel_rfl) (by decide) fun b7_11 => ?_
 refine VL.store (vc := [q42_10_0.files.val, q42_10_0.entries.val, q42_10_0.conflicts.val]) (cs' := [q42_10_0.files.val, q42_10_0.entries.val, q42_10_0.conflicts.val]) rfl rfl rfl gsz34 rfl rfl (Nat.le_of_ble_eq_true rfl) rfl ?_
 refine Za ?_
 refine Zl ?_
 refine VC.keep [0, 1, 5, 6, 7, 8] rfl ?_
 refine Zq (Zr ?_)
 refine Zm ?_
 refine Zm ?_
 refine Zm ?_
 obtain ⟨y49_12, ey49_12, hS⟩ := bd_s hS
 refine VL.callF (tmerge_Merge_ct b_0 o_1 o_1 [120] [121] ey49_12) rfl (by decide) ?_
 rintro ⟨q49_12_0, q49_12_1⟩ rfl
 try dsimp only
 refine Zm ?_
 refine VL.q (q_extract rfl rfl) (by decide) ?_
 refine VL.q (q_extract rfl rfl) (by decide) ?_
 refine VL.alloc (cs := [.slice none 0 0, .slice none 0 0, .slice none 0 0]) (by kernel_rfl) (by decide) fun b9_13 => ?_
 refine VL.store (vc := [q49_12_0.files.val, q49_12_0.entries.val, q49_12_0.conflicts.val]) (cs' := [q49_12_0.files.val, q49_12_0.entries.val, q49_12_0.conflicts.val]) rfl rfl rfl gsz34 rfl rfl (Nat.le_of_ble_eq_true rfl) rfl ?_
 refine Za ?_
 refine Zl ?_
 refine VC.keep [1, 5, 6, 7, 8, 9, 10] rfl ?_
 refine Zq (Zr ?_)
 refine Zm ?_
 refine VL.q (q_ereq Tryz.underlying27 rfl) (by decide) ?_
 refine Zm ?_
 refine VL.split_dec 54 rfl (fun h54 => ?_) (fun h54 => ?_)
 ·
  replace hS := it_t h54 hS
  refine Zg ?_
  refine VL.gy rfl rfl (q_ereq Tryz.underlying27 rfl) (by decide) ?_
  refine Zt ?_
  refine Zm ?_
  refine VL.split_dec 58 rfl (fun h58 => ?_) (fun h58 => ?_)
  ·
   replace hS := it_t h58 hS
   refine Zg ?_
   refine VL.gy rfl rfl (q_ereq Tryz.underlying27 rfl) (by decide) ?_
   refine Zt ?_
   refine Zm ?_
   refine VL.split_dec 62 rfl (fun h62 => ?_) (fun h62 => ?_)
   ·
    replace hS := it_t h62 hS
    refine VL.gy rfl rfl (q_field gfa34_0 rfl) (by decide) ?_
    refine VL.gy rfl rfl (q_fe gone23 rfl rfl) (by decide) ?_
    refine Zg ?_
    obtain ⟨y66_14, ey66_14, hS⟩ := bd_s hS
    refine VL.gy rfl rfl (q_call (files_Row_Same_ct q35_8_0.files o_1 ey66_14) rfl (fun _ _ => rfl)) (by decide) ?_
    refine Zt ?_
    refine Zm ?_
    refine VL.split 68 rfl (fun h68 => ?_) (fun h68 => ?_)
    ·
     replace hS := it_t h68 hS
     refine VL.gy rfl rfl (q_field gfa34_0 rfl) (by decide) ?_
     refine VL.gy rfl rfl (q_fe gone23 rfl rfl) (by decide) ?_
     refine Zg ?_
     obtain ⟨y72_15, ey72_15, hS⟩ := bd_s hS
     refine VL.gy rfl rfl (q_call (files_Row_Same_ct q42_10_0.files o_1 ey72_15) rfl (fun _ _ => rfl)) (by decide) ?_
     refine Zt ?_
     refine Zm ?_
     refine VL.split 74 rfl (fun h74 => ?_) (fun h74 => ?_)
     ·
      replace hS := it_t h74 hS
      refine VL.gy rfl rfl (q_field gfa34_0 rfl) (by decide) ?_
      refine VL.gy rfl rfl (q_fe gone23 rfl rfl) (by decide) ?_
      refine Zg ?_
      obtain ⟨y78_16, ey78_16, hS⟩ := bd_s hS
      refine VL.gy rfl rfl (q_call (files_Row_Same_ct q49_12_0.files o_1 ey78_16) rfl (fun _ _ => rfl)) (by decide) ?_
      refine Zt ?_
      refine Zm ?_
      refine VL.split 80 rfl (fun h80 => ?_) (fun h80 => ?_)
      ·
       replace hS := it_t h80 hS
       refine VL.gy rfl rfl (q_field gfa34_2 rfl) (by decide) ?_
       refine VL.gy rfl rfl (q_fe gone32 rfl rfl) (by decide) ?_
       refine VL.gy rfl rfl (q_ln (s := q35_8_0.conflicts) Tryz.underlying32 rfl) (by decide) ?_
       refine VL.gy rfl rfl (q_field gfa34_2 rfl) (by decide) ?_
       refine VL.gy rfl rfl (q_fe gone32 rfl rfl) (by decide) ?_
       refine VL.gy rfl rfl (q_ln (s := q42_10_0.conflicts) Tryz.underlying32 rfl) (by decide) ?_
       obtain ⟨b87, hS⟩ := gd_s hS
       refine VL.gy rfl rfl (q_add rfl rfl b87) (by decide) ?_
       refine VL.gy rfl rfl (q_field gfa34_2 rfl) (by decide) ?_
       refine VL.gy rfl rfl (q_fe gone32 rfl rfl) (by decide) ?_
       refine VL.gy rfl rfl (q_ln (s := q49_12_0.conflicts) Tryz.underlying32 rfl) (by decide) ?_
       obtain ⟨b91, hS⟩ := gd_s hS
       refine VL.gy rfl rfl (q_add rfl rfl b91) (by decide) ?_
       refine VL.gy rfl rfl (q_field gfa34_1 rfl) (by decide) ?_
       refine VL.gy rfl rfl (q_fe gone29 rfl rfl) (by decide) ?_
       refine VL.gy rfl rfl (q_ln (s := q35_8_0.entries) Tryz.underlying29 rfl) (by decide) ?_
       obtain ⟨b95, hS⟩ := gd_s hS
       refine VL.gy rfl rfl (q_add rfl rfl b95) (by decide) ?_
       refine VL.gy rfl rfl (q_field gfa34_1 rfl) (by decide) ?_
       refine VL.gy rfl rfl (q_fe gone29 rfl rfl) (by decide) ?_
       refine VL.gy rfl rfl (q_ln (s := q42_10_0.entries) Tryz.underlying29 rfl) (by decide) ?_
       obtain ⟨b99, hS⟩ := gd_s hS
       refine VL.gy rfl rfl (q_add rfl rfl b99) (by decide) ?_
       refine VL.gy rfl rfl (q_field gfa34_1 rfl) (by decide) ?_
       refine VL.gy rfl rfl (q_fe gone29 rfl rfl) (by decide) ?_
       refine VL.gy rfl rfl (q_ln (s := q49_12_0.entries) Tryz.underlying29 rfl) (by decide) ?_
       obtain ⟨b103, hS⟩ := gd_s hS
       refine VL.gy rfl rfl (q_add rfl rfl b103) (by decide) ?_
       refine VL.gy rfl rfl (q_eql rfl rfl) (by decide) ?_
       refine Zt ?_
       refine Za ?_
       refine Zl ?_
       refine VC.keep [4] rfl ?_
       cases hS
       exact Ze
      replace hS := it_b h80 hS
      refine Zn ?_
      refine Zn ?_
      refine Zn ?_
      refine Zn ?_
      refine Zn ?_
      refine Zn ?_
      refine Zn ?_
      refine Zn ?_
      refine Zn ?_
      refine Zn ?_
      refine Zn ?_
      refine Zn ?_
      refine Zn ?_
      refine Zn ?_
      refine Zn ?_
      refine Zn ?_
      refine Zn ?_
      refine Zn ?_
      refine Zn ?_
      refine Zn ?_
      refine Zn ?_
      refine Zn ?_
      refine Zn ?_
      refine Zn ?_
      refine Zf ?_
      refine Za ?_
      refine Zl ?_
      refine VC.keep [4] rfl ?_
      cases hS
      exact Ze
     replace hS := it_b h74 hS
     refine Zn ?_
     refine Zn ?_
     refine Zn ?_
     refine Zn ?_
     refine Zf ?_
     refine Zm ?_
     refine Zn ?_
     refine Zn ?_
     refine Zn ?_
     refine Zn ?_
     refine Zn ?_
     refine Zn ?_
     refine Zn ?_
     refine Zn ?_
     refine Zn ?_
     refine Zn ?_
     refine Zn ?_
     refine Zn ?_
     refine Zn ?_
     refine Zn ?_
     refine Zn ?_
     refine Zn ?_
     refine Zn ?_
     refine Zn ?_
     refine Zn ?_
     refine Zn ?_
     refine Zn ?_
     refine Zn ?_
     refine Zn ?_
     refine Zn ?_
     refine Zf ?_
     refine Za ?_
     refine Zl ?_
     refine VC.keep [4] rfl ?_
     cases hS
     exact Ze
    replace hS := it_b h68 hS
    refine Zn ?_
    refine Zn ?_
    refine Zn ?_
    refine Zn ?_
    refine Zf ?_
    refine Zm ?_
    refine Zn ?_
    refine Zn ?_
    refine Zn ?_
    refine Zn ?_
    refine Zf ?_
    refine Zm ?_
    refine Zn ?_
    refine Zn ?_
    refine Zn ?_
    refine Zn ?_
    refine Zn ?_
    refine Zn ?_
    refine Zn ?_
    refine Zn ?_
    refine Zn ?_
    refine Zn ?_
    refine Zn ?_
    refine Zn ?_
    refine Zn ?_
    refine Zn ?_
    refine Zn ?_
    refine Zn ?_
    refine Zn ?_
    refine Zn ?_
    refine Zn ?_
    refine Zn ?_
    refine Zn ?_
    refine Zn ?_
    refine Zn ?_
    refine Zn ?_
    refine Zf ?_
    refine Za ?_
    refine Zl ?_
    refine VC.keep [4] rfl ?_
    cases hS
    exact Ze
   replace hS := it_f h62 hS
   refine Zn ?_
   refine Zn ?_
   refine Zn ?_
   refine Zn ?_
   refine Zf ?_
   refine Zm ?_
   refine Zn ?_
   refine Zn ?_
   refine Zn ?_
   refine Zn ?_
   refine Zf ?_
   refine Zm ?_
   refine Zn ?_
   refine Zn ?_
   refine Zn ?_
   refine Zn ?_
   refine Zf ?_
   refine Zm ?_
   refine Zn ?_
   refine Zn ?_
   refine Zn ?_
   refine Zn ?_
   refine Zn ?_
   refine Zn ?_
   refine Zn ?_
   refine Zn ?_
   refine Zn ?_
   refine Zn ?_
   refine Zn ?_
   refine Zn ?_
   refine Zn ?_
   refine Zn ?_
   refine Zn ?_
   refine Zn ?_
   refine Zn ?_
   refine Zn ?_
   refine Zn ?_
   refine Zn ?_
   refine Zn ?_
   refine Zn ?_
   refine Zn ?_
   refine Zn ?_
   refine Zf ?_
   refine Za ?_
   refine Zl ?_
   refine VC.keep [4] rfl ?_
   cases hS
   exact Ze
  replace hS := it_f h58 hS
  refine Zn ?_
  refine Zn ?_
  refine Zf ?_
  refine Zm ?_
  refine Zn ?_
  refine Zn ?_
  refine Zn ?_
  refine Zn ?_
  refine Zf ?_
  refine Zm ?_
  refine Zn ?_
  refine Zn ?_
  refine Zn ?_
  refine Zn ?_
  refine Zf ?_
  refine Zm ?_
  refine Zn ?_
  refine Zn ?_
  refine Zn ?_
  refine Zn ?_
  refine Zf ?_
  refine Zm ?_
  refine Zn ?_
  refine Zn ?_
  refine Zn ?_
  refine Zn ?_
  refine Zn ?_
  refine Zn ?_
  refine Zn ?_
  refine Zn ?_
  refine Zn ?_
  refine Zn ?_
  refine Zn ?_
  refine Zn ?_
  refine Zn ?_
  refine Zn ?_
  refine Zn ?_
  refine Zn ?_
  refine Zn ?_
  refine Zn ?_
  refine Zn ?_
  refine Zn ?_
  refine Zn ?_
  refine Zn ?_
  refine Zn ?_
  refine Zn ?_
  refine Zf ?_
  refine Za ?_
  refine Zl ?_
  refine VC.keep [4] rfl ?_
  cases hS
  exact Ze
 replace hS := it_f h54 hS
 refine Zn ?_
 refine Zn ?_
 refine Zf ?_
 refine Zm ?_
 refine Zn ?_
 refine Zn ?_
 refine Zf ?_
 refine Zm ?_
 refine Zn ?_
 refine Zn ?_
 refine Zn ?_
 refine Zn ?_
 refine Zf ?_
 refine Zm ?_
 refine Zn ?_
 refine Zn ?_
 refine Zn ?_
 refine Zn ?_
 refine Zf ?_
 refine Zm ?_
 refine Zn ?_
 refine Zn ?_
 refine Zn ?_
 refine Zn ?_
 refine Zf ?_
 refine Zm ?_
 refine Zn ?_
 refine Zn ?_
 refine Zn ?_
 refine Zn ?_
 refine Zn ?_
 refine Zn ?_
 refine Zn ?_
 refine Zn ?_
 refine Zn ?_
 refine Zn ?_
 refine Zn ?_
 refine Zn ?_
 refine Zn ?_
 refine Zn ?_
 refine Zn ?_
 refine Zn ?_
 refine Zn ?_
 refine Zn ?_
 refine Zn ?_
 refine Zn ?_
 refine Zn ?_
 refine Zn ?_
 refine Zn ?_
 refine Zn ?_
 refine Zf ?_
 refine Za ?_
 refine Zl ?_
 refine VC.keep [4] rfl ?_
 cases hS
 exact Ze
theorem rectolaw14_Of_ct (r_0 : Sv FilesFile) {r : List Rectoref14File} (hS : Sh.rectolaw14_Of r_0.l = some r) :
 Ct Tryz.prog 25 [r_0.val] r_0.ok (Ow.emp) (X := Sv Rectoref14File) (fun x => x.val) (fun x => r = x.l) (fun x => Mo.tt) (fun x => Sv.own x 133) := by
 refine Ct.of Tryz.func25 rfl (by kernel_rfl) Tryz.ntmps25 (by simp) fun c => ?_
 unfold Sh.rectolaw14_Of at hS
 refine Zq (Zr ?_)
 refine Za ?_
 refine Zl ?_
 refine Zq (Zr ?_)
 refine Za ?_
 refine Zl ?_
 refine Zq (Zq (Zr ?_))
 refine Za ?_
 refine Zl ?_
 refine Zb ?_
 refine VC.nilO (⟨none, 0, []⟩ : Sv Rectoref14File) 133 ⟨rfl, rfl⟩ ?_
 refine VC.iter (S := Sv Rectoref14File × Int) (fun sg => (sg.1.l, sg.2)) (fun sg => [(0, r_0.val), (3, sg.1.val), (4, i64 sg.2)]) (fun sg => Mo.tt) (fun sg => Ow.star (Sv.own sg.1 133) (Ow.emp)) (⟨none, 0, []⟩, 0) [0, 3, 4] hS rfl ?_
 clear hS
 rintro ⟨out3_1, i4_2⟩ m1 y1 hS hK1
 show VC _ _ _ _ _ [(0, r_0.val), (3, out3_1.val), (4, i64 i4_2)] (Mo.and Mo.tt _) (Ow.star (Sv.own out3_1 133) (Ow.emp))
 refine Zq (Zq (Zr ?_))
 refine Zm ?_
 refine Zm ?_
 refine VL.q (q_ln (s := r_0) Tryz.underlying23 rfl) (by decide) ?_
 refine VL.q (q_lss rfl rfl) (by decide) ?_
 refine Zl ?_
 refine VC.cond_dec rfl (fun h8 => ?_) (fun h8 => ?_)
 ·
  replace hS := it_t h8 hS
  refine Zk ?_
  refine Zq (Zb ?_)
  refine VC.draw [(0, true), (1, true), (2, true), (3, true), (4, true), (5, true), (6, true), (7, true), (8, true), (9, true), (10, true), (11, true), (12, true), (13, true), (14, true), (15, true), (16, true), (17, false), (18, false), (19, true)] mixed (by kernel_rfl) (by kernel_rfl) (by kernel_rfl) ?_
  refine VD.q rfl (q_move rfl) (by decide) ?_
  refine VD.q rfl (q_move rfl) (by decide) ?_
  refine VD.q rfl (q_move rfl) (by decide) ?_
  obtain ⟨z14_3, nz14_3, hz14_3, hS⟩ := at_s hS
  refine VD.q rfl (q_ixm (s := r_0) Tryz.underlying23 gsz50 rfl rfl nz14_3 (lt_of_get nz14_3 hz14_3)) (by decide) ?_
  refine VD.q rfl (q_field gfa50_0 rfl) (by decide) ?_
  refine VD.q rfl (q_elf (s := r_0) gone9 rfl hz14_3 rfl) (by decide) ?_
  refine VD.q rfl (q_move rfl) (by decide) ?_
  refine VD.q rfl (q_move rfl) (by decide) ?_
  obtain ⟨z19_4, nz19_4, hz19_4, hS⟩ := at_s hS
  refine VD.q rfl (q_ixm (s := r_0) Tryz.underlying23 gsz50 rfl rfl nz19_4 (lt_of_get nz19_4 hz19_4)) (by decide) ?_
  refine VD.q rfl (q_field gfa50_1 rfl) (by decide) ?_
  refine VD.q rfl (q_elf (s := r_0) gone3 rfl hz19_4 rfl) (by decide) ?_
  refine VD.q rfl (q_move rfl) (by decide) ?_
  refine VD.q rfl (q_move rfl) (by decide) ?_
  obtain ⟨z24_5, nz24_5, hz24_5, hS⟩ := at_s hS
  refine VD.q rfl (q_ixm (s := r_0) Tryz.underlying23 gsz50 rfl rfl nz24_5 (lt_of_get nz24_5 hz24_5)) (by decide) ?_
  refine VD.q rfl (q_field gfa50_2 rfl) (by decide) ?_
  refine VD.q rfl (q_elf (s := r_0) gone9 rfl hz24_5 rfl) (by decide) ?_
  refine VD.q rfl (q_build (vs := [(0, str z14_3.path), (1, i64 z19_4.mode), (2, str z24_5.data)]) (cs := #[str z14_3.path, i64 z19_4.mode, str z24_5.data]) rfl (by kernel_rfl)) (by decide) ?_
  refine VD.one rfl ?_
  refine VL.lit (α := Rectoref14File) (xs := [.tmp 27]) (vs := [.agg #[str z14_3.path, i64 z19_4.mode, str z24_5.data]]) [⟨z14_3.path, z19_4.mode, z24_5.data⟩] Tryz.underlying45 glit133 (by decide) rfl rfl rfl rfl (by decide) (fun _ _ _ _ => trivial) (by decide) (fun s28_6 hs28_6 => ?_) (by decide)
  replace hS := lt_to hs28_6 hS
  refine VL.back (D' := []) (by kernel_rfl) (Pend.nil) ?_
  refine VD.one rfl ?_
  obtain ⟨b29, hS⟩ := gd_s hS
  refine VL.app (s := out3_1) (r := s28_6) Tryz.underlying45 gapp133 (by decide) rfl Fo.out (ap1 b29) (ap2 b29 (by decide)) (by decide) (fun s29_8 hs29_8 => ?_)
  replace hS := lt_to hs29_8 hS
  refine VL.back (D' := []) (by kernel_rfl) (Pend.nil) ?_
  refine VD.q rfl (q_assign rfl) (by decide) ?_
  refine VD.to (fun _ _ h => h) ?_
  refine VC.keep [0, 3, 4] rfl ?_
  refine Zr ?_
  refine Zm ?_
  obtain ⟨b10, hS⟩ := gd_s hS
  refine VL.q (q_add rfl rfl b10) (by decide) ?_
  refine Za ?_
  refine VL.rnd (s29_8, (i4_2 + 1)) [0, 3, 4] (fun _ _ h => h) (go2 hS hK1) rfl
 replace hS := it_f h8 hS
 replace hS := up2 hS hK1
 refine Zx ?_
 refine Zq (Zr ?_)
 refine Zm ?_
 refine Za ?_
 refine Zl ?_
 cases hS
 exact VC.ret (fin1 (.inr rfl) rfl rfl out3_1 rfl rfl (by (try dsimp only); exact InM.out) (by (try dsimp only); exact EntO.out))
theorem rectoref14_Put_ct (r_0 : Sv Rectoref14File) (f_1 : Rectoref14File) {r : List Rectoref14File} (hS : Sh.rectoref14_Put r_0.l f_1 = some r) :
 Ct Tryz.prog 83 [r_0.val, .agg #[str f_1.path, i64 f_1.mode, str f_1.data]] r_0.ok (Ow.emp) (X := Sv Rectoref14File) (fun x => x.val) (fun x => r = x.l) (fun x => Mo.tt) (fun x => Sv.own x 133) := by
 refine Ct.of Tryz.func83 rfl (by kernel_rfl) Tryz.ntmps83 (by simp) fun c => ?_
 unfold Sh.rectoref14_Put at hS
 refine Zq (Zr ?_)
 refine VL.box (cs := [str f_1.path, i64 f_1.mode, str f_1.data]) rfl rfl (by decide) fun b3_1 => ?_
 refine Za ?_
 refine Zl ?_
 refine Zq (Zr ?_)
 refine Za ?_
 refine Zl ?_
 refine Zq (Zr ?_)
 refine Za ?_
 refine Zl ?_
 refine Zq (Zq (Zr ?_))
 refine Za ?_
 refine Zl ?_
 refine Zb ?_
 refine VC.nilO (⟨none, 0, []⟩ : Sv Rectoref14File) 133 ⟨rfl, rfl⟩ ?_
 refine VC.iter (S := Sv Rectoref14File × Bool × Int) (fun sg => (sg.1.l, sg.2.1, sg.2.2)) (fun sg => [(0, r_0.val), (3, ptr b3_1 0), (5, sg.1.val), (6, .bool sg.2.1), (7, i64 sg.2.2)]) (fun sg => Mo.tt) (fun sg => Ow.star (Blk b3_1 [str f_1.path, i64 f_1.mode, str f_1.data] 133) (Ow.star (Sv.own sg.1 133) (Ow.emp))) (⟨none, 0, []⟩, false, 0) [0, 3, 5, 6, 7] hS rfl ?_
 clear hS
 rintro ⟨out5_2, put6_3, i7_4⟩ m1 y1 hS hK1
 show VC _ _ _ _ _ [(0, r_0.val), (3, ptr b3_1 0), (5, out5_2.val), (6, .bool put6_3), (7, i64 i7_4)] (Mo.and Mo.tt _) (Ow.star (Blk b3_1 [str f_1.path, i64 f_1.mode, str f_1.data] 133) (Ow.star (Sv.own out5_2 133) (Ow.emp)))
 refine Zq (Zq (Zr ?_))
 refine Zm ?_
 refine Zm ?_
 refine VL.q (q_ln (s := r_0) Tryz.underlying45 rfl) (by decide) ?_
 refine VL.q (q_lss rfl rfl) (by decide) ?_
 refine Zl ?_
 refine VC.cond_dec rfl (fun h11 => ?_) (fun h11 => ?_)
 ·
  replace hS := it_t h11 hS
  refine Zk ?_
  refine VC.cutJ (S := Sv Rectoref14File × Bool) (fun sg => (sg.1.l, sg.2)) (fun sg => [(0, r_0.val), (3, ptr b3_1 0), (5, sg.1.val), (6, .bool sg.2), (7, i64 i7_4)]) (fun sg => Mo.tt) (fun sg => Ow.star (Blk b3_1 [str f_1.path, i64 f_1.mode, str f_1.data] 133) (Ow.star (Sv.own sg.1 133) (Ow.emp))) hS ?_ ?_
  ·
   clear hS
   intro k7 hS
   refine Zb ?_
   refine VC.cutJ (S := Sv Rectoref14File × Bool) (fun sg => (sg.1.l, sg.2)) (fun sg => [(0, r_0.val), (3, ptr b3_1 0), (5, sg.1.val), (6, .bool sg.2), (7, i64 i7_4)]) (fun sg => Mo.tt) (fun sg => Ow.star (Blk b3_1 [str f_1.path, i64 f_1.mode, str f_1.data] 133) (Ow.star (Sv.own sg.1 133) (Ow.emp))) hS ?_ ?_
   ·
    clear hS
    intro k10 hS
    refine VC.cutJ (S := Bool) (fun (x25_11 : Bool) => x25_11) (fun (x25_11 : Bool) => [(0, r_0.val), (3, ptr b3_1 0), (5, out5_2.val), (6, .bool put6_3), (7, i64 i7_4), (25, .bool x25_11)]) (fun (x25_11 : Bool) => Mo.tt) (fun (x25_11 : Bool) => Ow.star (Blk b3_1 [str f_1.path, i64 f_1.mode, str f_1.data] 133) (Ow.star (Sv.own out5_2 133) (Ow.emp))) hS ?_ ?_
    ·
     clear hS
     intro k12 hS
     refine VC.draw ((List.range 12).map fun k => (k, true)) mixed (by kernel_rfl) (by kernel_rfl) (by kernel_rfl) ?_
     refine VD.q rfl (q_move rfl) (by decide) ?_
     refine VD.q rfl (q_not rfl) (by decide) ?_
     refine VD.q rfl (q_move rfl) (by decide) ?_
     refine VD.split 16 rfl (fun h16 => ?_) (fun h16 => ?_)
     ·
      replace hS := it_t h16 hS
      refine VD.gy rfl rfl rfl (q_move rfl) (by decide) ?_
      refine VD.gy rfl rfl rfl (q_move rfl) (by decide) ?_
      obtain ⟨z19_13, nz19_13, hz19_13, hS⟩ := at_s hS
      refine VD.gy rfl rfl rfl (q_ixm (s := r_0) Tryz.underlying45 gsz133 rfl rfl nz19_13 (lt_of_get nz19_13 hz19_13)) (by decide) ?_
      refine VD.gy rfl rfl rfl (q_field gfa133_0 rfl) (by decide) ?_
      refine VD.gy rfl rfl rfl (q_elf (s := r_0) gone9 rfl hz19_13 rfl) (by decide) ?_
      refine VD.gy rfl rfl rfl (q_field gfa133_0 rfl) (by decide) ?_
      refine VD.gy rfl rfl rfl (q_fe gone9 rfl rfl) (by decide) ?_
      refine VD.gy rfl rfl rfl (q_sgeq rfl rfl) (by decide) ?_
      refine VD.q rfl (q_pick_t rfl rfl) (by decide) ?_
      refine VD.mt (!Op.bytesLess z19_13.path f_1.path) [0, 3, 5, 6, 7, 25] (fun _ _ h => h) hS rfl
     replace hS := it_b h16 hS
     refine Zd ?_
     refine Zd ?_
     refine Zd ?_
     refine Zd ?_
     refine Zd ?_
     refine Zd ?_
     refine Zd ?_
     refine Zd ?_
     refine VD.q rfl (q_pick_f rfl rfl) (by decide) ?_
     refine VD.mt false [0, 3, 5, 6, 7, 25] (fun _ _ h => h) hS rfl
    clear hS
    rintro x25_11 hS
    show VC _ _ _ _ _ [(0, r_0.val), (3, ptr b3_1 0), (5, out5_2.val), (6, .bool put6_3), (7, i64 i7_4), (25, .bool x25_11)] (Mo.and Mo.tt _) (Ow.star (Blk b3_1 [str f_1.path, i64 f_1.mode, str f_1.data] 133) (Ow.star (Sv.own out5_2 133) (Ow.emp)))
    refine VC.cond rfl (fun h25 => ?_) (fun h25 => ?_)
    ·
     replace hS := it_t h25 hS
     refine Zq (Zr ?_)
     refine Zm ?_
     refine VL.q (q_fes gagg133 rfl rfl) (by decide) ?_
     refine VL.lit (α := Rectoref14File) (xs := [.tmp 27]) (vs := [.agg #[str f_1.path, i64 f_1.mode, str f_1.data]]) [⟨f_1.path, f_1.mode, f_1.data⟩] Tryz.underlying45 glit133 (by decide) rfl rfl rfl rfl (by decide) (fun _ _ _ _ => trivial) (by decide) (fun s28_14 hs28_14 => ?_) (by decide)
     replace hS := lt_to hs28_14 hS
     obtain ⟨b29, hS⟩ := gd_s hS
     refine VL.app (s := out5_2) (r := s28_14) Tryz.underlying45 gapp133 (by decide) rfl Fo.out (ap1 b29) (ap2 b29 (by decide)) (by decide) (fun s29_16 hs29_16 => ?_)
     replace hS := lt_to hs29_16 hS
     refine Za ?_
     refine Zl ?_
     refine Zr ?_
     refine Za ?_
     refine VL.mt (s29_16, true) [0, 3, 5, 6, 7] (fun _ _ h => h) hS rfl
    replace hS := it_b h25 hS
    refine VC.skip_mt (out5_2, put6_3) [0, 3, 5, 6, 7] (fun _ _ h => h) hS rfl
   clear hS
   rintro ⟨out5_8, put6_9⟩ hS
   show VC _ _ _ _ _ [(0, r_0.val), (3, ptr b3_1 0), (5, out5_8.val), (6, .bool put6_9), (7, i64 i7_4)] (Mo.and Mo.tt _) (Ow.star (Blk b3_1 [str f_1.path, i64 f_1.mode, str f_1.data] 133) (Ow.star (Sv.own out5_8 133) (Ow.emp)))
   refine Zq ?_
   refine VC.draw ((List.range 8).map fun k => (k, true)) mixed (by kernel_rfl) (by kernel_rfl) (by kernel_rfl) ?_
   refine VD.q rfl (q_move rfl) (by decide) ?_
   refine VD.q rfl (q_move rfl) (by decide) ?_
   obtain ⟨z32_18, nz32_18, hz32_18, hS⟩ := at_s hS
   refine VD.q rfl (q_ixm (s := r_0) Tryz.underlying45 gsz133 rfl rfl nz32_18 (lt_of_get nz32_18 hz32_18)) (by decide) ?_
   refine VD.q rfl (q_field gfa133_0 rfl) (by decide) ?_
   refine VD.q rfl (q_elf (s := r_0) gone9 rfl hz32_18 rfl) (by decide) ?_
   refine VD.q rfl (q_field gfa133_0 rfl) (by decide) ?_
   refine VD.q rfl (q_fe gone9 rfl rfl) (by decide) ?_
   refine VD.q rfl (q_sne rfl rfl) (by decide) ?_
   refine VD.to (fun _ _ h => h) ?_
   refine VC.keep [0, 3, 5, 6, 7, 37] rfl ?_
   refine VC.cond_ndec rfl (fun h37 => ?_) (fun h37 => ?_)
   ·
    replace hS := it_f h37 hS
    refine Zr ?_
    refine Zm ?_
    refine Zm ?_
    refine Zm ?_
    obtain ⟨z41_19, nz41_19, hz41_19, hS⟩ := at_s hS
    refine VL.q (q_ixm (s := r_0) Tryz.underlying45 gsz133 rfl rfl nz41_19 (lt_of_get nz41_19 hz41_19)) (by decide) ?_
    refine VL.q (q_els (s := r_0) gagg133 rfl rfl hz41_19) (by decide) ?_
    refine VL.lit (α := Rectoref14File) (xs := [.tmp 42]) (vs := [.agg #[str z41_19.path, i64 z41_19.mode, str z41_19.data]]) [⟨z41_19.path, z41_19.mode, z41_19.data⟩] Tryz.underlying45 glit133 (by decide) rfl rfl rfl rfl (by decide) (fun _ _ _ _ => trivial) (by decide) (fun s43_20 hs43_20 => ?_) (by decide)
    replace hS := lt_to hs43_20 hS
    obtain ⟨b44, hS⟩ := gd_s hS
    refine VL.app (s := out5_8) (r := s43_20) Tryz.underlying45 gapp133 (by decide) rfl Fo.out (ap1 b44) (ap2 b44 (by decide)) (by decide) (fun s44_22 hs44_22 => ?_)
    replace hS := lt_to hs44_22 hS
    refine Za ?_
    refine VL.mt (s44_22, put6_9) [0, 3, 5, 6, 7] (fun _ _ h => h) hS rfl
   replace hS := it_t h37 hS
   refine VC.skip_mt (out5_8, put6_9) [0, 3, 5, 6, 7] (fun _ _ h => h) hS rfl
  clear hS
  rintro ⟨out5_5, put6_6⟩ hS
  show VC _ _ _ _ _ [(0, r_0.val), (3, ptr b3_1 0), (5, out5_5.val), (6, .bool put6_6), (7, i64 i7_4)] (Mo.and Mo.tt _) (Ow.star (Blk b3_1 [str f_1.path, i64 f_1.mode, str f_1.data] 133) (Ow.star (Sv.own out5_5 133) (Ow.emp)))
  refine Zr ?_
  refine Zm ?_
  obtain ⟨b13, hS⟩ := gd_s hS
  refine VL.q (q_add rfl rfl b13) (by decide) ?_
  refine Za ?_
  refine VL.rnd (out5_5, put6_6, (i7_4 + 1)) [0, 3, 5, 6, 7] (fun _ _ h => h) (go2 hS hK1) rfl
 replace hS := it_f h11 hS
 replace hS := up2 hS hK1
 refine Zx ?_
 refine Zq (Zq (Zr ?_))
 refine Zm ?_
 refine VL.q (q_not rfl) (by decide) ?_
 refine Zl ?_
 refine VC.keep [3, 5, 46] rfl ?_
 refine VC.cond rfl (fun h46 => ?_) (fun h46 => ?_)
 ·
  replace hS := it_t h46 hS
  refine Zr ?_
  refine Zm ?_
  refine VL.q (q_fes gagg133 rfl rfl) (by decide) ?_
  refine VL.lit (α := Rectoref14File) (xs := [.tmp 48]) (vs := [.agg #[str f_1.path, i64 f_1.mode, str f_1.data]]) [⟨f_1.path, f_1.mode, f_1.data⟩] Tryz.underlying45 glit133 (by decide) rfl rfl rfl rfl (by decide) (fun _ _ _ _ => trivial) (by decide) (fun s49_24 hs49_24 => ?_) (by decide)
  replace hS := lt_to hs49_24 hS
  obtain ⟨b50, hS⟩ := gd_s hS
  refine VL.app (s := out5_2) (r := s49_24) Tryz.underlying45 gapp133 (by decide) rfl Fo.out (ap1 b50) (ap2 b50 (by decide)) (by decide) (fun s50_26 hs50_26 => ?_)
  replace hS := lt_to hs50_26 hS
  refine Za ?_
  refine Zl ?_
  refine Zq (Zr ?_)
  refine Zm ?_
  refine Za ?_
  refine Zl ?_
  cases hS
  exact VC.ret (fin1 (.inr rfl) rfl rfl s50_26 rfl rfl (by (try dsimp only); exact InM.out) (by (try dsimp only); exact EntO.out))
 replace hS := it_b h46 hS
 refine Zk ?_
 refine Zq (Zr ?_)
 refine Zm ?_
 refine Za ?_
 refine Zl ?_
 cases hS
 exact VC.ret (fin1 (.inr rfl) rfl rfl out5_2 rfl rfl (by (try dsimp only); exact InM.out) (by (try dsimp only); exact EntO.out))
theorem rectoref14_Paths_ct (l_0 : Sv (Sv Rectoref14File)) {r : List Str} (hS : Sh.rectoref14_Paths (l_0.l.map Sv.l) = some r) :
 Ct Tryz.prog 34 [l_0.val] l_0.ok (Ow.emp) (X := Sv Str) (fun x => x.val) (fun x => r = x.l) (fun x => Mo.tt) (fun x => Sv.own x 9) := by
 refine Ct.of Tryz.func34 rfl (by kernel_rfl) Tryz.ntmps34 (by simp) fun c => ?_
 unfold Sh.rectoref14_Paths at hS
 refine Zq (Zr ?_)
 refine Za ?_
 refine Zl ?_
 refine Zq (Zr ?_)
 refine Za ?_
 refine Zl ?_
 refine Zq (Zq (Zr ?_))
 refine Za ?_
 refine Zl ?_
 refine Zb ?_
 refine VC.nilO (⟨none, 0, []⟩ : Sv Rectoref14File) 133 ⟨rfl, rfl⟩ ?_
 refine VC.iter (S := Sv Rectoref14File × Int) (fun sg => (sg.1.l, sg.2)) (fun sg => [(0, l_0.val), (3, sg.1.val), (4, i64 sg.2)]) (fun sg => Mo.tt) (fun sg => Ow.star (Sv.own sg.1 133) (Ow.emp)) (⟨none, 0, []⟩, 0) [0, 3, 4] hS rfl ?_
 clear hS
 rintro ⟨r3_1, i4_2⟩ m1 y1 hS hK1
 show VC _ _ _ _ _ [(0, l_0.val), (3, r3_1.val), (4, i64 i4_2)] (Mo.and Mo.tt _) (Ow.star (Sv.own r3_1 133) (Ow.emp))
 refine Zq (Zq (Zr ?_))
 refine Zm ?_
 refine Zm ?_
 refine VL.q (q_lnm Sv.l (s := l_0) Tryz.underlying70 rfl) (by decide) ?_
 refine VL.q (q_lss rfl rfl) (by decide) ?_
 refine Zl ?_
 refine VC.cond_dec rfl (fun h11 => ?_) (fun h11 => ?_)
 ·
  replace hS := it_t h11 hS
  refine Zk ?_
  refine Zq (Zb (Zq (Zr ?_)))
  refine Za ?_
  refine Zl ?_
  refine Zb ?_
  refine VC.iter (S := Sv Rectoref14File × Int) (fun sg => (sg.1.l, sg.2)) (fun sg => [(0, l_0.val), (3, sg.1.val), (4, i64 i4_2), (5, i64 sg.2)]) (fun sg => Mo.tt) (fun sg => Ow.star (Sv.own sg.1 133) (Ow.emp)) (r3_1, 0) [0, 3, 4, 5] hS rfl ?_
  clear hS
  rintro ⟨r3_3, k5_4⟩ m2 y2 hS hK2
  show VC _ _ _ _ _ [(0, l_0.val), (3, r3_3.val), (4, i64 i4_2), (5, i64 k5_4)] (Mo.and Mo.tt _) (Ow.star (Sv.own r3_3 133) (Ow.emp))
  refine Zq (Zq (Zr ?_))
  refine Zm ?_
  refine Zm ?_
  refine Zm ?_
  obtain ⟨z17_5, nz17_5, hz17_5, hS⟩ := atm_s hS
  refine VL.deep z17_5.ok hz17_5 (fun _ q => q) ?_
  refine VL.q (q_ixm (s := l_0) Tryz.underlying70 gsz45 rfl rfl nz17_5 (lt_of_get nz17_5 hz17_5)) (by decide) ?_
  refine VL.q (q_el (s := l_0) gone45 rfl hz17_5 rfl) (by decide) ?_
  refine VL.q (q_ln (s := z17_5) Tryz.underlying45 rfl) (by decide) ?_
  refine VL.q (q_lss rfl rfl) (by decide) ?_
  refine Zl ?_
  refine VC.cond_dec rfl (fun h20 => ?_) (fun h20 => ?_)
  ·
   replace hS := it_t h20 hS
   refine Zk ?_
   refine VC.keep [0, 3, 4, 5] rfl ?_
   refine Zq (Zb (Zr ?_))
   refine Zm ?_
   refine Zm ?_
   refine Zm ?_
   obtain ⟨z26_6, nz26_6, hz26_6, hS⟩ := atm_s hS
   refine VL.deep z26_6.ok hz26_6 (fun _ q => q) ?_
   refine VL.q (q_ixm (s := l_0) Tryz.underlying70 gsz45 rfl rfl nz26_6 (lt_of_get nz26_6 hz26_6)) (by decide) ?_
   refine VL.q (q_el (s := l_0) gone45 rfl hz26_6 rfl) (by decide) ?_
   refine Zm ?_
   obtain ⟨z29_7, nz29_7, hz29_7, hS⟩ := at_s hS
   refine VL.q (q_ixm (s := z26_6) Tryz.underlying45 gsz133 rfl rfl nz29_7 (lt_of_get nz29_7 hz29_7)) (by decide) ?_
   refine VL.q (q_field gfa133_0 rfl) (by decide) ?_
   refine VL.q (q_elf (s := z26_6) gone9 rfl hz29_7 rfl) (by decide) ?_
   refine VL.q (q_build (vs := [(0, str z29_7.path)]) (cs := #[str z29_7.path, i64 0, str []]) rfl (by kernel_rfl)) (by decide) ?_
   obtain ⟨y33_8, ey33_8, hS⟩ := bd_s hS
   refine VL.callOR (rectoref14_Put_ct r3_3 (⟨z29_7.path, 0, []⟩ : Rectoref14File) ey33_8) rfl (by decide) ?_
   rintro q33_8_0 rfl
   try dsimp only
   refine Za ?_
   refine Zl ?_
   refine VC.keep [0, 3, 4, 5] rfl ?_
   refine Zr ?_
   refine Zm ?_
   obtain ⟨b22, hS⟩ := gd_s hS
   refine VL.q (q_add rfl rfl b22) (by decide) ?_
   refine Za ?_
   refine VL.rnd (q33_8_0, (k5_4 + 1)) [0, 3, 4, 5] (fun _ _ h => h) (go2 hS hK2) rfl
  replace hS := it_f h20 hS
  replace hS := up2 hS hK2
  refine Zx ?_
  refine VC.keep [0, 3, 4] rfl ?_
  refine Zr ?_
  refine Zm ?_
  obtain ⟨b13, hS⟩ := gd_s hS
  refine VL.q (q_add rfl rfl b13) (by decide) ?_
  refine Za ?_
  refine VL.rnd (r3_3, (i4_2 + 1)) [0, 3, 4] (fun _ _ h => h) (go2 hS hK1) rfl
 replace hS := it_f h11 hS
 replace hS := up2 hS hK1
 refine Zx ?_
 refine Zq (Zr ?_)
 refine Za ?_
 refine Zl ?_
 refine Zq (Zq (Zr ?_))
 refine Za ?_
 refine Zl ?_
 refine Zb ?_
 refine VC.nilO (⟨none, 0, []⟩ : Sv Str) 9 ⟨rfl, rfl⟩ ?_
 refine VC.iter (S := Sv Str × Int) (fun sg => (sg.1.l, sg.2)) (fun sg => [(3, r3_1.val), (6, sg.1.val), (7, i64 sg.2)]) (fun sg => Mo.tt) (fun sg => Ow.star (Sv.own r3_1 133) (Ow.star (Sv.own sg.1 9) (Ow.emp))) (⟨none, 0, []⟩, 0) [3, 6, 7] hS rfl ?_
 clear hS
 rintro ⟨out6_9, i7_10⟩ m1 y1 hS hK1
 show VC _ _ _ _ _ [(3, r3_1.val), (6, out6_9.val), (7, i64 i7_10)] (Mo.and Mo.tt _) (Ow.star (Sv.own r3_1 133) (Ow.star (Sv.own out6_9 9) (Ow.emp)))
 refine Zq (Zq (Zr ?_))
 refine Zm ?_
 refine Zm ?_
 refine VL.q (q_ln (s := r3_1) Tryz.underlying45 rfl) (by decide) ?_
 refine VL.q (q_lss rfl rfl) (by decide) ?_
 refine Zl ?_
 refine VC.cond_dec rfl (fun h37 => ?_) (fun h37 => ?_)
 ·
  replace hS := it_t h37 hS
  refine Zk ?_
  refine Zq (Zb (Zr ?_))
  refine Zm ?_
  refine Zm ?_
  refine Zm ?_
  obtain ⟨z43_11, nz43_11, hz43_11, hS⟩ := at_s hS
  refine VL.q (q_ixo (s := r3_1) Tryz.underlying45 gsz133 rfl rfl nz43_11 (lt_of_get nz43_11 hz43_11)) (by decide) ?_
  refine VL.q (q_field gfa133_0 rfl) (by decide) ?_
  refine VL.q (q_elfo (s := r3_1) gone9 rfl hz43_11 rfl) (by decide) ?_
  refine VL.lit (α := Str) (xs := [.tmp 45]) (vs := [str z43_11.path]) [z43_11.path] Tryz.underlying32 glit9 (by decide) rfl rfl rfl rfl (by decide) (fun _ _ _ _ => trivial) (by decide) (fun s46_12 hs46_12 => ?_) (by decide)
  replace hS := lt_to hs46_12 hS
  obtain ⟨b47, hS⟩ := gd_s hS
  refine VL.app (s := out6_9) (r := s46_12) Tryz.underlying32 gapp9 (by decide) rfl Fo.out (ap1 b47) (ap2 b47 (by decide)) (by decide) (fun s47_14 hs47_14 => ?_)
  replace hS := lt_to hs47_14 hS
  refine Za ?_
  refine Zl ?_
  refine VC.keep [3, 6, 7] rfl ?_
  refine Zr ?_
  refine Zm ?_
  obtain ⟨b39, hS⟩ := gd_s hS
  refine VL.q (q_add rfl rfl b39) (by decide) ?_
  refine Za ?_
  refine VL.rnd (s47_14, (i7_10 + 1)) [3, 6, 7] (fun _ _ h => h) (go2 hS hK1) rfl
 replace hS := it_f h37 hS
 replace hS := up2 hS hK1
 refine Zx ?_
 refine Zq (Zr ?_)
 refine Zm ?_
 refine Za ?_
 refine Zl ?_
 cases hS
 exact VC.ret (fin1 (.inr rfl) rfl rfl out6_9 rfl rfl (by (try dsimp only); exact InM.out) (by (try dsimp only); exact EntO.out))
theorem rectoref14_Get_ct (r_0 : Sv Rectoref14File) (p_1 : Str) {r : Rectoref14File × Bool} (hS : Sh.rectoref14_Get r_0.l p_1 = some r) :
 Ct Tryz.prog 79 [r_0.val, str p_1] r_0.ok (Ow.emp) (X := Unit) (fun _ => .tuple #[.agg #[str r.1.path, i64 r.1.mode, str r.1.data], .bool r.2]) (fun _ => True) (fun _ => Mo.tt) (fun _ => Ow.emp) := by
 refine Ct.of Tryz.func79 rfl (by kernel_rfl) Tryz.ntmps79 (by simp) fun c => ?_
 unfold Sh.rectoref14_Get at hS
 refine Zq (Zr ?_)
 refine VL.alloc (cs := [str [], i64 0, str []]) (by kernel_rfl) (by decide) fun b4_1 => ?_
 refine Za ?_
 refine Zl ?_
 refine Zq (Zq (Zr ?_))
 refine Za ?_
 refine Zl ?_
 refine Zb ?_
 refine VC.iter (S := Int) (fun (i6_2 : Int) => i6_2) (fun (i6_2 : Int) => [(0, r_0.val), (1, str p_1), (4, ptr b4_1 0), (6, i64 i6_2)]) (fun (i6_2 : Int) => Mo.tt) (fun (i6_2 : Int) => Ow.star (Blk b4_1 [str [], i64 0, str []] 133) (Ow.emp)) 0 [0, 1, 4, 6] hS rfl ?_
 clear hS
 rintro i6_2 m1 y1 hS hK1
 show VC _ _ _ _ _ [(0, r_0.val), (1, str p_1), (4, ptr b4_1 0), (6, i64 i6_2)] (Mo.and Mo.tt _) (Ow.star (Blk b4_1 [str [], i64 0, str []] 133) (Ow.emp))
 refine Zq (Zq (Zr ?_))
 refine Zm ?_
 refine Zm ?_
 refine VL.q (q_ln (s := r_0) Tryz.underlying45 rfl) (by decide) ?_
 refine VL.q (q_lss rfl rfl) (by decide) ?_
 refine Zl ?_
 refine VC.cond_dec rfl (fun h10 => ?_) (fun h10 => ?_)
 ·
  replace hS := it_t h10 hS
  refine Zk ?_
  refine Zq (Zb (Zq (Zr ?_)))
  refine Zm ?_
  refine Zm ?_
  obtain ⟨z15_3, nz15_3, hz15_3, hS⟩ := at_s hS
  refine VL.q (q_ixm (s := r_0) Tryz.underlying45 gsz133 rfl rfl nz15_3 (lt_of_get nz15_3 hz15_3)) (by decide) ?_
  refine VL.q (q_field gfa133_0 rfl) (by decide) ?_
  refine VL.q (q_elf (s := r_0) gone9 rfl hz15_3 rfl) (by decide) ?_
  refine Zm ?_
  refine Zs ?_
  refine Zl ?_
  refine VC.keep [0, 1, 4, 6, 19] rfl ?_
  refine VC.cond_dec rfl (fun h19 => ?_) (fun h19 => ?_)
  ·
   replace hS := it_t h19 hS
   refine Zq (Zr ?_)
   refine Zm ?_
   refine Zm ?_
   obtain ⟨z22_4, nz22_4, hz22_4, hS⟩ := at_s hS
   refine VL.q (q_ixm (s := r_0) Tryz.underlying45 gsz133 rfl rfl nz22_4 (lt_of_get nz22_4 hz22_4)) (by decide) ?_
   refine VL.q (q_els (s := r_0) gagg133 rfl rfl hz22_4) (by decide) ?_
   refine VL.store (vc := [str z22_4.path, i64 z22_4.mode, str z22_4.data]) (cs' := [str z22_4.path, i64 z22_4.mode, str z22_4.data]) rfl rfl rfl gsz133 rfl rfl (Nat.le_of_ble_eq_true rfl) rfl ?_
   refine Za ?_
   refine Zl ?_
   replace hS := up2 hS hK1
   cases hS
   exact VC.ret (finG (vs := [.agg #[str z22_4.path, i64 z22_4.mode, str z22_4.data], .bool true]) (.inr rfl) rfl (RVs.cell gagg133 rfl rfl Rd.blk (RVs.tmp rfl (RVs.nil))) () rfl trivial (by (try dsimp only); exact InM.out) (fun _ _ => trivial))
  replace hS := it_f h19 hS
  refine Zk ?_
  refine Zr ?_
  refine Zm ?_
  obtain ⟨b12, hS⟩ := gd_s hS
  refine VL.q (q_add rfl rfl b12) (by decide) ?_
  refine Za ?_
  refine VL.rnd (i6_2 + 1) [0, 1, 4, 6] (fun _ _ h => h) (go2 hS hK1) rfl
 replace hS := it_f h10 hS
 replace hS := up2 hS hK1
 refine Zx ?_
 refine Zq (Zr ?_)
 refine VL.q (q_build (vs := []) (cs := #[str [], i64 0, str []]) rfl (by kernel_rfl)) (by decide) ?_
 refine VL.store (vc := [str [], i64 0, str []]) (cs' := [str [], i64 0, str []]) rfl rfl rfl gsz133 rfl rfl (Nat.le_of_ble_eq_true rfl) rfl ?_
 refine Za ?_
 refine Zl ?_
 cases hS
 exact VC.ret (finG (vs := [.agg #[str [], i64 0, str []], .bool false]) (.inr rfl) rfl (RVs.cell gagg133 rfl rfl Rd.blk (RVs.tmp rfl (RVs.nil))) () rfl trivial (by (try dsimp only); exact InM.out) (fun _ _ => trivial))
theorem rectoref14_Like_ct (a_0 : Sv Rectoref14File) (b_1 : Sv Rectoref14File) (p_2 : Str) {r : Bool} (hS : Sh.rectoref14_Like a_0.l b_1.l p_2 = some r) :
 Ct Tryz.prog 24 [a_0.val, b_1.val, str p_2] (a_0.ok.and b_1.ok) (Ow.emp) (X := Unit) (fun _ => .bool r) (fun _ => True) (fun _ => Mo.tt) (fun _ => Ow.emp) := by
 refine Ct.of Tryz.func24 rfl (by kernel_rfl) Tryz.ntmps24 (by simp) fun c => ?_
 unfold Sh.rectoref14_Like at hS
 refine Zq (Zr ?_)
 refine Za ?_
 refine Zl ?_
 refine Zq (Zr ?_)
 refine Zm ?_
 refine Zm ?_
 obtain ⟨y14_1, ey14_1, hS⟩ := bd_s hS
 refine VL.q (q_call (rectoref14_Get_ct a_0 p_2 ey14_1) rfl (fun _ _ => rfl)) (by decide) ?_
 refine Zm ?_
 refine VL.q (q_extract rfl rfl) (by decide) ?_
 refine VL.q (q_extract rfl rfl) (by decide) ?_
 refine VL.alloc (cs := [str [], i64 0, str []]) (by kernel_rfl) (by decide) fun b7_2 => ?_
 refine VL.store (vc := [str y14_1.1.path, i64 y14_1.1.mode, str y14_1.1.data]) (cs' := [str y14_1.1.path, i64 y14_1.1.mode, str y14_1.1.data]) rfl rfl rfl gsz133 rfl rfl (Nat.le_of_ble_eq_true rfl) rfl ?_
 refine Za ?_
 refine Zl ?_
 refine VC.keep [1, 2, 7, 8] rfl ?_
 refine Zq (Zr ?_)
 refine Zm ?_
 refine Zm ?_
 obtain ⟨y20_3, ey20_3, hS⟩ := bd_s hS
 refine VL.q (q_call (rectoref14_Get_ct b_1 p_2 ey20_3) rfl (fun _ _ => rfl)) (by decide) ?_
 refine Zm ?_
 refine VL.q (q_extract rfl rfl) (by decide) ?_
 refine VL.q (q_extract rfl rfl) (by decide) ?_
 refine VL.alloc (cs := [str [], i64 0, str []]) (by kernel_rfl) (by decide) fun b9_4 => ?_
 refine VL.store (vc := [str y20_3.1.path, i64 y20_3.1.mode, str y20_3.1.data]) (cs' := [str y20_3.1.path, i64 y20_3.1.mode, str y20_3.1.data]) rfl rfl rfl gsz133 rfl rfl (Nat.le_of_ble_eq_true rfl) rfl ?_
 refine Za ?_
 refine Zl ?_
 refine VC.keep [7, 8, 9, 10] rfl ?_
 refine Zq (Zr ?_)
 refine Zm ?_
 refine Zm ?_
 refine VL.q (q_beql Tryz.underlying4 rfl rfl) (by decide) ?_
 refine Zm ?_
 refine VL.split_dec 26 rfl (fun h26 => ?_) (fun h26 => ?_)
 ·
  replace hS := it_t h26 hS
  refine VL.gy rfl rfl (q_fes gagg133 rfl rfl) (by decide) ?_
  refine VL.gy rfl rfl (q_fes gagg133 rfl rfl) (by decide) ?_
  refine VL.gy rfl rfl (q_steql geqg133 (geqs133 y14_1.1.path y14_1.1.mode y14_1.1.data y20_3.1.path y20_3.1.mode y20_3.1.data) rfl rfl) (by decide) ?_
  refine Zt ?_
  refine Za ?_
  refine Zl ?_
  refine VC.keep [6] rfl ?_
  cases hS
  exact Ze
 replace hS := it_f h26 hS
 refine Zn ?_
 refine Zn ?_
 refine Zn ?_
 refine Zf ?_
 refine Za ?_
 refine Zl ?_
 refine VC.keep [6] rfl ?_
 cases hS
 exact Ze
theorem rectoref3_At_ct (word_0 : Str) (at_1 : Int) (e_2 : Int) {r : Rectoref3WrongP} (hS : Sh.rectoref3_At word_0 at_1 e_2 = some r) :
 Ct Tryz.prog 102 [str word_0, i64 at_1, i64 e_2] Mo.tt (Ow.emp) (X := Rectoref3Wrong) (fun x => .agg (Dat.enc x).toArray) (fun x => r = x.pl) (fun x => x.m) (fun x => Ow.emp) := by
 refine Ct.of Tryz.func102 rfl (by kernel_rfl) Tryz.ntmps102 (by simp) fun c => ?_
 unfold Sh.rectoref3_At at hS
 refine Zq (Zr ?_)
 refine VL.alloc (cs := [.slice none 0 0, i64 0]) (by kernel_rfl) (by decide) fun b6_1 => ?_
 refine Zl ?_
 refine Zq (Zr ?_)
 refine Zm ?_
 refine Zm ?_
 refine VL.q (q_build (vs := [(0, str word_0), (1, i64 at_1)]) (cs := #[str word_0, i64 at_1]) rfl (by kernel_rfl)) (by decide) ?_
 refine VL.lit (α := Rectoref3Part) (xs := [.tmp 9]) (vs := [.agg #[str word_0, i64 at_1]]) [⟨word_0, at_1⟩] Tryz.underlying75 glit183 (by decide) rfl rfl rfl rfl (by decide) (fun _ _ _ _ => trivial) (by decide) (fun s10_2 hs10_2 => ?_) (by decide)
 replace hS := lt_to hs10_2 hS
 refine Zm ?_
 refine VL.q (q_build (vs := [(0, s10_2.val), (1, i64 e_2)]) (cs := #[s10_2.val, i64 e_2]) rfl (by kernel_rfl)) (by decide) ?_
 refine VL.store (vc := [s10_2.val, i64 e_2]) (cs' := [s10_2.val, i64 e_2]) rfl rfl rfl gsz77 rfl rfl (Nat.le_of_ble_eq_true rfl) rfl ?_
 refine Zl ?_
 cases hS
 exact VC.ret (finG (vs := [.agg #[s10_2.val, i64 e_2]]) (.inr rfl) rfl (RVs.cell gagg77 rfl rfl Rd.blk (RVs.nil)) ⟨s10_2, e_2⟩ rfl rfl (by (try dsimp only); exact InM.out) (fun _ _ => trivial))
theorem rectoref1_Parts_ct (p_0 : Str) {r : List Str} (hS : Sh.rectoref1_Parts p_0 = some r) :
 Ct Tryz.prog 256 [str p_0] Mo.tt (Ow.emp) (X := Sv Str) (fun x => x.val) (fun x => r = x.l) (fun x => Mo.tt) (fun x => Sv.own x 9) := by
 refine Ct.of Tryz.func256 rfl (by kernel_rfl) Tryz.ntmps256 (by simp) fun c => ?_
 unfold Sh.rectoref1_Parts at hS
 refine Zq (Zr ?_)
 refine Za ?_
 refine Zl ?_
 refine Zq (Zq (Zr ?_))
 refine Zm ?_
 refine Zs ?_
 refine Zl ?_
 refine VC.cond_dec rfl (fun h6 => ?_) (fun h6 => ?_)
 ·
  replace hS := it_t h6 hS
  refine Zq (Zr ?_)
  refine Za ?_
  refine Zl ?_
  refine VC.nilO (⟨none, 0, []⟩ : Sv Str) 9 ⟨rfl, rfl⟩ ?_
  cases hS
  exact VC.ret (fin1 (.inr rfl) rfl rfl ⟨none, 0, []⟩ rfl rfl (by (try dsimp only); exact InM.out) (by (try dsimp only); exact EntO.out))
 replace hS := it_f h6 hS
 refine Zk ?_
 refine Zq (Zr ?_)
 refine VL.litO (α := Str) (xs := [.const (str [])]) (vs := [str []]) [[]] Tryz.underlying32 glit9 (by decide) rfl rfl rfl rfl (by decide) (by decide) (fun s7_1 hs7_1 => ?_) (by decide)
 replace hS := lt_to hs7_1 hS
 refine Za ?_
 refine Zl ?_
 refine Zq (Zq (Zr ?_))
 refine Za ?_
 refine Zl ?_
 refine Zb ?_
 refine VC.iter (S := Sv Str × Int) (fun sg => (sg.1.l, sg.2)) (fun sg => [(0, str p_0), (3, sg.1.val), (4, i64 sg.2)]) (fun sg => Mo.tt) (fun sg => Ow.star (Sv.own sg.1 9) (Ow.emp)) (s7_1, 0) [0, 3, 4] hS rfl ?_
 clear hS
 rintro ⟨out3_3, i4_4⟩ m1 y1 hS hK1
 show VC _ _ _ _ _ [(0, str p_0), (3, out3_3.val), (4, i64 i4_4)] (Mo.and Mo.tt _) (Ow.star (Sv.own out3_3 9) (Ow.emp))
 refine Zq (Zq (Zr ?_))
 refine Zm ?_
 refine Zm ?_
 refine VL.q (q_slen Tryz.underlying9 rfl) (by decide) ?_
 refine VL.q (q_lss rfl rfl) (by decide) ?_
 refine Zl ?_
 refine VC.cond_dec rfl (fun h11 => ?_) (fun h11 => ?_)
 ·
  replace hS := it_t h11 hS
  refine Zk ?_
  refine VC.cutJ (S := Sv Str) (fun (out3_5 : Sv Str) => out3_5.l) (fun (out3_5 : Sv Str) => [(0, str p_0), (3, out3_5.val), (4, i64 i4_4)]) (fun (out3_5 : Sv Str) => Mo.tt) (fun (out3_5 : Sv Str) => Ow.star (Sv.own out3_5 9) (Ow.emp)) hS ?_ ?_
  ·
   clear hS
   intro k6 hS
   refine Zb (Zq (Zq (Zr ?_)))
   refine Zm ?_
   refine Zm ?_
   obtain ⟨z16_7, nz16_7, hz16_7, hS⟩ := at_s hS
   refine VL.q (q_sidx Tryz.underlying9 rfl rfl nz16_7 hz16_7) (by decide) ?_
   refine VL.q (q_eql rfl rfl) (by decide) ?_
   refine Zl ?_
   refine VC.keep [0, 3, 4, 17] rfl ?_
   refine VC.cond_dec rfl (fun h17 => ?_) (fun h17 => ?_)
   ·
    replace hS := it_t h17 hS
    refine Zq (Zr ?_)
    refine Zm ?_
    refine VL.lit (α := Str) (xs := [.const (str [])]) (vs := [str []]) [[]] Tryz.underlying32 glit9 (by decide) rfl rfl rfl rfl (by decide) (fun _ _ _ _ => trivial) (by decide) (fun s19_8 hs19_8 => ?_) (by decide)
    replace hS := lt_to hs19_8 hS
    obtain ⟨b20, hS⟩ := gd_s hS
    refine VL.app (s := out3_3) (r := s19_8) Tryz.underlying32 gapp9 (by decide) rfl Fo.out (ap1 b20) (ap2 b20 (by decide)) (by decide) (fun s20_10 hs20_10 => ?_)
    replace hS := lt_to hs20_10 hS
    refine Za ?_
    refine Zl ?_
    refine VC.exit_mt s20_10 [0, 3, 4] (fun _ _ h => h) hS rfl
   replace hS := it_f h17 hS
   refine Zk ?_
   refine VC.draw [(0, true), (1, true), (2, true), (3, true), (4, true), (5, true), (6, true), (7, true), (8, true), (9, true), (10, true), (11, true), (12, true), (13, true), (14, true), (15, true), (16, true), (17, false)] mixed (by kernel_rfl) (by kernel_rfl) (by kernel_rfl) ?_
   refine VD.q rfl (q_move rfl) (by decide) ?_
   refine VD.q rfl (q_move rfl) (by decide) ?_
   refine VD.q rfl (q_ln (s := out3_3) Tryz.underlying32 rfl) (by decide) ?_
   obtain ⟨b24, hS⟩ := gd_s hS
   refine VD.q rfl (q_sub rfl rfl b24) (by decide) ?_
   refine VD.q rfl (q_move rfl) (by decide) ?_
   refine VD.q rfl (q_move rfl) (by decide) ?_
   refine VD.q rfl (q_ln (s := out3_3) Tryz.underlying32 rfl) (by decide) ?_
   obtain ⟨b28, hS⟩ := gd_s hS
   refine VD.q rfl (q_sub rfl rfl b28) (by decide) ?_
   obtain ⟨z29_12, nz29_12, hz29_12, hS⟩ := at_s hS
   refine VD.q rfl (q_ixo (s := out3_3) Tryz.underlying32 gsz9 rfl rfl nz29_12 (lt_of_get nz29_12 hz29_12)) (by decide) ?_
   refine VD.q rfl (q_elo (s := out3_3) 9 gone9 rfl hz29_12 rfl) (by decide) ?_
   refine VD.q rfl (q_move rfl) (by decide) ?_
   refine VD.q rfl (q_move rfl) (by decide) ?_
   refine VD.q rfl (q_move rfl) (by decide) ?_
   obtain ⟨b34, hS⟩ := gd_s hS
   refine VD.q rfl (q_add rfl rfl b34) (by decide) ?_
   obtain ⟨b35, hS⟩ := gd_s hS
   obtain ⟨y35_13, ey35_13, hS⟩ := lt_s hS
   refine VD.q rfl (q_smidE Tryz.underlying9 rfl rfl rfl b35.1 b35.2.1 b35.2.2 ey35_13) (by decide) ?_
   obtain ⟨b36, hS⟩ := gd_s hS
   obtain ⟨y36_14, ey36_14, hS⟩ := lt_s hS
   refine VD.q rfl (q_catE rfl rfl b36 ey36_14) (by decide) ?_
   obtain ⟨z37_15, nz37_15, hz37_15, hS⟩ := at_s hS
   refine VD.q rfl (q_ixo (s := out3_3) Tryz.underlying32 gsz9 rfl rfl nz37_15 (lt_of_get nz37_15 hz37_15)) (by decide) ?_
   refine VD.one rfl ?_
   refine VL.storeE (s := out3_3) (T := 9) (j := 0) (vc := [str y36_14]) (y36_14 : Str) (by decide) rfl rfl hz37_15 rfl gsz9 rfl rfl (Nat.le_of_ble_eq_true rfl) rfl (fun w16 hw16 haw16 hcw16 hvw16 hbw16 how16 => ?_)
   rw [← hvw16]
   replace hS := lt_to hw16 hS
   refine VL.back (D' := []) (by kernel_rfl) (Pend.nil) ?_
   refine VD.mt w16 [0, 3, 4] (fun _ _ h => h) hS rfl
  clear hS
  rintro out3_5 hS
  show VC _ _ _ _ _ [(0, str p_0), (3, out3_5.val), (4, i64 i4_4)] (Mo.and Mo.tt _) (Ow.star (Sv.own out3_5 9) (Ow.emp))
  refine Zr ?_
  refine Zm ?_
  obtain ⟨b13, hS⟩ := gd_s hS
  refine VL.q (q_add rfl rfl b13) (by decide) ?_
  refine Za ?_
  refine VL.rnd (out3_5, (i4_4 + 1)) [0, 3, 4] (fun _ _ h => h) (go2 hS hK1) rfl
 replace hS := it_f h11 hS
 replace hS := up2 hS hK1
 refine Zx ?_
 refine Zq (Zr ?_)
 refine Zm ?_
 refine Za ?_
 refine Zl ?_
 cases hS
 exact VC.ret (fin1 (.inr rfl) rfl rfl out3_3 rfl rfl (by (try dsimp only); exact InM.out) (by (try dsimp only); exact EntO.out))
theorem rectoref1_good_ct (c_0 : Int) {r : Bool} (hS : Sh.rectoref1_good c_0 = some r) :
 Ct Tryz.prog 257 [.int .u8 c_0] Mo.tt (Ow.emp) (X := Unit) (fun _ => .bool r) (fun _ => True) (fun _ => Mo.tt) (fun _ => Ow.emp) := by
 refine Ct.of Tryz.func257 rfl (by kernel_rfl) Tryz.ntmps257 (by simp) fun c => ?_
 unfold Sh.rectoref1_good at hS
 refine Zq (Zr ?_)
 refine Za ?_
 refine Zl ?_
 refine Zq (Zr ?_)
 refine Zm ?_
 refine VL.q (q_geq rfl rfl) (by decide) ?_
 refine Zm ?_
 refine VL.split_dec 5 rfl (fun h5 => ?_) (fun h5 => ?_)
 ·
  replace hS := it_t h5 hS
  refine Zg ?_
  refine VL.gy rfl rfl (q_leq rfl rfl) (by decide) ?_
  refine Zt ?_
  refine Zm ?_
  refine VL.split_dec 9 rfl (fun h9 => ?_) (fun h9 => ?_)
  ·
   replace hS := it_t h9 hS
   refine Zn ?_
   refine Zn ?_
   refine Zn ?_
   refine VL.gu rfl rfl (by decide) ?_
   refine VL.gu rfl rfl (by decide) ?_
   refine Zn ?_
   refine Zt ?_
   refine Zm ?_
   refine Zn ?_
   refine Zn ?_
   refine Zt ?_
   refine Zm ?_
   refine Zn ?_
   refine Zn ?_
   refine Zt ?_
   refine Zm ?_
   refine Zn ?_
   refine Zn ?_
   refine Zt ?_
   refine Za ?_
   refine Zl ?_
   refine VC.keep [2] rfl ?_
   cases hS
   exact Ze
  replace hS := it_f h9 hS
  refine Zg ?_
  refine VL.gy rfl rfl (q_geq rfl rfl) (by decide) ?_
  refine Zg ?_
  refine VL.split_dec 12 rfl (fun h12 => ?_) (fun h12 => ?_)
  ·
   replace hS := it_t h12 hS
   refine Zg ?_
   refine VL.gy rfl rfl (q_leq rfl rfl) (by decide) ?_
   refine VL.gy rfl rfl (q_pick_t rfl rfl) (by decide) ?_
   refine Zf ?_
   refine Zm ?_
   refine VL.split_dec 17 rfl (fun h17 => ?_) (fun h17 => ?_)
   ·
    replace hS := it_t h17 hS
    refine Zn ?_
    refine Zn ?_
    refine Zt ?_
    refine Zm ?_
    refine Zn ?_
    refine Zn ?_
    refine Zt ?_
    refine Zm ?_
    refine Zn ?_
    refine Zn ?_
    refine Zt ?_
    refine Za ?_
    refine Zl ?_
    refine VC.keep [2] rfl ?_
    cases hS
    exact Ze
   replace hS := it_f h17 hS
   refine Zg ?_
   refine VL.gy rfl rfl (q_eql rfl rfl) (by decide) ?_
   refine Zf ?_
   refine Zm ?_
   refine VL.split_dec 21 rfl (fun h21 => ?_) (fun h21 => ?_)
   ·
    replace hS := it_t h21 hS
    refine Zn ?_
    refine Zn ?_
    refine Zt ?_
    refine Zm ?_
    refine Zn ?_
    refine Zn ?_
    refine Zt ?_
    refine Za ?_
    refine Zl ?_
    refine VC.keep [2] rfl ?_
    cases hS
    exact Ze
   replace hS := it_f h21 hS
   refine Zg ?_
   refine VL.gy rfl rfl (q_eql rfl rfl) (by decide) ?_
   refine Zf ?_
   refine Zm ?_
   refine VL.split_dec 25 rfl (fun h25 => ?_) (fun h25 => ?_)
   ·
    replace hS := it_t h25 hS
    refine Zn ?_
    refine Zn ?_
    refine Zt ?_
    refine Za ?_
    refine Zl ?_
    refine VC.keep [2] rfl ?_
    cases hS
    exact Ze
   replace hS := it_f h25 hS
   refine Zg ?_
   refine VL.gy rfl rfl (q_eql rfl rfl) (by decide) ?_
   refine Zf ?_
   refine Za ?_
   refine Zl ?_
   refine VC.keep [2] rfl ?_
   cases hS
   exact Ze
  replace hS := it_f h12 hS
  refine Zn ?_
  refine Zn ?_
  refine VL.gy rfl rfl (q_pick_f rfl rfl) (by decide) ?_
  refine Zf ?_
  refine Zm ?_
  refine Zg ?_
  refine VL.gy rfl rfl (q_eql rfl rfl) (by decide) ?_
  refine Zf ?_
  refine Zm ?_
  refine VL.split_dec 21 rfl (fun h21 => ?_) (fun h21 => ?_)
  ·
   replace hS := it_t h21 hS
   refine Zn ?_
   refine Zn ?_
   refine Zt ?_
   refine Zm ?_
   refine Zn ?_
   refine Zn ?_
   refine Zt ?_
   refine Za ?_
   refine Zl ?_
   refine VC.keep [2] rfl ?_
   cases hS
   exact Ze
  replace hS := it_f h21 hS
  refine Zg ?_
  refine VL.gy rfl rfl (q_eql rfl rfl) (by decide) ?_
  refine Zf ?_
  refine Zm ?_
  refine VL.split_dec 25 rfl (fun h25 => ?_) (fun h25 => ?_)
  ·
   replace hS := it_t h25 hS
   refine Zn ?_
   refine Zn ?_
   refine Zt ?_
   refine Za ?_
   refine Zl ?_
   refine VC.keep [2] rfl ?_
   cases hS
   exact Ze
  replace hS := it_f h25 hS
  refine Zg ?_
  refine VL.gy rfl rfl (q_eql rfl rfl) (by decide) ?_
  refine Zf ?_
  refine Za ?_
  refine Zl ?_
  refine VC.keep [2] rfl ?_
  cases hS
  exact Ze
 replace hS := it_f h5 hS
 refine Zn ?_
 refine Zn ?_
 refine Zf ?_
 refine Zm ?_
 refine Zg ?_
 refine VL.gy rfl rfl (q_geq rfl rfl) (by decide) ?_
 refine Zg ?_
 refine VL.split_dec 12 rfl (fun h12 => ?_) (fun h12 => ?_)
 ·
  replace hS := it_t h12 hS
  refine Zg ?_
  refine VL.gy rfl rfl (q_leq rfl rfl) (by decide) ?_
  refine VL.gy rfl rfl (q_pick_t rfl rfl) (by decide) ?_
  refine Zf ?_
  refine Zm ?_
  refine VL.split_dec 17 rfl (fun h17 => ?_) (fun h17 => ?_)
  ·
   replace hS := it_t h17 hS
   refine Zn ?_
   refine Zn ?_
   refine Zt ?_
   refine Zm ?_
   refine Zn ?_
   refine Zn ?_
   refine Zt ?_
   refine Zm ?_
   refine Zn ?_
   refine Zn ?_
   refine Zt ?_
   refine Za ?_
   refine Zl ?_
   refine VC.keep [2] rfl ?_
   cases hS
   exact Ze
  replace hS := it_f h17 hS
  refine Zg ?_
  refine VL.gy rfl rfl (q_eql rfl rfl) (by decide) ?_
  refine Zf ?_
  refine Zm ?_
  refine VL.split_dec 21 rfl (fun h21 => ?_) (fun h21 => ?_)
  ·
   replace hS := it_t h21 hS
   refine Zn ?_
   refine Zn ?_
   refine Zt ?_
   refine Zm ?_
   refine Zn ?_
   refine Zn ?_
   refine Zt ?_
   refine Za ?_
   refine Zl ?_
   refine VC.keep [2] rfl ?_
   cases hS
   exact Ze
  replace hS := it_f h21 hS
  refine Zg ?_
  refine VL.gy rfl rfl (q_eql rfl rfl) (by decide) ?_
  refine Zf ?_
  refine Zm ?_
  refine VL.split_dec 25 rfl (fun h25 => ?_) (fun h25 => ?_)
  ·
   replace hS := it_t h25 hS
   refine Zn ?_
   refine Zn ?_
   refine Zt ?_
   refine Za ?_
   refine Zl ?_
   refine VC.keep [2] rfl ?_
   cases hS
   exact Ze
  replace hS := it_f h25 hS
  refine Zg ?_
  refine VL.gy rfl rfl (q_eql rfl rfl) (by decide) ?_
  refine Zf ?_
  refine Za ?_
  refine Zl ?_
  refine VC.keep [2] rfl ?_
  cases hS
  exact Ze
 replace hS := it_f h12 hS
 refine Zn ?_
 refine Zn ?_
 refine VL.gy rfl rfl (q_pick_f rfl rfl) (by decide) ?_
 refine Zf ?_
 refine Zm ?_
 refine Zg ?_
 refine VL.gy rfl rfl (q_eql rfl rfl) (by decide) ?_
 refine Zf ?_
 refine Zm ?_
 refine VL.split_dec 21 rfl (fun h21 => ?_) (fun h21 => ?_)
 ·
  replace hS := it_t h21 hS
  refine Zn ?_
  refine Zn ?_
  refine Zt ?_
  refine Zm ?_
  refine Zn ?_
  refine Zn ?_
  refine Zt ?_
  refine Za ?_
  refine Zl ?_
  refine VC.keep [2] rfl ?_
  cases hS
  exact Ze
 replace hS := it_f h21 hS
 refine Zg ?_
 refine VL.gy rfl rfl (q_eql rfl rfl) (by decide) ?_
 refine Zf ?_
 refine Zm ?_
 refine VL.split_dec 25 rfl (fun h25 => ?_) (fun h25 => ?_)
 ·
  replace hS := it_t h25 hS
  refine Zn ?_
  refine Zn ?_
  refine Zt ?_
  refine Za ?_
  refine Zl ?_
  refine VC.keep [2] rfl ?_
  cases hS
  exact Ze
 replace hS := it_f h25 hS
 refine Zg ?_
 refine VL.gy rfl rfl (q_eql rfl rfl) (by decide) ?_
 refine Zf ?_
 refine Za ?_
 refine Zl ?_
 refine VC.keep [2] rfl ?_
 cases hS
 exact Ze
theorem rectoref1_Check_ct (p_0 : Str) {r : Int} (hS : Sh.rectoref1_Check p_0 = some r) :
 Ct Tryz.prog 187 [str p_0] Mo.tt (Ow.emp) (X := Unit) (fun _ => i64 r) (fun _ => True) (fun _ => Mo.tt) (fun _ => Ow.emp) := by
 refine Ct.of Tryz.func187 rfl (by kernel_rfl) Tryz.ntmps187 (by simp) fun c => ?_
 unfold Sh.rectoref1_Check at hS
 refine Zq (Zr ?_)
 refine Za ?_
 refine Zl ?_
 refine Zq (Zq (Zr ?_))
 refine Zm ?_
 refine VL.q (q_slen Tryz.underlying9 rfl) (by decide) ?_
 refine VL.q (q_gtr rfl rfl) (by decide) ?_
 refine Zl ?_
 refine VC.cond_dec rfl (fun h8 => ?_) (fun h8 => ?_)
 ·
  replace hS := it_t h8 hS
  refine Zq (Zr ?_)
  refine Za ?_
  refine Zl ?_
  cases hS
  exact Ze
 replace hS := it_f h8 hS
 refine Zk ?_
 refine Zq (Zr ?_)
 refine Zm ?_
 obtain ⟨y10_1, ey10_1, hS⟩ := bd_s hS
 refine VL.callO (rectoref1_Parts_ct p_0 ey10_1) rfl (by decide) ?_
 rintro q10_1_0 rfl
 try dsimp only
 refine Za ?_
 refine Zl ?_
 refine Zq (Zq (Zr ?_))
 refine Zm ?_
 refine VL.q (q_ln (s := q10_1_0) Tryz.underlying32 rfl) (by decide) ?_
 refine VL.q (q_eql rfl rfl) (by decide) ?_
 refine Zl ?_
 refine VC.keep [3, 13] rfl ?_
 refine VC.cond_dec rfl (fun h13 => ?_) (fun h13 => ?_)
 ·
  replace hS := it_t h13 hS
  refine Zq (Zr ?_)
  refine Za ?_
  refine Zl ?_
  cases hS
  exact Ze
 replace hS := it_f h13 hS
 refine Zk ?_
 refine Zq (Zq (Zr ?_))
 refine Za ?_
 refine Zl ?_
 refine Zb ?_
 refine VC.iter (S := Int) (fun (i4_2 : Int) => i4_2) (fun (i4_2 : Int) => [(3, q10_1_0.val), (4, i64 i4_2)]) (fun (i4_2 : Int) => Mo.tt) (fun (i4_2 : Int) => Ow.star (Sv.own q10_1_0 9) (Ow.emp)) 0 [3, 4] hS rfl ?_
 clear hS
 rintro i4_2 m1 y1 hS hK1
 show VC _ _ _ _ _ [(3, q10_1_0.val), (4, i64 i4_2)] (Mo.and Mo.tt _) (Ow.star (Sv.own q10_1_0 9) (Ow.emp))
 refine Zq (Zq (Zr ?_))
 refine Zm ?_
 refine Zm ?_
 refine VL.q (q_ln (s := q10_1_0) Tryz.underlying32 rfl) (by decide) ?_
 refine VL.q (q_lss rfl rfl) (by decide) ?_
 refine Zl ?_
 refine VC.cond_dec rfl (fun h17 => ?_) (fun h17 => ?_)
 ·
  replace hS := it_t h17 hS
  refine Zk ?_
  refine VC.cutJ (S := Unit) (fun (_ : Unit) => ()) (fun (_ : Unit) => [(3, q10_1_0.val), (4, i64 i4_2)]) (fun (_ : Unit) => Mo.tt) (fun (_ : Unit) => Ow.star (Sv.own q10_1_0 9) (Ow.emp)) hS ?_ ?_
  ·
   clear hS
   intro k3 hS
   refine Zb (Zq ?_)
   refine VC.cutJ (S := Bool) (fun (x38_4 : Bool) => x38_4) (fun (x38_4 : Bool) => [(3, q10_1_0.val), (4, i64 i4_2), (38, .bool x38_4)]) (fun (x38_4 : Bool) => Mo.tt) (fun (x38_4 : Bool) => Ow.star (Sv.own q10_1_0 9) (Ow.emp)) hS ?_ ?_
   ·
    clear hS
    intro k5 hS
    refine Zr ?_
    refine Zm ?_
    refine Zm ?_
    obtain ⟨z22_6, nz22_6, hz22_6, hS⟩ := at_s hS
    refine VL.q (q_ixo (s := q10_1_0) Tryz.underlying32 gsz9 rfl rfl nz22_6 (lt_of_get nz22_6 hz22_6)) (by decide) ?_
    refine VL.q (q_elo (s := q10_1_0) 9 gone9 rfl hz22_6 rfl) (by decide) ?_
    refine Zs ?_
    refine Zm ?_
    refine VL.split_dec 25 rfl (fun h25 => ?_) (fun h25 => ?_)
    ·
     replace hS := it_t h25 hS
     refine Zn ?_
     refine Zn ?_
     refine Zn ?_
     refine Zn ?_
     refine Zn ?_
     refine Zt ?_
     refine Zm ?_
     refine Zn ?_
     refine Zn ?_
     refine Zn ?_
     refine Zn ?_
     refine Zn ?_
     refine Zt ?_
     refine VL.mt true [3, 4, 38] (fun _ _ h => h) hS rfl
    replace hS := it_f h25 hS
    refine Zg ?_
    refine Zg ?_
    obtain ⟨z28_7, nz28_7, hz28_7, hS⟩ := at_s hS
    refine VL.gy rfl rfl (q_ixo (s := q10_1_0) Tryz.underlying32 gsz9 rfl rfl nz28_7 (lt_of_get nz28_7 hz28_7)) (by decide) ?_
    refine VL.gy rfl rfl (q_elo (s := q10_1_0) 9 gone9 rfl hz28_7 rfl) (by decide) ?_
    refine VL.gy rfl rfl (q_seq rfl rfl) (by decide) ?_
    refine Zf ?_
    refine Zm ?_
    refine VL.split_dec 32 rfl (fun h32 => ?_) (fun h32 => ?_)
    ·
     replace hS := it_t h32 hS
     refine Zn ?_
     refine Zn ?_
     refine Zn ?_
     refine Zn ?_
     refine Zn ?_
     refine Zt ?_
     refine VL.mt true [3, 4, 38] (fun _ _ h => h) hS rfl
    replace hS := it_f h32 hS
    refine Zg ?_
    refine Zg ?_
    obtain ⟨z35_8, nz35_8, hz35_8, hS⟩ := at_s hS
    refine VL.gy rfl rfl (q_ixo (s := q10_1_0) Tryz.underlying32 gsz9 rfl rfl nz35_8 (lt_of_get nz35_8 hz35_8)) (by decide) ?_
    refine VL.gy rfl rfl (q_elo (s := q10_1_0) 9 gone9 rfl hz35_8 rfl) (by decide) ?_
    refine VL.gy rfl rfl (q_seq rfl rfl) (by decide) ?_
    refine Zf ?_
    refine VL.mt (decide (z35_8 = [46, 46])) [3, 4, 38] (fun _ _ h => h) hS rfl
   clear hS
   rintro x38_4 hS
   show VC _ _ _ _ _ [(3, q10_1_0.val), (4, i64 i4_2), (38, .bool x38_4)] (Mo.and Mo.tt _) (Ow.star (Sv.own q10_1_0 9) (Ow.emp))
   refine VC.cond rfl (fun h38 => ?_) (fun h38 => ?_)
   ·
    replace hS := it_t h38 hS
    refine Zq (Zr ?_)
    refine Za ?_
    refine Zl ?_
    replace hS := up2 hS hK1
    cases hS
    exact Ze
   replace hS := it_b h38 hS
   refine Zk ?_
   refine Zq (Zr ?_)
   refine Za ?_
   refine Zl ?_
   refine Zb ?_
   refine VC.iter (S := Int) (fun (k5_9 : Int) => k5_9) (fun (k5_9 : Int) => [(3, q10_1_0.val), (4, i64 i4_2), (5, i64 k5_9)]) (fun (k5_9 : Int) => Mo.tt) (fun (k5_9 : Int) => Ow.star (Sv.own q10_1_0 9) (Ow.emp)) 0 [3, 4, 5] hS rfl ?_
   clear hS
   rintro k5_9 m2 y2 hS hK2
   show VC _ _ _ _ _ [(3, q10_1_0.val), (4, i64 i4_2), (5, i64 k5_9)] (Mo.and Mo.tt _) (Ow.star (Sv.own q10_1_0 9) (Ow.emp))
   refine Zq (Zq (Zr ?_))
   refine Zm ?_
   refine Zm ?_
   refine Zm ?_
   obtain ⟨z42_10, nz42_10, hz42_10, hS⟩ := at_s hS
   refine VL.q (q_ixo (s := q10_1_0) Tryz.underlying32 gsz9 rfl rfl nz42_10 (lt_of_get nz42_10 hz42_10)) (by decide) ?_
   refine VL.q (q_elo (s := q10_1_0) 9 gone9 rfl hz42_10 rfl) (by decide) ?_
   refine VL.q (q_slen Tryz.underlying9 rfl) (by decide) ?_
   refine VL.q (q_lss rfl rfl) (by decide) ?_
   refine Zl ?_
   refine VC.cond_dec rfl (fun h45 => ?_) (fun h45 => ?_)
   ·
    replace hS := it_t h45 hS
    refine Zk ?_
    refine Zq (Zb (Zq (Zr ?_)))
    refine Zm ?_
    refine Zm ?_
    obtain ⟨z50_11, nz50_11, hz50_11, hS⟩ := at_s hS
    refine VL.q (q_ixo (s := q10_1_0) Tryz.underlying32 gsz9 rfl rfl nz50_11 (lt_of_get nz50_11 hz50_11)) (by decide) ?_
    refine VL.q (q_elo (s := q10_1_0) 9 gone9 rfl hz50_11 rfl) (by decide) ?_
    refine Zm ?_
    obtain ⟨z53_12, nz53_12, hz53_12, hS⟩ := at_s hS
    refine VL.q (q_sidx Tryz.underlying9 rfl rfl nz53_12 hz53_12) (by decide) ?_
    obtain ⟨y54_13, ey54_13, hS⟩ := bd_s hS
    refine VL.q (q_call (rectoref1_good_ct (z53_12.toNat : Int) ey54_13) rfl (fun _ _ => rfl)) (by decide) ?_
    refine VL.q (q_not rfl) (by decide) ?_
    refine Zl ?_
    refine VC.keep [3, 4, 5, 55] rfl ?_
    refine VC.cond rfl (fun h55 => ?_) (fun h55 => ?_)
    ·
     replace hS := it_t h55 hS
     refine Zq (Zr ?_)
     refine Za ?_
     refine Zl ?_
     replace hS := up2 hS hK2
     replace hS := up2 hS hK1
     cases hS
     exact Ze
    replace hS := it_b h55 hS
    refine Zk ?_
    refine Zr ?_
    refine Zm ?_
    obtain ⟨b47, hS⟩ := gd_s hS
    refine VL.q (q_add rfl rfl b47) (by decide) ?_
    refine Za ?_
    refine VL.rnd (k5_9 + 1) [3, 4, 5] (fun _ _ h => h) (go2 hS hK2) rfl
   replace hS := it_f h45 hS
   replace hS := up2 hS hK2
   refine VC.exit_mt () [3, 4] (fun _ _ h => h) hS rfl
  clear hS
  rintro _ hS
  show VC _ _ _ _ _ [(3, q10_1_0.val), (4, i64 i4_2)] (Mo.and Mo.tt _) (Ow.star (Sv.own q10_1_0 9) (Ow.emp))
  refine Zr ?_
  refine Zm ?_
  obtain ⟨b19, hS⟩ := gd_s hS
  refine VL.q (q_add rfl rfl b19) (by decide) ?_
  refine Za ?_
  refine VL.rnd (i4_2 + 1) [3, 4] (fun _ _ h => h) (go2 hS hK1) rfl
 replace hS := it_f h17 hS
 replace hS := up2 hS hK1
 refine Zx ?_
 refine Zq (Zr ?_)
 refine Za ?_
 refine Zl ?_
 cases hS
 exact Ze
theorem rectoref14_Mode_ct (m_0 : Int) {r : Bool} (hS : Sh.rectoref14_Mode m_0 = some r) :
 Ct Tryz.prog 254 [i64 m_0] Mo.tt (Ow.emp) (X := Unit) (fun _ => .bool r) (fun _ => True) (fun _ => Mo.tt) (fun _ => Ow.emp) := by
 refine Ct.of Tryz.func254 rfl (by kernel_rfl) Tryz.ntmps254 (by simp) fun c => ?_
 unfold Sh.rectoref14_Mode at hS
 refine Zq (Zr ?_)
 refine Za ?_
 refine Zl ?_
 refine Zq (Zr ?_)
 refine Zm ?_
 refine VL.q (q_eql rfl rfl) (by decide) ?_
 refine Zm ?_
 refine VL.split_dec 5 rfl (fun h5 => ?_) (fun h5 => ?_)
 ·
  replace hS := it_t h5 hS
  refine Zn ?_
  refine Zn ?_
  refine Zt ?_
  refine Za ?_
  refine Zl ?_
  cases hS
  exact Ze
 replace hS := it_f h5 hS
 refine Zg ?_
 refine VL.gy rfl rfl (q_eql rfl rfl) (by decide) ?_
 refine Zf ?_
 refine Za ?_
 refine Zl ?_
 cases hS
 exact Ze
theorem rectoref14_Cause_ct (f_0 : Rectoref14File) {r : Int} (hS : Sh.rectoref14_Cause f_0 = some r) :
 Ct Tryz.prog 183 [.agg #[str f_0.path, i64 f_0.mode, str f_0.data]] Mo.tt (Ow.emp) (X := Unit) (fun _ => i64 r) (fun _ => True) (fun _ => Mo.tt) (fun _ => Ow.emp) := by
 refine Ct.of Tryz.func183 rfl (by kernel_rfl) Tryz.ntmps183 (by simp) fun c => ?_
 unfold Sh.rectoref14_Cause at hS
 refine Zq (Zr ?_)
 refine VL.box (cs := [str f_0.path, i64 f_0.mode, str f_0.data]) rfl rfl (by decide) fun b1_1 => ?_
 refine Za ?_
 refine Zl ?_
 refine Zq (Zr ?_)
 refine VL.q (q_field gfa133_0 rfl) (by decide) ?_
 refine VL.q (q_fe gone9 rfl rfl) (by decide) ?_
 obtain ⟨y6_2, ey6_2, hS⟩ := bd_s hS
 refine VL.q (q_call (rectoref1_Check_ct f_0.path ey6_2) rfl (fun _ _ => rfl)) (by decide) ?_
 refine Za ?_
 refine Zl ?_
 refine Zq (Zb (Zq (Zr ?_)))
 refine Zm ?_
 refine VL.q (q_neq rfl rfl) (by decide) ?_
 refine Za ?_
 refine Zl ?_
 refine VC.cond_ndec rfl (fun h7 => ?_) (fun h7 => ?_)
 ·
  replace hS := it_f h7 hS
  refine Zq (Zr ?_)
  refine Zm ?_
  refine Za ?_
  refine Zl ?_
  refine VC.keep [2] rfl ?_
  cases hS
  exact Ze
 replace hS := it_t h7 hS
 refine Zq (Zr ?_)
 refine VL.q (q_field gfa133_1 rfl) (by decide) ?_
 refine VL.q (q_fe gone3 rfl rfl) (by decide) ?_
 obtain ⟨y14_3, ey14_3, hS⟩ := bd_s hS
 refine VL.q (q_call (rectoref14_Mode_ct f_0.mode ey14_3) rfl (fun _ _ => rfl)) (by decide) ?_
 refine VL.q (q_not rfl) (by decide) ?_
 refine Za ?_
 refine Zl ?_
 refine VC.keep [1, 11] rfl ?_
 refine VC.cond rfl (fun h11 => ?_) (fun h11 => ?_)
 ·
  replace hS := it_t h11 hS
  refine Zq (Zr ?_)
  refine Za ?_
  refine Zl ?_
  cases hS
  exact Ze
 replace hS := it_b h11 hS
 refine Zq (Zr ?_)
 refine VL.q (q_field gfa133_2 rfl) (by decide) ?_
 refine VL.q (q_fe gone9 rfl rfl) (by decide) ?_
 refine VL.q (q_slen Tryz.underlying9 rfl) (by decide) ?_
 refine VL.q (q_gtr rfl rfl) (by decide) ?_
 refine Za ?_
 refine Zl ?_
 refine VC.cond_dec rfl (fun h16 => ?_) (fun h16 => ?_)
 ·
  replace hS := it_t h16 hS
  refine Zq (Zr ?_)
  refine Za ?_
  refine Zl ?_
  cases hS
  exact Ze
 replace hS := it_f h16 hS
 refine Zk ?_
 refine Zq (Zr ?_)
 refine Za ?_
 refine Zl ?_
 cases hS
 exact Ze
theorem rectoref1_Under_ct (p_0 : Str) (dir_1 : Str) {r : Bool} (hS : Sh.rectoref1_Under p_0 dir_1 = some r) :
 Ct Tryz.prog 185 [str p_0, str dir_1] Mo.tt (Ow.emp) (X := Unit) (fun _ => .bool r) (fun _ => True) (fun _ => Mo.tt) (fun _ => Ow.emp) := by
 refine Ct.of Tryz.func185 rfl (by kernel_rfl) Tryz.ntmps185 (by simp) fun c => ?_
 unfold Sh.rectoref1_Under at hS
 refine Zq (Zr ?_)
 refine Za ?_
 refine Zl ?_
 refine Zq (Zq (Zr ?_))
 refine Zm ?_
 refine Zs ?_
 refine Zl ?_
 refine VC.cond_dec rfl (fun h6 => ?_) (fun h6 => ?_)
 ·
  replace hS := it_t h6 hS
  refine Zq (Zr ?_)
  refine Zm ?_
  refine VL.q (q_sne rfl rfl) (by decide) ?_
  refine Za ?_
  refine Zl ?_
  cases hS
  exact Ze
 replace hS := it_f h6 hS
 refine Zk ?_
 refine Zq (Zr ?_)
 refine Zm ?_
 refine VL.q (q_slen Tryz.underlying9 rfl) (by decide) ?_
 refine Zm ?_
 refine VL.q (q_slen Tryz.underlying9 rfl) (by decide) ?_
 obtain ⟨b13, hS⟩ := gd_s hS
 refine VL.q (q_add rfl rfl b13) (by decide) ?_
 refine VL.q (q_gtr rfl rfl) (by decide) ?_
 refine Zm ?_
 refine VL.split_dec 15 rfl (fun h15 => ?_) (fun h15 => ?_)
 ·
  replace hS := it_t h15 hS
  refine Zg ?_
  refine Zg ?_
  refine VL.gy rfl rfl (q_slen Tryz.underlying9 rfl) (by decide) ?_
  obtain ⟨b19, hS⟩ := gd_s hS
  obtain ⟨y19_1, ey19_1, hS⟩ := lt_s hS
  refine VL.gy rfl rfl (q_stoE Tryz.underlying9 rfl rfl b19.1 b19.2 ey19_1) (by decide) ?_
  refine Zg ?_
  refine VL.gy rfl rfl (q_seq rfl rfl) (by decide) ?_
  refine Zt ?_
  refine Zm ?_
  refine VL.split_dec 23 rfl (fun h23 => ?_) (fun h23 => ?_)
  ·
   replace hS := it_t h23 hS
   refine Zg ?_
   refine Zg ?_
   refine VL.gy rfl rfl (q_slen Tryz.underlying9 rfl) (by decide) ?_
   obtain ⟨z27_2, nz27_2, hz27_2, hS⟩ := at_s hS
   refine VL.gy rfl rfl (q_sidx Tryz.underlying9 rfl rfl nz27_2 hz27_2) (by decide) ?_
   refine VL.gy rfl rfl (q_eql rfl rfl) (by decide) ?_
   refine Zt ?_
   refine Za ?_
   refine Zl ?_
   refine VC.keep [4] rfl ?_
   cases hS
   exact Ze
  replace hS := it_f h23 hS
  refine Zn ?_
  refine Zn ?_
  refine Zn ?_
  refine Zn ?_
  refine Zn ?_
  refine Zf ?_
  refine Za ?_
  refine Zl ?_
  refine VC.keep [4] rfl ?_
  cases hS
  exact Ze
 replace hS := it_f h15 hS
 refine Zn ?_
 refine Zn ?_
 refine Zn ?_
 refine Zn ?_
 refine Zn ?_
 refine Zn ?_
 refine Zf ?_
 refine Zm ?_
 refine Zn ?_
 refine Zn ?_
 refine Zn ?_
 refine Zn ?_
 refine Zn ?_
 refine Zf ?_
 refine Za ?_
 refine Zl ?_
 refine VC.keep [4] rfl ?_
 cases hS
 exact Ze
theorem rectoref1_Clash_ct (a_0 : Str) (b_1 : Str) {r : Bool} (hS : Sh.rectoref1_Clash a_0 b_1 = some r) :
 Ct Tryz.prog 103 [str a_0, str b_1] Mo.tt (Ow.emp) (X := Unit) (fun _ => .bool r) (fun _ => True) (fun _ => Mo.tt) (fun _ => Ow.emp) := by
 refine Ct.of Tryz.func103 rfl (by kernel_rfl) Tryz.ntmps103 (by simp) fun c => ?_
 unfold Sh.rectoref1_Clash at hS
 refine Zq (Zr ?_)
 refine Za ?_
 refine Zl ?_
 refine Zq (Zr ?_)
 refine Zm ?_
 refine VL.q (q_sne rfl rfl) (by decide) ?_
 refine Zm ?_
 refine VL.split_ndec 7 rfl (fun h7 => ?_) (fun h7 => ?_)
 ·
  replace hS := it_f h7 hS
  refine Zg ?_
  refine VL.gy rfl rfl (q_sne rfl rfl) (by decide) ?_
  refine Zt ?_
  refine Zm ?_
  refine VL.split_ndec 11 rfl (fun h11 => ?_) (fun h11 => ?_)
  ·
   replace hS := it_f h11 hS
   refine Zg ?_
   refine Zg ?_
   obtain ⟨y14_1, ey14_1, hS⟩ := bd_s hS
   refine VL.gy rfl rfl (q_call (rectoref1_Under_ct a_0 b_1 ey14_1) rfl (fun _ _ => rfl)) (by decide) ?_
   refine Zg ?_
   refine VL.split 15 rfl (fun h15 => ?_) (fun h15 => ?_)
   ·
    replace hS := it_t h15 hS
    refine Zn ?_
    refine Zn ?_
    refine Zn ?_
    refine VL.gy rfl rfl (q_pick_t rfl rfl) (by decide) ?_
    refine Zt ?_
    refine Za ?_
    refine Zl ?_
    refine VC.keep [4] rfl ?_
    cases hS
    exact Ze
   replace hS := it_b h15 hS
   refine Zg ?_
   refine Zg ?_
   obtain ⟨y18_2, ey18_2, hS⟩ := bd_s hS
   refine VL.gy rfl rfl (q_call (rectoref1_Under_ct b_1 a_0 ey18_2) rfl (fun _ _ => rfl)) (by decide) ?_
   refine VL.gy rfl rfl (q_pick_f rfl rfl) (by decide) ?_
   refine Zt ?_
   refine Za ?_
   refine Zl ?_
   refine VC.keep [4] rfl ?_
   cases hS
   exact Ze
  replace hS := it_t h11 hS
  refine Zn ?_
  refine Zn ?_
  refine Zn ?_
  refine Zn ?_
  refine VL.gu rfl rfl (by decide) ?_
  refine VL.gu rfl rfl (by decide) ?_
  refine VL.gu rfl rfl (by decide) ?_
  refine Zn ?_
  refine Zf ?_
  refine Za ?_
  refine Zl ?_
  refine VC.keep [4] rfl ?_
  cases hS
  exact Ze
 replace hS := it_t h7 hS
 refine Zn ?_
 refine Zn ?_
 refine Zf ?_
 refine Zm ?_
 refine Zn ?_
 refine Zn ?_
 refine Zn ?_
 refine Zn ?_
 refine VL.gu rfl rfl (by decide) ?_
 refine VL.gu rfl rfl (by decide) ?_
 refine VL.gu rfl rfl (by decide) ?_
 refine Zn ?_
 refine Zf ?_
 refine Za ?_
 refine Zl ?_
 refine VC.keep [4] rfl ?_
 cases hS
 exact Ze
theorem rectoref14_Check_ct (r_0 : Sv Rectoref14File) {r : Rectoref3WrongP} (hS : Sh.rectoref14_Check r_0.l = some r) :
 Ct Tryz.prog 100 [r_0.val] r_0.ok (Ow.emp) (X := Rectoref3Wrong) (fun x => .agg (Dat.enc x).toArray) (fun x => r = x.pl) (fun x => x.m) (fun x => Ow.emp) := by
 refine Ct.of Tryz.func100 rfl (by kernel_rfl) Tryz.ntmps100 (by simp) fun c => ?_
 unfold Sh.rectoref14_Check at hS
 refine Zq (Zr ?_)
 refine VL.alloc (cs := [.slice none 0 0, i64 0]) (by kernel_rfl) (by decide) fun b2_1 => ?_
 refine Zl ?_
 refine Zq (Zq (Zr ?_))
 refine Zm ?_
 refine VL.q (q_ln (s := r_0) Tryz.underlying45 rfl) (by decide) ?_
 refine VL.q (q_gtr rfl rfl) (by decide) ?_
 refine Zl ?_
 refine VC.cond_dec rfl (fun h8 => ?_) (fun h8 => ?_)
 ·
  replace hS := it_t h8 hS
  refine Zq (Zr ?_)
  obtain ⟨y9_2, ey9_2, hS⟩ := bd_s hS
  refine VL.callF (rectoref3_At_ct [102, 105, 108, 101] 64 4 ey9_2) rfl (by decide) ?_
  rintro q9_2_0 rfl
  try dsimp only
  refine VL.store (vc := [q9_2_0.parts.val, i64 q9_2_0.err]) (cs' := [q9_2_0.parts.val, i64 q9_2_0.err]) rfl rfl rfl gsz77 rfl rfl (Nat.le_of_ble_eq_true rfl) rfl ?_
  refine Zl ?_
  cases hS
  exact VC.ret (finG (vs := [.agg #[q9_2_0.parts.val, i64 q9_2_0.err]]) (.inr rfl) rfl (RVs.cell gagg77 rfl rfl Rd.blk (RVs.nil)) ⟨q9_2_0.parts, q9_2_0.err⟩ rfl rfl (by (try dsimp only); exact InM.out) (fun _ _ => trivial))
 replace hS := it_f h8 hS
 refine Zk ?_
 refine Zq (Zq (Zr ?_))
 refine Za ?_
 refine Zl ?_
 refine Zb ?_
 refine VC.iter (S := Int) (fun (i3_3 : Int) => i3_3) (fun (i3_3 : Int) => [(0, r_0.val), (2, ptr b2_1 0), (3, i64 i3_3)]) (fun (i3_3 : Int) => Mo.tt) (fun (i3_3 : Int) => Ow.star (Blk b2_1 [.slice none 0 0, i64 0] 77) (Ow.emp)) 0 [0, 2, 3] hS rfl ?_
 clear hS
 rintro i3_3 m1 y1 hS hK1
 show VC _ _ _ _ _ [(0, r_0.val), (2, ptr b2_1 0), (3, i64 i3_3)] (Mo.and Mo.tt _) (Ow.star (Blk b2_1 [.slice none 0 0, i64 0] 77) (Ow.emp))
 refine Zq (Zq (Zr ?_))
 refine Zm ?_
 refine Zm ?_
 refine VL.q (q_ln (s := r_0) Tryz.underlying45 rfl) (by decide) ?_
 refine VL.q (q_lss rfl rfl) (by decide) ?_
 refine Zl ?_
 refine VC.cond_dec rfl (fun h13 => ?_) (fun h13 => ?_)
 ·
  replace hS := it_t h13 hS
  refine Zk ?_
  refine Zq (Zb (Zq (Zr ?_)))
  refine Zm ?_
  refine Zm ?_
  obtain ⟨z18_4, nz18_4, hz18_4, hS⟩ := at_s hS
  refine VL.q (q_ixm (s := r_0) Tryz.underlying45 gsz133 rfl rfl nz18_4 (lt_of_get nz18_4 hz18_4)) (by decide) ?_
  refine VL.q (q_els (s := r_0) gagg133 rfl rfl hz18_4) (by decide) ?_
  obtain ⟨y20_5, ey20_5, hS⟩ := bd_s hS
  refine VL.q (q_call (rectoref14_Cause_ct (⟨z18_4.path, z18_4.mode, z18_4.data⟩ : Rectoref14File) ey20_5) rfl (fun _ _ => rfl)) (by decide) ?_
  refine Za ?_
  refine Zl ?_
  refine VC.keep [0, 2, 3, 4] rfl ?_
  refine VC.cutJ (S := Int) (fun (e4_6 : Int) => e4_6) (fun (e4_6 : Int) => [(0, r_0.val), (2, ptr b2_1 0), (3, i64 i3_3), (4, i64 e4_6)]) (fun (e4_6 : Int) => Mo.tt) (fun (e4_6 : Int) => Ow.star (Blk b2_1 [.slice none 0 0, i64 0] 77) (Ow.emp)) hS ?_ ?_
  ·
   clear hS
   intro k7 hS
   refine VC.cutJ (S := Bool) (fun (x40_8 : Bool) => x40_8) (fun (x40_8 : Bool) => [(0, r_0.val), (2, ptr b2_1 0), (3, i64 i3_3), (4, i64 y20_5), (40, .bool x40_8)]) (fun (x40_8 : Bool) => Mo.tt) (fun (x40_8 : Bool) => Ow.star (Blk b2_1 [.slice none 0 0, i64 0] 77) (Ow.emp)) hS ?_ ?_
   ·
    clear hS
    intro k9 hS
    refine VC.draw ((List.range 20).map fun k => (k, true)) mixed (by kernel_rfl) (by kernel_rfl) (by kernel_rfl) ?_
    refine VD.q rfl (q_move rfl) (by decide) ?_
    refine VD.q rfl (q_eql rfl rfl) (by decide) ?_
    refine VD.q rfl (q_move rfl) (by decide) ?_
    refine VD.split_dec 23 rfl (fun h23 => ?_) (fun h23 => ?_)
    ·
     replace hS := it_t h23 hS
     refine VD.gy rfl rfl rfl (q_move rfl) (by decide) ?_
     refine VD.gy rfl rfl rfl (q_gtr rfl rfl) (by decide) ?_
     refine VD.q rfl (q_pick_t rfl rfl) (by decide) ?_
     refine VD.q rfl (q_move rfl) (by decide) ?_
     refine VD.split_dec 27 rfl (fun h27 => ?_) (fun h27 => ?_)
     ·
      replace hS := it_t h27 hS
      refine VD.gy rfl rfl rfl (q_move rfl) (by decide) ?_
      refine VD.gy rfl rfl rfl (q_move rfl) (by decide) ?_
      obtain ⟨b30, hS⟩ := gd_s hS
      refine VD.gy rfl rfl rfl (q_sub rfl rfl b30) (by decide) ?_
      obtain ⟨z31_10, nz31_10, hz31_10, hS⟩ := at_s hS
      refine VD.gy rfl rfl rfl (q_ixm (s := r_0) Tryz.underlying45 gsz133 rfl rfl nz31_10 (lt_of_get nz31_10 hz31_10)) (by decide) ?_
      refine VD.gy rfl rfl rfl (q_field gfa133_0 rfl) (by decide) ?_
      refine VD.gy rfl rfl rfl (q_elf (s := r_0) gone9 rfl hz31_10 rfl) (by decide) ?_
      refine VD.gy rfl rfl rfl (q_move rfl) (by decide) ?_
      refine VD.gy rfl rfl rfl (q_move rfl) (by decide) ?_
      obtain ⟨z36_11, nz36_11, hz36_11, hS⟩ := at_s hS
      refine VD.gy rfl rfl rfl (q_ixm (s := r_0) Tryz.underlying45 gsz133 rfl rfl nz36_11 (lt_of_get nz36_11 hz36_11)) (by decide) ?_
      refine VD.gy rfl rfl rfl (q_field gfa133_0 rfl) (by decide) ?_
      refine VD.gy rfl rfl rfl (q_elf (s := r_0) gone9 rfl hz36_11 rfl) (by decide) ?_
      refine VD.gy rfl rfl rfl (q_sgeq rfl rfl) (by decide) ?_
      refine VD.q rfl (q_pick_t rfl rfl) (by decide) ?_
      refine VD.mt (!Op.bytesLess z31_10.path z36_11.path) [0, 2, 3, 4, 40] (fun _ _ h => h) hS rfl
     replace hS := it_f h27 hS
     refine Zd ?_
     refine Zd ?_
     refine Zd ?_
     refine Zd ?_
     refine Zd ?_
     refine Zd ?_
     refine Zd ?_
     refine Zd ?_
     refine Zd ?_
     refine Zd ?_
     refine Zd ?_
     refine Zd ?_
     refine VD.q rfl (q_pick_f rfl rfl) (by decide) ?_
     refine VD.mt false [0, 2, 3, 4, 40] (fun _ _ h => h) hS rfl
    replace hS := it_f h23 hS
    refine Zd ?_
    refine Zd ?_
    refine VD.q rfl (q_pick_f rfl rfl) (by decide) ?_
    refine VD.q rfl (q_move rfl) (by decide) ?_
    refine Zd ?_
    refine Zd ?_
    refine Zd ?_
    refine Zd ?_
    refine Zd ?_
    refine Zd ?_
    refine Zd ?_
    refine Zd ?_
    refine Zd ?_
    refine Zd ?_
    refine Zd ?_
    refine Zd ?_
    refine VD.q rfl (q_pick_f rfl rfl) (by decide) ?_
    refine VD.mt false [0, 2, 3, 4, 40] (fun _ _ h => h) hS rfl
   clear hS
   rintro x40_8 hS
   show VC _ _ _ _ _ [(0, r_0.val), (2, ptr b2_1 0), (3, i64 i3_3), (4, i64 y20_5), (40, .bool x40_8)] (Mo.and Mo.tt _) (Ow.star (Blk b2_1 [.slice none 0 0, i64 0] 77) (Ow.emp))
   refine VC.cond rfl (fun h40 => ?_) (fun h40 => ?_)
   ·
    replace hS := it_t h40 hS
    refine Zr ?_
    refine Za ?_
    refine VL.mt 6 [0, 2, 3, 4] (fun _ _ h => h) hS rfl
   replace hS := it_b h40 hS
   refine VC.skip_mt y20_5 [0, 2, 3, 4] (fun _ _ h => h) hS rfl
  clear hS
  rintro e4_6 hS
  show VC _ _ _ _ _ [(0, r_0.val), (2, ptr b2_1 0), (3, i64 i3_3), (4, i64 e4_6)] (Mo.and Mo.tt _) (Ow.star (Blk b2_1 [.slice none 0 0, i64 0] 77) (Ow.emp))
  refine VC.cutJ (S := Int) (fun (e4_12 : Int) => e4_12) (fun (e4_12 : Int) => [(0, r_0.val), (2, ptr b2_1 0), (3, i64 i3_3), (4, i64 e4_12)]) (fun (e4_12 : Int) => Mo.tt) (fun (e4_12 : Int) => Ow.star (Blk b2_1 [.slice none 0 0, i64 0] 77) (Ow.emp)) hS ?_ ?_
  ·
   clear hS
   intro k13 hS
   refine Zq (Zr ?_)
   refine Za ?_
   refine Zl ?_
   refine Zb ?_
   refine VC.iter (S := Int × Int) (fun sg => (sg.1, sg.2)) (fun sg => [(0, r_0.val), (2, ptr b2_1 0), (3, i64 i3_3), (4, i64 sg.1), (5, i64 sg.2)]) (fun sg => Mo.tt) (fun sg => Ow.star (Blk b2_1 [.slice none 0 0, i64 0] 77) (Ow.emp)) (e4_6, 0) [0, 2, 3, 4, 5] hS rfl ?_
   clear hS
   rintro ⟨e4_14, k5_15⟩ m2 y2 hS hK2
   show VC _ _ _ _ _ [(0, r_0.val), (2, ptr b2_1 0), (3, i64 i3_3), (4, i64 e4_14), (5, i64 k5_15)] (Mo.and Mo.tt _) (Ow.star (Blk b2_1 [.slice none 0 0, i64 0] 77) (Ow.emp))
   refine Zq (Zq (Zr ?_))
   refine Zm ?_
   refine Zm ?_
   refine VL.q (q_lss rfl rfl) (by decide) ?_
   refine Zm ?_
   refine VL.split_dec 44 rfl (fun h44 => ?_) (fun h44 => ?_)
   ·
    replace hS := it_t h44 hS
    refine Zg ?_
    refine VL.gy rfl rfl (q_eql rfl rfl) (by decide) ?_
    refine Zt ?_
    refine Zl ?_
    refine VC.cond_dec rfl (fun h47 => ?_) (fun h47 => ?_)
    ·
     replace hS := it_t h47 hS
     refine Zk ?_
     refine VC.keep [0, 2, 3, 4, 5] rfl ?_
     refine VC.cutJ (S := Int) (fun (e4_16 : Int) => e4_16) (fun (e4_16 : Int) => [(0, r_0.val), (2, ptr b2_1 0), (3, i64 i3_3), (4, i64 e4_16), (5, i64 k5_15)]) (fun (e4_16 : Int) => Mo.tt) (fun (e4_16 : Int) => Ow.star (Blk b2_1 [.slice none 0 0, i64 0] 77) (Ow.emp)) hS ?_ ?_
     ·
      clear hS
      intro k17 hS
      refine Zb (Zq ?_)
      refine VC.draw ((List.range 11).map fun k => (k, true)) mixed (by kernel_rfl) (by kernel_rfl) (by kernel_rfl) ?_
      refine VD.q rfl (q_move rfl) (by decide) ?_
      refine VD.q rfl (q_move rfl) (by decide) ?_
      obtain ⟨z52_18, nz52_18, hz52_18, hS⟩ := at_s hS
      refine VD.q rfl (q_ixm (s := r_0) Tryz.underlying45 gsz133 rfl rfl nz52_18 (lt_of_get nz52_18 hz52_18)) (by decide) ?_
      refine VD.q rfl (q_field gfa133_0 rfl) (by decide) ?_
      refine VD.q rfl (q_elf (s := r_0) gone9 rfl hz52_18 rfl) (by decide) ?_
      refine VD.q rfl (q_move rfl) (by decide) ?_
      refine VD.q rfl (q_move rfl) (by decide) ?_
      obtain ⟨z57_19, nz57_19, hz57_19, hS⟩ := at_s hS
      refine VD.q rfl (q_ixm (s := r_0) Tryz.underlying45 gsz133 rfl rfl nz57_19 (lt_of_get nz57_19 hz57_19)) (by decide) ?_
      refine VD.q rfl (q_field gfa133_0 rfl) (by decide) ?_
      refine VD.q rfl (q_elf (s := r_0) gone9 rfl hz57_19 rfl) (by decide) ?_
      obtain ⟨y60_20, ey60_20, hS⟩ := bd_s hS
      refine VD.q rfl (q_call (rectoref1_Clash_ct z52_18.path z57_19.path ey60_20) rfl (fun _ _ => rfl)) (by decide) ?_
      refine VD.to (fun _ _ h => h) ?_
      refine VC.keep [0, 2, 3, 4, 5, 60] rfl ?_
      refine VC.cond rfl (fun h60 => ?_) (fun h60 => ?_)
      ·
       replace hS := it_t h60 hS
       refine Zr ?_
       refine Za ?_
       refine VL.mt 11 [0, 2, 3, 4, 5] (fun _ _ h => h) hS rfl
      replace hS := it_b h60 hS
      refine VC.skip_mt e4_14 [0, 2, 3, 4, 5] (fun _ _ h => h) hS rfl
     clear hS
     rintro e4_16 hS
     show VC _ _ _ _ _ [(0, r_0.val), (2, ptr b2_1 0), (3, i64 i3_3), (4, i64 e4_16), (5, i64 k5_15)] (Mo.and Mo.tt _) (Ow.star (Blk b2_1 [.slice none 0 0, i64 0] 77) (Ow.emp))
     refine Zr ?_
     refine Zm ?_
     obtain ⟨b49, hS⟩ := gd_s hS
     refine VL.q (q_add rfl rfl b49) (by decide) ?_
     refine Za ?_
     refine VL.rnd (e4_16, (k5_15 + 1)) [0, 2, 3, 4, 5] (fun _ _ h => h) (go2 hS hK2) rfl
    replace hS := it_f h47 hS
    replace hS := up2 hS hK2
    refine VC.exit_mt e4_14 [0, 2, 3, 4] (fun _ _ h => h) hS rfl
   replace hS := it_f h44 hS
   refine Zn ?_
   refine Zn ?_
   refine Zf ?_
   refine Zl ?_
   refine VC.cond_f rfl ?_
   replace hS := up2 hS hK2
   refine VC.exit_mt e4_14 [0, 2, 3, 4] (fun _ _ h => h) hS rfl
  clear hS
  rintro e4_12 hS
  show VC _ _ _ _ _ [(0, r_0.val), (2, ptr b2_1 0), (3, i64 i3_3), (4, i64 e4_12)] (Mo.and Mo.tt _) (Ow.star (Blk b2_1 [.slice none 0 0, i64 0] 77) (Ow.emp))
  refine Zq (Zr ?_)
  refine Zm ?_
  refine VL.q (q_neq rfl rfl) (by decide) ?_
  refine Zl ?_
  refine VC.cond_ndec rfl (fun h62 => ?_) (fun h62 => ?_)
  ·
   replace hS := it_f h62 hS
   refine Zq (Zr ?_)
   refine Zm ?_
   refine Zm ?_
   obtain ⟨y65_21, ey65_21, hS⟩ := bd_s hS
   refine VL.callF (rectoref3_At_ct [102, 105, 108, 101] i3_3 e4_12 ey65_21) rfl (by decide) ?_
   rintro q65_21_0 rfl
   try dsimp only
   refine VL.store (vc := [q65_21_0.parts.val, i64 q65_21_0.err]) (cs' := [q65_21_0.parts.val, i64 q65_21_0.err]) rfl rfl rfl gsz77 rfl rfl (Nat.le_of_ble_eq_true rfl) rfl ?_
   refine Zl ?_
   replace hS := up2 hS hK1
   cases hS
   exact VC.ret (finG (vs := [.agg #[q65_21_0.parts.val, i64 q65_21_0.err]]) (.inr rfl) rfl (RVs.cell gagg77 rfl rfl Rd.blk (RVs.nil)) ⟨q65_21_0.parts, q65_21_0.err⟩ rfl rfl (by (try dsimp only); exact InM.out) (fun _ _ => trivial))
  replace hS := it_t h62 hS
  refine Zk ?_
  refine Zr ?_
  refine Zm ?_
  obtain ⟨b15, hS⟩ := gd_s hS
  refine VL.q (q_add rfl rfl b15) (by decide) ?_
  refine Za ?_
  refine VL.rnd (i3_3 + 1) [0, 2, 3] (fun _ _ h => h) (go2 hS hK1) rfl
 replace hS := it_f h13 hS
 replace hS := up2 hS hK1
 refine Zx ?_
 refine Zq (Zr ?_)
 refine VL.q (q_build (vs := []) (cs := #[.slice none 0 0, i64 0]) rfl (by kernel_rfl)) (by decide) ?_
 refine VL.store (vc := [.slice none 0 0, i64 0]) (cs' := [.slice none 0 0, i64 0]) rfl rfl rfl gsz77 rfl rfl (Nat.le_of_ble_eq_true rfl) rfl ?_
 refine Zl ?_
 cases hS
 exact VC.ret (finG (vs := [.agg #[.slice none 0 0, i64 0]]) (.inr rfl) rfl (RVs.cell gagg77 rfl rfl Rd.blk (RVs.nil)) ⟨⟨none, 0, []⟩, 0⟩ rfl rfl (by (try dsimp only); exact InM.out) (fun _ _ => trivial))
theorem rectoref11_Split_ct (s_0 : Str) {r : List Str} (hS : Sh.rectoref11_Split s_0 = some r) :
 Ct Tryz.prog 304 [str s_0] Mo.tt (Ow.emp) (X := Sv Str) (fun x => x.val) (fun x => r = x.l) (fun x => Mo.tt) (fun x => Sv.own x 9) := by
 refine Ct.of Tryz.func304 rfl (by kernel_rfl) Tryz.ntmps304 (by simp) fun c => ?_
 unfold Sh.rectoref11_Split at hS
 refine Zq (Zr ?_)
 refine Za ?_
 refine Zl ?_
 refine Zq (Zr ?_)
 refine Za ?_
 refine Zl ?_
 refine Zq (Zr ?_)
 refine Za ?_
 refine Zl ?_
 refine Zq (Zq (Zr ?_))
 refine Za ?_
 refine Zl ?_
 refine Zb ?_
 refine VC.nilO (⟨none, 0, []⟩ : Sv Str) 9 ⟨rfl, rfl⟩ ?_
 refine VC.iter (S := Sv Str × Int × Int) (fun sg => (sg.1.l, sg.2.1, sg.2.2)) (fun sg => [(0, str s_0), (3, sg.1.val), (4, i64 sg.2.1), (5, i64 sg.2.2)]) (fun sg => Mo.tt) (fun sg => Ow.star (Sv.own sg.1 9) (Ow.emp)) (⟨none, 0, []⟩, 0, 0) [0, 3, 4, 5] hS rfl ?_
 clear hS
 rintro ⟨out3_1, from4_2, i5_3⟩ m1 y1 hS hK1
 show VC _ _ _ _ _ [(0, str s_0), (3, out3_1.val), (4, i64 from4_2), (5, i64 i5_3)] (Mo.and Mo.tt _) (Ow.star (Sv.own out3_1 9) (Ow.emp))
 refine Zq (Zq (Zr ?_))
 refine Zm ?_
 refine Zm ?_
 refine VL.q (q_slen Tryz.underlying9 rfl) (by decide) ?_
 refine VL.q (q_lss rfl rfl) (by decide) ?_
 refine Zl ?_
 refine VC.cond_dec rfl (fun h9 => ?_) (fun h9 => ?_)
 ·
  replace hS := it_t h9 hS
  refine Zk ?_
  refine VC.cutJ (S := Sv Str × Int) (fun sg => (sg.1.l, sg.2)) (fun sg => [(0, str s_0), (3, sg.1.val), (4, i64 sg.2), (5, i64 i5_3)]) (fun sg => Mo.tt) (fun sg => Ow.star (Sv.own sg.1 9) (Ow.emp)) hS ?_ ?_
  ·
   clear hS
   intro k6 hS
   refine Zb (Zq (Zr ?_))
   refine Zm ?_
   refine Zm ?_
   obtain ⟨z14_7, nz14_7, hz14_7, hS⟩ := at_s hS
   refine VL.q (q_sidx Tryz.underlying9 rfl rfl nz14_7 hz14_7) (by decide) ?_
   refine VL.q (q_eql rfl rfl) (by decide) ?_
   refine Zl ?_
   refine VC.keep [0, 3, 4, 5, 15] rfl ?_
   refine VC.cond_dec rfl (fun h15 => ?_) (fun h15 => ?_)
   ·
    replace hS := it_t h15 hS
    refine Zq (Zr ?_)
    refine Zm ?_
    refine Zm ?_
    refine Zm ?_
    refine Zm ?_
    obtain ⟨b20, hS⟩ := gd_s hS
    refine VL.q (q_add rfl rfl b20) (by decide) ?_
    obtain ⟨b21, hS⟩ := gd_s hS
    obtain ⟨y21_8, ey21_8, hS⟩ := lt_s hS
    refine VL.q (q_smidE Tryz.underlying9 rfl rfl rfl b21.1 b21.2.1 b21.2.2 ey21_8) (by decide) ?_
    refine VL.lit (α := Str) (xs := [.tmp 21]) (vs := [str y21_8]) [y21_8] Tryz.underlying32 glit9 (by decide) rfl rfl rfl rfl (by decide) (fun _ _ _ _ => trivial) (by decide) (fun s22_9 hs22_9 => ?_) (by decide)
    replace hS := lt_to hs22_9 hS
    obtain ⟨b23, hS⟩ := gd_s hS
    refine VL.app (s := out3_1) (r := s22_9) Tryz.underlying32 gapp9 (by decide) rfl Fo.out (ap1 b23) (ap2 b23 (by decide)) (by decide) (fun s23_11 hs23_11 => ?_)
    replace hS := lt_to hs23_11 hS
    refine Za ?_
    refine Zl ?_
    refine VC.keep [0, 3, 5] rfl ?_
    refine Zr ?_
    refine Zm ?_
    obtain ⟨b25, hS⟩ := gd_s hS
    refine VL.q (q_add rfl rfl b25) (by decide) ?_
    refine Za ?_
    refine VL.mt (s23_11, (i5_3 + 1)) [0, 3, 4, 5] (fun _ _ h => h) hS rfl
   replace hS := it_f h15 hS
   refine VC.skip_mt (out3_1, from4_2) [0, 3, 4, 5] (fun _ _ h => h) hS rfl
  clear hS
  rintro ⟨out3_4, from4_5⟩ hS
  show VC _ _ _ _ _ [(0, str s_0), (3, out3_4.val), (4, i64 from4_5), (5, i64 i5_3)] (Mo.and Mo.tt _) (Ow.star (Sv.own out3_4 9) (Ow.emp))
  refine Zr ?_
  refine Zm ?_
  obtain ⟨b11, hS⟩ := gd_s hS
  refine VL.q (q_add rfl rfl b11) (by decide) ?_
  refine Za ?_
  refine VL.rnd (out3_4, from4_5, (i5_3 + 1)) [0, 3, 4, 5] (fun _ _ h => h) (go2 hS hK1) rfl
 replace hS := it_f h9 hS
 replace hS := up2 hS hK1
 refine Zx ?_
 refine Zq (Zq (Zr ?_))
 refine Zm ?_
 refine Zm ?_
 refine VL.q (q_slen Tryz.underlying9 rfl) (by decide) ?_
 refine VL.q (q_lss rfl rfl) (by decide) ?_
 refine Zl ?_
 refine VC.keep [0, 3, 4, 29] rfl ?_
 refine VC.cond_dec rfl (fun h29 => ?_) (fun h29 => ?_)
 ·
  replace hS := it_t h29 hS
  refine Zr ?_
  refine Zm ?_
  refine Zm ?_
  refine Zm ?_
  obtain ⟨b33, hS⟩ := gd_s hS
  obtain ⟨y33_13, ey33_13, hS⟩ := lt_s hS
  refine VL.q (q_sfromE Tryz.underlying9 rfl rfl b33.1 b33.2 ey33_13) (by decide) ?_
  refine VL.lit (α := Str) (xs := [.tmp 33]) (vs := [str y33_13]) [y33_13] Tryz.underlying32 glit9 (by decide) rfl rfl rfl rfl (by decide) (fun _ _ _ _ => trivial) (by decide) (fun s34_14 hs34_14 => ?_) (by decide)
  replace hS := lt_to hs34_14 hS
  obtain ⟨b35, hS⟩ := gd_s hS
  refine VL.app (s := out3_1) (r := s34_14) Tryz.underlying32 gapp9 (by decide) rfl Fo.out (ap1 b35) (ap2 b35 (by decide)) (by decide) (fun s35_16 hs35_16 => ?_)
  replace hS := lt_to hs35_16 hS
  refine Za ?_
  refine Zl ?_
  refine Zq (Zr ?_)
  refine Zm ?_
  refine Za ?_
  refine Zl ?_
  refine VC.keep [2] rfl ?_
  cases hS
  exact VC.ret (fin1 (.inr rfl) rfl rfl s35_16 rfl rfl (by (try dsimp only); exact InM.out) (by (try dsimp only); exact EntO.out))
 replace hS := it_f h29 hS
 refine Zk ?_
 refine Zq (Zr ?_)
 refine Zm ?_
 refine Za ?_
 refine Zl ?_
 cases hS
 exact VC.ret (fin1 (.inr rfl) rfl rfl out3_1 rfl rfl (by (try dsimp only); exact InM.out) (by (try dsimp only); exact EntO.out))
end Go.Proofs.YtpmhinamcndmeaaGreatDoor
end
