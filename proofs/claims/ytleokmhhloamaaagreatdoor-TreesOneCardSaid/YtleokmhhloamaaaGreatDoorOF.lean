/- Part of the proofs of: What becomes of one path of any three trees: its file, or none, and whether it clashes, as the document says. -/
import Derived.Test.YtleokmhhloamaaaGreatDoorOE
set_option linter.unusedVariables false
set_option linter.unusedSimpArgs false
set_option linter.unusedSectionVars false
section
set_option linter.unusedVariables false
namespace Go.Proofs.YtleokmhhloamaaaGreatDoor
set_option maxHeartbeats 4000000
set_option maxRecDepth 100000
open Go.RowKit Go.V
open Go.S hiding Str
theorem merge_Text_ct (base_0 : Str) (ours_1 : Str) (theirs_2 : Str) (a_3 : Str) (b_4 : Str) {r : Str × Int × Err} (hS : Sh.merge_Text base_0 ours_1 theirs_2 a_3 b_4 = some r) :
 Ct Tryz.prog 127 [str base_0, str ours_1, str theirs_2, str a_3, str b_4] Mo.tt (Ow.emp) (X := Str × Int × Er) (fun x => .tuple #[str x.1, i64 x.2.1, x.2.2.val]) (fun x => r = (x.1, x.2.1, x.2.2.pl)) (fun x => x.2.2.ok) (fun x => Ow.emp) := by
 refine Ct.of Tryz.func127 rfl (by kernel_rfl) Tryz.ntmps127 (by simp) fun c => ?_
 unfold Sh.merge_Text at hS
 refine Zq (Zr ?_)
 refine Za ?_
 refine Za ?_
 refine Za ?_
 refine Zl ?_
 refine Zq (Zr ?_)
 refine Zm ?_
 obtain ⟨y21_1, ey21_1, hS⟩ := bd_s hS
 refine VL.callF (lines_Split_ct base_0 ey21_1) rfl (by decide) ?_
 rintro q21_1_0 rfl
 try dsimp only
 refine Zm ?_
 obtain ⟨y23_2, ey23_2, hS⟩ := bd_s hS
 refine VL.callF (lines_Split_ct ours_1 ey23_2) rfl (by decide) ?_
 rintro q23_2_0 rfl
 try dsimp only
 refine Zm ?_
 obtain ⟨y25_3, ey25_3, hS⟩ := bd_s hS
 refine VL.callF (lines_Split_ct theirs_2 ey25_3) rfl (by decide) ?_
 rintro q25_3_0 rfl
 try dsimp only
 obtain ⟨y26_4, ey26_4, hS⟩ := bd_s hS
 refine VL.callF (merge_Chunks_ct q21_1_0 q23_2_0 q25_3_0 ey26_4) rfl (by decide) ?_
 rintro ⟨q26_4_0, q26_4_1⟩ rfl
 try dsimp only
 refine Zm ?_
 refine VL.q (q_extract rfl rfl) (by decide) ?_
 refine VL.q (q_extract rfl rfl) (by decide) ?_
 refine Za ?_
 refine Za ?_
 refine Zl ?_
 refine VC.keep [3, 4, 13, 14] rfl ?_
 refine Zq (Zq (Zr ?_))
 refine Zm ?_
 refine VL.q (q_erne Tryz.underlying29 rfl) (by decide) ?_
 refine Zl ?_
 refine VC.cond_ndec rfl (fun h30 => ?_) (fun h30 => ?_)
 ·
  replace hS := it_f h30 hS
  refine Zq (Zr ?_)
  refine Zm ?_
  refine Za ?_
  refine Za ?_
  refine Za ?_
  refine Zl ?_
  cases hS
  exact VC.ret (fin3 (.inr rfl) rfl rfl rfl rfl ([], 0, q26_4_1) rfl rfl (by (try dsimp only); exact InM.out) (fun _ _ => trivial))
 replace hS := it_t h30 hS
 refine Zk ?_
 refine Zq (Zr ?_)
 refine VL.alloc (cs := [.pointer none, .slice none 0 0]) (by kernel_rfl) (by decide) fun b15_5 => ?_
 refine VL.toBd 5 b15_5 ?_
 refine Zl ?_
 refine Zq (Zr ?_)
 refine Za ?_
 refine Zl ?_
 refine Zq (Zq (Zr ?_))
 refine Zm ?_
 refine VL.q (q_lnm Ck.pl (s := q26_4_0) Tryz.underlying253 rfl) (by decide) ?_
 refine Zm ?_
 refine Zl ?_
 refine Zb ?_
 refine VC.iter (S := Int × Int × Str) (fun sg => (sg.1, sg.2.1, sg.2.2)) (fun sg => [(3, str a_3), (4, str b_4), (15, ptr b15_5 0), (16, i64 sg.1), (32, q26_4_0.val), (33, i64 ((q26_4_0.l.map Ck.pl).length : Int)), (34, i64 sg.2.1)]) (fun sg => Mo.tt) (fun sg => Ow.star (Bd 259 5 b15_5 sg.2.2) (Ow.emp)) (0, 0, []) [3, 4, 15, 16, 32, 33, 34] hS rfl ?_
 clear hS
 rintro ⟨n16_6, x34_7, acc_8⟩ m1 y1 hS hK1
 show VC _ _ _ _ _ [(3, str a_3), (4, str b_4), (15, ptr b15_5 0), (16, i64 n16_6), (32, q26_4_0.val), (33, i64 ((q26_4_0.l.map Ck.pl).length : Int)), (34, i64 x34_7)] (Mo.and Mo.tt _) (Ow.star (Bd 259 5 b15_5 acc_8) (Ow.emp))
 refine Zq (Zr ?_)
 refine VL.q (q_lss rfl rfl) (by decide) ?_
 refine Zl ?_
 refine Zq ?_
 refine VC.cond_dec rfl (fun h35 => ?_) (fun h35 => ?_)
 ·
  replace hS := it_t h35 hS
  refine Zk ?_
  refine Zq (Zb (Zq (Zr ?_)))
  obtain ⟨z36_9, nz36_9, hz36_9, hS⟩ := atm_s hS
  refine VL.deep z36_9.m hz36_9 (fun _ q => q) ?_
  refine VL.q (q_ixm (s := q26_4_0) Tryz.underlying253 gsz261 rfl rfl nz36_9 (lt_of_get nz36_9 hz36_9)) (by decide) ?_
  refine VL.q (q_els (s := q26_4_0) gagg261 rfl rfl hz36_9) (by decide) ?_
  refine VL.alloc (cs := [.slice none 0 0, .slice none 0 0, .slice none 0 0, .bool false, .slice none 0 0]) (by kernel_rfl) (by decide) fun b18_10 => ?_
  refine VL.store (vc := [z36_9.base.val, z36_9.ours.val, z36_9.theirs.val, .bool z36_9.clash, z36_9.out.val]) (cs' := [z36_9.base.val, z36_9.ours.val, z36_9.theirs.val, .bool z36_9.clash, z36_9.out.val]) rfl rfl rfl gsz261 rfl rfl (Nat.le_of_ble_eq_true rfl) rfl ?_
  refine Zl ?_
  refine Zq (Zq (Zr ?_))
  refine VL.q (q_field gfa261_3 rfl) (by decide) ?_
  refine VL.q (q_fe gone4 rfl rfl) (by decide) ?_
  refine Zl ?_
  refine VC.cond rfl (fun h39 => ?_) (fun h39 => ?_)
  ·
   replace hS := it_t h39 hS
   refine Zq (Zr ?_)
   refine Zm ?_
   obtain ⟨b41, hS⟩ := gd_s hS
   refine VL.q (q_add rfl rfl b41) (by decide) ?_
   refine Za ?_
   refine Zl ?_
   refine VC.keep [3, 4, 15, 16, 32, 33, 34, 18] rfl ?_
   refine Zq (Zr ?_)
   refine VL.q (q_fes gagg261 rfl rfl) (by decide) ?_
   refine Zm ?_
   refine Zm ?_
   obtain ⟨y45_11, ey45_11, hS⟩ := bd_s hS
   refine VL.q (q_call (merge_clash_ct z36_9 a_3 b_4 ey45_11) rfl (fun _ _ => rfl)) (by decide) ?_
   obtain ⟨b46, hS⟩ := gd_s hS
   refine VL.callO (writeString_ct b15_5 acc_8 y45_11 b46) rfl (by decide) ?_
   rintro _ _
   obtain ⟨acc46_12, eacc46_12, hS⟩ := lt_s hS
   rw [eacc46_12]
   refine Zl ?_
   refine Zx ?_
   refine Zr ?_
   obtain ⟨b51, hS⟩ := gd_s hS
   refine VL.q (q_add rfl rfl b51) (by decide) ?_
   refine Zm ?_
   refine VL.rnd ((n16_6 + 1), (x34_7 + 1), acc46_12) [3, 4, 15, 16, 32, 33, 34] (fun _ _ h => h) (go2 hS hK1) rfl
  replace hS := it_b h39 hS
  refine Zk ?_
  refine Zr ?_
  refine VL.q (q_field gfa261_4 rfl) (by decide) ?_
  refine VL.q (q_fe gone82 rfl rfl) (by decide) ?_
  obtain ⟨y49_13, ey49_13, hS⟩ := bd_s hS
  refine VL.q (q_call (lines_Join_ct z36_9.out ey49_13) rfl (fun _ _ => rfl)) (by decide) ?_
  obtain ⟨b50, hS⟩ := gd_s hS
  refine VL.callO (writeString_ct b15_5 acc_8 y49_13 b50) rfl (by decide) ?_
  rintro _ _
  obtain ⟨acc50_14, eacc50_14, hS⟩ := lt_s hS
  rw [eacc50_14]
  refine Zl ?_
  refine VC.keep [3, 4, 15, 16, 32, 33, 34] rfl ?_
  refine Zr ?_
  obtain ⟨b51, hS⟩ := gd_s hS
  refine VL.q (q_add rfl rfl b51) (by decide) ?_
  refine Zm ?_
  refine VL.rnd (n16_6, (x34_7 + 1), acc50_14) [3, 4, 15, 16, 32, 33, 34] (fun _ _ h => h) (go2 hS hK1) rfl
 replace hS := it_f h35 hS
 replace hS := up2 hS hK1
 refine Zx ?_
 refine Zq (Zr ?_)
 refine VL.callO (string_ct b15_5 acc_8) rfl (by decide) ?_
 rintro _ _
 refine Zm ?_
 refine Za ?_
 refine Za ?_
 refine Za ?_
 refine Zl ?_
 refine VC.keep [10, 11, 12] rfl ?_
 cases hS
 exact VC.ret (fin3 (.inr rfl) rfl rfl rfl rfl (acc_8, n16_6, .nil) rfl rfl (by (try dsimp only); exact InM.out) (fun _ _ => trivial))
theorem tmerge_both_ct (base_0 : TmergeOne) (ours_1 : TmergeOne) (theirs_2 : TmergeOne) (a_3 : Str) (b_4 : Str) {r : FilesFile × Bool} (hS : Sh.tmerge_both base_0 ours_1 theirs_2 a_3 b_4 = some r) :
 Ct Tryz.prog 61 [.agg #[str base_0.file_path, i64 base_0.file_mode, str base_0.file_data, .bool base_0.is], .agg #[str ours_1.file_path, i64 ours_1.file_mode, str ours_1.file_data, .bool ours_1.is], .agg #[str theirs_2.file_path, i64 theirs_2.file_mode, str theirs_2.file_data, .bool theirs_2.is], str a_3, str b_4] Mo.tt (Ow.emp) (X := Unit) (fun _ => .tuple #[.agg #[str r.1.path, i64 r.1.mode, str r.1.data], .bool r.2]) (fun _ => True) (fun _ => Mo.tt) (fun _ => Ow.emp) := by
 refine Ct.of Tryz.func61 rfl (by kernel_rfl) Tryz.ntmps61 (by simp) fun c => ?_
 unfold Sh.tmerge_both at hS
 refine Zq (Zr ?_)
 refine VL.box (cs := [str base_0.file_path, i64 base_0.file_mode, str base_0.file_data, .bool base_0.is]) rfl rfl (by decide) fun b5_1 => ?_
 refine VL.box (cs := [str ours_1.file_path, i64 ours_1.file_mode, str ours_1.file_data, .bool ours_1.is]) rfl rfl (by decide) fun b6_2 => ?_
 refine VL.box (cs := [str theirs_2.file_path, i64 theirs_2.file_mode, str theirs_2.file_data, .bool theirs_2.is]) rfl rfl (by decide) fun b7_3 => ?_
 refine VL.alloc (cs := [str [], i64 0, str []]) (by kernel_rfl) (by decide) fun b10_4 => ?_
 refine Za ?_
 refine Zl ?_
 refine Zq ?_
 refine VC.draw [(0, true), (1, true), (2, true), (3, true), (4, true), (5, true), (6, true), (7, true), (8, true), (9, true), (10, true), (11, false), (12, false)] mixed (by kernel_rfl) (by kernel_rfl) (by kernel_rfl) ?_
 refine VD.q rfl (q_field gfa121_0 rfl) (by decide) ?_
 refine VD.q rfl (q_field gfa42_0 rfl) (by decide) ?_
 refine VD.q rfl (q_fe gone9 rfl rfl) (by decide) ?_
 refine VD.q rfl (q_fes gagg121 rfl rfl) (by decide) ?_
 refine VD.q rfl (q_fes gagg121 rfl rfl) (by decide) ?_
 refine VD.q rfl (q_fes gagg121 rfl rfl) (by decide) ?_
 obtain ⟨y22_5, ey22_5, hS⟩ := bd_s hS
 refine VD.q rfl (q_call (tmerge_mode_ct base_0 ours_1 theirs_2 ey22_5) rfl (fun _ _ => rfl)) (by decide) ?_
 refine VD.q rfl (q_field gfa121_0 rfl) (by decide) ?_
 refine VD.q rfl (q_field gfa42_2 rfl) (by decide) ?_
 refine VD.q rfl (q_fe gone9 rfl rfl) (by decide) ?_
 refine VD.q rfl (q_build (vs := [(0, str ours_1.file_path), (1, i64 y22_5), (2, str ours_1.file_data)]) (cs := #[str ours_1.file_path, i64 y22_5, str ours_1.file_data]) rfl (by kernel_rfl)) (by decide) ?_
 refine VD.one rfl ?_
 refine VL.alloc (cs := [str [], i64 0, str []]) (by kernel_rfl) (by decide) fun b12_6 => ?_
 refine VL.back (D' := [(10, .agg #[str ours_1.file_path, i64 y22_5, str ours_1.file_data]), (9, str ours_1.file_data), (8, ptr b6_2 2), (7, ptr b6_2 0), (6, i64 y22_5), (5, .agg #[str theirs_2.file_path, i64 theirs_2.file_mode, str theirs_2.file_data, .bool theirs_2.is]), (4, .agg #[str ours_1.file_path, i64 ours_1.file_mode, str ours_1.file_data, .bool ours_1.is]), (3, .agg #[str base_0.file_path, i64 base_0.file_mode, str base_0.file_data, .bool base_0.is]), (2, str ours_1.file_path), (1, ptr b6_2 0), (0, ptr b6_2 0)]) (by kernel_rfl) (Pend.cons rfl (q_build (vs := [(0, str ours_1.file_path), (1, i64 y22_5), (2, str ours_1.file_data)]) (cs := #[str ours_1.file_path, i64 y22_5, str ours_1.file_data]) rfl (by kernel_rfl)) (Pend.cons rfl (q_fe gone9 rfl rfl) (Pend.cons rfl (q_field gfa42_2 rfl) (Pend.cons rfl (q_field gfa121_0 rfl) (Pend.cons rfl (q_call (tmerge_mode_ct base_0 ours_1 theirs_2 ey22_5) rfl (fun _ _ => rfl)) (Pend.cons rfl (q_fes gagg121 rfl rfl) (Pend.cons rfl (q_fes gagg121 rfl rfl) (Pend.cons rfl (q_fes gagg121 rfl rfl) (Pend.cons rfl (q_fe gone9 rfl rfl) (Pend.cons rfl (q_field gfa42_0 rfl) (Pend.cons rfl (q_field gfa121_0 rfl) (Pend.nil)))))))))))) ?_
 refine VD.one rfl ?_
 refine VL.store (vc := [str ours_1.file_path, i64 y22_5, str ours_1.file_data]) (cs' := [str ours_1.file_path, i64 y22_5, str ours_1.file_data]) rfl rfl rfl gsz42 rfl rfl (Nat.le_of_ble_eq_true rfl) rfl ?_
 refine VL.back (D' := []) (by kernel_rfl) (Pend.nil) ?_
 refine VD.to (fun _ _ h => h) ?_
 refine VC.keep [3, 4, 5, 6, 7, 10, 12] rfl ?_
 refine Zq (Zb ?_)
 refine VC.cutJ (S := Bool) (fun (x27_7 : Bool) => x27_7) (fun (x27_7 : Bool) => [(3, str a_3), (4, str b_4), (5, ptr b5_1 0), (6, ptr b6_2 0), (7, ptr b7_3 0), (10, ptr b10_4 0), (12, ptr b12_6 0), (27, .bool x27_7)]) (fun (x27_7 : Bool) => Mo.tt) (fun (x27_7 : Bool) => Ow.star (Blk b12_6 [str ours_1.file_path, i64 y22_5, str ours_1.file_data] 42) (Ow.star (Blk b10_4 [str [], i64 0, str []] 42) (Ow.star (Blk b7_3 [str theirs_2.file_path, i64 theirs_2.file_mode, str theirs_2.file_data, .bool theirs_2.is] 121) (Ow.star (Blk b6_2 [str ours_1.file_path, i64 ours_1.file_mode, str ours_1.file_data, .bool ours_1.is] 121) (Ow.star (Blk b5_1 [str base_0.file_path, i64 base_0.file_mode, str base_0.file_data, .bool base_0.is] 121) (Ow.emp)))))) hS ?_ ?_
 ·
  clear hS
  intro k8 hS
  refine Zr ?_
  refine VL.q (q_field gfa121_0 rfl) (by decide) ?_
  refine VL.q (q_field gfa42_2 rfl) (by decide) ?_
  refine VL.q (q_fe gone9 rfl rfl) (by decide) ?_
  refine VL.q (q_field gfa121_0 rfl) (by decide) ?_
  refine VL.q (q_field gfa42_2 rfl) (by decide) ?_
  refine VL.q (q_fe gone9 rfl rfl) (by decide) ?_
  refine Zs ?_
  refine Zm ?_
  refine VL.split_dec 35 rfl (fun h35 => ?_) (fun h35 => ?_)
  ·
   replace hS := it_t h35 hS
   refine Zn ?_
   refine Zn ?_
   refine Zn ?_
   refine VL.gu rfl rfl (by decide) ?_
   refine VL.gu rfl rfl (by decide) ?_
   refine VL.gu rfl rfl (by decide) ?_
   refine VL.gu rfl rfl (by decide) ?_
   refine VL.gu rfl rfl (by decide) ?_
   refine VL.gu rfl rfl (by decide) ?_
   refine VL.gu rfl rfl (by decide) ?_
   refine Zn ?_
   refine Zt ?_
   refine Za ?_
   refine VL.mt true [3, 4, 5, 6, 7, 10, 12, 27] (fun _ _ h => h) hS rfl
  replace hS := it_f h35 hS
  refine VL.gy rfl rfl (q_field gfa121_1 rfl) (by decide) ?_
  refine VL.gy rfl rfl (q_fe gone4 rfl rfl) (by decide) ?_
  refine Zg ?_
  refine VL.split 38 rfl (fun h38 => ?_) (fun h38 => ?_)
  ·
   replace hS := it_t h38 hS
   refine VL.gy rfl rfl (q_field gfa121_0 rfl) (by decide) ?_
   refine VL.gy rfl rfl (q_field gfa42_2 rfl) (by decide) ?_
   refine VL.gy rfl rfl (q_fe gone9 rfl rfl) (by decide) ?_
   refine VL.gy rfl rfl (q_field gfa121_0 rfl) (by decide) ?_
   refine VL.gy rfl rfl (q_field gfa42_2 rfl) (by decide) ?_
   refine VL.gy rfl rfl (q_fe gone9 rfl rfl) (by decide) ?_
   refine VL.gy rfl rfl (q_seq rfl rfl) (by decide) ?_
   refine VL.gy rfl rfl (q_pick_t rfl rfl) (by decide) ?_
   refine Zf ?_
   refine Za ?_
   refine VL.mt (decide (theirs_2.file_data = base_0.file_data)) [3, 4, 5, 6, 7, 10, 12, 27] (fun _ _ h => h) hS rfl
  replace hS := it_b h38 hS
  refine Zn ?_
  refine Zn ?_
  refine Zn ?_
  refine Zn ?_
  refine Zn ?_
  refine Zn ?_
  refine Zn ?_
  refine VL.gy rfl rfl (q_pick_f rfl rfl) (by decide) ?_
  refine Zf ?_
  refine Za ?_
  refine VL.mt false [3, 4, 5, 6, 7, 10, 12, 27] (fun _ _ h => h) hS rfl
 clear hS
 rintro x27_7 hS
 show VC _ _ _ _ _ [(3, str a_3), (4, str b_4), (5, ptr b5_1 0), (6, ptr b6_2 0), (7, ptr b7_3 0), (10, ptr b10_4 0), (12, ptr b12_6 0), (27, .bool x27_7)] (Mo.and Mo.tt _) (Ow.star (Blk b12_6 [str ours_1.file_path, i64 y22_5, str ours_1.file_data] 42) (Ow.star (Blk b10_4 [str [], i64 0, str []] 42) (Ow.star (Blk b7_3 [str theirs_2.file_path, i64 theirs_2.file_mode, str theirs_2.file_data, .bool theirs_2.is] 121) (Ow.star (Blk b6_2 [str ours_1.file_path, i64 ours_1.file_mode, str ours_1.file_data, .bool ours_1.is] 121) (Ow.star (Blk b5_1 [str base_0.file_path, i64 base_0.file_mode, str base_0.file_data, .bool base_0.is] 121) (Ow.emp))))))
 refine VC.cond rfl (fun h27 => ?_) (fun h27 => ?_)
 ·
  replace hS := it_t h27 hS
  refine Zq (Zr ?_)
  refine VL.q (q_fes gagg42 rfl rfl) (by decide) ?_
  refine VL.store (vc := [str ours_1.file_path, i64 y22_5, str ours_1.file_data]) (cs' := [str ours_1.file_path, i64 y22_5, str ours_1.file_data]) rfl rfl rfl gsz42 rfl rfl (Nat.le_of_ble_eq_true rfl) rfl ?_
  refine Za ?_
  refine Zl ?_
  cases hS
  exact VC.ret (finG (vs := [.agg #[str ours_1.file_path, i64 y22_5, str ours_1.file_data], .bool false]) (.inr rfl) rfl (RVs.cell gagg42 rfl rfl Rd.blk (RVs.tmp rfl (RVs.nil))) () rfl trivial (by (try dsimp only); exact InM.out) (fun _ _ => trivial))
 replace hS := it_b h27 hS
 refine VC.cutJ (S := Bool) (fun (x49_9 : Bool) => x49_9) (fun (x49_9 : Bool) => [(3, str a_3), (4, str b_4), (5, ptr b5_1 0), (6, ptr b6_2 0), (7, ptr b7_3 0), (10, ptr b10_4 0), (12, ptr b12_6 0), (49, .bool x49_9)]) (fun (x49_9 : Bool) => Mo.tt) (fun (x49_9 : Bool) => Ow.star (Blk b12_6 [str ours_1.file_path, i64 y22_5, str ours_1.file_data] 42) (Ow.star (Blk b10_4 [str [], i64 0, str []] 42) (Ow.star (Blk b7_3 [str theirs_2.file_path, i64 theirs_2.file_mode, str theirs_2.file_data, .bool theirs_2.is] 121) (Ow.star (Blk b6_2 [str ours_1.file_path, i64 ours_1.file_mode, str ours_1.file_data, .bool ours_1.is] 121) (Ow.star (Blk b5_1 [str base_0.file_path, i64 base_0.file_mode, str base_0.file_data, .bool base_0.is] 121) (Ow.emp)))))) hS ?_ ?_
 ·
  clear hS
  intro k10 hS
  refine Zr ?_
  refine VL.q (q_field gfa121_1 rfl) (by decide) ?_
  refine VL.q (q_fe gone4 rfl rfl) (by decide) ?_
  refine Zm ?_
  refine VL.split 52 rfl (fun h52 => ?_) (fun h52 => ?_)
  ·
   replace hS := it_t h52 hS
   refine VL.gy rfl rfl (q_field gfa121_0 rfl) (by decide) ?_
   refine VL.gy rfl rfl (q_field gfa42_2 rfl) (by decide) ?_
   refine VL.gy rfl rfl (q_fe gone9 rfl rfl) (by decide) ?_
   refine VL.gy rfl rfl (q_field gfa121_0 rfl) (by decide) ?_
   refine VL.gy rfl rfl (q_field gfa42_2 rfl) (by decide) ?_
   refine VL.gy rfl rfl (q_fe gone9 rfl rfl) (by decide) ?_
   refine VL.gy rfl rfl (q_seq rfl rfl) (by decide) ?_
   refine Zt ?_
   refine Za ?_
   refine VL.mt (decide (ours_1.file_data = base_0.file_data)) [3, 4, 5, 6, 7, 10, 12, 49] (fun _ _ h => h) hS rfl
  replace hS := it_b h52 hS
  refine Zn ?_
  refine Zn ?_
  refine Zn ?_
  refine Zn ?_
  refine Zn ?_
  refine Zn ?_
  refine Zn ?_
  refine Zf ?_
  refine Za ?_
  refine VL.mt false [3, 4, 5, 6, 7, 10, 12, 49] (fun _ _ h => h) hS rfl
 clear hS
 rintro x49_9 hS
 show VC _ _ _ _ _ [(3, str a_3), (4, str b_4), (5, ptr b5_1 0), (6, ptr b6_2 0), (7, ptr b7_3 0), (10, ptr b10_4 0), (12, ptr b12_6 0), (49, .bool x49_9)] (Mo.and Mo.tt _) (Ow.star (Blk b12_6 [str ours_1.file_path, i64 y22_5, str ours_1.file_data] 42) (Ow.star (Blk b10_4 [str [], i64 0, str []] 42) (Ow.star (Blk b7_3 [str theirs_2.file_path, i64 theirs_2.file_mode, str theirs_2.file_data, .bool theirs_2.is] 121) (Ow.star (Blk b6_2 [str ours_1.file_path, i64 ours_1.file_mode, str ours_1.file_data, .bool ours_1.is] 121) (Ow.star (Blk b5_1 [str base_0.file_path, i64 base_0.file_mode, str base_0.file_data, .bool base_0.is] 121) (Ow.emp))))))
 refine VC.cond rfl (fun h49 => ?_) (fun h49 => ?_)
 ·
  replace hS := it_t h49 hS
  refine Zq (Zr ?_)
  refine VL.q (q_field gfa121_0 rfl) (by decide) ?_
  refine VL.q (q_field gfa42_2 rfl) (by decide) ?_
  refine VL.q (q_fe gone9 rfl rfl) (by decide) ?_
  refine VL.q (q_field gfa42_2 rfl) (by decide) ?_
  refine VL.store (vc := [str theirs_2.file_data]) (cs' := [str ours_1.file_path, i64 y22_5, str theirs_2.file_data]) rfl rfl rfl gsz9 rfl rfl (Nat.le_of_ble_eq_true rfl) rfl ?_
  refine Zl ?_
  refine VC.keep [10, 12] rfl ?_
  refine Zq (Zr ?_)
  refine VL.q (q_fes gagg42 rfl rfl) (by decide) ?_
  refine VL.store (vc := [str ours_1.file_path, i64 y22_5, str theirs_2.file_data]) (cs' := [str ours_1.file_path, i64 y22_5, str theirs_2.file_data]) rfl rfl rfl gsz42 rfl rfl (Nat.le_of_ble_eq_true rfl) rfl ?_
  refine Za ?_
  refine Zl ?_
  cases hS
  exact VC.ret (finG (vs := [.agg #[str ours_1.file_path, i64 y22_5, str theirs_2.file_data], .bool false]) (.inr rfl) rfl (RVs.cell gagg42 rfl rfl Rd.blk (RVs.tmp rfl (RVs.nil))) () rfl trivial (by (try dsimp only); exact InM.out) (fun _ _ => trivial))
 replace hS := it_b h49 hS
 refine Zk ?_
 refine Zq (Zr ?_)
 refine VL.q (q_field gfa121_0 rfl) (by decide) ?_
 refine VL.q (q_field gfa42_2 rfl) (by decide) ?_
 refine VL.q (q_fe gone9 rfl rfl) (by decide) ?_
 refine VL.q (q_field gfa121_0 rfl) (by decide) ?_
 refine VL.q (q_field gfa42_2 rfl) (by decide) ?_
 refine VL.q (q_fe gone9 rfl rfl) (by decide) ?_
 refine VL.q (q_field gfa121_0 rfl) (by decide) ?_
 refine VL.q (q_field gfa42_2 rfl) (by decide) ?_
 refine VL.q (q_fe gone9 rfl rfl) (by decide) ?_
 refine Zm ?_
 refine Zm ?_
 obtain ⟨y78_11, ey78_11, hS⟩ := bd_s hS
 refine VL.callF (merge_Text_ct base_0.file_data ours_1.file_data theirs_2.file_data a_3 b_4 ey78_11) rfl (by decide) ?_
 rintro ⟨q78_11_0, q78_11_1, q78_11_2⟩ rfl
 try dsimp only
 refine Zm ?_
 refine VL.q (q_extract rfl rfl) (by decide) ?_
 refine VL.q (q_extract rfl rfl) (by decide) ?_
 refine VL.q (q_extract rfl rfl) (by decide) ?_
 refine Za ?_
 refine Za ?_
 refine Za ?_
 refine Zl ?_
 refine VC.keep [6, 10, 12, 13, 14, 15] rfl ?_
 refine Zq ?_
 refine VC.cutJ (S := Bool) (fun (x88_12 : Bool) => x88_12) (fun (x88_12 : Bool) => [(6, ptr b6_2 0), (10, ptr b10_4 0), (12, ptr b12_6 0), (13, str q78_11_0), (14, i64 q78_11_1), (88, .bool x88_12)]) (fun (x88_12 : Bool) => Mo.tt) (fun (x88_12 : Bool) => Ow.star (Blk b12_6 [str ours_1.file_path, i64 y22_5, str ours_1.file_data] 42) (Ow.star (Blk b10_4 [str [], i64 0, str []] 42) (Ow.star (Blk b7_3 [str theirs_2.file_path, i64 theirs_2.file_mode, str theirs_2.file_data, .bool theirs_2.is] 121) (Ow.star (Blk b6_2 [str ours_1.file_path, i64 ours_1.file_mode, str ours_1.file_data, .bool ours_1.is] 121) (Ow.star (Blk b5_1 [str base_0.file_path, i64 base_0.file_mode, str base_0.file_data, .bool base_0.is] 121) (Ow.emp)))))) hS ?_ ?_
 ·
  clear hS
  intro k13 hS
  refine Zr ?_
  refine Zm ?_
  refine VL.q (q_erne Tryz.underlying29 rfl) (by decide) ?_
  refine Zm ?_
  refine VL.split_ndec 84 rfl (fun h84 => ?_) (fun h84 => ?_)
  ·
   replace hS := it_f h84 hS
   refine Zn ?_
   refine Zn ?_
   refine Zn ?_
   refine Zt ?_
   refine VL.mt true [6, 10, 12, 13, 14, 88] (fun _ _ h => h) hS rfl
  replace hS := it_t h84 hS
  refine Zg ?_
  refine VL.gy rfl rfl (q_slen Tryz.underlying9 rfl) (by decide) ?_
  refine VL.gy rfl rfl (q_gtr rfl rfl) (by decide) ?_
  refine Zf ?_
  refine VL.mt (decide (4096 < (q78_11_0.length : Int))) [6, 10, 12, 13, 14, 88] (fun _ _ h => h) hS rfl
 clear hS
 rintro x88_12 hS
 show VC _ _ _ _ _ [(6, ptr b6_2 0), (10, ptr b10_4 0), (12, ptr b12_6 0), (13, str q78_11_0), (14, i64 q78_11_1), (88, .bool x88_12)] (Mo.and Mo.tt _) (Ow.star (Blk b12_6 [str ours_1.file_path, i64 y22_5, str ours_1.file_data] 42) (Ow.star (Blk b10_4 [str [], i64 0, str []] 42) (Ow.star (Blk b7_3 [str theirs_2.file_path, i64 theirs_2.file_mode, str theirs_2.file_data, .bool theirs_2.is] 121) (Ow.star (Blk b6_2 [str ours_1.file_path, i64 ours_1.file_mode, str ours_1.file_data, .bool ours_1.is] 121) (Ow.star (Blk b5_1 [str base_0.file_path, i64 base_0.file_mode, str base_0.file_data, .bool base_0.is] 121) (Ow.emp))))))
 refine VC.cond rfl (fun h88 => ?_) (fun h88 => ?_)
 ·
  replace hS := it_t h88 hS
  refine Zq (Zr ?_)
  refine VL.q (q_field gfa121_0 rfl) (by decide) ?_
  refine VL.q (q_field gfa42_0 rfl) (by decide) ?_
  refine VL.q (q_fe gone9 rfl rfl) (by decide) ?_
  refine VL.q (q_field gfa42_1 rfl) (by decide) ?_
  refine VL.q (q_fe gone3 rfl rfl) (by decide) ?_
  refine VL.q (q_field gfa121_0 rfl) (by decide) ?_
  refine VL.q (q_field gfa42_2 rfl) (by decide) ?_
  refine VL.q (q_fe gone9 rfl rfl) (by decide) ?_
  refine VL.q (q_build (vs := [(0, str ours_1.file_path), (1, i64 y22_5), (2, str ours_1.file_data)]) (cs := #[str ours_1.file_path, i64 y22_5, str ours_1.file_data]) rfl (by kernel_rfl)) (by decide) ?_
  refine VL.store (vc := [str ours_1.file_path, i64 y22_5, str ours_1.file_data]) (cs' := [str ours_1.file_path, i64 y22_5, str ours_1.file_data]) rfl rfl rfl gsz42 rfl rfl (Nat.le_of_ble_eq_true rfl) rfl ?_
  refine Za ?_
  refine Zl ?_
  refine VC.keep [10, 11] rfl ?_
  cases hS
  exact VC.ret (finG (vs := [.agg #[str ours_1.file_path, i64 y22_5, str ours_1.file_data], .bool true]) (.inr rfl) rfl (RVs.cell gagg42 rfl rfl Rd.blk (RVs.tmp rfl (RVs.nil))) () rfl trivial (by (try dsimp only); exact InM.out) (fun _ _ => trivial))
 replace hS := it_b h88 hS
 refine Zk ?_
 refine Zq (Zr ?_)
 refine Zm ?_
 refine VL.q (q_field gfa42_2 rfl) (by decide) ?_
 refine VL.store (vc := [str q78_11_0]) (cs' := [str ours_1.file_path, i64 y22_5, str q78_11_0]) rfl rfl rfl gsz9 rfl rfl (Nat.le_of_ble_eq_true rfl) rfl ?_
 refine Zl ?_
 refine Zq (Zr ?_)
 refine VL.q (q_fes gagg42 rfl rfl) (by decide) ?_
 refine Zm ?_
 refine VL.q (q_gtr rfl rfl) (by decide) ?_
 refine VL.store (vc := [str ours_1.file_path, i64 y22_5, str q78_11_0]) (cs' := [str ours_1.file_path, i64 y22_5, str q78_11_0]) rfl rfl rfl gsz42 rfl rfl (Nat.le_of_ble_eq_true rfl) rfl ?_
 refine Za ?_
 refine Zl ?_
 refine VC.keep [10, 11] rfl ?_
 cases hS
 exact VC.ret (finG (vs := [.agg #[str ours_1.file_path, i64 y22_5, str q78_11_0], .bool (decide (0 < q78_11_1))]) (.inr rfl) rfl (RVs.cell gagg42 rfl rfl Rd.blk (RVs.tmp rfl (RVs.nil))) () rfl trivial (by (try dsimp only); exact InM.out) (fun _ _ => trivial))
theorem tmerge_One_ct (p_0 : Str) (base_1 : Sv FilesFile) (ours_2 : Sv FilesFile) (theirs_3 : Sv FilesFile) (a_4 : Str) (b_5 : Str) {r : FilesFile × Bool × Bool} (hS : Sh.tmerge_One p_0 base_1.l ours_2.l theirs_3.l a_4 b_5 = some r) :
 Ct Tryz.prog 16 [str p_0, base_1.val, ours_2.val, theirs_3.val, str a_4, str b_5] (base_1.ok.and (ours_2.ok.and theirs_3.ok)) (Ow.emp) (X := Unit) (fun _ => .tuple #[.agg #[str r.1.path, i64 r.1.mode, str r.1.data], .bool r.2.1, .bool r.2.2]) (fun _ => True) (fun _ => Mo.tt) (fun _ => Ow.emp) := by
 refine Ct.of Tryz.func16 rfl (by kernel_rfl) Tryz.ntmps16 (by simp) fun c => ?_
 unfold Sh.tmerge_One at hS
 refine Zq (Zr ?_)
 refine VL.alloc (cs := [str [], i64 0, str []]) (by kernel_rfl) (by decide) fun b12_1 => ?_
 refine Za ?_
 refine Za ?_
 refine Zl ?_
 refine Zq (Zr ?_)
 refine Zm ?_
 refine Zm ?_
 obtain ⟨y20_2, ey20_2, hS⟩ := bd_s hS
 refine VL.q (q_call (tmerge_of_ct base_1 p_0 ey20_2) rfl (fun _ _ => rfl)) (by decide) ?_
 refine Zm ?_
 refine Zm ?_
 obtain ⟨y23_3, ey23_3, hS⟩ := bd_s hS
 refine VL.q (q_call (tmerge_of_ct ours_2 p_0 ey23_3) rfl (fun _ _ => rfl)) (by decide) ?_
 refine Zm ?_
 refine Zm ?_
 obtain ⟨y26_4, ey26_4, hS⟩ := bd_s hS
 refine VL.q (q_call (tmerge_of_ct theirs_3 p_0 ey26_4) rfl (fun _ _ => rfl)) (by decide) ?_
 refine VL.alloc (cs := [str [], i64 0, str [], .bool false]) (by kernel_rfl) (by decide) fun b15_5 => ?_
 refine VL.alloc (cs := [str [], i64 0, str [], .bool false]) (by kernel_rfl) (by decide) fun b16_6 => ?_
 refine VL.alloc (cs := [str [], i64 0, str [], .bool false]) (by kernel_rfl) (by decide) fun b17_7 => ?_
 refine VL.store (vc := [str y20_2.file_path, i64 y20_2.file_mode, str y20_2.file_data, .bool y20_2.is]) (cs' := [str y20_2.file_path, i64 y20_2.file_mode, str y20_2.file_data, .bool y20_2.is]) rfl rfl rfl gsz121 rfl rfl (Nat.le_of_ble_eq_true rfl) rfl ?_
 refine VL.store (vc := [str y23_3.file_path, i64 y23_3.file_mode, str y23_3.file_data, .bool y23_3.is]) (cs' := [str y23_3.file_path, i64 y23_3.file_mode, str y23_3.file_data, .bool y23_3.is]) rfl rfl rfl gsz121 rfl rfl (Nat.le_of_ble_eq_true rfl) rfl ?_
 refine VL.store (vc := [str y26_4.file_path, i64 y26_4.file_mode, str y26_4.file_data, .bool y26_4.is]) (cs' := [str y26_4.file_path, i64 y26_4.file_mode, str y26_4.file_data, .bool y26_4.is]) rfl rfl rfl gsz121 rfl rfl (Nat.le_of_ble_eq_true rfl) rfl ?_
 refine Zl ?_
 refine VC.keep [4, 5, 12, 15, 16, 17] rfl ?_
 refine Zq (Zb ?_)
 refine VC.cutJ (S := Bool) (fun (x27_8 : Bool) => x27_8) (fun (x27_8 : Bool) => [(4, str a_4), (5, str b_5), (12, ptr b12_1 0), (15, ptr b15_5 0), (16, ptr b16_6 0), (17, ptr b17_7 0), (27, .bool x27_8)]) (fun (x27_8 : Bool) => Mo.tt) (fun (x27_8 : Bool) => Ow.star (Blk b17_7 [str y26_4.file_path, i64 y26_4.file_mode, str y26_4.file_data, .bool y26_4.is] 121) (Ow.star (Blk b16_6 [str y23_3.file_path, i64 y23_3.file_mode, str y23_3.file_data, .bool y23_3.is] 121) (Ow.star (Blk b15_5 [str y20_2.file_path, i64 y20_2.file_mode, str y20_2.file_data, .bool y20_2.is] 121) (Ow.star (Blk b12_1 [str [], i64 0, str []] 42) (Ow.emp))))) hS ?_ ?_
 ·
  clear hS
  intro k9 hS
  refine Zr ?_
  refine VL.q (q_fes gagg121 rfl rfl) (by decide) ?_
  refine VL.q (q_fes gagg121 rfl rfl) (by decide) ?_
  refine VL.q (q_steql geqg121 (geqs121 y23_3.file_path y23_3.file_mode y23_3.file_data y23_3.is y26_4.file_path y26_4.file_mode y26_4.file_data y26_4.is) rfl rfl) (by decide) ?_
  refine Zm ?_
  refine VL.split_dec 31 rfl (fun h31 => ?_) (fun h31 => ?_)
  ·
   replace hS := it_t h31 hS
   refine Zn ?_
   refine Zn ?_
   refine Zn ?_
   refine Zt ?_
   refine Za ?_
   refine VL.mt true [4, 5, 12, 15, 16, 17, 27] (fun _ _ h => h) hS rfl
  replace hS := it_f h31 hS
  refine VL.gy rfl rfl (q_fes gagg121 rfl rfl) (by decide) ?_
  refine VL.gy rfl rfl (q_fes gagg121 rfl rfl) (by decide) ?_
  refine VL.gy rfl rfl (q_steql geqg121 (geqs121 y20_2.file_path y20_2.file_mode y20_2.file_data y20_2.is y26_4.file_path y26_4.file_mode y26_4.file_data y26_4.is) rfl rfl) (by decide) ?_
  refine Zf ?_
  refine Za ?_
  refine VL.mt (decide (y20_2.file_path = y26_4.file_path ∧ y20_2.file_mode = y26_4.file_mode ∧ y20_2.file_data = y26_4.file_data ∧ y20_2.is = y26_4.is)) [4, 5, 12, 15, 16, 17, 27] (fun _ _ h => h) hS rfl
 clear hS
 rintro x27_8 hS
 show VC _ _ _ _ _ [(4, str a_4), (5, str b_5), (12, ptr b12_1 0), (15, ptr b15_5 0), (16, ptr b16_6 0), (17, ptr b17_7 0), (27, .bool x27_8)] (Mo.and Mo.tt _) (Ow.star (Blk b17_7 [str y26_4.file_path, i64 y26_4.file_mode, str y26_4.file_data, .bool y26_4.is] 121) (Ow.star (Blk b16_6 [str y23_3.file_path, i64 y23_3.file_mode, str y23_3.file_data, .bool y23_3.is] 121) (Ow.star (Blk b15_5 [str y20_2.file_path, i64 y20_2.file_mode, str y20_2.file_data, .bool y20_2.is] 121) (Ow.star (Blk b12_1 [str [], i64 0, str []] 42) (Ow.emp)))))
 refine VC.cond rfl (fun h27 => ?_) (fun h27 => ?_)
 ·
  replace hS := it_t h27 hS
  refine Zq ?_
  refine VC.draw [(0, true), (1, true), (2, true), (3, true), (4, false), (5, true), (6, true)] mixed (by kernel_rfl) (by kernel_rfl) (by kernel_rfl) ?_
  refine VD.q rfl (q_field gfa121_0 rfl) (by decide) ?_
  refine VD.q rfl (q_fep (j := 0) (n := 3) gagg42 rfl rfl rfl) (by decide) ?_
  refine VD.q rfl (q_field gfa121_1 rfl) (by decide) ?_
  refine VD.q rfl (q_fe gone4 rfl rfl) (by decide) ?_
  refine VD.one rfl ?_
  refine VL.store (vc := [str y23_3.file_path, i64 y23_3.file_mode, str y23_3.file_data]) (cs' := [str y23_3.file_path, i64 y23_3.file_mode, str y23_3.file_data]) rfl rfl rfl gsz42 rfl rfl (Nat.le_of_ble_eq_true rfl) rfl ?_
  refine VL.back (D' := [(3, .bool y23_3.is), (2, ptr b16_6 3)]) (by kernel_rfl) (Pend.cons rfl (q_fe gone4 rfl rfl) (Pend.cons rfl (q_field gfa121_1 rfl) (Pend.nil))) ?_
  refine VD.q rfl (q_assign rfl) (by decide) ?_
  refine VD.q rfl (q_assign rfl) (by decide) ?_
  refine VD.to (fun _ _ h => h) ?_
  refine VC.keep [12, 13, 14] rfl ?_
  cases hS
  exact VC.ret (finG (vs := [.agg #[str y23_3.file_path, i64 y23_3.file_mode, str y23_3.file_data], .bool y23_3.is, .bool false]) (.inr rfl) rfl (RVs.cell gagg42 rfl rfl Rd.blk (RVs.tmp rfl (RVs.tmp rfl (RVs.nil)))) () rfl trivial (by (try dsimp only); exact InM.out) (fun _ _ => trivial))
 replace hS := it_b h27 hS
 refine Zq (Zr ?_)
 refine VL.q (q_fes gagg121 rfl rfl) (by decide) ?_
 refine VL.q (q_fes gagg121 rfl rfl) (by decide) ?_
 refine VL.q (q_steql geqg121 (geqs121 y20_2.file_path y20_2.file_mode y20_2.file_data y20_2.is y23_3.file_path y23_3.file_mode y23_3.file_data y23_3.is) rfl rfl) (by decide) ?_
 refine Za ?_
 refine Zl ?_
 refine VC.cond_dec rfl (fun h40 => ?_) (fun h40 => ?_)
 ·
  replace hS := it_t h40 hS
  refine Zq ?_
  refine VC.draw [(0, true), (1, true), (2, true), (3, true), (4, false), (5, true), (6, true)] mixed (by kernel_rfl) (by kernel_rfl) (by kernel_rfl) ?_
  refine VD.q rfl (q_field gfa121_0 rfl) (by decide) ?_
  refine VD.q rfl (q_fep (j := 0) (n := 3) gagg42 rfl rfl rfl) (by decide) ?_
  refine VD.q rfl (q_field gfa121_1 rfl) (by decide) ?_
  refine VD.q rfl (q_fe gone4 rfl rfl) (by decide) ?_
  refine VD.one rfl ?_
  refine VL.store (vc := [str y26_4.file_path, i64 y26_4.file_mode, str y26_4.file_data]) (cs' := [str y26_4.file_path, i64 y26_4.file_mode, str y26_4.file_data]) rfl rfl rfl gsz42 rfl rfl (Nat.le_of_ble_eq_true rfl) rfl ?_
  refine VL.back (D' := [(3, .bool y26_4.is), (2, ptr b17_7 3)]) (by kernel_rfl) (Pend.cons rfl (q_fe gone4 rfl rfl) (Pend.cons rfl (q_field gfa121_1 rfl) (Pend.nil))) ?_
  refine VD.q rfl (q_assign rfl) (by decide) ?_
  refine VD.q rfl (q_assign rfl) (by decide) ?_
  refine VD.to (fun _ _ h => h) ?_
  refine VC.keep [12, 13, 14] rfl ?_
  cases hS
  exact VC.ret (finG (vs := [.agg #[str y26_4.file_path, i64 y26_4.file_mode, str y26_4.file_data], .bool y26_4.is, .bool false]) (.inr rfl) rfl (RVs.cell gagg42 rfl rfl Rd.blk (RVs.tmp rfl (RVs.tmp rfl (RVs.nil)))) () rfl trivial (by (try dsimp only); exact InM.out) (fun _ _ => trivial))
 replace hS := it_f h40 hS
 refine VC.cutJ (S := Bool) (fun (x48_10 : Bool) => x48_10) (fun (x48_10 : Bool) => [(4, str a_4), (5, str b_5), (12, ptr b12_1 0), (15, ptr b15_5 0), (16, ptr b16_6 0), (17, ptr b17_7 0), (48, .bool x48_10)]) (fun (x48_10 : Bool) => Mo.tt) (fun (x48_10 : Bool) => Ow.star (Blk b17_7 [str y26_4.file_path, i64 y26_4.file_mode, str y26_4.file_data, .bool y26_4.is] 121) (Ow.star (Blk b16_6 [str y23_3.file_path, i64 y23_3.file_mode, str y23_3.file_data, .bool y23_3.is] 121) (Ow.star (Blk b15_5 [str y20_2.file_path, i64 y20_2.file_mode, str y20_2.file_data, .bool y20_2.is] 121) (Ow.star (Blk b12_1 [str [], i64 0, str []] 42) (Ow.emp))))) hS ?_ ?_
 ·
  clear hS
  intro k11 hS
  refine Zr ?_
  refine VL.q (q_field gfa121_1 rfl) (by decide) ?_
  refine VL.q (q_fe gone4 rfl rfl) (by decide) ?_
  refine Zm ?_
  refine VL.split 51 rfl (fun h51 => ?_) (fun h51 => ?_)
  ·
   replace hS := it_t h51 hS
   refine VL.gy rfl rfl (q_field gfa121_1 rfl) (by decide) ?_
   refine VL.gy rfl rfl (q_fe gone4 rfl rfl) (by decide) ?_
   refine Zt ?_
   refine Za ?_
   refine VL.mt y26_4.is [4, 5, 12, 15, 16, 17, 48] (fun _ _ h => h) hS rfl
  replace hS := it_b h51 hS
  refine Zn ?_
  refine Zn ?_
  refine Zf ?_
  refine Za ?_
  refine VL.mt false [4, 5, 12, 15, 16, 17, 48] (fun _ _ h => h) hS rfl
 clear hS
 rintro x48_10 hS
 show VC _ _ _ _ _ [(4, str a_4), (5, str b_5), (12, ptr b12_1 0), (15, ptr b15_5 0), (16, ptr b16_6 0), (17, ptr b17_7 0), (48, .bool x48_10)] (Mo.and Mo.tt _) (Ow.star (Blk b17_7 [str y26_4.file_path, i64 y26_4.file_mode, str y26_4.file_data, .bool y26_4.is] 121) (Ow.star (Blk b16_6 [str y23_3.file_path, i64 y23_3.file_mode, str y23_3.file_data, .bool y23_3.is] 121) (Ow.star (Blk b15_5 [str y20_2.file_path, i64 y20_2.file_mode, str y20_2.file_data, .bool y20_2.is] 121) (Ow.star (Blk b12_1 [str [], i64 0, str []] 42) (Ow.emp)))))
 refine VC.cond rfl (fun h48 => ?_) (fun h48 => ?_)
 ·
  replace hS := it_t h48 hS
  refine Zq (Zr ?_)
  refine VL.q (q_fes gagg121 rfl rfl) (by decide) ?_
  refine VL.q (q_fes gagg121 rfl rfl) (by decide) ?_
  refine VL.q (q_fes gagg121 rfl rfl) (by decide) ?_
  refine Zm ?_
  refine Zm ?_
  obtain ⟨y61_12, ey61_12, hS⟩ := bd_s hS
  refine VL.q (q_call (tmerge_both_ct y20_2 y23_3 y26_4 a_4 b_5 ey61_12) rfl (fun _ _ => rfl)) (by decide) ?_
  refine Zm ?_
  refine VL.q (q_extract rfl rfl) (by decide) ?_
  refine VL.q (q_extract rfl rfl) (by decide) ?_
  refine VL.store (vc := [str y61_12.1.path, i64 y61_12.1.mode, str y61_12.1.data]) (cs' := [str y61_12.1.path, i64 y61_12.1.mode, str y61_12.1.data]) rfl rfl rfl gsz42 rfl rfl (Nat.le_of_ble_eq_true rfl) rfl ?_
  refine Za ?_
  refine Zl ?_
  refine VC.keep [12, 14] rfl ?_
  refine Zq (Zr ?_)
  refine VL.q (q_fes gagg42 rfl rfl) (by decide) ?_
  refine Zm ?_
  refine VL.store (vc := [str y61_12.1.path, i64 y61_12.1.mode, str y61_12.1.data]) (cs' := [str y61_12.1.path, i64 y61_12.1.mode, str y61_12.1.data]) rfl rfl rfl gsz42 rfl rfl (Nat.le_of_ble_eq_true rfl) rfl ?_
  refine Za ?_
  refine Za ?_
  refine Zl ?_
  cases hS
  exact VC.ret (finG (vs := [.agg #[str y61_12.1.path, i64 y61_12.1.mode, str y61_12.1.data], .bool true, .bool y61_12.2]) (.inr rfl) rfl (RVs.cell gagg42 rfl rfl Rd.blk (RVs.tmp rfl (RVs.tmp rfl (RVs.nil)))) () rfl trivial (by (try dsimp only); exact InM.out) (fun _ _ => trivial))
 replace hS := it_b h48 hS
 refine Zq (Zr ?_)
 refine VL.q (q_field gfa121_1 rfl) (by decide) ?_
 refine VL.q (q_fe gone4 rfl rfl) (by decide) ?_
 refine Za ?_
 refine Zl ?_
 refine VC.cond rfl (fun h66 => ?_) (fun h66 => ?_)
 ·
  replace hS := it_t h66 hS
  refine Zq (Zr ?_)
  refine VL.q (q_field gfa121_0 rfl) (by decide) ?_
  refine VL.q (q_fep (j := 0) (n := 3) gagg42 rfl rfl rfl) (by decide) ?_
  refine VL.store (vc := [str y23_3.file_path, i64 y23_3.file_mode, str y23_3.file_data]) (cs' := [str y23_3.file_path, i64 y23_3.file_mode, str y23_3.file_data]) rfl rfl rfl gsz42 rfl rfl (Nat.le_of_ble_eq_true rfl) rfl ?_
  refine Za ?_
  refine Za ?_
  refine Zl ?_
  refine VC.keep [12, 13, 14] rfl ?_
  cases hS
  exact VC.ret (finG (vs := [.agg #[str y23_3.file_path, i64 y23_3.file_mode, str y23_3.file_data], .bool true, .bool true]) (.inr rfl) rfl (RVs.cell gagg42 rfl rfl Rd.blk (RVs.tmp rfl (RVs.tmp rfl (RVs.nil)))) () rfl trivial (by (try dsimp only); exact InM.out) (fun _ _ => trivial))
 replace hS := it_b h66 hS
 refine Zk ?_
 refine Zq (Zr ?_)
 refine VL.q (q_field gfa121_0 rfl) (by decide) ?_
 refine VL.q (q_fep (j := 0) (n := 3) gagg42 rfl rfl rfl) (by decide) ?_
 refine VL.store (vc := [str y26_4.file_path, i64 y26_4.file_mode, str y26_4.file_data]) (cs' := [str y26_4.file_path, i64 y26_4.file_mode, str y26_4.file_data]) rfl rfl rfl gsz42 rfl rfl (Nat.le_of_ble_eq_true rfl) rfl ?_
 refine Za ?_
 refine Za ?_
 refine Zl ?_
 refine VC.keep [12, 13, 14] rfl ?_
 cases hS
 exact VC.ret (finG (vs := [.agg #[str y26_4.file_path, i64 y26_4.file_mode, str y26_4.file_data], .bool true, .bool true]) (.inr rfl) rfl (RVs.cell gagg42 rfl rfl Rd.blk (RVs.tmp rfl (RVs.tmp rfl (RVs.nil)))) () rfl trivial (by (try dsimp only); exact InM.out) (fun _ _ => trivial))
theorem tmerge_stages_ct (p_0 : Str) (rows_1 : Sv (Sv FilesFile)) {r : List IndexEntry} (hS : Sh.tmerge_stages p_0 (rows_1.l.map Sv.l) = some r) :
 Ct Tryz.prog 106 [str p_0, rows_1.val] rows_1.ok (Ow.emp) (X := Sv IndexEntry) (fun x => x.val) (fun x => r = x.l) (fun x => Mo.tt) (fun x => Sv.own x 149) := by
 refine Ct.of Tryz.func106 rfl (by kernel_rfl) Tryz.ntmps106 (by simp) fun c => ?_
 unfold Sh.tmerge_stages at hS
 refine Zq (Zr ?_)
 refine Za ?_
 refine Zl ?_
 refine Zq (Zr ?_)
 refine Za ?_
 refine Zl ?_
 refine Zq (Zq (Zr ?_))
 refine Zm ?_
 refine VL.q (q_lnm Sv.l (s := rows_1) Tryz.underlying171 rfl) (by decide) ?_
 refine Zm ?_
 refine Zl ?_
 refine Zb ?_
 refine VC.nilO (⟨none, 0, []⟩ : Sv IndexEntry) 149 ⟨rfl, rfl⟩ ?_
 refine VC.iter (S := Sv IndexEntry × Int) (fun sg => (sg.1.l, sg.2)) (fun sg => [(0, str p_0), (5, sg.1.val), (10, rows_1.val), (11, i64 ((rows_1.l.map Sv.l).length : Int)), (12, i64 sg.2)]) (fun sg => Mo.tt) (fun sg => Ow.star (Sv.own sg.1 149) (Ow.emp)) (⟨none, 0, []⟩, 0) [0, 5, 10, 11, 12] hS rfl ?_
 clear hS
 rintro ⟨out5_1, x12_2⟩ m1 y1 hS hK1
 show VC _ _ _ _ _ [(0, str p_0), (5, out5_1.val), (10, rows_1.val), (11, i64 ((rows_1.l.map Sv.l).length : Int)), (12, i64 x12_2)] (Mo.and Mo.tt _) (Ow.star (Sv.own out5_1 149) (Ow.emp))
 refine Zq (Zr ?_)
 refine VL.q (q_lss rfl rfl) (by decide) ?_
 refine Zl ?_
 refine Zq ?_
 refine VC.cond_dec rfl (fun h13 => ?_) (fun h13 => ?_)
 ·
  replace hS := it_t h13 hS
  refine Zk ?_
  refine Zq (Zb (Zq (Zr ?_)))
  refine Zm ?_
  obtain ⟨z15_3, nz15_3, hz15_3, hS⟩ := atm_s hS
  refine VL.deep z15_3.ok hz15_3 (fun _ q => q) ?_
  refine VL.q (q_ixm (s := rows_1) Tryz.underlying171 gsz38 rfl rfl nz15_3 (lt_of_get nz15_3 hz15_3)) (by decide) ?_
  refine VL.q (q_el (s := rows_1) gone38 rfl hz15_3 rfl) (by decide) ?_
  refine Za ?_
  refine Za ?_
  refine Zl ?_
  refine Zq (Zr ?_)
  refine Zm ?_
  refine Zm ?_
  obtain ⟨y20_4, ey20_4, hS⟩ := bd_s hS
  refine VL.q (q_call (files_Row_Get_ct z15_3 p_0 ey20_4) rfl (fun _ _ => rfl)) (by decide) ?_
  refine Zm ?_
  refine VL.q (q_extract rfl rfl) (by decide) ?_
  refine VL.q (q_extract rfl rfl) (by decide) ?_
  refine VL.alloc (cs := [str [], i64 0, str []]) (by kernel_rfl) (by decide) fun b8_5 => ?_
  refine VL.store (vc := [str y20_4.1.path, i64 y20_4.1.mode, str y20_4.1.data]) (cs' := [str y20_4.1.path, i64 y20_4.1.mode, str y20_4.1.data]) rfl rfl rfl gsz42 rfl rfl (Nat.le_of_ble_eq_true rfl) rfl ?_
  refine Za ?_
  refine Zl ?_
  refine VC.keep [0, 5, 10, 11, 12, 6, 8, 9] rfl ?_
  refine Zq (Zr ?_)
  refine Zm ?_
  refine Zl ?_
  refine VC.cond rfl (fun h23 => ?_) (fun h23 => ?_)
  ·
   replace hS := it_t h23 hS
   refine Zr ?_
   refine Zm ?_
   refine Zm ?_
   refine Zm ?_
   obtain ⟨b27, hS⟩ := gd_s hS
   refine VL.q (q_add rfl rfl b27) (by decide) ?_
   refine VL.q (q_field gfa42_1 rfl) (by decide) ?_
   refine VL.q (q_fe gone3 rfl rfl) (by decide) ?_
   refine VL.q (q_field gfa42_2 rfl) (by decide) ?_
   refine VL.q (q_fe gone9 rfl rfl) (by decide) ?_
   refine VL.q (q_build (vs := [(0, str p_0), (1, i64 (x12_2 + 1)), (2, i64 y20_4.1.mode), (3, str y20_4.1.data)]) (cs := #[str p_0, i64 (x12_2 + 1), i64 y20_4.1.mode, str y20_4.1.data, i64 0, i64 0]) rfl (by kernel_rfl)) (by decide) ?_
   refine VL.lit (α := IndexEntry) (xs := [.tmp 32]) (vs := [.agg #[str p_0, i64 (x12_2 + 1), i64 y20_4.1.mode, str y20_4.1.data, i64 0, i64 0]]) [⟨p_0, (x12_2 + 1), y20_4.1.mode, y20_4.1.data, 0, 0⟩] Tryz.underlying66 glit149 (by decide) rfl rfl rfl rfl (by decide) (fun _ _ _ _ => trivial) (by decide) (fun s33_6 hs33_6 => ?_) (by decide)
   replace hS := lt_to hs33_6 hS
   obtain ⟨b34, hS⟩ := gd_s hS
   refine VL.app (s := out5_1) (r := s33_6) Tryz.underlying66 gapp149 (by decide) rfl Fo.out (ap1 b34) (ap2 b34 (by decide)) (by decide) (fun s34_8 hs34_8 => ?_)
   replace hS := lt_to hs34_8 hS
   refine Za ?_
   refine Zl ?_
   refine VC.keep [0, 5, 10, 11, 12] rfl ?_
   refine Zr ?_
   obtain ⟨b35, hS⟩ := gd_s hS
   refine VL.q (q_add rfl rfl b35) (by decide) ?_
   refine Zm ?_
   refine VL.rnd (s34_8, (x12_2 + 1)) [0, 5, 10, 11, 12] (fun _ _ h => h) (go2 hS hK1) rfl
  replace hS := it_b h23 hS
  refine Zk ?_
  refine Zr ?_
  obtain ⟨b35, hS⟩ := gd_s hS
  refine VL.q (q_add rfl rfl b35) (by decide) ?_
  refine Zm ?_
  refine VL.rnd (out5_1, (x12_2 + 1)) [0, 5, 10, 11, 12] (fun _ _ h => h) (go2 hS hK1) rfl
 replace hS := it_f h13 hS
 replace hS := up2 hS hK1
 refine Zx ?_
 refine Zq (Zr ?_)
 refine Zm ?_
 refine Za ?_
 refine Zl ?_
 cases hS
 exact VC.ret (fin1 (.inr rfl) rfl rfl out5_1 rfl rfl (by (try dsimp only); exact InM.out) (by (try dsimp only); exact EntO.out))
theorem tmerge_fault_1_ct (g_0 : FilesFile) (a_1_b : Nat) (a_1 : FilesFile) {r : Bool} (hS : Sh.tmerge_fault_1 g_0 a_1 = some r) :
 Ct Tryz.prog 170 [.agg #[str g_0.path, i64 g_0.mode, str g_0.data], ptr a_1_b 0] (Cells a_1_b 0 [str a_1.path, i64 a_1.mode, str a_1.data]) (Ow.emp) (X := Unit) (fun _ => .bool r) (fun _ => True) (fun _ => Mo.tt) (fun _ => Ow.emp) := by
 refine Ct.of Tryz.func170 rfl (by kernel_rfl) Tryz.ntmps170 (by simp) fun c => ?_
 unfold Sh.tmerge_fault_1 at hS
 refine Zq (Zr ?_)
 refine VL.box (cs := [str g_0.path, i64 g_0.mode, str g_0.data]) rfl rfl (by decide) fun b2_1 => ?_
 refine Za ?_
 refine Zl ?_
 refine Zq (Zr ?_)
 refine VL.q (q_field gfa42_0 rfl) (by decide) ?_
 refine VL.q (q_fe gone9 rfl rfl) (by decide) ?_
 refine VL.q (q_field gfa42_0 rfl) (by decide) ?_
 refine VL.q (q_fm gone9 rfl rfl) (by decide) ?_
 obtain ⟨y8_2, ey8_2, hS⟩ := bd_s hS
 refine VL.q (q_call (path_Clash_ct g_0.path a_1.path ey8_2) rfl (fun _ _ => rfl)) (by decide) ?_
 refine Za ?_
 refine Zl ?_
 cases hS
 exact Ze
theorem slices_IndexFunc_files_Row_files_File_v2_ct (s_0 : Sv FilesFile) (f_1_0_b : Nat) (f_1_0 : FilesFile) {r : Int} (hS : Sh.slices_IndexFunc_files_Row_files_File_v2 s_0.l f_1_0 = some r) :
 Ct Tryz.prog 148 [s_0.val, .func (.func 170) #[] #[ptr f_1_0_b 0]] (s_0.ok.and (Cells f_1_0_b 0 [str f_1_0.path, i64 f_1_0.mode, str f_1_0.data])) (Ow.emp) (X := Unit) (fun _ => i64 r) (fun _ => True) (fun _ => Mo.tt) (fun _ => Ow.emp) := by
 refine Ct.of Tryz.func148 rfl (by kernel_rfl) Tryz.ntmps148 (by simp) fun c => ?_
 unfold Sh.slices_IndexFunc_files_Row_files_File_v2 at hS
 refine Zq (Zr ?_)
 refine Za ?_
 refine Zl ?_
 refine Zq (Zq (Zr ?_))
 refine Zm ?_
 refine VL.q (q_ln (s := s_0) Tryz.underlying38 rfl) (by decide) ?_
 refine Zm ?_
 refine Zl ?_
 refine Zb ?_
 refine VC.iter (S := Int) (fun (x8_1 : Int) => x8_1) (fun (x8_1 : Int) => [(0, s_0.val), (1, .func (.func 170) #[] #[ptr f_1_0_b 0]), (7, i64 (s_0.l.length : Int)), (8, i64 x8_1)]) (fun (x8_1 : Int) => Mo.tt) (fun (x8_1 : Int) => Ow.emp) 0 [0, 1, 7, 8] hS rfl ?_
 clear hS
 rintro x8_1 m1 y1 hS hK1
 show VC _ _ _ _ _ [(0, s_0.val), (1, .func (.func 170) #[] #[ptr f_1_0_b 0]), (7, i64 (s_0.l.length : Int)), (8, i64 x8_1)] (Mo.and Mo.tt _) (Ow.emp)
 refine Zq (Zr ?_)
 refine VL.q (q_lss rfl rfl) (by decide) ?_
 refine Zl ?_
 refine Zq ?_
 refine VC.cond_dec rfl (fun h9 => ?_) (fun h9 => ?_)
 ·
  replace hS := it_t h9 hS
  refine Zk ?_
  refine Zq (Zb (Zq (Zr ?_)))
  refine Zm ?_
  refine Za ?_
  refine Zl ?_
  refine Zq (Zr ?_)
  refine Zm ?_
  refine Zm ?_
  refine Zm ?_
  obtain ⟨z14_2, nz14_2, hz14_2, hS⟩ := at_s hS
  refine VL.q (q_ixm (s := s_0) Tryz.underlying38 gsz42 rfl rfl nz14_2 (lt_of_get nz14_2 hz14_2)) (by decide) ?_
  refine VL.q (q_els (s := s_0) gagg42 rfl rfl hz14_2) (by decide) ?_
  obtain ⟨y16_3, ey16_3, hS⟩ := bd_s hS
  refine VL.q (q_callVC (vs := [.agg #[str z14_2.path, i64 z14_2.mode, str z14_2.data]]) (caps := [ptr f_1_0_b 0]) (tmerge_fault_1_ct z14_2 f_1_0_b f_1_0 ey16_3) rfl rfl (fun _ _ => rfl)) (by decide) ?_
  refine Zl ?_
  refine VC.keep [0, 1, 7, 8, 5, 16] rfl ?_
  refine VC.cond rfl (fun h16 => ?_) (fun h16 => ?_)
  ·
   replace hS := it_t h16 hS
   refine Zq (Zr ?_)
   refine Zm ?_
   refine Za ?_
   refine Zl ?_
   replace hS := up2 hS hK1
   cases hS
   exact Ze
  replace hS := it_b h16 hS
  refine Zk ?_
  refine Zr ?_
  obtain ⟨b18, hS⟩ := gd_s hS
  refine VL.q (q_add rfl rfl b18) (by decide) ?_
  refine Zm ?_
  refine VL.rnd (x8_1 + 1) [0, 1, 7, 8] (fun _ _ h => h) (go2 hS hK1) rfl
 replace hS := it_f h9 hS
 replace hS := up2 hS hK1
 refine Zx ?_
 refine Zq (Zr ?_)
 refine Za ?_
 refine Zl ?_
 cases hS
 exact Ze
theorem slices_ContainsFunc_files_Row_files_File_v2_ct (s_0 : Sv FilesFile) (f_1_0_b : Nat) (f_1_0 : FilesFile) {r : Bool} (hS : Sh.slices_ContainsFunc_files_Row_files_File_v2 s_0.l f_1_0 = some r) :
 Ct Tryz.prog 124 [s_0.val, .func (.func 170) #[] #[ptr f_1_0_b 0]] (s_0.ok.and (Cells f_1_0_b 0 [str f_1_0.path, i64 f_1_0.mode, str f_1_0.data])) (Ow.emp) (X := Unit) (fun _ => .bool r) (fun _ => True) (fun _ => Mo.tt) (fun _ => Ow.emp) := by
 refine Ct.of Tryz.func124 rfl (by kernel_rfl) Tryz.ntmps124 (by simp) fun c => ?_
 unfold Sh.slices_ContainsFunc_files_Row_files_File_v2 at hS
 refine Zq (Zr ?_)
 refine Za ?_
 refine Zl ?_
 refine Zq (Zr ?_)
 refine Zm ?_
 refine Zm ?_
 obtain ⟨y7_1, ey7_1, hS⟩ := bd_s hS
 refine VL.q (q_callR (slices_IndexFunc_files_Row_files_File_v2_ct s_0 f_1_0_b f_1_0 ey7_1) rfl (fun _ _ => rfl)) (by decide) ?_
 refine VL.q (q_geq rfl rfl) (by decide) ?_
 refine Za ?_
 refine Zl ?_
 cases hS
 exact Ze
theorem tmerge_fault_ct (r_0 : Sv FilesFile) {r : Err} (hS : Sh.tmerge_fault r_0.l = some r) :
 Ct Tryz.prog 107 [r_0.val] r_0.ok (Ow.emp) (X := Er) (fun x => x.val) (fun x => r = x.pl) (fun x => x.ok) (fun x => Ow.emp) := by
 refine Ct.of Tryz.func107 rfl (by kernel_rfl) Tryz.ntmps107 (by simp) fun c => ?_
 unfold Sh.tmerge_fault at hS
 refine Zq (Zr ?_)
 refine Za ?_
 refine Zl ?_
 refine Zq (Zq (Zr ?_))
 refine Zm ?_
 refine VL.q (q_ln (s := r_0) Tryz.underlying38 rfl) (by decide) ?_
 refine VL.q (q_gtr rfl rfl) (by decide) ?_
 refine Zl ?_
 refine VC.cond_dec rfl (fun h7 => ?_) (fun h7 => ?_)
 ·
  replace hS := it_t h7 hS
  refine Zq (Zr ?_)
  refine VL.q (q_mkif Tryz.underlying115 (fun _ h => by cases h) rfl) (by decide) ?_
  refine VL.q (q_build (vs := [(0, str [102, 105, 108, 101]), (1, i64 64), (2, (Er.no 4).val)]) (cs := #[str [102, 105, 108, 101], i64 64, (Er.no 4).val]) rfl (by kernel_rfl)) (by decide) ?_
  refine VL.box (cs := [str [102, 105, 108, 101], i64 64, (Er.no 4).val]) rfl rfl (by decide) fun b10_1 => ?_
  refine VL.shutB b10_1 ?_
  refine VL.q (q_mkif Tryz.underlying114 (fun _ h => by cases h) rfl) (by decide) ?_
  refine Za ?_
  refine Zl ?_
  cases hS
  exact VC.ret (fin1 (.inr rfl) rfl rfl (Er.fault b10_1 [102, 105, 108, 101] 64 (Er.no 4)) rfl rfl (by (try dsimp only); exact InM.out) (fun _ _ => trivial))
 replace hS := it_f h7 hS
 refine Zk ?_
 refine Zq (Zq (Zr ?_))
 refine Zm ?_
 refine VL.q (q_ln (s := r_0) Tryz.underlying38 rfl) (by decide) ?_
 refine Zm ?_
 refine Zl ?_
 refine Zb ?_
 refine VC.iter (S := Int) (fun (x14_2 : Int) => x14_2) (fun (x14_2 : Int) => [(0, r_0.val), (12, r_0.val), (13, i64 (r_0.l.length : Int)), (14, i64 x14_2)]) (fun (x14_2 : Int) => Mo.tt) (fun (x14_2 : Int) => Ow.emp) 0 [0, 12, 13, 14] hS rfl ?_
 clear hS
 rintro x14_2 m1 y1 hS hK1
 show VC _ _ _ _ _ [(0, r_0.val), (12, r_0.val), (13, i64 (r_0.l.length : Int)), (14, i64 x14_2)] (Mo.and Mo.tt _) (Ow.emp)
 refine Zq (Zr ?_)
 refine VL.q (q_lss rfl rfl) (by decide) ?_
 refine Zl ?_
 refine Zq ?_
 refine VC.cond_dec rfl (fun h15 => ?_) (fun h15 => ?_)
 ·
  replace hS := it_t h15 hS
  refine Zk ?_
  refine Zq (Zb (Zq (Zr ?_)))
  refine Zm ?_
  obtain ⟨z17_3, nz17_3, hz17_3, hS⟩ := at_s hS
  refine VL.q (q_ixm (s := r_0) Tryz.underlying38 gsz42 rfl rfl nz17_3 (lt_of_get nz17_3 hz17_3)) (by decide) ?_
  refine VL.q (q_els (s := r_0) gagg42 rfl rfl hz17_3) (by decide) ?_
  refine VL.alloc (cs := [str [], i64 0, str []]) (by kernel_rfl) (by decide) fun b4_4 => ?_
  refine Za ?_
  refine VL.store (vc := [str z17_3.path, i64 z17_3.mode, str z17_3.data]) (cs' := [str z17_3.path, i64 z17_3.mode, str z17_3.data]) rfl rfl rfl gsz42 rfl rfl (Nat.le_of_ble_eq_true rfl) rfl ?_
  refine Zl ?_
  refine Zq (Zr ?_)
  refine Zm ?_
  refine Zm ?_
  obtain ⟨b21, hS⟩ := gd_s hS
  refine VL.sto Tryz.underlying38 gsz42 rfl rfl b21.1 (b21.2) (by decide) fun s21_5 hs21_5 => ?_
  replace hS := lt_to hs21_5 hS
  refine VL.q (q_mkfn rfl) (by decide) ?_
  obtain ⟨y23_7, ey23_7, hS⟩ := bd_s hS
  refine VL.q (q_callR (slices_ContainsFunc_files_Row_files_File_v2_ct s21_5 b4_4 z17_3 ey23_7) rfl (fun _ _ => rfl)) (by decide) ?_
  refine Zl ?_
  refine VC.keep [0, 12, 13, 14, 3, 23] rfl ?_
  refine VC.cond rfl (fun h23 => ?_) (fun h23 => ?_)
  ·
   replace hS := it_t h23 hS
   refine Zq (Zr ?_)
   refine Zm ?_
   refine VL.q (q_mkif Tryz.underlying115 (fun _ h => by cases h) rfl) (by decide) ?_
   refine VL.q (q_build (vs := [(0, str [102, 105, 108, 101]), (1, i64 x14_2), (2, (Er.no 11).val)]) (cs := #[str [102, 105, 108, 101], i64 x14_2, (Er.no 11).val]) rfl (by kernel_rfl)) (by decide) ?_
   refine VL.box (cs := [str [102, 105, 108, 101], i64 x14_2, (Er.no 11).val]) rfl rfl (by decide) fun b27_8 => ?_
   refine VL.shutB b27_8 ?_
   refine VL.q (q_mkif Tryz.underlying114 (fun _ h => by cases h) rfl) (by decide) ?_
   refine Za ?_
   refine Zl ?_
   refine VC.keep [2] rfl ?_
   replace hS := up2 hS hK1
   cases hS
   exact VC.ret (fin1 (.inr rfl) rfl rfl (Er.fault b27_8 [102, 105, 108, 101] x14_2 (Er.no 11)) rfl rfl (by (try dsimp only); exact InM.out) (fun _ _ => trivial))
  replace hS := it_b h23 hS
  refine Zk ?_
  refine Zr ?_
  obtain ⟨b29, hS⟩ := gd_s hS
  refine VL.q (q_add rfl rfl b29) (by decide) ?_
  refine Zm ?_
  refine VL.rnd (x14_2 + 1) [0, 12, 13, 14] (fun _ _ h => h) (go2 hS hK1) rfl
 replace hS := it_f h15 hS
 replace hS := up2 hS hK1
 refine Zx ?_
 refine Zq (Zr ?_)
 refine Za ?_
 refine Zl ?_
 cases hS
 exact VC.ret (fin1 (.inr rfl) rfl rfl .nil rfl rfl (by (try dsimp only); exact InM.out) (fun _ _ => trivial))
theorem slices_Clip_files_Row_files_File_ct (s_0 : Sv FilesFile) {r : List FilesFile} (hS : Sh.slices_Clip_files_Row_files_File s_0.l = some r) :
 Ct Tryz.prog 75 [s_0.val] s_0.ok (Ow.emp) (X := Sv FilesFile) (fun x => x.val) (fun x => r = x.l) (fun x => x.ok) (fun x => Ow.emp) := by
 refine Ct.of Tryz.func75 rfl (by kernel_rfl) Tryz.ntmps75 (by simp) fun c => ?_
 unfold Sh.slices_Clip_files_Row_files_File at hS
 refine Zq (Zr ?_)
 refine Za ?_
 refine Zl ?_
 refine Zq (Zr ?_)
 refine Zm ?_
 refine Zm ?_
 refine VL.q (q_ln (s := s_0) Tryz.underlying38 rfl) (by decide) ?_
 refine Zm ?_
 refine VL.q (q_ln (s := s_0) Tryz.underlying38 rfl) (by decide) ?_
 obtain ⟨b8, hS⟩ := gd_s hS
 refine VL.stom Tryz.underlying38 gsz42 rfl rfl rfl b8.1 (b8.2) (by decide) fun s8_1 hs8_1 => ?_
 replace hS := lt_to hs8_1 hS
 refine Za ?_
 refine Zl ?_
 cases hS
 exact VC.ret (fin1 (.inr rfl) rfl rfl s8_1 rfl rfl (by (try dsimp only); exact InM.out) (fun _ _ => trivial))
theorem slices_Clip_index_Entry_index_Entry_ct (s_0 : Sv IndexEntry) {r : List IndexEntry} (hS : Sh.slices_Clip_index_Entry_index_Entry s_0.l = some r) :
 Ct Tryz.prog 100 [s_0.val] s_0.ok (Ow.emp) (X := Sv IndexEntry) (fun x => x.val) (fun x => r = x.l) (fun x => x.ok) (fun x => Ow.emp) := by
 refine Ct.of Tryz.func100 rfl (by kernel_rfl) Tryz.ntmps100 (by simp) fun c => ?_
 unfold Sh.slices_Clip_index_Entry_index_Entry at hS
 refine Zq (Zr ?_)
 refine Za ?_
 refine Zl ?_
 refine Zq (Zr ?_)
 refine Zm ?_
 refine Zm ?_
 refine VL.q (q_ln (s := s_0) Tryz.underlying66 rfl) (by decide) ?_
 refine Zm ?_
 refine VL.q (q_ln (s := s_0) Tryz.underlying66 rfl) (by decide) ?_
 obtain ⟨b8, hS⟩ := gd_s hS
 refine VL.stom Tryz.underlying66 gsz149 rfl rfl rfl b8.1 (b8.2) (by decide) fun s8_1 hs8_1 => ?_
 replace hS := lt_to hs8_1 hS
 refine Za ?_
 refine Zl ?_
 cases hS
 exact VC.ret (fin1 (.inr rfl) rfl rfl s8_1 rfl rfl (by (try dsimp only); exact InM.out) (fun _ _ => trivial))
theorem tmerge_Merge_ct (base_0 : Sv FilesFile) (ours_1 : Sv FilesFile) (theirs_2 : Sv FilesFile) (a_3 : Str) (b_4 : Str) {r : TmergeResultP × Err} (hS : Sh.tmerge_Merge base_0.l ours_1.l theirs_2.l a_3 b_4 = some r) :
 Ct Tryz.prog 46 [base_0.val, ours_1.val, theirs_2.val, str a_3, str b_4] (base_0.ok.and (ours_1.ok.and theirs_2.ok)) (Ow.emp) (X := TmergeResult × Er) (fun x => .tuple #[.agg (Dat.enc x.1).toArray, x.2.val]) (fun x => r = (x.1.pl, x.2.pl)) (fun x => (x.1.m.and x.2.ok)) (fun x => Ow.emp) := by
 refine Ct.of Tryz.func46 rfl (by kernel_rfl) Tryz.ntmps46 (by simp) fun c => ?_
 unfold Sh.tmerge_Merge at hS
 refine Zq (Zr ?_)
 refine VL.alloc (cs := [.slice none 0 0, .slice none 0 0, .slice none 0 0]) (by kernel_rfl) (by decide) fun b10_1 => ?_
 refine Za ?_
 refine Zl ?_
 refine Zq (Zq (Zr ?_))
 refine Zm ?_
 refine Zm ?_
 refine Zm ?_
 refine VL.lit (α := Sv FilesFile) (xs := [.tmp 22, .tmp 23, .tmp 24]) (vs := [base_0.val, ours_1.val, theirs_2.val]) [base_0, ours_1, theirs_2] Tryz.underlying171 glit38 (by decide) rfl rfl rfl rfl (by decide) (fun h m => List.forall_mem_cons.2 ⟨InM.out (X := base_0.ok) h m, List.forall_mem_cons.2 ⟨InM.out (X := ours_1.ok) h m, List.forall_mem_cons.2 ⟨InM.out (X := theirs_2.ok) h m, fun _ h => by cases h⟩⟩⟩) (by decide) (fun s25_2 hs25_2 => ?_) (by decide)
 replace hS := lt_to (congrArg (List.map Sv.l) hs25_2) hS
 refine VL.q (q_lnm Sv.l (s := s25_2) Tryz.underlying171 rfl) (by decide) ?_
 refine Zm ?_
 refine Zl ?_
 refine Zb ?_
 refine VC.iter (S := Int) (fun (x27_4 : Int) => x27_4) (fun (x27_4 : Int) => [(0, base_0.val), (1, ours_1.val), (2, theirs_2.val), (3, str a_3), (4, str b_4), (10, ptr b10_1 0), (25, s25_2.val), (26, i64 ((s25_2.l.map Sv.l).length : Int)), (27, i64 x27_4)]) (fun (x27_4 : Int) => Mo.tt) (fun (x27_4 : Int) => Ow.star (Blk b10_1 [.slice none 0 0, .slice none 0 0, .slice none 0 0] 86) (Ow.emp)) 0 [0, 1, 2, 3, 4, 10, 25, 26, 27] hS rfl ?_
 clear hS
 rintro x27_4 m1 y1 hS hK1
 show VC _ _ _ _ _ [(0, base_0.val), (1, ours_1.val), (2, theirs_2.val), (3, str a_3), (4, str b_4), (10, ptr b10_1 0), (25, s25_2.val), (26, i64 ((s25_2.l.map Sv.l).length : Int)), (27, i64 x27_4)] (Mo.and Mo.tt _) (Ow.star (Blk b10_1 [.slice none 0 0, .slice none 0 0, .slice none 0 0] 86) (Ow.emp))
 refine Zq (Zr ?_)
 refine VL.q (q_lss rfl rfl) (by decide) ?_
 refine Zl ?_
 refine Zq ?_
 refine VC.cond_dec rfl (fun h28 => ?_) (fun h28 => ?_)
 ·
  replace hS := it_t h28 hS
  refine Zk ?_
  refine Zq (Zb (Zq (Zr ?_)))
  obtain ⟨z29_5, nz29_5, hz29_5, hS⟩ := atm_s hS
  refine VL.deep z29_5.ok hz29_5 (fun _ q => q) ?_
  refine VL.q (q_ixm (s := s25_2) Tryz.underlying171 gsz38 rfl rfl nz29_5 (lt_of_get nz29_5 hz29_5)) (by decide) ?_
  refine VL.q (q_el (s := s25_2) gone38 rfl hz29_5 rfl) (by decide) ?_
  refine Za ?_
  refine Zl ?_
  refine Zq (Zr ?_)
  refine Zm ?_
  obtain ⟨y32_6, ey32_6, hS⟩ := bd_s hS
  refine VL.callF (files_Row_Check_ct z29_5 ey32_6) rfl (by decide) ?_
  rintro q32_6_0 rfl
  try dsimp only
  refine Za ?_
  refine Zl ?_
  refine Zq (Zr ?_)
  refine Zm ?_
  refine VL.q (q_erne Tryz.underlying29 rfl) (by decide) ?_
  refine Zl ?_
  refine VC.keep [0, 1, 2, 3, 4, 10, 25, 26, 27, 14, 34] rfl ?_
  refine VC.cond_ndec rfl (fun h34 => ?_) (fun h34 => ?_)
  ·
   replace hS := it_f h34 hS
   refine Zq (Zr ?_)
   refine VL.q (q_build (vs := []) (cs := #[.slice none 0 0, .slice none 0 0, .slice none 0 0]) rfl (by kernel_rfl)) (by decide) ?_
   refine Zm ?_
   refine VL.store (vc := [.slice none 0 0, .slice none 0 0, .slice none 0 0]) (cs' := [.slice none 0 0, .slice none 0 0, .slice none 0 0]) rfl rfl rfl gsz86 rfl rfl (Nat.le_of_ble_eq_true rfl) rfl ?_
   refine Za ?_
   refine Zl ?_
   refine VC.keep [10, 11] rfl ?_
   replace hS := up2 hS hK1
   cases hS
   exact VC.ret (finG (vs := [.agg #[.slice none 0 0, .slice none 0 0, .slice none 0 0], q32_6_0.val]) (.inr rfl) rfl (RVs.cell gagg86 rfl rfl Rd.blk (RVs.tmp rfl (RVs.nil))) (⟨⟨none, 0, []⟩, ⟨none, 0, []⟩, ⟨none, 0, []⟩⟩, q32_6_0) rfl rfl (by (try dsimp only); exact InM.out) (fun _ _ => trivial))
  replace hS := it_t h34 hS
  refine Zk ?_
  refine Zr ?_
  obtain ⟨b37, hS⟩ := gd_s hS
  refine VL.q (q_add rfl rfl b37) (by decide) ?_
  refine Zm ?_
  refine VL.rnd (x27_4 + 1) [0, 1, 2, 3, 4, 10, 25, 26, 27] (fun _ _ h => h) (go2 hS hK1) rfl
 replace hS := it_f h28 hS
 replace hS := up2 hS hK1
 refine Zx ?_
 refine Zq (Zr ?_)
 refine VL.alloc (cs := [.slice none 0 0, .slice none 0 0, .slice none 0 0]) (by kernel_rfl) (by decide) fun b15_7 => ?_
 refine Zl ?_
 refine Zq (Zq (Zr ?_))
 refine Zm ?_
 refine Zm ?_
 refine Zm ?_
 refine VL.lit (α := Sv FilesFile) (xs := [.tmp 38, .tmp 39, .tmp 40]) (vs := [base_0.val, ours_1.val, theirs_2.val]) [base_0, ours_1, theirs_2] Tryz.underlying171 glit38 (by decide) rfl rfl rfl rfl (by decide) (fun h m => List.forall_mem_cons.2 ⟨InM.out (X := base_0.ok) h m, List.forall_mem_cons.2 ⟨InM.out (X := ours_1.ok) h m, List.forall_mem_cons.2 ⟨InM.out (X := theirs_2.ok) h m, fun _ h => by cases h⟩⟩⟩) (by decide) (fun s41_8 hs41_8 => ?_) (by decide)
 replace hS := lt_to (congrArg (List.map Sv.l) hs41_8) hS
 obtain ⟨y42_10, ey42_10, hS⟩ := bd_s hS
 refine VL.callF (files_Paths_ct s41_8 ey42_10) rfl (by decide) ?_
 rintro q42_10_0 rfl
 try dsimp only
 refine VL.q (q_ln (s := q42_10_0) Tryz.underlying82 rfl) (by decide) ?_
 refine Zm ?_
 refine Zl ?_
 refine VC.keep [0, 1, 2, 3, 4, 10, 15, 42, 43, 44] rfl ?_
 refine Zb ?_
 refine VC.nilO (⟨none, 0, []⟩ : Sv FilesFile) 42 ⟨rfl, rfl⟩ ?_
 refine VC.nilO (⟨none, 0, []⟩ : Sv IndexEntry) 149 ⟨rfl, rfl⟩ ?_
 refine VC.nilO (⟨none, 0, []⟩ : Sv Str) 9 ⟨rfl, rfl⟩ ?_
 refine VC.reB b15_7 (cs' := [(⟨none, 0, []⟩ : Sv FilesFile).val, (⟨none, 0, []⟩ : Sv IndexEntry).val, (⟨none, 0, []⟩ : Sv Str).val]) rfl ?_
 refine VC.iter (S := Int × Sv FilesFile × Sv IndexEntry × Sv Str) (fun sg => (sg.1, sg.2.1.l, sg.2.2.1.l, sg.2.2.2.l)) (fun sg => [(0, base_0.val), (1, ours_1.val), (2, theirs_2.val), (3, str a_3), (4, str b_4), (10, ptr b10_1 0), (15, ptr b15_7 0), (42, q42_10_0.val), (43, i64 (q42_10_0.l.length : Int)), (44, i64 sg.1)]) (fun sg => Mo.tt) (fun sg => Ow.star (Blk b15_7 [sg.2.1.val, sg.2.2.1.val, sg.2.2.2.val] 86) (Ow.star (Blk b10_1 [.slice none 0 0, .slice none 0 0, .slice none 0 0] 86) (Ow.star (Sv.own sg.2.1 42) (Ow.star (Sv.own sg.2.2.1 149) (Ow.star (Sv.own sg.2.2.2 9) (Ow.emp)))))) (0, (⟨none, 0, []⟩ : Sv FilesFile), (⟨none, 0, []⟩ : Sv IndexEntry), (⟨none, 0, []⟩ : Sv Str)) [0, 1, 2, 3, 4, 10, 15, 42, 43, 44] hS rfl ?_
 clear hS
 rintro ⟨x44_11, c0_12, c1_13, c2_14⟩ m1 y1 hS hK1
 show VC _ _ _ _ _ [(0, base_0.val), (1, ours_1.val), (2, theirs_2.val), (3, str a_3), (4, str b_4), (10, ptr b10_1 0), (15, ptr b15_7 0), (42, q42_10_0.val), (43, i64 (q42_10_0.l.length : Int)), (44, i64 x44_11)] (Mo.and Mo.tt _) (Ow.star (Blk b15_7 [c0_12.val, c1_13.val, c2_14.val] 86) (Ow.star (Blk b10_1 [.slice none 0 0, .slice none 0 0, .slice none 0 0] 86) (Ow.star (Sv.own c0_12 42) (Ow.star (Sv.own c1_13 149) (Ow.star (Sv.own c2_14 9) (Ow.emp))))))
 refine Zq (Zr ?_)
 refine VL.q (q_lss rfl rfl) (by decide) ?_
 refine Zl ?_
 refine Zq ?_
 refine VC.cond_dec rfl (fun h45 => ?_) (fun h45 => ?_)
 ·
  replace hS := it_t h45 hS
  refine Zk ?_
  refine Zq (Zb (Zq (Zr ?_)))
  obtain ⟨z46_15, nz46_15, hz46_15, hS⟩ := at_s hS
  refine VL.q (q_ixm (s := q42_10_0) Tryz.underlying82 gsz9 rfl rfl nz46_15 (lt_of_get nz46_15 hz46_15)) (by decide) ?_
  refine VL.q (q_el (s := q42_10_0) gone9 rfl hz46_15 rfl) (by decide) ?_
  refine Za ?_
  refine Zl ?_
  refine Zq (Zr ?_)
  refine Zm ?_
  refine Zm ?_
  refine Zm ?_
  refine Zm ?_
  refine Zm ?_
  refine Zm ?_
  obtain ⟨y55_16, ey55_16, hS⟩ := bd_s hS
  refine VL.q (q_call (tmerge_One_ct z46_15 base_0 ours_1 theirs_2 a_3 b_4 ey55_16) rfl (fun _ _ => rfl)) (by decide) ?_
  refine Zm ?_
  refine VL.q (q_extract rfl rfl) (by decide) ?_
  refine VL.q (q_extract rfl rfl) (by decide) ?_
  refine VL.q (q_extract rfl rfl) (by decide) ?_
  refine VL.alloc (cs := [str [], i64 0, str []]) (by kernel_rfl) (by decide) fun b18_17 => ?_
  refine VL.store (vc := [str y55_16.1.path, i64 y55_16.1.mode, str y55_16.1.data]) (cs' := [str y55_16.1.path, i64 y55_16.1.mode, str y55_16.1.data]) rfl rfl rfl gsz42 rfl rfl (Nat.le_of_ble_eq_true rfl) rfl ?_
  refine Za ?_
  refine Za ?_
  refine Zl ?_
  refine VC.keep [0, 1, 2, 3, 4, 10, 15, 42, 43, 44, 17, 18, 19, 20] rfl ?_
  refine VC.cutJ (S := Sv FilesFile) (fun (c0_18 : Sv FilesFile) => c0_18.l) (fun (c0_18 : Sv FilesFile) => [(0, base_0.val), (1, ours_1.val), (2, theirs_2.val), (3, str a_3), (4, str b_4), (10, ptr b10_1 0), (15, ptr b15_7 0), (17, str z46_15), (20, .bool y55_16.2.2), (42, q42_10_0.val), (43, i64 (q42_10_0.l.length : Int)), (44, i64 x44_11)]) (fun (c0_18 : Sv FilesFile) => Mo.tt) (fun (c0_18 : Sv FilesFile) => Ow.star (Blk b18_17 [str y55_16.1.path, i64 y55_16.1.mode, str y55_16.1.data] 42) (Ow.star (Blk b15_7 [c0_18.val, c1_13.val, c2_14.val] 86) (Ow.star (Blk b10_1 [.slice none 0 0, .slice none 0 0, .slice none 0 0] 86) (Ow.star (Sv.own c1_13 149) (Ow.star (Sv.own c2_14 9) (Ow.star (Sv.own c0_18 42) (Ow.emp))))))) hS ?_ ?_
  ·
   clear hS
   intro k19 hS
   refine Zq (Zr ?_)
   refine Zm ?_
   refine Zl ?_
   refine VC.cond rfl (fun h59 => ?_) (fun h59 => ?_)
   ·
    replace hS := it_t h59 hS
    refine Zr ?_
    refine VL.q (q_field gfa86_0 rfl) (by decide) ?_
    refine VL.q (q_fe gone38 rfl rfl) (by decide) ?_
    refine VL.q (q_fes gagg42 rfl rfl) (by decide) ?_
    refine VL.lit (α := FilesFile) (xs := [.tmp 62]) (vs := [.agg #[str y55_16.1.path, i64 y55_16.1.mode, str y55_16.1.data]]) [⟨y55_16.1.path, y55_16.1.mode, y55_16.1.data⟩] Tryz.underlying38 glit42 (by decide) rfl rfl rfl rfl (by decide) (fun _ _ _ _ => trivial) (by decide) (fun s63_20 hs63_20 => ?_) (by decide)
    replace hS := lt_to hs63_20 hS
    obtain ⟨b64, hS⟩ := gd_s hS
    refine VL.app (s := c0_12) (r := s63_20) Tryz.underlying38 gapp42 (by decide) rfl Fo.out (ap1 b64) (ap2 b64 (by decide)) (by decide) (fun s64_22 hs64_22 => ?_)
    replace hS := lt_to hs64_22 hS
    refine VL.q (q_field gfa86_0 rfl) (by decide) ?_
    refine VL.store (vc := [s64_22.val]) (cs' := [s64_22.val, c1_13.val, c2_14.val]) rfl rfl rfl gsz38 rfl rfl (Nat.le_of_ble_eq_true rfl) rfl ?_
    refine VL.mt s64_22 [0, 1, 2, 3, 4, 10, 15, 17, 20, 42, 43, 44] (fun _ _ h => h) hS rfl
   replace hS := it_b h59 hS
   refine VC.skip_mt c0_12 [0, 1, 2, 3, 4, 10, 15, 17, 20, 42, 43, 44] (fun _ _ h => h) hS rfl
  clear hS
  rintro c0_18 hS
  show VC _ _ _ _ _ [(0, base_0.val), (1, ours_1.val), (2, theirs_2.val), (3, str a_3), (4, str b_4), (10, ptr b10_1 0), (15, ptr b15_7 0), (17, str z46_15), (20, .bool y55_16.2.2), (42, q42_10_0.val), (43, i64 (q42_10_0.l.length : Int)), (44, i64 x44_11)] (Mo.and Mo.tt _) (Ow.star (Blk b18_17 [str y55_16.1.path, i64 y55_16.1.mode, str y55_16.1.data] 42) (Ow.star (Blk b15_7 [c0_18.val, c1_13.val, c2_14.val] 86) (Ow.star (Blk b10_1 [.slice none 0 0, .slice none 0 0, .slice none 0 0] 86) (Ow.star (Sv.own c1_13 149) (Ow.star (Sv.own c2_14 9) (Ow.star (Sv.own c0_18 42) (Ow.emp)))))))
  refine Zq (Zr ?_)
  refine Zm ?_
  refine Zl ?_
  refine VC.cond rfl (fun h66 => ?_) (fun h66 => ?_)
  ·
   replace hS := it_t h66 hS
   refine Zq (Zr ?_)
   refine VL.q (q_field gfa86_2 rfl) (by decide) ?_
   refine VL.q (q_fe gone82 rfl rfl) (by decide) ?_
   refine Zm ?_
   refine VL.lit (α := Str) (xs := [.tmp 69]) (vs := [str z46_15]) [z46_15] Tryz.underlying82 glit9 (by decide) rfl rfl rfl rfl (by decide) (fun _ _ _ _ => trivial) (by decide) (fun s70_24 hs70_24 => ?_) (by decide)
   replace hS := lt_to hs70_24 hS
   obtain ⟨b71, hS⟩ := gd_s hS
   refine VL.app (s := c2_14) (r := s70_24) Tryz.underlying82 gapp9 (by decide) rfl Fo.out (ap1 b71) (ap2 b71 (by decide)) (by decide) (fun s71_26 hs71_26 => ?_)
   replace hS := lt_to hs71_26 hS
   refine VL.q (q_field gfa86_2 rfl) (by decide) ?_
   refine VL.store (vc := [s71_26.val]) (cs' := [c0_18.val, c1_13.val, s71_26.val]) rfl rfl rfl gsz82 rfl rfl (Nat.le_of_ble_eq_true rfl) rfl ?_
   refine Zl ?_
   refine VC.keep [0, 1, 2, 3, 4, 10, 15, 17, 42, 43, 44] rfl ?_
   refine VC.draw [(0, true), (1, true), (2, true), (3, true), (4, true), (5, true), (6, false), (7, false), (8, false), (9, true), (10, false)] mixed (by kernel_rfl) (by kernel_rfl) (by kernel_rfl) ?_
   refine VD.q rfl (q_field gfa86_1 rfl) (by decide) ?_
   refine VD.q rfl (q_fe gone66 rfl rfl) (by decide) ?_
   refine VD.q rfl (q_move rfl) (by decide) ?_
   refine VD.q rfl (q_move rfl) (by decide) ?_
   refine VD.q rfl (q_move rfl) (by decide) ?_
   refine VD.q rfl (q_move rfl) (by decide) ?_
   refine VD.one rfl ?_
   refine VL.lit (α := Sv FilesFile) (xs := [.tmp 76, .tmp 77, .tmp 78]) (vs := [base_0.val, ours_1.val, theirs_2.val]) [base_0, ours_1, theirs_2] Tryz.underlying171 glit38 (by decide) rfl rfl rfl rfl (by decide) (fun h m => List.forall_mem_cons.2 ⟨InM.out (X := base_0.ok) h m, List.forall_mem_cons.2 ⟨InM.out (X := ours_1.ok) h m, List.forall_mem_cons.2 ⟨InM.out (X := theirs_2.ok) h m, fun _ h => by cases h⟩⟩⟩) (by decide) (fun s79_28 hs79_28 => ?_) (by decide)
   replace hS := lt_to (congrArg (List.map Sv.l) hs79_28) hS
   refine VL.back (D' := [(1, c1_13.val), (0, ptr b15_7 1)]) (by kernel_rfl) (Pend.cons rfl (q_fe gone66 rfl rfl) (Pend.cons rfl (q_field gfa86_1 rfl) (Pend.nil))) ?_
   refine VD.one rfl ?_
   obtain ⟨y80_30, ey80_30, hS⟩ := bd_s hS
   refine VL.callO (tmerge_stages_ct z46_15 s79_28 ey80_30) rfl (by decide) ?_
   rintro q80_30_0 rfl
   try dsimp only
   refine VL.back (D' := [(1, c1_13.val), (0, ptr b15_7 1)]) (by kernel_rfl) (Pend.cons rfl (q_fe gone66 rfl rfl) (Pend.cons rfl (q_field gfa86_1 rfl) (Pend.nil))) ?_
   refine VD.one rfl ?_
   refine VL.shut q80_30_0 149 (fun _ _ _ _ => trivial) ?_
   obtain ⟨b81, hS⟩ := gd_s hS
   refine VL.app (s := c1_13) (r := q80_30_0) Tryz.underlying66 gapp149 (by decide) rfl Fo.out (ap1 b81) (ap2 b81 (by decide)) (by decide) (fun s81_31 hs81_31 => ?_)
   replace hS := lt_to hs81_31 hS
   refine VL.back (D' := []) (by kernel_rfl) (Pend.nil) ?_
   refine VD.q rfl (q_field gfa86_1 rfl) (by decide) ?_
   refine VD.one rfl ?_
   refine VL.store (vc := [s81_31.val]) (cs' := [c0_18.val, s81_31.val, s71_26.val]) rfl rfl rfl gsz66 rfl rfl (Nat.le_of_ble_eq_true rfl) rfl ?_
   refine VL.back (D' := []) (by kernel_rfl) (Pend.nil) ?_
   refine VD.to (fun _ _ h => h) ?_
   refine VC.keep [0, 1, 2, 3, 4, 10, 15, 42, 43, 44] rfl ?_
   refine Zr ?_
   obtain ⟨b83, hS⟩ := gd_s hS
   refine VL.q (q_add rfl rfl b83) (by decide) ?_
   refine Zm ?_
   refine VL.rnd ((x44_11 + 1), c0_18, s81_31, s71_26) [0, 1, 2, 3, 4, 10, 15, 42, 43, 44] (fun _ _ h => h) (go2 hS hK1) rfl
  replace hS := it_b h66 hS
  refine Zk ?_
  refine Zr ?_
  obtain ⟨b83, hS⟩ := gd_s hS
  refine VL.q (q_add rfl rfl b83) (by decide) ?_
  refine Zm ?_
  refine VL.rnd ((x44_11 + 1), c0_18, c1_13, c2_14) [0, 1, 2, 3, 4, 10, 15, 42, 43, 44] (fun _ _ h => h) (go2 hS hK1) rfl
 replace hS := it_f h45 hS
 replace hS := up2 hS hK1
 refine Zx ?_
 refine VC.keep [10, 15] rfl ?_
 refine Zq (Zq (Zr ?_))
 refine VL.q (q_field gfa86_0 rfl) (by decide) ?_
 refine VL.q (q_fe gone38 rfl rfl) (by decide) ?_
 refine VL.shut c0_12 42 (fun _ _ _ _ => trivial) ?_
 obtain ⟨y86_33, ey86_33, hS⟩ := bd_s hS
 refine VL.callF (tmerge_fault_ct c0_12 ey86_33) rfl (by decide) ?_
 rintro q86_33_0 rfl
 try dsimp only
 refine Za ?_
 refine Zl ?_
 refine Zq (Zr ?_)
 refine Zm ?_
 refine VL.q (q_erne Tryz.underlying29 rfl) (by decide) ?_
 refine Zl ?_
 refine VC.cond_ndec rfl (fun h88 => ?_) (fun h88 => ?_)
 ·
  replace hS := it_f h88 hS
  refine Zq (Zr ?_)
  refine VL.q (q_build (vs := []) (cs := #[.slice none 0 0, .slice none 0 0, .slice none 0 0]) rfl (by kernel_rfl)) (by decide) ?_
  refine Zm ?_
  refine VL.store (vc := [.slice none 0 0, .slice none 0 0, .slice none 0 0]) (cs' := [.slice none 0 0, .slice none 0 0, .slice none 0 0]) rfl rfl rfl gsz86 rfl rfl (Nat.le_of_ble_eq_true rfl) rfl ?_
  refine Za ?_
  refine Zl ?_
  refine VC.keep [10, 11] rfl ?_
  cases hS
  exact VC.ret (finG (vs := [.agg #[.slice none 0 0, .slice none 0 0, .slice none 0 0], q86_33_0.val]) (.inr rfl) rfl (RVs.cell gagg86 rfl rfl Rd.blk (RVs.tmp rfl (RVs.nil))) (⟨⟨none, 0, []⟩, ⟨none, 0, []⟩, ⟨none, 0, []⟩⟩, q86_33_0) rfl rfl (by (try dsimp only); exact InM.out) (fun _ _ => trivial))
 replace hS := it_t h88 hS
 refine Zk ?_
 refine Zq ?_
 refine VC.draw [(0, true), (1, true), (3, true), (4, true), (6, true), (7, true), (2, false), (5, false), (8, false), (9, true), (10, false), (11, true)] mixed (by kernel_rfl) (by kernel_rfl) (by kernel_rfl) ?_
 refine VD.q rfl (q_field gfa86_0 rfl) (by decide) ?_
 refine VD.q rfl (q_fe gone38 rfl rfl) (by decide) ?_
 refine VD.q rfl (q_field gfa86_1 rfl) (by decide) ?_
 refine VD.q rfl (q_fe gone66 rfl rfl) (by decide) ?_
 refine VD.q rfl (q_field gfa86_2 rfl) (by decide) ?_
 refine VD.q rfl (q_fe gone82 rfl rfl) (by decide) ?_
 refine VD.one rfl ?_
 obtain ⟨y93_34, ey93_34, hS⟩ := bd_s hS
 refine VL.callF (slices_Clip_files_Row_files_File_ct c0_12 ey93_34) rfl (by decide) ?_
 rintro q93_34_0 rfl
 try dsimp only
 refine VL.back (D' := [(7, c2_14.val), (6, ptr b15_7 2), (4, c1_13.val), (3, ptr b15_7 1)]) (by kernel_rfl) (Pend.cons rfl (q_fe gone82 rfl rfl) (Pend.cons rfl (q_field gfa86_2 rfl) (Pend.cons rfl (q_fe gone66 rfl rfl) (Pend.cons rfl (q_field gfa86_1 rfl) (Pend.nil))))) ?_
 refine VD.one rfl ?_
 refine VL.shut c1_13 149 (fun _ _ _ _ => trivial) ?_
 obtain ⟨y96_35, ey96_35, hS⟩ := bd_s hS
 refine VL.callF (slices_Clip_index_Entry_index_Entry_ct c1_13 ey96_35) rfl (by decide) ?_
 rintro q96_35_0 rfl
 try dsimp only
 refine VL.back (D' := [(7, c2_14.val), (6, ptr b15_7 2)]) (by kernel_rfl) (Pend.cons rfl (q_fe gone82 rfl rfl) (Pend.cons rfl (q_field gfa86_2 rfl) (Pend.nil))) ?_
 refine VD.one rfl ?_
 refine VL.shut c2_14 9 (fun _ _ _ _ => trivial) ?_
 obtain ⟨y99_36, ey99_36, hS⟩ := bd_s hS
 refine VL.callF (slices_Clip_string_string_ct c2_14 ey99_36) rfl (by decide) ?_
 rintro q99_36_0 rfl
 try dsimp only
 refine VL.back (D' := []) (by kernel_rfl) (Pend.nil) ?_
 refine VD.q rfl (q_build (vs := [(0, q93_34_0.val), (1, q96_35_0.val), (2, q99_36_0.val)]) (cs := #[q93_34_0.val, q96_35_0.val, q99_36_0.val]) rfl (by kernel_rfl)) (by decide) ?_
 refine VD.one rfl ?_
 refine VL.store (vc := [q93_34_0.val, q96_35_0.val, q99_36_0.val]) (cs' := [q93_34_0.val, q96_35_0.val, q99_36_0.val]) rfl rfl rfl gsz86 rfl rfl (Nat.le_of_ble_eq_true rfl) rfl ?_
 refine VL.back (D' := []) (by kernel_rfl) (Pend.nil) ?_
 refine VD.q rfl (q_assign rfl) (by decide) ?_
 refine VD.to (fun _ _ h => h) ?_
 refine VC.keep [10, 11] rfl ?_
 cases hS
 exact VC.ret (finG (vs := [.agg #[q93_34_0.val, q96_35_0.val, q99_36_0.val], .nilIface]) (.inr rfl) rfl (RVs.cell gagg86 rfl rfl Rd.blk (RVs.tmp rfl (RVs.nil))) (⟨q93_34_0, q96_35_0, q99_36_0⟩, .nil) rfl rfl (by (try dsimp only); exact InM.out) (fun _ _ => trivial))
theorem rectolaw16_known_ct  {r : Bool} (hS : Sh.rectolaw16_known = some r) :
 Ct Tryz.prog 12 [] Mo.tt (Ow.emp) (X := Unit) (fun _ => .bool r) (fun _ => True) (fun _ => Mo.tt) (fun _ => Ow.emp) := by
 refine Ct.of Tryz.func12 rfl (by kernel_rfl) Tryz.ntmps12 (by simp) fun c => ?_
 unfold Sh.rectolaw16_known at hS
 refine Zq (Zr ?_)
 refine Za ?_
 refine Zl ?_
 refine Zq (Zr ?_)
 refine VL.q (q_build (vs := [(0, str [97]), (1, i64 1), (2, str [120, 10])]) (cs := #[str [97], i64 1, str [120, 10]]) rfl (by kernel_rfl)) (by decide) ?_
 refine VL.q (q_build (vs := [(0, str [98]), (1, i64 1), (2, str [121, 10])]) (cs := #[str [98], i64 1, str [121, 10]]) rfl (by kernel_rfl)) (by decide) ?_
 refine VL.lit (α := FilesFile) (xs := [.tmp 9, .tmp 10]) (vs := [.agg #[str [97], i64 1, str [120, 10]], .agg #[str [98], i64 1, str [121, 10]]]) [⟨[97], 1, [120, 10]⟩, ⟨[98], 1, [121, 10]⟩] Tryz.underlying38 glit42 (by decide) rfl rfl rfl rfl (by decide) (fun _ _ _ _ => trivial) (by decide) (fun s11_1 hs11_1 => ?_) (by decide)
 replace hS := lt_to hs11_1 hS
 refine Za ?_
 refine Zl ?_
 refine Zq (Zr ?_)
 refine VL.q (q_build (vs := [(0, str [97]), (1, i64 1), (2, str [88, 10])]) (cs := #[str [97], i64 1, str [88, 10]]) rfl (by kernel_rfl)) (by decide) ?_
 refine VL.q (q_build (vs := [(0, str [98]), (1, i64 1), (2, str [49, 10])]) (cs := #[str [98], i64 1, str [49, 10]]) rfl (by kernel_rfl)) (by decide) ?_
 refine VL.lit (α := FilesFile) (xs := [.tmp 12, .tmp 13]) (vs := [.agg #[str [97], i64 1, str [88, 10]], .agg #[str [98], i64 1, str [49, 10]]]) [⟨[97], 1, [88, 10]⟩, ⟨[98], 1, [49, 10]⟩] Tryz.underlying38 glit42 (by decide) rfl rfl rfl rfl (by decide) (fun _ _ _ _ => trivial) (by decide) (fun s14_3 hs14_3 => ?_) (by decide)
 replace hS := lt_to hs14_3 hS
 refine Za ?_
 refine Zl ?_
 refine Zq (Zr ?_)
 refine VL.q (q_build (vs := [(0, str [97]), (1, i64 1), (2, str [120, 10])]) (cs := #[str [97], i64 1, str [120, 10]]) rfl (by kernel_rfl)) (by decide) ?_
 refine VL.q (q_build (vs := [(0, str [98]), (1, i64 1), (2, str [50, 10])]) (cs := #[str [98], i64 1, str [50, 10]]) rfl (by kernel_rfl)) (by decide) ?_
 refine VL.lit (α := FilesFile) (xs := [.tmp 15, .tmp 16]) (vs := [.agg #[str [97], i64 1, str [120, 10]], .agg #[str [98], i64 1, str [50, 10]]]) [⟨[97], 1, [120, 10]⟩, ⟨[98], 1, [50, 10]⟩] Tryz.underlying38 glit42 (by decide) rfl rfl rfl rfl (by decide) (fun _ _ _ _ => trivial) (by decide) (fun s17_5 hs17_5 => ?_) (by decide)
 replace hS := lt_to hs17_5 hS
 refine Za ?_
 refine Zl ?_
 refine VC.keep [1, 2, 3] rfl ?_
 refine Zq (Zr ?_)
 refine Zm ?_
 refine Zm ?_
 refine Zm ?_
 obtain ⟨y22_7, ey22_7, hS⟩ := bd_s hS
 refine VL.callF (tmerge_Merge_ct s11_1 s14_3 s17_5 [112] [113] ey22_7) rfl (by decide) ?_
 rintro ⟨q22_7_0, q22_7_1⟩ rfl
 try dsimp only
 refine Zm ?_
 refine VL.q (q_extract rfl rfl) (by decide) ?_
 refine VL.q (q_extract rfl rfl) (by decide) ?_
 refine VL.alloc (cs := [.slice none 0 0, .slice none 0 0, .slice none 0 0]) (by kernel_rfl) (by decide) fun b4_8 => ?_
 refine VL.store (vc := [q22_7_0.files.val, q22_7_0.entries.val, q22_7_0.conflicts.val]) (cs' := [q22_7_0.files.val, q22_7_0.entries.val, q22_7_0.conflicts.val]) rfl rfl rfl gsz86 rfl rfl (Nat.le_of_ble_eq_true rfl) rfl ?_
 refine Za ?_
 refine Zl ?_
 refine VC.keep [1, 2, 3, 4, 5] rfl ?_
 refine Zq (Zr ?_)
 refine Zm ?_
 refine Zm ?_
 refine Zm ?_
 obtain ⟨y29_9, ey29_9, hS⟩ := bd_s hS
 refine VL.q (q_call (tmerge_One_ct [97] s11_1 s14_3 s17_5 [112] [113] ey29_9) rfl (fun _ _ => rfl)) (by decide) ?_
 refine Zm ?_
 refine VL.q (q_extract rfl rfl) (by decide) ?_
 refine VL.q (q_extract rfl rfl) (by decide) ?_
 refine VL.q (q_extract rfl rfl) (by decide) ?_
 refine VL.alloc (cs := [str [], i64 0, str []]) (by kernel_rfl) (by decide) fun b6_10 => ?_
 refine VL.store (vc := [str y29_9.1.path, i64 y29_9.1.mode, str y29_9.1.data]) (cs' := [str y29_9.1.path, i64 y29_9.1.mode, str y29_9.1.data]) rfl rfl rfl gsz42 rfl rfl (Nat.le_of_ble_eq_true rfl) rfl ?_
 refine Za ?_
 refine Za ?_
 refine Zl ?_
 refine VC.keep [4, 5, 6, 7, 8] rfl ?_
 refine Zq (Zr ?_)
 refine Zm ?_
 refine VL.q (q_ereq Tryz.underlying29 rfl) (by decide) ?_
 refine Zm ?_
 refine VL.split_dec 35 rfl (fun h35 => ?_) (fun h35 => ?_)
 ·
  replace hS := it_t h35 hS
  refine VL.gy rfl rfl (q_field gfa86_0 rfl) (by decide) ?_
  refine VL.gy rfl rfl (q_fe gone38 rfl rfl) (by decide) ?_
  refine VL.gy rfl rfl (q_ln (s := q22_7_0.files) Tryz.underlying38 rfl) (by decide) ?_
  refine VL.gy rfl rfl (q_eql rfl rfl) (by decide) ?_
  refine Zt ?_
  refine Zm ?_
  refine VL.split_dec 41 rfl (fun h41 => ?_) (fun h41 => ?_)
  ·
   replace hS := it_t h41 hS
   refine VL.gy rfl rfl (q_field gfa86_0 rfl) (by decide) ?_
   refine VL.gy rfl rfl (q_fe gone38 rfl rfl) (by decide) ?_
   obtain ⟨z44_11, nz44_11, hz44_11, hS⟩ := at_s hS
   refine VL.gy rfl rfl (q_ixm (s := q22_7_0.files) Tryz.underlying38 gsz42 rfl rfl nz44_11 (lt_of_get nz44_11 hz44_11)) (by decide) ?_
   refine VL.gy rfl rfl (q_field gfa42_2 rfl) (by decide) ?_
   refine VL.gy rfl rfl (q_elf (s := q22_7_0.files) gone9 rfl hz44_11 rfl) (by decide) ?_
   refine VL.gy rfl rfl (q_seq rfl rfl) (by decide) ?_
   refine Zt ?_
   refine Zm ?_
   refine VL.split_dec 49 rfl (fun h49 => ?_) (fun h49 => ?_)
   ·
    replace hS := it_t h49 hS
    refine VL.gy rfl rfl (q_field gfa86_2 rfl) (by decide) ?_
    refine VL.gy rfl rfl (q_fe gone82 rfl rfl) (by decide) ?_
    refine VL.gy rfl rfl (q_ln (s := q22_7_0.conflicts) Tryz.underlying82 rfl) (by decide) ?_
    refine VL.gy rfl rfl (q_eql rfl rfl) (by decide) ?_
    refine Zt ?_
    refine Zm ?_
    refine VL.split_dec 55 rfl (fun h55 => ?_) (fun h55 => ?_)
    ·
     replace hS := it_t h55 hS
     refine VL.gy rfl rfl (q_field gfa86_2 rfl) (by decide) ?_
     refine VL.gy rfl rfl (q_fe gone82 rfl rfl) (by decide) ?_
     obtain ⟨z58_12, nz58_12, hz58_12, hS⟩ := at_s hS
     refine VL.gy rfl rfl (q_ixm (s := q22_7_0.conflicts) Tryz.underlying82 gsz9 rfl rfl nz58_12 (lt_of_get nz58_12 hz58_12)) (by decide) ?_
     refine VL.gy rfl rfl (q_el (s := q22_7_0.conflicts) gone9 rfl hz58_12 rfl) (by decide) ?_
     refine VL.gy rfl rfl (q_seq rfl rfl) (by decide) ?_
     refine Zt ?_
     refine Zm ?_
     refine VL.split_dec 62 rfl (fun h62 => ?_) (fun h62 => ?_)
     ·
      replace hS := it_t h62 hS
      refine VL.gy rfl rfl (q_field gfa86_1 rfl) (by decide) ?_
      refine VL.gy rfl rfl (q_fe gone66 rfl rfl) (by decide) ?_
      refine VL.gy rfl rfl (q_ln (s := q22_7_0.entries) Tryz.underlying66 rfl) (by decide) ?_
      refine VL.gy rfl rfl (q_eql rfl rfl) (by decide) ?_
      refine Zt ?_
      refine Zm ?_
      refine VL.split_dec 68 rfl (fun h68 => ?_) (fun h68 => ?_)
      ·
       replace hS := it_t h68 hS
       refine VL.gy rfl rfl (q_field gfa42_2 rfl) (by decide) ?_
       refine VL.gy rfl rfl (q_fe gone9 rfl rfl) (by decide) ?_
       refine VL.gy rfl rfl (q_seq rfl rfl) (by decide) ?_
       refine Zt ?_
       refine Zm ?_
       refine VL.split_dec 73 rfl (fun h73 => ?_) (fun h73 => ?_)
       ·
        replace hS := it_t h73 hS
        refine Zg ?_
        refine Zt ?_
        refine Zm ?_
        refine VL.split 76 rfl (fun h76 => ?_) (fun h76 => ?_)
        ·
         replace hS := it_t h76 hS
         refine Zg ?_
         refine VL.gy rfl rfl (q_not rfl) (by decide) ?_
         refine Zt ?_
         refine Za ?_
         refine Zl ?_
         refine VC.keep [0] rfl ?_
         cases hS
         exact Ze
        replace hS := it_b h76 hS
        refine Zn ?_
        refine Zn ?_
        refine Zf ?_
        refine Za ?_
        refine Zl ?_
        refine VC.keep [0] rfl ?_
        cases hS
        exact Ze
       replace hS := it_f h73 hS
       refine Zn ?_
       refine Zf ?_
       refine Zm ?_
       refine Zn ?_
       refine Zn ?_
       refine Zf ?_
       refine Za ?_
       refine Zl ?_
       refine VC.keep [0] rfl ?_
       cases hS
       exact Ze
      replace hS := it_f h68 hS
      refine Zn ?_
      refine Zn ?_
      refine Zn ?_
      refine Zf ?_
      refine Zm ?_
      refine Zn ?_
      refine Zf ?_
      refine Zm ?_
      refine Zn ?_
      refine Zn ?_
      refine Zf ?_
      refine Za ?_
      refine Zl ?_
      refine VC.keep [0] rfl ?_
      cases hS
      exact Ze
     replace hS := it_f h62 hS
     refine Zn ?_
     refine Zn ?_
     refine Zn ?_
     refine Zn ?_
     refine Zf ?_
     refine Zm ?_
     refine Zn ?_
     refine Zn ?_
     refine Zn ?_
     refine Zf ?_
     refine Zm ?_
     refine Zn ?_
     refine Zf ?_
     refine Zm ?_
     refine Zn ?_
     refine Zn ?_
     refine Zf ?_
     refine Za ?_
     refine Zl ?_
     refine VC.keep [0] rfl ?_
     cases hS
     exact Ze
    replace hS := it_f h55 hS
    refine Zn ?_
    refine Zn ?_
    refine Zn ?_
    refine Zn ?_
    refine Zn ?_
    refine Zf ?_
    refine Zm ?_
    refine Zn ?_
    refine Zn ?_
    refine Zn ?_
    refine Zn ?_
    refine Zf ?_
    refine Zm ?_
    refine Zn ?_
    refine Zn ?_
    refine Zn ?_
    refine Zf ?_
    refine Zm ?_
    refine Zn ?_
    refine Zf ?_
    refine Zm ?_
    refine Zn ?_
    refine Zn ?_
    refine Zf ?_
    refine Za ?_
    refine Zl ?_
    refine VC.keep [0] rfl ?_
    cases hS
    exact Ze
   replace hS := it_f h49 hS
   refine Zn ?_
   refine Zn ?_
   refine Zn ?_
   refine Zn ?_
   refine Zf ?_
   refine Zm ?_
   refine Zn ?_
   refine Zn ?_
   refine Zn ?_
   refine Zn ?_
   refine Zn ?_
   refine Zf ?_
   refine Zm ?_
   refine Zn ?_
   refine Zn ?_
   refine Zn ?_
   refine Zn ?_
   refine Zf ?_
   refine Zm ?_
   refine Zn ?_
   refine Zn ?_
   refine Zn ?_
   refine Zf ?_
   refine Zm ?_
   refine Zn ?_
   refine Zf ?_
   refine Zm ?_
   refine Zn ?_
   refine Zn ?_
   refine Zf ?_
   refine Za ?_
   refine Zl ?_
   refine VC.keep [0] rfl ?_
   cases hS
   exact Ze
  replace hS := it_f h41 hS
  refine Zn ?_
  refine Zn ?_
  refine Zn ?_
  refine Zn ?_
  refine Zn ?_
  refine Zn ?_
  refine Zf ?_
  refine Zm ?_
  refine Zn ?_
  refine Zn ?_
  refine Zn ?_
  refine Zn ?_
  refine Zf ?_
  refine Zm ?_
  refine Zn ?_
  refine Zn ?_
  refine Zn ?_
  refine Zn ?_
  refine Zn ?_
  refine Zf ?_
  refine Zm ?_
  refine Zn ?_
  refine Zn ?_
  refine Zn ?_
  refine Zn ?_
  refine Zf ?_
  refine Zm ?_
  refine Zn ?_
  refine Zn ?_
  refine Zn ?_
  refine Zf ?_
  refine Zm ?_
  refine Zn ?_
  refine Zf ?_
  refine Zm ?_
  refine Zn ?_
  refine Zn ?_
  refine Zf ?_
  refine Za ?_
  refine Zl ?_
  refine VC.keep [0] rfl ?_
  cases hS
  exact Ze
 replace hS := it_f h35 hS
 refine Zn ?_
 refine Zn ?_
 refine Zn ?_
 refine Zn ?_
 refine Zf ?_
 refine Zm ?_
 refine Zn ?_
 refine Zn ?_
 refine Zn ?_
 refine Zn ?_
 refine Zn ?_
 refine Zn ?_
 refine Zf ?_
 refine Zm ?_
 refine Zn ?_
 refine Zn ?_
 refine Zn ?_
 refine Zn ?_
 refine Zf ?_
 refine Zm ?_
 refine Zn ?_
 refine Zn ?_
 refine Zn ?_
 refine Zn ?_
 refine Zn ?_
 refine Zf ?_
 refine Zm ?_
 refine Zn ?_
 refine Zn ?_
 refine Zn ?_
 refine Zn ?_
 refine Zf ?_
 refine Zm ?_
 refine Zn ?_
 refine Zn ?_
 refine Zn ?_
 refine Zf ?_
 refine Zm ?_
 refine Zn ?_
 refine Zf ?_
 refine Zm ?_
 refine Zn ?_
 refine Zn ?_
 refine Zf ?_
 refine Za ?_
 refine Zl ?_
 refine VC.keep [0] rfl ?_
 cases hS
 exact Ze
theorem rectolaw14_Few_ct (r_0 : Sv FilesFile) {r : Bool} (hS : Sh.rectolaw14_Few r_0.l = some r) :
 Ct Tryz.prog 13 [r_0.val] r_0.ok (Ow.emp) (X := Unit) (fun _ => .bool r) (fun _ => True) (fun _ => Mo.tt) (fun _ => Ow.emp) := by
 refine Ct.of Tryz.func13 rfl (by kernel_rfl) Tryz.ntmps13 (by simp) fun c => ?_
 unfold Sh.rectolaw14_Few at hS
 refine Zq (Zr ?_)
 refine Za ?_
 refine Zl ?_
 refine Zq (Zq (Zr ?_))
 refine Zm ?_
 refine VL.q (q_ln (s := r_0) Tryz.underlying38 rfl) (by decide) ?_
 refine VL.q (q_gtr rfl rfl) (by decide) ?_
 refine Zl ?_
 refine VC.cond_dec rfl (fun h6 => ?_) (fun h6 => ?_)
 ·
  replace hS := it_t h6 hS
  refine Zq (Zr ?_)
  refine Za ?_
  refine Zl ?_
  cases hS
  exact Ze
 replace hS := it_f h6 hS
 refine Zk ?_
 refine Zq (Zq (Zr ?_))
 refine Za ?_
 refine Zl ?_
 refine Zb ?_
 refine VC.iter (S := Int) (fun (i3_1 : Int) => i3_1) (fun (i3_1 : Int) => [(0, r_0.val), (3, i64 i3_1)]) (fun (i3_1 : Int) => Mo.tt) (fun (i3_1 : Int) => Ow.emp) 0 [0, 3] hS rfl ?_
 clear hS
 rintro i3_1 m1 y1 hS hK1
 show VC _ _ _ _ _ [(0, r_0.val), (3, i64 i3_1)] (Mo.and Mo.tt _) (Ow.emp)
 refine Zq (Zq (Zr ?_))
 refine Zm ?_
 refine Zm ?_
 refine VL.q (q_ln (s := r_0) Tryz.underlying38 rfl) (by decide) ?_
 refine VL.q (q_lss rfl rfl) (by decide) ?_
 refine Zl ?_
 refine VC.cond_dec rfl (fun h10 => ?_) (fun h10 => ?_)
 ·
  replace hS := it_t h10 hS
  refine Zk ?_
  refine Zq (Zb ?_)
  refine VC.cutJ (S := Bool) (fun (x28_2 : Bool) => x28_2) (fun (x28_2 : Bool) => [(0, r_0.val), (3, i64 i3_1), (28, .bool x28_2)]) (fun (x28_2 : Bool) => Mo.tt) (fun (x28_2 : Bool) => Ow.emp) hS ?_ ?_
  ·
   clear hS
   intro k3 hS
   refine Zr ?_
   refine Zm ?_
   refine Zm ?_
   obtain ⟨z15_4, nz15_4, hz15_4, hS⟩ := at_s hS
   refine VL.q (q_ixm (s := r_0) Tryz.underlying38 gsz42 rfl rfl nz15_4 (lt_of_get nz15_4 hz15_4)) (by decide) ?_
   refine VL.q (q_field gfa42_0 rfl) (by decide) ?_
   refine VL.q (q_elf (s := r_0) gone9 rfl hz15_4 rfl) (by decide) ?_
   refine VL.q (q_slen Tryz.underlying9 rfl) (by decide) ?_
   refine VL.q (q_gtr rfl rfl) (by decide) ?_
   refine Zm ?_
   refine VL.split_dec 20 rfl (fun h20 => ?_) (fun h20 => ?_)
   ·
    replace hS := it_t h20 hS
    refine Zn ?_
    refine Zn ?_
    refine Zn ?_
    refine Zn ?_
    refine Zn ?_
    refine Zn ?_
    refine Zn ?_
    refine Zt ?_
    refine VL.mt true [0, 3, 28] (fun _ _ h => h) hS rfl
   replace hS := it_f h20 hS
   refine Zg ?_
   refine Zg ?_
   obtain ⟨z23_5, nz23_5, hz23_5, hS⟩ := at_s hS
   refine VL.gy rfl rfl (q_ixm (s := r_0) Tryz.underlying38 gsz42 rfl rfl nz23_5 (lt_of_get nz23_5 hz23_5)) (by decide) ?_
   refine VL.gy rfl rfl (q_field gfa42_2 rfl) (by decide) ?_
   refine VL.gy rfl rfl (q_elf (s := r_0) gone9 rfl hz23_5 rfl) (by decide) ?_
   refine VL.gy rfl rfl (q_slen Tryz.underlying9 rfl) (by decide) ?_
   refine VL.gy rfl rfl (q_gtr rfl rfl) (by decide) ?_
   refine Zf ?_
   refine VL.mt (decide (5000 < (z23_5.data.length : Int))) [0, 3, 28] (fun _ _ h => h) hS rfl
  clear hS
  rintro x28_2 hS
  show VC _ _ _ _ _ [(0, r_0.val), (3, i64 i3_1), (28, .bool x28_2)] (Mo.and Mo.tt _) (Ow.emp)
  refine VC.cond rfl (fun h28 => ?_) (fun h28 => ?_)
  ·
   replace hS := it_t h28 hS
   refine Zq (Zr ?_)
   refine Za ?_
   refine Zl ?_
   replace hS := up2 hS hK1
   cases hS
   exact Ze
  replace hS := it_b h28 hS
  refine Zk ?_
  refine Zr ?_
  refine Zm ?_
  obtain ⟨b12, hS⟩ := gd_s hS
  refine VL.q (q_add rfl rfl b12) (by decide) ?_
  refine Za ?_
  refine VL.rnd (i3_1 + 1) [0, 3] (fun _ _ h => h) (go2 hS hK1) rfl
 replace hS := it_f h10 hS
 replace hS := up2 hS hK1
 refine Zx ?_
 refine Zq (Zr ?_)
 refine Za ?_
 refine Zl ?_
 cases hS
 exact Ze
theorem rectolaw16_short_ct (r_0 : Sv FilesFile) {r : Bool} (hS : Sh.rectolaw16_short r_0.l = some r) :
 Ct Tryz.prog 14 [r_0.val] r_0.ok (Ow.emp) (X := Unit) (fun _ => .bool r) (fun _ => True) (fun _ => Mo.tt) (fun _ => Ow.emp) := by
 refine Ct.of Tryz.func14 rfl (by kernel_rfl) Tryz.ntmps14 (by simp) fun c => ?_
 unfold Sh.rectolaw16_short at hS
 refine Zq (Zr ?_)
 refine Za ?_
 refine Zl ?_
 refine Zq (Zq (Zr ?_))
 refine Zm ?_
 refine VL.q (q_ln (s := r_0) Tryz.underlying38 rfl) (by decide) ?_
 refine VL.q (q_gtr rfl rfl) (by decide) ?_
 refine Zl ?_
 refine VC.cond_dec rfl (fun h7 => ?_) (fun h7 => ?_)
 ·
  replace hS := it_t h7 hS
  refine Zq (Zr ?_)
  refine Zm ?_
  refine VL.q (q_ln (s := r_0) Tryz.underlying38 rfl) (by decide) ?_
  refine VL.q (q_gtr rfl rfl) (by decide) ?_
  refine Zm ?_
  refine VL.split_dec 11 rfl (fun h11 => ?_) (fun h11 => ?_)
  ·
   replace hS := it_t h11 hS
   refine Zg ?_
   refine VL.gy rfl rfl (q_ln (s := r_0) Tryz.underlying38 rfl) (by decide) ?_
   refine VL.gy rfl rfl (q_leq rfl rfl) (by decide) ?_
   refine Zt ?_
   refine Za ?_
   refine Zl ?_
   refine VC.keep [2] rfl ?_
   cases hS
   exact Ze
  replace hS := it_f h11 hS
  refine Zn ?_
  refine Zn ?_
  refine Zn ?_
  refine Zf ?_
  refine Za ?_
  refine Zl ?_
  refine VC.keep [2] rfl ?_
  cases hS
  exact Ze
 replace hS := it_f h7 hS
 refine Zk ?_
 refine Zq (Zr ?_)
 refine Za ?_
 refine Zl ?_
 refine Zq (Zq (Zr ?_))
 refine Za ?_
 refine Zl ?_
 refine Zb ?_
 refine VC.iter (S := Int × Int) (fun sg => (sg.1, sg.2)) (fun sg => [(0, r_0.val), (3, i64 sg.1), (4, i64 sg.2)]) (fun sg => Mo.tt) (fun sg => Ow.emp) (0, 0) [0, 3, 4] hS rfl ?_
 clear hS
 rintro ⟨n3_1, i4_2⟩ m1 y1 hS hK1
 show VC _ _ _ _ _ [(0, r_0.val), (3, i64 n3_1), (4, i64 i4_2)] (Mo.and Mo.tt _) (Ow.emp)
 refine Zq (Zq (Zr ?_))
 refine Zm ?_
 refine Zm ?_
 refine VL.q (q_ln (s := r_0) Tryz.underlying38 rfl) (by decide) ?_
 refine VL.q (q_lss rfl rfl) (by decide) ?_
 refine Zl ?_
 refine VC.cond_dec rfl (fun h19 => ?_) (fun h19 => ?_)
 ·
  replace hS := it_t h19 hS
  refine Zk ?_
  refine Zq (Zb (Zq (Zr ?_)))
  refine Zm ?_
  refine Zm ?_
  refine Zm ?_
  obtain ⟨z25_3, nz25_3, hz25_3, hS⟩ := at_s hS
  refine VL.q (q_ixm (s := r_0) Tryz.underlying38 gsz42 rfl rfl nz25_3 (lt_of_get nz25_3 hz25_3)) (by decide) ?_
  refine VL.q (q_field gfa42_2 rfl) (by decide) ?_
  refine VL.q (q_elf (s := r_0) gone9 rfl hz25_3 rfl) (by decide) ?_
  refine VL.q (q_slen Tryz.underlying9 rfl) (by decide) ?_
  obtain ⟨b29, hS⟩ := gd_s hS
  refine VL.q (q_add rfl rfl b29) (by decide) ?_
  refine Za ?_
  refine Zl ?_
  refine VC.keep [0, 3, 4] rfl ?_
  refine VC.cutJ (S := Bool) (fun (x45_4 : Bool) => x45_4) (fun (x45_4 : Bool) => [(0, r_0.val), (3, i64 (n3_1 + (z25_3.data.length : Int))), (4, i64 i4_2), (45, .bool x45_4)]) (fun (x45_4 : Bool) => Mo.tt) (fun (x45_4 : Bool) => Ow.emp) hS ?_ ?_
  ·
   clear hS
   intro k5 hS
   refine Zr ?_
   refine Zm ?_
   refine Zm ?_
   obtain ⟨z32_6, nz32_6, hz32_6, hS⟩ := at_s hS
   refine VL.q (q_ixm (s := r_0) Tryz.underlying38 gsz42 rfl rfl nz32_6 (lt_of_get nz32_6 hz32_6)) (by decide) ?_
   refine VL.q (q_field gfa42_2 rfl) (by decide) ?_
   refine VL.q (q_elf (s := r_0) gone9 rfl hz32_6 rfl) (by decide) ?_
   refine VL.q (q_slen Tryz.underlying9 rfl) (by decide) ?_
   refine VL.q (q_gtr rfl rfl) (by decide) ?_
   refine Zm ?_
   refine VL.split_dec 37 rfl (fun h37 => ?_) (fun h37 => ?_)
   ·
    replace hS := it_t h37 hS
    refine Zg ?_
    refine Zg ?_
    obtain ⟨z40_7, nz40_7, hz40_7, hS⟩ := at_s hS
    refine VL.gy rfl rfl (q_ixm (s := r_0) Tryz.underlying38 gsz42 rfl rfl nz40_7 (lt_of_get nz40_7 hz40_7)) (by decide) ?_
    refine VL.gy rfl rfl (q_field gfa42_2 rfl) (by decide) ?_
    refine VL.gy rfl rfl (q_elf (s := r_0) gone9 rfl hz40_7 rfl) (by decide) ?_
    refine VL.gy rfl rfl (q_slen Tryz.underlying9 rfl) (by decide) ?_
    refine VL.gy rfl rfl (q_leq rfl rfl) (by decide) ?_
    refine Zt ?_
    refine VL.mt (decide ((z40_7.data.length : Int) ≤ 4096)) [0, 3, 4, 45] (fun _ _ h => h) hS rfl
   replace hS := it_f h37 hS
   refine Zn ?_
   refine Zn ?_
   refine Zn ?_
   refine Zn ?_
   refine Zn ?_
   refine Zn ?_
   refine Zn ?_
   refine Zf ?_
   refine VL.mt false [0, 3, 4, 45] (fun _ _ h => h) hS rfl
  clear hS
  rintro x45_4 hS
  show VC _ _ _ _ _ [(0, r_0.val), (3, i64 (n3_1 + (z25_3.data.length : Int))), (4, i64 i4_2), (45, .bool x45_4)] (Mo.and Mo.tt _) (Ow.emp)
  refine VC.cond rfl (fun h45 => ?_) (fun h45 => ?_)
  ·
   replace hS := it_t h45 hS
   refine Zq (Zr ?_)
   refine Za ?_
   refine Zl ?_
   replace hS := up2 hS hK1
   cases hS
   exact Ze
  replace hS := it_b h45 hS
  refine Zk ?_
  refine Zr ?_
  refine Zm ?_
  obtain ⟨b21, hS⟩ := gd_s hS
  refine VL.q (q_add rfl rfl b21) (by decide) ?_
  refine Za ?_
  refine VL.rnd ((n3_1 + (z25_3.data.length : Int)), (i4_2 + 1)) [0, 3, 4] (fun _ _ h => h) (go2 hS hK1) rfl
 replace hS := it_f h19 hS
 replace hS := up2 hS hK1
 refine Zx ?_
 refine Zq (Zr ?_)
 refine Zm ?_
 refine VL.q (q_leq rfl rfl) (by decide) ?_
 refine Zm ?_
 refine VL.split_dec 48 rfl (fun h48 => ?_) (fun h48 => ?_)
 ·
  replace hS := it_t h48 hS
  refine Zn ?_
  refine Zn ?_
  refine Zt ?_
  refine Za ?_
  refine Zl ?_
  refine VC.keep [2] rfl ?_
  cases hS
  exact Ze
 replace hS := it_f h48 hS
 refine Zg ?_
 refine VL.gy rfl rfl (q_gtr rfl rfl) (by decide) ?_
 refine Zf ?_
 refine Za ?_
 refine Zl ?_
 refine VC.keep [2] rfl ?_
 cases hS
 exact Ze
theorem rectolaw14_Of_ct (r_0 : Sv FilesFile) {r : List Rectoref14File} (hS : Sh.rectolaw14_Of r_0.l = some r) :
 Ct Tryz.prog 18 [r_0.val] r_0.ok (Ow.emp) (X := Sv Rectoref14File) (fun x => x.val) (fun x => r = x.l) (fun x => Mo.tt) (fun x => Sv.own x 45) := by
 refine Ct.of Tryz.func18 rfl (by kernel_rfl) Tryz.ntmps18 (by simp) fun c => ?_
 unfold Sh.rectolaw14_Of at hS
 refine Zq (Zr ?_)
 refine Za ?_
 refine Zl ?_
 refine Zq (Zr ?_)
 refine Za ?_
 refine Zl ?_
 refine Zq (Zq (Zr ?_))
 refine Za ?_
 refine Zl ?_
 refine Zb ?_
 refine VC.nilO (⟨none, 0, []⟩ : Sv Rectoref14File) 45 ⟨rfl, rfl⟩ ?_
 refine VC.iter (S := Sv Rectoref14File × Int) (fun sg => (sg.1.l, sg.2)) (fun sg => [(0, r_0.val), (3, sg.1.val), (4, i64 sg.2)]) (fun sg => Mo.tt) (fun sg => Ow.star (Sv.own sg.1 45) (Ow.emp)) (⟨none, 0, []⟩, 0) [0, 3, 4] hS rfl ?_
 clear hS
 rintro ⟨out3_1, i4_2⟩ m1 y1 hS hK1
 show VC _ _ _ _ _ [(0, r_0.val), (3, out3_1.val), (4, i64 i4_2)] (Mo.and Mo.tt _) (Ow.star (Sv.own out3_1 45) (Ow.emp))
 refine Zq (Zq (Zr ?_))
 refine Zm ?_
 refine Zm ?_
 refine VL.q (q_ln (s := r_0) Tryz.underlying38 rfl) (by decide) ?_
 refine VL.q (q_lss rfl rfl) (by decide) ?_
 refine Zl ?_
 refine VC.cond_dec rfl (fun h8 => ?_) (fun h8 => ?_)
 ·
  replace hS := it_t h8 hS
  refine Zk ?_
  refine Zq (Zb ?_)
  refine VC.draw [(0, true), (1, true), (2, true), (3, true), (4, true), (5, true), (6, true), (7, true), (8, true), (9, true), (10, true), (11, true), (12, true), (13, true), (14, true), (15, true), (16, true), (17, false), (18, false), (19, true)] mixed (by kernel_rfl) (by kernel_rfl) (by kernel_rfl) ?_
  refine VD.q rfl (q_move rfl) (by decide) ?_
  refine VD.q rfl (q_move rfl) (by decide) ?_
  refine VD.q rfl (q_move rfl) (by decide) ?_
  obtain ⟨z14_3, nz14_3, hz14_3, hS⟩ := at_s hS
  refine VD.q rfl (q_ixm (s := r_0) Tryz.underlying38 gsz42 rfl rfl nz14_3 (lt_of_get nz14_3 hz14_3)) (by decide) ?_
  refine VD.q rfl (q_field gfa42_0 rfl) (by decide) ?_
  refine VD.q rfl (q_elf (s := r_0) gone9 rfl hz14_3 rfl) (by decide) ?_
  refine VD.q rfl (q_move rfl) (by decide) ?_
  refine VD.q rfl (q_move rfl) (by decide) ?_
  obtain ⟨z19_4, nz19_4, hz19_4, hS⟩ := at_s hS
  refine VD.q rfl (q_ixm (s := r_0) Tryz.underlying38 gsz42 rfl rfl nz19_4 (lt_of_get nz19_4 hz19_4)) (by decide) ?_
  refine VD.q rfl (q_field gfa42_1 rfl) (by decide) ?_
  refine VD.q rfl (q_elf (s := r_0) gone3 rfl hz19_4 rfl) (by decide) ?_
  refine VD.q rfl (q_move rfl) (by decide) ?_
  refine VD.q rfl (q_move rfl) (by decide) ?_
  obtain ⟨z24_5, nz24_5, hz24_5, hS⟩ := at_s hS
  refine VD.q rfl (q_ixm (s := r_0) Tryz.underlying38 gsz42 rfl rfl nz24_5 (lt_of_get nz24_5 hz24_5)) (by decide) ?_
  refine VD.q rfl (q_field gfa42_2 rfl) (by decide) ?_
  refine VD.q rfl (q_elf (s := r_0) gone9 rfl hz24_5 rfl) (by decide) ?_
  refine VD.q rfl (q_build (vs := [(0, str z14_3.path), (1, i64 z19_4.mode), (2, str z24_5.data)]) (cs := #[str z14_3.path, i64 z19_4.mode, str z24_5.data]) rfl (by kernel_rfl)) (by decide) ?_
  refine VD.one rfl ?_
  refine VL.lit (α := Rectoref14File) (xs := [.tmp 27]) (vs := [.agg #[str z14_3.path, i64 z19_4.mode, str z24_5.data]]) [⟨z14_3.path, z19_4.mode, z24_5.data⟩] Tryz.underlying48 glit45 (by decide) rfl rfl rfl rfl (by decide) (fun _ _ _ _ => trivial) (by decide) (fun s28_6 hs28_6 => ?_) (by decide)
  replace hS := lt_to hs28_6 hS
  refine VL.back (D' := []) (by kernel_rfl) (Pend.nil) ?_
  refine VD.one rfl ?_
  obtain ⟨b29, hS⟩ := gd_s hS
  refine VL.app (s := out3_1) (r := s28_6) Tryz.underlying48 gapp45 (by decide) rfl Fo.out (ap1 b29) (ap2 b29 (by decide)) (by decide) (fun s29_8 hs29_8 => ?_)
  replace hS := lt_to hs29_8 hS
  refine VL.back (D' := []) (by kernel_rfl) (Pend.nil) ?_
  refine VD.q rfl (q_assign rfl) (by decide) ?_
  refine VD.to (fun _ _ h => h) ?_
  refine VC.keep [0, 3, 4] rfl ?_
  refine Zr ?_
  refine Zm ?_
  obtain ⟨b10, hS⟩ := gd_s hS
  refine VL.q (q_add rfl rfl b10) (by decide) ?_
  refine Za ?_
  refine VL.rnd (s29_8, (i4_2 + 1)) [0, 3, 4] (fun _ _ h => h) (go2 hS hK1) rfl
 replace hS := it_f h8 hS
 replace hS := up2 hS hK1
 refine Zx ?_
 refine Zq (Zr ?_)
 refine Zm ?_
 refine Za ?_
 refine Zl ?_
 cases hS
 exact VC.ret (fin1 (.inr rfl) rfl rfl out3_1 rfl rfl (by (try dsimp only); exact InM.out) (by (try dsimp only); exact EntO.out))
theorem rectoref14_Get_ct (r_0 : Sv Rectoref14File) (p_1 : Str) {r : Rectoref14File × Bool} (hS : Sh.rectoref14_Get r_0.l p_1 = some r) :
 Ct Tryz.prog 24 [r_0.val, str p_1] r_0.ok (Ow.emp) (X := Unit) (fun _ => .tuple #[.agg #[str r.1.path, i64 r.1.mode, str r.1.data], .bool r.2]) (fun _ => True) (fun _ => Mo.tt) (fun _ => Ow.emp) := by
 refine Ct.of Tryz.func24 rfl (by kernel_rfl) Tryz.ntmps24 (by simp) fun c => ?_
 unfold Sh.rectoref14_Get at hS
 refine Zq (Zr ?_)
 refine VL.alloc (cs := [str [], i64 0, str []]) (by kernel_rfl) (by decide) fun b4_1 => ?_
 refine Za ?_
 refine Zl ?_
 refine Zq (Zq (Zr ?_))
 refine Za ?_
 refine Zl ?_
 refine Zb ?_
 refine VC.iter (S := Int) (fun (i6_2 : Int) => i6_2) (fun (i6_2 : Int) => [(0, r_0.val), (1, str p_1), (4, ptr b4_1 0), (6, i64 i6_2)]) (fun (i6_2 : Int) => Mo.tt) (fun (i6_2 : Int) => Ow.star (Blk b4_1 [str [], i64 0, str []] 45) (Ow.emp)) 0 [0, 1, 4, 6] hS rfl ?_
 clear hS
 rintro i6_2 m1 y1 hS hK1
 show VC _ _ _ _ _ [(0, r_0.val), (1, str p_1), (4, ptr b4_1 0), (6, i64 i6_2)] (Mo.and Mo.tt _) (Ow.star (Blk b4_1 [str [], i64 0, str []] 45) (Ow.emp))
 refine Zq (Zq (Zr ?_))
 refine Zm ?_
 refine Zm ?_
 refine VL.q (q_ln (s := r_0) Tryz.underlying48 rfl) (by decide) ?_
 refine VL.q (q_lss rfl rfl) (by decide) ?_
 refine Zl ?_
 refine VC.cond_dec rfl (fun h10 => ?_) (fun h10 => ?_)
 ·
  replace hS := it_t h10 hS
  refine Zk ?_
  refine Zq (Zb (Zq (Zr ?_)))
  refine Zm ?_
  refine Zm ?_
  obtain ⟨z15_3, nz15_3, hz15_3, hS⟩ := at_s hS
  refine VL.q (q_ixm (s := r_0) Tryz.underlying48 gsz45 rfl rfl nz15_3 (lt_of_get nz15_3 hz15_3)) (by decide) ?_
  refine VL.q (q_field gfa45_0 rfl) (by decide) ?_
  refine VL.q (q_elf (s := r_0) gone9 rfl hz15_3 rfl) (by decide) ?_
  refine Zm ?_
  refine Zs ?_
  refine Zl ?_
  refine VC.keep [0, 1, 4, 6, 19] rfl ?_
  refine VC.cond_dec rfl (fun h19 => ?_) (fun h19 => ?_)
  ·
   replace hS := it_t h19 hS
   refine Zq (Zr ?_)
   refine Zm ?_
   refine Zm ?_
   obtain ⟨z22_4, nz22_4, hz22_4, hS⟩ := at_s hS
   refine VL.q (q_ixm (s := r_0) Tryz.underlying48 gsz45 rfl rfl nz22_4 (lt_of_get nz22_4 hz22_4)) (by decide) ?_
   refine VL.q (q_els (s := r_0) gagg45 rfl rfl hz22_4) (by decide) ?_
   refine VL.store (vc := [str z22_4.path, i64 z22_4.mode, str z22_4.data]) (cs' := [str z22_4.path, i64 z22_4.mode, str z22_4.data]) rfl rfl rfl gsz45 rfl rfl (Nat.le_of_ble_eq_true rfl) rfl ?_
   refine Za ?_
   refine Zl ?_
   replace hS := up2 hS hK1
   cases hS
   exact VC.ret (finG (vs := [.agg #[str z22_4.path, i64 z22_4.mode, str z22_4.data], .bool true]) (.inr rfl) rfl (RVs.cell gagg45 rfl rfl Rd.blk (RVs.tmp rfl (RVs.nil))) () rfl trivial (by (try dsimp only); exact InM.out) (fun _ _ => trivial))
  replace hS := it_f h19 hS
  refine Zk ?_
  refine Zr ?_
  refine Zm ?_
  obtain ⟨b12, hS⟩ := gd_s hS
  refine VL.q (q_add rfl rfl b12) (by decide) ?_
  refine Za ?_
  refine VL.rnd (i6_2 + 1) [0, 1, 4, 6] (fun _ _ h => h) (go2 hS hK1) rfl
 replace hS := it_f h10 hS
 replace hS := up2 hS hK1
 refine Zx ?_
 refine Zq (Zr ?_)
 refine VL.q (q_build (vs := []) (cs := #[str [], i64 0, str []]) rfl (by kernel_rfl)) (by decide) ?_
 refine VL.store (vc := [str [], i64 0, str []]) (cs' := [str [], i64 0, str []]) rfl rfl rfl gsz45 rfl rfl (Nat.le_of_ble_eq_true rfl) rfl ?_
 refine Za ?_
 refine Zl ?_
 cases hS
 exact VC.ret (finG (vs := [.agg #[str [], i64 0, str []], .bool false]) (.inr rfl) rfl (RVs.cell gagg45 rfl rfl Rd.blk (RVs.tmp rfl (RVs.nil))) () rfl trivial (by (try dsimp only); exact InM.out) (fun _ _ => trivial))
theorem rectoref14_Like_ct (a_0 : Sv Rectoref14File) (b_1 : Sv Rectoref14File) (p_2 : Str) {r : Bool} (hS : Sh.rectoref14_Like a_0.l b_1.l p_2 = some r) :
 Ct Tryz.prog 62 [a_0.val, b_1.val, str p_2] (a_0.ok.and b_1.ok) (Ow.emp) (X := Unit) (fun _ => .bool r) (fun _ => True) (fun _ => Mo.tt) (fun _ => Ow.emp) := by
 refine Ct.of Tryz.func62 rfl (by kernel_rfl) Tryz.ntmps62 (by simp) fun c => ?_
 unfold Sh.rectoref14_Like at hS
 refine Zq (Zr ?_)
 refine Za ?_
 refine Zl ?_
 refine Zq (Zr ?_)
 refine Zm ?_
 refine Zm ?_
 obtain ⟨y14_1, ey14_1, hS⟩ := bd_s hS
 refine VL.q (q_call (rectoref14_Get_ct a_0 p_2 ey14_1) rfl (fun _ _ => rfl)) (by decide) ?_
 refine Zm ?_
 refine VL.q (q_extract rfl rfl) (by decide) ?_
 refine VL.q (q_extract rfl rfl) (by decide) ?_
 refine VL.alloc (cs := [str [], i64 0, str []]) (by kernel_rfl) (by decide) fun b7_2 => ?_
 refine VL.store (vc := [str y14_1.1.path, i64 y14_1.1.mode, str y14_1.1.data]) (cs' := [str y14_1.1.path, i64 y14_1.1.mode, str y14_1.1.data]) rfl rfl rfl gsz45 rfl rfl (Nat.le_of_ble_eq_true rfl) rfl ?_
 refine Za ?_
 refine Zl ?_
 refine VC.keep [1, 2, 7, 8] rfl ?_
 refine Zq (Zr ?_)
 refine Zm ?_
 refine Zm ?_
 obtain ⟨y20_3, ey20_3, hS⟩ := bd_s hS
 refine VL.q (q_call (rectoref14_Get_ct b_1 p_2 ey20_3) rfl (fun _ _ => rfl)) (by decide) ?_
 refine Zm ?_
 refine VL.q (q_extract rfl rfl) (by decide) ?_
 refine VL.q (q_extract rfl rfl) (by decide) ?_
 refine VL.alloc (cs := [str [], i64 0, str []]) (by kernel_rfl) (by decide) fun b9_4 => ?_
 refine VL.store (vc := [str y20_3.1.path, i64 y20_3.1.mode, str y20_3.1.data]) (cs' := [str y20_3.1.path, i64 y20_3.1.mode, str y20_3.1.data]) rfl rfl rfl gsz45 rfl rfl (Nat.le_of_ble_eq_true rfl) rfl ?_
 refine Za ?_
 refine Zl ?_
 refine VC.keep [7, 8, 9, 10] rfl ?_
 refine Zq (Zr ?_)
 refine Zm ?_
 refine Zm ?_
 refine VL.q (q_beql Tryz.underlying4 rfl rfl) (by decide) ?_
 refine Zm ?_
 refine VL.split_dec 26 rfl (fun h26 => ?_) (fun h26 => ?_)
 ·
  replace hS := it_t h26 hS
  refine VL.gy rfl rfl (q_fes gagg45 rfl rfl) (by decide) ?_
  refine VL.gy rfl rfl (q_fes gagg45 rfl rfl) (by decide) ?_
  refine VL.gy rfl rfl (q_steql geqg45 (geqs45 y14_1.1.path y14_1.1.mode y14_1.1.data y20_3.1.path y20_3.1.mode y20_3.1.data) rfl rfl) (by decide) ?_
  refine Zt ?_
  refine Za ?_
  refine Zl ?_
  refine VC.keep [6] rfl ?_
  cases hS
  exact Ze
 replace hS := it_f h26 hS
 refine Zn ?_
 refine Zn ?_
 refine Zn ?_
 refine Zf ?_
 refine Za ?_
 refine Zl ?_
 refine VC.keep [6] rfl ?_
 cases hS
 exact Ze
theorem rectoref11_Split_ct (s_0 : Str) {r : List Str} (hS : Sh.rectoref11_Split s_0 = some r) :
 Ct Tryz.prog 187 [str s_0] Mo.tt (Ow.emp) (X := Sv Str) (fun x => x.val) (fun x => r = x.l) (fun x => Mo.tt) (fun x => Sv.own x 9) := by
 refine Ct.of Tryz.func187 rfl (by kernel_rfl) Tryz.ntmps187 (by simp) fun c => ?_
 unfold Sh.rectoref11_Split at hS
 refine Zq (Zr ?_)
 refine Za ?_
 refine Zl ?_
 refine Zq (Zr ?_)
 refine Za ?_
 refine Zl ?_
 refine Zq (Zr ?_)
 refine Za ?_
 refine Zl ?_
 refine Zq (Zq (Zr ?_))
 refine Za ?_
 refine Zl ?_
 refine Zb ?_
 refine VC.nilO (⟨none, 0, []⟩ : Sv Str) 9 ⟨rfl, rfl⟩ ?_
 refine VC.iter (S := Sv Str × Int × Int) (fun sg => (sg.1.l, sg.2.1, sg.2.2)) (fun sg => [(0, str s_0), (3, sg.1.val), (4, i64 sg.2.1), (5, i64 sg.2.2)]) (fun sg => Mo.tt) (fun sg => Ow.star (Sv.own sg.1 9) (Ow.emp)) (⟨none, 0, []⟩, 0, 0) [0, 3, 4, 5] hS rfl ?_
 clear hS
 rintro ⟨out3_1, from4_2, i5_3⟩ m1 y1 hS hK1
 show VC _ _ _ _ _ [(0, str s_0), (3, out3_1.val), (4, i64 from4_2), (5, i64 i5_3)] (Mo.and Mo.tt _) (Ow.star (Sv.own out3_1 9) (Ow.emp))
 refine Zq (Zq (Zr ?_))
 refine Zm ?_
 refine Zm ?_
 refine VL.q (q_slen Tryz.underlying9 rfl) (by decide) ?_
 refine VL.q (q_lss rfl rfl) (by decide) ?_
 refine Zl ?_
 refine VC.cond_dec rfl (fun h9 => ?_) (fun h9 => ?_)
 ·
  replace hS := it_t h9 hS
  refine Zk ?_
  refine VC.cutJ (S := Sv Str × Int) (fun sg => (sg.1.l, sg.2)) (fun sg => [(0, str s_0), (3, sg.1.val), (4, i64 sg.2), (5, i64 i5_3)]) (fun sg => Mo.tt) (fun sg => Ow.star (Sv.own sg.1 9) (Ow.emp)) hS ?_ ?_
  ·
   clear hS
   intro k6 hS
   refine Zb (Zq (Zr ?_))
   refine Zm ?_
   refine Zm ?_
   obtain ⟨z14_7, nz14_7, hz14_7, hS⟩ := at_s hS
   refine VL.q (q_sidx Tryz.underlying9 rfl rfl nz14_7 hz14_7) (by decide) ?_
   refine VL.q (q_eql rfl rfl) (by decide) ?_
   refine Zl ?_
   refine VC.keep [0, 3, 4, 5, 15] rfl ?_
   refine VC.cond_dec rfl (fun h15 => ?_) (fun h15 => ?_)
   ·
    replace hS := it_t h15 hS
    refine Zq (Zr ?_)
    refine Zm ?_
    refine Zm ?_
    refine Zm ?_
    refine Zm ?_
    obtain ⟨b20, hS⟩ := gd_s hS
    refine VL.q (q_add rfl rfl b20) (by decide) ?_
    obtain ⟨b21, hS⟩ := gd_s hS
    obtain ⟨y21_8, ey21_8, hS⟩ := lt_s hS
    refine VL.q (q_smidE Tryz.underlying9 rfl rfl rfl b21.1 b21.2.1 b21.2.2 ey21_8) (by decide) ?_
    refine VL.lit (α := Str) (xs := [.tmp 21]) (vs := [str y21_8]) [y21_8] Tryz.underlying82 glit9 (by decide) rfl rfl rfl rfl (by decide) (fun _ _ _ _ => trivial) (by decide) (fun s22_9 hs22_9 => ?_) (by decide)
    replace hS := lt_to hs22_9 hS
    obtain ⟨b23, hS⟩ := gd_s hS
    refine VL.app (s := out3_1) (r := s22_9) Tryz.underlying82 gapp9 (by decide) rfl Fo.out (ap1 b23) (ap2 b23 (by decide)) (by decide) (fun s23_11 hs23_11 => ?_)
    replace hS := lt_to hs23_11 hS
    refine Za ?_
    refine Zl ?_
    refine VC.keep [0, 3, 5] rfl ?_
    refine Zr ?_
    refine Zm ?_
    obtain ⟨b25, hS⟩ := gd_s hS
    refine VL.q (q_add rfl rfl b25) (by decide) ?_
    refine Za ?_
    refine VL.mt (s23_11, (i5_3 + 1)) [0, 3, 4, 5] (fun _ _ h => h) hS rfl
   replace hS := it_f h15 hS
   refine VC.skip_mt (out3_1, from4_2) [0, 3, 4, 5] (fun _ _ h => h) hS rfl
  clear hS
  rintro ⟨out3_4, from4_5⟩ hS
  show VC _ _ _ _ _ [(0, str s_0), (3, out3_4.val), (4, i64 from4_5), (5, i64 i5_3)] (Mo.and Mo.tt _) (Ow.star (Sv.own out3_4 9) (Ow.emp))
  refine Zr ?_
  refine Zm ?_
  obtain ⟨b11, hS⟩ := gd_s hS
  refine VL.q (q_add rfl rfl b11) (by decide) ?_
  refine Za ?_
  refine VL.rnd (out3_4, from4_5, (i5_3 + 1)) [0, 3, 4, 5] (fun _ _ h => h) (go2 hS hK1) rfl
 replace hS := it_f h9 hS
 replace hS := up2 hS hK1
 refine Zx ?_
 refine Zq (Zq (Zr ?_))
 refine Zm ?_
 refine Zm ?_
 refine VL.q (q_slen Tryz.underlying9 rfl) (by decide) ?_
 refine VL.q (q_lss rfl rfl) (by decide) ?_
 refine Zl ?_
 refine VC.keep [0, 3, 4, 29] rfl ?_
 refine VC.cond_dec rfl (fun h29 => ?_) (fun h29 => ?_)
 ·
  replace hS := it_t h29 hS
  refine Zr ?_
  refine Zm ?_
  refine Zm ?_
  refine Zm ?_
  obtain ⟨b33, hS⟩ := gd_s hS
  obtain ⟨y33_13, ey33_13, hS⟩ := lt_s hS
  refine VL.q (q_sfromE Tryz.underlying9 rfl rfl b33.1 b33.2 ey33_13) (by decide) ?_
  refine VL.lit (α := Str) (xs := [.tmp 33]) (vs := [str y33_13]) [y33_13] Tryz.underlying82 glit9 (by decide) rfl rfl rfl rfl (by decide) (fun _ _ _ _ => trivial) (by decide) (fun s34_14 hs34_14 => ?_) (by decide)
  replace hS := lt_to hs34_14 hS
  obtain ⟨b35, hS⟩ := gd_s hS
  refine VL.app (s := out3_1) (r := s34_14) Tryz.underlying82 gapp9 (by decide) rfl Fo.out (ap1 b35) (ap2 b35 (by decide)) (by decide) (fun s35_16 hs35_16 => ?_)
  replace hS := lt_to hs35_16 hS
  refine Za ?_
  refine Zl ?_
  refine Zq (Zr ?_)
  refine Zm ?_
  refine Za ?_
  refine Zl ?_
  refine VC.keep [2] rfl ?_
  cases hS
  exact VC.ret (fin1 (.inr rfl) rfl rfl s35_16 rfl rfl (by (try dsimp only); exact InM.out) (by (try dsimp only); exact EntO.out))
 replace hS := it_f h29 hS
 refine Zk ?_
 refine Zq (Zr ?_)
 refine Zm ?_
 refine Za ?_
 refine Zl ?_
 cases hS
 exact VC.ret (fin1 (.inr rfl) rfl rfl out3_1 rfl rfl (by (try dsimp only); exact InM.out) (by (try dsimp only); exact EntO.out))
theorem rectoref3_At_ct (word_0 : Str) (at_1 : Int) (e_2 : Int) {r : Rectoref3WrongP} (hS : Sh.rectoref3_At word_0 at_1 e_2 = some r) :
 Ct Tryz.prog 70 [str word_0, i64 at_1, i64 e_2] Mo.tt (Ow.emp) (X := Rectoref3Wrong) (fun x => .agg (Dat.enc x).toArray) (fun x => r = x.pl) (fun x => x.m) (fun x => Ow.emp) := by
 refine Ct.of Tryz.func70 rfl (by kernel_rfl) Tryz.ntmps70 (by simp) fun c => ?_
 unfold Sh.rectoref3_At at hS
 refine Zq (Zr ?_)
 refine VL.alloc (cs := [.slice none 0 0, i64 0]) (by kernel_rfl) (by decide) fun b6_1 => ?_
 refine Zl ?_
 refine Zq (Zr ?_)
 refine Zm ?_
 refine Zm ?_
 refine VL.q (q_build (vs := [(0, str word_0), (1, i64 at_1)]) (cs := #[str word_0, i64 at_1]) rfl (by kernel_rfl)) (by decide) ?_
 refine VL.lit (α := Rectoref3Part) (xs := [.tmp 9]) (vs := [.agg #[str word_0, i64 at_1]]) [⟨word_0, at_1⟩] Tryz.underlying52 glit137 (by decide) rfl rfl rfl rfl (by decide) (fun _ _ _ _ => trivial) (by decide) (fun s10_2 hs10_2 => ?_) (by decide)
 replace hS := lt_to hs10_2 hS
 refine Zm ?_
 refine VL.q (q_build (vs := [(0, s10_2.val), (1, i64 e_2)]) (cs := #[s10_2.val, i64 e_2]) rfl (by kernel_rfl)) (by decide) ?_
 refine VL.store (vc := [s10_2.val, i64 e_2]) (cs' := [s10_2.val, i64 e_2]) rfl rfl rfl gsz54 rfl rfl (Nat.le_of_ble_eq_true rfl) rfl ?_
 refine Zl ?_
 cases hS
 exact VC.ret (finG (vs := [.agg #[s10_2.val, i64 e_2]]) (.inr rfl) rfl (RVs.cell gagg54 rfl rfl Rd.blk (RVs.nil)) ⟨s10_2, e_2⟩ rfl rfl (by (try dsimp only); exact InM.out) (fun _ _ => trivial))
theorem rectoref11_long_ct (a_0 : Sv Str) (b_1 : Sv Str) {r : Rectoref3WrongP} (hS : Sh.rectoref11_long a_0.l b_1.l = some r) :
 Ct Tryz.prog 268 [a_0.val, b_1.val] (a_0.ok.and b_1.ok) (Ow.emp) (X := Rectoref3Wrong) (fun x => .agg (Dat.enc x).toArray) (fun x => r = x.pl) (fun x => x.m) (fun x => Ow.emp) := by
 refine Ct.of Tryz.func268 rfl (by kernel_rfl) Tryz.ntmps268 (by simp) fun c => ?_
 unfold Sh.rectoref11_long at hS
 refine Zq (Zr ?_)
 refine VL.alloc (cs := [.slice none 0 0, i64 0]) (by kernel_rfl) (by decide) fun b4_1 => ?_
 refine Zl ?_
 refine Zq (Zq (Zr ?_))
 refine Zm ?_
 refine VL.q (q_ln (s := a_0) Tryz.underlying82 rfl) (by decide) ?_
 refine VL.q (q_gtr rfl rfl) (by decide) ?_
 refine Zl ?_
 refine VC.cond_dec rfl (fun h7 => ?_) (fun h7 => ?_)
 ·
  replace hS := it_t h7 hS
  refine Zq (Zr ?_)
  obtain ⟨y8_2, ey8_2, hS⟩ := bd_s hS
  refine VL.callF (rectoref3_At_ct [108, 105, 110, 101, 115] 0 4 ey8_2) rfl (by decide) ?_
  rintro q8_2_0 rfl
  try dsimp only
  refine VL.store (vc := [q8_2_0.parts.val, i64 q8_2_0.err]) (cs' := [q8_2_0.parts.val, i64 q8_2_0.err]) rfl rfl rfl gsz54 rfl rfl (Nat.le_of_ble_eq_true rfl) rfl ?_
  refine Zl ?_
  cases hS
  exact VC.ret (finG (vs := [.agg #[q8_2_0.parts.val, i64 q8_2_0.err]]) (.inr rfl) rfl (RVs.cell gagg54 rfl rfl Rd.blk (RVs.nil)) ⟨q8_2_0.parts, q8_2_0.err⟩ rfl rfl (by (try dsimp only); exact InM.out) (fun _ _ => trivial))
 replace hS := it_f h7 hS
 refine Zk ?_
 refine Zq (Zq (Zr ?_))
 refine Zm ?_
 refine VL.q (q_ln (s := b_1) Tryz.underlying82 rfl) (by decide) ?_
 refine VL.q (q_gtr rfl rfl) (by decide) ?_
 refine Zl ?_
 refine VC.cond_dec rfl (fun h11 => ?_) (fun h11 => ?_)
 ·
  replace hS := it_t h11 hS
  refine Zq (Zr ?_)
  obtain ⟨y12_3, ey12_3, hS⟩ := bd_s hS
  refine VL.callF (rectoref3_At_ct [108, 105, 110, 101, 115] 1 4 ey12_3) rfl (by decide) ?_
  rintro q12_3_0 rfl
  try dsimp only
  refine VL.store (vc := [q12_3_0.parts.val, i64 q12_3_0.err]) (cs' := [q12_3_0.parts.val, i64 q12_3_0.err]) rfl rfl rfl gsz54 rfl rfl (Nat.le_of_ble_eq_true rfl) rfl ?_
  refine Zl ?_
  cases hS
  exact VC.ret (finG (vs := [.agg #[q12_3_0.parts.val, i64 q12_3_0.err]]) (.inr rfl) rfl (RVs.cell gagg54 rfl rfl Rd.blk (RVs.nil)) ⟨q12_3_0.parts, q12_3_0.err⟩ rfl rfl (by (try dsimp only); exact InM.out) (fun _ _ => trivial))
 replace hS := it_f h11 hS
 refine Zk ?_
 refine Zq (Zr ?_)
 refine VL.q (q_build (vs := []) (cs := #[.slice none 0 0, i64 0]) rfl (by kernel_rfl)) (by decide) ?_
 refine VL.store (vc := [.slice none 0 0, i64 0]) (cs' := [.slice none 0 0, i64 0]) rfl rfl rfl gsz54 rfl rfl (Nat.le_of_ble_eq_true rfl) rfl ?_
 refine Zl ?_
 cases hS
 exact VC.ret (finG (vs := [.agg #[.slice none 0 0, i64 0]]) (.inr rfl) rfl (RVs.cell gagg54 rfl rfl Rd.blk (RVs.nil)) ⟨⟨none, 0, []⟩, 0⟩ rfl rfl (by (try dsimp only); exact InM.out) (fun _ _ => trivial))
theorem rectoref11_Lines_ct (a_0 : Sv Str) (b_1 : Sv Str) {r : List Rectoref11Edit × Rectoref3WrongP} (hS : Sh.rectoref11_Lines a_0.l b_1.l = some r) :
 Ct Tryz.prog 232 [a_0.val, b_1.val] (a_0.ok.and b_1.ok) (Ow.emp) (X := Sv Rectoref11Edit × Rectoref3Wrong) (fun x => .tuple #[x.1.val, .agg (Dat.enc x.2).toArray]) (fun x => r = (x.1.l, x.2.pl)) (fun x => x.2.m) (fun x => Sv.own x.1 350) := by
 refine Ct.of Tryz.func232 rfl (by kernel_rfl) Tryz.ntmps232 (by simp) fun c => ?_
 unfold Sh.rectoref11_Lines at hS
 refine Zq (Zr ?_)
 refine Za ?_
 refine VL.alloc (cs := [.slice none 0 0, i64 0]) (by kernel_rfl) (by decide) fun b5_1 => ?_
 refine Zl ?_
 refine Zq (Zr ?_)
 refine Zm ?_
 refine Zm ?_
 obtain ⟨y13_2, ey13_2, hS⟩ := bd_s hS
 refine VL.callF (rectoref11_long_ct a_0 b_1 ey13_2) rfl (by decide) ?_
 rintro q13_2_0 rfl
 try dsimp only
 refine VL.alloc (cs := [.slice none 0 0, i64 0]) (by kernel_rfl) (by decide) fun b6_3 => ?_
 refine VL.store (vc := [q13_2_0.parts.val, i64 q13_2_0.err]) (cs' := [q13_2_0.parts.val, i64 q13_2_0.err]) rfl rfl rfl gsz54 rfl rfl (Nat.le_of_ble_eq_true rfl) rfl ?_
 refine Zl ?_
 refine Zq (Zq (Zr ?_))
 refine VL.q (q_field gfa54_1 rfl) (by decide) ?_
 refine VL.q (q_fe gone3 rfl rfl) (by decide) ?_
 refine VL.q (q_neq rfl rfl) (by decide) ?_
 refine Zl ?_
 refine VC.cond_ndec rfl (fun h16 => ?_) (fun h16 => ?_)
 ·
  replace hS := it_f h16 hS
  refine Zq ?_
  refine VC.draw [(0, true), (1, true), (2, false)] mixed (by kernel_rfl) (by kernel_rfl) (by kernel_rfl) ?_
  refine VD.q rfl (q_fes gagg54 rfl rfl) (by decide) ?_
  refine VD.q rfl (q_assign rfl) (by decide) ?_
  refine VD.one rfl ?_
  refine VL.store (vc := [q13_2_0.parts.val, i64 q13_2_0.err]) (cs' := [q13_2_0.parts.val, i64 q13_2_0.err]) rfl rfl rfl gsz54 rfl rfl (Nat.le_of_ble_eq_true rfl) rfl ?_
  refine VL.back (D' := []) (by kernel_rfl) (Pend.nil) ?_
  refine VD.to (fun _ _ h => h) ?_
  refine VC.keep [4, 5] rfl ?_
  refine VC.nilO (⟨none, 0, []⟩ : Sv Rectoref11Edit) 350 ⟨rfl, rfl⟩ ?_
  cases hS
  exact VC.ret (finG (vs := [.slice none 0 0, .agg #[q13_2_0.parts.val, i64 q13_2_0.err]]) (.inr rfl) rfl (RVs.tmp rfl (RVs.cell gagg54 rfl rfl Rd.blk (RVs.nil))) (⟨none, 0, []⟩, ⟨q13_2_0.parts, q13_2_0.err⟩) rfl rfl (by (try dsimp only); exact InM.out) (by (try dsimp only); exact EntO.out))
 replace hS := it_t h16 hS
 refine Zk ?_
 refine VC.keep [0, 1, 5, 6] rfl ?_
 refine Zq (Zr ?_)
 refine Zm ?_
 refine Zm ?_
 obtain ⟨y20_4, ey20_4, hS⟩ := bd_s hS
 refine VL.callF (common2_ct a_0 b_1 ey20_4) rfl (by decide) ?_
 rintro q20_4_0 rfl
 try dsimp only
 refine Za ?_
 refine Zl ?_
 refine Zq (Zr ?_)
 refine Za ?_
 refine Zl ?_
 refine Zq (Zr ?_)
 refine Za ?_
 refine Zl ?_
 refine Zq (Zr ?_)
 refine Za ?_
 refine Zl ?_
 refine VC.cutJ (S := Sv Rectoref11Edit) (fun (out8_5 : Sv Rectoref11Edit) => out8_5.l) (fun (out8_5 : Sv Rectoref11Edit) => [(5, ptr b5_1 0), (6, ptr b6_3 0), (8, out8_5.val)]) (fun (out8_5 : Sv Rectoref11Edit) => Mo.tt) (fun (out8_5 : Sv Rectoref11Edit) => Ow.star (Blk b6_3 [q13_2_0.parts.val, i64 q13_2_0.err] 54) (Ow.star (Blk b5_1 [.slice none 0 0, i64 0] 54) (Ow.star (Sv.own out8_5 350) (Ow.emp)))) hS ?_ ?_
 ·
  clear hS
  intro k6 hS
  refine Zb ?_
  refine VC.nilO (⟨none, 0, []⟩ : Sv Rectoref11Edit) 350 ⟨rfl, rfl⟩ ?_
  refine VC.iter (S := Sv Rectoref11Edit × Int × Int) (fun sg => (sg.1.l, sg.2.1, sg.2.2)) (fun sg => [(0, a_0.val), (1, b_1.val), (5, ptr b5_1 0), (6, ptr b6_3 0), (7, q20_4_0.val), (8, sg.1.val), (9, i64 sg.2.1), (10, i64 sg.2.2)]) (fun sg => Mo.tt) (fun sg => Ow.star (Blk b6_3 [q13_2_0.parts.val, i64 q13_2_0.err] 54) (Ow.star (Blk b5_1 [.slice none 0 0, i64 0] 54) (Ow.star (Sv.own sg.1 350) (Ow.emp)))) (⟨none, 0, []⟩, 0, 0) [0, 1, 5, 6, 7, 8, 9, 10] hS rfl ?_
  clear hS
  rintro ⟨out8_7, i9_8, j10_9⟩ m1 y1 hS hK1
  show VC _ _ _ _ _ [(0, a_0.val), (1, b_1.val), (5, ptr b5_1 0), (6, ptr b6_3 0), (7, q20_4_0.val), (8, out8_7.val), (9, i64 i9_8), (10, i64 j10_9)] (Mo.and Mo.tt _) (Ow.star (Blk b6_3 [q13_2_0.parts.val, i64 q13_2_0.err] 54) (Ow.star (Blk b5_1 [.slice none 0 0, i64 0] 54) (Ow.star (Sv.own out8_7 350) (Ow.emp))))
  refine VC.cutJ (S := Unit) (fun (_ : Unit) => ()) (fun (_ : Unit) => [(0, a_0.val), (1, b_1.val), (5, ptr b5_1 0), (6, ptr b6_3 0), (7, q20_4_0.val), (8, out8_7.val), (9, i64 i9_8), (10, i64 j10_9)]) (fun (_ : Unit) => Mo.tt) (fun (_ : Unit) => Ow.star (Blk b6_3 [q13_2_0.parts.val, i64 q13_2_0.err] 54) (Ow.star (Blk b5_1 [.slice none 0 0, i64 0] 54) (Ow.star (Sv.own out8_7 350) (Ow.emp)))) hS ?_ ?_
  ·
   clear hS
   intro k10 hS
   refine Zq (Zr ?_)
   refine Zm ?_
   refine Zm ?_
   refine VL.q (q_ln (s := a_0) Tryz.underlying82 rfl) (by decide) ?_
   refine VL.q (q_lss rfl rfl) (by decide) ?_
   refine Zm ?_
   refine VL.split_dec 25 rfl (fun h25 => ?_) (fun h25 => ?_)
   ·
    replace hS := it_t h25 hS
    refine Zn ?_
    refine Zn ?_
    refine Zn ?_
    refine Zn ?_
    refine Zt ?_
    refine Zl ?_
    refine VC.keep [0, 1, 5, 6, 7, 8, 9, 10, 30] rfl ?_
    refine VC.cond_t rfl ?_
    refine VC.skip_mt () [0, 1, 5, 6, 7, 8, 9, 10] (fun _ _ h => h) hS rfl
   replace hS := it_f h25 hS
   refine Zg ?_
   refine Zg ?_
   refine VL.gy rfl rfl (q_ln (s := b_1) Tryz.underlying82 rfl) (by decide) ?_
   refine VL.gy rfl rfl (q_lss rfl rfl) (by decide) ?_
   refine Zf ?_
   refine Zl ?_
   refine VC.keep [0, 1, 5, 6, 7, 8, 9, 10, 30] rfl ?_
   refine VC.cond_dec rfl (fun h30 => ?_) (fun h30 => ?_)
   ·
    replace hS := it_t h30 hS
    refine VC.skip_mt () [0, 1, 5, 6, 7, 8, 9, 10] (fun _ _ h => h) hS rfl
   replace hS := it_f h30 hS
   replace hS := up2 hS hK1
   refine VC.exit_mt out8_7 [5, 6, 8] (fun _ _ h => h) hS rfl
  clear hS
  rintro _ hS
  show VC _ _ _ _ _ [(0, a_0.val), (1, b_1.val), (5, ptr b5_1 0), (6, ptr b6_3 0), (7, q20_4_0.val), (8, out8_7.val), (9, i64 i9_8), (10, i64 j10_9)] (Mo.and Mo.tt _) (Ow.star (Blk b6_3 [q13_2_0.parts.val, i64 q13_2_0.err] 54) (Ow.star (Blk b5_1 [.slice none 0 0, i64 0] 54) (Ow.star (Sv.own out8_7 350) (Ow.emp))))
  refine Zb (Zb ?_)
  refine VC.cutJ (S := Bool) (fun (x41_11 : Bool) => x41_11) (fun (x41_11 : Bool) => [(0, a_0.val), (1, b_1.val), (5, ptr b5_1 0), (6, ptr b6_3 0), (7, q20_4_0.val), (8, out8_7.val), (9, i64 i9_8), (10, i64 j10_9), (41, .bool x41_11)]) (fun (x41_11 : Bool) => Mo.tt) (fun (x41_11 : Bool) => Ow.star (Blk b6_3 [q13_2_0.parts.val, i64 q13_2_0.err] 54) (Ow.star (Blk b5_1 [.slice none 0 0, i64 0] 54) (Ow.star (Sv.own out8_7 350) (Ow.emp)))) hS ?_ ?_
  ·
   clear hS
   intro k12 hS
   refine VC.draw ((List.range 22).map fun k => (k, true)) mixed (by kernel_rfl) (by kernel_rfl) (by kernel_rfl) ?_
   refine VD.q rfl (q_move rfl) (by decide) ?_
   refine VD.q rfl (q_move rfl) (by decide) ?_
   refine VD.q rfl (q_ln (s := a_0) Tryz.underlying82 rfl) (by decide) ?_
   refine VD.q rfl (q_lss rfl rfl) (by decide) ?_
   refine VD.q rfl (q_move rfl) (by decide) ?_
   refine VD.split_dec 46 rfl (fun h46 => ?_) (fun h46 => ?_)
   ·
    replace hS := it_t h46 hS
    refine VD.gy rfl rfl rfl (q_move rfl) (by decide) ?_
    refine VD.gy rfl rfl rfl (q_move rfl) (by decide) ?_
    refine VD.gy rfl rfl rfl (q_ln (s := b_1) Tryz.underlying82 rfl) (by decide) ?_
    refine VD.gy rfl rfl rfl (q_lss rfl rfl) (by decide) ?_
    refine VD.q rfl (q_pick_t rfl rfl) (by decide) ?_
    refine VD.q rfl (q_move rfl) (by decide) ?_
    refine VD.split_dec 52 rfl (fun h52 => ?_) (fun h52 => ?_)
    ·
     replace hS := it_t h52 hS
     refine VD.gy rfl rfl rfl (q_move rfl) (by decide) ?_
     refine VD.gy rfl rfl rfl (q_move rfl) (by decide) ?_
     obtain ⟨z55_13, nz55_13, hz55_13, hS⟩ := at_s hS
     refine VD.gy rfl rfl rfl (q_ixm (s := a_0) Tryz.underlying82 gsz9 rfl rfl nz55_13 (lt_of_get nz55_13 hz55_13)) (by decide) ?_
     refine VD.gy rfl rfl rfl (q_el (s := a_0) gone9 rfl hz55_13 rfl) (by decide) ?_
     refine VD.gy rfl rfl rfl (q_move rfl) (by decide) ?_
     refine VD.gy rfl rfl rfl (q_move rfl) (by decide) ?_
     obtain ⟨z59_14, nz59_14, hz59_14, hS⟩ := at_s hS
     refine VD.gy rfl rfl rfl (q_ixm (s := b_1) Tryz.underlying82 gsz9 rfl rfl nz59_14 (lt_of_get nz59_14 hz59_14)) (by decide) ?_
     refine VD.gy rfl rfl rfl (q_el (s := b_1) gone9 rfl hz59_14 rfl) (by decide) ?_
     refine VD.gy rfl rfl rfl (q_seq rfl rfl) (by decide) ?_
     refine VD.q rfl (q_pick_t rfl rfl) (by decide) ?_
     refine VD.q rfl (q_assign rfl) (by decide) ?_
     refine VD.mt (decide (z55_13 = z59_14)) [0, 1, 5, 6, 7, 8, 9, 10, 41] (fun _ _ h => h) hS rfl
    replace hS := it_f h52 hS
    refine Zd ?_
    refine Zd ?_
    refine Zd ?_
    refine Zd ?_
    refine Zd ?_
    refine Zd ?_
    refine Zd ?_
    refine Zd ?_
    refine Zd ?_
    refine VD.q rfl (q_pick_f rfl rfl) (by decide) ?_
    refine VD.q rfl (q_assign rfl) (by decide) ?_
    refine VD.mt false [0, 1, 5, 6, 7, 8, 9, 10, 41] (fun _ _ h => h) hS rfl
   replace hS := it_f h46 hS
   refine Zd ?_
   refine Zd ?_
   refine Zd ?_
   refine Zd ?_
   refine VD.q rfl (q_pick_f rfl rfl) (by decide) ?_
   refine VD.q rfl (q_move rfl) (by decide) ?_
   refine Zd ?_
   refine Zd ?_
   refine Zd ?_
   refine Zd ?_
   refine Zd ?_
   refine Zd ?_
   refine Zd ?_
   refine Zd ?_
   refine Zd ?_
   refine VD.q rfl (q_pick_f rfl rfl) (by decide) ?_
   refine VD.q rfl (q_assign rfl) (by decide) ?_
   refine VD.mt false [0, 1, 5, 6, 7, 8, 9, 10, 41] (fun _ _ h => h) hS rfl
  clear hS
  rintro x41_11 hS
  show VC _ _ _ _ _ [(0, a_0.val), (1, b_1.val), (5, ptr b5_1 0), (6, ptr b6_3 0), (7, q20_4_0.val), (8, out8_7.val), (9, i64 i9_8), (10, i64 j10_9), (41, .bool x41_11)] (Mo.and Mo.tt _) (Ow.star (Blk b6_3 [q13_2_0.parts.val, i64 q13_2_0.err] 54) (Ow.star (Blk b5_1 [.slice none 0 0, i64 0] 54) (Ow.star (Sv.own out8_7 350) (Ow.emp))))
  refine VC.cond rfl (fun h41 => ?_) (fun h41 => ?_)
  ·
   replace hS := it_t h41 hS
   refine Zq (Zr ?_)
   refine Zm ?_
   refine Zm ?_
   refine Zm ?_
   obtain ⟨z66_15, nz66_15, hz66_15, hS⟩ := at_s hS
   refine VL.q (q_ixm (s := a_0) Tryz.underlying82 gsz9 rfl rfl nz66_15 (lt_of_get nz66_15 hz66_15)) (by decide) ?_
   refine VL.q (q_el (s := a_0) gone9 rfl hz66_15 rfl) (by decide) ?_
   refine VL.q (q_build (vs := [(0, i64 1), (1, str z66_15)]) (cs := #[i64 1, str z66_15]) rfl (by kernel_rfl)) (by decide) ?_
   refine VL.lit (α := Rectoref11Edit) (xs := [.tmp 68]) (vs := [.agg #[i64 1, str z66_15]]) [⟨1, z66_15⟩] Tryz.underlying314 glit350 (by decide) rfl rfl rfl rfl (by decide) (fun _ _ _ _ => trivial) (by decide) (fun s69_16 hs69_16 => ?_) (by decide)
   replace hS := lt_to hs69_16 hS
   obtain ⟨b70, hS⟩ := gd_s hS
   refine VL.app (s := out8_7) (r := s69_16) Tryz.underlying314 gapp350 (by decide) rfl Fo.out (ap1 b70) (ap2 b70 (by decide)) (by decide) (fun s70_18 hs70_18 => ?_)
   replace hS := lt_to hs70_18 hS
   refine Za ?_
   refine Zl ?_
   refine VC.keep [0, 1, 5, 6, 7, 8, 9, 10] rfl ?_
   refine Zq (Zr ?_)
   refine Zm ?_
   obtain ⟨b72, hS⟩ := gd_s hS
   refine VL.q (q_add rfl rfl b72) (by decide) ?_
   refine Za ?_
   refine Zl ?_
   refine Zr ?_
   refine Zm ?_
   obtain ⟨b74, hS⟩ := gd_s hS
   refine VL.q (q_add rfl rfl b74) (by decide) ?_
   refine Za ?_
   refine VL.rnd (s70_18, (i9_8 + 1), (j10_9 + 1)) [0, 1, 5, 6, 7, 8, 9, 10] (fun _ _ h => h) (go2 hS hK1) rfl
  replace hS := it_b h41 hS
  refine VC.cutJ (S := Bool) (fun (x75_20 : Bool) => x75_20) (fun (x75_20 : Bool) => [(0, a_0.val), (1, b_1.val), (5, ptr b5_1 0), (6, ptr b6_3 0), (7, q20_4_0.val), (8, out8_7.val), (9, i64 i9_8), (10, i64 j10_9), (75, .bool x75_20)]) (fun (x75_20 : Bool) => Mo.tt) (fun (x75_20 : Bool) => Ow.star (Blk b6_3 [q13_2_0.parts.val, i64 q13_2_0.err] 54) (Ow.star (Blk b5_1 [.slice none 0 0, i64 0] 54) (Ow.star (Sv.own out8_7 350) (Ow.emp)))) hS ?_ ?_
  ·
   clear hS
   intro k21 hS
   refine VC.draw ((List.range 30).map fun k => (k, true)) mixed (by kernel_rfl) (by kernel_rfl) (by kernel_rfl) ?_
   refine VD.q rfl (q_move rfl) (by decide) ?_
   refine VD.q rfl (q_move rfl) (by decide) ?_
   refine VD.q rfl (q_ln (s := a_0) Tryz.underlying82 rfl) (by decide) ?_
   refine VD.q rfl (q_lss rfl rfl) (by decide) ?_
   refine VD.q rfl (q_move rfl) (by decide) ?_
   refine VD.split_dec 80 rfl (fun h80 => ?_) (fun h80 => ?_)
   ·
    replace hS := it_t h80 hS
    refine VD.gy rfl rfl rfl (q_move rfl) (by decide) ?_
    refine VD.gy rfl rfl rfl (q_move rfl) (by decide) ?_
    refine VD.gy rfl rfl rfl (q_ln (s := b_1) Tryz.underlying82 rfl) (by decide) ?_
    refine VD.gy rfl rfl rfl (q_eql rfl rfl) (by decide) ?_
    refine VD.gy rfl rfl rfl (q_move rfl) (by decide) ?_
    refine VD.split_dec 85 rfl (fun h85 => ?_) (fun h85 => ?_)
    ·
     replace hS := it_t h85 hS
     refine Zd ?_
     refine Zd ?_
     refine Zd ?_
     refine Zd ?_
     refine Zd ?_
     refine Zd ?_
     refine Zd ?_
     refine Zd ?_
     refine Zd ?_
     refine Zd ?_
     refine Zd ?_
     refine Zd ?_
     refine Zd ?_
     refine Zd ?_
     refine Zd ?_
     refine Zd ?_
     refine Zd ?_
     refine VD.gy rfl rfl rfl (q_pick_t rfl rfl) (by decide) ?_
     refine VD.q rfl (q_pick_t rfl rfl) (by decide) ?_
     refine VD.q rfl (q_assign rfl) (by decide) ?_
     refine VD.mt true [0, 1, 5, 6, 7, 8, 9, 10, 75] (fun _ _ h => h) hS rfl
    replace hS := it_f h85 hS
    refine VD.gy rfl rfl rfl (q_move rfl) (by decide) ?_
    refine VD.gy rfl rfl rfl (q_move rfl) (by decide) ?_
    obtain ⟨b88, hS⟩ := gd_s hS
    refine VD.gy rfl rfl rfl (q_add rfl rfl b88) (by decide) ?_
    obtain ⟨z89_22, nz89_22, hz89_22, hS⟩ := atm_s hS
    refine VD.deep z89_22.ok hz89_22 (fun _ q => q) ?_
    refine VD.gy rfl rfl rfl (q_ixm (s := q20_4_0) Tryz.underlying347 gsz26 rfl rfl nz89_22 (lt_of_get nz89_22 hz89_22)) (by decide) ?_
    refine VD.gy rfl rfl rfl (q_el (s := q20_4_0) gone26 rfl hz89_22 rfl) (by decide) ?_
    refine VD.gy rfl rfl rfl (q_move rfl) (by decide) ?_
    obtain ⟨z92_23, nz92_23, hz92_23, hS⟩ := at_s hS
    refine VD.gy rfl rfl rfl (q_ixm (s := z89_22) Tryz.underlying26 gsz3 rfl rfl nz92_23 (lt_of_get nz92_23 hz92_23)) (by decide) ?_
    refine VD.gy rfl rfl rfl (q_el (s := z89_22) gone3 rfl hz92_23 rfl) (by decide) ?_
    refine VD.gy rfl rfl rfl (q_move rfl) (by decide) ?_
    refine VD.gy rfl rfl rfl (q_move rfl) (by decide) ?_
    obtain ⟨z96_24, nz96_24, hz96_24, hS⟩ := atm_s hS
    refine VD.deep z96_24.ok hz96_24 (fun _ q => q) ?_
    refine VD.gy rfl rfl rfl (q_ixm (s := q20_4_0) Tryz.underlying347 gsz26 rfl rfl nz96_24 (lt_of_get nz96_24 hz96_24)) (by decide) ?_
    refine VD.gy rfl rfl rfl (q_el (s := q20_4_0) gone26 rfl hz96_24 rfl) (by decide) ?_
    refine VD.gy rfl rfl rfl (q_move rfl) (by decide) ?_
    obtain ⟨b99, hS⟩ := gd_s hS
    refine VD.gy rfl rfl rfl (q_add rfl rfl b99) (by decide) ?_
    obtain ⟨z100_25, nz100_25, hz100_25, hS⟩ := at_s hS
    refine VD.gy rfl rfl rfl (q_ixm (s := z96_24) Tryz.underlying26 gsz3 rfl rfl nz100_25 (lt_of_get nz100_25 hz100_25)) (by decide) ?_
    refine VD.gy rfl rfl rfl (q_el (s := z96_24) gone3 rfl hz100_25 rfl) (by decide) ?_
    refine VD.gy rfl rfl rfl (q_geq rfl rfl) (by decide) ?_
    refine VD.gy rfl rfl rfl (q_pick_f rfl rfl) (by decide) ?_
    refine VD.q rfl (q_pick_t rfl rfl) (by decide) ?_
    refine VD.q rfl (q_assign rfl) (by decide) ?_
    refine VD.mt (decide (z100_25 ≤ z92_23)) [0, 1, 5, 6, 7, 8, 9, 10, 75] (fun _ _ h => h) hS rfl
   replace hS := it_f h80 hS
   refine Zd ?_
   refine Zd ?_
   refine Zd ?_
   refine Zd ?_
   refine Zd ?_
   refine VD.gu rfl rfl rfl (by decide) ?_
   refine VD.gu rfl rfl rfl (by decide) ?_
   refine VD.gu rfl rfl rfl (by decide) ?_
   refine VD.gu rfl rfl rfl (by decide) ?_
   refine VD.gu rfl rfl rfl (by decide) ?_
   refine VD.gu rfl rfl rfl (by decide) ?_
   refine VD.gu rfl rfl rfl (by decide) ?_
   refine VD.gu rfl rfl rfl (by decide) ?_
   refine VD.gu rfl rfl rfl (by decide) ?_
   refine VD.gu rfl rfl rfl (by decide) ?_
   refine VD.gu rfl rfl rfl (by decide) ?_
   refine VD.gu rfl rfl rfl (by decide) ?_
   refine VD.gu rfl rfl rfl (by decide) ?_
   refine VD.gu rfl rfl rfl (by decide) ?_
   refine VD.gu rfl rfl rfl (by decide) ?_
   refine VD.gu rfl rfl rfl (by decide) ?_
   refine VD.gu rfl rfl rfl (by decide) ?_
   refine Zd ?_
   refine VD.q rfl (q_pick_f rfl rfl) (by decide) ?_
   refine VD.q rfl (q_assign rfl) (by decide) ?_
   refine VD.mt false [0, 1, 5, 6, 7, 8, 9, 10, 75] (fun _ _ h => h) hS rfl
  clear hS
  rintro x75_20 hS
  show VC _ _ _ _ _ [(0, a_0.val), (1, b_1.val), (5, ptr b5_1 0), (6, ptr b6_3 0), (7, q20_4_0.val), (8, out8_7.val), (9, i64 i9_8), (10, i64 j10_9), (75, .bool x75_20)] (Mo.and Mo.tt _) (Ow.star (Blk b6_3 [q13_2_0.parts.val, i64 q13_2_0.err] 54) (Ow.star (Blk b5_1 [.slice none 0 0, i64 0] 54) (Ow.star (Sv.own out8_7 350) (Ow.emp))))
  refine VC.cond rfl (fun h75 => ?_) (fun h75 => ?_)
  ·
   replace hS := it_t h75 hS
   refine Zq (Zr ?_)
   refine Zm ?_
   refine Zm ?_
   refine Zm ?_
   obtain ⟨z108_26, nz108_26, hz108_26, hS⟩ := at_s hS
   refine VL.q (q_ixm (s := a_0) Tryz.underlying82 gsz9 rfl rfl nz108_26 (lt_of_get nz108_26 hz108_26)) (by decide) ?_
   refine VL.q (q_el (s := a_0) gone9 rfl hz108_26 rfl) (by decide) ?_
   refine VL.q (q_build (vs := [(0, i64 2), (1, str z108_26)]) (cs := #[i64 2, str z108_26]) rfl (by kernel_rfl)) (by decide) ?_
   refine VL.lit (α := Rectoref11Edit) (xs := [.tmp 110]) (vs := [.agg #[i64 2, str z108_26]]) [⟨2, z108_26⟩] Tryz.underlying314 glit350 (by decide) rfl rfl rfl rfl (by decide) (fun _ _ _ _ => trivial) (by decide) (fun s111_27 hs111_27 => ?_) (by decide)
   replace hS := lt_to hs111_27 hS
   obtain ⟨b112, hS⟩ := gd_s hS
   refine VL.app (s := out8_7) (r := s111_27) Tryz.underlying314 gapp350 (by decide) rfl Fo.out (ap1 b112) (ap2 b112 (by decide)) (by decide) (fun s112_29 hs112_29 => ?_)
   replace hS := lt_to hs112_29 hS
   refine Za ?_
   refine Zl ?_
   refine VC.keep [0, 1, 5, 6, 7, 8, 9, 10] rfl ?_
   refine Zr ?_
   refine Zm ?_
   obtain ⟨b114, hS⟩ := gd_s hS
   refine VL.q (q_add rfl rfl b114) (by decide) ?_
   refine Za ?_
   refine VL.rnd (s112_29, (i9_8 + 1), j10_9) [0, 1, 5, 6, 7, 8, 9, 10] (fun _ _ h => h) (go2 hS hK1) rfl
  replace hS := it_b h75 hS
  refine Zq (Zr ?_)
  refine Zm ?_
  refine Zm ?_
  refine Zm ?_
  obtain ⟨z34_31, nz34_31, hz34_31, hS⟩ := at_s hS
  refine VL.q (q_ixm (s := b_1) Tryz.underlying82 gsz9 rfl rfl nz34_31 (lt_of_get nz34_31 hz34_31)) (by decide) ?_
  refine VL.q (q_el (s := b_1) gone9 rfl hz34_31 rfl) (by decide) ?_
  refine VL.q (q_build (vs := [(0, i64 3), (1, str z34_31)]) (cs := #[i64 3, str z34_31]) rfl (by kernel_rfl)) (by decide) ?_
  refine VL.lit (α := Rectoref11Edit) (xs := [.tmp 36]) (vs := [.agg #[i64 3, str z34_31]]) [⟨3, z34_31⟩] Tryz.underlying314 glit350 (by decide) rfl rfl rfl rfl (by decide) (fun _ _ _ _ => trivial) (by decide) (fun s37_32 hs37_32 => ?_) (by decide)
  replace hS := lt_to hs37_32 hS
  obtain ⟨b38, hS⟩ := gd_s hS
  refine VL.app (s := out8_7) (r := s37_32) Tryz.underlying314 gapp350 (by decide) rfl Fo.out (ap1 b38) (ap2 b38 (by decide)) (by decide) (fun s38_34 hs38_34 => ?_)
  replace hS := lt_to hs38_34 hS
  refine Za ?_
  refine Zl ?_
  refine VC.keep [0, 1, 5, 6, 7, 8, 9, 10] rfl ?_
  refine Zr ?_
  refine Zm ?_
  obtain ⟨b40, hS⟩ := gd_s hS
  refine VL.q (q_add rfl rfl b40) (by decide) ?_
  refine Za ?_
  refine VL.rnd (s38_34, i9_8, (j10_9 + 1)) [0, 1, 5, 6, 7, 8, 9, 10] (fun _ _ h => h) (go2 hS hK1) rfl
 clear hS
 rintro out8_5 hS
 show VC _ _ _ _ _ [(5, ptr b5_1 0), (6, ptr b6_3 0), (8, out8_5.val)] (Mo.and Mo.tt _) (Ow.star (Blk b6_3 [q13_2_0.parts.val, i64 q13_2_0.err] 54) (Ow.star (Blk b5_1 [.slice none 0 0, i64 0] 54) (Ow.star (Sv.own out8_5 350) (Ow.emp))))
 refine Zq ?_
 refine VC.draw [(0, true), (1, true), (2, true), (3, false)] mixed (by kernel_rfl) (by kernel_rfl) (by kernel_rfl) ?_
 refine VD.q rfl (q_move rfl) (by decide) ?_
 refine VD.q rfl (q_fes gagg54 rfl rfl) (by decide) ?_
 refine VD.q rfl (q_assign rfl) (by decide) ?_
 refine VD.one rfl ?_
 refine VL.store (vc := [q13_2_0.parts.val, i64 q13_2_0.err]) (cs' := [q13_2_0.parts.val, i64 q13_2_0.err]) rfl rfl rfl gsz54 rfl rfl (Nat.le_of_ble_eq_true rfl) rfl ?_
 refine VL.back (D' := []) (by kernel_rfl) (Pend.nil) ?_
 refine VD.to (fun _ _ h => h) ?_
 cases hS
 exact VC.ret (finG (vs := [out8_5.val, .agg #[q13_2_0.parts.val, i64 q13_2_0.err]]) (.inr rfl) rfl (RVs.tmp rfl (RVs.cell gagg54 rfl rfl Rd.blk (RVs.nil))) (out8_5, ⟨q13_2_0.parts, q13_2_0.err⟩) rfl rfl (by (try dsimp only); exact InM.out) (by (try dsimp only); exact EntO.out))
theorem rectoref11_kept_ct (l_0 : Sv Rectoref11Edit) (n_1 : Int) {r : List Int} (hS : Sh.rectoref11_kept l_0.l n_1 = some r) :
 Ct Tryz.prog 233 [l_0.val, i64 n_1] l_0.ok (Ow.emp) (X := Sv Int) (fun x => x.val) (fun x => r = x.l) (fun x => Mo.tt) (fun x => Sv.own x 3) := by
 refine Ct.of Tryz.func233 rfl (by kernel_rfl) Tryz.ntmps233 (by simp) fun c => ?_
 unfold Sh.rectoref11_kept at hS
 refine Zq (Zr ?_)
 refine Za ?_
 refine Zl ?_
 refine Zq (Zr ?_)
 refine Zm ?_
 obtain ⟨b10, hS⟩ := gd_s hS
 refine VL.make (α := Int) (z := 0) Tryz.underlying26 gmk3 (by decide) rfl rfl b10.1 (Int.le_refl _) (by omega) (by omega) (by decide) (fun s10_1 hs10_1 => ?_)
 replace hS := lt_to hs10_1 hS
 refine Za ?_
 refine Zl ?_
 refine Zq (Zr ?_)
 refine Za ?_
 refine Zl ?_
 refine Zq (Zr ?_)
 refine Za ?_
 refine Zl ?_
 refine Zq (Zq (Zr ?_))
 refine Za ?_
 refine Zl ?_
 refine Zb ?_
 refine VC.iter (S := Sv Int × Int × Int × Int) (fun sg => (sg.1.l, sg.2.1, sg.2.2.1, sg.2.2.2)) (fun sg => [(0, l_0.val), (5, sg.1.val), (6, i64 sg.2.1), (7, i64 sg.2.2.1), (8, i64 sg.2.2.2)]) (fun sg => Mo.tt) (fun sg => Ow.star (Sv.own sg.1 3) (Ow.emp)) (s10_1, 0, 0, 0) [0, 5, 6, 7, 8] hS rfl ?_
 clear hS
 rintro ⟨out5_3, i6_4, j7_5, k8_6⟩ m1 y1 hS hK1
 show VC _ _ _ _ _ [(0, l_0.val), (5, out5_3.val), (6, i64 i6_4), (7, i64 j7_5), (8, i64 k8_6)] (Mo.and Mo.tt _) (Ow.star (Sv.own out5_3 3) (Ow.emp))
 refine Zq (Zq (Zr ?_))
 refine Zm ?_
 refine Zm ?_
 refine VL.q (q_ln (s := l_0) Tryz.underlying314 rfl) (by decide) ?_
 refine VL.q (q_lss rfl rfl) (by decide) ?_
 refine Zl ?_
 refine VC.cond_dec rfl (fun h14 => ?_) (fun h14 => ?_)
 ·
  replace hS := it_t h14 hS
  refine Zk ?_
  refine VC.cutJ (S := Sv Int × Int × Int) (fun sg => (sg.1.l, sg.2.1, sg.2.2)) (fun sg => [(0, l_0.val), (5, sg.1.val), (6, i64 sg.2.1), (7, i64 sg.2.2), (8, i64 k8_6)]) (fun sg => Mo.tt) (fun sg => Ow.star (Sv.own sg.1 3) (Ow.emp)) hS ?_ ?_
  ·
   clear hS
   intro k10 hS
   refine Zb (Zq (Zr ?_))
   refine Zm ?_
   refine Zm ?_
   obtain ⟨z19_11, nz19_11, hz19_11, hS⟩ := at_s hS
   refine VL.q (q_ixm (s := l_0) Tryz.underlying314 gsz350 rfl rfl nz19_11 (lt_of_get nz19_11 hz19_11)) (by decide) ?_
   refine VL.q (q_field gfa350_0 rfl) (by decide) ?_
   refine VL.q (q_elf (s := l_0) gone3 rfl hz19_11 rfl) (by decide) ?_
   refine Zl ?_
   refine VC.keep [0, 5, 6, 7, 8, 21] rfl ?_
   refine Zb (Zq (Zr ?_))
   refine VL.q (q_eql rfl rfl) (by decide) ?_
   refine Za ?_
   refine Zl ?_
   refine VC.cond_dec rfl (fun h22 => ?_) (fun h22 => ?_)
   ·
    replace hS := it_t h22 hS
    refine Zq (Zr ?_)
    refine Zm ?_
    refine Zm ?_
    refine Zm ?_
    obtain ⟨z27_12, nz27_12, hz27_12, hS⟩ := at_s hS
    refine VL.q (q_ixo (s := out5_3) Tryz.underlying26 gsz3 rfl rfl nz27_12 (lt_of_get nz27_12 hz27_12)) (by decide) ?_
    refine VL.storeE (s := out5_3) (T := 3) (j := 0) (vc := [i64 j7_5]) (j7_5 : Int) (by decide) rfl rfl hz27_12 rfl gsz3 rfl rfl (Nat.le_of_ble_eq_true rfl) rfl (fun w13 hw13 haw13 hcw13 hvw13 hbw13 how13 => ?_)
    rw [← hvw13]
    replace hS := lt_to hw13 hS
    refine Zl ?_
    refine VC.keep [0, 5, 6, 7, 8] rfl ?_
    refine Zq (Zr ?_)
    refine Zm ?_
    obtain ⟨b29, hS⟩ := gd_s hS
    refine VL.q (q_add rfl rfl b29) (by decide) ?_
    refine Za ?_
    refine Zl ?_
    refine Zr ?_
    refine Zm ?_
    obtain ⟨b31, hS⟩ := gd_s hS
    refine VL.q (q_add rfl rfl b31) (by decide) ?_
    refine Za ?_
    refine VL.mt (w13, (i6_4 + 1), (j7_5 + 1)) [0, 5, 6, 7, 8] (fun _ _ h => h) hS rfl
   replace hS := it_f h22 hS
   refine Zq (Zr ?_)
   refine VL.q (q_eql rfl rfl) (by decide) ?_
   refine Za ?_
   refine Zl ?_
   refine VC.cond_dec rfl (fun h32 => ?_) (fun h32 => ?_)
   ·
    replace hS := it_t h32 hS
    refine Zq (Zr ?_)
    refine Zm ?_
    refine Zm ?_
    obtain ⟨z36_15, nz36_15, hz36_15, hS⟩ := at_s hS
    refine VL.q (q_ixo (s := out5_3) Tryz.underlying26 gsz3 rfl rfl nz36_15 (lt_of_get nz36_15 hz36_15)) (by decide) ?_
    refine VL.storeE (s := out5_3) (T := 3) (j := 0) (vc := [i64 (-1)]) ((-1) : Int) (by decide) rfl rfl hz36_15 rfl gsz3 rfl rfl (Nat.le_of_ble_eq_true rfl) rfl (fun w16 hw16 haw16 hcw16 hvw16 hbw16 how16 => ?_)
    rw [← hvw16]
    replace hS := lt_to hw16 hS
    refine Zl ?_
    refine VC.keep [0, 5, 6, 7, 8] rfl ?_
    refine Zr ?_
    refine Zm ?_
    obtain ⟨b38, hS⟩ := gd_s hS
    refine VL.q (q_add rfl rfl b38) (by decide) ?_
    refine Za ?_
    refine VL.mt (w16, (i6_4 + 1), j7_5) [0, 5, 6, 7, 8] (fun _ _ h => h) hS rfl
   replace hS := it_f h32 hS
   refine Zq (Zr ?_)
   refine VL.q (q_eql rfl rfl) (by decide) ?_
   refine Za ?_
   refine Zl ?_
   refine VC.cond_dec rfl (fun h39 => ?_) (fun h39 => ?_)
   ·
    replace hS := it_t h39 hS
    refine Zr ?_
    refine Zm ?_
    obtain ⟨b42, hS⟩ := gd_s hS
    refine VL.q (q_add rfl rfl b42) (by decide) ?_
    refine Za ?_
    refine VL.mt (out5_3, i6_4, (j7_5 + 1)) [0, 5, 6, 7, 8] (fun _ _ h => h) hS rfl
   replace hS := it_f h39 hS
   refine VC.skip_mt (out5_3, i6_4, j7_5) [0, 5, 6, 7, 8] (fun _ _ h => h) hS rfl
  clear hS
  rintro ⟨out5_7, i6_8, j7_9⟩ hS
  show VC _ _ _ _ _ [(0, l_0.val), (5, out5_7.val), (6, i64 i6_8), (7, i64 j7_9), (8, i64 k8_6)] (Mo.and Mo.tt _) (Ow.star (Sv.own out5_7 3) (Ow.emp))
  refine Zr ?_
  refine Zm ?_
  obtain ⟨b16, hS⟩ := gd_s hS
  refine VL.q (q_add rfl rfl b16) (by decide) ?_
  refine Za ?_
  refine VL.rnd (out5_7, i6_8, j7_9, (k8_6 + 1)) [0, 5, 6, 7, 8] (fun _ _ h => h) (go2 hS hK1) rfl
 replace hS := it_f h14 hS
 replace hS := up2 hS hK1
 refine Zx ?_
 refine Zq (Zr ?_)
 refine Zm ?_
 refine Za ?_
 refine Zl ?_
 refine VC.keep [4] rfl ?_
 cases hS
 exact VC.ret (fin1 (.inr rfl) rfl rfl out5_3 rfl rfl (by (try dsimp only); exact InM.out) (by (try dsimp only); exact EntO.out))
theorem rectoref11_Equal_ct (a_0 : Sv Str) (b_1 : Sv Str) {r : Bool} (hS : Sh.rectoref11_Equal a_0.l b_1.l = some r) :
 Ct Tryz.prog 270 [a_0.val, b_1.val] (a_0.ok.and b_1.ok) (Ow.emp) (X := Unit) (fun _ => .bool r) (fun _ => True) (fun _ => Mo.tt) (fun _ => Ow.emp) := by
 refine Ct.of Tryz.func270 rfl (by kernel_rfl) Tryz.ntmps270 (by simp) fun c => ?_
 unfold Sh.rectoref11_Equal at hS
 refine Zq (Zr ?_)
 refine Za ?_
 refine Zl ?_
 refine Zq (Zq (Zr ?_))
 refine Zm ?_
 refine VL.q (q_ln (s := a_0) Tryz.underlying82 rfl) (by decide) ?_
 refine Zm ?_
 refine VL.q (q_ln (s := b_1) Tryz.underlying82 rfl) (by decide) ?_
 refine VL.q (q_neq rfl rfl) (by decide) ?_
 refine Zl ?_
 refine VC.cond_ndec rfl (fun h10 => ?_) (fun h10 => ?_)
 ·
  replace hS := it_f h10 hS
  refine Zq (Zr ?_)
  refine Za ?_
  refine Zl ?_
  cases hS
  exact Ze
 replace hS := it_t h10 hS
 refine Zk ?_
 refine Zq (Zq (Zr ?_))
 refine Za ?_
 refine Zl ?_
 refine Zb ?_
 refine VC.iter (S := Int) (fun (i5_1 : Int) => i5_1) (fun (i5_1 : Int) => [(0, a_0.val), (1, b_1.val), (5, i64 i5_1)]) (fun (i5_1 : Int) => Mo.tt) (fun (i5_1 : Int) => Ow.emp) 0 [0, 1, 5] hS rfl ?_
 clear hS
 rintro i5_1 m1 y1 hS hK1
 show VC _ _ _ _ _ [(0, a_0.val), (1, b_1.val), (5, i64 i5_1)] (Mo.and Mo.tt _) (Ow.emp)
 refine Zq (Zq (Zr ?_))
 refine Zm ?_
 refine Zm ?_
 refine VL.q (q_ln (s := a_0) Tryz.underlying82 rfl) (by decide) ?_
 refine VL.q (q_lss rfl rfl) (by decide) ?_
 refine Zl ?_
 refine VC.cond_dec rfl (fun h14 => ?_) (fun h14 => ?_)
 ·
  replace hS := it_t h14 hS
  refine Zk ?_
  refine Zq (Zb (Zq ?_))
  refine VC.draw ((List.range 9).map fun k => (k, true)) mixed (by kernel_rfl) (by kernel_rfl) (by kernel_rfl) ?_
  refine VD.q rfl (q_move rfl) (by decide) ?_
  refine VD.q rfl (q_move rfl) (by decide) ?_
  obtain ⟨z19_2, nz19_2, hz19_2, hS⟩ := at_s hS
  refine VD.q rfl (q_ixm (s := a_0) Tryz.underlying82 gsz9 rfl rfl nz19_2 (lt_of_get nz19_2 hz19_2)) (by decide) ?_
  refine VD.q rfl (q_el (s := a_0) gone9 rfl hz19_2 rfl) (by decide) ?_
  refine VD.q rfl (q_move rfl) (by decide) ?_
  refine VD.q rfl (q_move rfl) (by decide) ?_
  obtain ⟨z23_3, nz23_3, hz23_3, hS⟩ := at_s hS
  refine VD.q rfl (q_ixm (s := b_1) Tryz.underlying82 gsz9 rfl rfl nz23_3 (lt_of_get nz23_3 hz23_3)) (by decide) ?_
  refine VD.q rfl (q_el (s := b_1) gone9 rfl hz23_3 rfl) (by decide) ?_
  refine VD.q rfl (q_sne rfl rfl) (by decide) ?_
  refine VD.to (fun _ _ h => h) ?_
  refine VC.keep [0, 1, 5, 25] rfl ?_
  refine VC.cond_ndec rfl (fun h25 => ?_) (fun h25 => ?_)
  ·
   replace hS := it_f h25 hS
   refine Zq (Zr ?_)
   refine Za ?_
   refine Zl ?_
   replace hS := up2 hS hK1
   cases hS
   exact Ze
  replace hS := it_t h25 hS
  refine Zk ?_
  refine Zr ?_
  refine Zm ?_
  obtain ⟨b16, hS⟩ := gd_s hS
  refine VL.q (q_add rfl rfl b16) (by decide) ?_
  refine Za ?_
  refine VL.rnd (i5_1 + 1) [0, 1, 5] (fun _ _ h => h) (go2 hS hK1) rfl
 replace hS := it_f h14 hS
 replace hS := up2 hS hK1
 refine Zx ?_
 refine Zq (Zr ?_)
 refine Za ?_
 refine Zl ?_
 cases hS
 exact Ze
theorem rectoref11_between_ct (b_0 : Sv Str) (o_1 : Sv Str) (t_2 : Sv Str) {r : Rectoref11ChunkP} (hS : Sh.rectoref11_between b_0.l o_1.l t_2.l = some r) :
 Ct Tryz.prog 234 [b_0.val, o_1.val, t_2.val] (b_0.ok.and (o_1.ok.and t_2.ok)) (Ow.emp) (X := Rectoref11Chunk) (fun x => .agg (Dat.enc x).toArray) (fun x => r = x.pl) (fun x => x.m) (fun x => Ow.emp) := by
 refine Ct.of Tryz.func234 rfl (by kernel_rfl) Tryz.ntmps234 (by simp) fun c => ?_
 unfold Sh.rectoref11_between at hS
 refine Zq (Zr ?_)
 refine VL.alloc (cs := [.slice none 0 0, .slice none 0 0, .slice none 0 0, .bool false, .slice none 0 0]) (by kernel_rfl) (by decide) fun b6_1 => ?_
 refine Zl ?_
 refine Zq (Zr ?_)
 refine Zm ?_
 refine Zm ?_
 refine Zm ?_
 refine VL.q (q_build (vs := [(0, b_0.val), (1, o_1.val), (2, t_2.val)]) (cs := #[b_0.val, o_1.val, t_2.val, .bool false, .slice none 0 0]) rfl (by kernel_rfl)) (by decide) ?_
 refine VL.alloc (cs := [.slice none 0 0, .slice none 0 0, .slice none 0 0, .bool false, .slice none 0 0]) (by kernel_rfl) (by decide) fun b7_2 => ?_
 refine VL.store (vc := [b_0.val, o_1.val, t_2.val, .bool false, .slice none 0 0]) (cs' := [b_0.val, o_1.val, t_2.val, .bool false, .slice none 0 0]) rfl rfl rfl gsz268 rfl rfl (Nat.le_of_ble_eq_true rfl) rfl ?_
 refine Zl ?_
 refine Zq (Zb (Zq (Zr ?_)))
 refine Zm ?_
 refine Zm ?_
 obtain ⟨y16_3, ey16_3, hS⟩ := bd_s hS
 refine VL.q (q_call (rectoref11_Equal_ct o_1 b_0 ey16_3) rfl (fun _ _ => rfl)) (by decide) ?_
 refine Za ?_
 refine Zl ?_
 refine VC.keep [0, 1, 2, 6, 7, 13] rfl ?_
 refine VC.cond rfl (fun h13 => ?_) (fun h13 => ?_)
 ·
  replace hS := it_t h13 hS
  refine Zr ?_
  refine Zm ?_
  refine VL.q (q_field gfa268_4 rfl) (by decide) ?_
  refine VL.store (vc := [t_2.val]) (cs' := [b_0.val, o_1.val, t_2.val, .bool false, t_2.val]) rfl rfl rfl gsz82 rfl rfl (Nat.le_of_ble_eq_true rfl) rfl ?_
  refine Zl ?_
  refine Zq (Zr ?_)
  refine VL.q (q_fes gagg268 rfl rfl) (by decide) ?_
  refine VL.store (vc := [b_0.val, o_1.val, t_2.val, .bool false, t_2.val]) (cs' := [b_0.val, o_1.val, t_2.val, .bool false, t_2.val]) rfl rfl rfl gsz268 rfl rfl (Nat.le_of_ble_eq_true rfl) rfl ?_
  refine Zl ?_
  cases hS
  exact VC.ret (finG (vs := [.agg #[b_0.val, o_1.val, t_2.val, .bool false, t_2.val]]) (.inr rfl) rfl (RVs.cell gagg268 rfl rfl Rd.blk (RVs.nil)) ⟨b_0, o_1, t_2, false, t_2⟩ rfl rfl (by (try dsimp only); exact InM.out) (fun _ _ => trivial))
 replace hS := it_b h13 hS
 refine Zq (Zr ?_)
 refine Zm ?_
 refine Zm ?_
 obtain ⟨y22_4, ey22_4, hS⟩ := bd_s hS
 refine VL.q (q_call (rectoref11_Equal_ct t_2 b_0 ey22_4) rfl (fun _ _ => rfl)) (by decide) ?_
 refine Za ?_
 refine Zl ?_
 refine VC.cond rfl (fun h19 => ?_) (fun h19 => ?_)
 ·
  replace hS := it_t h19 hS
  refine Zr ?_
  refine Zm ?_
  refine VL.q (q_field gfa268_4 rfl) (by decide) ?_
  refine VL.store (vc := [o_1.val]) (cs' := [b_0.val, o_1.val, t_2.val, .bool false, o_1.val]) rfl rfl rfl gsz82 rfl rfl (Nat.le_of_ble_eq_true rfl) rfl ?_
  refine Zl ?_
  refine VC.keep [6, 7] rfl ?_
  refine Zq (Zr ?_)
  refine VL.q (q_fes gagg268 rfl rfl) (by decide) ?_
  refine VL.store (vc := [b_0.val, o_1.val, t_2.val, .bool false, o_1.val]) (cs' := [b_0.val, o_1.val, t_2.val, .bool false, o_1.val]) rfl rfl rfl gsz268 rfl rfl (Nat.le_of_ble_eq_true rfl) rfl ?_
  refine Zl ?_
  cases hS
  exact VC.ret (finG (vs := [.agg #[b_0.val, o_1.val, t_2.val, .bool false, o_1.val]]) (.inr rfl) rfl (RVs.cell gagg268 rfl rfl Rd.blk (RVs.nil)) ⟨b_0, o_1, t_2, false, o_1⟩ rfl rfl (by (try dsimp only); exact InM.out) (fun _ _ => trivial))
 replace hS := it_b h19 hS
 refine Zq (Zr ?_)
 refine Zm ?_
 refine Zm ?_
 obtain ⟨y28_5, ey28_5, hS⟩ := bd_s hS
 refine VL.q (q_call (rectoref11_Equal_ct o_1 t_2 ey28_5) rfl (fun _ _ => rfl)) (by decide) ?_
 refine Za ?_
 refine Zl ?_
 refine VC.keep [1, 6, 7, 25] rfl ?_
 refine VC.cond rfl (fun h25 => ?_) (fun h25 => ?_)
 ·
  replace hS := it_t h25 hS
  refine Zr ?_
  refine Zm ?_
  refine VL.q (q_field gfa268_4 rfl) (by decide) ?_
  refine VL.store (vc := [o_1.val]) (cs' := [b_0.val, o_1.val, t_2.val, .bool false, o_1.val]) rfl rfl rfl gsz82 rfl rfl (Nat.le_of_ble_eq_true rfl) rfl ?_
  refine Zl ?_
  refine Zq (Zr ?_)
  refine VL.q (q_fes gagg268 rfl rfl) (by decide) ?_
  refine VL.store (vc := [b_0.val, o_1.val, t_2.val, .bool false, o_1.val]) (cs' := [b_0.val, o_1.val, t_2.val, .bool false, o_1.val]) rfl rfl rfl gsz268 rfl rfl (Nat.le_of_ble_eq_true rfl) rfl ?_
  refine Zl ?_
  cases hS
  exact VC.ret (finG (vs := [.agg #[b_0.val, o_1.val, t_2.val, .bool false, o_1.val]]) (.inr rfl) rfl (RVs.cell gagg268 rfl rfl Rd.blk (RVs.nil)) ⟨b_0, o_1, t_2, false, o_1⟩ rfl rfl (by (try dsimp only); exact InM.out) (fun _ _ => trivial))
 replace hS := it_b h25 hS
 refine Zr ?_
 refine VL.q (q_field gfa268_3 rfl) (by decide) ?_
 refine VL.store (vc := [.bool true]) (cs' := [b_0.val, o_1.val, t_2.val, .bool true, .slice none 0 0]) rfl rfl rfl gsz4 rfl rfl (Nat.le_of_ble_eq_true rfl) rfl ?_
 refine Zl ?_
 refine Zq (Zr ?_)
 refine VL.q (q_fes gagg268 rfl rfl) (by decide) ?_
 refine VL.store (vc := [b_0.val, o_1.val, t_2.val, .bool true, .slice none 0 0]) (cs' := [b_0.val, o_1.val, t_2.val, .bool true, .slice none 0 0]) rfl rfl rfl gsz268 rfl rfl (Nat.le_of_ble_eq_true rfl) rfl ?_
 refine Zl ?_
 cases hS
 exact VC.ret (finG (vs := [.agg #[b_0.val, o_1.val, t_2.val, .bool true, .slice none 0 0]]) (.inr rfl) rfl (RVs.cell gagg268 rfl rfl Rd.blk (RVs.nil)) ⟨b_0, o_1, t_2, true, ⟨none, 0, []⟩⟩ rfl rfl (by (try dsimp only); exact InM.out) (fun _ _ => trivial))
end Go.Proofs.YtleokmhhloamaaaGreatDoor
end

section
set_option linter.unusedVariables false
namespace Go.Proofs.YtleokmhhloamaaaGreatDoor
set_option maxHeartbeats 4000000
set_option maxRecDepth 100000
open Go.RowKit Go.V
open Go.S hiding Str
theorem rectoref11_Chunks_ct (b_0 : Sv Str) (o_1 : Sv Str) (t_2 : Sv Str) {r : List Rectoref11ChunkP × Rectoref3WrongP} (hS : Sh.rectoref11_Chunks b_0.l o_1.l t_2.l = some r) :
 Ct Tryz.prog 186 [b_0.val, o_1.val, t_2.val] (b_0.ok.and (o_1.ok.and t_2.ok)) (Ow.emp) (X := Sv Rectoref11Chunk × Rectoref3Wrong) (fun x => .tuple #[x.1.val, .agg (Dat.enc x.2).toArray]) (fun x => r = ((x.1.l.map Rectoref11Chunk.pl), x.2.pl)) (fun x => (x.1.ok.and x.2.m)) (fun x => Ow.emp) := by
 refine Ct.of Tryz.func186 rfl (by kernel_rfl) Tryz.ntmps186 (by simp) fun c => ?_
 unfold Sh.rectoref11_Chunks at hS
 refine Zq (Zr ?_)
 refine Za ?_
 refine VL.alloc (cs := [.slice none 0 0, i64 0]) (by kernel_rfl) (by decide) fun b7_1 => ?_
 refine Zl ?_
 refine Zq (Zr ?_)
 refine Zm ?_
 refine Zm ?_
 obtain ⟨y26_2, ey26_2, hS⟩ := bd_s hS
 refine VL.callO (rectoref11_Lines_ct b_0 o_1 ey26_2) rfl (by decide) ?_
 rintro ⟨q26_2_0, q26_2_1⟩ rfl
 try dsimp only
 refine Zm ?_
 refine VL.q (q_extract rfl rfl) (by decide) ?_
 refine VL.q (q_extract rfl rfl) (by decide) ?_
 refine VL.alloc (cs := [.slice none 0 0, i64 0]) (by kernel_rfl) (by decide) fun b9_3 => ?_
 refine Za ?_
 refine VL.store (vc := [q26_2_1.parts.val, i64 q26_2_1.err]) (cs' := [q26_2_1.parts.val, i64 q26_2_1.err]) rfl rfl rfl gsz54 rfl rfl (Nat.le_of_ble_eq_true rfl) rfl ?_
 refine Zl ?_
 refine VC.keep [0, 1, 2, 7, 9, 8] rfl ?_
 refine Zq (Zq (Zr ?_))
 refine VL.q (q_field gfa54_1 rfl) (by decide) ?_
 refine VL.q (q_fe gone3 rfl rfl) (by decide) ?_
 refine VL.q (q_neq rfl rfl) (by decide) ?_
 refine Zl ?_
 refine VC.cond_ndec rfl (fun h31 => ?_) (fun h31 => ?_)
 ·
  replace hS := it_f h31 hS
  refine Zq ?_
  refine VC.draw [(0, true), (1, true), (2, false)] mixed (by kernel_rfl) (by kernel_rfl) (by kernel_rfl) ?_
  refine VD.q rfl (q_fes gagg54 rfl rfl) (by decide) ?_
  refine VD.q rfl (q_assign rfl) (by decide) ?_
  refine VD.one rfl ?_
  refine VL.store (vc := [q26_2_1.parts.val, i64 q26_2_1.err]) (cs' := [q26_2_1.parts.val, i64 q26_2_1.err]) rfl rfl rfl gsz54 rfl rfl (Nat.le_of_ble_eq_true rfl) rfl ?_
  refine VL.back (D' := []) (by kernel_rfl) (Pend.nil) ?_
  refine VD.to (fun _ _ h => h) ?_
  refine VC.keep [7, 6] rfl ?_
  cases hS
  exact VC.ret (finG (vs := [.slice none 0 0, .agg #[q26_2_1.parts.val, i64 q26_2_1.err]]) (.inr rfl) rfl (RVs.tmp rfl (RVs.cell gagg54 rfl rfl Rd.blk (RVs.nil))) (⟨none, 0, []⟩, ⟨q26_2_1.parts, q26_2_1.err⟩) rfl rfl (by (try dsimp only); exact InM.out) (fun _ _ => trivial))
 replace hS := it_t h31 hS
 refine Zk ?_
 refine Zq (Zr ?_)
 refine Zm ?_
 refine Zm ?_
 obtain ⟨y36_4, ey36_4, hS⟩ := bd_s hS
 refine VL.callO (rectoref11_Lines_ct b_0 t_2 ey36_4) rfl (by decide) ?_
 rintro ⟨q36_4_0, q36_4_1⟩ rfl
 try dsimp only
 refine Zm ?_
 refine VL.q (q_extract rfl rfl) (by decide) ?_
 refine VL.q (q_extract rfl rfl) (by decide) ?_
 refine VL.alloc (cs := [.slice none 0 0, i64 0]) (by kernel_rfl) (by decide) fun b11_5 => ?_
 refine Za ?_
 refine VL.store (vc := [q36_4_1.parts.val, i64 q36_4_1.err]) (cs' := [q36_4_1.parts.val, i64 q36_4_1.err]) rfl rfl rfl gsz54 rfl rfl (Nat.le_of_ble_eq_true rfl) rfl ?_
 refine Zl ?_
 refine VC.keep [0, 1, 2, 7, 9, 8, 11, 10] rfl ?_
 refine Zq (Zq (Zr ?_))
 refine VL.q (q_field gfa54_1 rfl) (by decide) ?_
 refine VL.q (q_fe gone3 rfl rfl) (by decide) ?_
 refine VL.q (q_neq rfl rfl) (by decide) ?_
 refine Zl ?_
 refine VC.cond_ndec rfl (fun h41 => ?_) (fun h41 => ?_)
 ·
  replace hS := it_f h41 hS
  refine Zq ?_
  refine VC.draw [(0, true), (1, true), (2, false)] mixed (by kernel_rfl) (by kernel_rfl) (by kernel_rfl) ?_
  refine VD.q rfl (q_fes gagg54 rfl rfl) (by decide) ?_
  refine VD.q rfl (q_assign rfl) (by decide) ?_
  refine VD.one rfl ?_
  refine VL.store (vc := [q36_4_1.parts.val, i64 q36_4_1.err]) (cs' := [q36_4_1.parts.val, i64 q36_4_1.err]) rfl rfl rfl gsz54 rfl rfl (Nat.le_of_ble_eq_true rfl) rfl ?_
  refine VL.back (D' := []) (by kernel_rfl) (Pend.nil) ?_
  refine VD.to (fun _ _ h => h) ?_
  refine VC.keep [7, 6] rfl ?_
  cases hS
  exact VC.ret (finG (vs := [.slice none 0 0, .agg #[q36_4_1.parts.val, i64 q36_4_1.err]]) (.inr rfl) rfl (RVs.tmp rfl (RVs.cell gagg54 rfl rfl Rd.blk (RVs.nil))) (⟨none, 0, []⟩, ⟨q36_4_1.parts, q36_4_1.err⟩) rfl rfl (by (try dsimp only); exact InM.out) (fun _ _ => trivial))
 replace hS := it_t h41 hS
 refine Zk ?_
 refine Zq (Zr ?_)
 refine Zm ?_
 refine Zm ?_
 refine VL.q (q_ln (s := b_0) Tryz.underlying82 rfl) (by decide) ?_
 obtain ⟨y46_6, ey46_6, hS⟩ := bd_s hS
 refine VL.callOR (rectoref11_kept_ct q26_2_0 (b_0.l.length : Int) ey46_6) rfl (by decide) ?_
 rintro q46_6_0 rfl
 try dsimp only
 refine Za ?_
 refine Zl ?_
 refine VC.keep [0, 1, 2, 7, 9, 10, 12] rfl ?_
 refine Zq (Zr ?_)
 refine Zm ?_
 refine Zm ?_
 refine VL.q (q_ln (s := b_0) Tryz.underlying82 rfl) (by decide) ?_
 obtain ⟨y50_7, ey50_7, hS⟩ := bd_s hS
 refine VL.callOR (rectoref11_kept_ct q36_4_0 (b_0.l.length : Int) ey50_7) rfl (by decide) ?_
 rintro q50_7_0 rfl
 try dsimp only
 refine Za ?_
 refine Zl ?_
 refine Zq (Zr ?_)
 refine Za ?_
 refine Zl ?_
 refine Zq (Zr ?_)
 refine Za ?_
 refine Zl ?_
 refine Zq (Zr ?_)
 refine Za ?_
 refine Zl ?_
 refine Zq (Zr ?_)
 refine Za ?_
 refine Zl ?_
 refine Zb ?_
 refine VC.nilO (⟨none, 0, []⟩ : Sv Rectoref11Chunk) 268 ⟨rfl, rfl⟩ ?_
 refine VC.maNil (s := (⟨none, 0, []⟩ : Sv Rectoref11Chunk)) rfl ?_
 refine VC.iter (S := Sv Rectoref11Chunk × Int × Int × Int) (fun sg => ((sg.1.l.map Rectoref11Chunk.pl), sg.2.1, sg.2.2.1, sg.2.2.2)) (fun sg => [(0, b_0.val), (1, o_1.val), (2, t_2.val), (7, ptr b7_1 0), (9, ptr b9_3 0), (12, q46_6_0.val), (13, q50_7_0.val), (14, sg.1.val), (15, i64 sg.2.1), (16, i64 sg.2.2.1), (17, i64 sg.2.2.2)]) (fun sg => (MAl sg.1.l)) (fun sg => Ow.star (Blk b11_5 [q36_4_1.parts.val, i64 q36_4_1.err] 54) (Ow.star (Blk b9_3 [q26_2_1.parts.val, i64 q26_2_1.err] 54) (Ow.star (Blk b7_1 [.slice none 0 0, i64 0] 54) (Ow.star (Sv.own q50_7_0 3) (Ow.star (Sv.own q46_6_0 3) (Ow.star (Sv.own sg.1 268) (Ow.emp))))))) (⟨none, 0, []⟩, 0, 0, 0) [0, 1, 2, 7, 9, 12, 13, 14, 15, 16, 17] hS rfl ?_
 clear hS
 rintro ⟨out14_8, i15_9, j16_10, k17_11⟩ m1 y1 hS hK1
 show VC _ _ _ _ _ [(0, b_0.val), (1, o_1.val), (2, t_2.val), (7, ptr b7_1 0), (9, ptr b9_3 0), (12, q46_6_0.val), (13, q50_7_0.val), (14, out14_8.val), (15, i64 i15_9), (16, i64 j16_10), (17, i64 k17_11)] (Mo.and (MAl out14_8.l) _) (Ow.star (Blk b11_5 [q36_4_1.parts.val, i64 q36_4_1.err] 54) (Ow.star (Blk b9_3 [q26_2_1.parts.val, i64 q26_2_1.err] 54) (Ow.star (Blk b7_1 [.slice none 0 0, i64 0] 54) (Ow.star (Sv.own q50_7_0 3) (Ow.star (Sv.own q46_6_0 3) (Ow.star (Sv.own out14_8 268) (Ow.emp)))))))
 refine Zb (Zq (Zr ?_))
 refine Zm ?_
 refine Za ?_
 refine Zl ?_
 refine VC.cutJ (S := Int) (fun (n18_12 : Int) => n18_12) (fun (n18_12 : Int) => [(0, b_0.val), (1, o_1.val), (2, t_2.val), (7, ptr b7_1 0), (9, ptr b9_3 0), (12, q46_6_0.val), (13, q50_7_0.val), (14, out14_8.val), (15, i64 i15_9), (16, i64 j16_10), (17, i64 k17_11), (18, i64 n18_12)]) (fun (n18_12 : Int) => Mo.tt) (fun (n18_12 : Int) => Ow.star (Blk b11_5 [q36_4_1.parts.val, i64 q36_4_1.err] 54) (Ow.star (Blk b9_3 [q26_2_1.parts.val, i64 q26_2_1.err] 54) (Ow.star (Blk b7_1 [.slice none 0 0, i64 0] 54) (Ow.star (Sv.own q50_7_0 3) (Ow.star (Sv.own q46_6_0 3) (Ow.star (Sv.own out14_8 268) (Ow.emp))))))) hS ?_ ?_
 ·
  clear hS
  intro k13 hS
  refine Zb ?_
  refine VC.iter (S := Int) (fun (n18_14 : Int) => n18_14) (fun (n18_14 : Int) => [(0, b_0.val), (1, o_1.val), (2, t_2.val), (7, ptr b7_1 0), (9, ptr b9_3 0), (12, q46_6_0.val), (13, q50_7_0.val), (14, out14_8.val), (15, i64 i15_9), (16, i64 j16_10), (17, i64 k17_11), (18, i64 n18_14)]) (fun (n18_14 : Int) => Mo.tt) (fun (n18_14 : Int) => Ow.star (Blk b11_5 [q36_4_1.parts.val, i64 q36_4_1.err] 54) (Ow.star (Blk b9_3 [q26_2_1.parts.val, i64 q26_2_1.err] 54) (Ow.star (Blk b7_1 [.slice none 0 0, i64 0] 54) (Ow.star (Sv.own q50_7_0 3) (Ow.star (Sv.own q46_6_0 3) (Ow.star (Sv.own out14_8 268) (Ow.emp))))))) i15_9 [0, 1, 2, 7, 9, 12, 13, 14, 15, 16, 17, 18] hS rfl ?_
  clear hS
  rintro n18_14 m2 y2 hS hK2
  show VC _ _ _ _ _ [(0, b_0.val), (1, o_1.val), (2, t_2.val), (7, ptr b7_1 0), (9, ptr b9_3 0), (12, q46_6_0.val), (13, q50_7_0.val), (14, out14_8.val), (15, i64 i15_9), (16, i64 j16_10), (17, i64 k17_11), (18, i64 n18_14)] (Mo.and Mo.tt _) (Ow.star (Blk b11_5 [q36_4_1.parts.val, i64 q36_4_1.err] 54) (Ow.star (Blk b9_3 [q26_2_1.parts.val, i64 q26_2_1.err] 54) (Ow.star (Blk b7_1 [.slice none 0 0, i64 0] 54) (Ow.star (Sv.own q50_7_0 3) (Ow.star (Sv.own q46_6_0 3) (Ow.star (Sv.own out14_8 268) (Ow.emp)))))))
  refine VC.cutJ (S := Unit) (fun (_ : Unit) => ()) (fun (_ : Unit) => [(0, b_0.val), (1, o_1.val), (2, t_2.val), (7, ptr b7_1 0), (9, ptr b9_3 0), (12, q46_6_0.val), (13, q50_7_0.val), (14, out14_8.val), (15, i64 i15_9), (16, i64 j16_10), (17, i64 k17_11), (18, i64 n18_14)]) (fun (_ : Unit) => Mo.tt) (fun (_ : Unit) => Ow.star (Blk b11_5 [q36_4_1.parts.val, i64 q36_4_1.err] 54) (Ow.star (Blk b9_3 [q26_2_1.parts.val, i64 q26_2_1.err] 54) (Ow.star (Blk b7_1 [.slice none 0 0, i64 0] 54) (Ow.star (Sv.own q50_7_0 3) (Ow.star (Sv.own q46_6_0 3) (Ow.star (Sv.own out14_8 268) (Ow.emp))))))) hS ?_ ?_
  ·
   clear hS
   intro k15 hS
   refine Zq (Zr ?_)
   refine Zm ?_
   refine Zm ?_
   refine VL.q (q_ln (s := b_0) Tryz.underlying82 rfl) (by decide) ?_
   refine VL.q (q_lss rfl rfl) (by decide) ?_
   refine Zm ?_
   refine VL.split_dec 56 rfl (fun h56 => ?_) (fun h56 => ?_)
   ·
    replace hS := it_t h56 hS
    refine Zg ?_
    refine Zg ?_
    obtain ⟨z59_16, nz59_16, hz59_16, hS⟩ := at_s hS
    refine VL.gy rfl rfl (q_ixo (s := q46_6_0) Tryz.underlying26 gsz3 rfl rfl nz59_16 (lt_of_get nz59_16 hz59_16)) (by decide) ?_
    refine VL.gy rfl rfl (q_elo (s := q46_6_0) 3 gone3 rfl hz59_16 rfl) (by decide) ?_
    refine VL.gy rfl rfl (q_lss rfl rfl) (by decide) ?_
    refine Zg ?_
    refine VL.split_dec 62 rfl (fun h62 => ?_) (fun h62 => ?_)
    ·
     replace hS := it_t h62 hS
     refine Zn ?_
     refine Zn ?_
     refine Zn ?_
     refine Zn ?_
     refine Zn ?_
     refine VL.gy rfl rfl (q_pick_t rfl rfl) (by decide) ?_
     refine Zt ?_
     refine Zl ?_
     refine VC.keep [0, 1, 2, 7, 9, 12, 13, 14, 15, 16, 17, 18, 69] rfl ?_
     refine VC.cond_t rfl ?_
     refine VC.skip_mt () [0, 1, 2, 7, 9, 12, 13, 14, 15, 16, 17, 18] (fun _ _ h => h) hS rfl
    replace hS := it_f h62 hS
    refine Zg ?_
    refine Zg ?_
    obtain ⟨z65_17, nz65_17, hz65_17, hS⟩ := at_s hS
    refine VL.gy rfl rfl (q_ixo (s := q50_7_0) Tryz.underlying26 gsz3 rfl rfl nz65_17 (lt_of_get nz65_17 hz65_17)) (by decide) ?_
    refine VL.gy rfl rfl (q_elo (s := q50_7_0) 3 gone3 rfl hz65_17 rfl) (by decide) ?_
    refine VL.gy rfl rfl (q_lss rfl rfl) (by decide) ?_
    refine VL.gy rfl rfl (q_pick_f rfl rfl) (by decide) ?_
    refine Zt ?_
    refine Zl ?_
    refine VC.keep [0, 1, 2, 7, 9, 12, 13, 14, 15, 16, 17, 18, 69] rfl ?_
    refine VC.cond_dec rfl (fun h69 => ?_) (fun h69 => ?_)
    ·
     replace hS := it_t h69 hS
     refine VC.skip_mt () [0, 1, 2, 7, 9, 12, 13, 14, 15, 16, 17, 18] (fun _ _ h => h) hS rfl
    replace hS := it_f h69 hS
    replace hS := up2 hS hK2
    refine VC.exit_mt n18_14 [0, 1, 2, 7, 9, 12, 13, 14, 15, 16, 17, 18] (fun _ _ h => h) hS rfl
   replace hS := it_f h56 hS
   refine Zn ?_
   refine Zn ?_
   refine Zn ?_
   refine Zn ?_
   refine Zn ?_
   refine Zn ?_
   refine VL.gu rfl rfl (by decide) ?_
   refine VL.gu rfl rfl (by decide) ?_
   refine VL.gu rfl rfl (by decide) ?_
   refine VL.gu rfl rfl (by decide) ?_
   refine VL.gu rfl rfl (by decide) ?_
   refine Zn ?_
   refine Zf ?_
   refine Zl ?_
   refine VC.keep [0, 1, 2, 7, 9, 12, 13, 14, 15, 16, 17, 18, 69] rfl ?_
   refine VC.cond_f rfl ?_
   replace hS := up2 hS hK2
   refine VC.exit_mt n18_14 [0, 1, 2, 7, 9, 12, 13, 14, 15, 16, 17, 18] (fun _ _ h => h) hS rfl
  clear hS
  rintro _ hS
  show VC _ _ _ _ _ [(0, b_0.val), (1, o_1.val), (2, t_2.val), (7, ptr b7_1 0), (9, ptr b9_3 0), (12, q46_6_0.val), (13, q50_7_0.val), (14, out14_8.val), (15, i64 i15_9), (16, i64 j16_10), (17, i64 k17_11), (18, i64 n18_14)] (Mo.and Mo.tt _) (Ow.star (Blk b11_5 [q36_4_1.parts.val, i64 q36_4_1.err] 54) (Ow.star (Blk b9_3 [q26_2_1.parts.val, i64 q26_2_1.err] 54) (Ow.star (Blk b7_1 [.slice none 0 0, i64 0] 54) (Ow.star (Sv.own q50_7_0 3) (Ow.star (Sv.own q46_6_0 3) (Ow.star (Sv.own out14_8 268) (Ow.emp)))))))
  refine Zb (Zr ?_)
  refine Zm ?_
  obtain ⟨b71, hS⟩ := gd_s hS
  refine VL.q (q_add rfl rfl b71) (by decide) ?_
  refine Za ?_
  refine VL.rnd (n18_14 + 1) [0, 1, 2, 7, 9, 12, 13, 14, 15, 16, 17, 18] (fun _ _ h => h) (go2 hS hK2) rfl
 clear hS
 rintro n18_12 hS
 show VC _ _ _ _ _ [(0, b_0.val), (1, o_1.val), (2, t_2.val), (7, ptr b7_1 0), (9, ptr b9_3 0), (12, q46_6_0.val), (13, q50_7_0.val), (14, out14_8.val), (15, i64 i15_9), (16, i64 j16_10), (17, i64 k17_11), (18, i64 n18_12)] (Mo.and Mo.tt _) (Ow.star (Blk b11_5 [q36_4_1.parts.val, i64 q36_4_1.err] 54) (Ow.star (Blk b9_3 [q26_2_1.parts.val, i64 q26_2_1.err] 54) (Ow.star (Blk b7_1 [.slice none 0 0, i64 0] 54) (Ow.star (Sv.own q50_7_0 3) (Ow.star (Sv.own q46_6_0 3) (Ow.star (Sv.own out14_8 268) (Ow.emp)))))))
 refine Zq (Zr ?_)
 refine Zm ?_
 refine VL.q (q_ln (s := o_1) Tryz.underlying82 rfl) (by decide) ?_
 refine Za ?_
 refine Zl ?_
 refine Zq (Zr ?_)
 refine Zm ?_
 refine VL.q (q_ln (s := t_2) Tryz.underlying82 rfl) (by decide) ?_
 refine Za ?_
 refine Zl ?_
 refine VC.cutJ (S := Int × Int) (fun sg => (sg.1, sg.2)) (fun sg => [(0, b_0.val), (1, o_1.val), (2, t_2.val), (7, ptr b7_1 0), (9, ptr b9_3 0), (12, q46_6_0.val), (13, q50_7_0.val), (14, out14_8.val), (15, i64 i15_9), (16, i64 j16_10), (17, i64 k17_11), (18, i64 n18_12), (19, i64 sg.1), (20, i64 sg.2)]) (fun sg => Mo.tt) (fun sg => Ow.star (Blk b11_5 [q36_4_1.parts.val, i64 q36_4_1.err] 54) (Ow.star (Blk b9_3 [q26_2_1.parts.val, i64 q26_2_1.err] 54) (Ow.star (Blk b7_1 [.slice none 0 0, i64 0] 54) (Ow.star (Sv.own q50_7_0 3) (Ow.star (Sv.own q46_6_0 3) (Ow.star (Sv.own out14_8 268) (Ow.emp))))))) hS ?_ ?_
 ·
  clear hS
  intro k20 hS
  refine Zq (Zr ?_)
  refine Zm ?_
  refine Zm ?_
  refine VL.q (q_ln (s := b_0) Tryz.underlying82 rfl) (by decide) ?_
  refine VL.q (q_lss rfl rfl) (by decide) ?_
  refine Zl ?_
  refine VC.keep [0, 1, 2, 7, 9, 12, 13, 14, 15, 16, 17, 18, 19, 20, 79] rfl ?_
  refine VC.cond_dec rfl (fun h79 => ?_) (fun h79 => ?_)
  ·
   replace hS := it_t h79 hS
   refine Zq (Zr ?_)
   refine Zm ?_
   refine Zm ?_
   obtain ⟨z82_21, nz82_21, hz82_21, hS⟩ := at_s hS
   refine VL.q (q_ixo (s := q46_6_0) Tryz.underlying26 gsz3 rfl rfl nz82_21 (lt_of_get nz82_21 hz82_21)) (by decide) ?_
   refine VL.q (q_elo (s := q46_6_0) 3 gone3 rfl hz82_21 rfl) (by decide) ?_
   refine Za ?_
   refine Zl ?_
   refine Zr ?_
   refine Zm ?_
   refine Zm ?_
   obtain ⟨z86_22, nz86_22, hz86_22, hS⟩ := at_s hS
   refine VL.q (q_ixo (s := q50_7_0) Tryz.underlying26 gsz3 rfl rfl nz86_22 (lt_of_get nz86_22 hz86_22)) (by decide) ?_
   refine VL.q (q_elo (s := q50_7_0) 3 gone3 rfl hz86_22 rfl) (by decide) ?_
   refine Za ?_
   refine VL.mt (z82_21, z86_22) [0, 1, 2, 7, 9, 12, 13, 14, 15, 16, 17, 18, 19, 20] (fun _ _ h => h) hS rfl
  replace hS := it_f h79 hS
  refine VC.skip_mt ((o_1.l.length : Int), (t_2.l.length : Int)) [0, 1, 2, 7, 9, 12, 13, 14, 15, 16, 17, 18, 19, 20] (fun _ _ h => h) hS rfl
 clear hS
 rintro ⟨jo19_18, kt20_19⟩ hS
 show VC _ _ _ _ _ [(0, b_0.val), (1, o_1.val), (2, t_2.val), (7, ptr b7_1 0), (9, ptr b9_3 0), (12, q46_6_0.val), (13, q50_7_0.val), (14, out14_8.val), (15, i64 i15_9), (16, i64 j16_10), (17, i64 k17_11), (18, i64 n18_12), (19, i64 jo19_18), (20, i64 kt20_19)] (Mo.and Mo.tt _) (Ow.star (Blk b11_5 [q36_4_1.parts.val, i64 q36_4_1.err] 54) (Ow.star (Blk b9_3 [q26_2_1.parts.val, i64 q26_2_1.err] 54) (Ow.star (Blk b7_1 [.slice none 0 0, i64 0] 54) (Ow.star (Sv.own q50_7_0 3) (Ow.star (Sv.own q46_6_0 3) (Ow.star (Sv.own out14_8 268) (Ow.emp)))))))
 refine VC.cutJ (S := Sv Rectoref11Chunk) (fun (out14_23 : Sv Rectoref11Chunk) => (out14_23.l.map Rectoref11Chunk.pl)) (fun (out14_23 : Sv Rectoref11Chunk) => [(0, b_0.val), (1, o_1.val), (2, t_2.val), (7, ptr b7_1 0), (9, ptr b9_3 0), (12, q46_6_0.val), (13, q50_7_0.val), (14, out14_23.val), (18, i64 n18_12), (19, i64 jo19_18), (20, i64 kt20_19)]) (fun (out14_23 : Sv Rectoref11Chunk) => (MAl out14_23.l)) (fun (out14_23 : Sv Rectoref11Chunk) => Ow.star (Blk b11_5 [q36_4_1.parts.val, i64 q36_4_1.err] 54) (Ow.star (Blk b9_3 [q26_2_1.parts.val, i64 q26_2_1.err] 54) (Ow.star (Blk b7_1 [.slice none 0 0, i64 0] 54) (Ow.star (Sv.own q50_7_0 3) (Ow.star (Sv.own q46_6_0 3) (Ow.star (Sv.own out14_23 268) (Ow.emp))))))) hS ?_ ?_
 ·
  clear hS
  intro k24 hS
  refine VC.cutJ (S := Bool) (fun (x100_25 : Bool) => x100_25) (fun (x100_25 : Bool) => [(0, b_0.val), (1, o_1.val), (2, t_2.val), (7, ptr b7_1 0), (9, ptr b9_3 0), (12, q46_6_0.val), (13, q50_7_0.val), (14, out14_8.val), (15, i64 i15_9), (16, i64 j16_10), (17, i64 k17_11), (18, i64 n18_12), (19, i64 jo19_18), (20, i64 kt20_19), (100, .bool x100_25)]) (fun (x100_25 : Bool) => Mo.tt) (fun (x100_25 : Bool) => Ow.star (Blk b11_5 [q36_4_1.parts.val, i64 q36_4_1.err] 54) (Ow.star (Blk b9_3 [q26_2_1.parts.val, i64 q26_2_1.err] 54) (Ow.star (Blk b7_1 [.slice none 0 0, i64 0] 54) (Ow.star (Sv.own q50_7_0 3) (Ow.star (Sv.own q46_6_0 3) (Ow.star (Sv.own out14_8 268) (Ow.emp))))))) hS ?_ ?_
  ·
   clear hS
   intro k26 hS
   refine Zr ?_
   refine Zm ?_
   refine Zm ?_
   refine VL.q (q_gtr rfl rfl) (by decide) ?_
   refine Zm ?_
   refine VL.split_dec 91 rfl (fun h91 => ?_) (fun h91 => ?_)
   ·
    replace hS := it_t h91 hS
    refine Zn ?_
    refine Zn ?_
    refine Zn ?_
    refine Zt ?_
    refine Zm ?_
    refine Zn ?_
    refine Zn ?_
    refine Zn ?_
    refine Zt ?_
    refine VL.mt true [0, 1, 2, 7, 9, 12, 13, 14, 15, 16, 17, 18, 19, 20, 100] (fun _ _ h => h) hS rfl
   replace hS := it_f h91 hS
   refine Zg ?_
   refine Zg ?_
   refine VL.gy rfl rfl (q_gtr rfl rfl) (by decide) ?_
   refine Zf ?_
   refine Zm ?_
   refine VL.split_dec 96 rfl (fun h96 => ?_) (fun h96 => ?_)
   ·
    replace hS := it_t h96 hS
    refine Zn ?_
    refine Zn ?_
    refine Zn ?_
    refine Zt ?_
    refine VL.mt true [0, 1, 2, 7, 9, 12, 13, 14, 15, 16, 17, 18, 19, 20, 100] (fun _ _ h => h) hS rfl
   replace hS := it_f h96 hS
   refine Zg ?_
   refine Zg ?_
   refine VL.gy rfl rfl (q_gtr rfl rfl) (by decide) ?_
   refine Zf ?_
   refine VL.mt (decide (k17_11 < kt20_19)) [0, 1, 2, 7, 9, 12, 13, 14, 15, 16, 17, 18, 19, 20, 100] (fun _ _ h => h) hS rfl
  clear hS
  rintro x100_25 hS
  show VC _ _ _ _ _ [(0, b_0.val), (1, o_1.val), (2, t_2.val), (7, ptr b7_1 0), (9, ptr b9_3 0), (12, q46_6_0.val), (13, q50_7_0.val), (14, out14_8.val), (15, i64 i15_9), (16, i64 j16_10), (17, i64 k17_11), (18, i64 n18_12), (19, i64 jo19_18), (20, i64 kt20_19), (100, .bool x100_25)] (Mo.and Mo.tt _) (Ow.star (Blk b11_5 [q36_4_1.parts.val, i64 q36_4_1.err] 54) (Ow.star (Blk b9_3 [q26_2_1.parts.val, i64 q26_2_1.err] 54) (Ow.star (Blk b7_1 [.slice none 0 0, i64 0] 54) (Ow.star (Sv.own q50_7_0 3) (Ow.star (Sv.own q46_6_0 3) (Ow.star (Sv.own out14_8 268) (Ow.emp)))))))
  refine VC.cond rfl (fun h100 => ?_) (fun h100 => ?_)
  ·
   replace hS := it_t h100 hS
   refine VC.draw [(0, true), (1, true), (2, true), (3, true), (4, true), (5, true), (6, true), (7, true), (8, true), (9, true), (10, true), (11, true), (12, true), (13, false), (14, false), (15, false), (16, true)] mixed (by kernel_rfl) (by kernel_rfl) (by kernel_rfl) ?_
   refine VD.q rfl (q_move rfl) (by decide) ?_
   refine VD.q rfl (q_move rfl) (by decide) ?_
   refine VD.q rfl (q_move rfl) (by decide) ?_
   refine VD.q rfl (q_move rfl) (by decide) ?_
   obtain ⟨b105, hS⟩ := gd_s hS
   refine VD.smidK rfl Tryz.underlying82 gsz9 rfl rfl rfl b105.1 b105.2.1 (b105.2.2) (by decide) fun s105_27 hs105_27 Qs105_27 => ?_
   replace hS := lt_to hs105_27 hS
   refine VD.q rfl (q_move rfl) (by decide) ?_
   refine VD.q rfl (q_move rfl) (by decide) ?_
   refine VD.q rfl (q_move rfl) (by decide) ?_
   obtain ⟨b109, hS⟩ := gd_s hS
   refine VD.smidK rfl Tryz.underlying82 gsz9 rfl rfl rfl b109.1 b109.2.1 (b109.2.2) (by decide) fun s109_29 hs109_29 Qs109_29 => ?_
   replace hS := lt_to hs109_29 hS
   refine VD.q rfl (q_move rfl) (by decide) ?_
   refine VD.q rfl (q_move rfl) (by decide) ?_
   refine VD.q rfl (q_move rfl) (by decide) ?_
   obtain ⟨b113, hS⟩ := gd_s hS
   refine VD.smidK rfl Tryz.underlying82 gsz9 rfl rfl rfl b113.1 b113.2.1 (b113.2.2) (by decide) fun s113_31 hs113_31 Qs113_31 => ?_
   replace hS := lt_to hs113_31 hS
   refine VD.one rfl ?_
   obtain ⟨y114_33, ey114_33, hS⟩ := bd_s hS
   refine VL.callF (rectoref11_between_ct s105_27 s109_29 s113_31 ey114_33) rfl (by decide) ?_
   rintro q114_33_0 rfl
   try dsimp only
   refine VL.back (D' := []) (by kernel_rfl) (Pend.nil) ?_
   refine VD.one rfl ?_
   refine VL.lit (α := Rectoref11Chunk) (xs := [.tmp 114]) (vs := [.agg #[q114_33_0.base.val, q114_33_0.ours.val, q114_33_0.theirs.val, .bool q114_33_0.clash, q114_33_0.out.val]]) [⟨q114_33_0.base, q114_33_0.ours, q114_33_0.theirs, q114_33_0.clash, q114_33_0.out⟩] Tryz.underlying265 glit268 (by decide) rfl rfl rfl rfl (by decide) (fun h m => List.forall_mem_cons.2 ⟨InM.out (X := (q114_33_0.base.ok.and (q114_33_0.ours.ok.and (q114_33_0.theirs.ok.and q114_33_0.out.ok)))) h m, fun _ h => by cases h⟩) (by decide) (fun s115_34 hs115_34 => ?_) (by decide)
   replace hS := lt_to (congrArg (List.map Rectoref11Chunk.pl) hs115_34) hS
   refine VL.back (D' := []) (by kernel_rfl) (Pend.nil) ?_
   refine VD.one rfl ?_
   obtain ⟨b116, hS⟩ := gd_s hS
   refine VL.app (s := out14_8) (r := s115_34) Tryz.underlying265 gapp268 (by decide) rfl Fo.out (ap1 (apm b116)) (ap2 (apm b116) (by decide)) (by decide) (fun s116_36 hs116_36 => ?_)
   replace hS := lt_to ((congrArg (List.map Rectoref11Chunk.pl) hs116_36).trans List.map_append) hS
   refine VL.maApp hs116_36 ?_
   refine VL.back (D' := []) (by kernel_rfl) (Pend.nil) ?_
   refine VD.q rfl (q_assign rfl) (by decide) ?_
   refine VD.mt s116_36 [0, 1, 2, 7, 9, 12, 13, 14, 18, 19, 20] (fun _ _ h => h) hS rfl
  replace hS := it_b h100 hS
  refine VC.skip_mt out14_8 [0, 1, 2, 7, 9, 12, 13, 14, 18, 19, 20] (fun _ _ h => h) hS rfl
 clear hS
 rintro out14_23 hS
 show VC _ _ _ _ _ [(0, b_0.val), (1, o_1.val), (2, t_2.val), (7, ptr b7_1 0), (9, ptr b9_3 0), (12, q46_6_0.val), (13, q50_7_0.val), (14, out14_23.val), (18, i64 n18_12), (19, i64 jo19_18), (20, i64 kt20_19)] (Mo.and (MAl out14_23.l) _) (Ow.star (Blk b11_5 [q36_4_1.parts.val, i64 q36_4_1.err] 54) (Ow.star (Blk b9_3 [q26_2_1.parts.val, i64 q26_2_1.err] 54) (Ow.star (Blk b7_1 [.slice none 0 0, i64 0] 54) (Ow.star (Sv.own q50_7_0 3) (Ow.star (Sv.own q46_6_0 3) (Ow.star (Sv.own out14_23 268) (Ow.emp)))))))
 refine Zq (Zq (Zr ?_))
 refine Zm ?_
 refine Zm ?_
 refine VL.q (q_ln (s := b_0) Tryz.underlying82 rfl) (by decide) ?_
 refine VL.q (q_eql rfl rfl) (by decide) ?_
 refine Zl ?_
 refine VC.cond_dec rfl (fun h120 => ?_) (fun h120 => ?_)
 ·
  replace hS := it_t h120 hS
  refine Zq ?_
  refine VC.draw [(0, true), (1, true), (2, true), (3, false)] mixed (by kernel_rfl) (by kernel_rfl) (by kernel_rfl) ?_
  refine VD.q rfl (q_move rfl) (by decide) ?_
  refine VD.q rfl (q_fes gagg54 rfl rfl) (by decide) ?_
  refine VD.q rfl (q_assign rfl) (by decide) ?_
  refine VD.one rfl ?_
  refine VL.store (vc := [q26_2_1.parts.val, i64 q26_2_1.err]) (cs' := [q26_2_1.parts.val, i64 q26_2_1.err]) rfl rfl rfl gsz54 rfl rfl (Nat.le_of_ble_eq_true rfl) rfl ?_
  refine VL.back (D' := []) (by kernel_rfl) (Pend.nil) ?_
  refine VD.to (fun _ _ h => h) ?_
  refine VC.keep [7, 6] rfl ?_
  replace hS := up2 hS hK1
  refine VC.shut out14_23 268 (fun h m => InM.out (X := MAl out14_23.l) h m) ?_
  cases hS
  exact VC.ret (finG (vs := [out14_23.val, .agg #[q26_2_1.parts.val, i64 q26_2_1.err]]) (.inr rfl) rfl (RVs.tmp rfl (RVs.cell gagg54 rfl rfl Rd.blk (RVs.nil))) (out14_23, ⟨q26_2_1.parts, q26_2_1.err⟩) rfl rfl (by (try dsimp only); exact InM.out) (fun _ _ => trivial))
 replace hS := it_f h120 hS
 refine Zk ?_
 refine Zq (Zr ?_)
 refine Zm ?_
 refine Za ?_
 refine Zl ?_
 refine VC.cutJ (S := Int) (fun (m21_38 : Int) => m21_38) (fun (m21_38 : Int) => [(0, b_0.val), (1, o_1.val), (2, t_2.val), (7, ptr b7_1 0), (9, ptr b9_3 0), (12, q46_6_0.val), (13, q50_7_0.val), (14, out14_23.val), (18, i64 n18_12), (19, i64 jo19_18), (20, i64 kt20_19), (21, i64 m21_38)]) (fun (m21_38 : Int) => Mo.tt) (fun (m21_38 : Int) => Ow.star (Blk b11_5 [q36_4_1.parts.val, i64 q36_4_1.err] 54) (Ow.star (Blk b9_3 [q26_2_1.parts.val, i64 q26_2_1.err] 54) (Ow.star (Blk b7_1 [.slice none 0 0, i64 0] 54) (Ow.star (Sv.own q50_7_0 3) (Ow.star (Sv.own q46_6_0 3) (Ow.star (Sv.own out14_23 268) (Ow.emp))))))) hS ?_ ?_
 ·
  clear hS
  intro k39 hS
  refine Zb ?_
  refine VC.iter (S := Int) (fun (m21_40 : Int) => m21_40) (fun (m21_40 : Int) => [(0, b_0.val), (1, o_1.val), (2, t_2.val), (7, ptr b7_1 0), (9, ptr b9_3 0), (12, q46_6_0.val), (13, q50_7_0.val), (14, out14_23.val), (18, i64 n18_12), (19, i64 jo19_18), (20, i64 kt20_19), (21, i64 m21_40)]) (fun (m21_40 : Int) => Mo.tt) (fun (m21_40 : Int) => Ow.star (Blk b11_5 [q36_4_1.parts.val, i64 q36_4_1.err] 54) (Ow.star (Blk b9_3 [q26_2_1.parts.val, i64 q26_2_1.err] 54) (Ow.star (Blk b7_1 [.slice none 0 0, i64 0] 54) (Ow.star (Sv.own q50_7_0 3) (Ow.star (Sv.own q46_6_0 3) (Ow.star (Sv.own out14_23 268) (Ow.emp))))))) n18_12 [0, 1, 2, 7, 9, 12, 13, 14, 18, 19, 20, 21] hS rfl ?_
  clear hS
  rintro m21_40 m2 y2 hS hK2
  show VC _ _ _ _ _ [(0, b_0.val), (1, o_1.val), (2, t_2.val), (7, ptr b7_1 0), (9, ptr b9_3 0), (12, q46_6_0.val), (13, q50_7_0.val), (14, out14_23.val), (18, i64 n18_12), (19, i64 jo19_18), (20, i64 kt20_19), (21, i64 m21_40)] (Mo.and Mo.tt _) (Ow.star (Blk b11_5 [q36_4_1.parts.val, i64 q36_4_1.err] 54) (Ow.star (Blk b9_3 [q26_2_1.parts.val, i64 q26_2_1.err] 54) (Ow.star (Blk b7_1 [.slice none 0 0, i64 0] 54) (Ow.star (Sv.own q50_7_0 3) (Ow.star (Sv.own q46_6_0 3) (Ow.star (Sv.own out14_23 268) (Ow.emp)))))))
  refine Zq (Zq (Zr ?_))
  refine Zm ?_
  refine Zm ?_
  refine VL.q (q_ln (s := b_0) Tryz.underlying82 rfl) (by decide) ?_
  refine VL.q (q_lss rfl rfl) (by decide) ?_
  refine Zm ?_
  refine VL.split_dec 128 rfl (fun h128 => ?_) (fun h128 => ?_)
  ·
   replace hS := it_t h128 hS
   refine Zg ?_
   refine Zg ?_
   obtain ⟨z131_41, nz131_41, hz131_41, hS⟩ := at_s hS
   refine VL.gy rfl rfl (q_ixo (s := q46_6_0) Tryz.underlying26 gsz3 rfl rfl nz131_41 (lt_of_get nz131_41 hz131_41)) (by decide) ?_
   refine VL.gy rfl rfl (q_elo (s := q46_6_0) 3 gone3 rfl hz131_41 rfl) (by decide) ?_
   refine VL.gy rfl rfl (q_geq rfl rfl) (by decide) ?_
   refine Zt ?_
   refine Zm ?_
   refine VL.split_dec 135 rfl (fun h135 => ?_) (fun h135 => ?_)
   ·
    replace hS := it_t h135 hS
    refine Zg ?_
    refine Zg ?_
    obtain ⟨z138_42, nz138_42, hz138_42, hS⟩ := at_s hS
    refine VL.gy rfl rfl (q_ixo (s := q50_7_0) Tryz.underlying26 gsz3 rfl rfl nz138_42 (lt_of_get nz138_42 hz138_42)) (by decide) ?_
    refine VL.gy rfl rfl (q_elo (s := q50_7_0) 3 gone3 rfl hz138_42 rfl) (by decide) ?_
    refine VL.gy rfl rfl (q_geq rfl rfl) (by decide) ?_
    refine Zt ?_
    refine Zm ?_
    refine VL.split_dec 142 rfl (fun h142 => ?_) (fun h142 => ?_)
    ·
     replace hS := it_t h142 hS
     refine Zg ?_
     refine Zg ?_
     obtain ⟨z145_43, nz145_43, hz145_43, hS⟩ := at_s hS
     refine VL.gy rfl rfl (q_ixo (s := q46_6_0) Tryz.underlying26 gsz3 rfl rfl nz145_43 (lt_of_get nz145_43 hz145_43)) (by decide) ?_
     refine VL.gy rfl rfl (q_elo (s := q46_6_0) 3 gone3 rfl hz145_43 rfl) (by decide) ?_
     refine Zg ?_
     obtain ⟨b148, hS⟩ := gd_s hS
     refine VL.gy rfl rfl (q_sub rfl rfl b148) (by decide) ?_
     refine Zg ?_
     refine Zg ?_
     obtain ⟨b151, hS⟩ := gd_s hS
     refine VL.gy rfl rfl (q_sub rfl rfl b151) (by decide) ?_
     refine VL.gy rfl rfl (q_eql rfl rfl) (by decide) ?_
     refine Zt ?_
     refine Zm ?_
     refine VL.split_dec 154 rfl (fun h154 => ?_) (fun h154 => ?_)
     ·
      replace hS := it_t h154 hS
      refine Zg ?_
      refine Zg ?_
      obtain ⟨z157_44, nz157_44, hz157_44, hS⟩ := at_s hS
      refine VL.gy rfl rfl (q_ixo (s := q50_7_0) Tryz.underlying26 gsz3 rfl rfl nz157_44 (lt_of_get nz157_44 hz157_44)) (by decide) ?_
      refine VL.gy rfl rfl (q_elo (s := q50_7_0) 3 gone3 rfl hz157_44 rfl) (by decide) ?_
      refine Zg ?_
      obtain ⟨b160, hS⟩ := gd_s hS
      refine VL.gy rfl rfl (q_sub rfl rfl b160) (by decide) ?_
      refine Zg ?_
      refine Zg ?_
      obtain ⟨b163, hS⟩ := gd_s hS
      refine VL.gy rfl rfl (q_sub rfl rfl b163) (by decide) ?_
      refine VL.gy rfl rfl (q_eql rfl rfl) (by decide) ?_
      refine Zt ?_
      refine Zl ?_
      refine VC.keep [0, 1, 2, 7, 9, 12, 13, 14, 18, 19, 20, 21, 165] rfl ?_
      refine VC.cond_dec rfl (fun h165 => ?_) (fun h165 => ?_)
      ·
       replace hS := it_t h165 hS
       refine Zk ?_
       refine Zb (Zr ?_)
       refine Zm ?_
       obtain ⟨b167, hS⟩ := gd_s hS
       refine VL.q (q_add rfl rfl b167) (by decide) ?_
       refine Za ?_
       refine VL.rnd (m21_40 + 1) [0, 1, 2, 7, 9, 12, 13, 14, 18, 19, 20, 21] (fun _ _ h => h) (go2 hS hK2) rfl
      replace hS := it_f h165 hS
      replace hS := up2 hS hK2
      refine VC.exit_mt m21_40 [0, 1, 2, 7, 9, 12, 13, 14, 18, 19, 20, 21] (fun _ _ h => h) hS rfl
     replace hS := it_f h154 hS
     refine Zn ?_
     refine Zn ?_
     refine Zn ?_
     refine Zn ?_
     refine Zn ?_
     refine Zn ?_
     refine Zn ?_
     refine Zn ?_
     refine Zn ?_
     refine Zn ?_
     refine Zf ?_
     refine Zl ?_
     refine VC.keep [0, 1, 2, 7, 9, 12, 13, 14, 18, 19, 20, 21, 165] rfl ?_
     refine VC.cond_f rfl ?_
     replace hS := up2 hS hK2
     refine VC.exit_mt m21_40 [0, 1, 2, 7, 9, 12, 13, 14, 18, 19, 20, 21] (fun _ _ h => h) hS rfl
    replace hS := it_f h142 hS
    refine Zn ?_
    refine Zn ?_
    refine Zn ?_
    refine Zn ?_
    refine Zn ?_
    refine Zn ?_
    refine Zn ?_
    refine Zn ?_
    refine Zn ?_
    refine Zn ?_
    refine Zf ?_
    refine Zm ?_
    refine Zn ?_
    refine Zn ?_
    refine Zn ?_
    refine Zn ?_
    refine Zn ?_
    refine Zn ?_
    refine Zn ?_
    refine Zn ?_
    refine Zn ?_
    refine Zn ?_
    refine Zf ?_
    refine Zl ?_
    refine VC.keep [0, 1, 2, 7, 9, 12, 13, 14, 18, 19, 20, 21, 165] rfl ?_
    refine VC.cond_f rfl ?_
    replace hS := up2 hS hK2
    refine VC.exit_mt m21_40 [0, 1, 2, 7, 9, 12, 13, 14, 18, 19, 20, 21] (fun _ _ h => h) hS rfl
   replace hS := it_f h135 hS
   refine Zn ?_
   refine Zn ?_
   refine Zn ?_
   refine Zn ?_
   refine Zn ?_
   refine Zf ?_
   refine Zm ?_
   refine Zn ?_
   refine Zn ?_
   refine Zn ?_
   refine Zn ?_
   refine Zn ?_
   refine Zn ?_
   refine Zn ?_
   refine Zn ?_
   refine Zn ?_
   refine Zn ?_
   refine Zf ?_
   refine Zm ?_
   refine Zn ?_
   refine Zn ?_
   refine Zn ?_
   refine Zn ?_
   refine Zn ?_
   refine Zn ?_
   refine Zn ?_
   refine Zn ?_
   refine Zn ?_
   refine Zn ?_
   refine Zf ?_
   refine Zl ?_
   refine VC.keep [0, 1, 2, 7, 9, 12, 13, 14, 18, 19, 20, 21, 165] rfl ?_
   refine VC.cond_f rfl ?_
   replace hS := up2 hS hK2
   refine VC.exit_mt m21_40 [0, 1, 2, 7, 9, 12, 13, 14, 18, 19, 20, 21] (fun _ _ h => h) hS rfl
  replace hS := it_f h128 hS
  refine Zn ?_
  refine Zn ?_
  refine Zn ?_
  refine Zn ?_
  refine Zn ?_
  refine Zf ?_
  refine Zm ?_
  refine Zn ?_
  refine Zn ?_
  refine Zn ?_
  refine Zn ?_
  refine Zn ?_
  refine Zf ?_
  refine Zm ?_
  refine Zn ?_
  refine Zn ?_
  refine Zn ?_
  refine Zn ?_
  refine Zn ?_
  refine Zn ?_
  refine Zn ?_
  refine Zn ?_
  refine Zn ?_
  refine Zn ?_
  refine Zf ?_
  refine Zm ?_
  refine Zn ?_
  refine Zn ?_
  refine Zn ?_
  refine Zn ?_
  refine Zn ?_
  refine Zn ?_
  refine Zn ?_
  refine Zn ?_
  refine Zn ?_
  refine Zn ?_
  refine Zf ?_
  refine Zl ?_
  refine VC.keep [0, 1, 2, 7, 9, 12, 13, 14, 18, 19, 20, 21, 165] rfl ?_
  refine VC.cond_f rfl ?_
  replace hS := up2 hS hK2
  refine VC.exit_mt m21_40 [0, 1, 2, 7, 9, 12, 13, 14, 18, 19, 20, 21] (fun _ _ h => h) hS rfl
 clear hS
 rintro m21_38 hS
 show VC _ _ _ _ _ [(0, b_0.val), (1, o_1.val), (2, t_2.val), (7, ptr b7_1 0), (9, ptr b9_3 0), (12, q46_6_0.val), (13, q50_7_0.val), (14, out14_23.val), (18, i64 n18_12), (19, i64 jo19_18), (20, i64 kt20_19), (21, i64 m21_38)] (Mo.and Mo.tt _) (Ow.star (Blk b11_5 [q36_4_1.parts.val, i64 q36_4_1.err] 54) (Ow.star (Blk b9_3 [q26_2_1.parts.val, i64 q26_2_1.err] 54) (Ow.star (Blk b7_1 [.slice none 0 0, i64 0] 54) (Ow.star (Sv.own q50_7_0 3) (Ow.star (Sv.own q46_6_0 3) (Ow.star (Sv.own out14_23 268) (Ow.emp)))))))
 refine Zq (Zr ?_)
 refine Zm ?_
 refine Zm ?_
 refine Zm ?_
 obtain ⟨b171, hS⟩ := gd_s hS
 refine VL.smid Tryz.underlying82 gsz9 rfl rfl rfl b171.1 b171.2.1 (b171.2.2) (by decide) fun s171_45 hs171_45 => ?_
 replace hS := lt_to hs171_45 hS
 refine Za ?_
 refine Zl ?_
 refine Zq (Zr ?_)
 refine Zm ?_
 refine Zm ?_
 refine Zm ?_
 refine Zm ?_
 refine Zm ?_
 refine VL.q (q_build (vs := [(0, s171_45.val), (1, s171_45.val), (2, s171_45.val), (4, s171_45.val)]) (cs := #[s171_45.val, s171_45.val, s171_45.val, .bool false, s171_45.val]) rfl (by kernel_rfl)) (by decide) ?_
 refine VL.lit (α := Rectoref11Chunk) (xs := [.tmp 177]) (vs := [.agg #[s171_45.val, s171_45.val, s171_45.val, .bool false, s171_45.val]]) [⟨s171_45, s171_45, s171_45, false, s171_45⟩] Tryz.underlying265 glit268 (by decide) rfl rfl rfl rfl (by decide) (fun h m => List.forall_mem_cons.2 ⟨InM.out (X := (s171_45.ok.and (s171_45.ok.and (s171_45.ok.and s171_45.ok)))) h m, fun _ h => by cases h⟩) (by decide) (fun s178_47 hs178_47 => ?_) (by decide)
 replace hS := lt_to (congrArg (List.map Rectoref11Chunk.pl) hs178_47) hS
 obtain ⟨b179, hS⟩ := gd_s hS
 refine VL.app (s := out14_23) (r := s178_47) Tryz.underlying265 gapp268 (by decide) rfl Fo.out (ap1 (apm b179)) (ap2 (apm b179) (by decide)) (by decide) (fun s179_49 hs179_49 => ?_)
 replace hS := lt_to ((congrArg (List.map Rectoref11Chunk.pl) hs179_49).trans List.map_append) hS
 refine VL.maApp hs179_49 ?_
 refine Za ?_
 refine Zl ?_
 refine VC.keep [0, 1, 2, 7, 9, 12, 13, 14, 18, 19, 20, 21] rfl ?_
 refine Zq (Zr ?_)
 refine Zm ?_
 refine Za ?_
 refine Zl ?_
 refine Zq (Zr ?_)
 refine Zm ?_
 refine Zm ?_
 obtain ⟨b183, hS⟩ := gd_s hS
 refine VL.q (q_add rfl rfl b183) (by decide) ?_
 refine Zm ?_
 obtain ⟨b185, hS⟩ := gd_s hS
 refine VL.q (q_sub rfl rfl b185) (by decide) ?_
 refine Za ?_
 refine Zl ?_
 refine VC.keep [0, 1, 2, 7, 9, 12, 13, 14, 18, 20, 21, 15, 16] rfl ?_
 refine Zr ?_
 refine Zm ?_
 refine Zm ?_
 obtain ⟨b188, hS⟩ := gd_s hS
 refine VL.q (q_add rfl rfl b188) (by decide) ?_
 refine Zm ?_
 obtain ⟨b190, hS⟩ := gd_s hS
 refine VL.q (q_sub rfl rfl b190) (by decide) ?_
 refine Za ?_
 refine VL.rnd (s179_49, m21_38, ((jo19_18 + m21_38) - n18_12), ((kt20_19 + m21_38) - n18_12)) [0, 1, 2, 7, 9, 12, 13, 14, 15, 16, 17] (fun _ _ h => h) (go2 hS hK1) rfl
theorem rectoref11_Join_ct (l_0 : Sv Str) {r : Str} (hS : Sh.rectoref11_Join l_0.l = some r) :
 Ct Tryz.prog 188 [l_0.val] l_0.ok (Ow.emp) (X := Unit) (fun _ => str r) (fun _ => True) (fun _ => Mo.tt) (fun _ => Ow.emp) := by
 refine Ct.of Tryz.func188 rfl (by kernel_rfl) Tryz.ntmps188 (by simp) fun c => ?_
 unfold Sh.rectoref11_Join at hS
 refine Zq (Zr ?_)
 refine Za ?_
 refine Zl ?_
 refine Zq (Zr ?_)
 refine Za ?_
 refine Zl ?_
 refine Zq (Zq (Zr ?_))
 refine Za ?_
 refine Zl ?_
 refine Zb ?_
 refine VC.iter (S := Str × Int) (fun sg => (sg.1, sg.2)) (fun sg => [(0, l_0.val), (3, str sg.1), (4, i64 sg.2)]) (fun sg => Mo.tt) (fun sg => Ow.emp) ([], 0) [0, 3, 4] hS rfl ?_
 clear hS
 rintro ⟨s3_1, i4_2⟩ m1 y1 hS hK1
 show VC _ _ _ _ _ [(0, l_0.val), (3, str s3_1), (4, i64 i4_2)] (Mo.and Mo.tt _) (Ow.emp)
 refine Zq (Zq (Zr ?_))
 refine Zm ?_
 refine Zm ?_
 refine VL.q (q_ln (s := l_0) Tryz.underlying82 rfl) (by decide) ?_
 refine VL.q (q_lss rfl rfl) (by decide) ?_
 refine Zl ?_
 refine VC.cond_dec rfl (fun h8 => ?_) (fun h8 => ?_)
 ·
  replace hS := it_t h8 hS
  refine Zk ?_
  refine Zq (Zb (Zr ?_))
  refine Zm ?_
  refine Zm ?_
  refine Zm ?_
  obtain ⟨z14_3, nz14_3, hz14_3, hS⟩ := at_s hS
  refine VL.q (q_ixm (s := l_0) Tryz.underlying82 gsz9 rfl rfl nz14_3 (lt_of_get nz14_3 hz14_3)) (by decide) ?_
  refine VL.q (q_el (s := l_0) gone9 rfl hz14_3 rfl) (by decide) ?_
  obtain ⟨b16, hS⟩ := gd_s hS
  obtain ⟨y16_4, ey16_4, hS⟩ := lt_s hS
  refine VL.q (q_catE rfl rfl b16 ey16_4) (by decide) ?_
  refine Za ?_
  refine Zl ?_
  refine VC.keep [0, 3, 4] rfl ?_
  refine Zr ?_
  refine Zm ?_
  obtain ⟨b10, hS⟩ := gd_s hS
  refine VL.q (q_add rfl rfl b10) (by decide) ?_
  refine Za ?_
  refine VL.rnd (y16_4, (i4_2 + 1)) [0, 3, 4] (fun _ _ h => h) (go2 hS hK1) rfl
 replace hS := it_f h8 hS
 replace hS := up2 hS hK1
 refine Zx ?_
 refine Zq (Zr ?_)
 refine Zm ?_
 refine Za ?_
 refine Zl ?_
 cases hS
 exact Ze
theorem rectoref11_ended_ct (s_0 : Str) {r : Str} (hS : Sh.rectoref11_ended s_0 = some r) :
 Ct Tryz.prog 235 [str s_0] Mo.tt (Ow.emp) (X := Unit) (fun _ => str r) (fun _ => True) (fun _ => Mo.tt) (fun _ => Ow.emp) := by
 refine Ct.of Tryz.func235 rfl (by kernel_rfl) Tryz.ntmps235 (by simp) fun c => ?_
 unfold Sh.rectoref11_ended at hS
 refine Zq (Zr ?_)
 refine Za ?_
 refine Zl ?_
 refine Zq ?_
 refine VC.cutJ (S := Bool) (fun (x13_1 : Bool) => x13_1) (fun (x13_1 : Bool) => [(0, str s_0), (13, .bool x13_1)]) (fun (x13_1 : Bool) => Mo.tt) (fun (x13_1 : Bool) => Ow.emp) hS ?_ ?_
 ·
  clear hS
  intro k2 hS
  refine Zr ?_
  refine Zm ?_
  refine VL.q (q_slen Tryz.underlying9 rfl) (by decide) ?_
  refine VL.q (q_gtr rfl rfl) (by decide) ?_
  refine Zm ?_
  refine VL.split_dec 6 rfl (fun h6 => ?_) (fun h6 => ?_)
  ·
   replace hS := it_t h6 hS
   refine Zg ?_
   refine Zg ?_
   refine VL.gy rfl rfl (q_slen Tryz.underlying9 rfl) (by decide) ?_
   obtain ⟨b10, hS⟩ := gd_s hS
   refine VL.gy rfl rfl (q_sub rfl rfl b10) (by decide) ?_
   obtain ⟨z11_3, nz11_3, hz11_3, hS⟩ := at_s hS
   refine VL.gy rfl rfl (q_sidx Tryz.underlying9 rfl rfl nz11_3 hz11_3) (by decide) ?_
   refine VL.gy rfl rfl (q_eql rfl rfl) (by decide) ?_
   refine Zt ?_
   refine VL.mt (decide ((z11_3.toNat : Int) = 10)) [0, 13] (fun _ _ h => h) hS rfl
  replace hS := it_f h6 hS
  refine Zn ?_
  refine Zn ?_
  refine Zn ?_
  refine Zn ?_
  refine Zn ?_
  refine Zn ?_
  refine Zf ?_
  refine VL.mt false [0, 13] (fun _ _ h => h) hS rfl
 clear hS
 rintro x13_1 hS
 show VC _ _ _ _ _ [(0, str s_0), (13, .bool x13_1)] (Mo.and Mo.tt _) (Ow.emp)
 refine VC.cond rfl (fun h13 => ?_) (fun h13 => ?_)
 ·
  replace hS := it_t h13 hS
  refine Zq (Zr ?_)
  refine Zm ?_
  refine Za ?_
  refine Zl ?_
  cases hS
  exact Ze
 replace hS := it_b h13 hS
 refine Zk ?_
 refine Zq (Zr ?_)
 refine Zm ?_
 obtain ⟨b16, hS⟩ := gd_s hS
 obtain ⟨y16_4, ey16_4, hS⟩ := lt_s hS
 refine VL.q (q_catE rfl rfl b16 ey16_4) (by decide) ?_
 refine Za ?_
 refine Zl ?_
 cases hS
 exact Ze
theorem rectoref11_marked_ct (l_0 : Sv Str) {r : Str} (hS : Sh.rectoref11_marked l_0.l = some r) :
 Ct Tryz.prog 189 [l_0.val] l_0.ok (Ow.emp) (X := Unit) (fun _ => str r) (fun _ => True) (fun _ => Mo.tt) (fun _ => Ow.emp) := by
 refine Ct.of Tryz.func189 rfl (by kernel_rfl) Tryz.ntmps189 (by simp) fun c => ?_
 unfold Sh.rectoref11_marked at hS
 refine Zq (Zr ?_)
 refine Za ?_
 refine Zl ?_
 refine Zq (Zr ?_)
 refine Zm ?_
 obtain ⟨y5_1, ey5_1, hS⟩ := bd_s hS
 refine VL.q (q_call (rectoref11_Join_ct l_0 ey5_1) rfl (fun _ _ => rfl)) (by decide) ?_
 refine Za ?_
 refine Zl ?_
 refine Zq (Zq (Zr ?_))
 refine Zm ?_
 refine Zs ?_
 refine Zl ?_
 refine VC.cond_dec rfl (fun h7 => ?_) (fun h7 => ?_)
 ·
  replace hS := it_t h7 hS
  refine Zq (Zr ?_)
  refine Za ?_
  refine Zl ?_
  cases hS
  exact Ze
 replace hS := it_f h7 hS
 refine Zk ?_
 refine Zq (Zr ?_)
 refine Zm ?_
 obtain ⟨y9_2, ey9_2, hS⟩ := bd_s hS
 refine VL.q (q_call (rectoref11_ended_ct y5_1 ey9_2) rfl (fun _ _ => rfl)) (by decide) ?_
 refine Za ?_
 refine Zl ?_
 cases hS
 exact Ze
theorem rectoref11_Text_ct (base_0 : Str) (ours_1 : Str) (theirs_2 : Str) (a_3 : Str) (b_4 : Str) {r : Str × Int × Rectoref3WrongP} (hS : Sh.rectoref11_Text base_0 ours_1 theirs_2 a_3 b_4 = some r) :
 Ct Tryz.prog 128 [str base_0, str ours_1, str theirs_2, str a_3, str b_4] Mo.tt (Ow.emp) (X := Str × Int × Rectoref3Wrong) (fun x => .tuple #[str x.1, i64 x.2.1, .agg (Dat.enc x.2.2).toArray]) (fun x => r = (x.1, x.2.1, x.2.2.pl)) (fun x => x.2.2.m) (fun x => Ow.emp) := by
 refine Ct.of Tryz.func128 rfl (by kernel_rfl) Tryz.ntmps128 (by simp) fun c => ?_
 unfold Sh.rectoref11_Text at hS
 refine Zq (Zr ?_)
 refine Za ?_
 refine Za ?_
 refine VL.alloc (cs := [.slice none 0 0, i64 0]) (by kernel_rfl) (by decide) fun b12_1 => ?_
 refine Zl ?_
 refine Zq (Zr ?_)
 refine Zm ?_
 obtain ⟨y20_2, ey20_2, hS⟩ := bd_s hS
 refine VL.callO (rectoref11_Split_ct base_0 ey20_2) rfl (by decide) ?_
 rintro q20_2_0 rfl
 try dsimp only
 refine Zm ?_
 obtain ⟨y22_3, ey22_3, hS⟩ := bd_s hS
 refine VL.callO (rectoref11_Split_ct ours_1 ey22_3) rfl (by decide) ?_
 rintro q22_3_0 rfl
 try dsimp only
 refine Zm ?_
 obtain ⟨y24_4, ey24_4, hS⟩ := bd_s hS
 refine VL.callO (rectoref11_Split_ct theirs_2 ey24_4) rfl (by decide) ?_
 rintro q24_4_0 rfl
 try dsimp only
 refine VL.shut q20_2_0 9 (fun _ _ _ _ => trivial) ?_
 refine VL.shut q22_3_0 9 (fun _ _ _ _ => trivial) ?_
 refine VL.shut q24_4_0 9 (fun _ _ _ _ => trivial) ?_
 obtain ⟨y25_5, ey25_5, hS⟩ := bd_s hS
 refine VL.callF (rectoref11_Chunks_ct q20_2_0 q22_3_0 q24_4_0 ey25_5) rfl (by decide) ?_
 rintro ⟨q25_5_0, q25_5_1⟩ rfl
 try dsimp only
 refine Zm ?_
 refine VL.q (q_extract rfl rfl) (by decide) ?_
 refine VL.q (q_extract rfl rfl) (by decide) ?_
 refine VL.alloc (cs := [.slice none 0 0, i64 0]) (by kernel_rfl) (by decide) fun b14_6 => ?_
 refine Za ?_
 refine VL.store (vc := [q25_5_1.parts.val, i64 q25_5_1.err]) (cs' := [q25_5_1.parts.val, i64 q25_5_1.err]) rfl rfl rfl gsz54 rfl rfl (Nat.le_of_ble_eq_true rfl) rfl ?_
 refine Zl ?_
 refine VC.keep [3, 4, 12, 14, 13] rfl ?_
 refine Zq (Zq (Zr ?_))
 refine VL.q (q_field gfa54_1 rfl) (by decide) ?_
 refine VL.q (q_fe gone3 rfl rfl) (by decide) ?_
 refine VL.q (q_neq rfl rfl) (by decide) ?_
 refine Zl ?_
 refine VC.cond_ndec rfl (fun h30 => ?_) (fun h30 => ?_)
 ·
  replace hS := it_f h30 hS
  refine Zq ?_
  refine VC.draw [(0, true), (1, true), (2, true), (3, false)] mixed (by kernel_rfl) (by kernel_rfl) (by kernel_rfl) ?_
  refine VD.q rfl (q_fes gagg54 rfl rfl) (by decide) ?_
  refine VD.q rfl (q_assign rfl) (by decide) ?_
  refine VD.q rfl (q_assign rfl) (by decide) ?_
  refine VD.one rfl ?_
  refine VL.store (vc := [q25_5_1.parts.val, i64 q25_5_1.err]) (cs' := [q25_5_1.parts.val, i64 q25_5_1.err]) rfl rfl rfl gsz54 rfl rfl (Nat.le_of_ble_eq_true rfl) rfl ?_
  refine VL.back (D' := []) (by kernel_rfl) (Pend.nil) ?_
  refine VD.to (fun _ _ h => h) ?_
  refine VC.keep [12, 10, 11] rfl ?_
  cases hS
  exact VC.ret (finG (vs := [str [], i64 0, .agg #[q25_5_1.parts.val, i64 q25_5_1.err]]) (.inr rfl) rfl (RVs.tmp rfl (RVs.tmp rfl (RVs.cell gagg54 rfl rfl Rd.blk (RVs.nil)))) ([], 0, ⟨q25_5_1.parts, q25_5_1.err⟩) rfl rfl (by (try dsimp only); exact InM.out) (fun _ _ => trivial))
 replace hS := it_t h30 hS
 refine Zk ?_
 refine Zq (Zr ?_)
 refine Za ?_
 refine Zl ?_
 refine Zq (Zr ?_)
 refine Za ?_
 refine Zl ?_
 refine Zq (Zq (Zr ?_))
 refine Za ?_
 refine Zl ?_
 refine Zb ?_
 refine VC.iter (S := Str × Int × Int) (fun sg => (sg.1, sg.2.1, sg.2.2)) (fun sg => [(3, str a_3), (4, str b_4), (12, ptr b12_1 0), (13, q25_5_0.val), (14, ptr b14_6 0), (15, str sg.1), (16, i64 sg.2.1), (17, i64 sg.2.2)]) (fun sg => Mo.tt) (fun sg => Ow.star (Blk b14_6 [q25_5_1.parts.val, i64 q25_5_1.err] 54) (Ow.star (Blk b12_1 [.slice none 0 0, i64 0] 54) (Ow.emp))) ([], 0, 0) [3, 4, 12, 13, 14, 15, 16, 17] hS rfl ?_
 clear hS
 rintro ⟨s15_7, n16_8, i17_9⟩ m1 y1 hS hK1
 show VC _ _ _ _ _ [(3, str a_3), (4, str b_4), (12, ptr b12_1 0), (13, q25_5_0.val), (14, ptr b14_6 0), (15, str s15_7), (16, i64 n16_8), (17, i64 i17_9)] (Mo.and Mo.tt _) (Ow.star (Blk b14_6 [q25_5_1.parts.val, i64 q25_5_1.err] 54) (Ow.star (Blk b12_1 [.slice none 0 0, i64 0] 54) (Ow.emp)))
 refine Zq (Zq (Zr ?_))
 refine Zm ?_
 refine Zm ?_
 refine VL.q (q_lnm Rectoref11Chunk.pl (s := q25_5_0) Tryz.underlying265 rfl) (by decide) ?_
 refine VL.q (q_lss rfl rfl) (by decide) ?_
 refine Zl ?_
 refine VC.cond_dec rfl (fun h35 => ?_) (fun h35 => ?_)
 ·
  replace hS := it_t h35 hS
  refine Zk ?_
  refine VC.cutJ (S := Str × Int) (fun sg => (sg.1, sg.2)) (fun sg => [(3, str a_3), (4, str b_4), (12, ptr b12_1 0), (13, q25_5_0.val), (14, ptr b14_6 0), (15, str sg.1), (16, i64 sg.2), (17, i64 i17_9)]) (fun sg => Mo.tt) (fun sg => Ow.star (Blk b14_6 [q25_5_1.parts.val, i64 q25_5_1.err] 54) (Ow.star (Blk b12_1 [.slice none 0 0, i64 0] 54) (Ow.emp))) hS ?_ ?_
  ·
   clear hS
   intro k12 hS
   refine Zb (Zq (Zq (Zr ?_)))
   refine Zm ?_
   refine Zm ?_
   obtain ⟨z40_13, nz40_13, hz40_13, hS⟩ := atm_s hS
   refine VL.deep z40_13.m hz40_13 (fun _ q => q) ?_
   refine VL.q (q_ixm (s := q25_5_0) Tryz.underlying265 gsz268 rfl rfl nz40_13 (lt_of_get nz40_13 hz40_13)) (by decide) ?_
   refine VL.q (q_field gfa268_3 rfl) (by decide) ?_
   refine VL.q (q_elf (s := q25_5_0) gone4 rfl hz40_13 rfl) (by decide) ?_
   refine VL.q (q_not rfl) (by decide) ?_
   refine Zl ?_
   refine VC.keep [3, 4, 12, 13, 14, 15, 16, 17, 43] rfl ?_
   refine VC.cond rfl (fun h43 => ?_) (fun h43 => ?_)
   ·
    replace hS := it_t h43 hS
    refine Zq (Zr ?_)
    refine Zm ?_
    refine Zm ?_
    refine Zm ?_
    obtain ⟨z47_14, nz47_14, hz47_14, hS⟩ := atm_s hS
    refine VL.deep z47_14.m hz47_14 (fun _ q => q) ?_
    refine VL.q (q_ixm (s := q25_5_0) Tryz.underlying265 gsz268 rfl rfl nz47_14 (lt_of_get nz47_14 hz47_14)) (by decide) ?_
    refine VL.q (q_field gfa268_4 rfl) (by decide) ?_
    refine VL.q (q_elf (s := q25_5_0) gone82 rfl hz47_14 rfl) (by decide) ?_
    obtain ⟨y50_15, ey50_15, hS⟩ := bd_s hS
    refine VL.q (q_call (rectoref11_Join_ct z47_14.out ey50_15) rfl (fun _ _ => rfl)) (by decide) ?_
    obtain ⟨b51, hS⟩ := gd_s hS
    obtain ⟨y51_16, ey51_16, hS⟩ := lt_s hS
    refine VL.q (q_catE rfl rfl b51 ey51_16) (by decide) ?_
    refine Za ?_
    refine Zl ?_
    refine VC.keep [3, 4, 12, 13, 14, 15, 16, 17] rfl ?_
    refine VC.exit_mt (y51_16, n16_8) [3, 4, 12, 13, 14, 15, 16, 17] (fun _ _ h => h) hS rfl
   replace hS := it_b h43 hS
   refine Zk ?_
   refine Zq (Zr ?_)
   refine Zm ?_
   obtain ⟨b53, hS⟩ := gd_s hS
   refine VL.q (q_add rfl rfl b53) (by decide) ?_
   refine Za ?_
   refine Zl ?_
   refine VC.draw ((List.range 25).map fun k => (k, true)) mixed (by kernel_rfl) (by kernel_rfl) (by kernel_rfl) ?_
   refine VD.q rfl (q_move rfl) (by decide) ?_
   obtain ⟨b55, hS⟩ := gd_s hS
   obtain ⟨y55_17, ey55_17, hS⟩ := lt_s hS
   refine VD.q rfl (q_catE rfl rfl b55 ey55_17) (by decide) ?_
   refine VD.q rfl (q_move rfl) (by decide) ?_
   obtain ⟨b57, hS⟩ := gd_s hS
   obtain ⟨y57_18, ey57_18, hS⟩ := lt_s hS
   refine VD.q rfl (q_catE rfl rfl b57 ey57_18) (by decide) ?_
   obtain ⟨b58, hS⟩ := gd_s hS
   obtain ⟨y58_19, ey58_19, hS⟩ := lt_s hS
   refine VD.q rfl (q_catE rfl rfl b58 ey58_19) (by decide) ?_
   refine VD.q rfl (q_move rfl) (by decide) ?_
   refine VD.q rfl (q_move rfl) (by decide) ?_
   obtain ⟨z61_20, nz61_20, hz61_20, hS⟩ := atm_s hS
   refine VD.deep z61_20.m hz61_20 (fun _ q => q) ?_
   refine VD.q rfl (q_ixm (s := q25_5_0) Tryz.underlying265 gsz268 rfl rfl nz61_20 (lt_of_get nz61_20 hz61_20)) (by decide) ?_
   refine VD.q rfl (q_field gfa268_1 rfl) (by decide) ?_
   refine VD.q rfl (q_elf (s := q25_5_0) gone82 rfl hz61_20 rfl) (by decide) ?_
   obtain ⟨y64_21, ey64_21, hS⟩ := bd_s hS
   refine VD.q rfl (q_call (rectoref11_marked_ct z61_20.ours ey64_21) rfl (fun _ _ => rfl)) (by decide) ?_
   obtain ⟨b65, hS⟩ := gd_s hS
   obtain ⟨y65_22, ey65_22, hS⟩ := lt_s hS
   refine VD.q rfl (q_catE rfl rfl b65 ey65_22) (by decide) ?_
   obtain ⟨b66, hS⟩ := gd_s hS
   obtain ⟨y66_23, ey66_23, hS⟩ := lt_s hS
   refine VD.q rfl (q_catE rfl rfl b66 ey66_23) (by decide) ?_
   refine VD.q rfl (q_move rfl) (by decide) ?_
   refine VD.q rfl (q_move rfl) (by decide) ?_
   obtain ⟨z69_24, nz69_24, hz69_24, hS⟩ := atm_s hS
   refine VD.deep z69_24.m hz69_24 (fun _ q => q) ?_
   refine VD.q rfl (q_ixm (s := q25_5_0) Tryz.underlying265 gsz268 rfl rfl nz69_24 (lt_of_get nz69_24 hz69_24)) (by decide) ?_
   refine VD.q rfl (q_field gfa268_2 rfl) (by decide) ?_
   refine VD.q rfl (q_elf (s := q25_5_0) gone82 rfl hz69_24 rfl) (by decide) ?_
   obtain ⟨y72_25, ey72_25, hS⟩ := bd_s hS
   refine VD.q rfl (q_call (rectoref11_marked_ct z69_24.theirs ey72_25) rfl (fun _ _ => rfl)) (by decide) ?_
   obtain ⟨b73, hS⟩ := gd_s hS
   obtain ⟨y73_26, ey73_26, hS⟩ := lt_s hS
   refine VD.q rfl (q_catE rfl rfl b73 ey73_26) (by decide) ?_
   obtain ⟨b74, hS⟩ := gd_s hS
   obtain ⟨y74_27, ey74_27, hS⟩ := lt_s hS
   refine VD.q rfl (q_catE rfl rfl b74 ey74_27) (by decide) ?_
   refine VD.q rfl (q_move rfl) (by decide) ?_
   obtain ⟨b76, hS⟩ := gd_s hS
   obtain ⟨y76_28, ey76_28, hS⟩ := lt_s hS
   refine VD.q rfl (q_catE rfl rfl b76 ey76_28) (by decide) ?_
   obtain ⟨b77, hS⟩ := gd_s hS
   obtain ⟨y77_29, ey77_29, hS⟩ := lt_s hS
   refine VD.q rfl (q_catE rfl rfl b77 ey77_29) (by decide) ?_
   refine VD.q rfl (q_assign rfl) (by decide) ?_
   refine VD.mt (y77_29, (n16_8 + 1)) [3, 4, 12, 13, 14, 15, 16, 17] (fun _ _ h => h) hS rfl
  clear hS
  rintro ⟨s15_10, n16_11⟩ hS
  show VC _ _ _ _ _ [(3, str a_3), (4, str b_4), (12, ptr b12_1 0), (13, q25_5_0.val), (14, ptr b14_6 0), (15, str s15_10), (16, i64 n16_11), (17, i64 i17_9)] (Mo.and Mo.tt _) (Ow.star (Blk b14_6 [q25_5_1.parts.val, i64 q25_5_1.err] 54) (Ow.star (Blk b12_1 [.slice none 0 0, i64 0] 54) (Ow.emp)))
  refine Zr ?_
  refine Zm ?_
  obtain ⟨b37, hS⟩ := gd_s hS
  refine VL.q (q_add rfl rfl b37) (by decide) ?_
  refine Za ?_
  refine VL.rnd (s15_10, n16_11, (i17_9 + 1)) [3, 4, 12, 13, 14, 15, 16, 17] (fun _ _ h => h) (go2 hS hK1) rfl
 replace hS := it_f h35 hS
 replace hS := up2 hS hK1
 refine Zx ?_
 refine VC.keep [12, 14, 15, 16] rfl ?_
 refine Zq ?_
 refine VC.draw [(0, true), (1, true), (2, true), (3, true), (4, true), (5, false)] mixed (by kernel_rfl) (by kernel_rfl) (by kernel_rfl) ?_
 refine VD.q rfl (q_move rfl) (by decide) ?_
 refine VD.q rfl (q_move rfl) (by decide) ?_
 refine VD.q rfl (q_fes gagg54 rfl rfl) (by decide) ?_
 refine VD.q rfl (q_assign rfl) (by decide) ?_
 refine VD.q rfl (q_assign rfl) (by decide) ?_
 refine VD.one rfl ?_
 refine VL.store (vc := [q25_5_1.parts.val, i64 q25_5_1.err]) (cs' := [q25_5_1.parts.val, i64 q25_5_1.err]) rfl rfl rfl gsz54 rfl rfl (Nat.le_of_ble_eq_true rfl) rfl ?_
 refine VL.back (D' := []) (by kernel_rfl) (Pend.nil) ?_
 refine VD.to (fun _ _ h => h) ?_
 cases hS
 exact VC.ret (finG (vs := [str s15_7, i64 n16_8, .agg #[q25_5_1.parts.val, i64 q25_5_1.err]]) (.inr rfl) rfl (RVs.tmp rfl (RVs.tmp rfl (RVs.cell gagg54 rfl rfl Rd.blk (RVs.nil)))) (s15_7, n16_8, ⟨q25_5_1.parts, q25_5_1.err⟩) rfl rfl (by (try dsimp only); exact InM.out) (fun _ _ => trivial))
theorem rectoref14_both_ct (b_0 : Rectoref14File) (is_1 : Bool) (o_2 : Rectoref14File) (t_3 : Rectoref14File) (an_4 : Str) (bn_5 : Str) {r : Rectoref14File × Bool} (hS : Sh.rectoref14_both b_0 is_1 o_2 t_3 an_4 bn_5 = some r) :
 Ct Tryz.prog 63 [.agg #[str b_0.path, i64 b_0.mode, str b_0.data], .bool is_1, .agg #[str o_2.path, i64 o_2.mode, str o_2.data], .agg #[str t_3.path, i64 t_3.mode, str t_3.data], str an_4, str bn_5] Mo.tt (Ow.emp) (X := Unit) (fun _ => .tuple #[.agg #[str r.1.path, i64 r.1.mode, str r.1.data], .bool r.2]) (fun _ => True) (fun _ => Mo.tt) (fun _ => Ow.emp) := by
 refine Ct.of Tryz.func63 rfl (by kernel_rfl) Tryz.ntmps63 (by simp) fun c => ?_
 unfold Sh.rectoref14_both at hS
 refine Zq (Zr ?_)
 refine VL.box (cs := [str b_0.path, i64 b_0.mode, str b_0.data]) rfl rfl (by decide) fun b6_1 => ?_
 refine VL.box (cs := [str o_2.path, i64 o_2.mode, str o_2.data]) rfl rfl (by decide) fun b8_2 => ?_
 refine VL.box (cs := [str t_3.path, i64 t_3.mode, str t_3.data]) rfl rfl (by decide) fun b9_3 => ?_
 refine VL.alloc (cs := [str [], i64 0, str []]) (by kernel_rfl) (by decide) fun b12_4 => ?_
 refine Za ?_
 refine Zl ?_
 refine Zq (Zr ?_)
 refine VL.q (q_fes gagg45 rfl rfl) (by decide) ?_
 refine VL.alloc (cs := [str [], i64 0, str []]) (by kernel_rfl) (by decide) fun b14_5 => ?_
 refine VL.store (vc := [str o_2.path, i64 o_2.mode, str o_2.data]) (cs' := [str o_2.path, i64 o_2.mode, str o_2.data]) rfl rfl rfl gsz45 rfl rfl (Nat.le_of_ble_eq_true rfl) rfl ?_
 refine Zl ?_
 refine VC.cutJ (S := Int) (fun (c1_6 : Int) => c1_6) (fun (c1_6 : Int) => [(1, .bool is_1), (4, str an_4), (5, str bn_5), (6, ptr b6_1 0), (8, ptr b8_2 0), (9, ptr b9_3 0), (12, ptr b12_4 0), (14, ptr b14_5 0)]) (fun (c1_6 : Int) => Mo.tt) (fun (c1_6 : Int) => Ow.star (Blk b14_5 [str o_2.path, i64 c1_6, str o_2.data] 45) (Ow.star (Blk b12_4 [str [], i64 0, str []] 45) (Ow.star (Blk b9_3 [str t_3.path, i64 t_3.mode, str t_3.data] 45) (Ow.star (Blk b8_2 [str o_2.path, i64 o_2.mode, str o_2.data] 45) (Ow.star (Blk b6_1 [str b_0.path, i64 b_0.mode, str b_0.data] 45) (Ow.emp)))))) hS ?_ ?_
 ·
  clear hS
  intro k7 hS
  refine VC.cutJ (S := Bool) (fun (x26_8 : Bool) => x26_8) (fun (x26_8 : Bool) => [(1, .bool is_1), (4, str an_4), (5, str bn_5), (6, ptr b6_1 0), (8, ptr b8_2 0), (9, ptr b9_3 0), (12, ptr b12_4 0), (14, ptr b14_5 0), (26, .bool x26_8)]) (fun (x26_8 : Bool) => Mo.tt) (fun (x26_8 : Bool) => Ow.star (Blk b14_5 [str o_2.path, i64 o_2.mode, str o_2.data] 45) (Ow.star (Blk b12_4 [str [], i64 0, str []] 45) (Ow.star (Blk b9_3 [str t_3.path, i64 t_3.mode, str t_3.data] 45) (Ow.star (Blk b8_2 [str o_2.path, i64 o_2.mode, str o_2.data] 45) (Ow.star (Blk b6_1 [str b_0.path, i64 b_0.mode, str b_0.data] 45) (Ow.emp)))))) hS ?_ ?_
  ·
   clear hS
   intro k9 hS
   refine Zr ?_
   refine Zm ?_
   refine Zm ?_
   refine VL.split 20 rfl (fun h20 => ?_) (fun h20 => ?_)
   ·
    replace hS := it_t h20 hS
    refine VL.gy rfl rfl (q_field gfa45_1 rfl) (by decide) ?_
    refine VL.gy rfl rfl (q_fe gone3 rfl rfl) (by decide) ?_
    refine VL.gy rfl rfl (q_field gfa45_1 rfl) (by decide) ?_
    refine VL.gy rfl rfl (q_fe gone3 rfl rfl) (by decide) ?_
    refine VL.gy rfl rfl (q_eql rfl rfl) (by decide) ?_
    refine Zt ?_
    refine VL.mt (decide (b_0.mode = o_2.mode)) [1, 4, 5, 6, 8, 9, 12, 14, 26] (fun _ _ h => h) hS rfl
   replace hS := it_b h20 hS
   refine Zn ?_
   refine Zn ?_
   refine Zn ?_
   refine Zn ?_
   refine Zn ?_
   refine Zf ?_
   refine VL.mt false [1, 4, 5, 6, 8, 9, 12, 14, 26] (fun _ _ h => h) hS rfl
  clear hS
  rintro x26_8 hS
  show VC _ _ _ _ _ [(1, .bool is_1), (4, str an_4), (5, str bn_5), (6, ptr b6_1 0), (8, ptr b8_2 0), (9, ptr b9_3 0), (12, ptr b12_4 0), (14, ptr b14_5 0), (26, .bool x26_8)] (Mo.and Mo.tt _) (Ow.star (Blk b14_5 [str o_2.path, i64 o_2.mode, str o_2.data] 45) (Ow.star (Blk b12_4 [str [], i64 0, str []] 45) (Ow.star (Blk b9_3 [str t_3.path, i64 t_3.mode, str t_3.data] 45) (Ow.star (Blk b8_2 [str o_2.path, i64 o_2.mode, str o_2.data] 45) (Ow.star (Blk b6_1 [str b_0.path, i64 b_0.mode, str b_0.data] 45) (Ow.emp))))))
  refine VC.cond rfl (fun h26 => ?_) (fun h26 => ?_)
  ·
   replace hS := it_t h26 hS
   refine Zr ?_
   refine VL.q (q_field gfa45_1 rfl) (by decide) ?_
   refine VL.q (q_fe gone3 rfl rfl) (by decide) ?_
   refine VL.q (q_field gfa45_1 rfl) (by decide) ?_
   refine VL.store (vc := [i64 t_3.mode]) (cs' := [str o_2.path, i64 t_3.mode, str o_2.data]) rfl rfl rfl gsz3 rfl rfl (Nat.le_of_ble_eq_true rfl) rfl ?_
   refine VL.mt t_3.mode [1, 4, 5, 6, 8, 9, 12, 14] (fun _ _ h => h) hS rfl
  replace hS := it_b h26 hS
  refine VC.skip_mt o_2.mode [1, 4, 5, 6, 8, 9, 12, 14] (fun _ _ h => h) hS rfl
 clear hS
 rintro c1_6 hS
 show VC _ _ _ _ _ [(1, .bool is_1), (4, str an_4), (5, str bn_5), (6, ptr b6_1 0), (8, ptr b8_2 0), (9, ptr b9_3 0), (12, ptr b12_4 0), (14, ptr b14_5 0)] (Mo.and Mo.tt _) (Ow.star (Blk b14_5 [str o_2.path, i64 c1_6, str o_2.data] 45) (Ow.star (Blk b12_4 [str [], i64 0, str []] 45) (Ow.star (Blk b9_3 [str t_3.path, i64 t_3.mode, str t_3.data] 45) (Ow.star (Blk b8_2 [str o_2.path, i64 o_2.mode, str o_2.data] 45) (Ow.star (Blk b6_1 [str b_0.path, i64 b_0.mode, str b_0.data] 45) (Ow.emp))))))
 refine Zq (Zb (Zq (Zr ?_)))
 refine VL.q (q_field gfa45_2 rfl) (by decide) ?_
 refine VL.q (q_fe gone9 rfl rfl) (by decide) ?_
 refine VL.q (q_field gfa45_2 rfl) (by decide) ?_
 refine VL.q (q_fe gone9 rfl rfl) (by decide) ?_
 refine Zs ?_
 refine Za ?_
 refine Zl ?_
 refine VC.cond_dec rfl (fun h30 => ?_) (fun h30 => ?_)
 ·
  replace hS := it_t h30 hS
  refine Zq (Zr ?_)
  refine VL.q (q_fes gagg45 rfl rfl) (by decide) ?_
  refine VL.store (vc := [str o_2.path, i64 c1_6, str o_2.data]) (cs' := [str o_2.path, i64 c1_6, str o_2.data]) rfl rfl rfl gsz45 rfl rfl (Nat.le_of_ble_eq_true rfl) rfl ?_
  refine Za ?_
  refine Zl ?_
  refine VC.keep [12, 13] rfl ?_
  cases hS
  exact VC.ret (finG (vs := [.agg #[str o_2.path, i64 c1_6, str o_2.data], .bool false]) (.inr rfl) rfl (RVs.cell gagg45 rfl rfl Rd.blk (RVs.tmp rfl (RVs.nil))) () rfl trivial (by (try dsimp only); exact InM.out) (fun _ _ => trivial))
 replace hS := it_f h30 hS
 refine VC.cutJ (S := Bool) (fun (x37_10 : Bool) => x37_10) (fun (x37_10 : Bool) => [(1, .bool is_1), (4, str an_4), (5, str bn_5), (6, ptr b6_1 0), (8, ptr b8_2 0), (9, ptr b9_3 0), (12, ptr b12_4 0), (14, ptr b14_5 0), (37, .bool x37_10)]) (fun (x37_10 : Bool) => Mo.tt) (fun (x37_10 : Bool) => Ow.star (Blk b14_5 [str o_2.path, i64 c1_6, str o_2.data] 45) (Ow.star (Blk b12_4 [str [], i64 0, str []] 45) (Ow.star (Blk b9_3 [str t_3.path, i64 t_3.mode, str t_3.data] 45) (Ow.star (Blk b8_2 [str o_2.path, i64 o_2.mode, str o_2.data] 45) (Ow.star (Blk b6_1 [str b_0.path, i64 b_0.mode, str b_0.data] 45) (Ow.emp)))))) hS ?_ ?_
 ·
  clear hS
  intro k11 hS
  refine Zr ?_
  refine Zm ?_
  refine Zm ?_
  refine VL.split 39 rfl (fun h39 => ?_) (fun h39 => ?_)
  ·
   replace hS := it_t h39 hS
   refine VL.gy rfl rfl (q_field gfa45_2 rfl) (by decide) ?_
   refine VL.gy rfl rfl (q_fe gone9 rfl rfl) (by decide) ?_
   refine VL.gy rfl rfl (q_field gfa45_2 rfl) (by decide) ?_
   refine VL.gy rfl rfl (q_fe gone9 rfl rfl) (by decide) ?_
   refine VL.gy rfl rfl (q_seq rfl rfl) (by decide) ?_
   refine Zt ?_
   refine Za ?_
   refine VL.mt (decide (o_2.data = b_0.data)) [1, 4, 5, 6, 8, 9, 12, 14, 37] (fun _ _ h => h) hS rfl
  replace hS := it_b h39 hS
  refine Zn ?_
  refine Zn ?_
  refine Zn ?_
  refine Zn ?_
  refine Zn ?_
  refine Zf ?_
  refine Za ?_
  refine VL.mt false [1, 4, 5, 6, 8, 9, 12, 14, 37] (fun _ _ h => h) hS rfl
 clear hS
 rintro x37_10 hS
 show VC _ _ _ _ _ [(1, .bool is_1), (4, str an_4), (5, str bn_5), (6, ptr b6_1 0), (8, ptr b8_2 0), (9, ptr b9_3 0), (12, ptr b12_4 0), (14, ptr b14_5 0), (37, .bool x37_10)] (Mo.and Mo.tt _) (Ow.star (Blk b14_5 [str o_2.path, i64 c1_6, str o_2.data] 45) (Ow.star (Blk b12_4 [str [], i64 0, str []] 45) (Ow.star (Blk b9_3 [str t_3.path, i64 t_3.mode, str t_3.data] 45) (Ow.star (Blk b8_2 [str o_2.path, i64 o_2.mode, str o_2.data] 45) (Ow.star (Blk b6_1 [str b_0.path, i64 b_0.mode, str b_0.data] 45) (Ow.emp))))))
 refine VC.cond rfl (fun h37 => ?_) (fun h37 => ?_)
 ·
  replace hS := it_t h37 hS
  refine Zq (Zr ?_)
  refine VL.q (q_field gfa45_2 rfl) (by decide) ?_
  refine VL.q (q_fe gone9 rfl rfl) (by decide) ?_
  refine VL.q (q_field gfa45_2 rfl) (by decide) ?_
  refine VL.store (vc := [str t_3.data]) (cs' := [str o_2.path, i64 c1_6, str t_3.data]) rfl rfl rfl gsz9 rfl rfl (Nat.le_of_ble_eq_true rfl) rfl ?_
  refine Zl ?_
  refine VC.keep [12, 14] rfl ?_
  refine Zq (Zr ?_)
  refine VL.q (q_fes gagg45 rfl rfl) (by decide) ?_
  refine VL.store (vc := [str o_2.path, i64 c1_6, str t_3.data]) (cs' := [str o_2.path, i64 c1_6, str t_3.data]) rfl rfl rfl gsz45 rfl rfl (Nat.le_of_ble_eq_true rfl) rfl ?_
  refine Za ?_
  refine Zl ?_
  cases hS
  exact VC.ret (finG (vs := [.agg #[str o_2.path, i64 c1_6, str t_3.data], .bool false]) (.inr rfl) rfl (RVs.cell gagg45 rfl rfl Rd.blk (RVs.tmp rfl (RVs.nil))) () rfl trivial (by (try dsimp only); exact InM.out) (fun _ _ => trivial))
 replace hS := it_b h37 hS
 refine VC.cutJ (S := Bool) (fun (x50_12 : Bool) => x50_12) (fun (x50_12 : Bool) => [(4, str an_4), (5, str bn_5), (6, ptr b6_1 0), (8, ptr b8_2 0), (9, ptr b9_3 0), (12, ptr b12_4 0), (14, ptr b14_5 0), (50, .bool x50_12)]) (fun (x50_12 : Bool) => Mo.tt) (fun (x50_12 : Bool) => Ow.star (Blk b14_5 [str o_2.path, i64 c1_6, str o_2.data] 45) (Ow.star (Blk b12_4 [str [], i64 0, str []] 45) (Ow.star (Blk b9_3 [str t_3.path, i64 t_3.mode, str t_3.data] 45) (Ow.star (Blk b8_2 [str o_2.path, i64 o_2.mode, str o_2.data] 45) (Ow.star (Blk b6_1 [str b_0.path, i64 b_0.mode, str b_0.data] 45) (Ow.emp)))))) hS ?_ ?_
 ·
  clear hS
  intro k13 hS
  refine Zr ?_
  refine Zm ?_
  refine Zm ?_
  refine VL.split 52 rfl (fun h52 => ?_) (fun h52 => ?_)
  ·
   replace hS := it_t h52 hS
   refine VL.gy rfl rfl (q_field gfa45_2 rfl) (by decide) ?_
   refine VL.gy rfl rfl (q_fe gone9 rfl rfl) (by decide) ?_
   refine VL.gy rfl rfl (q_field gfa45_2 rfl) (by decide) ?_
   refine VL.gy rfl rfl (q_fe gone9 rfl rfl) (by decide) ?_
   refine VL.gy rfl rfl (q_seq rfl rfl) (by decide) ?_
   refine Zt ?_
   refine Za ?_
   refine VL.mt (decide (t_3.data = b_0.data)) [4, 5, 6, 8, 9, 12, 14, 50] (fun _ _ h => h) hS rfl
  replace hS := it_b h52 hS
  refine Zn ?_
  refine Zn ?_
  refine Zn ?_
  refine Zn ?_
  refine Zn ?_
  refine Zf ?_
  refine Za ?_
  refine VL.mt false [4, 5, 6, 8, 9, 12, 14, 50] (fun _ _ h => h) hS rfl
 clear hS
 rintro x50_12 hS
 show VC _ _ _ _ _ [(4, str an_4), (5, str bn_5), (6, ptr b6_1 0), (8, ptr b8_2 0), (9, ptr b9_3 0), (12, ptr b12_4 0), (14, ptr b14_5 0), (50, .bool x50_12)] (Mo.and Mo.tt _) (Ow.star (Blk b14_5 [str o_2.path, i64 c1_6, str o_2.data] 45) (Ow.star (Blk b12_4 [str [], i64 0, str []] 45) (Ow.star (Blk b9_3 [str t_3.path, i64 t_3.mode, str t_3.data] 45) (Ow.star (Blk b8_2 [str o_2.path, i64 o_2.mode, str o_2.data] 45) (Ow.star (Blk b6_1 [str b_0.path, i64 b_0.mode, str b_0.data] 45) (Ow.emp))))))
 refine VC.cond rfl (fun h50 => ?_) (fun h50 => ?_)
 ·
  replace hS := it_t h50 hS
  refine Zq (Zr ?_)
  refine VL.q (q_fes gagg45 rfl rfl) (by decide) ?_
  refine VL.store (vc := [str o_2.path, i64 c1_6, str o_2.data]) (cs' := [str o_2.path, i64 c1_6, str o_2.data]) rfl rfl rfl gsz45 rfl rfl (Nat.le_of_ble_eq_true rfl) rfl ?_
  refine Za ?_
  refine Zl ?_
  cases hS
  exact VC.ret (finG (vs := [.agg #[str o_2.path, i64 c1_6, str o_2.data], .bool false]) (.inr rfl) rfl (RVs.cell gagg45 rfl rfl Rd.blk (RVs.tmp rfl (RVs.nil))) () rfl trivial (by (try dsimp only); exact InM.out) (fun _ _ => trivial))
 replace hS := it_b h50 hS
 refine Zk ?_
 refine Zq (Zr ?_)
 refine VL.q (q_field gfa45_2 rfl) (by decide) ?_
 refine VL.q (q_fe gone9 rfl rfl) (by decide) ?_
 refine VL.q (q_field gfa45_2 rfl) (by decide) ?_
 refine VL.q (q_fe gone9 rfl rfl) (by decide) ?_
 refine VL.q (q_field gfa45_2 rfl) (by decide) ?_
 refine VL.q (q_fe gone9 rfl rfl) (by decide) ?_
 refine Zm ?_
 refine Zm ?_
 obtain ⟨y69_14, ey69_14, hS⟩ := bd_s hS
 refine VL.callF (rectoref11_Text_ct b_0.data o_2.data t_3.data an_4 bn_5 ey69_14) rfl (by decide) ?_
 rintro ⟨q69_14_0, q69_14_1, q69_14_2⟩ rfl
 try dsimp only
 refine Zm ?_
 refine VL.q (q_extract rfl rfl) (by decide) ?_
 refine VL.q (q_extract rfl rfl) (by decide) ?_
 refine VL.q (q_extract rfl rfl) (by decide) ?_
 refine VL.alloc (cs := [.slice none 0 0, i64 0]) (by kernel_rfl) (by decide) fun b17_15 => ?_
 refine Za ?_
 refine Za ?_
 refine VL.store (vc := [q69_14_2.parts.val, i64 q69_14_2.err]) (cs' := [q69_14_2.parts.val, i64 q69_14_2.err]) rfl rfl rfl gsz54 rfl rfl (Nat.le_of_ble_eq_true rfl) rfl ?_
 refine Zl ?_
 refine VC.keep [12, 14, 17, 15, 16] rfl ?_
 refine Zq ?_
 refine VC.cutJ (S := Bool) (fun (x80_16 : Bool) => x80_16) (fun (x80_16 : Bool) => [(12, ptr b12_4 0), (14, ptr b14_5 0), (15, str q69_14_0), (16, i64 q69_14_1), (80, .bool x80_16)]) (fun (x80_16 : Bool) => Mo.tt) (fun (x80_16 : Bool) => Ow.star (Blk b17_15 [q69_14_2.parts.val, i64 q69_14_2.err] 54) (Ow.star (Blk b14_5 [str o_2.path, i64 c1_6, str o_2.data] 45) (Ow.star (Blk b12_4 [str [], i64 0, str []] 45) (Ow.star (Blk b9_3 [str t_3.path, i64 t_3.mode, str t_3.data] 45) (Ow.star (Blk b8_2 [str o_2.path, i64 o_2.mode, str o_2.data] 45) (Ow.star (Blk b6_1 [str b_0.path, i64 b_0.mode, str b_0.data] 45) (Ow.emp))))))) hS ?_ ?_
 ·
  clear hS
  intro k17 hS
  refine Zr ?_
  refine VL.q (q_field gfa54_1 rfl) (by decide) ?_
  refine VL.q (q_fe gone3 rfl rfl) (by decide) ?_
  refine VL.q (q_neq rfl rfl) (by decide) ?_
  refine Zm ?_
  refine VL.split_ndec 76 rfl (fun h76 => ?_) (fun h76 => ?_)
  ·
   replace hS := it_f h76 hS
   refine Zn ?_
   refine Zn ?_
   refine Zn ?_
   refine Zt ?_
   refine VL.mt true [12, 14, 15, 16, 80] (fun _ _ h => h) hS rfl
  replace hS := it_t h76 hS
  refine Zg ?_
  refine VL.gy rfl rfl (q_slen Tryz.underlying9 rfl) (by decide) ?_
  refine VL.gy rfl rfl (q_gtr rfl rfl) (by decide) ?_
  refine Zf ?_
  refine VL.mt (decide (4096 < (q69_14_0.length : Int))) [12, 14, 15, 16, 80] (fun _ _ h => h) hS rfl
 clear hS
 rintro x80_16 hS
 show VC _ _ _ _ _ [(12, ptr b12_4 0), (14, ptr b14_5 0), (15, str q69_14_0), (16, i64 q69_14_1), (80, .bool x80_16)] (Mo.and Mo.tt _) (Ow.star (Blk b17_15 [q69_14_2.parts.val, i64 q69_14_2.err] 54) (Ow.star (Blk b14_5 [str o_2.path, i64 c1_6, str o_2.data] 45) (Ow.star (Blk b12_4 [str [], i64 0, str []] 45) (Ow.star (Blk b9_3 [str t_3.path, i64 t_3.mode, str t_3.data] 45) (Ow.star (Blk b8_2 [str o_2.path, i64 o_2.mode, str o_2.data] 45) (Ow.star (Blk b6_1 [str b_0.path, i64 b_0.mode, str b_0.data] 45) (Ow.emp)))))))
 refine VC.cond rfl (fun h80 => ?_) (fun h80 => ?_)
 ·
  replace hS := it_t h80 hS
  refine Zq (Zr ?_)
  refine VL.q (q_fes gagg45 rfl rfl) (by decide) ?_
  refine VL.store (vc := [str o_2.path, i64 c1_6, str o_2.data]) (cs' := [str o_2.path, i64 c1_6, str o_2.data]) rfl rfl rfl gsz45 rfl rfl (Nat.le_of_ble_eq_true rfl) rfl ?_
  refine Za ?_
  refine Zl ?_
  cases hS
  exact VC.ret (finG (vs := [.agg #[str o_2.path, i64 c1_6, str o_2.data], .bool true]) (.inr rfl) rfl (RVs.cell gagg45 rfl rfl Rd.blk (RVs.tmp rfl (RVs.nil))) () rfl trivial (by (try dsimp only); exact InM.out) (fun _ _ => trivial))
 replace hS := it_b h80 hS
 refine Zk ?_
 refine Zq (Zr ?_)
 refine Zm ?_
 refine VL.q (q_field gfa45_2 rfl) (by decide) ?_
 refine VL.store (vc := [str q69_14_0]) (cs' := [str o_2.path, i64 c1_6, str q69_14_0]) rfl rfl rfl gsz9 rfl rfl (Nat.le_of_ble_eq_true rfl) rfl ?_
 refine Zl ?_
 refine Zq (Zr ?_)
 refine VL.q (q_fes gagg45 rfl rfl) (by decide) ?_
 refine Zm ?_
 refine VL.q (q_gtr rfl rfl) (by decide) ?_
 refine VL.store (vc := [str o_2.path, i64 c1_6, str q69_14_0]) (cs' := [str o_2.path, i64 c1_6, str q69_14_0]) rfl rfl rfl gsz45 rfl rfl (Nat.le_of_ble_eq_true rfl) rfl ?_
 refine Za ?_
 refine Zl ?_
 refine VC.keep [12, 13] rfl ?_
 cases hS
 exact VC.ret (finG (vs := [.agg #[str o_2.path, i64 c1_6, str q69_14_0], .bool (decide (0 < q69_14_1))]) (.inr rfl) rfl (RVs.cell gagg45 rfl rfl Rd.blk (RVs.tmp rfl (RVs.nil))) () rfl trivial (by (try dsimp only); exact InM.out) (fun _ _ => trivial))
theorem rectoref14_One_ct (p_0 : Str) (base_1 : Sv Rectoref14File) (ours_2 : Sv Rectoref14File) (theirs_3 : Sv Rectoref14File) (a_4 : Str) (b_5 : Str) {r : Rectoref14File × Bool × Bool} (hS : Sh.rectoref14_One p_0 base_1.l ours_2.l theirs_3.l a_4 b_5 = some r) :
 Ct Tryz.prog 17 [str p_0, base_1.val, ours_2.val, theirs_3.val, str a_4, str b_5] (base_1.ok.and (ours_2.ok.and theirs_3.ok)) (Ow.emp) (X := Unit) (fun _ => .tuple #[.agg #[str r.1.path, i64 r.1.mode, str r.1.data], .bool r.2.1, .bool r.2.2]) (fun _ => True) (fun _ => Mo.tt) (fun _ => Ow.emp) := by
 refine Ct.of Tryz.func17 rfl (by kernel_rfl) Tryz.ntmps17 (by simp) fun c => ?_
 unfold Sh.rectoref14_One at hS
 refine Zq (Zr ?_)
 refine VL.alloc (cs := [str [], i64 0, str []]) (by kernel_rfl) (by decide) fun b12_1 => ?_
 refine Za ?_
 refine Za ?_
 refine Zl ?_
 refine Zq (Zr ?_)
 refine Zm ?_
 refine Zm ?_
 obtain ⟨y26_2, ey26_2, hS⟩ := bd_s hS
 refine VL.q (q_call (rectoref14_Get_ct base_1 p_0 ey26_2) rfl (fun _ _ => rfl)) (by decide) ?_
 refine Zm ?_
 refine VL.q (q_extract rfl rfl) (by decide) ?_
 refine VL.q (q_extract rfl rfl) (by decide) ?_
 refine VL.alloc (cs := [str [], i64 0, str []]) (by kernel_rfl) (by decide) fun b15_3 => ?_
 refine VL.store (vc := [str y26_2.1.path, i64 y26_2.1.mode, str y26_2.1.data]) (cs' := [str y26_2.1.path, i64 y26_2.1.mode, str y26_2.1.data]) rfl rfl rfl gsz45 rfl rfl (Nat.le_of_ble_eq_true rfl) rfl ?_
 refine Za ?_
 refine Zl ?_
 refine VC.keep [0, 1, 2, 3, 4, 5, 12, 15, 16] rfl ?_
 refine Zq (Zr ?_)
 refine Zm ?_
 refine Zm ?_
 obtain ⟨y32_4, ey32_4, hS⟩ := bd_s hS
 refine VL.q (q_call (rectoref14_Get_ct ours_2 p_0 ey32_4) rfl (fun _ _ => rfl)) (by decide) ?_
 refine Zm ?_
 refine VL.q (q_extract rfl rfl) (by decide) ?_
 refine VL.q (q_extract rfl rfl) (by decide) ?_
 refine VL.alloc (cs := [str [], i64 0, str []]) (by kernel_rfl) (by decide) fun b17_5 => ?_
 refine VL.store (vc := [str y32_4.1.path, i64 y32_4.1.mode, str y32_4.1.data]) (cs' := [str y32_4.1.path, i64 y32_4.1.mode, str y32_4.1.data]) rfl rfl rfl gsz45 rfl rfl (Nat.le_of_ble_eq_true rfl) rfl ?_
 refine Za ?_
 refine Zl ?_
 refine Zq (Zr ?_)
 refine Zm ?_
 refine Zm ?_
 obtain ⟨y38_6, ey38_6, hS⟩ := bd_s hS
 refine VL.q (q_call (rectoref14_Get_ct theirs_3 p_0 ey38_6) rfl (fun _ _ => rfl)) (by decide) ?_
 refine Zm ?_
 refine VL.q (q_extract rfl rfl) (by decide) ?_
 refine VL.q (q_extract rfl rfl) (by decide) ?_
 refine VL.alloc (cs := [str [], i64 0, str []]) (by kernel_rfl) (by decide) fun b19_7 => ?_
 refine VL.store (vc := [str y38_6.1.path, i64 y38_6.1.mode, str y38_6.1.data]) (cs' := [str y38_6.1.path, i64 y38_6.1.mode, str y38_6.1.data]) rfl rfl rfl gsz45 rfl rfl (Nat.le_of_ble_eq_true rfl) rfl ?_
 refine Za ?_
 refine Zl ?_
 refine VC.keep [0, 1, 2, 3, 4, 5, 12, 15, 16, 17, 18, 19, 20] rfl ?_
 refine Zq (Zb ?_)
 refine VC.cutJ (S := Bool) (fun (x41_8 : Bool) => x41_8) (fun (x41_8 : Bool) => [(0, str p_0), (1, base_1.val), (2, ours_2.val), (4, str a_4), (5, str b_5), (12, ptr b12_1 0), (15, ptr b15_3 0), (16, .bool y26_2.2), (17, ptr b17_5 0), (18, .bool y32_4.2), (19, ptr b19_7 0), (20, .bool y38_6.2), (41, .bool x41_8)]) (fun (x41_8 : Bool) => Mo.tt) (fun (x41_8 : Bool) => Ow.star (Blk b19_7 [str y38_6.1.path, i64 y38_6.1.mode, str y38_6.1.data] 45) (Ow.star (Blk b17_5 [str y32_4.1.path, i64 y32_4.1.mode, str y32_4.1.data] 45) (Ow.star (Blk b15_3 [str y26_2.1.path, i64 y26_2.1.mode, str y26_2.1.data] 45) (Ow.star (Blk b12_1 [str [], i64 0, str []] 45) (Ow.emp))))) hS ?_ ?_
 ·
  clear hS
  intro k9 hS
  refine Zr ?_
  refine Zm ?_
  refine Zm ?_
  refine Zm ?_
  obtain ⟨y45_10, ey45_10, hS⟩ := bd_s hS
  refine VL.q (q_call (rectoref14_Like_ct ours_2 theirs_3 p_0 ey45_10) rfl (fun _ _ => rfl)) (by decide) ?_
  refine Zm ?_
  refine VL.split 46 rfl (fun h46 => ?_) (fun h46 => ?_)
  ·
   replace hS := it_t h46 hS
   refine Zn ?_
   refine Zn ?_
   refine Zn ?_
   refine Zn ?_
   refine Zt ?_
   refine Za ?_
   refine VL.mt true [0, 1, 2, 4, 5, 12, 15, 16, 17, 18, 19, 20, 41] (fun _ _ h => h) hS rfl
  replace hS := it_b h46 hS
  refine Zg ?_
  refine Zg ?_
  refine Zg ?_
  obtain ⟨y50_11, ey50_11, hS⟩ := bd_s hS
  refine VL.gy rfl rfl (q_call (rectoref14_Like_ct base_1 theirs_3 p_0 ey50_11) rfl (fun _ _ => rfl)) (by decide) ?_
  refine Zf ?_
  refine Za ?_
  refine VL.mt y50_11 [0, 1, 2, 4, 5, 12, 15, 16, 17, 18, 19, 20, 41] (fun _ _ h => h) hS rfl
 clear hS
 rintro x41_8 hS
 show VC _ _ _ _ _ [(0, str p_0), (1, base_1.val), (2, ours_2.val), (4, str a_4), (5, str b_5), (12, ptr b12_1 0), (15, ptr b15_3 0), (16, .bool y26_2.2), (17, ptr b17_5 0), (18, .bool y32_4.2), (19, ptr b19_7 0), (20, .bool y38_6.2), (41, .bool x41_8)] (Mo.and Mo.tt _) (Ow.star (Blk b19_7 [str y38_6.1.path, i64 y38_6.1.mode, str y38_6.1.data] 45) (Ow.star (Blk b17_5 [str y32_4.1.path, i64 y32_4.1.mode, str y32_4.1.data] 45) (Ow.star (Blk b15_3 [str y26_2.1.path, i64 y26_2.1.mode, str y26_2.1.data] 45) (Ow.star (Blk b12_1 [str [], i64 0, str []] 45) (Ow.emp)))))
 refine VC.cond rfl (fun h41 => ?_) (fun h41 => ?_)
 ·
  replace hS := it_t h41 hS
  refine Zq (Zr ?_)
  refine VL.q (q_fes gagg45 rfl rfl) (by decide) ?_
  refine Zm ?_
  refine VL.store (vc := [str y32_4.1.path, i64 y32_4.1.mode, str y32_4.1.data]) (cs' := [str y32_4.1.path, i64 y32_4.1.mode, str y32_4.1.data]) rfl rfl rfl gsz45 rfl rfl (Nat.le_of_ble_eq_true rfl) rfl ?_
  refine Za ?_
  refine Za ?_
  refine Zl ?_
  refine VC.keep [12, 13, 14] rfl ?_
  cases hS
  exact VC.ret (finG (vs := [.agg #[str y32_4.1.path, i64 y32_4.1.mode, str y32_4.1.data], .bool y32_4.2, .bool false]) (.inr rfl) rfl (RVs.cell gagg45 rfl rfl Rd.blk (RVs.tmp rfl (RVs.tmp rfl (RVs.nil)))) () rfl trivial (by (try dsimp only); exact InM.out) (fun _ _ => trivial))
 replace hS := it_b h41 hS
 refine Zq (Zr ?_)
 refine Zm ?_
 refine Zm ?_
 refine Zm ?_
 obtain ⟨y58_12, ey58_12, hS⟩ := bd_s hS
 refine VL.q (q_call (rectoref14_Like_ct base_1 ours_2 p_0 ey58_12) rfl (fun _ _ => rfl)) (by decide) ?_
 refine Za ?_
 refine Zl ?_
 refine VC.keep [4, 5, 12, 15, 16, 17, 18, 19, 20, 54] rfl ?_
 refine VC.cond rfl (fun h54 => ?_) (fun h54 => ?_)
 ·
  replace hS := it_t h54 hS
  refine Zq (Zr ?_)
  refine VL.q (q_fes gagg45 rfl rfl) (by decide) ?_
  refine Zm ?_
  refine VL.store (vc := [str y38_6.1.path, i64 y38_6.1.mode, str y38_6.1.data]) (cs' := [str y38_6.1.path, i64 y38_6.1.mode, str y38_6.1.data]) rfl rfl rfl gsz45 rfl rfl (Nat.le_of_ble_eq_true rfl) rfl ?_
  refine Za ?_
  refine Za ?_
  refine Zl ?_
  refine VC.keep [12, 13, 14] rfl ?_
  cases hS
  exact VC.ret (finG (vs := [.agg #[str y38_6.1.path, i64 y38_6.1.mode, str y38_6.1.data], .bool y38_6.2, .bool false]) (.inr rfl) rfl (RVs.cell gagg45 rfl rfl Rd.blk (RVs.tmp rfl (RVs.tmp rfl (RVs.nil)))) () rfl trivial (by (try dsimp only); exact InM.out) (fun _ _ => trivial))
 replace hS := it_b h54 hS
 refine VC.cutJ (S := Bool) (fun (x61_13 : Bool) => x61_13) (fun (x61_13 : Bool) => [(4, str a_4), (5, str b_5), (12, ptr b12_1 0), (15, ptr b15_3 0), (16, .bool y26_2.2), (17, ptr b17_5 0), (18, .bool y32_4.2), (19, ptr b19_7 0), (20, .bool y38_6.2), (61, .bool x61_13)]) (fun (x61_13 : Bool) => Mo.tt) (fun (x61_13 : Bool) => Ow.star (Blk b19_7 [str y38_6.1.path, i64 y38_6.1.mode, str y38_6.1.data] 45) (Ow.star (Blk b17_5 [str y32_4.1.path, i64 y32_4.1.mode, str y32_4.1.data] 45) (Ow.star (Blk b15_3 [str y26_2.1.path, i64 y26_2.1.mode, str y26_2.1.data] 45) (Ow.star (Blk b12_1 [str [], i64 0, str []] 45) (Ow.emp))))) hS ?_ ?_
 ·
  clear hS
  intro k14 hS
  refine Zr ?_
  refine Zm ?_
  refine Zm ?_
  refine VL.split 63 rfl (fun h63 => ?_) (fun h63 => ?_)
  ·
   replace hS := it_t h63 hS
   refine Zg ?_
   refine Zt ?_
   refine Za ?_
   refine VL.mt y38_6.2 [4, 5, 12, 15, 16, 17, 18, 19, 20, 61] (fun _ _ h => h) hS rfl
  replace hS := it_b h63 hS
  refine Zn ?_
  refine Zf ?_
  refine Za ?_
  refine VL.mt false [4, 5, 12, 15, 16, 17, 18, 19, 20, 61] (fun _ _ h => h) hS rfl
 clear hS
 rintro x61_13 hS
 show VC _ _ _ _ _ [(4, str a_4), (5, str b_5), (12, ptr b12_1 0), (15, ptr b15_3 0), (16, .bool y26_2.2), (17, ptr b17_5 0), (18, .bool y32_4.2), (19, ptr b19_7 0), (20, .bool y38_6.2), (61, .bool x61_13)] (Mo.and Mo.tt _) (Ow.star (Blk b19_7 [str y38_6.1.path, i64 y38_6.1.mode, str y38_6.1.data] 45) (Ow.star (Blk b17_5 [str y32_4.1.path, i64 y32_4.1.mode, str y32_4.1.data] 45) (Ow.star (Blk b15_3 [str y26_2.1.path, i64 y26_2.1.mode, str y26_2.1.data] 45) (Ow.star (Blk b12_1 [str [], i64 0, str []] 45) (Ow.emp)))))
 refine VC.cond rfl (fun h61 => ?_) (fun h61 => ?_)
 ·
  replace hS := it_t h61 hS
  refine Zq (Zr ?_)
  refine VL.q (q_fes gagg45 rfl rfl) (by decide) ?_
  refine Zm ?_
  refine VL.q (q_fes gagg45 rfl rfl) (by decide) ?_
  refine VL.q (q_fes gagg45 rfl rfl) (by decide) ?_
  refine Zm ?_
  refine Zm ?_
  obtain ⟨y73_15, ey73_15, hS⟩ := bd_s hS
  refine VL.q (q_call (rectoref14_both_ct (⟨y26_2.1.path, y26_2.1.mode, y26_2.1.data⟩ : Rectoref14File) y26_2.2 (⟨y32_4.1.path, y32_4.1.mode, y32_4.1.data⟩ : Rectoref14File) (⟨y38_6.1.path, y38_6.1.mode, y38_6.1.data⟩ : Rectoref14File) a_4 b_5 ey73_15) rfl (fun _ _ => rfl)) (by decide) ?_
  refine Zm ?_
  refine VL.q (q_extract rfl rfl) (by decide) ?_
  refine VL.q (q_extract rfl rfl) (by decide) ?_
  refine VL.alloc (cs := [str [], i64 0, str []]) (by kernel_rfl) (by decide) fun b21_16 => ?_
  refine VL.store (vc := [str y73_15.1.path, i64 y73_15.1.mode, str y73_15.1.data]) (cs' := [str y73_15.1.path, i64 y73_15.1.mode, str y73_15.1.data]) rfl rfl rfl gsz45 rfl rfl (Nat.le_of_ble_eq_true rfl) rfl ?_
  refine Za ?_
  refine Zl ?_
  refine VC.keep [12, 21, 22] rfl ?_
  refine Zq (Zr ?_)
  refine VL.q (q_fes gagg45 rfl rfl) (by decide) ?_
  refine Zm ?_
  refine VL.store (vc := [str y73_15.1.path, i64 y73_15.1.mode, str y73_15.1.data]) (cs' := [str y73_15.1.path, i64 y73_15.1.mode, str y73_15.1.data]) rfl rfl rfl gsz45 rfl rfl (Nat.le_of_ble_eq_true rfl) rfl ?_
  refine Za ?_
  refine Za ?_
  refine Zl ?_
  cases hS
  exact VC.ret (finG (vs := [.agg #[str y73_15.1.path, i64 y73_15.1.mode, str y73_15.1.data], .bool true, .bool y73_15.2]) (.inr rfl) rfl (RVs.cell gagg45 rfl rfl Rd.blk (RVs.tmp rfl (RVs.tmp rfl (RVs.nil)))) () rfl trivial (by (try dsimp only); exact InM.out) (fun _ _ => trivial))
 replace hS := it_b h61 hS
 refine Zq (Zr ?_)
 refine Zm ?_
 refine Za ?_
 refine Zl ?_
 refine VC.keep [12, 17, 19, 20, 78] rfl ?_
 refine VC.cond rfl (fun h78 => ?_) (fun h78 => ?_)
 ·
  replace hS := it_t h78 hS
  refine Zq (Zr ?_)
  refine VL.q (q_fes gagg45 rfl rfl) (by decide) ?_
  refine VL.store (vc := [str y32_4.1.path, i64 y32_4.1.mode, str y32_4.1.data]) (cs' := [str y32_4.1.path, i64 y32_4.1.mode, str y32_4.1.data]) rfl rfl rfl gsz45 rfl rfl (Nat.le_of_ble_eq_true rfl) rfl ?_
  refine Za ?_
  refine Za ?_
  refine Zl ?_
  cases hS
  exact VC.ret (finG (vs := [.agg #[str y32_4.1.path, i64 y32_4.1.mode, str y32_4.1.data], .bool true, .bool true]) (.inr rfl) rfl (RVs.cell gagg45 rfl rfl Rd.blk (RVs.tmp rfl (RVs.tmp rfl (RVs.nil)))) () rfl trivial (by (try dsimp only); exact InM.out) (fun _ _ => trivial))
 replace hS := it_b h78 hS
 refine Zk ?_
 refine Zq (Zr ?_)
 refine VL.q (q_fes gagg45 rfl rfl) (by decide) ?_
 refine Zm ?_
 refine VL.store (vc := [str y38_6.1.path, i64 y38_6.1.mode, str y38_6.1.data]) (cs' := [str y38_6.1.path, i64 y38_6.1.mode, str y38_6.1.data]) rfl rfl rfl gsz45 rfl rfl (Nat.le_of_ble_eq_true rfl) rfl ?_
 refine Za ?_
 refine Za ?_
 refine Zl ?_
 cases hS
 exact VC.ret (finG (vs := [.agg #[str y38_6.1.path, i64 y38_6.1.mode, str y38_6.1.data], .bool y38_6.2, .bool true]) (.inr rfl) rfl (RVs.cell gagg45 rfl rfl Rd.blk (RVs.tmp rfl (RVs.tmp rfl (RVs.nil)))) () rfl trivial (by (try dsimp only); exact InM.out) (fun _ _ => trivial))
theorem rectolaw16_TreesOne_ct (p_0 : Str) (b_1 : Sv FilesFile) (o_2 : Sv FilesFile) (t_3 : Sv FilesFile) {r : Bool} (hS : Sh.rectolaw16_TreesOne p_0 b_1.l o_2.l t_3.l = some r) :
 Ct Tryz.prog 4 [str p_0, b_1.val, o_2.val, t_3.val] (b_1.ok.and (o_2.ok.and t_3.ok)) (Ow.emp) (X := Unit) (fun _ => .bool r) (fun _ => True) (fun _ => Mo.tt) (fun _ => Ow.emp) := by
 refine Ct.of Tryz.func4 rfl (by kernel_rfl) Tryz.ntmps4 (by simp) fun c => ?_
 unfold Sh.rectolaw16_TreesOne at hS
 refine Zq (Zr ?_)
 refine Za ?_
 refine Zl ?_
 refine Zq (Zq (Zr ?_))
 obtain ⟨y15_1, ey15_1, hS⟩ := bd_s hS
 refine VL.q (q_call (rectolaw16_known_ct ey15_1) rfl (fun _ _ => rfl)) (by decide) ?_
 refine VL.q (q_not rfl) (by decide) ?_
 refine Zl ?_
 refine VC.cond rfl (fun h16 => ?_) (fun h16 => ?_)
 ·
  replace hS := it_t h16 hS
  refine Zq (Zr ?_)
  refine Za ?_
  refine Zl ?_
  cases hS
  exact Ze
 replace hS := it_b h16 hS
 refine Zk ?_
 refine Zq ?_
 refine VC.cutJ (S := Bool) (fun (x64_2 : Bool) => x64_2) (fun (x64_2 : Bool) => [(0, str p_0), (1, b_1.val), (2, o_2.val), (3, t_3.val), (64, .bool x64_2)]) (fun (x64_2 : Bool) => Mo.tt) (fun (x64_2 : Bool) => Ow.emp) hS ?_ ?_
 ·
  clear hS
  intro k3 hS
  refine Zr ?_
  refine Zm ?_
  refine VL.q (q_slen Tryz.underlying9 rfl) (by decide) ?_
  refine VL.q (q_gtr rfl rfl) (by decide) ?_
  refine Zm ?_
  refine VL.split_dec 20 rfl (fun h20 => ?_) (fun h20 => ?_)
  ·
   replace hS := it_t h20 hS
   refine Zn ?_
   refine Zn ?_
   refine Zn ?_
   refine Zt ?_
   refine Zm ?_
   refine Zn ?_
   refine Zn ?_
   refine Zn ?_
   refine Zt ?_
   refine Zm ?_
   refine Zn ?_
   refine Zn ?_
   refine Zn ?_
   refine Zt ?_
   refine Zm ?_
   refine Zn ?_
   refine Zn ?_
   refine Zn ?_
   refine Zt ?_
   refine Zm ?_
   refine Zn ?_
   refine Zn ?_
   refine Zn ?_
   refine Zt ?_
   refine Zm ?_
   refine Zn ?_
   refine Zn ?_
   refine Zn ?_
   refine Zt ?_
   refine Zm ?_
   refine Zn ?_
   refine Zn ?_
   refine Zn ?_
   refine Zt ?_
   refine Zm ?_
   refine Zn ?_
   refine Zn ?_
   refine Zn ?_
   refine Zt ?_
   refine Zm ?_
   refine Zn ?_
   refine Zn ?_
   refine Zn ?_
   refine Zt ?_
   refine VL.mt true [0, 1, 2, 3, 64] (fun _ _ h => h) hS rfl
  replace hS := it_f h20 hS
  refine Zg ?_
  obtain ⟨y22_4, ey22_4, hS⟩ := bd_s hS
  refine VL.gy rfl rfl (q_call (rectolaw14_Few_ct b_1 ey22_4) rfl (fun _ _ => rfl)) (by decide) ?_
  refine VL.gy rfl rfl (q_not rfl) (by decide) ?_
  refine Zf ?_
  refine Zm ?_
  refine VL.split 25 rfl (fun h25 => ?_) (fun h25 => ?_)
  ·
   replace hS := it_t h25 hS
   refine Zn ?_
   refine Zn ?_
   refine Zn ?_
   refine Zt ?_
   refine Zm ?_
   refine Zn ?_
   refine Zn ?_
   refine Zn ?_
   refine Zt ?_
   refine Zm ?_
   refine Zn ?_
   refine Zn ?_
   refine Zn ?_
   refine Zt ?_
   refine Zm ?_
   refine Zn ?_
   refine Zn ?_
   refine Zn ?_
   refine Zt ?_
   refine Zm ?_
   refine Zn ?_
   refine Zn ?_
   refine Zn ?_
   refine Zt ?_
   refine Zm ?_
   refine Zn ?_
   refine Zn ?_
   refine Zn ?_
   refine Zt ?_
   refine Zm ?_
   refine Zn ?_
   refine Zn ?_
   refine Zn ?_
   refine Zt ?_
   refine Zm ?_
   refine Zn ?_
   refine Zn ?_
   refine Zn ?_
   refine Zt ?_
   refine VL.mt true [0, 1, 2, 3, 64] (fun _ _ h => h) hS rfl
  replace hS := it_b h25 hS
  refine Zg ?_
  obtain ⟨y27_5, ey27_5, hS⟩ := bd_s hS
  refine VL.gy rfl rfl (q_call (rectolaw14_Few_ct o_2 ey27_5) rfl (fun _ _ => rfl)) (by decide) ?_
  refine VL.gy rfl rfl (q_not rfl) (by decide) ?_
  refine Zf ?_
  refine Zm ?_
  refine VL.split 30 rfl (fun h30 => ?_) (fun h30 => ?_)
  ·
   replace hS := it_t h30 hS
   refine Zn ?_
   refine Zn ?_
   refine Zn ?_
   refine Zt ?_
   refine Zm ?_
   refine Zn ?_
   refine Zn ?_
   refine Zn ?_
   refine Zt ?_
   refine Zm ?_
   refine Zn ?_
   refine Zn ?_
   refine Zn ?_
   refine Zt ?_
   refine Zm ?_
   refine Zn ?_
   refine Zn ?_
   refine Zn ?_
   refine Zt ?_
   refine Zm ?_
   refine Zn ?_
   refine Zn ?_
   refine Zn ?_
   refine Zt ?_
   refine Zm ?_
   refine Zn ?_
   refine Zn ?_
   refine Zn ?_
   refine Zt ?_
   refine Zm ?_
   refine Zn ?_
   refine Zn ?_
   refine Zn ?_
   refine Zt ?_
   refine VL.mt true [0, 1, 2, 3, 64] (fun _ _ h => h) hS rfl
  replace hS := it_b h30 hS
  refine Zg ?_
  obtain ⟨y32_6, ey32_6, hS⟩ := bd_s hS
  refine VL.gy rfl rfl (q_call (rectolaw14_Few_ct t_3 ey32_6) rfl (fun _ _ => rfl)) (by decide) ?_
  refine VL.gy rfl rfl (q_not rfl) (by decide) ?_
  refine Zf ?_
  refine Zm ?_
  refine VL.split 35 rfl (fun h35 => ?_) (fun h35 => ?_)
  ·
   replace hS := it_t h35 hS
   refine Zn ?_
   refine Zn ?_
   refine Zn ?_
   refine Zt ?_
   refine Zm ?_
   refine Zn ?_
   refine Zn ?_
   refine Zn ?_
   refine Zt ?_
   refine Zm ?_
   refine Zn ?_
   refine Zn ?_
   refine Zn ?_
   refine Zt ?_
   refine Zm ?_
   refine Zn ?_
   refine Zn ?_
   refine Zn ?_
   refine Zt ?_
   refine Zm ?_
   refine Zn ?_
   refine Zn ?_
   refine Zn ?_
   refine Zt ?_
   refine Zm ?_
   refine Zn ?_
   refine Zn ?_
   refine Zn ?_
   refine Zt ?_
   refine VL.mt true [0, 1, 2, 3, 64] (fun _ _ h => h) hS rfl
  replace hS := it_b h35 hS
  refine Zg ?_
  obtain ⟨y37_7, ey37_7, hS⟩ := bd_s hS
  refine VL.gy rfl rfl (q_call (rectolaw16_short_ct b_1 ey37_7) rfl (fun _ _ => rfl)) (by decide) ?_
  refine VL.gy rfl rfl (q_not rfl) (by decide) ?_
  refine Zf ?_
  refine Zm ?_
  refine VL.split 40 rfl (fun h40 => ?_) (fun h40 => ?_)
  ·
   replace hS := it_t h40 hS
   refine Zn ?_
   refine Zn ?_
   refine Zn ?_
   refine Zt ?_
   refine Zm ?_
   refine Zn ?_
   refine Zn ?_
   refine Zn ?_
   refine Zt ?_
   refine Zm ?_
   refine Zn ?_
   refine Zn ?_
   refine Zn ?_
   refine Zt ?_
   refine Zm ?_
   refine Zn ?_
   refine Zn ?_
   refine Zn ?_
   refine Zt ?_
   refine Zm ?_
   refine Zn ?_
   refine Zn ?_
   refine Zn ?_
   refine Zt ?_
   refine VL.mt true [0, 1, 2, 3, 64] (fun _ _ h => h) hS rfl
  replace hS := it_b h40 hS
  refine Zg ?_
  obtain ⟨y42_8, ey42_8, hS⟩ := bd_s hS
  refine VL.gy rfl rfl (q_call (rectolaw16_short_ct o_2 ey42_8) rfl (fun _ _ => rfl)) (by decide) ?_
  refine VL.gy rfl rfl (q_not rfl) (by decide) ?_
  refine Zf ?_
  refine Zm ?_
  refine VL.split 45 rfl (fun h45 => ?_) (fun h45 => ?_)
  ·
   replace hS := it_t h45 hS
   refine Zn ?_
   refine Zn ?_
   refine Zn ?_
   refine Zt ?_
   refine Zm ?_
   refine Zn ?_
   refine Zn ?_
   refine Zn ?_
   refine Zt ?_
   refine Zm ?_
   refine Zn ?_
   refine Zn ?_
   refine Zn ?_
   refine Zt ?_
   refine Zm ?_
   refine Zn ?_
   refine Zn ?_
   refine Zn ?_
   refine Zt ?_
   refine VL.mt true [0, 1, 2, 3, 64] (fun _ _ h => h) hS rfl
  replace hS := it_b h45 hS
  refine Zg ?_
  obtain ⟨y47_9, ey47_9, hS⟩ := bd_s hS
  refine VL.gy rfl rfl (q_call (rectolaw16_short_ct t_3 ey47_9) rfl (fun _ _ => rfl)) (by decide) ?_
  refine VL.gy rfl rfl (q_not rfl) (by decide) ?_
  refine Zf ?_
  refine Zm ?_
  refine VL.split 50 rfl (fun h50 => ?_) (fun h50 => ?_)
  ·
   replace hS := it_t h50 hS
   refine Zn ?_
   refine Zn ?_
   refine Zn ?_
   refine Zt ?_
   refine Zm ?_
   refine Zn ?_
   refine Zn ?_
   refine Zn ?_
   refine Zt ?_
   refine Zm ?_
   refine Zn ?_
   refine Zn ?_
   refine Zn ?_
   refine Zt ?_
   refine VL.mt true [0, 1, 2, 3, 64] (fun _ _ h => h) hS rfl
  replace hS := it_b h50 hS
  refine Zg ?_
  refine VL.guard rfl rfl ?_
  obtain ⟨y52_10, ey52_10, hS⟩ := bd_s hS
  refine VL.callF (files_Row_Check_ct b_1 ey52_10) rfl (by decide) ?_
  rintro q52_10_0 rfl
  try dsimp only
  refine VL.gy rfl rfl (q_erne Tryz.underlying29 rfl) (by decide) ?_
  refine Zf ?_
  refine Zm ?_
  refine VL.split_ndec 55 rfl (fun h55 => ?_) (fun h55 => ?_)
  ·
   replace hS := it_f h55 hS
   refine Zn ?_
   refine Zn ?_
   refine Zn ?_
   refine Zt ?_
   refine Zm ?_
   refine Zn ?_
   refine Zn ?_
   refine Zn ?_
   refine Zt ?_
   refine VL.mt true [0, 1, 2, 3, 64] (fun _ _ h => h) hS rfl
  replace hS := it_t h55 hS
  refine Zg ?_
  refine VL.guard rfl rfl ?_
  obtain ⟨y57_11, ey57_11, hS⟩ := bd_s hS
  refine VL.callF (files_Row_Check_ct o_2 ey57_11) rfl (by decide) ?_
  rintro q57_11_0 rfl
  try dsimp only
  refine VL.gy rfl rfl (q_erne Tryz.underlying29 rfl) (by decide) ?_
  refine Zf ?_
  refine Zm ?_
  refine VL.split_ndec 60 rfl (fun h60 => ?_) (fun h60 => ?_)
  ·
   replace hS := it_f h60 hS
   refine Zn ?_
   refine Zn ?_
   refine Zn ?_
   refine Zt ?_
   refine VL.mt true [0, 1, 2, 3, 64] (fun _ _ h => h) hS rfl
  replace hS := it_t h60 hS
  refine Zg ?_
  refine VL.guard rfl rfl ?_
  obtain ⟨y62_12, ey62_12, hS⟩ := bd_s hS
  refine VL.callF (files_Row_Check_ct t_3 ey62_12) rfl (by decide) ?_
  rintro q62_12_0 rfl
  try dsimp only
  refine VL.gy rfl rfl (q_erne Tryz.underlying29 rfl) (by decide) ?_
  refine Zf ?_
  refine VL.mt (!decide (q62_12_0.pl.isNil = true)) [0, 1, 2, 3, 64] (fun _ _ h => h) hS rfl
 clear hS
 rintro x64_2 hS
 show VC _ _ _ _ _ [(0, str p_0), (1, b_1.val), (2, o_2.val), (3, t_3.val), (64, .bool x64_2)] (Mo.and Mo.tt _) (Ow.emp)
 refine VC.cond rfl (fun h64 => ?_) (fun h64 => ?_)
 ·
  replace hS := it_t h64 hS
  refine Zq (Zr ?_)
  refine Za ?_
  refine Zl ?_
  cases hS
  exact Ze
 replace hS := it_b h64 hS
 refine Zk ?_
 refine Zq (Zr ?_)
 refine Zm ?_
 refine Zm ?_
 refine Zm ?_
 refine Zm ?_
 obtain ⟨y70_13, ey70_13, hS⟩ := bd_s hS
 refine VL.q (q_call (tmerge_One_ct p_0 b_1 o_2 t_3 [120] [121] ey70_13) rfl (fun _ _ => rfl)) (by decide) ?_
 refine Zm ?_
 refine VL.q (q_extract rfl rfl) (by decide) ?_
 refine VL.q (q_extract rfl rfl) (by decide) ?_
 refine VL.q (q_extract rfl rfl) (by decide) ?_
 refine VL.alloc (cs := [str [], i64 0, str []]) (by kernel_rfl) (by decide) fun b9_14 => ?_
 refine VL.store (vc := [str y70_13.1.path, i64 y70_13.1.mode, str y70_13.1.data]) (cs' := [str y70_13.1.path, i64 y70_13.1.mode, str y70_13.1.data]) rfl rfl rfl gsz42 rfl rfl (Nat.le_of_ble_eq_true rfl) rfl ?_
 refine Za ?_
 refine Za ?_
 refine Zl ?_
 refine VC.keep [0, 1, 2, 3, 9, 10, 11] rfl ?_
 refine Zq (Zr ?_)
 refine Zm ?_
 refine Zm ?_
 obtain ⟨y77_15, ey77_15, hS⟩ := bd_s hS
 refine VL.callO (rectolaw14_Of_ct b_1 ey77_15) rfl (by decide) ?_
 rintro q77_15_0 rfl
 try dsimp only
 refine Zm ?_
 obtain ⟨y79_16, ey79_16, hS⟩ := bd_s hS
 refine VL.callO (rectolaw14_Of_ct o_2 ey79_16) rfl (by decide) ?_
 rintro q79_16_0 rfl
 try dsimp only
 refine Zm ?_
 obtain ⟨y81_17, ey81_17, hS⟩ := bd_s hS
 refine VL.callO (rectolaw14_Of_ct t_3 ey81_17) rfl (by decide) ?_
 rintro q81_17_0 rfl
 try dsimp only
 obtain ⟨y82_18, ey82_18, hS⟩ := bd_s hS
 refine VL.q (q_callR (rectoref14_One_ct p_0 q77_15_0 q79_16_0 q81_17_0 [120] [121] ey82_18) rfl (fun _ _ => rfl)) (by decide) ?_
 refine Zm ?_
 refine VL.q (q_extract rfl rfl) (by decide) ?_
 refine VL.q (q_extract rfl rfl) (by decide) ?_
 refine VL.q (q_extract rfl rfl) (by decide) ?_
 refine VL.alloc (cs := [str [], i64 0, str []]) (by kernel_rfl) (by decide) fun b12_19 => ?_
 refine VL.store (vc := [str y82_18.1.path, i64 y82_18.1.mode, str y82_18.1.data]) (cs' := [str y82_18.1.path, i64 y82_18.1.mode, str y82_18.1.data]) rfl rfl rfl gsz45 rfl rfl (Nat.le_of_ble_eq_true rfl) rfl ?_
 refine Za ?_
 refine Za ?_
 refine Zl ?_
 refine VC.keep [9, 10, 11, 12, 13, 14] rfl ?_
 refine Zq (Zr ?_)
 refine Zm ?_
 refine Zm ?_
 refine VL.q (q_beql Tryz.underlying4 rfl rfl) (by decide) ?_
 refine Zm ?_
 refine VL.split_dec 89 rfl (fun h89 => ?_) (fun h89 => ?_)
 ·
  replace hS := it_t h89 hS
  refine Zg ?_
  refine Zg ?_
  refine VL.gy rfl rfl (q_beql Tryz.underlying4 rfl rfl) (by decide) ?_
  refine Zt ?_
  refine Zm ?_
  refine VL.split_dec 94 rfl (fun h94 => ?_) (fun h94 => ?_)
  ·
   replace hS := it_t h94 hS
   refine VL.gy rfl rfl (q_field gfa42_0 rfl) (by decide) ?_
   refine VL.gy rfl rfl (q_fe gone9 rfl rfl) (by decide) ?_
   refine VL.gy rfl rfl (q_field gfa45_0 rfl) (by decide) ?_
   refine VL.gy rfl rfl (q_fe gone9 rfl rfl) (by decide) ?_
   refine VL.gy rfl rfl (q_seq rfl rfl) (by decide) ?_
   refine Zt ?_
   refine Zm ?_
   refine VL.split_dec 101 rfl (fun h101 => ?_) (fun h101 => ?_)
   ·
    replace hS := it_t h101 hS
    refine VL.gy rfl rfl (q_field gfa42_1 rfl) (by decide) ?_
    refine VL.gy rfl rfl (q_fe gone3 rfl rfl) (by decide) ?_
    refine VL.gy rfl rfl (q_field gfa45_1 rfl) (by decide) ?_
    refine VL.gy rfl rfl (q_fe gone3 rfl rfl) (by decide) ?_
    refine VL.gy rfl rfl (q_eql rfl rfl) (by decide) ?_
    refine Zt ?_
    refine Zm ?_
    refine VL.split_dec 108 rfl (fun h108 => ?_) (fun h108 => ?_)
    ·
     replace hS := it_t h108 hS
     refine VL.gy rfl rfl (q_field gfa42_2 rfl) (by decide) ?_
     refine VL.gy rfl rfl (q_fe gone9 rfl rfl) (by decide) ?_
     refine VL.gy rfl rfl (q_field gfa45_2 rfl) (by decide) ?_
     refine VL.gy rfl rfl (q_fe gone9 rfl rfl) (by decide) ?_
     refine VL.gy rfl rfl (q_seq rfl rfl) (by decide) ?_
     refine Zt ?_
     refine Za ?_
     refine Zl ?_
     refine VC.keep [8] rfl ?_
     cases hS
     exact Ze
    replace hS := it_f h108 hS
    refine Zn ?_
    refine Zn ?_
    refine Zn ?_
    refine Zn ?_
    refine Zn ?_
    refine Zf ?_
    refine Za ?_
    refine Zl ?_
    refine VC.keep [8] rfl ?_
    cases hS
    exact Ze
   replace hS := it_f h101 hS
   refine Zn ?_
   refine Zn ?_
   refine Zn ?_
   refine Zn ?_
   refine Zn ?_
   refine Zf ?_
   refine Zm ?_
   refine Zn ?_
   refine Zn ?_
   refine Zn ?_
   refine Zn ?_
   refine Zn ?_
   refine Zf ?_
   refine Za ?_
   refine Zl ?_
   refine VC.keep [8] rfl ?_
   cases hS
   exact Ze
  replace hS := it_f h94 hS
  refine Zn ?_
  refine Zn ?_
  refine Zn ?_
  refine Zn ?_
  refine Zn ?_
  refine Zf ?_
  refine Zm ?_
  refine Zn ?_
  refine Zn ?_
  refine Zn ?_
  refine Zn ?_
  refine Zn ?_
  refine Zf ?_
  refine Zm ?_
  refine Zn ?_
  refine Zn ?_
  refine Zn ?_
  refine Zn ?_
  refine Zn ?_
  refine Zf ?_
  refine Za ?_
  refine Zl ?_
  refine VC.keep [8] rfl ?_
  cases hS
  exact Ze
 replace hS := it_f h89 hS
 refine Zn ?_
 refine Zn ?_
 refine Zn ?_
 refine Zf ?_
 refine Zm ?_
 refine Zn ?_
 refine Zn ?_
 refine Zn ?_
 refine Zn ?_
 refine Zn ?_
 refine Zf ?_
 refine Zm ?_
 refine Zn ?_
 refine Zn ?_
 refine Zn ?_
 refine Zn ?_
 refine Zn ?_
 refine Zf ?_
 refine Zm ?_
 refine Zn ?_
 refine Zn ?_
 refine Zn ?_
 refine Zn ?_
 refine Zn ?_
 refine Zf ?_
 refine Za ?_
 refine Zl ?_
 refine VC.keep [8] rfl ?_
 cases hS
 exact Ze
end Go.Proofs.YtleokmhhloamaaaGreatDoor
end

section
set_option linter.unusedVariables false
namespace Go.Proofs.YtleokmhhloamaaaGreatDoor
set_option maxHeartbeats 4000000
set_option maxRecDepth 100000
open Go.RowKit Go.V
open Go.S hiding Str
end Go.Proofs.YtleokmhhloamaaaGreatDoor
end

section
namespace Go.S
theorem at_get {α : Type} {l : List α} {i : Int} (h0 : 0 ≤ i) (h : i < l.length) : ∃ z, l[i.toNat]? = some z := ⟨_, List.getElem?_eq_getElem (by omega)⟩
end Go.S
end

section
namespace Go.S
theorem get_lt {α : Type} {l : List α} {i : Nat} {x : α} (h : l[i]? = some x) : i < l.length := (List.getElem?_eq_some_iff.1 h).1
theorem take_snoc {α : Type} {l : List α} {i : Int} {z : α} (h0 : 0 ≤ i) (h : l[i.toNat]? = some z) : l.take (i + 1).toNat = l.take i.toNat ++ [z] := by
  rw [show (i + 1).toNat = i.toNat + 1 by omega, List.take_add_one, h]; rfl
theorem ok_jnP {S R : Type} {K : S → Option R} {F : (S → Option R) → Option R} {Q : R → Prop} (P : S → Prop) (hK : ∀ s, P s → Ok (K s) Q) (hF : ∀ K' : S → Option R, (∀ s, P s → Ok (K' s) Q) → Ok (F K') Q) : Ok (jn K F) Q := hF K hK
end Go.S
end

section
namespace Go.S
open Go
def spl (c : UInt8) : List UInt8 → List (List UInt8)
  | [] => [[]]
  | x :: r => if x = c then [] :: spl c r else match spl c r with
    | [] => [[x]]
    | y :: l => (x :: y) :: l
theorem spl_ne (c : UInt8) : ∀ s, spl c s ≠ []
  | [] => by simp [spl]
  | x :: r => by
    unfold spl
    split
    · simp
    · split <;> simp
theorem spl_len (c : UInt8) : ∀ s, (spl c s).length = s.count c + 1
  | [] => by simp [spl]
  | x :: r => by
    have ih := spl_len c r
    unfold spl
    by_cases h : x = c
    · simp [h, ih]
    · rw [if_neg h, List.count_cons_of_ne (by simpa using h)]
      cases hq : spl c r with
      | nil => exact absurd hq (spl_ne c r)
      | cons y l => rw [hq] at ih; simpa using ih
theorem spl_no {c : UInt8} : ∀ {s : List UInt8}, c ∉ s → spl c s = [s]
  | [], _ => rfl
  | x :: r, h => by
    have hx : x ≠ c := fun e => h (by simp [e])
    rw [spl, if_neg hx, spl_no fun e => h (List.mem_cons_of_mem _ e)]
theorem spl_at {c : UInt8} : ∀ {a : List UInt8} (b : List UInt8), c ∉ a → spl c (a ++ c :: b) = a :: spl c b
  | [], b, _ => by simp [spl]
  | x :: a, b, h => by
    have hx : x ≠ c := fun e => h (by simp [e])
    rw [List.cons_append, spl, if_neg hx, spl_at b fun e => h (List.mem_cons_of_mem _ e)]
theorem ix_at {c : UInt8} : ∀ {a : List UInt8} (b : List UInt8), c ∉ a → Lib.indexByte (a ++ c :: b) c = a.length
  | [], b, _ => by simp [Lib.indexByte]
  | x :: a, b, h => by
    have hx : (x == c) = false := by simpa using fun e : x = c => h (by simp [e])
    rw [List.cons_append, Lib.indexByte, hx, ix_at b fun e => h (List.mem_cons_of_mem _ e)]
    simp
theorem split_mem {c : UInt8} {s : List UInt8} (h : c ∈ s) : ∃ a b, s = a ++ c :: b ∧ c ∉ a := by
  induction s with
  | nil => cases h
  | cons x r ih =>
    by_cases hx : x = c
    · exact ⟨[], r, by simp [hx], by simp⟩
    · rcases List.mem_cons.1 h with q | q
      · exact absurd q.symm hx
      · obtain ⟨a, b, e, hn⟩ := ih q
        exact ⟨x :: a, b, by simp [e], by simp [hn, Ne.symm hx]⟩
theorem byte_of (c : UInt8) : (c.toNat : Int).toNat.toUInt8 = c := by simp
theorem ixB_eq (s : List UInt8) (c : UInt8) : ixB s (c.toNat : Int) = Lib.indexByte s c := by unfold ixB; rw [byte_of]
theorem index_ok (s : List UInt8) (c : UInt8) : Sh.internal_stringslite_Index s [c] = some (Lib.indexByte s c) := by
  apply Ok.eq
  unfold Sh.internal_stringslite_Index
  simp only [ok_jn, ok_if, ok_bd, ok_some, ok_at]
  refine ⟨fun h => by simp at h, fun _ => ⟨fun h => ?_, fun _ => ⟨fun _ => ⟨by omega, c, rfl, ?_⟩, fun h => by simp at h⟩⟩⟩
  · have : s = [c] := by simpa using (of_decide_eq_true h).symm
    rw [this]; simp [Lib.indexByte]
  · unfold Sh.internal_stringslite_IndexByte
    rw [ixB_eq]; exact Ok.of rfl rfl
theorem sindex_ok (s : List UInt8) (c : UInt8) : Sh.strings_Index s [c] = some (Lib.indexByte s c) := by
  unfold Sh.strings_Index
  rw [index_ok]; rfl
theorem count_ok (s : List UInt8) (c : UInt8) : Sh.strings_Count s [c] = some (s.count c : Int) := by
  apply Ok.eq
  unfold Sh.strings_Count
  rw [if_neg (by simp), if_pos (by simp)]
  simp only [ok_bd, ok_at, ok_some]
  refine ⟨by omega, c, rfl, ?_⟩
  unfold cntB Lib.countByte
  rw [byte_of]
theorem split_ok {s : List UInt8} (c : UInt8) (hs : s.length ≤ 1000000000) : Sh.strings_Split s [c] = some (spl c s) := by
  apply Ok.eq
  unfold Sh.strings_Split Sh.strings_genSplit
  rw [ok_bd]
  have hc : s.count c ≤ s.length := List.count_le_length
  simp only [count_ok, ok_jn, ok_if, ok_bd, ok_gd, ok_lt, ok_some, ok_at]
  refine ⟨fun h => by omega, fun _ => ⟨fun h => by simp at h, fun _ => ⟨fun _ => ?_, fun h => by omega⟩⟩⟩
  have hm : (min ((s.count c : Int) + 1) ((s.length : Int) + 1)) = (s.count c : Int) + 1 := by omega
  rw [hm]
  refine ⟨⟨by omega, by omega⟩, ⟨by omega, by omega⟩, ⟨by omega, by omega⟩, ⟨by omega, by omega⟩, ?_⟩
  refine ok_iter (I := fun t => 0 ≤ t.2.2 ∧ t.2.2 + t.1.count c = s.count c ∧ t.2.1.length = s.count c + 1 ∧ t.2.1.take t.2.2.toNat ++ spl c t.1 = spl c s ∧ t.1.length ≤ s.length) (μ := fun t => t.1.length) ?_ ⟨by simp, by simp, by simp, by simp, by simp⟩
  rintro ⟨x, l, i⟩ ⟨i0, i1, i2, i3, i4⟩
  dsimp only at i0 i1 i2 i3 i4 ⊢
  have fin : c ∉ x → Ok (((at_ l i).bind fun z61_20 => lt (l.set i.toNat x) fun ys4_22 => gd (I64 (i + 1)) (gd ((0 : Int) ≤ (i + 1) ∧ (i + 1) ≤ (ys4_22.length : Int)) (lt (ys4_22.take (i + 1).toNat) fun y65_24 => some y65_24)))) (fun a => a = spl c s) := fun hx => by
    rw [spl_no hx] at i3
    rw [List.count_eq_zero_of_not_mem hx] at i1
    simp only [ok_bd, ok_gd, ok_lt, ok_some, ok_at]
    obtain ⟨z, hz⟩ := at_get (l := l) i0 (by omega)
    refine ⟨i0, z, hz, ⟨by omega, by omega⟩, ⟨by omega, by rw [List.length_set]; omega⟩, ?_⟩
    rw [← i3, show (i + 1).toNat = i.toNat + 1 by omega, List.take_add_one, List.getElem?_set, if_pos rfl, if_pos (get_lt hz), List.take_set_of_le (Nat.le_refl _)]
    simp
  simp only [ok_jn, ok_if, ok_up, ok_bd, ok_gd, ok_lt, ok_go, ok_some, ok_at, sindex_ok] at fin ⊢
  refine ⟨fun hi => ?_, fun hi => ?_⟩
  · have hmem : c ∈ x := List.count_pos_iff.1 (by omega)
    obtain ⟨a, b, e, ha⟩ := split_mem hmem
    subst e
    rw [ix_at b ha]
    have hl : (a ++ c :: b).length = a.length + b.length + 1 := by simp; omega
    have hcb : (a ++ c :: b).count c = b.count c + 1 := by simp [List.count_eq_zero_of_not_mem ha]
    obtain ⟨z, hz⟩ := at_get (l := l) i0 (by omega)
    refine ⟨fun h => by omega, fun _ => ⟨⟨by omega, by omega⟩, ⟨by omega, by omega⟩, i0, z, hz, ⟨by simp; omega, by simp; omega⟩, ⟨by simp; omega, by simp; omega⟩, ⟨by omega, by omega⟩, ⟨by omega, ?_, by simpa using i2, ?_, ?_⟩, ?_⟩⟩
    · simp only [List.length_cons, List.length_nil]
      rw [show ((a.length : Int) + ((0 + 1 : Nat) : Int)).toNat = a.length + 1 by omega]
      have : (a ++ c :: b).drop (a.length + 1) = b := by simp
      rw [this]; omega
    · simp only [List.length_cons, List.length_nil]
      rw [show ((a.length : Int) + ((0 + 1 : Nat) : Int)).toNat = a.length + 1 by omega, show ((a.length : Int) + 0).toNat = a.length by omega]
      have e1 : (a ++ c :: b).drop (a.length + 1) = b := by simp
      have e2 : (a ++ c :: b).take a.length = a := by simp
      rw [e1, e2, ← i3, spl_at b ha, show (i + 1).toNat = i.toNat + 1 by omega, List.take_add_one, List.getElem?_set, if_pos rfl, if_pos (get_lt hz), List.take_set_of_le (Nat.le_refl _)]
      simp
    · simp; omega
    · simp; omega
  · exact fin fun hm => by have := List.count_pos_iff.2 hm; omega
theorem spl_part (c : UInt8) : ∀ (s : List UInt8), ∀ y ∈ spl c s, y.length ≤ s.length
  | [], y, h => by simp [spl] at h; simp [h]
  | x :: r, y, h => by
    have ih := spl_part c r
    unfold spl at h
    split at h
    · rcases List.mem_cons.1 h with q | q
      · simp [q]
      · have := ih y q; simp; omega
    · split at h
      · have := List.mem_singleton.1 h; simp [this]
      · next a l hq =>
        rcases List.mem_cons.1 h with q | q
        · have := ih a (by rw [hq]; simp); simp [q]; omega
        · have := ih y (by rw [hq]; simp [q]); simp; omega
end Go.S
end

section
namespace Go.P
def tv (a b : Str) (c : Chunk) : Str := if c.clash then clashv c a b else join c.out
def tvs (a b : Str) (l : List Chunk) : Str := (l.map (tv a b)).flatten
def nclash (l : List Chunk) : Int := (l.filter (·.clash)).length
theorem tvs_take {a b : Str} {l : List Chunk} {k : Int} {c : Chunk} (h0 : 0 ≤ k) (h : l[k.toNat]? = some c) : tvs a b (l.take (k + 1).toNat) = tvs a b (l.take k.toNat) ++ tv a b c := by
  rw [show (k + 1).toNat = k.toNat + 1 by omega, List.take_add_one, h]
  simp [tvs]
theorem nclash_take {l : List Chunk} {k : Int} {c : Chunk} (h0 : 0 ≤ k) (h : l[k.toNat]? = some c) : nclash (l.take (k + 1).toNat) = nclash (l.take k.toNat) + if c.clash then 1 else 0 := by
  rw [show (k + 1).toNat = k.toNat + 1 by omega, List.take_add_one, h]
  cases hc : c.clash <;> simp [nclash, hc]
theorem tvs_take_le (a b : Str) (l : List Chunk) (k : Nat) : (tvs a b (l.take k)).length ≤ (tvs a b l).length := by
  conv => rhs; rw [← List.take_append_drop k l]
  simp only [tvs, List.map_append, List.flatten_append, List.length_append]
  omega
theorem nclash_le (l : List Chunk) : 0 ≤ nclash l ∧ nclash l ≤ l.length := by
  have := List.length_filter_le (·.clash) l
  unfold nclash
  omega
end Go.P
end

section
namespace Go.P
theorem pls_line : ∀ (a b : List Str) (j : Int) (n : Nat) (u : Int), (pls (edits a b) j)[n]? = some u → u = -1 ∨ (j ≤ u ∧ ∃ l, a[n]? = some l ∧ b[(u - j).toNat]? = some l)
  | [], b, j, n, u, h => by
    have := pls_length (edits [] b) j
    rw [(c_edits [] b).1] at this
    have h2 := (List.getElem?_eq_some_iff.1 h).1
    simp at this
    rw [this] at h2; simp at h2
  | x :: a, [], j, n, u, h => by
    rw [edits_nil] at h
    simp only [pls] at h
    rw [if_neg (by decide), if_pos trivial] at h
    cases n with
    | zero => simp at h; exact .inl h.symm
    | succ n =>
      simp only [List.getElem?_cons_succ] at h
      rcases pls_line a [] j n u h with q | ⟨_, l, _, q⟩
      · exact .inl q
      · simp at q
  | x :: a, y :: b, j, n, u, h => by
    rw [edits_cons] at h
    split at h
    · rename_i hxy
      simp only [pls] at h
      rw [if_neg (by decide), if_neg (by decide)] at h
      cases n with
      | zero => simp at h; subst h; exact .inr ⟨Int.le_refl _, x, rfl, by simp [hxy]⟩
      | succ n =>
        simp only [List.getElem?_cons_succ] at h
        rcases pls_line a b (j + 1) n u h with q | ⟨q, l, q1, q2⟩
        · exact .inl q
        · refine .inr ⟨by omega, l, by simpa using q1, ?_⟩
          rw [show (u - j).toNat = (u - (j + 1)).toNat + 1 by omega]
          simpa using q2
    · split at h
      · simp only [pls] at h
        rw [if_neg (by decide), if_pos trivial] at h
        cases n with
        | zero => simp at h; exact .inl h.symm
        | succ n =>
          simp only [List.getElem?_cons_succ] at h
          rcases pls_line a (y :: b) j n u h with q | ⟨q, l, q1, q2⟩
          · exact .inl q
          · exact .inr ⟨q, l, by simpa using q1, q2⟩
      · simp only [pls] at h
        rw [if_pos trivial] at h
        rcases pls_line (x :: a) b (j + 1) n u h with q | ⟨q, l, q1, q2⟩
        · exact .inl q
        · refine .inr ⟨by omega, l, q1, ?_⟩
          rw [show (u - j).toNat = (u - (j + 1)).toNat + 1 by omega]
          simpa using q2
theorem places_line {a b : List Str} {n : Nat} {u : Int} {l : Str} (h : (places a b)[n]? = some u) (h0 : 0 ≤ u) (hl : a[n]? = some l) : b[u.toNat]? = some l := by
  rw [places_pls] at h
  rcases pls_line a b 0 n u h with q | ⟨_, l', q1, q2⟩
  · omega
  · rw [hl] at q1; cases q1
    simpa using q2
theorem chunks_ind (b o t : List Str) (hb : b.length ≤ 256) (ho : o.length ≤ 256) (ht : t.length ≤ 256) (I : Wk → Prop) (h0 : I ⟨0, 0, 0, [], false⟩)
    (step : ∀ (s : Wk) (n u v : Int) (line : Str), I s → 0 ≤ s.i → s.i ≤ n → n < b.length → 0 ≤ s.j → s.j ≤ u → u < o.length → 0 ≤ s.k → s.k ≤ v → v < t.length → (places b o)[n.toNat]? = some u → (places b t)[n.toNat]? = some v →
      b[n.toNat]? = some line → o[u.toNat]? = some line → t[v.toNat]? = some line → I (keepW (put b o t s n u v) line)) :
    ∃ s : Wk, I s ∧ 0 ≤ s.i ∧ s.i ≤ b.length ∧ 0 ≤ s.j ∧ s.j ≤ o.length ∧ 0 ≤ s.k ∧ s.k ≤ t.length ∧ (s.out.length : Int) ≤ 2 * b.length ∧ chunks b o t = (put b o t s b.length o.length t.length).out := by
  have key : ∀ n : Nat, n ≤ b.length → CInv b o t n (wrun b o t (places b o) (places b t) n) ∧ I (wrun b o t (places b o) (places b t) n) := by
    intro n
    induction n with
    | zero => exact fun _ => ⟨cinv_start b o t, h0⟩
    | succ n ih =>
      intro hn
      obtain ⟨hc, hI⟩ := ih (by omega)
      obtain ⟨u, hu⟩ : ∃ u, (places b o)[n]? = some u := ⟨_, List.getElem?_eq_getElem (by rw [places_len]; omega)⟩
      obtain ⟨v, hv⟩ : ∃ v, (places b t)[n]? = some v := ⟨_, List.getElem?_eq_getElem (by rw [places_len]; omega)⟩
      obtain ⟨l, hl⟩ : ∃ l, b[n]? = some l := ⟨_, List.getElem?_eq_getElem (by omega)⟩
      by_cases hk : 0 ≤ u ∧ 0 ≤ v
      · have e : wrun b o t (places b o) (places b t) (n + 1) = keepW (put b o t (wrun b o t (places b o) (places b t) n) n u v) l := by
          simp only [wrun, wstep, hu, hv, hl]; rw [if_pos hk]
        rw [e]
        refine ⟨cinv_keep hc hb ho ht (by simpa using hu) (by simpa using hv) (by simpa using hl) hk.1 hk.2, ?_⟩
        exact step _ n u v l hI hc.i0 hc.i1 (by omega) hc.j0 (hc.ju n u (by omega) hu hk.1) (places_range b o u (List.mem_of_getElem? hu) hk.1) hc.k0 (hc.kv n v (by omega) hv hk.2) (places_range b t v (List.mem_of_getElem? hv) hk.2)
          (by simpa using hu) (by simpa using hv) (by simpa using hl) (places_line hu hk.1 hl) (places_line hv hk.2 hl)
      · have e : wrun b o t (places b o) (places b t) (n + 1) = wrun b o t (places b o) (places b t) n := by
          simp only [wrun, wstep, hu, hv, hl]; rw [if_neg hk]
        rw [e]
        exact ⟨cinv_pass hc (by simpa using hu) (by simpa using hv) (by omega) hk, hI⟩
  obtain ⟨hc, hI⟩ := key b.length (Nat.le_refl _)
  exact ⟨_, hI, hc.i0, hc.i1, hc.j0, hc.j1, hc.k0, hc.k1, hc.len, rfl⟩
def Kept (x : Chunk) : Prop := x.ours = x.base ∧ x.theirs = x.base ∧ x.out = x.base ∧ x.clash = false
def Good (x : Chunk) : Prop := Kept x ∨ x = gapv x.base x.ours x.theirs
theorem gapv_parts (b o t : List Str) : (gapv b o t).base = b ∧ (gapv b o t).ours = o ∧ (gapv b o t).theirs = t := by
  unfold gapv; (repeat' split) <;> exact ⟨rfl, rfl, rfl⟩
theorem gapv_good (b o t : List Str) : Good (gapv b o t) := .inr (by obtain ⟨h1, h2, h3⟩ := gapv_parts b o t; rw [h1, h2, h3])
theorem take_sl {l : List Str} {a c : Int} (h0 : 0 ≤ a) (h : a ≤ c) : l.take a.toNat ++ sl l a c = l.take c.toNat := by
  unfold sl
  rw [show c.toNat = a.toNat + (c.toNat - a.toNat) by omega, List.take_add, show a.toNat + (c.toNat - a.toNat) - a.toNat = c.toNat - a.toNat by omega]
structure WInv (b o t : List Str) (s : Wk) : Prop where
  base : s.out.flatMap (·.base) = b.take s.i.toNat
  ours : s.out.flatMap (·.ours) = o.take s.j.toNat
  theirs : s.out.flatMap (·.theirs) = t.take s.k.toNat
  good : ∀ c ∈ s.out, Good c
  op : s.op = true → ∃ fr x, s.out = fr ++ [x] ∧ Kept x
theorem WInv.put {b o t : List Str} {s : Wk} (h : WInv b o t s) {i j k : Int} (i0 : 0 ≤ s.i) (i1 : s.i ≤ i) (j0 : 0 ≤ s.j) (j1 : s.j ≤ j) (k0 : 0 ≤ s.k) (k1 : s.k ≤ k) : WInv b o t (put b o t s i j k) := by
  obtain ⟨h1, h2, h3, h4, h5⟩ := h
  obtain ⟨g1, g2, g3⟩ := gapv_parts (sl b s.i i) (sl o s.j j) (sl t s.k k)
  unfold P.put
  split
  · refine ⟨?_, ?_, ?_, fun c hc => ?_, fun q => by cases q⟩
    · simp only [List.flatMap_append, h1, List.flatMap_cons, List.flatMap_nil, List.append_nil, g1, take_sl i0 i1]
    · simp only [List.flatMap_append, h2, List.flatMap_cons, List.flatMap_nil, List.append_nil, g2, take_sl j0 j1]
    · simp only [List.flatMap_append, h3, List.flatMap_cons, List.flatMap_nil, List.append_nil, g3, take_sl k0 k1]
    · rcases List.mem_append.1 hc with q | q
      · exact h4 c q
      · cases List.mem_singleton.1 q; exact gapv_good _ _ _
  · have e1 : i = s.i := by omega
    have e2 : j = s.j := by omega
    have e3 : k = s.k := by omega
    subst e1; subst e2; subst e3
    exact ⟨h1, h2, h3, h4, h5⟩
theorem addL_kept {x : Chunk} {l : Str} (h : Kept x) : Kept (addL x l) := by
  obtain ⟨h1, h2, h3, h4⟩ := h
  simp [Kept, addL, h1, h2, h3, h4]
theorem keep_flat {s : Wk} {line : Str} (f : Chunk → List Str) (hf : ∀ x l, f (addL x l) = f x ++ [l]) (hn : f nilC = []) (hop : s.op = true → ∃ fr x, s.out = fr ++ [x] ∧ Kept x) : (keepW s line).out.flatMap f = s.out.flatMap f ++ [line] := by
  unfold keepW
  cases h : s.op with
  | true =>
    obtain ⟨fr, x, hx, _⟩ := hop h
    simp [hx, hf]
  | false => simp [hf, hn]
theorem take_snoc {l : List Str} {n : Int} {z : Str} (h0 : 0 ≤ n) (h : l[n.toNat]? = some z) : l.take n.toNat ++ [z] = l.take (n + 1).toNat := by
  rw [show (n + 1).toNat = n.toNat + 1 by omega, List.take_add_one, h]; rfl
theorem WInv.keep {b o t : List Str} {s : Wk} {line : Str} (h : WInv b o t s) (i0 : 0 ≤ s.i) (j0 : 0 ≤ s.j) (k0 : 0 ≤ s.k) (h1 : b[s.i.toNat]? = some line) (h2 : o[s.j.toNat]? = some line) (h3 : t[s.k.toNat]? = some line) : WInv b o t (keepW s line) := by
  refine ⟨?_, ?_, ?_, fun c hc => ?_, fun _ => ?_⟩
  · rw [keep_flat _ (fun _ _ => rfl) rfl h.op, h.base]; exact take_snoc i0 h1
  · rw [keep_flat _ (fun _ _ => rfl) rfl h.op, h.ours]; exact take_snoc j0 h2
  · rw [keep_flat _ (fun _ _ => rfl) rfl h.op, h.theirs]; exact take_snoc k0 h3
  · unfold keepW at hc
    cases ho : s.op with
    | true =>
      obtain ⟨fr, x, hx, hk⟩ := h.op ho
      simp only [ho, hx, if_true, List.dropLast_concat, List.mem_append, List.mem_singleton] at hc
      rcases hc with q | rfl
      · exact h.good c (by rw [hx]; simp [q])
      · refine .inl (addL_kept ?_)
        simpa using hk
    | false =>
      simp only [ho, List.mem_append, List.mem_singleton] at hc
      rcases hc with q | rfl
      · exact h.good c q
      · exact .inl (addL_kept ⟨rfl, rfl, rfl, rfl⟩)
  · unfold keepW
    cases ho : s.op with
    | true =>
      obtain ⟨fr, x, hx, hk⟩ := h.op ho
      exact ⟨fr, addL x line, by simp [hx], addL_kept hk⟩
    | false => exact ⟨s.out, addL nilC line, by simp, addL_kept ⟨rfl, rfl, rfl, rfl⟩⟩
theorem put_at (b o t : List Str) (s : Wk) (i j k : Int) : (put b o t s i j k).i = i ∧ (put b o t s i j k).j = j ∧ (put b o t s i j k).k = k := by
  unfold put; split <;> exact ⟨rfl, rfl, rfl⟩
theorem put_len (b o t : List Str) (s : Wk) (i j k : Int) : (put b o t s i j k).out.length ≤ s.out.length + 1 := by
  unfold put; split <;> simp
theorem chunks_parts (b o t : List Str) (hb : b.length ≤ 256) (ho : o.length ≤ 256) (ht : t.length ≤ 256) :
    (chunks b o t).flatMap (·.base) = b ∧ (chunks b o t).flatMap (·.ours) = o ∧ (chunks b o t).flatMap (·.theirs) = t ∧ (∀ c ∈ chunks b o t, Good c) ∧ (chunks b o t).length ≤ 2 * b.length + 1 := by
  obtain ⟨s, h, i0, i1, j0, j1, k0, k1, hl, e⟩ := chunks_ind b o t hb ho ht (WInv b o t) ⟨rfl, rfl, rfl, (fun _ h => by cases h), (fun h => by cases h)⟩ (fun s n u v line hI i0 i1 i2 j0 j1 j2 k0 k1 k2 _ _ l1 l2 l3 => by
    obtain ⟨e1, e2, e3⟩ := put_at b o t s n u v
    exact (hI.put i0 i1 j0 j1 k0 k1).keep (by omega) (by omega) (by omega) (by rw [e1]; exact l1) (by rw [e2]; exact l2) (by rw [e3]; exact l3))
  have hp := h.put i0 i1 j0 j1 k0 k1
  obtain ⟨e1, e2, e3⟩ := put_at b o t s b.length o.length t.length
  have := put_len b o t s b.length o.length t.length
  rw [e]
  refine ⟨?_, ?_, ?_, hp.good, by omega⟩
  · rw [hp.base, e1]; simp
  · rw [hp.ours, e2]; simp
  · rw [hp.theirs, e3]; simp
end Go.P
end

section
namespace Go.P
theorem join_append (a b : List Str) : join (a ++ b) = join a ++ join b := by simp [join_flat]
theorem flatMap_mem_le (f : Chunk → List Str) {cs : List Chunk} {c : Chunk} (h : c ∈ cs) : (f c).length ≤ (cs.flatMap f).length ∧ (join (f c)).length ≤ (join (cs.flatMap f)).length := by
  induction cs with
  | nil => cases h
  | cons d cs ih =>
    rw [List.flatMap_cons, join_append]
    simp only [List.length_append]
    rcases List.mem_cons.1 h with rfl | h
    · omega
    · have := ih h; omega
theorem tvs_len (x y : Str) (M : Nat) : ∀ cs : List Chunk, (∀ c ∈ cs, (tv x y c).length ≤ M) → (tvs x y cs).length ≤ cs.length * M
  | [], _ => by simp [tvs]
  | c :: cs, h => by
    have h1 := h c (by simp)
    have h2 := tvs_len x y M cs fun d hd => h d (by simp [hd])
    have e : tvs x y (c :: cs) = tv x y c ++ tvs x y cs := by simp [tvs]
    rw [e, List.length_append, List.length_cons, Nat.add_mul]
    omega
theorem closed_le (l : List Str) : (closed l).length ≤ (join l).length + 1 := by
  unfold closed; split
  · omega
  · simp
theorem good_out {c : Chunk} (h : Good c) : c.out = c.base ∨ c.out = c.ours ∨ c.out = c.theirs ∨ c.out = [] := by
  rcases h with h | h
  · exact .inl h.2.2.1
  · obtain ⟨g1, g2, g3⟩ := gapv_parts c.base c.ours c.theirs
    rw [h]; unfold gapv
    (repeat' split) <;> simp
theorem chunks_small {b o t : List Str} {L : Nat} (hb : b.length ≤ 256) (ho : o.length ≤ 256) (ht : t.length ≤ 256) (kb : (join b).length ≤ L) (ko : (join o).length ≤ L) (kt : (join t).length ≤ L) :
    ∀ c ∈ chunks b o t, c.ours.length ≤ 256 ∧ (join c.ours).length ≤ L ∧ c.theirs.length ≤ 256 ∧ (join c.theirs).length ≤ L ∧ c.out.length ≤ 256 ∧ (join c.out).length ≤ L := fun c hc => by
  obtain ⟨h1, h2, h3, h4, _⟩ := chunks_parts b o t hb ho ht
  have a1 := flatMap_mem_le (·.base) hc
  have a2 := flatMap_mem_le (·.ours) hc
  have a3 := flatMap_mem_le (·.theirs) hc
  rw [h1] at a1; rw [h2] at a2; rw [h3] at a3
  refine ⟨by omega, by omega, by omega, by omega, ?_, ?_⟩ <;> rcases good_out (h4 c hc) with e | e | e | e <;> rw [e] <;> first | omega | simp [join]
theorem tvs_small {b o t : List Str} {x y : Str} {L : Nat} (hb : b.length ≤ 256) (ho : o.length ≤ 256) (ht : t.length ≤ 256) (kb : (join b).length ≤ L) (ko : (join o).length ≤ L) (kt : (join t).length ≤ L) (hx : x.length ≤ L) (hy : y.length ≤ L) :
    (tvs x y (chunks b o t)).length ≤ 513 * (4 * L + 100) := by
  have hl := (chunks_parts b o t hb ho ht).2.2.2.2
  refine Nat.le_trans (tvs_len x y (4 * L + 100) _ fun c hc => ?_) (Nat.mul_le_mul_right _ (by omega))
  obtain ⟨s1, s2, s3, s4, s5, s6⟩ := chunks_small hb ho ht kb ko kt c hc
  have c1 := closed_le c.ours
  have c2 := closed_le c.theirs
  unfold tv
  split
  · simp only [clashv, List.length_append, List.length_cons, List.length_nil]; omega
  · omega
end Go.P
end

section
namespace Go.S.LP
open Go Go.P
theorem clip_ok (l : List Str) : Sh.slices_Clip_string_string l = some l := by
  unfold Sh.slices_Clip_string_string
  simp [gd, lt]
theorem split_ok (s0 : Str) (h : s0.length ≤ 1048576) : Sh.lines_Split s0 = some (P.spl s0) := by
  apply Ok.eq
  unfold Sh.lines_Split
  refine ok_iter (I := fun x => x.2 ++ P.spl x.1 = P.spl s0 ∧ x.2.length + x.1.length ≤ s0.length) (μ := fun x => x.1.length) ?_ ⟨rfl, by simp⟩
  rintro ⟨s, o⟩ ⟨ho, hl⟩
  simp only [ok_if, ok_up, ok_bd, ok_gd, ok_lt, ok_go, ok_jn, ok_some, clip_ok, sindex_ok] at *
  refine ⟨fun hs => by subst hs; simpa [P.spl] using ho, fun hs => ?_⟩
  obtain ⟨f1, f2⟩ := idx_facts s
  have f3 : 0 < s.length := List.length_pos_iff.2 hs
  have key : ∀ i : Int, (i = Lib.indexByte s 10 ∧ ¬ Lib.indexByte s 10 < 0 ∨ i = s.length - 1 ∧ Lib.indexByte s 10 < 0) → I64 (i + 1) ∧ ((0 : Int) ≤ i + 1 ∧ i + 1 ≤ s.length) ∧ (o.length + [s.take (i + 1).toNat].length ≤ 4294967296) ∧
      ((o ++ [s.take (i + 1).toNat]) ++ P.spl (s.drop (i + 1).toNat) = P.spl s0 ∧ (o ++ [s.take (i + 1).toNat]).length + (s.drop (i + 1).toNat).length ≤ s0.length) ∧ (s.drop (i + 1).toNat).length < s.length := fun i hi => by
    refine ⟨⟨by omega, by omega⟩, ⟨by omega, by omega⟩, by simp; omega, ⟨split_step hs hi ho rfl rfl, by simp; omega⟩, by simp; omega⟩
  refine ⟨fun h1 => ⟨⟨by omega, by omega⟩, ?_⟩, fun h1 => ?_⟩
  · obtain ⟨k1, k2, k3, k4, k5⟩ := key _ (.inr ⟨rfl, h1⟩)
    exact ⟨k1, k2, k3, k1, k2, k4, k5⟩
  · obtain ⟨k1, k2, k3, k4, k5⟩ := key _ (.inl ⟨rfl, h1⟩)
    exact ⟨k1, k2, k3, k1, k2, k4, k5⟩
theorem joinS_nil (l : List Str) : joinS l [] = join l := by
  unfold joinS
  rw [join_flat]
  cases l with
  | nil => rfl
  | cons x r => rw [Lib.join_cons]; simp [Lib.joinTail]
theorem ljoin_ok (l : List Str) (h1 : l.length ≤ 1048576) (h2 : (join l).length ≤ 1048576) : Sh.lines_Join l = some (join l) := by
  unfold Sh.lines_Join
  rw [joinS_nil]
  unfold gd lt
  rw [if_pos ⟨by omega, by omega⟩]
theorem whole_ok (s : Str) (h : s.length ≤ 1048576) : Sh.lines_Whole s = some (decide (s = []) || [10].isSuffixOf s) := by
  unfold Sh.lines_Whole Sh.strings_HasSuffix Sh.internal_stringslite_HasSuffix
  by_cases hs : s = []
  · simp [hs]
  · have : 0 < s.length := List.length_pos_iff.2 hs
    have e := suffix_yes (s := s) (t := [10]) (by simp; omega)
    simp only [hs, if_false, gd, lt]
    rw [if_pos (by simp; omega), if_pos ⟨by simp; omega, by simp; omega⟩, if_pos (by constructor <;> simp <;> omega)]
    simp [← e]
theorem closed_ok (l : List Str) (h1 : l.length ≤ 1048576) (h2 : (join l).length ≤ 1048575) : Sh.merge_closed l = some (closed l) := by
  unfold Sh.merge_closed
  rw [ljoin_ok l h1 (by omega)]
  simp only [Option.bind_some, whole_ok _ (show (join l).length ≤ 1048576 by omega), gd, lt]
  by_cases h : join l = [] ∨ [10].isSuffixOf (join l) = true
  · have : (decide (join l = []) || [10].isSuffixOf (join l)) = true := by simpa using h
    rw [this]
    unfold closed
    rw [if_pos h]
    simp
  · have : (decide (join l = []) || [10].isSuffixOf (join l)) = false := by
      rw [Bool.eq_false_iff]; simpa using h
    rw [this, if_pos (by rfl), if_pos (by simp; omega)]
    simp only [closed, if_neg h]
theorem closed_len (l : List Str) : (closed l).length ≤ (join l).length + 1 := by
  unfold closed
  split
  · omega
  · simp
theorem clash_ok (c : Chunk) (a b : Str) (h1 : c.ours.length ≤ 1048576) (h2 : (join c.ours).length ≤ 1048575) (h3 : c.theirs.length ≤ 1048576) (h4 : (join c.theirs).length ≤ 1048575) (ha : a.length ≤ 1048576) (hb : b.length ≤ 1048576) :
    Sh.merge_clash c a b = some (clashv c a b) := by
  have c1 := closed_len c.ours
  have c2 := closed_len c.theirs
  unfold Sh.merge_clash
  simp only [gd, lt, closed_ok _ h1 h2, closed_ok _ h3 h4, Option.bind_some]
  rw [if_pos (by simp; omega), if_pos (by simp; omega), if_pos (by simp; omega), if_pos (by simp; omega), if_pos (by simp; omega), if_pos (by simp; omega), if_pos (by simp; omega), if_pos (by simp; omega)]
  simp [clashv]
theorem text_ok (b o t x y : Str) (hb : b.length ≤ 1048576) (ho : o.length ≤ 1048576) (ht : t.length ≤ 1048576) (h1 : (P.spl b).length ≤ 256) (h2 : (P.spl o).length ≤ 256) (h3 : (P.spl t).length ≤ 256) (hx : x.length ≤ 1048576) (hy : y.length ≤ 1048576)
    (hT : (tvs x y (chunks (P.spl b) (P.spl o) (P.spl t))).length ≤ 4294967296) (hN : (chunks (P.spl b) (P.spl o) (P.spl t)).length ≤ 1048576) (hS : ∀ c ∈ chunks (P.spl b) (P.spl o) (P.spl t), c.ours.length ≤ 1048576 ∧ (join c.ours).length ≤ 1048575 ∧ c.theirs.length ≤ 1048576 ∧ (join c.theirs).length ≤ 1048575 ∧ c.out.length ≤ 1048576 ∧ (join c.out).length ≤ 1048576) :
    Sh.merge_Text b o t x y = some (tvs x y (chunks (P.spl b) (P.spl o) (P.spl t)), nclash (chunks (P.spl b) (P.spl o) (P.spl t)), Err.nil) := by
  apply Ok.eq
  unfold Sh.merge_Text
  have hc : Sh.merge_Chunks (P.spl b) (P.spl o) (P.spl t) = some (chunks (P.spl b) (P.spl o) (P.spl t), Err.nil) := if_pos ⟨h1, h2, h3⟩
  rw [split_ok b hb, split_ok o ho, split_ok t ht]
  simp only [Option.bind_some, hc]
  clear hc
  rw [if_pos (by rfl)]
  generalize chunks (P.spl b) (P.spl o) (P.spl t) = cs at *
  refine ok_iter (I := fun s => 0 ≤ s.2.1 ∧ s.2.1 ≤ cs.length ∧ s.2.2 = tvs x y (cs.take s.2.1.toNat) ∧ s.1 = nclash (cs.take s.2.1.toNat)) (μ := fun s => (cs.length - s.2.1).toNat) ?_ ⟨by simp, by simp, rfl, rfl⟩
  rintro ⟨n, k, acc⟩ ⟨k0, k1, hacc, hn⟩
  dsimp only at k0 k1 hacc hn
  have hnl := nclash_le (cs.take k.toNat)
  have hlt := List.length_take_le k.toNat cs
  simp only [ok_if, ok_up, ok_bd, ok_gd, ok_lt, ok_go, ok_jn, ok_some, ok_at]
  refine ⟨fun hk => ⟨k0, cs[k.toNat]'(by omega), List.getElem?_eq_getElem (by omega), ?_⟩, fun hk => ?_⟩
  · have hz : cs[k.toNat]? = some (cs[k.toNat]'(by omega)) := List.getElem?_eq_getElem (by omega)
    generalize cs[k.toNat]'(by omega) = c at hz ⊢
    obtain ⟨s1, s2, s3, s4, s5, s6⟩ := hS c (List.mem_of_getElem? hz)
    have ht := tvs_take (a := x) (b := y) k0 hz
    have hnc := nclash_take k0 hz
    have hle := tvs_take_le x y cs (k + 1).toNat
    rw [clash_ok c x y s1 s2 s3 s4 hx hy, ljoin_ok c.out s5 (by omega)]
    simp only [ok_some, I64]
    refine ⟨fun hc => ?_, fun hc => ?_⟩
    · have e : tv x y c = clashv c x y := if_pos hc
      rw [e, ← hacc] at ht
      rw [ht, List.length_append] at hle
      rw [hc, if_pos rfl, ← hn] at hnc
      refine ⟨⟨by omega, by omega⟩, by omega, ⟨by omega, by omega⟩, ⟨by omega, by omega, ht.symm, hnc.symm⟩, by omega⟩
    · have hcf : c.clash = false := by simpa using hc
      have e : tv x y c = join c.out := by unfold tv; rw [hcf]; rfl
      rw [e, ← hacc] at ht
      rw [ht, List.length_append] at hle
      rw [hcf] at hnc
      refine ⟨by omega, ⟨by omega, by omega⟩, ⟨by omega, by omega, ht.symm, by rw [hnc, ← hn]; simp⟩, by omega⟩
  · rw [List.take_of_length_le (by omega)] at hacc hn
    rw [hacc, hn]
theorem spl_len : ∀ s : Str, (P.spl s).length ≤ s.length
  | [] => Nat.le_refl _
  | c :: r => by
    have ih := spl_len r
    simp only [P.spl, List.length_cons]
    split
    · simp; omega
    · cases h : P.spl r with
      | nil => simp
      | cons l t => rw [h] at ih; simp at ih ⊢; omega
theorem text_small (b o t x y : Str) (hb : b.length ≤ 10000) (ho : o.length ≤ 10000) (ht : t.length ≤ 10000) (h1 : (P.spl b).length ≤ 256) (h2 : (P.spl o).length ≤ 256) (h3 : (P.spl t).length ≤ 256) (hx : x.length ≤ 10000) (hy : y.length ≤ 10000) :
    Sh.merge_Text b o t x y = some (tvs x y (chunks (P.spl b) (P.spl o) (P.spl t)), nclash (chunks (P.spl b) (P.spl o) (P.spl t)), Err.nil) := by
  have kb : (join (P.spl b)).length ≤ 10000 := by rw [join_spl]; exact hb
  have ko : (join (P.spl o)).length ≤ 10000 := by rw [join_spl]; exact ho
  have kt : (join (P.spl t)).length ≤ 10000 := by rw [join_spl]; exact ht
  have hl := (chunks_parts _ _ _ h1 h2 h3).2.2.2.2
  have hT := tvs_small h1 h2 h3 kb ko kt hx hy
  refine text_ok b o t x y (by omega) (by omega) (by omega) h1 h2 h3 (by omega) (by omega) (by omega) (by omega) fun c hc => ?_
  obtain ⟨s1, s2, s3, s4, s5, s6⟩ := chunks_small h1 h2 h3 kb ko kt c hc
  omega
theorem requal_ok (a b : List Str) (hl : a.length ≤ 1048576) : Sh.rectoref11_Equal a b = some (decide (a = b)) := by
  apply Ok.eq
  unfold Sh.rectoref11_Equal
  rw [ok_if]
  refine ⟨fun h => ?_, fun h => by rw [ok_some]; simp; intro e; rw [e] at h; exact h rfl⟩
  refine ok_iter (I := fun i => 0 ≤ i ∧ i ≤ a.length ∧ ∀ j < i.toNat, a[j]? = b[j]?) (μ := fun i => (a.length - i).toNat) ?_ ⟨by omega, by omega, fun j hj => by simp at hj⟩
  rintro i ⟨h0, h1, hj⟩
  simp only [ok_if, ok_up, ok_bd, ok_gd, ok_lt, ok_go, ok_some, ok_at]
  refine ⟨fun hi => ⟨h0, a[i.toNat]'(by omega), List.getElem?_eq_getElem (by omega), h0, b[i.toNat]'(by omega), List.getElem?_eq_getElem (by omega), fun h2 => ⟨⟨by omega, by omega⟩, ⟨by omega, by omega, ?_⟩, by omega⟩, fun h2 => ?_⟩, fun hi => ?_⟩
  · exact eq_step h0 (List.getElem?_eq_getElem (by omega)) (List.getElem?_eq_getElem (by omega)) h2 hj
  · have := eq_no (List.getElem?_eq_getElem (by omega)) (List.getElem?_eq_getElem (by omega)) h2
    simpa using this
  · have := eq_yes h hi hj
    simpa using this
theorem rjoin_ok (l : List Str) (h1 : l.length ≤ 1048576) (h2 : (join l).length ≤ 1048576) : Sh.rectoref11_Join l = some (join l) := by
  apply Ok.eq
  unfold Sh.rectoref11_Join
  refine ok_iter (I := fun s => 0 ≤ s.2 ∧ s.2 ≤ l.length ∧ s.1 = join (l.take s.2.toNat)) (μ := fun s => (l.length - s.2).toNat) ?_ ⟨by simp, by simp, rfl⟩
  rintro ⟨s, i⟩ ⟨h0, h3, hs⟩
  dsimp only at h0 h3 hs
  simp only [ok_if, ok_up, ok_bd, ok_gd, ok_lt, ok_go, ok_some, ok_at]
  refine ⟨fun hi => ⟨h0, l[i.toNat]'(by omega), List.getElem?_eq_getElem (by omega), ?_⟩, fun hi => ?_⟩
  · have hz : l[i.toNat]? = some (l[i.toNat]'(by omega)) := List.getElem?_eq_getElem (by omega)
    have hj := join_take h0 hz
    have hle := join_take_le l (i + 1).toNat
    rw [hj, List.length_append, ← hs] at hle
    exact ⟨by omega, ⟨by omega, by omega⟩, ⟨by omega, by omega, by rw [hj, hs]⟩, by omega⟩
  · rw [hs, List.take_of_length_le (by omega)]
theorem rsplit_ok (s : Str) (h : s.length ≤ 1048576) : Sh.rectoref11_Split s = some (P.spl s) := by
  apply Ok.eq
  unfold Sh.rectoref11_Split
  refine ok_iter (I := fun q => 0 ≤ q.2.1 ∧ q.2.1 ≤ q.2.2 ∧ q.2.2 ≤ s.length ∧ (q.1.length : Int) ≤ q.2.2 ∧ 10 ∉ (s.drop q.2.1.toNat).take (q.2.2.toNat - q.2.1.toNat) ∧ q.1 ++ P.spl (s.drop q.2.1.toNat) = P.spl s) (μ := fun q => (s.length - q.2.2).toNat) ?_ ⟨by simp, by simp, by simp, by simp, by simp, rfl⟩
  rintro ⟨o, f, i⟩ ⟨f0, f1, i1, hol, hn, ho⟩
  dsimp only at f0 f1 i1 hol hn ho
  simp only [ok_if, ok_up, ok_bd, ok_gd, ok_lt, ok_go, ok_some, ok_at, ok_jn]
  refine ⟨fun hi => ⟨by omega, s[i.toNat]'(by omega), List.getElem?_eq_getElem (by omega), fun hu => ?_, fun hu => ?_⟩, fun hi => ⟨fun hf => ?_, fun hf => ?_⟩⟩
  · have hz : s[i.toNat]? = some (s[i.toNat]'(by omega)) := List.getElem?_eq_getElem (by omega)
    exact ⟨⟨by omega, by omega⟩, ⟨by omega, by omega, by omega⟩, by simp; omega, ⟨by omega, by omega⟩, ⟨by omega, by omega⟩, ⟨by omega, by omega, by omega, by simp; omega, by simp, ref_nl f0 f1 hz hu hn ho rfl rfl⟩, by omega⟩
  · have hz : s[i.toNat]? = some (s[i.toNat]'(by omega)) := List.getElem?_eq_getElem (by omega)
    exact ⟨⟨by omega, by omega⟩, ⟨by omega, by omega, by omega, by omega, ref_no f0 f1 hz hu hn, ho⟩, by omega⟩
  · exact ⟨⟨by omega, by omega⟩, by simp; omega, ref_end hi f0 hf hn ho rfl rfl⟩
  · exact ref_end0 hf ho
end Go.S.LP
end

section
namespace Go.S
theorem gl_at {α : Type} {l : List α} {i : Int} (h0 : 0 ≤ i) (h : i < l.length) : ∃ z, l[i.toNat]? = some z := ⟨_, List.getElem?_eq_getElem (by omega)⟩
theorem gl_snoc {α : Type} {l : List α} {i : Int} {z : α} (h0 : 0 ≤ i) (h : l[i.toNat]? = some z) : l.take (i + 1).toNat = l.take i.toNat ++ [z] := by
  rw [show (i + 1).toNat = i.toNat + 1 by omega, List.take_add_one, h]; rfl
theorem gl_atv {α : Type} {l : List α} {i : Int} {z : α} (h0 : 0 ≤ i) (h : l[i.toNat]? = some z) : at_ l i = some z := by
  unfold at_; rw [if_pos h0, h]
theorem gl_map {α β : Type} (f : α → β) {l : List α} {i : Nat} {z : α} (h : l[i]? = some z) : (l.map f)[i]? = some (f z) := by rw [List.getElem?_map, h]; rfl
def Up {T R : Type} (Q : R → Prop) (y : T ⊕ R) : Prop := ∃ r, y = .inr r ∧ Q r
theorem up_up {T R : Type} {o : Option R} {Q : R → Prop} (h : Ok o Q) : Ok (up o : Option (T ⊕ R)) (Up Q) := ok_up.2 (h.mono fun r hr => ⟨r, rfl, hr⟩)
theorem gl_chk {α R : Type} {Q : R → Prop} (l : List α) (P : α → Prop) (B : Int → Option (Int ⊕ R))
    (hB : ∀ (i : Int) z, 0 ≤ i → i < l.length → l[i.toNat]? = some z → (∀ y ∈ l.take i.toNat, P y) → Ok (B i) (fun y => y = .inl (i + 1) ∧ P z ∨ ∃ r, y = .inr r ∧ Q r))
    (hE : (∀ y ∈ l, P y) → Ok (B (l.length : Int)) (Up Q)) : Ok (iter B 0) Q := by
  refine ok_iter (I := fun i => 0 ≤ i ∧ i ≤ l.length ∧ ∀ y ∈ l.take i.toNat, P y) (μ := fun i => (l.length - i).toNat) ?_ ⟨by omega, by omega, by simp⟩
  rintro i ⟨i0, i1, i2⟩
  by_cases hi : i < l.length
  · obtain ⟨z, hz⟩ := gl_at i0 hi
    refine (hB i z i0 hi hz i2).mono ?_
    rintro y (⟨rfl, hp⟩ | ⟨r, rfl, hr⟩)
    · refine ⟨⟨by omega, by omega, fun y hy => ?_⟩, by omega⟩
      rw [gl_snoc i0 hz] at hy
      rcases List.mem_append.1 hy with q | q
      · exact i2 y q
      · rw [List.mem_singleton.1 q]; exact hp
    · exact hr
  · have e : i = l.length := by omega
    subst e
    rw [List.take_of_length_le (by omega)] at i2
    refine (hE i2).mono ?_
    rintro y ⟨r, rfl, hr⟩
    exact hr
end Go.S
end
