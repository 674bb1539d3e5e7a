/- Part of the proofs of: What another branch has beyond one's own is taken as it is, and the second time there is nothing to do, for every number of commits. -/
import Derived.Test.YtdfbpkpldjpioaaGreatDoorFE
set_option linter.unusedVariables false
set_option linter.unusedSimpArgs false
set_option linter.unusedSectionVars false
section
set_option linter.unusedVariables false
namespace Go.Proofs.YtdfbpkpldjpioaaGreatDoor
set_option maxHeartbeats 4000000
set_option maxRecDepth 100000
set_option synthInstance.maxSize 2000
set_option synthInstance.maxHeartbeats 1000000
open Go.RowKit Go.V
open Go.S hiding Str
theorem repo_forced_ct (s_0 : StateState) (to_1 : Sv FilesFile) {r : StateStateP} (hS : Sh.repo_forced s_0.pl to_1.l = some r) :
 Ct Tryz.prog 122 [.agg (zStateState s_0).toArray, to_1.val] (s_0.now_work.ok.and (s_0.now_index.ok.and (s_0.now_refs.ok.and (s_0.now_seq_doing.ok.and (s_0.now_seq_todo.ok.and (s_0.now_seq_index.ok.and (s_0.now_seq_work.ok.and (s_0.now_stash.ok.and (s_0.commits.ok.and (s_0.log_back.ok.and (s_0.log_forth.ok.and to_1.ok))))))))))) (Ow.emp) (X := StateState) (fun x => .agg (Dat.enc x).toArray) (fun x => r = x.pl) (fun x => x.m) (fun x => Ow.emp) := by
 refine Zo Tryz.func122 Tryz.ntmps122 fun c => ?_
 unfold Sh.repo_forced at hS
 refine Zq (Zr ?_)
 refine VL.box (cs := (zStateState s_0)) rfl rfl (by decide) fun b2_1 => ?_
 refine VL.alloc (cs := [.slice none 0 0, .slice none 0 0, .slice none 0 0, str [], i64 0, str [], i64 0, str [], .slice none 0 0, .slice none 0 0, i64 0, str [], str [], i64 0, .slice none 0 0, .slice none 0 0, .slice none 0 0, .slice none 0 0, .slice none 0 0, .slice none 0 0, i64 0]) (by kernel_rfl) (by decide) fun b4_2 => ?_
 refine Zl ?_
 refine Zq ?_
 refine VC.draw [(0, true), (2, true), (3, true), (4, true), (5, true), (6, true), (7, true), (8, true), (1, false), (9, false), (10, true), (11, true), (12, true), (13, true), (14, true), (15, false), (16, true), (17, true), (18, false)] mixed (by kernel_rfl) (by kernel_rfl) (by kernel_rfl) ?_
 refine Zw rfl (q_fes gagg41 rfl rfl) ?_
 refine Zw rfl (q_move rfl) ?_
 refine Zw rfl (q_field gfa41_0 rfl) ?_
 refine Zw rfl (q_field gfa35_1 rfl) ?_
 refine Zw rfl (q_fe gone25 rfl rfl) ?_
 refine Zw rfl (q_field gfa41_0 rfl) ?_
 refine Zw rfl (q_field gfa35_0 rfl) ?_
 refine Zw rfl (q_fe gone24 rfl rfl) ?_
 refine VD.one rfl ?_
 obtain ⟨y7_3, ey7_3, hS⟩ := bd_s hS
 refine VL.callF (repo_head_ct s_0 ey7_3) rfl (by decide) ?_
 rintro q7_3_0 rfl
 try dsimp only
 refine VL.back (D' := [(8, s_0.now_work.val), (7, ptr b2_1 0), (6, ptr b2_1 0), (5, s_0.now_index.val), (4, ptr b2_1 1), (3, ptr b2_1 0)]) (by kernel_rfl) (Pend.cons rfl (q_fe gone24 rfl rfl) (Pend.cons rfl (q_field gfa35_0 rfl) (Pend.cons rfl (q_field gfa41_0 rfl) (Pend.cons rfl (q_fe gone25 rfl rfl) (Pend.cons rfl (q_field gfa35_1 rfl) (Pend.cons rfl (q_field gfa41_0 rfl) (Pend.nil))))))) ?_
 refine VD.one rfl ?_
 obtain ⟨y15_4, ey15_4, hS⟩ := bd_s hS
 refine VL.callF (plan_Force_ct q7_3_0 to_1 s_0.now_index s_0.now_work ey15_4) rfl (by decide) ?_
 rintro ⟨q15_4_0, q15_4_1⟩ rfl
 try dsimp only
 refine VL.back (D' := []) (by kernel_rfl) (Pend.nil) ?_
 refine Zw rfl (q_move rfl) ?_
 refine Zw rfl (q_extract rfl rfl) ?_
 refine Zw rfl (q_extract rfl rfl) ?_
 refine Zw rfl (q_field gfa41_0 rfl) ?_
 refine Zw rfl (q_field gfa35_1 rfl) ?_
 refine VD.one rfl ?_
 refine Zv (vc := [q15_4_0.val]) (cs' := [s_0.now_work.val, q15_4_0.val, s_0.now_refs.val, str s_0.now_head_branch, i64 s_0.now_head_commit, str s_0.now_seq_kind, i64 s_0.now_seq_other, str s_0.now_seq_text, s_0.now_seq_doing.val, s_0.now_seq_todo.val, i64 s_0.now_seq_made, str s_0.now_seq_branch, str s_0.now_seq_head_branch, i64 s_0.now_seq_head_commit, s_0.now_seq_index.val, s_0.now_seq_work.val, s_0.now_stash.val, s_0.commits.val, s_0.log_back.val, s_0.log_forth.val, i64 s_0.time]) rfl gsz25 ?_
 refine VL.back (D' := [(12, q15_4_1.val)]) (by kernel_rfl) (Pend.cons rfl (q_extract rfl rfl) (Pend.nil)) ?_
 refine Zw rfl (q_field gfa41_0 rfl) ?_
 refine Zw rfl (q_field gfa35_0 rfl) ?_
 refine VD.one rfl ?_
 refine Zv (vc := [q15_4_1.val]) (cs' := [q15_4_1.val, q15_4_0.val, s_0.now_refs.val, str s_0.now_head_branch, i64 s_0.now_head_commit, str s_0.now_seq_kind, i64 s_0.now_seq_other, str s_0.now_seq_text, s_0.now_seq_doing.val, s_0.now_seq_todo.val, i64 s_0.now_seq_made, str s_0.now_seq_branch, str s_0.now_seq_head_branch, i64 s_0.now_seq_head_commit, s_0.now_seq_index.val, s_0.now_seq_work.val, s_0.now_stash.val, s_0.commits.val, s_0.log_back.val, s_0.log_forth.val, i64 s_0.time]) rfl gsz24 ?_
 refine VL.back (D' := []) (by kernel_rfl) (Pend.nil) ?_
 refine VD.to (fun _ _ h => h) ?_
 refine VC.keep (ρ' := [(2, ptr b2_1 0), (4, ptr b4_2 0)]) [2, 4] rfl ?_
 refine Zq (Zr ?_)
 refine Zu (q_fes gagg41 rfl rfl) ?_
 refine Zv (vc := [q15_4_1.val, q15_4_0.val, s_0.now_refs.val, str s_0.now_head_branch, i64 s_0.now_head_commit, str s_0.now_seq_kind, i64 s_0.now_seq_other, str s_0.now_seq_text, s_0.now_seq_doing.val, s_0.now_seq_todo.val, i64 s_0.now_seq_made, str s_0.now_seq_branch, str s_0.now_seq_head_branch, i64 s_0.now_seq_head_commit, s_0.now_seq_index.val, s_0.now_seq_work.val, s_0.now_stash.val, s_0.commits.val, s_0.log_back.val, s_0.log_forth.val, i64 s_0.time]) (cs' := [q15_4_1.val, q15_4_0.val, s_0.now_refs.val, str s_0.now_head_branch, i64 s_0.now_head_commit, str s_0.now_seq_kind, i64 s_0.now_seq_other, str s_0.now_seq_text, s_0.now_seq_doing.val, s_0.now_seq_todo.val, i64 s_0.now_seq_made, str s_0.now_seq_branch, str s_0.now_seq_head_branch, i64 s_0.now_seq_head_commit, s_0.now_seq_index.val, s_0.now_seq_work.val, s_0.now_stash.val, s_0.commits.val, s_0.log_back.val, s_0.log_forth.val, i64 s_0.time]) rfl gsz41 ?_
 refine Zl ?_
 cases hS
 exact VC.ret (finG (vs := [.agg #[q15_4_1.val, q15_4_0.val, s_0.now_refs.val, str s_0.now_head_branch, i64 s_0.now_head_commit, str s_0.now_seq_kind, i64 s_0.now_seq_other, str s_0.now_seq_text, s_0.now_seq_doing.val, s_0.now_seq_todo.val, i64 s_0.now_seq_made, str s_0.now_seq_branch, str s_0.now_seq_head_branch, i64 s_0.now_seq_head_commit, s_0.now_seq_index.val, s_0.now_seq_work.val, s_0.now_stash.val, s_0.commits.val, s_0.log_back.val, s_0.log_forth.val, i64 s_0.time]]) (.inr rfl) rfl (RVs.cell gagg41 rfl rfl Rd.blk (RVs.nil)) ⟨q15_4_1, q15_4_0, s_0.now_refs, s_0.now_head_branch, s_0.now_head_commit, s_0.now_seq_kind, s_0.now_seq_other, s_0.now_seq_text, s_0.now_seq_doing, s_0.now_seq_todo, s_0.now_seq_made, s_0.now_seq_branch, s_0.now_seq_head_branch, s_0.now_seq_head_commit, s_0.now_seq_index, s_0.now_seq_work, s_0.now_stash, s_0.commits, s_0.log_back, s_0.log_forth, s_0.time⟩ rfl rfl (by (try dsimp only); exact InM.out) (fun _ _ => trivial))
theorem files_Paths_ct (l_0 : Sv (Sv FilesFile)) {r : List Str} (hS : Sh.files_Paths (l_0.l.map Sv.l) = some r) :
 Ct Tryz.prog 192 [l_0.val] l_0.ok (Ow.emp) (X := Sv Str) (fun x => x.val) (fun x => r = x.l) (fun x => x.ok) (fun x => Ow.emp) := by
 refine Zo Tryz.func192 Tryz.ntmps192 fun c => ?_
 unfold Sh.files_Paths at hS
 refine Zq (Zr ?_)
 refine Zy ?_
 refine Zq (Zr ?_)
 refine VL.mkmap (k := 9) (e := 4) (by decide) fun b8_1 => ?_
 refine Zy ?_
 refine Zq (Zq (Zr ?_))
 refine Zm ?_
 refine Zu (q_lnm Sv.l (s := l_0) Tryz.underlying313 rfl) ?_
 refine Zy ?_
 refine Zb ?_
 refine VC.iter (S := Int × List Str) (fun sg => (sg.1, sg.2)) (fun sg => [(3, .map (some b8_1)), (9, l_0.val), (10, i64 ((l_0.l.map Sv.l).length : Int)), (11, i64 sg.1)]) (fun sg => Mo.tt) (fun sg => Ow.star (MpK Tryz.prog 9 4 b8_1 sg.2) (Ow.emp)) (0, ([] : List Str)) [3, 9, 10, 11] hS rfl ?_
 clear hS
 rintro ⟨x11_2, acc_3⟩ m1 y1 hS hK1
 refine Zq (Zr ?_)
 refine Zu (q_lss rfl rfl) ?_
 refine Zl ?_
 refine Zq ?_
 refine Zc hS (fun h12 hS => ?_) (fun h12 hS => ?_)
 ·
  refine Zk ?_
  refine Zq (Zb (Zq (Zr ?_)))
  obtain ⟨z13_4, nz13_4, hz13_4, hS⟩ := atm_s hS
  refine VL.deep z13_4.ok hz13_4 (fun _ q => q) ?_
  refine Zu (q_ixm (s := l_0) Tryz.underlying313 gsz24 rfl rfl nz13_4 (lt_of_get nz13_4 hz13_4)) ?_
  refine Zu (q_el (s := l_0) gone24 rfl hz13_4 rfl) ?_
  refine Zy ?_
  refine Zq (Zr ?_)
  refine Zm ?_
  refine Zu (q_ln (s := z13_4) Tryz.underlying24 rfl) ?_
  refine Zy ?_
  refine Zb ?_
  refine VC.iter (S := Int × List Str) (fun sg => (sg.1, sg.2)) (fun sg => [(3, .map (some b8_1)), (9, l_0.val), (10, i64 ((l_0.l.map Sv.l).length : Int)), (11, i64 x11_2), (15, z13_4.val), (16, i64 (z13_4.l.length : Int)), (17, i64 sg.1)]) (fun sg => Mo.tt) (fun sg => Ow.star (MpK Tryz.prog 9 4 b8_1 sg.2) (Ow.emp)) (0, acc_3) [3, 9, 10, 11, 15, 16, 17] hS rfl ?_
  clear hS
  rintro ⟨x17_5, acc_6⟩ m2 y2 hS hK2
  refine Zq (Zr ?_)
  refine Zu (q_lss rfl rfl) ?_
  refine Zl ?_
  refine Zq ?_
  refine Zc hS (fun h18 hS => ?_) (fun h18 hS => ?_)
  ·
   refine Zk ?_
   refine Zq (Zb (Zq (Zr ?_)))
   obtain ⟨z19_7, nz19_7, hz19_7, hS⟩ := at_s hS
   refine Zu (q_ixm (s := z13_4) Tryz.underlying24 gsz75 rfl rfl nz19_7 (lt_of_get nz19_7 hz19_7)) ?_
   refine Zu (q_els (s := z13_4) gagg75 rfl rfl hz19_7) ?_
   refine VL.alloc (cs := [str [], i64 0, str []]) (by kernel_rfl) (by decide) fun b7_8 => ?_
   refine Zv (vc := [str z19_7.path, i64 z19_7.mode, str z19_7.data]) (cs' := [str z19_7.path, i64 z19_7.mode, str z19_7.data]) rfl gsz75 ?_
   refine Zl ?_
   refine Zr ?_
   refine Zm ?_
   refine Zu (q_field gfa75_0 rfl) ?_
   refine Zu (q_fe gone9 rfl rfl) ?_
   obtain ⟨bs3, hS⟩ := gd_s hS
   refine VL.mapset (b := b8_1) (l := acc_6) (s := z19_7.path) Tryz.underlying9 Tryz.underlying4 Tryz.underlying314 Fo.out rfl rfl rfl bs3 ?_
   obtain ⟨accs3_9, eaccs3_9, hS⟩ := lt_s hS
   rw [eaccs3_9]
   refine Zl ?_
   refine VC.keep (ρ' := [(3, .map (some b8_1)), (9, l_0.val), (10, i64 ((l_0.l.map Sv.l).length : Int)), (11, i64 x11_2), (15, z13_4.val), (16, i64 (z13_4.l.length : Int)), (17, i64 x17_5)]) [3, 9, 10, 11, 15, 16, 17] rfl ?_
   refine Zr ?_
   obtain ⟨b24, hS⟩ := gd_s hS
   refine Zu (q_add rfl rfl b24) ?_
   refine Zm ?_
   refine VL.rnd ((x17_5 + 1), accs3_9) [3, 9, 10, 11, 15, 16, 17] (fun _ _ h => h) (go2 hS hK2) rfl
  replace hS := up2 hS hK2
  refine Zx ?_
  refine Zr ?_
  obtain ⟨b25, hS⟩ := gd_s hS
  refine Zu (q_add rfl rfl b25) ?_
  refine Zm ?_
  refine VL.rnd ((x11_2 + 1), acc_6) [3, 9, 10, 11] (fun _ _ h => h) (go2 hS hK1) rfl
 replace hS := up2 hS hK1
 refine Zx ?_
 refine Zq (Zr ?_)
 refine Zm ?_
 refine VL.callO (Ct.mapKeys (b := b8_1) (entry_of Tryz.func261 rfl (by kernel_rfl)) Tryz.mapsKeys_261) rfl (by decide) ?_
 intro B27_10 _
 try dsimp only
 obtain ⟨b28, hS⟩ := gd_s hS
 refine VL.callO (Ct.sortedKeys (it := 302) (T := 314) (b := b8_1) (B := B27_10) (e := 4) (l := acc_3) (entry_of Tryz.func260 rfl (by kernel_rfl)) Tryz.underlying9 (fun D0 nn W h1 h2 h3 h4 h5 => Tryz.sortedKeys_260_261 B27_10 b8_1 nn D0 _ W h1 h2 h3 h4 h5) b28) rfl (by decide) ?_
 intro s28_11 hs28_11
 try dsimp only
 replace hS := lt_to hs28_11 hS
 refine VL.shut s28_11 9 (fun _ _ _ _ => trivial) ?_
 obtain ⟨y29_13, ey29_13, hS⟩ := bd_s hS
 refine VL.callF (slices_Clip_string_string_ct s28_11 ey29_13) rfl (by decide) ?_
 rintro q29_13_0 rfl
 try dsimp only
 refine Zy ?_
 cases hS
 exact VC.ret (fin1 (.inr rfl) rfl rfl q29_13_0 rfl rfl (by (try dsimp only); exact InM.out) (fun _ _ => trivial))
theorem plan_touched_ct (head_0 : Sv FilesFile) (r_1 : TmergeResult) {r : List Str} (hS : Sh.plan_touched head_0.l r_1.pl = some r) :
 Ct Tryz.prog 326 [head_0.val, .agg #[r_1.files.val, r_1.entries.val, r_1.conflicts.val]] (head_0.ok.and (r_1.files.ok.and (r_1.entries.ok.and r_1.conflicts.ok))) (Ow.emp) (X := Sv Str) (fun x => x.val) (fun x => r = x.l) (fun x => Mo.tt) (fun x => Sv.own x 9) := by
 refine Zo Tryz.func326 Tryz.ntmps326 fun c => ?_
 unfold Sh.plan_touched at hS
 refine Zq (Zr ?_)
 refine VL.box (cs := [r_1.files.val, r_1.entries.val, r_1.conflicts.val]) rfl rfl (by decide) fun b3_1 => ?_
 refine Zy ?_
 refine Zq (Zr ?_)
 refine Zy ?_
 refine Zq (Zq (Zr ?_))
 refine Zm ?_
 refine Zu (q_field gfa268_0 rfl) ?_
 refine Zu (q_fe gone24 rfl rfl) ?_
 refine VL.lit (α := Sv FilesFile) (xs := [.tmp 8, .tmp 10]) (vs := [head_0.val, r_1.files.val]) [head_0, r_1.files] Tryz.underlying313 glit24 (by decide) rfl rfl rfl rfl (by decide) (fun h m => List.forall_mem_cons.2 ⟨InM.out (X := head_0.ok) h m, List.forall_mem_cons.2 ⟨InM.out (X := r_1.files.ok) h m, fun _ h => by cases h⟩⟩) (by decide) (fun s11_2 hs11_2 => ?_) (by decide)
 replace hS := lt_to (congrArg (List.map Sv.l) hs11_2) hS
 obtain ⟨y12_4, ey12_4, hS⟩ := bd_s hS
 refine VL.callF (files_Paths_ct s11_2 ey12_4) rfl (by decide) ?_
 rintro q12_4_0 rfl
 try dsimp only
 refine Zu (q_ln (s := q12_4_0) Tryz.underlying37 rfl) ?_
 refine Zy ?_
 refine Zb ?_
 refine VC.nilO (⟨none, 0, []⟩ : Sv Str) 9 ⟨rfl, rfl⟩ ?_
 refine VC.iter (S := Sv Str × Int) (fun sg => (sg.1.l, sg.2)) (fun sg => [(0, head_0.val), (3, ptr b3_1 0), (5, sg.1.val), (12, q12_4_0.val), (13, i64 (q12_4_0.l.length : Int)), (14, i64 sg.2)]) (fun sg => Mo.tt) (fun sg => Ow.star (Blk b3_1 [r_1.files.val, r_1.entries.val, r_1.conflicts.val] 268) (Ow.star (Sv.own sg.1 9) (Ow.emp))) (⟨none, 0, []⟩, 0) [0, 3, 5, 12, 13, 14] hS rfl ?_
 clear hS
 rintro ⟨out5_5, x14_6⟩ m1 y1 hS hK1
 refine Zq (Zr ?_)
 refine Zu (q_lss rfl rfl) ?_
 refine Zl ?_
 refine Zq ?_
 refine Zc hS (fun h15 hS => ?_) (fun h15 hS => ?_)
 ·
  refine Zk ?_
  refine Zq (Zb (Zq (Zr ?_)))
  obtain ⟨z16_7, nz16_7, hz16_7, hS⟩ := at_s hS
  refine Zu (q_ixm (s := q12_4_0) Tryz.underlying37 gsz9 rfl rfl nz16_7 (lt_of_get nz16_7 hz16_7)) ?_
  refine Zu (q_el (s := q12_4_0) gone9 rfl hz16_7 rfl) ?_
  refine Zy ?_
  refine Zq ?_
  refine VC.draw ((List.range 8).map fun k => (k, true)) mixed (by kernel_rfl) (by kernel_rfl) (by kernel_rfl) ?_
  refine Zw rfl (q_move rfl) ?_
  refine Zw rfl (q_move rfl) ?_
  obtain ⟨y20_8, ey20_8, hS⟩ := bd_s hS
  refine Zw rfl (q_call (plan_of_ct head_0 z16_7 ey20_8) rfl (fun _ _ => rfl)) ?_
  refine Zw rfl (q_field gfa268_0 rfl) ?_
  refine Zw rfl (q_fe gone24 rfl rfl) ?_
  refine Zw rfl (q_move rfl) ?_
  obtain ⟨y24_9, ey24_9, hS⟩ := bd_s hS
  refine Zw rfl (q_call (plan_of_ct r_1.files z16_7 ey24_9) rfl (fun _ _ => rfl)) ?_
  refine Zw rfl (q_stneq geqg329 (geqs329 y20_8.file_path y20_8.file_mode y20_8.file_data y20_8.is y24_9.file_path y24_9.file_mode y24_9.file_data y24_9.is) rfl rfl) ?_
  refine VD.to (fun _ _ h => h) ?_
  refine VC.keep (ρ' := [(0, head_0.val), (3, ptr b3_1 0), (5, out5_5.val), (12, q12_4_0.val), (13, i64 (q12_4_0.l.length : Int)), (14, i64 x14_6), (7, str z16_7), (25, .bool (!decide (y20_8.file_path = y24_9.file_path ∧ y20_8.file_mode = y24_9.file_mode ∧ y20_8.file_data = y24_9.file_data ∧ y20_8.is = y24_9.is)))]) [0, 3, 5, 12, 13, 14, 7, 25] rfl ?_
  refine Zcn hS (fun h25 hS => ?_) (fun h25 hS => ?_)
  ·
   refine Zr ?_
   refine Zy ?_
   refine VL.lit (α := Str) (xs := [.tmp 27]) (vs := [str z16_7]) [z16_7] Tryz.underlying37 glit9 (by decide) rfl rfl rfl rfl (by decide) (fun _ _ _ _ => trivial) (by decide) (fun s28_10 hs28_10 => ?_) (by decide)
   replace hS := lt_to hs28_10 hS
   obtain ⟨b29, hS⟩ := gd_s hS
   refine VL.app (s := out5_5) (r := s28_10) Tryz.underlying37 gapp9 (by decide) rfl Fo.out (ap1 b29) (ap2 b29 (by decide)) (by decide) (fun s29_12 hs29_12 => ?_)
   replace hS := lt_to hs29_12 hS
   refine Zy ?_
   refine Zr ?_
   obtain ⟨b30, hS⟩ := gd_s hS
   refine Zu (q_add rfl rfl b30) ?_
   refine Zm ?_
   refine VL.rnd (s29_12, (x14_6 + 1)) [0, 3, 5, 12, 13, 14] (fun _ _ h => h) (go2 hS hK1) rfl
  refine Zk ?_
  refine Zr ?_
  obtain ⟨b30, hS⟩ := gd_s hS
  refine Zu (q_add rfl rfl b30) ?_
  refine Zm ?_
  refine VL.rnd (out5_5, (x14_6 + 1)) [0, 3, 5, 12, 13, 14] (fun _ _ h => h) (go2 hS hK1) rfl
 replace hS := up2 hS hK1
 refine Zx ?_
 refine Zq (Zr ?_)
 refine Zm ?_
 refine Zu (q_field gfa268_2 rfl) ?_
 refine Zu (q_fe gone37 rfl rfl) ?_
 obtain ⟨b34, hS⟩ := gd_s hS
 refine VL.app (s := out5_5) (r := r_1.conflicts) Tryz.underlying37 gapp9 (by decide) rfl Fo.out (ap1 b34) (ap2 b34 (by decide)) (by decide) (fun s34_14 hs34_14 => ?_)
 replace hS := lt_to hs34_14 hS
 refine Zy ?_
 refine VC.keep (ρ' := [(5, s34_14.val)]) [5] rfl ?_
 refine Zq (Zr ?_)
 refine Zm ?_
 obtain ⟨b36, hS⟩ := gd_s hS
 refine VL.callO (sort202_ct s34_14 b36) rfl (by decide) ?_
 rintro w36_16 ⟨hw36_16, vw36_16⟩
 try dsimp only
 rw [← vw36_16]
 replace hS := lt_to hw36_16 hS
 refine Zl ?_
 refine Zq (Zr ?_)
 refine Zm ?_
 obtain ⟨b38, hS⟩ := gd_s hS
 refine VL.callO (compact203_ct w36_16 b38) rfl (by decide) ?_
 rintro w38_18 hw38_18
 try dsimp only
 replace hS := lt_to hw38_18 hS
 refine Zy ?_
 cases hS
 exact VC.ret (fin1 (.inr rfl) rfl rfl w38_18 rfl rfl (by (try dsimp only); exact InM.out) (by (try dsimp only); exact EntO.out))
theorem slices_Contains_string_string_ct (s_0 : Sv Str) (v_1 : Str) {r : Bool} (hS : Sh.slices_Contains_string_string s_0.l v_1 = some r) :
 Ct Tryz.prog 235 [s_0.val, str v_1] s_0.ok (Ow.emp) (X := Unit) (fun _ => .bool r) (fun _ => True) (fun _ => Mo.tt) (fun _ => Ow.emp) := by
 refine Zo Tryz.func235 Tryz.ntmps235 fun c => ?_
 unfold Sh.slices_Contains_string_string at hS
 refine Zq (Zr ?_)
 refine Zy ?_
 refine Zq (Zr ?_)
 refine Zy ?_
 obtain ⟨y7_1, ey7_1, hS⟩ := bd_s hS
 refine Zu (q_call (slices_Index_string_string_ct s_0 v_1 ey7_1) rfl (fun _ _ => rfl)) ?_
 refine Zu (q_geq rfl rfl) ?_
 refine Zy ?_
 cases hS
 exact Ze
theorem plan_safe_ct (head_0 : Sv FilesFile) (ix_1 : Sv IndexEntry) (work_2 : Sv FilesFile) (p_3 : Str) {r : Bool} (hS : Sh.plan_safe head_0.l ix_1.l work_2.l p_3 = some r) :
 Ct Tryz.prog 347 [head_0.val, ix_1.val, work_2.val, str p_3] (head_0.ok.and (ix_1.ok.and work_2.ok)) (Ow.emp) (X := Unit) (fun _ => .bool r) (fun _ => True) (fun _ => Mo.tt) (fun _ => Ow.emp) := by
 refine Zo Tryz.func347 Tryz.ntmps347 fun c => ?_
 unfold Sh.plan_safe at hS
 refine Zq (Zr ?_)
 refine Zy ?_
 refine Zq (Zr ?_)
 refine Zm ?_
 obtain ⟨y11_1, ey11_1, hS⟩ := bd_s hS
 refine VL.callF (index_Stage_ct ix_1 0 ey11_1) rfl (by decide) ?_
 rintro q11_1_0 rfl
 try dsimp only
 refine Zm ?_
 obtain ⟨y13_2, ey13_2, hS⟩ := bd_s hS
 refine Zu (q_call (plan_of_ct q11_1_0 p_3 ey13_2) rfl (fun _ _ => rfl)) ?_
 refine VL.alloc (cs := [str [], i64 0, str [], .bool false]) (by kernel_rfl) (by decide) fun b9_3 => ?_
 refine Zv (vc := [str y13_2.file_path, i64 y13_2.file_mode, str y13_2.file_data, .bool y13_2.is]) (cs' := [str y13_2.file_path, i64 y13_2.file_mode, str y13_2.file_data, .bool y13_2.is]) rfl gsz329 ?_
 refine Zl ?_
 refine Zq ?_
 refine VC.draw [(0, true), (1, true), (2, true), (3, true), (4, true), (5, true), (6, true), (7, true), (8, true), (9, true), (10, true), (11, true), (12, true), (13, true), (15, true), (14, false), (16, true), (17, true), (18, true), (19, true)] mixed (by kernel_rfl) (by kernel_rfl) (by kernel_rfl) ?_
 refine Zw rfl (q_move rfl) ?_
 refine Zw rfl (q_move rfl) ?_
 obtain ⟨y16_4, ey16_4, hS⟩ := bd_s hS
 refine Zw rfl (q_call (plan_of_ct work_2 p_3 ey16_4) rfl (fun _ _ => rfl)) ?_
 refine Zw rfl (q_fes gagg329 rfl rfl) ?_
 refine Zw rfl (q_steql geqg329 (geqs329 y16_4.file_path y16_4.file_mode y16_4.file_data y16_4.is y13_2.file_path y13_2.file_mode y13_2.file_data y13_2.is) rfl rfl) ?_
 refine Zw rfl (q_move rfl) ?_
 refine VD.split_dec 19 rfl (fun h19 => ?_) (fun h19 => ?_)
 ·
  replace hS := it_t h19 hS
  refine Zi rfl (q_fes gagg329 rfl rfl) ?_
  refine Zi rfl (q_move rfl) ?_
  refine Zi rfl (q_move rfl) ?_
  obtain ⟨y23_5, ey23_5, hS⟩ := bd_s hS
  refine Zi rfl (q_call (plan_of_ct head_0 p_3 ey23_5) rfl (fun _ _ => rfl)) ?_
  refine Zi rfl (q_steql geqg329 (geqs329 y13_2.file_path y13_2.file_mode y13_2.file_data y13_2.is y23_5.file_path y23_5.file_mode y23_5.file_data y23_5.is) rfl rfl) ?_
  refine Zw rfl (q_pick_t rfl rfl) ?_
  refine Zw rfl (q_move rfl) ?_
  refine VD.split_dec 26 rfl (fun h26 => ?_) (fun h26 => ?_)
  ·
   replace hS := it_t h26 hS
   refine Zi rfl (q_move rfl) ?_
   refine Zi rfl (q_move rfl) ?_
   refine VD.oneG rfl rfl rfl ?_
   refine VL.guard rfl rfl ?_
   obtain ⟨y28_6, ey28_6, hS⟩ := bd_s hS
   refine VL.callF (index_Conflicts_ct ix_1 ey28_6) rfl (by decide) ?_
   rintro q28_6_0 rfl
   try dsimp only
   refine VL.back (D' := [(15, str p_3)]) (by kernel_rfl) (Pend.consG rfl rfl rfl (q_move rfl) (Pend.nil)) ?_
   obtain ⟨y30_7, ey30_7, hS⟩ := bd_s hS
   refine Zi rfl (q_call (slices_Contains_string_string_ct q28_6_0 p_3 ey30_7) rfl (fun _ _ => rfl)) ?_
   refine Zi rfl (q_not rfl) ?_
   refine Zw rfl (q_pick_t rfl rfl) ?_
   refine Zw rfl (q_assign rfl) ?_
   refine VD.to (fun _ _ h => h) ?_
   refine VC.keep (ρ' := [(8, .bool (!y30_7))]) [8] rfl ?_
   cases hS
   exact Ze
  replace hS := it_f h26 hS
  refine Zd ?_
  refine Zd ?_
  refine VD.oneN (D' := [(15, undef)]) rfl rfl rfl (by decide) (by decide) (by kernel_rfl) (Pend.consN rfl rfl rfl rfl (Pend.nil)) ?_
  refine Zd ?_
  refine Zd ?_
  refine Zw rfl (q_pick_f rfl rfl) ?_
  refine Zw rfl (q_assign rfl) ?_
  refine VD.to (fun _ _ h => h) ?_
  refine VC.keep (ρ' := [(8, .bool false)]) [8] rfl ?_
  cases hS
  exact Ze
 replace hS := it_f h19 hS
 refine Zd ?_
 refine Zd ?_
 refine Zd ?_
 refine Zd ?_
 refine Zd ?_
 refine Zw rfl (q_pick_f rfl rfl) ?_
 refine Zw rfl (q_move rfl) ?_
 refine Zd ?_
 refine Zd ?_
 refine VD.oneN (D' := [(15, undef)]) rfl rfl rfl (by decide) (by decide) (by kernel_rfl) (Pend.consN rfl rfl rfl rfl (Pend.nil)) ?_
 refine Zd ?_
 refine Zd ?_
 refine Zw rfl (q_pick_f rfl rfl) ?_
 refine Zw rfl (q_assign rfl) ?_
 refine VD.to (fun _ _ h => h) ?_
 refine VC.keep (ρ' := [(8, .bool false)]) [8] rfl ?_
 cases hS
 exact Ze
theorem plan_Lost_1_ct (p_0 : Str) (a_1_b : Nat) (a_1 : TmergeResult) (a_2_b : Nat) (a_2 : FilesFile) {r : Bool} (hS : Sh.plan_Lost_1 p_0 a_1.pl a_2 = some r) :
 Ct Tryz.prog 349 [str p_0, ptr a_1_b 0, ptr a_2_b 0] (a_1.files.ok.and (a_1.entries.ok.and (a_1.conflicts.ok.and ((Cells a_1_b 0 [a_1.files.val, a_1.entries.val, a_1.conflicts.val]).and (Cells a_2_b 0 [str a_2.path, i64 a_2.mode, str a_2.data]))))) (Ow.emp) (X := Unit) (fun _ => .bool r) (fun _ => True) (fun _ => Mo.tt) (fun _ => Ow.emp) := by
 refine Zo Tryz.func349 Tryz.ntmps349 fun c => ?_
 unfold Sh.plan_Lost_1 at hS
 refine Zq (Zr ?_)
 refine Zy ?_
 refine Zq (Zr ?_)
 refine Zu (q_field gfa268_0 rfl) ?_
 refine Zu (q_fm gone24 rfl rfl) ?_
 refine Zm ?_
 obtain ⟨y8_1, ey8_1, hS⟩ := bd_s hS
 refine Zu (q_call (plan_of_ct a_1.files p_0 ey8_1) rfl (fun _ _ => rfl)) ?_
 refine Zu (q_fld Tryz.underlying329 rfl gone4 rfl rfl) ?_
 refine Zm ?_
 refine Zspb 10 hS (fun h10 hS => ?_) (fun h10 hS => ?_)
 ·
  refine Zg ?_
  refine Zh (q_field gfa75_0 rfl) ?_
  refine Zh (q_fm gone9 rfl rfl) ?_
  obtain ⟨y14_2, ey14_2, hS⟩ := bd_s hS
  refine Zh (q_call (path_Clash_ct p_0 a_2.path ey14_2) rfl (fun _ _ => rfl)) ?_
  refine Zy ?_
  refine VC.keep (ρ' := [(4, .bool y14_2)]) [4] rfl ?_
  cases hS
  exact Ze
 refine VL.skips 4 [14] (by kernel_rfl) ?_
 refine Zy ?_
 refine VC.keep (ρ' := [(4, .bool false)]) [4] rfl ?_
 cases hS
 exact Ze
theorem slices_IndexFunc_string_string_ct (s_0 : Sv Str) (f_1_0_b : Nat) (f_1_0 : TmergeResult) (f_1_1_b : Nat) (f_1_1 : FilesFile) {r : Int} (hS : Sh.slices_IndexFunc_string_string s_0.l f_1_0.pl f_1_1 = some r) :
 Ct Tryz.prog 359 [s_0.val, .func (.func 349) #[] #[ptr f_1_0_b 0, ptr f_1_1_b 0]] (s_0.ok.and (f_1_0.files.ok.and (f_1_0.entries.ok.and (f_1_0.conflicts.ok.and ((Cells f_1_0_b 0 [f_1_0.files.val, f_1_0.entries.val, f_1_0.conflicts.val]).and (Cells f_1_1_b 0 [str f_1_1.path, i64 f_1_1.mode, str f_1_1.data])))))) (Ow.emp) (X := Unit) (fun _ => i64 r) (fun _ => True) (fun _ => Mo.tt) (fun _ => Ow.emp) := by
 refine Zo Tryz.func359 Tryz.ntmps359 fun c => ?_
 unfold Sh.slices_IndexFunc_string_string at hS
 refine Zq (Zr ?_)
 refine Zy ?_
 refine Zq (Zq (Zr ?_))
 refine Zm ?_
 refine Zu (q_ln (s := s_0) Tryz.underlying37 rfl) ?_
 refine Zy ?_
 refine Zb ?_
 refine VC.iter (S := Int) (fun (x8_1 : Int) => x8_1) (fun (x8_1 : Int) => [(0, s_0.val), (1, .func (.func 349) #[] #[ptr f_1_0_b 0, ptr f_1_1_b 0]), (7, i64 (s_0.l.length : Int)), (8, i64 x8_1)]) (fun (x8_1 : Int) => Mo.tt) (fun (x8_1 : Int) => Ow.emp) 0 [0, 1, 7, 8] hS rfl ?_
 clear hS
 rintro x8_1 m1 y1 hS hK1
 refine Zq (Zr ?_)
 refine Zu (q_lss rfl rfl) ?_
 refine Zl ?_
 refine Zq ?_
 refine Zc hS (fun h9 hS => ?_) (fun h9 hS => ?_)
 ·
  refine Zk ?_
  refine Zq (Zb (Zq (Zr ?_)))
  refine Zy ?_
  refine Zq (Zr ?_)
  refine Zy ?_
  obtain ⟨z14_2, nz14_2, hz14_2, hS⟩ := at_s hS
  refine Zu (q_ixm (s := s_0) Tryz.underlying37 gsz9 rfl rfl nz14_2 (lt_of_get nz14_2 hz14_2)) ?_
  refine Zu (q_el (s := s_0) gone9 rfl hz14_2 rfl) ?_
  obtain ⟨y16_3, ey16_3, hS⟩ := bd_s hS
  refine Zu (q_callVC (vs := [str z14_2]) (caps := [ptr f_1_0_b 0, ptr f_1_1_b 0]) (plan_Lost_1_ct z14_2 f_1_0_b f_1_0 f_1_1_b f_1_1 ey16_3) rfl rfl (fun _ _ => rfl)) ?_
  refine Zl ?_
  refine VC.keep (ρ' := [(0, s_0.val), (1, .func (.func 349) #[] #[ptr f_1_0_b 0, ptr f_1_1_b 0]), (7, i64 (s_0.l.length : Int)), (8, i64 x8_1), (5, i64 x8_1), (16, .bool y16_3)]) [0, 1, 7, 8, 5, 16] rfl ?_
  refine Zcb hS (fun h16 hS => ?_) (fun h16 hS => ?_)
  ·
   refine Zq (Zr ?_)
   refine Zy ?_
   replace hS := up2 hS hK1
   cases hS
   exact Ze
  refine Zk ?_
  refine Zr ?_
  obtain ⟨b18, hS⟩ := gd_s hS
  refine Zu (q_add rfl rfl b18) ?_
  refine Zm ?_
  refine VL.rnd (x8_1 + 1) [0, 1, 7, 8] (fun _ _ h => h) (go2 hS hK1) rfl
 replace hS := up2 hS hK1
 refine Zx ?_
 refine Zq (Zr ?_)
 refine Zy ?_
 cases hS
 exact Ze
theorem slices_ContainsFunc_string_string_ct (s_0 : Sv Str) (f_1_0_b : Nat) (f_1_0 : TmergeResult) (f_1_1_b : Nat) (f_1_1 : FilesFile) {r : Bool} (hS : Sh.slices_ContainsFunc_string_string s_0.l f_1_0.pl f_1_1 = some r) :
 Ct Tryz.prog 348 [s_0.val, .func (.func 349) #[] #[ptr f_1_0_b 0, ptr f_1_1_b 0]] (s_0.ok.and (f_1_0.files.ok.and (f_1_0.entries.ok.and (f_1_0.conflicts.ok.and ((Cells f_1_0_b 0 [f_1_0.files.val, f_1_0.entries.val, f_1_0.conflicts.val]).and (Cells f_1_1_b 0 [str f_1_1.path, i64 f_1_1.mode, str f_1_1.data])))))) (Ow.emp) (X := Unit) (fun _ => .bool r) (fun _ => True) (fun _ => Mo.tt) (fun _ => Ow.emp) := by
 refine Zo Tryz.func348 Tryz.ntmps348 fun c => ?_
 unfold Sh.slices_ContainsFunc_string_string at hS
 refine Zq (Zr ?_)
 refine Zy ?_
 refine Zq (Zr ?_)
 refine Zy ?_
 obtain ⟨y7_1, ey7_1, hS⟩ := bd_s hS
 refine Zu (q_callR (slices_IndexFunc_string_string_ct s_0 f_1_0_b f_1_0 f_1_1_b f_1_1 ey7_1) rfl (fun _ _ => rfl)) ?_
 refine Zu (q_geq rfl rfl) ?_
 refine Zy ?_
 cases hS
 exact Ze
theorem plan_Lost_ct (head_0 : Sv FilesFile) (r_1 : TmergeResult) (ix_2 : Sv IndexEntry) (work_3 : Sv FilesFile) {r : List Str} (hS : Sh.plan_Lost head_0.l r_1.pl ix_2.l work_3.l = some r) :
 Ct Tryz.prog 325 [head_0.val, .agg #[r_1.files.val, r_1.entries.val, r_1.conflicts.val], ix_2.val, work_3.val] (head_0.ok.and (r_1.files.ok.and (r_1.entries.ok.and (r_1.conflicts.ok.and (ix_2.ok.and work_3.ok))))) (Ow.emp) (X := Sv Str) (fun x => x.val) (fun x => r = x.l) (fun x => x.ok) (fun x => Ow.emp) := by
 refine Zo Tryz.func325 Tryz.ntmps325 fun c => ?_
 unfold Sh.plan_Lost at hS
 refine Zq (Zr ?_)
 refine VL.box (cs := [r_1.files.val, r_1.entries.val, r_1.conflicts.val]) rfl rfl (by decide) fun b5_1 => ?_
 refine Zy ?_
 refine Zq (Zr ?_)
 refine Zm ?_
 refine Zu (q_fes gagg268 rfl rfl) ?_
 obtain ⟨y17_2, ey17_2, hS⟩ := bd_s hS
 refine VL.callO (plan_touched_ct head_0 r_1 ey17_2) rfl (by decide) ?_
 rintro q17_2_0 rfl
 try dsimp only
 refine Zy ?_
 refine Zq (Zr ?_)
 refine Zy ?_
 refine Zq (Zq (Zr ?_))
 refine Zm ?_
 refine Zu (q_ln (s := q17_2_0) Tryz.underlying37 rfl) ?_
 refine Zy ?_
 refine Zb ?_
 refine VC.nilO (⟨none, 0, []⟩ : Sv Str) 9 ⟨rfl, rfl⟩ ?_
 refine VC.iter (S := Sv Str × Int) (fun sg => (sg.1.l, sg.2)) (fun sg => [(0, head_0.val), (2, ix_2.val), (3, work_3.val), (5, ptr b5_1 0), (9, q17_2_0.val), (10, sg.1.val), (18, q17_2_0.val), (19, i64 (q17_2_0.l.length : Int)), (20, i64 sg.2)]) (fun sg => Mo.tt) (fun sg => Ow.star (Blk b5_1 [r_1.files.val, r_1.entries.val, r_1.conflicts.val] 268) (Ow.star (Sv.own q17_2_0 9) (Ow.star (Sv.own sg.1 9) (Ow.emp)))) (⟨none, 0, []⟩, 0) [0, 2, 3, 5, 9, 10, 18, 19, 20] hS rfl ?_
 clear hS
 rintro ⟨out10_3, x20_4⟩ m1 y1 hS hK1
 refine Zq (Zr ?_)
 refine Zu (q_lss rfl rfl) ?_
 refine Zl ?_
 refine Zq ?_
 refine Zc hS (fun h21 hS => ?_) (fun h21 hS => ?_)
 ·
  refine Zk ?_
  refine Zq (Zb (Zq (Zr ?_)))
  obtain ⟨z22_5, nz22_5, hz22_5, hS⟩ := at_s hS
  refine Zu (q_ixo (s := q17_2_0) Tryz.underlying37 gsz9 rfl rfl nz22_5 (lt_of_get nz22_5 hz22_5)) ?_
  refine Zu (q_elo (s := q17_2_0) 9 gone9 rfl hz22_5 rfl) ?_
  refine Zy ?_
  refine Zq (Zr ?_)
  refine Zy ?_
  obtain ⟨y28_6, ey28_6, hS⟩ := bd_s hS
  refine Zu (q_call (plan_safe_ct head_0 ix_2 work_3 z22_5 ey28_6) rfl (fun _ _ => rfl)) ?_
  refine Zu (q_not rfl) ?_
  refine Zl ?_
  refine VC.keep (ρ' := [(0, head_0.val), (2, ix_2.val), (3, work_3.val), (5, ptr b5_1 0), (9, q17_2_0.val), (10, out10_3.val), (18, q17_2_0.val), (19, i64 (q17_2_0.l.length : Int)), (20, i64 x20_4), (12, str z22_5), (29, .bool (!y28_6))]) [0, 2, 3, 5, 9, 10, 18, 19, 20, 12, 29] rfl ?_
  refine Zcb hS (fun h29 hS => ?_) (fun h29 hS => ?_)
  ·
   refine Zr ?_
   refine Zy ?_
   refine VL.lit (α := Str) (xs := [.tmp 31]) (vs := [str z22_5]) [z22_5] Tryz.underlying37 glit9 (by decide) rfl rfl rfl rfl (by decide) (fun _ _ _ _ => trivial) (by decide) (fun s32_7 hs32_7 => ?_) (by decide)
   replace hS := lt_to hs32_7 hS
   obtain ⟨b33, hS⟩ := gd_s hS
   refine VL.app (s := out10_3) (r := s32_7) Tryz.underlying37 gapp9 (by decide) rfl Fo.out (ap1 b33) (ap2 b33 (by decide)) (by decide) (fun s33_9 hs33_9 => ?_)
   replace hS := lt_to hs33_9 hS
   refine Zy ?_
   refine Zr ?_
   obtain ⟨b34, hS⟩ := gd_s hS
   refine Zu (q_add rfl rfl b34) ?_
   refine Zm ?_
   refine VL.rnd (s33_9, (x20_4 + 1)) [0, 2, 3, 5, 9, 10, 18, 19, 20] (fun _ _ h => h) (go2 hS hK1) rfl
  refine Zk ?_
  refine Zr ?_
  obtain ⟨b34, hS⟩ := gd_s hS
  refine Zu (q_add rfl rfl b34) ?_
  refine Zm ?_
  refine VL.rnd (out10_3, (x20_4 + 1)) [0, 2, 3, 5, 9, 10, 18, 19, 20] (fun _ _ h => h) (go2 hS hK1) rfl
 replace hS := up2 hS hK1
 refine Zx ?_
 refine Zq (Zq (Zr ?_))
 refine Zm ?_
 refine Zu (q_ln (s := work_3) Tryz.underlying24 rfl) ?_
 refine Zy ?_
 refine VC.keep (ρ' := [(5, ptr b5_1 0), (9, q17_2_0.val), (10, out10_3.val), (35, work_3.val), (36, i64 (work_3.l.length : Int)), (37, i64 0)]) [5, 9, 10, 35, 36, 37] rfl ?_
 refine Zb ?_
 refine VC.iter (S := Int) (fun (x37_11 : Int) => x37_11) (fun (x37_11 : Int) => [(5, ptr b5_1 0), (9, q17_2_0.val), (10, out10_3.val), (35, work_3.val), (36, i64 (work_3.l.length : Int)), (37, i64 x37_11)]) (fun (x37_11 : Int) => Mo.tt) (fun (x37_11 : Int) => Ow.star (Blk b5_1 [r_1.files.val, r_1.entries.val, r_1.conflicts.val] 268) (Ow.star (Sv.own q17_2_0 9) (Ow.star (Sv.own out10_3 9) (Ow.emp)))) 0 [5, 9, 10, 35, 36, 37] hS rfl ?_
 clear hS
 rintro x37_11 m1 y1 hS hK1
 refine Zq (Zr ?_)
 refine Zu (q_lss rfl rfl) ?_
 refine Zl ?_
 refine Zq ?_
 refine Zc hS (fun h38 hS => ?_) (fun h38 hS => ?_)
 ·
  refine Zk ?_
  refine Zq (Zb (Zq (Zr ?_)))
  obtain ⟨z39_12, nz39_12, hz39_12, hS⟩ := at_s hS
  refine Zu (q_ixm (s := work_3) Tryz.underlying24 gsz75 rfl rfl nz39_12 (lt_of_get nz39_12 hz39_12)) ?_
  refine Zu (q_els (s := work_3) gagg75 rfl rfl hz39_12) ?_
  refine VL.alloc (cs := [str [], i64 0, str []]) (by kernel_rfl) (by decide) fun b14_13 => ?_
  refine Zv (vc := [str z39_12.path, i64 z39_12.mode, str z39_12.data]) (cs' := [str z39_12.path, i64 z39_12.mode, str z39_12.data]) rfl gsz75 ?_
  refine Zl ?_
  refine VC.cutJ (S := Unit) (fun (_ : Unit) => ()) (fun (_ : Unit) => [(5, ptr b5_1 0), (9, q17_2_0.val), (10, out10_3.val), (14, ptr b14_13 0), (35, work_3.val), (36, i64 (work_3.l.length : Int)), (37, i64 x37_11)]) (fun (_ : Unit) => Mo.tt) (fun (_ : Unit) => Ow.star (Blk b14_13 [str z39_12.path, i64 z39_12.mode, str z39_12.data] 75) (Ow.star (Blk b5_1 [r_1.files.val, r_1.entries.val, r_1.conflicts.val] 268) (Ow.star (Sv.own q17_2_0 9) (Ow.star (Sv.own out10_3 9) (Ow.emp))))) hS ?_ ?_
  ·
   clear hS
   intro k14 hS
   refine Zq (Zr ?_)
   refine Zm ?_
   refine Zu (q_field gfa75_0 rfl) ?_
   refine Zu (q_fe gone9 rfl rfl) ?_
   obtain ⟨y44_15, ey44_15, hS⟩ := bd_s hS
   refine Zu (q_callR (slices_Contains_string_string_ct q17_2_0 z39_12.path ey44_15) rfl (fun _ _ => rfl)) ?_
   refine Zm ?_
   refine Zspb 45 hS (fun h45 hS => ?_) (fun h45 hS => ?_)
   ·
    refine Zh (q_field gfa268_0 rfl) ?_
    refine Zh (q_fe gone24 rfl rfl) ?_
    refine Zh (q_field gfa75_0 rfl) ?_
    refine Zh (q_fe gone9 rfl rfl) ?_
    obtain ⟨y50_16, ey50_16, hS⟩ := bd_s hS
    refine Zh (q_call (plan_of_ct r_1.files z39_12.path ey50_16) rfl (fun _ _ => rfl)) ?_
    refine Zh (q_fld Tryz.underlying329 rfl gone4 rfl rfl) ?_
    refine Zh (q_not rfl) ?_
    refine Zy ?_
    refine VC.keep (ρ' := [(5, ptr b5_1 0), (9, q17_2_0.val), (10, out10_3.val), (35, work_3.val), (36, i64 (work_3.l.length : Int)), (37, i64 x37_11), (14, ptr b14_13 0), (53, .bool (!y50_16.is))]) [5, 9, 10, 35, 36, 37, 14, 53] rfl ?_
    refine Zcb hS (fun h53 hS => ?_) (fun h53 hS => ?_)
    ·
     refine Zx ?_
     refine Zr ?_
     obtain ⟨b62, hS⟩ := gd_s hS
     refine Zu (q_add rfl rfl b62) ?_
     refine Zm ?_
     refine VL.rnd (x37_11 + 1) [5, 9, 10, 35, 36, 37] (fun _ _ h => h) (go2 hS hK1) rfl
    refine VC.skip_mt () [5, 9, 10, 14, 35, 36, 37] (fun _ _ h => h) hS rfl
   refine VL.skips 7 [52] (by kernel_rfl) ?_
   refine Zy ?_
   refine VC.keep (ρ' := [(5, ptr b5_1 0), (9, q17_2_0.val), (10, out10_3.val), (35, work_3.val), (36, i64 (work_3.l.length : Int)), (37, i64 x37_11), (14, ptr b14_13 0), (53, .bool false)]) [5, 9, 10, 35, 36, 37, 14, 53] rfl ?_
   refine VC.cond_f rfl ?_
   refine VC.skip_mt () [5, 9, 10, 14, 35, 36, 37] (fun _ _ h => h) hS rfl
  clear hS
  rintro _ hS
  refine Zq (Zr ?_)
  refine Zm ?_
  refine Zu (q_mkfn rfl) ?_
  obtain ⟨y56_17, ey56_17, hS⟩ := bd_s hS
  refine Zu (q_callR (slices_ContainsFunc_string_string_ct q17_2_0 b5_1 r_1 b14_13 z39_12 ey56_17) rfl (fun _ _ => rfl)) ?_
  refine Zl ?_
  refine Zcb hS (fun h56 hS => ?_) (fun h56 hS => ?_)
  ·
   cases hS
  refine Zk ?_
  refine Zr ?_
  obtain ⟨b62, hS⟩ := gd_s hS
  refine Zu (q_add rfl rfl b62) ?_
  refine Zm ?_
  refine VL.rnd (x37_11 + 1) [5, 9, 10, 35, 36, 37] (fun _ _ h => h) (go2 hS hK1) rfl
 replace hS := up2 hS hK1
 refine Zx ?_
 refine Zq (Zr ?_)
 refine Zm ?_
 obtain ⟨b64, hS⟩ := gd_s hS
 refine VL.callO (sort202_ct out10_3 b64) rfl (by decide) ?_
 rintro w64_18 ⟨hw64_18, vw64_18⟩
 try dsimp only
 rw [← vw64_18]
 replace hS := lt_to hw64_18 hS
 refine Zl ?_
 refine Zq (Zr ?_)
 refine Zm ?_
 obtain ⟨b66, hS⟩ := gd_s hS
 refine VL.callO (compact203_ct w64_18 b66) rfl (by decide) ?_
 rintro w66_20 hw66_20
 try dsimp only
 replace hS := lt_to hw66_20 hS
 refine VL.shut w66_20 9 (fun _ _ _ _ => trivial) ?_
 obtain ⟨y67_22, ey67_22, hS⟩ := bd_s hS
 refine VL.callF (slices_Clip_string_string_ct w66_20 ey67_22) rfl (by decide) ?_
 rintro q67_22_0 rfl
 try dsimp only
 refine Zy ?_
 refine VC.keep (ρ' := [(8, q67_22_0.val)]) [8] rfl ?_
 cases hS
 exact VC.ret (fin1 (.inr rfl) rfl rfl q67_22_0 rfl rfl (by (try dsimp only); exact InM.out) (fun _ _ => trivial))
theorem index_Drop_1_ct (x_0 : IndexEntry) (a_1_b : Nat) (a_1 : Str) {r : Bool} (hS : Sh.index_Drop_1 x_0 a_1 = some r) :
 Ct Tryz.prog 200 [.agg #[str x_0.path, i64 x_0.stage, i64 x_0.mode, str x_0.data, i64 x_0.time, i64 x_0.size], ptr a_1_b 0] (Cells a_1_b 0 [str a_1]) (Ow.emp) (X := Unit) (fun _ => .bool r) (fun _ => True) (fun _ => Mo.tt) (fun _ => Ow.emp) := by
 refine Zo Tryz.func200 Tryz.ntmps200 fun c => ?_
 unfold Sh.index_Drop_1 at hS
 refine Zq (Zr ?_)
 refine VL.box (cs := [str x_0.path, i64 x_0.stage, i64 x_0.mode, str x_0.data, i64 x_0.time, i64 x_0.size]) rfl rfl (by decide) fun b2_1 => ?_
 refine Zy ?_
 refine Zq (Zr ?_)
 refine Zu (q_field gfa149_0 rfl) ?_
 refine Zu (q_fe gone9 rfl rfl) ?_
 refine Zu (q_fm gone9 rfl rfl) ?_
 refine Zy ?_
 cases hS
 exact Ze
theorem slices_IndexFunc_index_Entry_index_Entry_v2_ct (s_0 : Sv IndexEntry) (f_1_0_b : Nat) (f_1_0 : Str) {r : Int} (hS : Sh.slices_IndexFunc_index_Entry_index_Entry_v2 s_0.l f_1_0 = some r) :
 Ct Tryz.prog 262 [s_0.val, .func (.func 200) #[] #[ptr f_1_0_b 0]] (s_0.ok.and (Cells f_1_0_b 0 [str f_1_0])) (Ow.emp) (X := Unit) (fun _ => i64 r) (fun _ => True) (fun _ => Mo.tt) (fun _ => Ow.emp) := by
 refine Zo Tryz.func262 Tryz.ntmps262 fun c => ?_
 unfold Sh.slices_IndexFunc_index_Entry_index_Entry_v2 at hS
 refine Zq (Zr ?_)
 refine Zy ?_
 refine Zq (Zq (Zr ?_))
 refine Zm ?_
 refine Zu (q_ln (s := s_0) Tryz.underlying25 rfl) ?_
 refine Zy ?_
 refine Zb ?_
 refine VC.iter (S := Int) (fun (x8_1 : Int) => x8_1) (fun (x8_1 : Int) => [(0, s_0.val), (1, .func (.func 200) #[] #[ptr f_1_0_b 0]), (7, i64 (s_0.l.length : Int)), (8, i64 x8_1)]) (fun (x8_1 : Int) => Mo.tt) (fun (x8_1 : Int) => Ow.emp) 0 [0, 1, 7, 8] hS rfl ?_
 clear hS
 rintro x8_1 m1 y1 hS hK1
 refine Zq (Zr ?_)
 refine Zu (q_lss rfl rfl) ?_
 refine Zl ?_
 refine Zq ?_
 refine Zc hS (fun h9 hS => ?_) (fun h9 hS => ?_)
 ·
  refine Zk ?_
  refine Zq (Zb (Zq (Zr ?_)))
  refine Zy ?_
  refine Zq (Zr ?_)
  refine Zy ?_
  obtain ⟨z14_2, nz14_2, hz14_2, hS⟩ := at_s hS
  refine Zu (q_ixm (s := s_0) Tryz.underlying25 gsz149 rfl rfl nz14_2 (lt_of_get nz14_2 hz14_2)) ?_
  refine Zu (q_els (s := s_0) gagg149 rfl rfl hz14_2) ?_
  obtain ⟨y16_3, ey16_3, hS⟩ := bd_s hS
  refine Zu (q_callVC (vs := [.agg #[str z14_2.path, i64 z14_2.stage, i64 z14_2.mode, str z14_2.data, i64 z14_2.time, i64 z14_2.size]]) (caps := [ptr f_1_0_b 0]) (index_Drop_1_ct z14_2 f_1_0_b f_1_0 ey16_3) rfl rfl (fun _ _ => rfl)) ?_
  refine Zl ?_
  refine VC.keep (ρ' := [(0, s_0.val), (1, .func (.func 200) #[] #[ptr f_1_0_b 0]), (7, i64 (s_0.l.length : Int)), (8, i64 x8_1), (5, i64 x8_1), (16, .bool y16_3)]) [0, 1, 7, 8, 5, 16] rfl ?_
  refine Zcb hS (fun h16 hS => ?_) (fun h16 hS => ?_)
  ·
   refine Zq (Zr ?_)
   refine Zy ?_
   replace hS := up2 hS hK1
   cases hS
   exact Ze
  refine Zk ?_
  refine Zr ?_
  obtain ⟨b18, hS⟩ := gd_s hS
  refine Zu (q_add rfl rfl b18) ?_
  refine Zm ?_
  refine VL.rnd (x8_1 + 1) [0, 1, 7, 8] (fun _ _ h => h) (go2 hS hK1) rfl
 replace hS := up2 hS hK1
 refine Zx ?_
 refine Zq (Zr ?_)
 refine Zy ?_
 cases hS
 exact Ze
theorem slices_DeleteFunc_index_Entry_index_Entry_v2_ct (s_0 : Sv IndexEntry) (del_1_0_b : Nat) (del_1_0 : Str) {r : List IndexEntry} (hS : Sh.slices_DeleteFunc_index_Entry_index_Entry_v2 s_0.l del_1_0 = some r) :
 Ct Tryz.prog 198 [s_0.val, .func (.func 200) #[] #[ptr del_1_0_b 0]] Mo.tt (Ow.star (Sv.own s_0 149) (Blk del_1_0_b [str del_1_0] 9)) (X := Sv IndexEntry) (fun x => x.val) (fun x => r = x.l) (fun x => Mo.tt) (fun x => Ow.star (Sv.own x 149) (Blk del_1_0_b [str del_1_0] 9)) := by
 refine Zo Tryz.func198 Tryz.ntmps198 fun c => ?_
 unfold Sh.slices_DeleteFunc_index_Entry_index_Entry_v2 at hS
 refine Zq (Zr ?_)
 refine Zy ?_
 refine Zq (Zr ?_)
 refine Zy ?_
 obtain ⟨y10_1, ey10_1, hS⟩ := bd_s hS
 refine Zu (q_callR (slices_IndexFunc_index_Entry_index_Entry_v2_ct s_0 del_1_0_b del_1_0 ey10_1) rfl (fun _ _ => rfl)) ?_
 refine Zy ?_
 refine Zq (Zq (Zr ?_))
 refine Zm ?_
 refine Zu (q_eql rfl rfl) ?_
 refine Zl ?_
 refine Zc hS (fun h12 hS => ?_) (fun h12 hS => ?_)
 ·
  refine Zq (Zr ?_)
  refine Zy ?_
  cases hS
  exact VC.ret (fin1 (.inr rfl) rfl rfl s_0 rfl rfl (by (try dsimp only); exact InM.out) (by (try dsimp only); exact EntO.out))
 refine Zk ?_
 refine Zq (Zq (Zr ?_))
 refine Zm ?_
 obtain ⟨b15, hS⟩ := gd_s hS
 refine Zu (q_add rfl rfl b15) ?_
 refine Zy ?_
 refine VC.keep (ρ' := [(0, s_0.val), (1, .func (.func 200) #[] #[ptr del_1_0_b 0]), (5, i64 y10_1), (6, i64 (y10_1 + 1))]) [0, 1, 5, 6] rfl ?_
 refine Zb ?_
 refine VC.iter (S := Sv IndexEntry × Int × Int) (fun sg => (sg.1.l, sg.2.1, sg.2.2)) (fun sg => [(0, sg.1.val), (1, .func (.func 200) #[] #[ptr del_1_0_b 0]), (5, i64 sg.2.1), (6, i64 sg.2.2)]) (fun sg => Mo.tt) (fun sg => Ow.star (Blk del_1_0_b [str del_1_0] 9) (Ow.star (Sv.own sg.1 149) (Ow.emp))) (s_0, y10_1, (y10_1 + 1)) [0, 1, 5, 6] hS rfl ?_
 clear hS
 rintro ⟨s0_2, i5_3, j6_4⟩ m1 y1 hS hK1
 refine Zq (Zq (Zr ?_))
 refine Zy ?_
 refine Zu (q_ln (s := s0_2) Tryz.underlying25 rfl) ?_
 refine Zu (q_lss rfl rfl) ?_
 refine Zl ?_
 refine Zc hS (fun h19 hS => ?_) (fun h19 hS => ?_)
 ·
  refine Zk ?_
  refine VC.cutJ (S := Sv IndexEntry × Int) (fun sg => (sg.1.l, sg.2)) (fun sg => [(0, sg.1.val), (1, .func (.func 200) #[] #[ptr del_1_0_b 0]), (5, i64 sg.2), (6, i64 j6_4)]) (fun sg => Mo.tt) (fun sg => Ow.star (Blk del_1_0_b [str del_1_0] 9) (Ow.star (Sv.own sg.1 149) (Ow.emp))) hS ?_ ?_
  ·
   clear hS
   intro k7 hS
   refine Zb (Zq (Zr ?_))
   refine Zy ?_
   obtain ⟨z24_8, nz24_8, hz24_8, hS⟩ := at_s hS
   refine Zu (q_ixo (s := s0_2) Tryz.underlying25 gsz149 rfl rfl nz24_8 (lt_of_get nz24_8 hz24_8)) ?_
   refine Zu (q_elso (s := s0_2) gagg149 rfl rfl hz24_8) ?_
   refine VL.alloc (cs := [str [], i64 0, i64 0, str [], i64 0, i64 0]) (by kernel_rfl) (by decide) fun b7_9 => ?_
   refine Zv (vc := [str z24_8.path, i64 z24_8.stage, i64 z24_8.mode, str z24_8.data, i64 z24_8.time, i64 z24_8.size]) (cs' := [str z24_8.path, i64 z24_8.stage, i64 z24_8.mode, str z24_8.data, i64 z24_8.time, i64 z24_8.size]) rfl gsz149 ?_
   refine Zl ?_
   refine VC.keep (ρ' := [(0, s0_2.val), (1, .func (.func 200) #[] #[ptr del_1_0_b 0]), (5, i64 i5_3), (6, i64 j6_4), (7, ptr b7_9 0)]) [0, 1, 5, 6, 7] rfl ?_
   refine Zq (Zr ?_)
   refine Zm ?_
   refine Zu (q_fes gagg149 rfl rfl) ?_
   obtain ⟨y28_10, ey28_10, hS⟩ := bd_s hS
   refine Zu (q_callVC (vs := [.agg #[str z24_8.path, i64 z24_8.stage, i64 z24_8.mode, str z24_8.data, i64 z24_8.time, i64 z24_8.size]]) (caps := [ptr del_1_0_b 0]) (index_Drop_1_ct z24_8 del_1_0_b del_1_0 ey28_10) rfl rfl (fun _ _ => rfl)) ?_
   refine Zu (q_not rfl) ?_
   refine Zl ?_
   refine Zcb hS (fun h29 hS => ?_) (fun h29 hS => ?_)
   ·
    refine Zq (Zr ?_)
    refine Zy ?_
    refine Zu (q_fes gagg149 rfl rfl) ?_
    obtain ⟨z33_11, nz33_11, hz33_11, hS⟩ := at_s hS
    refine Zu (q_ixo (s := s0_2) Tryz.underlying25 gsz149 rfl rfl nz33_11 (lt_of_get nz33_11 hz33_11)) ?_
    refine VL.storeE (s := s0_2) (T := 149) (j := 0) (vc := [str z24_8.path, i64 z24_8.stage, i64 z24_8.mode, str z24_8.data, i64 z24_8.time, i64 z24_8.size]) (⟨z24_8.path, z24_8.stage, z24_8.mode, z24_8.data, z24_8.time, z24_8.size⟩ : IndexEntry) (by decide) rfl rfl hz33_11 rfl gsz149 rfl rfl (Nat.le_of_ble_eq_true rfl) rfl (fun w12 hw12 haw12 hcw12 hvw12 hbw12 how12 => ?_)
    rw [← hvw12]
    replace hS := lt_to hw12 hS
    refine Zl ?_
    refine VC.keep (ρ' := [(0, w12.val), (1, .func (.func 200) #[] #[ptr del_1_0_b 0]), (5, i64 i5_3), (6, i64 j6_4)]) [0, 1, 5, 6] rfl ?_
    refine Zr ?_
    refine Zm ?_
    obtain ⟨b35, hS⟩ := gd_s hS
    refine Zu (q_add rfl rfl b35) ?_
    refine Za ?_
    refine VL.mt (w12, (i5_3 + 1)) [0, 1, 5, 6] (fun _ _ h => h) hS rfl
   refine VC.skip_mt (s0_2, i5_3) [0, 1, 5, 6] (fun _ _ h => h) hS rfl
  clear hS
  rintro ⟨s0_5, i5_6⟩ hS
  refine Zr ?_
  refine Zm ?_
  obtain ⟨b21, hS⟩ := gd_s hS
  refine Zu (q_add rfl rfl b21) ?_
  refine Za ?_
  refine VL.rnd (s0_5, i5_6, (j6_4 + 1)) [0, 1, 5, 6] (fun _ _ h => h) (go2 hS hK1) rfl
 replace hS := up2 hS hK1
 refine Zx ?_
 refine Zq (Zr ?_)
 refine Zy ?_
 obtain ⟨b38, hS⟩ := gd_s hS
 refine VL.fits (s := s0_2) (e := 149) Fo.out fun f38_14 => ?_
 refine Zu (q_subv (s := s0_2) Tryz.underlying25 gsz149 rfl rfl b38.1 b38.2 f38_14) ?_
 refine VL.clrN (s := s0_2) (i := i5_3.toNat) (.agg #[str [], i64 0, i64 0, str [], i64 0, i64 0]) Tryz.underlying25 gzv149 rfl rfl rfl (by have := b38; dsimp only at this ⊢; omega) Fo.out fun ss3_15 hss3_15 vss3_15 => ?_
 replace hS := lt_to hss3_15 hS
 refine Zl ?_
 refine VC.keep (ρ' := [(0, s0_2.val), (5, i64 i5_3)]) [0, 5] rfl ?_
 refine Zq (Zr ?_)
 refine Zy ?_
 refine Zu (q_cutO (s := s0_2) (q := ss3_15) Tryz.underlying25 gsz149 rfl rfl b38.1 b38.2 f38_14 vss3_15) ?_
 refine Zy ?_
 cases hS
 exact VC.ret (fin1 (.inr rfl) rfl rfl ss3_15 rfl rfl (by (try dsimp only); exact InM.out) (by (try dsimp only); exact EntO.out))
theorem index_Drop_ct (l_0 : Sv IndexEntry) (p_1 : Str) {r : List IndexEntry} (hS : Sh.index_Drop l_0.l p_1 = some r) :
 Ct Tryz.prog 117 [l_0.val, str p_1] l_0.ok (Ow.emp) (X := Sv IndexEntry) (fun x => x.val) (fun x => r = x.l) (fun x => x.ok) (fun x => Ow.emp) := by
 refine Zo Tryz.func117 Tryz.ntmps117 fun c => ?_
 unfold Sh.index_Drop at hS
 refine Zq (Zr ?_)
 refine VL.box (cs := [str p_1]) rfl rfl (by decide) fun b3_1 => ?_
 refine Zy ?_
 refine Zq (Zr ?_)
 refine Zm ?_
 obtain ⟨y6_2, ey6_2, hS⟩ := bd_s hS
 refine VL.callO (slices_Clone_index_Entry_index_Entry_ct l_0 ey6_2) rfl (by decide) ?_
 rintro q6_2_0 rfl
 try dsimp only
 refine Zu (q_mkfn rfl) ?_
 obtain ⟨y8_3, ey8_3, hS⟩ := bd_s hS
 refine VL.callO (slices_DeleteFunc_index_Entry_index_Entry_v2_ct q6_2_0 b3_1 p_1 ey8_3) rfl (by decide) ?_
 rintro q8_3_0 rfl
 try dsimp only
 refine VL.shut q8_3_0 149 (fun _ _ _ _ => trivial) ?_
 obtain ⟨y9_4, ey9_4, hS⟩ := bd_s hS
 refine VL.callF (slices_Clip_index_Entry_index_Entry_ct q8_3_0 ey9_4) rfl (by decide) ?_
 rintro q9_4_0 rfl
 try dsimp only
 refine Zy ?_
 cases hS
 exact VC.ret (fin1 (.inr rfl) rfl rfl q9_4_0 rfl rfl (by (try dsimp only); exact InM.out) (fun _ _ => trivial))
theorem files_Row_Cut_1_ct (f_0 : FilesFile) (a_1_b : Nat) (a_1 : Str) {r : Bool} (hS : Sh.files_Row_Cut_1 f_0 a_1 = some r) :
 Ct Tryz.prog 201 [.agg #[str f_0.path, i64 f_0.mode, str f_0.data], ptr a_1_b 0] (Cells a_1_b 0 [str a_1]) (Ow.emp) (X := Unit) (fun _ => .bool r) (fun _ => True) (fun _ => Mo.tt) (fun _ => Ow.emp) := by
 refine Zo Tryz.func201 Tryz.ntmps201 fun c => ?_
 unfold Sh.files_Row_Cut_1 at hS
 refine Zq (Zr ?_)
 refine VL.box (cs := [str f_0.path, i64 f_0.mode, str f_0.data]) rfl rfl (by decide) fun b2_1 => ?_
 refine Zy ?_
 refine Zq (Zr ?_)
 refine Zu (q_field gfa75_0 rfl) ?_
 refine Zu (q_fe gone9 rfl rfl) ?_
 refine Zu (q_fm gone9 rfl rfl) ?_
 refine Zy ?_
 cases hS
 exact Ze
theorem slices_IndexFunc_files_Row_files_File_v3_ct (s_0 : Sv FilesFile) (f_1_0_b : Nat) (f_1_0 : Str) {r : Int} (hS : Sh.slices_IndexFunc_files_Row_files_File_v3 s_0.l f_1_0 = some r) :
 Ct Tryz.prog 168 [s_0.val, .func (.func 201) #[] #[ptr f_1_0_b 0]] (s_0.ok.and (Cells f_1_0_b 0 [str f_1_0])) (Ow.emp) (X := Unit) (fun _ => i64 r) (fun _ => True) (fun _ => Mo.tt) (fun _ => Ow.emp) := by
 refine Zo Tryz.func168 Tryz.ntmps168 fun c => ?_
 unfold Sh.slices_IndexFunc_files_Row_files_File_v3 at hS
 refine Zq (Zr ?_)
 refine Zy ?_
 refine Zq (Zq (Zr ?_))
 refine Zm ?_
 refine Zu (q_ln (s := s_0) Tryz.underlying24 rfl) ?_
 refine Zy ?_
 refine Zb ?_
 refine VC.iter (S := Int) (fun (x8_1 : Int) => x8_1) (fun (x8_1 : Int) => [(0, s_0.val), (1, .func (.func 201) #[] #[ptr f_1_0_b 0]), (7, i64 (s_0.l.length : Int)), (8, i64 x8_1)]) (fun (x8_1 : Int) => Mo.tt) (fun (x8_1 : Int) => Ow.emp) 0 [0, 1, 7, 8] hS rfl ?_
 clear hS
 rintro x8_1 m1 y1 hS hK1
 refine Zq (Zr ?_)
 refine Zu (q_lss rfl rfl) ?_
 refine Zl ?_
 refine Zq ?_
 refine Zc hS (fun h9 hS => ?_) (fun h9 hS => ?_)
 ·
  refine Zk ?_
  refine Zq (Zb (Zq (Zr ?_)))
  refine Zy ?_
  refine Zq (Zr ?_)
  refine Zy ?_
  obtain ⟨z14_2, nz14_2, hz14_2, hS⟩ := at_s hS
  refine Zu (q_ixm (s := s_0) Tryz.underlying24 gsz75 rfl rfl nz14_2 (lt_of_get nz14_2 hz14_2)) ?_
  refine Zu (q_els (s := s_0) gagg75 rfl rfl hz14_2) ?_
  obtain ⟨y16_3, ey16_3, hS⟩ := bd_s hS
  refine Zu (q_callVC (vs := [.agg #[str z14_2.path, i64 z14_2.mode, str z14_2.data]]) (caps := [ptr f_1_0_b 0]) (files_Row_Cut_1_ct z14_2 f_1_0_b f_1_0 ey16_3) rfl rfl (fun _ _ => rfl)) ?_
  refine Zl ?_
  refine VC.keep (ρ' := [(0, s_0.val), (1, .func (.func 201) #[] #[ptr f_1_0_b 0]), (7, i64 (s_0.l.length : Int)), (8, i64 x8_1), (5, i64 x8_1), (16, .bool y16_3)]) [0, 1, 7, 8, 5, 16] rfl ?_
  refine Zcb hS (fun h16 hS => ?_) (fun h16 hS => ?_)
  ·
   refine Zq (Zr ?_)
   refine Zy ?_
   replace hS := up2 hS hK1
   cases hS
   exact Ze
  refine Zk ?_
  refine Zr ?_
  obtain ⟨b18, hS⟩ := gd_s hS
  refine Zu (q_add rfl rfl b18) ?_
  refine Zm ?_
  refine VL.rnd (x8_1 + 1) [0, 1, 7, 8] (fun _ _ h => h) (go2 hS hK1) rfl
 replace hS := up2 hS hK1
 refine Zx ?_
 refine Zq (Zr ?_)
 refine Zy ?_
 cases hS
 exact Ze
theorem slices_DeleteFunc_files_Row_files_File_v2_ct (s_0 : Sv FilesFile) (del_1_0_b : Nat) (del_1_0 : Str) {r : List FilesFile} (hS : Sh.slices_DeleteFunc_files_Row_files_File_v2 s_0.l del_1_0 = some r) :
 Ct Tryz.prog 87 [s_0.val, .func (.func 201) #[] #[ptr del_1_0_b 0]] Mo.tt (Ow.star (Sv.own s_0 75) (Blk del_1_0_b [str del_1_0] 9)) (X := Sv FilesFile) (fun x => x.val) (fun x => r = x.l) (fun x => Mo.tt) (fun x => Ow.star (Sv.own x 75) (Blk del_1_0_b [str del_1_0] 9)) := by
 refine Zo Tryz.func87 Tryz.ntmps87 fun c => ?_
 unfold Sh.slices_DeleteFunc_files_Row_files_File_v2 at hS
 refine Zq (Zr ?_)
 refine Zy ?_
 refine Zq (Zr ?_)
 refine Zy ?_
 obtain ⟨y10_1, ey10_1, hS⟩ := bd_s hS
 refine Zu (q_callR (slices_IndexFunc_files_Row_files_File_v3_ct s_0 del_1_0_b del_1_0 ey10_1) rfl (fun _ _ => rfl)) ?_
 refine Zy ?_
 refine Zq (Zq (Zr ?_))
 refine Zm ?_
 refine Zu (q_eql rfl rfl) ?_
 refine Zl ?_
 refine Zc hS (fun h12 hS => ?_) (fun h12 hS => ?_)
 ·
  refine Zq (Zr ?_)
  refine Zy ?_
  cases hS
  exact VC.ret (fin1 (.inr rfl) rfl rfl s_0 rfl rfl (by (try dsimp only); exact InM.out) (by (try dsimp only); exact EntO.out))
 refine Zk ?_
 refine Zq (Zq (Zr ?_))
 refine Zm ?_
 obtain ⟨b15, hS⟩ := gd_s hS
 refine Zu (q_add rfl rfl b15) ?_
 refine Zy ?_
 refine VC.keep (ρ' := [(0, s_0.val), (1, .func (.func 201) #[] #[ptr del_1_0_b 0]), (5, i64 y10_1), (6, i64 (y10_1 + 1))]) [0, 1, 5, 6] rfl ?_
 refine Zb ?_
 refine VC.iter (S := Sv FilesFile × Int × Int) (fun sg => (sg.1.l, sg.2.1, sg.2.2)) (fun sg => [(0, sg.1.val), (1, .func (.func 201) #[] #[ptr del_1_0_b 0]), (5, i64 sg.2.1), (6, i64 sg.2.2)]) (fun sg => Mo.tt) (fun sg => Ow.star (Blk del_1_0_b [str del_1_0] 9) (Ow.star (Sv.own sg.1 75) (Ow.emp))) (s_0, y10_1, (y10_1 + 1)) [0, 1, 5, 6] hS rfl ?_
 clear hS
 rintro ⟨s0_2, i5_3, j6_4⟩ m1 y1 hS hK1
 refine Zq (Zq (Zr ?_))
 refine Zy ?_
 refine Zu (q_ln (s := s0_2) Tryz.underlying24 rfl) ?_
 refine Zu (q_lss rfl rfl) ?_
 refine Zl ?_
 refine Zc hS (fun h19 hS => ?_) (fun h19 hS => ?_)
 ·
  refine Zk ?_
  refine VC.cutJ (S := Sv FilesFile × Int) (fun sg => (sg.1.l, sg.2)) (fun sg => [(0, sg.1.val), (1, .func (.func 201) #[] #[ptr del_1_0_b 0]), (5, i64 sg.2), (6, i64 j6_4)]) (fun sg => Mo.tt) (fun sg => Ow.star (Blk del_1_0_b [str del_1_0] 9) (Ow.star (Sv.own sg.1 75) (Ow.emp))) hS ?_ ?_
  ·
   clear hS
   intro k7 hS
   refine Zb (Zq (Zr ?_))
   refine Zy ?_
   obtain ⟨z24_8, nz24_8, hz24_8, hS⟩ := at_s hS
   refine Zu (q_ixo (s := s0_2) Tryz.underlying24 gsz75 rfl rfl nz24_8 (lt_of_get nz24_8 hz24_8)) ?_
   refine Zu (q_elso (s := s0_2) gagg75 rfl rfl hz24_8) ?_
   refine VL.alloc (cs := [str [], i64 0, str []]) (by kernel_rfl) (by decide) fun b7_9 => ?_
   refine Zv (vc := [str z24_8.path, i64 z24_8.mode, str z24_8.data]) (cs' := [str z24_8.path, i64 z24_8.mode, str z24_8.data]) rfl gsz75 ?_
   refine Zl ?_
   refine VC.keep (ρ' := [(0, s0_2.val), (1, .func (.func 201) #[] #[ptr del_1_0_b 0]), (5, i64 i5_3), (6, i64 j6_4), (7, ptr b7_9 0)]) [0, 1, 5, 6, 7] rfl ?_
   refine Zq (Zr ?_)
   refine Zm ?_
   refine Zu (q_fes gagg75 rfl rfl) ?_
   obtain ⟨y28_10, ey28_10, hS⟩ := bd_s hS
   refine Zu (q_callVC (vs := [.agg #[str z24_8.path, i64 z24_8.mode, str z24_8.data]]) (caps := [ptr del_1_0_b 0]) (files_Row_Cut_1_ct z24_8 del_1_0_b del_1_0 ey28_10) rfl rfl (fun _ _ => rfl)) ?_
   refine Zu (q_not rfl) ?_
   refine Zl ?_
   refine Zcb hS (fun h29 hS => ?_) (fun h29 hS => ?_)
   ·
    refine Zq (Zr ?_)
    refine Zy ?_
    refine Zu (q_fes gagg75 rfl rfl) ?_
    obtain ⟨z33_11, nz33_11, hz33_11, hS⟩ := at_s hS
    refine Zu (q_ixo (s := s0_2) Tryz.underlying24 gsz75 rfl rfl nz33_11 (lt_of_get nz33_11 hz33_11)) ?_
    refine VL.storeE (s := s0_2) (T := 75) (j := 0) (vc := [str z24_8.path, i64 z24_8.mode, str z24_8.data]) (⟨z24_8.path, z24_8.mode, z24_8.data⟩ : FilesFile) (by decide) rfl rfl hz33_11 rfl gsz75 rfl rfl (Nat.le_of_ble_eq_true rfl) rfl (fun w12 hw12 haw12 hcw12 hvw12 hbw12 how12 => ?_)
    rw [← hvw12]
    replace hS := lt_to hw12 hS
    refine Zl ?_
    refine VC.keep (ρ' := [(0, w12.val), (1, .func (.func 201) #[] #[ptr del_1_0_b 0]), (5, i64 i5_3), (6, i64 j6_4)]) [0, 1, 5, 6] rfl ?_
    refine Zr ?_
    refine Zm ?_
    obtain ⟨b35, hS⟩ := gd_s hS
    refine Zu (q_add rfl rfl b35) ?_
    refine Za ?_
    refine VL.mt (w12, (i5_3 + 1)) [0, 1, 5, 6] (fun _ _ h => h) hS rfl
   refine VC.skip_mt (s0_2, i5_3) [0, 1, 5, 6] (fun _ _ h => h) hS rfl
  clear hS
  rintro ⟨s0_5, i5_6⟩ hS
  refine Zr ?_
  refine Zm ?_
  obtain ⟨b21, hS⟩ := gd_s hS
  refine Zu (q_add rfl rfl b21) ?_
  refine Za ?_
  refine VL.rnd (s0_5, i5_6, (j6_4 + 1)) [0, 1, 5, 6] (fun _ _ h => h) (go2 hS hK1) rfl
 replace hS := up2 hS hK1
 refine Zx ?_
 refine Zq (Zr ?_)
 refine Zy ?_
 obtain ⟨b38, hS⟩ := gd_s hS
 refine VL.fits (s := s0_2) (e := 75) Fo.out fun f38_14 => ?_
 refine Zu (q_subv (s := s0_2) Tryz.underlying24 gsz75 rfl rfl b38.1 b38.2 f38_14) ?_
 refine VL.clrN (s := s0_2) (i := i5_3.toNat) (.agg #[str [], i64 0, str []]) Tryz.underlying24 gzv75 rfl rfl rfl (by have := b38; dsimp only at this ⊢; omega) Fo.out fun ss3_15 hss3_15 vss3_15 => ?_
 replace hS := lt_to hss3_15 hS
 refine Zl ?_
 refine VC.keep (ρ' := [(0, s0_2.val), (5, i64 i5_3)]) [0, 5] rfl ?_
 refine Zq (Zr ?_)
 refine Zy ?_
 refine Zu (q_cutO (s := s0_2) (q := ss3_15) Tryz.underlying24 gsz75 rfl rfl b38.1 b38.2 f38_14 vss3_15) ?_
 refine Zy ?_
 cases hS
 exact VC.ret (fin1 (.inr rfl) rfl rfl ss3_15 rfl rfl (by (try dsimp only); exact InM.out) (by (try dsimp only); exact EntO.out))
theorem files_Row_Cut_ct (r_0 : Sv FilesFile) (p_1 : Str) {r : List FilesFile} (hS : Sh.files_Row_Cut r_0.l p_1 = some r) :
 Ct Tryz.prog 118 [r_0.val, str p_1] r_0.ok (Ow.emp) (X := Sv FilesFile) (fun x => x.val) (fun x => r = x.l) (fun x => x.ok) (fun x => Ow.emp) := by
 refine Zo Tryz.func118 Tryz.ntmps118 fun c => ?_
 unfold Sh.files_Row_Cut at hS
 refine Zq (Zr ?_)
 refine VL.box (cs := [str p_1]) rfl rfl (by decide) fun b3_1 => ?_
 refine Zy ?_
 refine Zq (Zr ?_)
 refine Zm ?_
 obtain ⟨y6_2, ey6_2, hS⟩ := bd_s hS
 refine VL.callO (slices_Clone_files_Row_files_File_ct r_0 ey6_2) rfl (by decide) ?_
 rintro q6_2_0 rfl
 try dsimp only
 refine Zu (q_mkfn rfl) ?_
 obtain ⟨y8_3, ey8_3, hS⟩ := bd_s hS
 refine VL.callO (slices_DeleteFunc_files_Row_files_File_v2_ct q6_2_0 b3_1 p_1 ey8_3) rfl (by decide) ?_
 rintro q8_3_0 rfl
 try dsimp only
 refine VL.shut q8_3_0 75 (fun _ _ _ _ => trivial) ?_
 obtain ⟨y9_4, ey9_4, hS⟩ := bd_s hS
 refine VL.callF (slices_Clip_files_Row_files_File_ct q8_3_0 ey9_4) rfl (by decide) ?_
 rintro q9_4_0 rfl
 try dsimp only
 refine Zy ?_
 cases hS
 exact VC.ret (fin1 (.inr rfl) rfl rfl q9_4_0 rfl rfl (by (try dsimp only); exact InM.out) (fun _ _ => trivial))
theorem plan_lay_ct (r_0 : TmergeResult) (ix_1 : Sv IndexEntry) (p_2 : Str) {r : List IndexEntry} (hS : Sh.plan_lay r_0.pl ix_1.l p_2 = some r) :
 Ct Tryz.prog 327 [.agg #[r_0.files.val, r_0.entries.val, r_0.conflicts.val], ix_1.val, str p_2] (r_0.files.ok.and (r_0.entries.ok.and (r_0.conflicts.ok.and ix_1.ok))) (Ow.emp) (X := Sv IndexEntry) (fun x => x.val) (fun x => r = x.l) (fun x => x.ok) (fun x => Ow.emp) := by
 refine Zo Tryz.func327 Tryz.ntmps327 fun c => ?_
 unfold Sh.plan_lay at hS
 refine Zq (Zr ?_)
 refine VL.box (cs := [r_0.files.val, r_0.entries.val, r_0.conflicts.val]) rfl rfl (by decide) fun b3_1 => ?_
 refine Zy ?_
 refine Zq (Zq (Zr ?_))
 refine Zu (q_field gfa268_2 rfl) ?_
 refine Zu (q_fe gone37 rfl rfl) ?_
 refine Zm ?_
 obtain ⟨y13_2, ey13_2, hS⟩ := bd_s hS
 refine Zu (q_call (slices_Contains_string_string_ct r_0.conflicts p_2 ey13_2) rfl (fun _ _ => rfl)) ?_
 refine Zl ?_
 refine Zcb hS (fun h13 hS => ?_) (fun h13 hS => ?_)
 ·
  refine Zq (Zq ?_)
  cases hS
 refine Zk ?_
 refine Zq (Zr ?_)
 refine Zu (q_field gfa268_0 rfl) ?_
 refine Zu (q_fe gone24 rfl rfl) ?_
 refine Zm ?_
 obtain ⟨y33_3, ey33_3, hS⟩ := bd_s hS
 refine Zu (q_call (plan_of_ct r_0.files p_2 ey33_3) rfl (fun _ _ => rfl)) ?_
 refine VL.alloc (cs := [str [], i64 0, str [], .bool false]) (by kernel_rfl) (by decide) fun b9_4 => ?_
 refine Zv (vc := [str y33_3.file_path, i64 y33_3.file_mode, str y33_3.file_data, .bool y33_3.is]) (cs' := [str y33_3.file_path, i64 y33_3.file_mode, str y33_3.file_data, .bool y33_3.is]) rfl gsz329 ?_
 refine Zl ?_
 refine VC.keep (ρ' := [(1, ix_1.val), (2, str p_2), (9, ptr b9_4 0)]) [1, 2, 9] rfl ?_
 refine Zq (Zq (Zr ?_))
 refine Zu (q_field gfa329_1 rfl) ?_
 refine Zu (q_fe gone4 rfl rfl) ?_
 refine Zu (q_not rfl) ?_
 refine Zl ?_
 refine Zcb hS (fun h36 hS => ?_) (fun h36 hS => ?_)
 ·
  refine Zq (Zr ?_)
  refine Zy ?_
  cases hS
  exact VC.ret (fin1 (.inr rfl) rfl rfl ix_1 rfl rfl (by (try dsimp only); exact InM.out) (fun _ _ => trivial))
 refine Zk ?_
 refine Zq (Zr ?_)
 refine Zy ?_
 refine Zu (q_field gfa329_0 rfl) ?_
 refine Zu (q_field gfa75_1 rfl) ?_
 refine Zu (q_fe gone3 rfl rfl) ?_
 refine Zu (q_field gfa329_0 rfl) ?_
 refine Zu (q_field gfa75_2 rfl) ?_
 refine Zu (q_fe gone9 rfl rfl) ?_
 refine Zu (q_build (vs := [(0, str p_2), (2, i64 y33_3.file_mode), (3, str y33_3.file_data)]) (cs := #[str p_2, i64 0, i64 y33_3.file_mode, str y33_3.file_data, i64 0, i64 0]) rfl (by kernel_rfl)) ?_
 obtain ⟨y47_5, ey47_5, hS⟩ := bd_s hS
 refine VL.callF (index_Put_ct ix_1 (⟨p_2, 0, y33_3.file_mode, y33_3.file_data, 0, 0⟩ : IndexEntry) ey47_5) rfl (by decide) ?_
 rintro q47_5_0 rfl
 try dsimp only
 refine Zy ?_
 refine VC.keep (ρ' := [(6, q47_5_0.val)]) [6] rfl ?_
 cases hS
 exact VC.ret (fin1 (.inr rfl) rfl rfl q47_5_0 rfl rfl (by (try dsimp only); exact InM.out) (fun _ _ => trivial))
theorem plan_Apply_ct (head_0 : Sv FilesFile) (r_1 : TmergeResult) (ix_2 : Sv IndexEntry) (work_3 : Sv FilesFile) {r : List IndexEntry × List FilesFile × Err} (hS : Sh.plan_Apply head_0.l r_1.pl ix_2.l work_3.l = some r) :
 Ct Tryz.prog 282 [head_0.val, .agg #[r_1.files.val, r_1.entries.val, r_1.conflicts.val], ix_2.val, work_3.val] (head_0.ok.and (r_1.files.ok.and (r_1.entries.ok.and (r_1.conflicts.ok.and (ix_2.ok.and work_3.ok))))) (Ow.emp) (X := Sv IndexEntry × Sv FilesFile × Er) (fun x => .tuple #[x.1.val, x.2.1.val, x.2.2.val]) (fun x => r = (x.1.l, x.2.1.l, x.2.2.pl)) (fun x => (x.1.ok.and (x.2.1.ok.and x.2.2.ok))) (fun x => Ow.emp) := by
 refine Zo Tryz.func282 Tryz.ntmps282 fun c => ?_
 unfold Sh.plan_Apply at hS
 refine Zq (Zr ?_)
 refine VL.box (cs := [r_1.files.val, r_1.entries.val, r_1.conflicts.val]) rfl rfl (by decide) fun b5_1 => ?_
 refine Zy ?_
 refine Zq (Zq (Zr ?_))
 refine Zm ?_
 refine Zu (q_fes gagg268 rfl rfl) ?_
 refine Zy ?_
 obtain ⟨y22_2, ey22_2, hS⟩ := bd_s hS
 refine VL.callF (plan_Lost_ct head_0 r_1 ix_2 work_3 ey22_2) rfl (by decide) ?_
 rintro q22_2_0 rfl
 try dsimp only
 refine Zy ?_
 refine VC.keep (ρ' := [(0, head_0.val), (2, ix_2.val), (3, work_3.val), (5, ptr b5_1 0), (11, q22_2_0.val)]) [0, 2, 3, 5, 11] rfl ?_
 refine Zq (Zr ?_)
 refine Zm ?_
 refine Zu (q_ln (s := q22_2_0) Tryz.underlying37 rfl) ?_
 refine Zu (q_gtr rfl rfl) ?_
 refine Zl ?_
 refine Zc hS (fun h25 hS => ?_) (fun h25 hS => ?_)
 ·
  refine Zq (Zr ?_)
  refine Zm ?_
  obtain ⟨y27_3, ey27_3, hS⟩ := bd_s hS
  refine VL.callO (slices_Clone_index_Entry_index_Entry_ct ix_2 ey27_3) rfl (by decide) ?_
  rintro q27_3_0 rfl
  try dsimp only
  refine VL.shut q27_3_0 149 (fun _ _ _ _ => trivial) ?_
  obtain ⟨y28_4, ey28_4, hS⟩ := bd_s hS
  refine VL.callF (slices_Clip_index_Entry_index_Entry_ct q27_3_0 ey28_4) rfl (by decide) ?_
  rintro q28_4_0 rfl
  try dsimp only
  refine Zm ?_
  obtain ⟨y30_5, ey30_5, hS⟩ := bd_s hS
  refine VL.callO (slices_Clone_files_Row_files_File_ct work_3 ey30_5) rfl (by decide) ?_
  rintro q30_5_0 rfl
  try dsimp only
  refine VL.shut q30_5_0 75 (fun _ _ _ _ => trivial) ?_
  obtain ⟨y31_6, ey31_6, hS⟩ := bd_s hS
  refine VL.callF (slices_Clip_files_Row_files_File_ct q30_5_0 ey31_6) rfl (by decide) ?_
  rintro q31_6_0 rfl
  try dsimp only
  refine Zm ?_
  refine Zu (q_ln (s := q22_2_0) Tryz.underlying37 rfl) ?_
  refine Zu (q_mkif Tryz.underlying50 (fun _ h => by cases h) rfl) ?_
  refine Zu (q_build (vs := [(0, str [112, 97, 116, 104]), (1, i64 (q22_2_0.l.length : Int)), (2, (Er.no 8).val)]) (cs := #[str [112, 97, 116, 104], i64 (q22_2_0.l.length : Int), (Er.no 8).val]) rfl (by kernel_rfl)) ?_
  refine VL.box (cs := [str [112, 97, 116, 104], i64 (q22_2_0.l.length : Int), (Er.no 8).val]) rfl rfl (by decide) fun b36_7 => ?_
  refine VL.shutB b36_7 ?_
  refine Zu (q_mkif Tryz.underlying91 (fun _ h => by cases h) rfl) ?_
  refine Zy ?_
  refine VC.keep (ρ' := [(8, q28_4_0.val), (9, q31_6_0.val), (10, (Er.fault b36_7 [112, 97, 116, 104] (q22_2_0.l.length : Int) (Er.no 8)).val)]) [8, 9, 10] rfl ?_
  cases hS
  exact VC.ret (fin3 (.inr rfl) rfl rfl rfl rfl (q28_4_0, q31_6_0, (Er.fault b36_7 [112, 97, 116, 104] (q22_2_0.l.length : Int) (Er.no 8))) rfl rfl (by (try dsimp only); exact InM.out) (fun _ _ => trivial))
 refine Zk ?_
 refine Zq (Zr ?_)
 refine Zm ?_
 refine Zu (q_fes gagg268 rfl rfl) ?_
 obtain ⟨y40_8, ey40_8, hS⟩ := bd_s hS
 refine VL.callO (plan_touched_ct head_0 r_1 ey40_8) rfl (by decide) ?_
 rintro q40_8_0 rfl
 try dsimp only
 refine Zy ?_
 refine VC.keep (ρ' := [(2, ix_2.val), (3, work_3.val), (5, ptr b5_1 0), (12, q40_8_0.val)]) [2, 3, 5, 12] rfl ?_
 refine Zq (Zr ?_)
 refine Zm ?_
 obtain ⟨y42_9, ey42_9, hS⟩ := bd_s hS
 refine VL.callO (slices_Clone_index_Entry_index_Entry_ct ix_2 ey42_9) rfl (by decide) ?_
 rintro q42_9_0 rfl
 try dsimp only
 refine Zm ?_
 obtain ⟨y44_10, ey44_10, hS⟩ := bd_s hS
 refine VL.callO (slices_Clone_files_Row_files_File_ct work_3 ey44_10) rfl (by decide) ?_
 rintro q44_10_0 rfl
 try dsimp only
 refine Zy ?_
 refine Zq (Zq (Zr ?_))
 refine Zm ?_
 refine Zu (q_ln (s := q40_8_0) Tryz.underlying37 rfl) ?_
 refine Zy ?_
 refine Zb ?_
 refine VC.shut q42_9_0 149 (fun _ _ _ _ => trivial) ?_
 refine VC.shut q44_10_0 75 (fun _ _ _ _ => trivial) ?_
 refine VC.iter (S := Sv IndexEntry × Sv FilesFile × Int) (fun sg => (sg.1.l, sg.2.1.l, sg.2.2)) (fun sg => [(2, sg.1.val), (3, sg.2.1.val), (5, ptr b5_1 0), (12, q40_8_0.val), (45, q40_8_0.val), (46, i64 (q40_8_0.l.length : Int)), (47, i64 sg.2.2)]) (fun sg => (sg.1.ok.and sg.2.1.ok)) (fun sg => Ow.star (Blk b5_1 [r_1.files.val, r_1.entries.val, r_1.conflicts.val] 268) (Ow.star (Sv.own q40_8_0 9) (Ow.emp))) (q42_9_0, q44_10_0, 0) [2, 3, 5, 12, 45, 46, 47] hS rfl ?_
 clear hS
 rintro ⟨ix2_11, work3_12, x47_13⟩ m1 y1 hS hK1
 refine Zq (Zr ?_)
 refine Zu (q_lss rfl rfl) ?_
 refine Zl ?_
 refine Zq ?_
 refine Zc hS (fun h48 hS => ?_) (fun h48 hS => ?_)
 ·
  refine Zk ?_
  refine Zq (Zb (Zq (Zr ?_)))
  obtain ⟨z49_14, nz49_14, hz49_14, hS⟩ := at_s hS
  refine Zu (q_ixo (s := q40_8_0) Tryz.underlying37 gsz9 rfl rfl nz49_14 (lt_of_get nz49_14 hz49_14)) ?_
  refine Zu (q_elo (s := q40_8_0) 9 gone9 rfl hz49_14 rfl) ?_
  refine Zy ?_
  refine Zr ?_
  refine Zy ?_
  obtain ⟨y53_15, ey53_15, hS⟩ := bd_s hS
  refine VL.callF (index_Drop_ct ix2_11 z49_14 ey53_15) rfl (by decide) ?_
  rintro q53_15_0 rfl
  try dsimp only
  refine Zy ?_
  obtain ⟨y56_16, ey56_16, hS⟩ := bd_s hS
  refine VL.callF (files_Row_Cut_ct work3_12 z49_14 ey56_16) rfl (by decide) ?_
  rintro q56_16_0 rfl
  try dsimp only
  refine Zy ?_
  refine VC.keep (ρ' := [(2, q53_15_0.val), (3, q56_16_0.val), (5, ptr b5_1 0), (12, q40_8_0.val), (45, q40_8_0.val), (46, i64 (q40_8_0.l.length : Int)), (47, i64 x47_13)]) [2, 3, 5, 12, 45, 46, 47] rfl ?_
  refine Zr ?_
  obtain ⟨b57, hS⟩ := gd_s hS
  refine Zu (q_add rfl rfl b57) ?_
  refine Zm ?_
  refine VL.rnd (q53_15_0, q56_16_0, (x47_13 + 1)) [2, 3, 5, 12, 45, 46, 47] (fun _ _ h => h) (go2 hS hK1) rfl
 replace hS := up2 hS hK1
 refine Zx ?_
 refine Zq (Zq (Zr ?_))
 refine Zm ?_
 refine Zu (q_ln (s := q40_8_0) Tryz.underlying37 rfl) ?_
 refine Zy ?_
 refine Zb ?_
 refine VC.iter (S := Sv IndexEntry × Sv FilesFile × Int) (fun sg => (sg.1.l, sg.2.1.l, sg.2.2)) (fun sg => [(2, sg.1.val), (3, sg.2.1.val), (5, ptr b5_1 0), (58, q40_8_0.val), (59, i64 (q40_8_0.l.length : Int)), (60, i64 sg.2.2)]) (fun sg => (sg.1.ok.and sg.2.1.ok)) (fun sg => Ow.star (Blk b5_1 [r_1.files.val, r_1.entries.val, r_1.conflicts.val] 268) (Ow.star (Sv.own q40_8_0 9) (Ow.emp))) (ix2_11, work3_12, 0) [2, 3, 5, 58, 59, 60] hS rfl ?_
 clear hS
 rintro ⟨ix2_17, work3_18, x60_19⟩ m1 y1 hS hK1
 refine Zq (Zr ?_)
 refine Zu (q_lss rfl rfl) ?_
 refine Zl ?_
 refine Zq ?_
 refine Zc hS (fun h61 hS => ?_) (fun h61 hS => ?_)
 ·
  refine Zk ?_
  refine Zq (Zb (Zq (Zr ?_)))
  obtain ⟨z62_20, nz62_20, hz62_20, hS⟩ := at_s hS
  refine Zu (q_ixo (s := q40_8_0) Tryz.underlying37 gsz9 rfl rfl nz62_20 (lt_of_get nz62_20 hz62_20)) ?_
  refine Zu (q_elo (s := q40_8_0) 9 gone9 rfl hz62_20 rfl) ?_
  refine Zy ?_
  refine Zq (Zr ?_)
  refine Zu (q_fes gagg268 rfl rfl) ?_
  refine Zy ?_
  obtain ⟨y67_21, ey67_21, hS⟩ := bd_s hS
  refine VL.callF (plan_lay_ct r_1 ix2_17 z62_20 ey67_21) rfl (by decide) ?_
  rintro q67_21_0 rfl
  try dsimp only
  refine Zy ?_
  refine VC.keep (ρ' := [(2, q67_21_0.val), (3, work3_18.val), (5, ptr b5_1 0), (58, q40_8_0.val), (59, i64 (q40_8_0.l.length : Int)), (60, i64 x60_19), (16, str z62_20)]) [2, 3, 5, 58, 59, 60, 16] rfl ?_
  refine Zq (Zr ?_)
  refine Zu (q_field gfa268_0 rfl) ?_
  refine Zu (q_fe gone24 rfl rfl) ?_
  refine Zm ?_
  obtain ⟨y71_22, ey71_22, hS⟩ := bd_s hS
  refine Zu (q_call (plan_of_ct r_1.files z62_20 ey71_22) rfl (fun _ _ => rfl)) ?_
  refine VL.alloc (cs := [str [], i64 0, str [], .bool false]) (by kernel_rfl) (by decide) fun b17_23 => ?_
  refine Zv (vc := [str y71_22.file_path, i64 y71_22.file_mode, str y71_22.file_data, .bool y71_22.is]) (cs' := [str y71_22.file_path, i64 y71_22.file_mode, str y71_22.file_data, .bool y71_22.is]) rfl gsz329 ?_
  refine Zl ?_
  refine Zq (Zr ?_)
  refine Zu (q_field gfa329_1 rfl) ?_
  refine Zu (q_fe gone4 rfl rfl) ?_
  refine Zl ?_
  refine Zcb hS (fun h73 hS => ?_) (fun h73 hS => ?_)
  ·
   refine Zr ?_
   refine Zm ?_
   refine Zu (q_field gfa329_0 rfl) ?_
   refine Zu (q_fep (j := 0) (n := 3) gagg75 rfl rfl rfl) ?_
   obtain ⟨y77_24, ey77_24, hS⟩ := bd_s hS
   refine VL.callF (files_Row_Put_ct work3_18 (⟨y71_22.file_path, y71_22.file_mode, y71_22.file_data⟩ : FilesFile) ey77_24) rfl (by decide) ?_
   rintro q77_24_0 rfl
   try dsimp only
   refine Zy ?_
   refine VC.keep (ρ' := [(2, q67_21_0.val), (3, q77_24_0.val), (5, ptr b5_1 0), (58, q40_8_0.val), (59, i64 (q40_8_0.l.length : Int)), (60, i64 x60_19)]) [2, 3, 5, 58, 59, 60] rfl ?_
   refine Zr ?_
   obtain ⟨b78, hS⟩ := gd_s hS
   refine Zu (q_add rfl rfl b78) ?_
   refine Zm ?_
   refine VL.rnd (q67_21_0, q77_24_0, (x60_19 + 1)) [2, 3, 5, 58, 59, 60] (fun _ _ h => h) (go2 hS hK1) rfl
  refine Zk ?_
  refine VC.keep (ρ' := [(2, q67_21_0.val), (3, work3_18.val), (5, ptr b5_1 0), (58, q40_8_0.val), (59, i64 (q40_8_0.l.length : Int)), (60, i64 x60_19)]) [2, 3, 5, 58, 59, 60] rfl ?_
  refine Zr ?_
  obtain ⟨b78, hS⟩ := gd_s hS
  refine Zu (q_add rfl rfl b78) ?_
  refine Zm ?_
  refine VL.rnd (q67_21_0, work3_18, (x60_19 + 1)) [2, 3, 5, 58, 59, 60] (fun _ _ h => h) (go2 hS hK1) rfl
 replace hS := up2 hS hK1
 refine Zx ?_
 refine Zq (Zr ?_)
 refine Zm ?_
 obtain ⟨y80_25, ey80_25, hS⟩ := bd_s hS
 refine VL.callF (slices_Clip_index_Entry_index_Entry_ct ix2_17 ey80_25) rfl (by decide) ?_
 rintro q80_25_0 rfl
 try dsimp only
 refine Zm ?_
 obtain ⟨y82_26, ey82_26, hS⟩ := bd_s hS
 refine VL.callF (slices_Clip_files_Row_files_File_ct work3_18 ey82_26) rfl (by decide) ?_
 rintro q82_26_0 rfl
 try dsimp only
 refine Zy ?_
 refine VC.keep (ρ' := [(8, q80_25_0.val), (9, q82_26_0.val), (10, .nilIface)]) [8, 9, 10] rfl ?_
 cases hS
 exact VC.ret (fin3 (.inr rfl) rfl rfl rfl rfl (q80_25_0, q82_26_0, .nil) rfl rfl (by (try dsimp only); exact InM.out) (fun _ _ => trivial))
theorem repo_full_ct (s_0 : StateState) {r : Bool} (hS : Sh.repo_full s_0.pl = some r) :
 Ct Tryz.prog 123 [.agg (zStateState s_0).toArray] (s_0.now_work.ok.and (s_0.now_index.ok.and (s_0.now_refs.ok.and (s_0.now_seq_doing.ok.and (s_0.now_seq_todo.ok.and (s_0.now_seq_index.ok.and (s_0.now_seq_work.ok.and (s_0.now_stash.ok.and (s_0.commits.ok.and (s_0.log_back.ok.and s_0.log_forth.ok)))))))))) (Ow.emp) (X := Unit) (fun _ => .bool r) (fun _ => True) (fun _ => Mo.tt) (fun _ => Ow.emp) := by
 refine Zo Tryz.func123 Tryz.ntmps123 fun c => ?_
 unfold Sh.repo_full at hS
 refine Zq (Zr ?_)
 refine VL.box (cs := (zStateState s_0)) rfl rfl (by decide) fun b1_1 => ?_
 refine Zy ?_
 refine Zq (Zr ?_)
 refine Zu (q_field gfa41_0 rfl) ?_
 refine Zu (q_field gfa35_0 rfl) ?_
 refine Zu (q_fe gone24 rfl rfl) ?_
 refine Zu (q_ln (s := s_0.now_work) Tryz.underlying24 rfl) ?_
 refine Zu (q_gtr rfl rfl) ?_
 refine Zy ?_
 cases hS
 exact Ze
theorem repo_laid_ct (s_0 : StateState) (r_1 : TmergeResult) {r : StateStateP × Err} (hS : Sh.repo_laid s_0.pl r_1.pl = some r) :
 Ct Tryz.prog 220 [.agg (zStateState s_0).toArray, .agg #[r_1.files.val, r_1.entries.val, r_1.conflicts.val]] (s_0.now_work.ok.and (s_0.now_index.ok.and (s_0.now_refs.ok.and (s_0.now_seq_doing.ok.and (s_0.now_seq_todo.ok.and (s_0.now_seq_index.ok.and (s_0.now_seq_work.ok.and (s_0.now_stash.ok.and (s_0.commits.ok.and (s_0.log_back.ok.and (s_0.log_forth.ok.and (r_1.files.ok.and (r_1.entries.ok.and r_1.conflicts.ok))))))))))))) (Ow.emp) (X := StateState × Er) (fun x => .tuple #[.agg (Dat.enc x.1).toArray, x.2.val]) (fun x => r = (x.1.pl, x.2.pl)) (fun x => (x.1.m.and x.2.ok)) (fun x => Ow.emp) := by
 refine Zo Tryz.func220 Tryz.ntmps220 fun c => ?_
 unfold Sh.repo_laid at hS
 refine Zq (Zr ?_)
 refine VL.box (cs := (zStateState s_0)) rfl rfl (by decide) fun b2_1 => ?_
 refine VL.box (cs := [r_1.files.val, r_1.entries.val, r_1.conflicts.val]) rfl rfl (by decide) fun b3_2 => ?_
 refine VL.alloc (cs := [.slice none 0 0, .slice none 0 0, .slice none 0 0, str [], i64 0, str [], i64 0, str [], .slice none 0 0, .slice none 0 0, i64 0, str [], str [], i64 0, .slice none 0 0, .slice none 0 0, .slice none 0 0, .slice none 0 0, .slice none 0 0, .slice none 0 0, i64 0]) (by kernel_rfl) (by decide) fun b4_3 => ?_
 refine Zy ?_
 refine Zq ?_
 refine VC.draw [(0, true), (2, true), (3, true), (4, true), (5, true), (6, true), (7, true), (8, true), (1, false), (9, false), (10, true), (11, true), (12, true), (13, true), (14, true), (15, true), (16, true)] mixed (by kernel_rfl) (by kernel_rfl) (by kernel_rfl) ?_
 refine Zw rfl (q_fes gagg41 rfl rfl) ?_
 refine Zw rfl (q_fes gagg268 rfl rfl) ?_
 refine Zw rfl (q_field gfa41_0 rfl) ?_
 refine Zw rfl (q_field gfa35_1 rfl) ?_
 refine Zw rfl (q_fe gone25 rfl rfl) ?_
 refine Zw rfl (q_field gfa41_0 rfl) ?_
 refine Zw rfl (q_field gfa35_0 rfl) ?_
 refine Zw rfl (q_fe gone24 rfl rfl) ?_
 refine VD.one rfl ?_
 obtain ⟨y11_4, ey11_4, hS⟩ := bd_s hS
 refine VL.callF (repo_head_ct s_0 ey11_4) rfl (by decide) ?_
 rintro q11_4_0 rfl
 try dsimp only
 refine VL.back (D' := [(8, s_0.now_work.val), (7, ptr b2_1 0), (6, ptr b2_1 0), (5, s_0.now_index.val), (4, ptr b2_1 1), (3, ptr b2_1 0), (2, .agg #[r_1.files.val, r_1.entries.val, r_1.conflicts.val])]) (by kernel_rfl) (Pend.cons rfl (q_fe gone24 rfl rfl) (Pend.cons rfl (q_field gfa35_0 rfl) (Pend.cons rfl (q_field gfa41_0 rfl) (Pend.cons rfl (q_fe gone25 rfl rfl) (Pend.cons rfl (q_field gfa35_1 rfl) (Pend.cons rfl (q_field gfa41_0 rfl) (Pend.cons rfl (q_fes gagg268 rfl rfl) (Pend.nil)))))))) ?_
 refine VD.one rfl ?_
 obtain ⟨y19_5, ey19_5, hS⟩ := bd_s hS
 refine VL.callF (plan_Apply_ct q11_4_0 r_1 s_0.now_index s_0.now_work ey19_5) rfl (by decide) ?_
 rintro ⟨q19_5_0, q19_5_1, q19_5_2⟩ rfl
 try dsimp only
 refine VL.back (D' := []) (by kernel_rfl) (Pend.nil) ?_
 refine Zw rfl (q_move rfl) ?_
 refine Zw rfl (q_extract rfl rfl) ?_
 refine Zw rfl (q_extract rfl rfl) ?_
 refine Zw rfl (q_extract rfl rfl) ?_
 refine Zw rfl (q_assign rfl) ?_
 refine Zw rfl (q_assign rfl) ?_
 refine Zw rfl (q_assign rfl) ?_
 refine VD.to (fun _ _ h => h) ?_
 refine VC.keep (ρ' := [(2, ptr b2_1 0), (4, ptr b4_3 0), (6, q19_5_0.val), (7, q19_5_1.val), (8, q19_5_2.val)]) [2, 4, 6, 7, 8] rfl ?_
 refine Zq (Zq (Zr ?_))
 refine Zm ?_
 refine Zu (q_erne Tryz.underlying45 rfl) ?_
 refine Zl ?_
 refine Zcn hS (fun h24 hS => ?_) (fun h24 hS => ?_)
 ·
  refine Zq (Zr ?_)
  refine Zu (q_fes gagg41 rfl rfl) ?_
  refine Zm ?_
  refine Zv (vc := (zStateState s_0)) (cs' := (zStateState s_0)) rfl gsz41 ?_
  refine Zy ?_
  cases hS
  exact VC.ret (finG (vs := [.agg (zStateState s_0).toArray, q19_5_2.val]) (.inr rfl) rfl (RVs.cell gagg41 rfl rfl Rd.blk (RVs.tmp rfl (RVs.nil))) (s_0, q19_5_2) rfl rfl (by (try dsimp only); exact InM.out) (fun _ _ => trivial))
 refine Zk ?_
 refine Zq (Zr ?_)
 refine Zy ?_
 refine Zu (q_field gfa41_0 rfl) ?_
 refine Zu (q_field gfa35_1 rfl) ?_
 refine Zv (vc := [q19_5_0.val]) (cs' := [s_0.now_work.val, q19_5_0.val, s_0.now_refs.val, str s_0.now_head_branch, i64 s_0.now_head_commit, str s_0.now_seq_kind, i64 s_0.now_seq_other, str s_0.now_seq_text, s_0.now_seq_doing.val, s_0.now_seq_todo.val, i64 s_0.now_seq_made, str s_0.now_seq_branch, str s_0.now_seq_head_branch, i64 s_0.now_seq_head_commit, s_0.now_seq_index.val, s_0.now_seq_work.val, s_0.now_stash.val, s_0.commits.val, s_0.log_back.val, s_0.log_forth.val, i64 s_0.time]) rfl gsz25 ?_
 refine Zu (q_field gfa41_0 rfl) ?_
 refine Zu (q_field gfa35_0 rfl) ?_
 refine Zv (vc := [q19_5_1.val]) (cs' := [q19_5_1.val, q19_5_0.val, s_0.now_refs.val, str s_0.now_head_branch, i64 s_0.now_head_commit, str s_0.now_seq_kind, i64 s_0.now_seq_other, str s_0.now_seq_text, s_0.now_seq_doing.val, s_0.now_seq_todo.val, i64 s_0.now_seq_made, str s_0.now_seq_branch, str s_0.now_seq_head_branch, i64 s_0.now_seq_head_commit, s_0.now_seq_index.val, s_0.now_seq_work.val, s_0.now_stash.val, s_0.commits.val, s_0.log_back.val, s_0.log_forth.val, i64 s_0.time]) rfl gsz24 ?_
 refine Zl ?_
 refine VC.keep (ρ' := [(2, ptr b2_1 0), (4, ptr b4_3 0)]) [2, 4] rfl ?_
 refine Zq (Zq (Zr ?_))
 refine Zu (q_fes gagg41 rfl rfl) ?_
 obtain ⟨y34_6, ey34_6, hS⟩ := bd_s hS
 refine Zu (q_call (repo_full_ct (⟨q19_5_1, q19_5_0, s_0.now_refs, s_0.now_head_branch, s_0.now_head_commit, s_0.now_seq_kind, s_0.now_seq_other, s_0.now_seq_text, s_0.now_seq_doing, s_0.now_seq_todo, s_0.now_seq_made, s_0.now_seq_branch, s_0.now_seq_head_branch, s_0.now_seq_head_commit, s_0.now_seq_index, s_0.now_seq_work, s_0.now_stash, s_0.commits, s_0.log_back, s_0.log_forth, s_0.time⟩ : StateState) ey34_6) rfl (fun _ _ => rfl)) ?_
 refine Zl ?_
 refine Zcb hS (fun h34 hS => ?_) (fun h34 hS => ?_)
 ·
  refine Zq ?_
  cases hS
 refine Zk ?_
 refine Zq (Zr ?_)
 refine Zu (q_fes gagg41 rfl rfl) ?_
 refine Zv (vc := [q19_5_1.val, q19_5_0.val, s_0.now_refs.val, str s_0.now_head_branch, i64 s_0.now_head_commit, str s_0.now_seq_kind, i64 s_0.now_seq_other, str s_0.now_seq_text, s_0.now_seq_doing.val, s_0.now_seq_todo.val, i64 s_0.now_seq_made, str s_0.now_seq_branch, str s_0.now_seq_head_branch, i64 s_0.now_seq_head_commit, s_0.now_seq_index.val, s_0.now_seq_work.val, s_0.now_stash.val, s_0.commits.val, s_0.log_back.val, s_0.log_forth.val, i64 s_0.time]) (cs' := [q19_5_1.val, q19_5_0.val, s_0.now_refs.val, str s_0.now_head_branch, i64 s_0.now_head_commit, str s_0.now_seq_kind, i64 s_0.now_seq_other, str s_0.now_seq_text, s_0.now_seq_doing.val, s_0.now_seq_todo.val, i64 s_0.now_seq_made, str s_0.now_seq_branch, str s_0.now_seq_head_branch, i64 s_0.now_seq_head_commit, s_0.now_seq_index.val, s_0.now_seq_work.val, s_0.now_stash.val, s_0.commits.val, s_0.log_back.val, s_0.log_forth.val, i64 s_0.time]) rfl gsz41 ?_
 refine Zy ?_
 cases hS
 exact VC.ret (finG (vs := [.agg #[q19_5_1.val, q19_5_0.val, s_0.now_refs.val, str s_0.now_head_branch, i64 s_0.now_head_commit, str s_0.now_seq_kind, i64 s_0.now_seq_other, str s_0.now_seq_text, s_0.now_seq_doing.val, s_0.now_seq_todo.val, i64 s_0.now_seq_made, str s_0.now_seq_branch, str s_0.now_seq_head_branch, i64 s_0.now_seq_head_commit, s_0.now_seq_index.val, s_0.now_seq_work.val, s_0.now_stash.val, s_0.commits.val, s_0.log_back.val, s_0.log_forth.val, i64 s_0.time], .nilIface]) (.inr rfl) rfl (RVs.cell gagg41 rfl rfl Rd.blk (RVs.tmp rfl (RVs.nil))) (⟨q19_5_1, q19_5_0, s_0.now_refs, s_0.now_head_branch, s_0.now_head_commit, s_0.now_seq_kind, s_0.now_seq_other, s_0.now_seq_text, s_0.now_seq_doing, s_0.now_seq_todo, s_0.now_seq_made, s_0.now_seq_branch, s_0.now_seq_head_branch, s_0.now_seq_head_commit, s_0.now_seq_index, s_0.now_seq_work, s_0.now_stash, s_0.commits, s_0.log_back, s_0.log_forth, s_0.time⟩, .nil) rfl rfl (by (try dsimp only); exact InM.out) (fun _ _ => trivial))
theorem repo_change_ct (s_0 : StateState) (c_1 : CmdCmd) {r : StateStateP × Err} (hS : Sh.repo_change s_0.pl c_1.pl = some r) :
 Ct Tryz.prog 130 [.agg (zStateState s_0).toArray, .agg #[str c_1.verb, str c_1.name, i64 c_1.n, str c_1.text, .bool c_1.force, c_1.todo.val]] (s_0.now_work.ok.and (s_0.now_index.ok.and (s_0.now_refs.ok.and (s_0.now_seq_doing.ok.and (s_0.now_seq_todo.ok.and (s_0.now_seq_index.ok.and (s_0.now_seq_work.ok.and (s_0.now_stash.ok.and (s_0.commits.ok.and (s_0.log_back.ok.and (s_0.log_forth.ok.and c_1.todo.ok))))))))))) (Ow.emp) (X := StateState × Er) (fun x => .tuple #[.agg (Dat.enc x.1).toArray, x.2.val]) (fun x => r = (x.1.pl, x.2.pl)) (fun x => (x.1.m.and x.2.ok)) (fun x => Ow.emp) := by
 refine Zo Tryz.func130 Tryz.ntmps130 fun c => ?_
 unfold Sh.repo_change at hS
 refine Zq (Zr ?_)
 refine VL.box (cs := (zStateState s_0)) rfl rfl (by decide) fun b2_1 => ?_
 refine VL.box (cs := [str c_1.verb, str c_1.name, i64 c_1.n, str c_1.text, .bool c_1.force, c_1.todo.val]) rfl rfl (by decide) fun b3_2 => ?_
 refine VL.alloc (cs := [.slice none 0 0, .slice none 0 0, .slice none 0 0, str [], i64 0, str [], i64 0, str [], .slice none 0 0, .slice none 0 0, i64 0, str [], str [], i64 0, .slice none 0 0, .slice none 0 0, .slice none 0 0, .slice none 0 0, .slice none 0 0, .slice none 0 0, i64 0]) (by kernel_rfl) (by decide) fun b4_3 => ?_
 refine Zy ?_
 refine Zq (Zr ?_)
 refine Zu (q_fes gagg41 rfl rfl) ?_
 refine Zu (q_fes gagg60 rfl rfl) ?_
 obtain ⟨y13_4, ey13_4, hS⟩ := bd_s hS
 refine VL.callF (repo_to_ct s_0 c_1 ey13_4) rfl (by decide) ?_
 rintro ⟨q13_4_0, q13_4_1⟩ rfl
 try dsimp only
 refine Zm ?_
 refine Zu (q_extract rfl rfl) ?_
 refine Zu (q_extract rfl rfl) ?_
 refine VL.alloc (cs := [str [], i64 0]) (by kernel_rfl) (by decide) fun b6_5 => ?_
 refine Zv (vc := [str q13_4_0.branch, i64 q13_4_0.commit]) (cs' := [str q13_4_0.branch, i64 q13_4_0.commit]) rfl gsz28 ?_
 refine Zy ?_
 refine VC.keep (ρ' := [(2, ptr b2_1 0), (3, ptr b3_2 0), (4, ptr b4_3 0), (6, ptr b6_5 0), (7, q13_4_1.val)]) [2, 3, 4, 6, 7] rfl ?_
 refine Zq (Zq (Zr ?_))
 refine Zm ?_
 refine Zu (q_erne Tryz.underlying45 rfl) ?_
 refine Zl ?_
 refine Zcn hS (fun h17 hS => ?_) (fun h17 hS => ?_)
 ·
  refine Zq ?_
  cases hS
 refine Zk ?_
 refine Zq (Zr ?_)
 refine Zu (q_fes gagg41 rfl rfl) ?_
 refine Zu (q_field gfa28_1 rfl) ?_
 refine Zu (q_fe gone3 rfl rfl) ?_
 obtain ⟨y23_6, ey23_6, hS⟩ := bd_s hS
 refine VL.callF (state_Tree_ct s_0 q13_4_0.commit ey23_6) rfl (by decide) ?_
 rintro q23_6_0 rfl
 try dsimp only
 refine Zy ?_
 refine VC.keep (ρ' := [(2, ptr b2_1 0), (3, ptr b3_2 0), (4, ptr b4_3 0), (6, ptr b6_5 0), (8, q23_6_0.val)]) [2, 3, 4, 6, 8] rfl ?_
 refine Zq (Zr ?_)
 refine Zu (q_fes gagg41 rfl rfl) ?_
 refine VL.alloc (cs := [.slice none 0 0, .slice none 0 0, .slice none 0 0, str [], i64 0, str [], i64 0, str [], .slice none 0 0, .slice none 0 0, i64 0, str [], str [], i64 0, .slice none 0 0, .slice none 0 0, .slice none 0 0, .slice none 0 0, .slice none 0 0, .slice none 0 0, i64 0]) (by kernel_rfl) (by decide) fun b9_7 => ?_
 refine Zv (vc := (zStateState s_0)) (cs' := (zStateState s_0)) rfl gsz41 ?_
 refine Zl ?_
 refine VC.cutJ (S := Sv FilesFile × Sv IndexEntry × Sv NamesRef × Str × Int × Str × Int × Str × Sv TodoStep × Sv TodoStep × Int × Str × Str × Int × Sv IndexEntry × Sv FilesFile × Sv ShelfShelf × Sv StateCommit × Sv Str × Sv Str × Int) (fun sg => (sg.1.l, sg.2.1.l, sg.2.2.1.l, sg.2.2.2.1, sg.2.2.2.2.1, sg.2.2.2.2.2.1, sg.2.2.2.2.2.2.1, sg.2.2.2.2.2.2.2.1, sg.2.2.2.2.2.2.2.2.1.l, sg.2.2.2.2.2.2.2.2.2.1.l, sg.2.2.2.2.2.2.2.2.2.2.1, sg.2.2.2.2.2.2.2.2.2.2.2.1, sg.2.2.2.2.2.2.2.2.2.2.2.2.1, sg.2.2.2.2.2.2.2.2.2.2.2.2.2.1, sg.2.2.2.2.2.2.2.2.2.2.2.2.2.2.1.l, sg.2.2.2.2.2.2.2.2.2.2.2.2.2.2.2.1.l, (sg.2.2.2.2.2.2.2.2.2.2.2.2.2.2.2.2.1.l.map ShelfShelf.pl), (sg.2.2.2.2.2.2.2.2.2.2.2.2.2.2.2.2.2.1.l.map StateCommit.pl), sg.2.2.2.2.2.2.2.2.2.2.2.2.2.2.2.2.2.2.1.l, sg.2.2.2.2.2.2.2.2.2.2.2.2.2.2.2.2.2.2.2.1.l, sg.2.2.2.2.2.2.2.2.2.2.2.2.2.2.2.2.2.2.2.2)) (fun sg => [(2, ptr b2_1 0), (4, ptr b4_3 0), (6, ptr b6_5 0), (9, ptr b9_7 0)]) (fun sg => (sg.1.ok.and (sg.2.1.ok.and (sg.2.2.1.ok.and (sg.2.2.2.2.2.2.2.2.1.ok.and (sg.2.2.2.2.2.2.2.2.2.1.ok.and (sg.2.2.2.2.2.2.2.2.2.2.2.2.2.2.1.ok.and (sg.2.2.2.2.2.2.2.2.2.2.2.2.2.2.2.1.ok.and (sg.2.2.2.2.2.2.2.2.2.2.2.2.2.2.2.2.1.ok.and (sg.2.2.2.2.2.2.2.2.2.2.2.2.2.2.2.2.2.1.ok.and (sg.2.2.2.2.2.2.2.2.2.2.2.2.2.2.2.2.2.2.1.ok.and sg.2.2.2.2.2.2.2.2.2.2.2.2.2.2.2.2.2.2.2.1.ok))))))))))) (fun sg => Ow.star (Blk b9_7 [sg.1.val, sg.2.1.val, sg.2.2.1.val, str sg.2.2.2.1, i64 sg.2.2.2.2.1, str sg.2.2.2.2.2.1, i64 sg.2.2.2.2.2.2.1, str sg.2.2.2.2.2.2.2.1, sg.2.2.2.2.2.2.2.2.1.val, sg.2.2.2.2.2.2.2.2.2.1.val, i64 sg.2.2.2.2.2.2.2.2.2.2.1, str sg.2.2.2.2.2.2.2.2.2.2.2.1, str sg.2.2.2.2.2.2.2.2.2.2.2.2.1, i64 sg.2.2.2.2.2.2.2.2.2.2.2.2.2.1, sg.2.2.2.2.2.2.2.2.2.2.2.2.2.2.1.val, sg.2.2.2.2.2.2.2.2.2.2.2.2.2.2.2.1.val, sg.2.2.2.2.2.2.2.2.2.2.2.2.2.2.2.2.1.val, sg.2.2.2.2.2.2.2.2.2.2.2.2.2.2.2.2.2.1.val, sg.2.2.2.2.2.2.2.2.2.2.2.2.2.2.2.2.2.2.1.val, sg.2.2.2.2.2.2.2.2.2.2.2.2.2.2.2.2.2.2.2.1.val, i64 sg.2.2.2.2.2.2.2.2.2.2.2.2.2.2.2.2.2.2.2.2] 41) (Ow.star (Blk b6_5 [str q13_4_0.branch, i64 q13_4_0.commit] 28) (Ow.star (Blk b4_3 [.slice none 0 0, .slice none 0 0, .slice none 0 0, str [], i64 0, str [], i64 0, str [], .slice none 0 0, .slice none 0 0, i64 0, str [], str [], i64 0, .slice none 0 0, .slice none 0 0, .slice none 0 0, .slice none 0 0, .slice none 0 0, .slice none 0 0, i64 0] 41) (Ow.star (Blk b3_2 [str c_1.verb, str c_1.name, i64 c_1.n, str c_1.text, .bool c_1.force, c_1.todo.val] 60) (Ow.star (Blk b2_1 (zStateState s_0) 41) (Ow.emp)))))) hS ?_ ?_
 ·
  clear hS
  intro k29 hS
  refine Zb (Zq (Zr ?_))
  refine Zu (q_field gfa60_4 rfl) ?_
  refine Zu (q_fe gone4 rfl rfl) ?_
  refine Zy ?_
  refine Zcb hS (fun h36 hS => ?_) (fun h36 hS => ?_)
  ·
   refine Zr ?_
   refine Zu (q_fes gagg41 rfl rfl) ?_
   refine Zm ?_
   obtain ⟨y41_30, ey41_30, hS⟩ := bd_s hS
   refine VL.callF (repo_forced_ct s_0 q23_6_0 ey41_30) rfl (by decide) ?_
   rintro q41_30_0 rfl
   try dsimp only
   refine Zv (vc := (zStateState q41_30_0)) (cs' := (zStateState q41_30_0)) rfl gsz41 ?_
   refine VL.mt (q41_30_0.now_work, q41_30_0.now_index, q41_30_0.now_refs, q41_30_0.now_head_branch, q41_30_0.now_head_commit, q41_30_0.now_seq_kind, q41_30_0.now_seq_other, q41_30_0.now_seq_text, q41_30_0.now_seq_doing, q41_30_0.now_seq_todo, q41_30_0.now_seq_made, q41_30_0.now_seq_branch, q41_30_0.now_seq_head_branch, q41_30_0.now_seq_head_commit, q41_30_0.now_seq_index, q41_30_0.now_seq_work, q41_30_0.now_stash, q41_30_0.commits, q41_30_0.log_back, q41_30_0.log_forth, q41_30_0.time) [2, 4, 6, 9] (fun _ _ h => h) hS rfl
  refine Zq (Zr ?_)
  refine Zu (q_field gfa41_0 rfl) ?_
  refine Zu (q_field gfa35_1 rfl) ?_
  refine Zu (q_fe gone25 rfl rfl) ?_
  obtain ⟨y46_31, ey46_31, hS⟩ := bd_s hS
  refine VL.callF (index_Conflicts_ct s_0.now_index ey46_31) rfl (by decide) ?_
  rintro q46_31_0 rfl
  try dsimp only
  refine Zu (q_ln (s := q46_31_0) Tryz.underlying37 rfl) ?_
  refine Zu (q_gtr rfl rfl) ?_
  refine Zy ?_
  refine VC.keep (ρ' := [(2, ptr b2_1 0), (4, ptr b4_3 0), (6, ptr b6_5 0), (8, q23_6_0.val), (9, ptr b9_7 0), (42, .bool (decide (0 < (q46_31_0.l.length : Int))))]) [2, 4, 6, 8, 9, 42] rfl ?_
  refine Zc hS (fun h42 hS => ?_) (fun h42 hS => ?_)
  ·
   refine Zq ?_
   cases hS
  refine Zq (Zr ?_)
  refine Zu (q_fes gagg41 rfl rfl) ?_
  refine Zm ?_
  refine Zu (q_build (vs := [(0, q23_6_0.val)]) (cs := #[q23_6_0.val, .slice none 0 0, .slice none 0 0]) rfl (by kernel_rfl)) ?_
  obtain ⟨y29_32, ey29_32, hS⟩ := bd_s hS
  refine VL.callF (repo_laid_ct s_0 (⟨q23_6_0, ⟨none, 0, []⟩, ⟨none, 0, []⟩⟩ : TmergeResult) ey29_32) rfl (by decide) ?_
  rintro ⟨q29_32_0, q29_32_1⟩ rfl
  try dsimp only
  refine Zm ?_
  refine Zu (q_extract rfl rfl) ?_
  refine Zu (q_extract rfl rfl) ?_
  refine Zv (vc := (zStateState q29_32_0)) (cs' := (zStateState q29_32_0)) rfl gsz41 ?_
  refine Zy ?_
  refine VC.keep (ρ' := [(2, ptr b2_1 0), (4, ptr b4_3 0), (6, ptr b6_5 0), (9, ptr b9_7 0), (7, q29_32_1.val)]) [2, 4, 6, 9, 7] rfl ?_
  refine Zq (Zr ?_)
  refine Zm ?_
  refine Zu (q_erne Tryz.underlying45 rfl) ?_
  refine Zl ?_
  refine Zcn hS (fun h33 hS => ?_) (fun h33 hS => ?_)
  ·
   refine Zq (Zr ?_)
   refine Zu (q_fes gagg41 rfl rfl) ?_
   refine Zm ?_
   refine Zv (vc := (zStateState s_0)) (cs' := (zStateState s_0)) rfl gsz41 ?_
   refine Zy ?_
   cases hS
   exact VC.ret (finG (vs := [.agg (zStateState s_0).toArray, q29_32_1.val]) (.inr rfl) rfl (RVs.cell gagg41 rfl rfl Rd.blk (RVs.tmp rfl (RVs.nil))) (s_0, q29_32_1) rfl rfl (by (try dsimp only); exact InM.out) (fun _ _ => trivial))
  refine VC.skip_mt (q29_32_0.now_work, q29_32_0.now_index, q29_32_0.now_refs, q29_32_0.now_head_branch, q29_32_0.now_head_commit, q29_32_0.now_seq_kind, q29_32_0.now_seq_other, q29_32_0.now_seq_text, q29_32_0.now_seq_doing, q29_32_0.now_seq_todo, q29_32_0.now_seq_made, q29_32_0.now_seq_branch, q29_32_0.now_seq_head_branch, q29_32_0.now_seq_head_commit, q29_32_0.now_seq_index, q29_32_0.now_seq_work, q29_32_0.now_stash, q29_32_0.commits, q29_32_0.log_back, q29_32_0.log_forth, q29_32_0.time) [2, 4, 6, 9] (fun _ _ h => h) hS rfl
 clear hS
 rintro ⟨c0_8, c1_9, c2_10, c3_11, c4_12, c5_13, c6_14, c7_15, c8_16, c9_17, c10_18, c11_19, c12_20, c13_21, c14_22, c15_23, c16_24, c17_25, c18_26, c19_27, c20_28⟩ hS
 refine Zq ?_
 refine VC.cutJ (S := Bool) (fun (x59_33 : Bool) => x59_33) (fun (x59_33 : Bool) => [(2, ptr b2_1 0), (4, ptr b4_3 0), (6, ptr b6_5 0), (9, ptr b9_7 0), (59, .bool x59_33)]) (fun (x59_33 : Bool) => Mo.tt) (fun (x59_33 : Bool) => Ow.star (Blk b9_7 [c0_8.val, c1_9.val, c2_10.val, str c3_11, i64 c4_12, str c5_13, i64 c6_14, str c7_15, c8_16.val, c9_17.val, i64 c10_18, str c11_19, str c12_20, i64 c13_21, c14_22.val, c15_23.val, c16_24.val, c17_25.val, c18_26.val, c19_27.val, i64 c20_28] 41) (Ow.star (Blk b6_5 [str q13_4_0.branch, i64 q13_4_0.commit] 28) (Ow.star (Blk b4_3 [.slice none 0 0, .slice none 0 0, .slice none 0 0, str [], i64 0, str [], i64 0, str [], .slice none 0 0, .slice none 0 0, i64 0, str [], str [], i64 0, .slice none 0 0, .slice none 0 0, .slice none 0 0, .slice none 0 0, .slice none 0 0, .slice none 0 0, i64 0] 41) (Ow.star (Blk b3_2 [str c_1.verb, str c_1.name, i64 c_1.n, str c_1.text, .bool c_1.force, c_1.todo.val] 60) (Ow.star (Blk b2_1 (zStateState s_0) 41) (Ow.emp)))))) hS ?_ ?_
 ·
  clear hS
  intro k34 hS
  refine Zr ?_
  refine Zu (q_fes gagg41 rfl rfl) ?_
  obtain ⟨y52_35, ey52_35, hS⟩ := bd_s hS
  refine Zu (q_call (repo_full_ct (⟨c0_8, c1_9, c2_10, c3_11, c4_12, c5_13, c6_14, c7_15, c8_16, c9_17, c10_18, c11_19, c12_20, c13_21, c14_22, c15_23, c16_24, c17_25, c18_26, c19_27, c20_28⟩ : StateState) ey52_35) rfl (fun _ _ => rfl)) ?_
  refine Zm ?_
  refine Zspb 53 hS (fun h53 hS => ?_) (fun h53 hS => ?_)
  ·
   refine VL.skips 5 [58] (by kernel_rfl) ?_
   refine Zt ?_
   refine VL.mt true [2, 4, 6, 9, 59] (fun _ _ h => h) hS rfl
  refine Zh (q_field gfa41_0 rfl) ?_
  refine Zh (q_field gfa35_1 rfl) ?_
  refine Zh (q_fe gone25 rfl rfl) ?_
  refine Zh (q_ln (s := c1_9) Tryz.underlying25 rfl) ?_
  refine Zh (q_gtr rfl rfl) ?_
  refine Zf ?_
  refine VL.mt (decide (256 < (c1_9.l.length : Int))) [2, 4, 6, 9, 59] (fun _ _ h => h) hS rfl
 clear hS
 rintro x59_33 hS
 refine Zcb hS (fun h59 hS => ?_) (fun h59 hS => ?_)
 ·
  refine Zq ?_
  cases hS
 refine Zk ?_
 refine Zq (Zr ?_)
 refine Zu (q_fes gagg28 rfl rfl) ?_
 refine Zu (q_field gfa41_0 rfl) ?_
 refine Zu (q_field gfa35_3 rfl) ?_
 refine Zv (vc := [str q13_4_0.branch, i64 q13_4_0.commit]) (cs' := [c0_8.val, c1_9.val, c2_10.val, str q13_4_0.branch, i64 q13_4_0.commit, str c5_13, i64 c6_14, str c7_15, c8_16.val, c9_17.val, i64 c10_18, str c11_19, str c12_20, i64 c13_21, c14_22.val, c15_23.val, c16_24.val, c17_25.val, c18_26.val, c19_27.val, i64 c20_28]) rfl gsz28 ?_
 refine Zl ?_
 refine Zq (Zr ?_)
 refine Zu (q_fes gagg41 rfl rfl) ?_
 refine Zv (vc := [c0_8.val, c1_9.val, c2_10.val, str q13_4_0.branch, i64 q13_4_0.commit, str c5_13, i64 c6_14, str c7_15, c8_16.val, c9_17.val, i64 c10_18, str c11_19, str c12_20, i64 c13_21, c14_22.val, c15_23.val, c16_24.val, c17_25.val, c18_26.val, c19_27.val, i64 c20_28]) (cs' := [c0_8.val, c1_9.val, c2_10.val, str q13_4_0.branch, i64 q13_4_0.commit, str c5_13, i64 c6_14, str c7_15, c8_16.val, c9_17.val, i64 c10_18, str c11_19, str c12_20, i64 c13_21, c14_22.val, c15_23.val, c16_24.val, c17_25.val, c18_26.val, c19_27.val, i64 c20_28]) rfl gsz41 ?_
 refine Zy ?_
 cases hS
 exact VC.ret (finG (vs := [.agg #[c0_8.val, c1_9.val, c2_10.val, str q13_4_0.branch, i64 q13_4_0.commit, str c5_13, i64 c6_14, str c7_15, c8_16.val, c9_17.val, i64 c10_18, str c11_19, str c12_20, i64 c13_21, c14_22.val, c15_23.val, c16_24.val, c17_25.val, c18_26.val, c19_27.val, i64 c20_28], .nilIface]) (.inr rfl) rfl (RVs.cell gagg41 rfl rfl Rd.blk (RVs.tmp rfl (RVs.nil))) (⟨c0_8, c1_9, c2_10, q13_4_0.branch, q13_4_0.commit, c5_13, c6_14, c7_15, c8_16, c9_17, c10_18, c11_19, c12_20, c13_21, c14_22, c15_23, c16_24, c17_25, c18_26, c19_27, c20_28⟩, .nil) rfl rfl (by (try dsimp only); exact InM.out) (fun _ _ => trivial))
theorem slices_Clone_int_int_ct (s_0 : Sv Int) {r : List Int} (hS : Sh.slices_Clone_int_int s_0.l = some r) :
 Ct Tryz.prog 289 [s_0.val] s_0.ok (Ow.emp) (X := Sv Int) (fun x => x.val) (fun x => r = x.l) (fun x => Mo.tt) (fun x => Sv.own x 3) := by
 refine Zo Tryz.func289 Tryz.ntmps289 fun c => ?_
 unfold Sh.slices_Clone_int_int at hS
 refine Zq (Zr ?_)
 refine Zy ?_
 refine Zq (Zq (Zr ?_))
 refine Zm ?_
 refine Zu (q_slnil (s := s_0) Tryz.underlying56 rfl) ?_
 refine Zl ?_
 refine VC.slnil (s := s_0) rfl (fun h4 => ?_) ?_
 ·
  have hS : (some []) = some r := by
    simp [lt, gd, h4] at hS ⊢
    try exact hS
  refine Zq (Zr ?_)
  refine Zy ?_
  refine VC.nilO (⟨none, 0, []⟩ : Sv Int) 3 ⟨rfl, rfl⟩ ?_
  cases hS
  exact VC.ret (fin1 (.inr rfl) rfl rfl ⟨none, 0, []⟩ rfl rfl (by (try dsimp only); exact InM.out) (by (try dsimp only); exact EntO.out))
 refine Zk ?_
 refine Zq (Zr ?_)
 refine VL.lit0 (α := Int) Tryz.underlying56 ghas3 (by decide) (fun s5_1 hs5_1 hcs5_1 => ?_)
 refine VL.nilO s5_1 3 ⟨hcs5_1, hs5_1⟩ ?_
 replace hS := lt_to hs5_1 hS
 refine Zm ?_
 obtain ⟨b7, hS⟩ := gd_s hS
 refine VL.app (s := s5_1) (r := s_0) Tryz.underlying56 gapp3 (by decide) rfl Fo.out (ap1 b7) (ap2 b7 (by decide)) (by decide) (fun s7_3 hs7_3 => ?_)
 replace hS := lt_to hs7_3 hS
 refine Zy ?_
 cases hS
 exact VC.ret (fin1 (.inr rfl) rfl rfl s7_3 rfl rfl (by (try dsimp only); exact InM.out) (by (try dsimp only); exact EntO.out))
theorem slices_Clip_graph_Graph_int_ct (s_0 : Sv (Sv Int)) {r : List (List Int)} (hS : Sh.slices_Clip_graph_Graph_int (s_0.l.map Sv.l) = some r) :
 Ct Tryz.prog 290 [s_0.val] s_0.ok (Ow.emp) (X := Sv (Sv Int)) (fun x => x.val) (fun x => r = (x.l.map Sv.l)) (fun x => x.ok) (fun x => Ow.emp) := by
 refine Zo Tryz.func290 Tryz.ntmps290 fun c => ?_
 unfold Sh.slices_Clip_graph_Graph_int at hS
 refine Zq (Zr ?_)
 refine Zy ?_
 refine Zq (Zr ?_)
 refine Zy ?_
 refine Zu (q_lnm Sv.l (s := s_0) Tryz.underlying287 rfl) ?_
 refine Zm ?_
 refine Zu (q_lnm Sv.l (s := s_0) Tryz.underlying287 rfl) ?_
 obtain ⟨b8, hS⟩ := gd_s hS
 refine VL.stom Tryz.underlying287 gsz56 rfl rfl rfl b8.1 (len_m b8.2) (by decide) fun s8_1 hs8_1 => ?_
 replace hS := lt_to ((congrArg (List.map Sv.l) hs8_1).trans List.map_take) hS
 refine Zy ?_
 cases hS
 exact VC.ret (fin1 (.inr rfl) rfl rfl s8_1 rfl rfl (by (try dsimp only); exact InM.out) (fun _ _ => trivial))
theorem state_Graph_ct (s_0 : StateState) {r : List (List Int)} (hS : Sh.state_Graph s_0.pl = some r) :
 Ct Tryz.prog 229 [.agg (zStateState s_0).toArray] (s_0.now_work.ok.and (s_0.now_index.ok.and (s_0.now_refs.ok.and (s_0.now_seq_doing.ok.and (s_0.now_seq_todo.ok.and (s_0.now_seq_index.ok.and (s_0.now_seq_work.ok.and (s_0.now_stash.ok.and (s_0.commits.ok.and (s_0.log_back.ok.and s_0.log_forth.ok)))))))))) (Ow.emp) (X := Sv (Sv Int)) (fun x => x.val) (fun x => r = (x.l.map Sv.l)) (fun x => x.ok) (fun x => Ow.emp) := by
 refine Zo Tryz.func229 Tryz.ntmps229 fun c => ?_
 unfold Sh.state_Graph at hS
 refine Zq (Zr ?_)
 refine VL.box (cs := (zStateState s_0)) rfl rfl (by decide) fun b1_1 => ?_
 refine Zy ?_
 refine Zq (Zr ?_)
 refine Zy ?_
 refine Zq (Zq (Zr ?_))
 refine Zu (q_field gfa41_1 rfl) ?_
 refine Zu (q_fe gone36 rfl rfl) ?_
 refine Zu (q_lnm StateCommit.pl (s := s_0.commits) Tryz.underlying36 rfl) ?_
 refine Zy ?_
 refine Zb ?_
 refine VC.nilO (⟨none, 0, []⟩ : Sv (Sv Int)) 56 ⟨rfl, rfl⟩ ?_
 refine VC.maNil (s := (⟨none, 0, []⟩ : Sv (Sv Int))) rfl ?_
 refine VC.iter (S := Sv (Sv Int) × Int) (fun sg => ((sg.1.l.map Sv.l), sg.2)) (fun sg => [(3, sg.1.val), (7, s_0.commits.val), (8, i64 ((s_0.commits.l.map StateCommit.pl).length : Int)), (9, i64 sg.2)]) (fun sg => (MAl sg.1.l)) (fun sg => Ow.star (Blk b1_1 (zStateState s_0) 41) (Ow.star (Sv.own sg.1 56) (Ow.emp))) (⟨none, 0, []⟩, 0) [3, 7, 8, 9] hS rfl ?_
 clear hS
 rintro ⟨out3_2, x9_3⟩ m1 y1 hS hK1
 refine Zq (Zr ?_)
 refine Zu (q_lss rfl rfl) ?_
 refine Zl ?_
 refine Zq ?_
 refine Zc hS (fun h10 hS => ?_) (fun h10 hS => ?_)
 ·
  refine Zk ?_
  refine Zq (Zb (Zq (Zr ?_)))
  obtain ⟨z11_4, nz11_4, hz11_4, hS⟩ := atm_s hS
  refine VL.deep z11_4.m hz11_4 (fun _ q => q) ?_
  refine Zu (q_ixm (s := s_0.commits) Tryz.underlying36 gsz58 rfl rfl nz11_4 (lt_of_get nz11_4 hz11_4)) ?_
  refine Zu (q_els (s := s_0.commits) gagg58 rfl rfl hz11_4) ?_
  refine VL.alloc (cs := [.slice none 0 0, .slice none 0 0, i64 0, str []]) (by kernel_rfl) (by decide) fun b5_5 => ?_
  refine Zv (vc := [z11_4.tree.val, z11_4.parents.val, i64 z11_4.time, str z11_4.text]) (cs' := [z11_4.tree.val, z11_4.parents.val, i64 z11_4.time, str z11_4.text]) rfl gsz58 ?_
  refine Zl ?_
  refine Zr ?_
  refine Zm ?_
  refine Zu (q_field gfa58_1 rfl) ?_
  refine Zu (q_fe gone56 rfl rfl) ?_
  obtain ⟨y16_6, ey16_6, hS⟩ := bd_s hS
  refine VL.callO (slices_Clone_int_int_ct z11_4.parents ey16_6) rfl (by decide) ?_
  rintro q16_6_0 rfl
  try dsimp only
  refine VL.shut q16_6_0 3 (fun _ _ _ _ => trivial) ?_
  obtain ⟨y17_7, ey17_7, hS⟩ := bd_s hS
  refine VL.callF (slices_Clip_int_int_ct q16_6_0 ey17_7) rfl (by decide) ?_
  rintro q17_7_0 rfl
  try dsimp only
  refine VL.lit (α := Sv Int) (xs := [.tmp 17]) (vs := [q17_7_0.val]) [q17_7_0] Tryz.underlying287 glit56 (by decide) rfl rfl rfl rfl (by decide) (fun h m => List.forall_mem_cons.2 ⟨InM.out (X := q17_7_0.ok) h m, fun _ h => by cases h⟩) (by decide) (fun s18_8 hs18_8 => ?_) (by decide)
  replace hS := lt_to (congrArg (List.map Sv.l) hs18_8) hS
  obtain ⟨b19, hS⟩ := gd_s hS
  refine VL.app (s := out3_2) (r := s18_8) Tryz.underlying287 gapp56 (by decide) rfl Fo.out (ap1 (apm b19)) (ap2 (apm b19) (by decide)) (by decide) (fun s19_10 hs19_10 => ?_)
  replace hS := lt_to ((congrArg (List.map Sv.l) hs19_10).trans List.map_append) hS
  refine VL.maApp hs19_10 ?_
  refine Zy ?_
  refine VC.keep (ρ' := [(3, s19_10.val), (7, s_0.commits.val), (8, i64 ((s_0.commits.l.map StateCommit.pl).length : Int)), (9, i64 x9_3)]) [3, 7, 8, 9] rfl ?_
  refine Zr ?_
  obtain ⟨b20, hS⟩ := gd_s hS
  refine Zu (q_add rfl rfl b20) ?_
  refine Zm ?_
  refine VL.rnd (s19_10, (x9_3 + 1)) [3, 7, 8, 9] (fun _ _ h => h) (go2 hS hK1) rfl
 replace hS := up2 hS hK1
 refine Zx ?_
 refine Zq (Zr ?_)
 refine Zm ?_
 refine VL.shut out3_2 56 (fun h m => InM.out (X := MAl out3_2.l) h m) ?_
 obtain ⟨y22_12, ey22_12, hS⟩ := bd_s hS
 refine VL.callF (slices_Clip_graph_Graph_int_ct out3_2 ey22_12) rfl (by decide) ?_
 rintro q22_12_0 rfl
 try dsimp only
 refine Zy ?_
 cases hS
 exact VC.ret (fin1 (.inr rfl) rfl rfl q22_12_0 rfl rfl (by (try dsimp only); exact InM.out) (fun _ _ => trivial))
theorem repo_clean_ct (s_0 : StateState) {r : Bool} (hS : Sh.repo_clean s_0.pl = some r) :
 Ct Tryz.prog 207 [.agg (zStateState s_0).toArray] (s_0.now_work.ok.and (s_0.now_index.ok.and (s_0.now_refs.ok.and (s_0.now_seq_doing.ok.and (s_0.now_seq_todo.ok.and (s_0.now_seq_index.ok.and (s_0.now_seq_work.ok.and (s_0.now_stash.ok.and (s_0.commits.ok.and (s_0.log_back.ok.and s_0.log_forth.ok)))))))))) (Ow.emp) (X := Unit) (fun _ => .bool r) (fun _ => True) (fun _ => Mo.tt) (fun _ => Ow.emp) := by
 refine Zo Tryz.func207 Tryz.ntmps207 fun c => ?_
 unfold Sh.repo_clean at hS
 refine Zq (Zr ?_)
 refine VL.box (cs := (zStateState s_0)) rfl rfl (by decide) fun b1_1 => ?_
 refine Zy ?_
 refine Zq ?_
 refine VC.draw [(0, true), (1, true), (2, true), (3, true), (4, false), (5, false), (6, true), (7, true)] mixed (by kernel_rfl) (by kernel_rfl) (by kernel_rfl) ?_
 refine Zw rfl (q_field gfa41_0 rfl) ?_
 refine Zw rfl (q_field gfa35_1 rfl) ?_
 refine Zw rfl (q_fe gone25 rfl rfl) ?_
 refine Zw rfl (q_fes gagg41 rfl rfl) ?_
 refine VD.one rfl ?_
 obtain ⟨y7_2, ey7_2, hS⟩ := bd_s hS
 refine VL.callF (repo_head_ct s_0 ey7_2) rfl (by decide) ?_
 rintro q7_2_0 rfl
 try dsimp only
 refine VL.back (D' := [(2, s_0.now_index.val), (1, ptr b1_1 1), (0, ptr b1_1 0)]) (by kernel_rfl) (Pend.cons rfl (q_fe gone25 rfl rfl) (Pend.cons rfl (q_field gfa35_1 rfl) (Pend.cons rfl (q_field gfa41_0 rfl) (Pend.nil)))) ?_
 refine VD.one rfl ?_
 obtain ⟨y8_3, ey8_3, hS⟩ := bd_s hS
 refine VL.callF (index_Of_ct q7_2_0 ey8_3) rfl (by decide) ?_
 rintro q8_3_0 rfl
 try dsimp only
 refine VL.back (D' := [(2, s_0.now_index.val), (1, ptr b1_1 1), (0, ptr b1_1 0)]) (by kernel_rfl) (Pend.cons rfl (q_fe gone25 rfl rfl) (Pend.cons rfl (q_field gfa35_1 rfl) (Pend.cons rfl (q_field gfa41_0 rfl) (Pend.nil)))) ?_
 obtain ⟨y9_4, ey9_4, hS⟩ := bd_s hS
 refine Zw rfl (q_call (index_Same_ct s_0.now_index q8_3_0 ey9_4) rfl (fun _ _ => rfl)) ?_
 refine Zw rfl (q_assign rfl) ?_
 refine VD.to (fun _ _ h => h) ?_
 cases hS
 exact Ze
theorem graph_Graph_seen_ct (g_0 : Sv (Sv Int)) (c_1 : Sv Int) {r : List Bool} (hS : Sh.graph_Graph_seen (g_0.l.map Sv.l) c_1.l = some r) :
 Ct Tryz.prog 291 [g_0.val, c_1.val] (g_0.ok.and c_1.ok) (Ow.emp) (X := Sv Bool) (fun x => x.val) (fun x => r = x.l) (fun x => Mo.tt) (fun x => Sv.own x 4) := by
 refine Zo Tryz.func291 Tryz.ntmps291 fun c => ?_
 unfold Sh.graph_Graph_seen at hS
 refine Zq (Zr ?_)
 refine Zy ?_
 refine Zq (Zr ?_)
 refine Zm ?_
 refine Zu (q_lnm Sv.l (s := g_0) Tryz.underlying287 rfl) ?_
 obtain ⟨b10, hS⟩ := gd_s hS
 refine Zu (q_add rfl rfl b10) ?_
 obtain ⟨b11, hS⟩ := gd_s hS
 refine VL.make (α := Bool) (z := false) Tryz.underlying343 gmk4 (by decide) rfl rfl b11.1 (Int.le_refl _) (by omega) (by omega) (by decide) (fun s11_1 hs11_1 => ?_)
 replace hS := lt_to hs11_1 hS
 refine Zy ?_
 refine Zq (Zr ?_)
 refine Zm ?_
 obtain ⟨y13_3, ey13_3, hS⟩ := bd_s hS
 refine VL.callO (slices_Clone_int_int_ct c_1 ey13_3) rfl (by decide) ?_
 rintro q13_3_0 rfl
 try dsimp only
 refine Zy ?_
 refine VC.keep (ρ' := [(0, g_0.val), (5, s11_1.val), (6, q13_3_0.val)]) [0, 5, 6] rfl ?_
 refine Zq (Zb ?_)
 refine VC.iter (S := Sv Bool × Sv Int) (fun sg => (sg.1.l, sg.2.l)) (fun sg => [(0, g_0.val), (5, sg.1.val), (6, sg.2.val)]) (fun sg => Mo.tt) (fun sg => Ow.star (Sv.own sg.1 4) (Ow.star (Sv.own sg.2 3) (Ow.emp))) (s11_1, q13_3_0) [0, 5, 6] hS rfl ?_
 clear hS
 rintro ⟨out5_4, wait6_5⟩ m1 y1 hS hK1
 refine Zq (Zq (Zr ?_))
 refine Zm ?_
 refine Zu (q_ln (s := wait6_5) Tryz.underlying56 rfl) ?_
 refine Zu (q_gtr rfl rfl) ?_
 refine Zl ?_
 refine Zc hS (fun h16 hS => ?_) (fun h16 hS => ?_)
 ·
  refine Zk ?_
  refine Zb (Zq (Zr ?_))
  refine Zy ?_
  refine Zu (q_ln (s := wait6_5) Tryz.underlying56 rfl) ?_
  obtain ⟨b20, hS⟩ := gd_s hS
  refine Zu (q_sub rfl rfl b20) ?_
  obtain ⟨z21_6, nz21_6, hz21_6, hS⟩ := at_s hS
  refine Zu (q_ixo (s := wait6_5) Tryz.underlying56 gsz3 rfl rfl nz21_6 (lt_of_get nz21_6 hz21_6)) ?_
  refine Zu (q_elo (s := wait6_5) 3 gone3 rfl hz21_6 rfl) ?_
  refine Zy ?_
  refine VC.keep (ρ' := [(0, g_0.val), (5, out5_4.val), (6, wait6_5.val), (7, i64 z21_6)]) [0, 5, 6, 7] rfl ?_
  refine Zq (Zr ?_)
  refine Zy ?_
  refine Zu (q_ln (s := wait6_5) Tryz.underlying56 rfl) ?_
  obtain ⟨b26, hS⟩ := gd_s hS
  refine Zu (q_sub rfl rfl b26) ?_
  obtain ⟨b27, hS⟩ := gd_s hS
  refine VL.ownT (s := wait6_5) Tryz.underlying56 gsz3 rfl rfl b27.1 b27.2 Fo.out (by decide) fun s27_7 hs27_7 => ?_
  replace hS := lt_to hs27_7 hS
  refine Zy ?_
  refine Zq (Zq (Zr ?_))
  refine Zm ?_
  refine Zu (q_lss rfl rfl) ?_
  refine Zm ?_
  refine Zsp 30 hS (fun h30 hS => ?_) (fun h30 hS => ?_)
  ·
   refine VL.skips 4 [34] (by kernel_rfl) ?_
   refine Zt ?_
   refine Zm ?_
   refine VL.skips 4 [40] (by kernel_rfl) ?_
   refine Zy ?_
   refine VC.keep (ρ' := [(0, g_0.val), (5, out5_4.val), (6, s27_7.val), (7, i64 z21_6), (41, .bool true)]) [0, 5, 6, 7, 41] rfl ?_
   refine VC.cond_t rfl ?_
   refine VC.exit_rnd (out5_4, s27_7) [0, 5, 6] (fun _ _ h => h) (go2 hS hK1) rfl
  refine Zy ?_
  refine Zh (q_lnm Sv.l (s := g_0) Tryz.underlying287 rfl) ?_
  refine Zh (q_gtr rfl rfl) ?_
  refine Zy ?_
  refine Zsp 36 hS (fun h36 hS => ?_) (fun h36 hS => ?_)
  ·
   refine VL.skips 4 [40] (by kernel_rfl) ?_
   refine Zy ?_
   refine VC.keep (ρ' := [(0, g_0.val), (5, out5_4.val), (6, s27_7.val), (7, i64 z21_6), (41, .bool true)]) [0, 5, 6, 7, 41] rfl ?_
   refine VC.cond_t rfl ?_
   refine VC.exit_rnd (out5_4, s27_7) [0, 5, 6] (fun _ _ h => h) (go2 hS hK1) rfl
  refine Zy ?_
  obtain ⟨z39_9, nz39_9, hz39_9, hS⟩ := at_s hS
  refine Zh (q_ixo (s := out5_4) Tryz.underlying343 gsz4 rfl rfl nz39_9 (lt_of_get nz39_9 hz39_9)) ?_
  refine Zh (q_elo (s := out5_4) 4 gone4 rfl hz39_9 rfl) ?_
  refine Zy ?_
  refine VC.keep (ρ' := [(0, g_0.val), (5, out5_4.val), (6, s27_7.val), (7, i64 z21_6), (41, .bool z39_9)]) [0, 5, 6, 7, 41] rfl ?_
  refine Zcb hS (fun h41 hS => ?_) (fun h41 hS => ?_)
  ·
   refine VC.exit_rnd (out5_4, s27_7) [0, 5, 6] (fun _ _ h => h) (go2 hS hK1) rfl
  refine Zk ?_
  refine Zq (Zr ?_)
  refine Zy ?_
  obtain ⟨z44_10, nz44_10, hz44_10, hS⟩ := at_s hS
  refine Zu (q_ixo (s := out5_4) Tryz.underlying343 gsz4 rfl rfl nz44_10 (lt_of_get nz44_10 hz44_10)) ?_
  refine VL.storeE (s := out5_4) (T := 4) (j := 0) (vc := [.bool true]) (true : Bool) (by decide) rfl rfl hz44_10 rfl gsz4 rfl rfl (Nat.le_of_ble_eq_true rfl) rfl (fun w11 hw11 haw11 hcw11 hvw11 hbw11 how11 => ?_)
  rw [← hvw11]
  replace hS := lt_to hw11 hS
  refine Zl ?_
  refine Zr ?_
  refine Zy ?_
  obtain ⟨b48, hS⟩ := gd_s hS
  refine Zu (q_sub rfl rfl b48) ?_
  obtain ⟨z49_13, nz49_13, hz49_13, hS⟩ := atm_s hS
  refine VL.deep z49_13.ok hz49_13 (fun _ q => q) ?_
  refine Zu (q_ixm (s := g_0) Tryz.underlying287 gsz56 rfl rfl nz49_13 (lt_of_get nz49_13 hz49_13)) ?_
  refine Zu (q_el (s := g_0) gone56 rfl hz49_13 rfl) ?_
  obtain ⟨b51, hS⟩ := gd_s hS
  refine VL.app (s := s27_7) (r := z49_13) Tryz.underlying56 gapp3 (by decide) rfl Fo.out (ap1 b51) (ap2 b51 (by decide)) (by decide) (fun s51_14 hs51_14 => ?_)
  replace hS := lt_to hs51_14 hS
  refine Za ?_
  refine VL.rnd (w11, s51_14) [0, 5, 6] (fun _ _ h => h) (go2 hS hK1) rfl
 replace hS := up2 hS hK1
 refine Zx ?_
 refine Zq (Zr ?_)
 refine Zy ?_
 cases hS
 exact VC.ret (fin1 (.inr rfl) rfl rfl out5_4 rfl rfl (by (try dsimp only); exact InM.out) (by (try dsimp only); exact EntO.out))
theorem graph_Graph_Is_ct (g_0 : Sv (Sv Int)) (a_1 : Int) (c_2 : Int) {r : Bool} (hS : Sh.graph_Graph_Is (g_0.l.map Sv.l) a_1 c_2 = some r) :
 Ct Tryz.prog 230 [g_0.val, i64 a_1, i64 c_2] g_0.ok (Ow.emp) (X := Unit) (fun _ => .bool r) (fun _ => True) (fun _ => Mo.tt) (fun _ => Ow.emp) := by
 refine Zo Tryz.func230 Tryz.ntmps230 fun c => ?_
 unfold Sh.graph_Graph_Is at hS
 refine Zq (Zr ?_)
 refine Zy ?_
 refine Zq (Zr ?_)
 refine Zm ?_
 refine Zu (q_geq rfl rfl) ?_
 refine Zm ?_
 refine Zsp 9 hS (fun h9 hS => ?_) (fun h9 hS => ?_)
 ·
  refine Zy ?_
  refine Zh (q_lnm Sv.l (s := g_0) Tryz.underlying287 rfl) ?_
  refine Zh (q_leq rfl rfl) ?_
  refine Zy ?_
  refine Zsp 15 hS (fun h15 hS => ?_) (fun h15 hS => ?_)
  ·
   refine Zy ?_
   refine VL.guard rfl rfl ?_
   refine VL.lit (α := Int) (xs := [.tmp 17]) (vs := [i64 c_2]) [c_2] Tryz.underlying56 glit3 (by decide) rfl rfl rfl rfl (by decide) (fun _ _ _ _ => trivial) (by decide) (fun s18_1 hs18_1 => ?_) (by decide)
   replace hS := lt_to hs18_1 hS
   refine VL.guard rfl rfl ?_
   obtain ⟨y19_3, ey19_3, hS⟩ := bd_s hS
   refine VL.callO (graph_Graph_seen_ct g_0 s18_1 ey19_3) rfl (by decide) ?_
   rintro q19_3_0 rfl
   try dsimp only
   refine Zg ?_
   obtain ⟨z21_4, nz21_4, hz21_4, hS⟩ := at_s hS
   refine Zh (q_ixo (s := q19_3_0) Tryz.underlying343 gsz4 rfl rfl nz21_4 (lt_of_get nz21_4 hz21_4)) ?_
   refine Zh (q_elo (s := q19_3_0) 4 gone4 rfl hz21_4 rfl) ?_
   refine Zy ?_
   refine VC.keep (ρ' := [(6, .bool z21_4)]) [6] rfl ?_
   cases hS
   exact Ze
  refine VL.skips 7 [22] (by kernel_rfl) ?_
  refine Zy ?_
  refine VC.keep (ρ' := [(6, .bool false)]) [6] rfl ?_
  cases hS
  exact Ze
 refine VL.skips 4 [13] (by kernel_rfl) ?_
 refine Zf ?_
 refine Zm ?_
 refine VL.skips 7 [22] (by kernel_rfl) ?_
 refine Zy ?_
 refine VC.keep (ρ' := [(6, .bool false)]) [6] rfl ?_
 cases hS
 exact Ze
theorem graph_row_ct (l_0 : Sv Bool) {r : List Int} (hS : Sh.graph_row l_0.l = some r) :
 Ct Tryz.prog 330 [l_0.val] l_0.ok (Ow.emp) (X := Sv Int) (fun x => x.val) (fun x => r = x.l) (fun x => x.ok) (fun x => Ow.emp) := by
 refine Zo Tryz.func330 Tryz.ntmps330 fun c => ?_
 unfold Sh.graph_row at hS
 refine Zq (Zr ?_)
 refine Zy ?_
 refine Zq (Zr ?_)
 refine Zy ?_
 refine Zq (Zq (Zr ?_))
 refine Zm ?_
 refine Zu (q_ln (s := l_0) Tryz.underlying343 rfl) ?_
 refine Zy ?_
 refine Zb ?_
 refine VC.nilO (⟨none, 0, []⟩ : Sv Int) 3 ⟨rfl, rfl⟩ ?_
 refine VC.iter (S := Sv Int × Int) (fun sg => (sg.1.l, sg.2)) (fun sg => [(3, sg.1.val), (6, l_0.val), (7, i64 (l_0.l.length : Int)), (8, i64 sg.2)]) (fun sg => Mo.tt) (fun sg => Ow.star (Sv.own sg.1 3) (Ow.emp)) (⟨none, 0, []⟩, 0) [3, 6, 7, 8] hS rfl ?_
 clear hS
 rintro ⟨out3_1, x8_2⟩ m1 y1 hS hK1
 refine Zq (Zr ?_)
 refine Zu (q_lss rfl rfl) ?_
 refine Zl ?_
 refine Zq ?_
 refine Zc hS (fun h9 hS => ?_) (fun h9 hS => ?_)
 ·
  refine Zk ?_
  refine Zq (Zb (Zq (Zr ?_)))
  refine Zm ?_
  obtain ⟨z11_3, nz11_3, hz11_3, hS⟩ := at_s hS
  refine Zu (q_ixm (s := l_0) Tryz.underlying343 gsz4 rfl rfl nz11_3 (lt_of_get nz11_3 hz11_3)) ?_
  refine Zu (q_el (s := l_0) gone4 rfl hz11_3 rfl) ?_
  refine Zy ?_
  refine Zq (Zr ?_)
  refine Zy ?_
  refine Zcb hS (fun h13 hS => ?_) (fun h13 hS => ?_)
  ·
   refine Zr ?_
   refine Zy ?_
   refine VL.lit (α := Int) (xs := [.tmp 15]) (vs := [i64 x8_2]) [x8_2] Tryz.underlying56 glit3 (by decide) rfl rfl rfl rfl (by decide) (fun _ _ _ _ => trivial) (by decide) (fun s16_4 hs16_4 => ?_) (by decide)
   replace hS := lt_to hs16_4 hS
   obtain ⟨b17, hS⟩ := gd_s hS
   refine VL.app (s := out3_1) (r := s16_4) Tryz.underlying56 gapp3 (by decide) rfl Fo.out (ap1 b17) (ap2 b17 (by decide)) (by decide) (fun s17_6 hs17_6 => ?_)
   replace hS := lt_to hs17_6 hS
   refine Zy ?_
   refine VC.keep (ρ' := [(3, s17_6.val), (6, l_0.val), (7, i64 (l_0.l.length : Int)), (8, i64 x8_2)]) [3, 6, 7, 8] rfl ?_
   refine Zr ?_
   obtain ⟨b18, hS⟩ := gd_s hS
   refine Zu (q_add rfl rfl b18) ?_
   refine Zm ?_
   refine VL.rnd (s17_6, (x8_2 + 1)) [3, 6, 7, 8] (fun _ _ h => h) (go2 hS hK1) rfl
  refine Zk ?_
  refine VC.keep (ρ' := [(3, out3_1.val), (6, l_0.val), (7, i64 (l_0.l.length : Int)), (8, i64 x8_2)]) [3, 6, 7, 8] rfl ?_
  refine Zr ?_
  obtain ⟨b18, hS⟩ := gd_s hS
  refine Zu (q_add rfl rfl b18) ?_
  refine Zm ?_
  refine VL.rnd (out3_1, (x8_2 + 1)) [3, 6, 7, 8] (fun _ _ h => h) (go2 hS hK1) rfl
 replace hS := up2 hS hK1
 refine Zx ?_
 refine Zq (Zr ?_)
 refine Zm ?_
 refine VL.shut out3_1 3 (fun _ _ _ _ => trivial) ?_
 obtain ⟨y20_8, ey20_8, hS⟩ := bd_s hS
 refine VL.callF (slices_Clip_int_int_ct out3_1 ey20_8) rfl (by decide) ?_
 rintro q20_8_0 rfl
 try dsimp only
 refine Zy ?_
 cases hS
 exact VC.ret (fin1 (.inr rfl) rfl rfl q20_8_0 rfl rfl (by (try dsimp only); exact InM.out) (fun _ _ => trivial))
theorem graph_Graph_Bases_ct (g_0 : Sv (Sv Int)) (a_1 : Int) (b_2 : Int) {r : List Int} (hS : Sh.graph_Graph_Bases (g_0.l.map Sv.l) a_1 b_2 = some r) :
 Ct Tryz.prog 292 [g_0.val, i64 a_1, i64 b_2] g_0.ok (Ow.emp) (X := Sv Int) (fun x => x.val) (fun x => r = x.l) (fun x => x.ok) (fun x => Ow.emp) := by
 refine Zo Tryz.func292 Tryz.ntmps292 fun c => ?_
 unfold Sh.graph_Graph_Bases at hS
 refine Zq (Zr ?_)
 refine Zy ?_
 refine Zq (Zr ?_)
 refine Zy ?_
 refine VL.lit (α := Int) (xs := [.tmp 14]) (vs := [i64 a_1]) [a_1] Tryz.underlying56 glit3 (by decide) rfl rfl rfl rfl (by decide) (fun _ _ _ _ => trivial) (by decide) (fun s15_1 hs15_1 => ?_) (by decide)
 replace hS := lt_to hs15_1 hS
 obtain ⟨y16_3, ey16_3, hS⟩ := bd_s hS
 refine VL.callO (graph_Graph_seen_ct g_0 s15_1 ey16_3) rfl (by decide) ?_
 rintro q16_3_0 rfl
 try dsimp only
 refine Zy ?_
 refine VL.lit (α := Int) (xs := [.tmp 18]) (vs := [i64 b_2]) [b_2] Tryz.underlying56 glit3 (by decide) rfl rfl rfl rfl (by decide) (fun _ _ _ _ => trivial) (by decide) (fun s19_4 hs19_4 => ?_) (by decide)
 replace hS := lt_to hs19_4 hS
 obtain ⟨y20_6, ey20_6, hS⟩ := bd_s hS
 refine VL.callO (graph_Graph_seen_ct g_0 s19_4 ey20_6) rfl (by decide) ?_
 rintro q20_6_0 rfl
 try dsimp only
 refine Zy ?_
 refine VC.keep (ρ' := [(0, g_0.val), (7, q16_3_0.val), (8, q20_6_0.val)]) [0, 7, 8] rfl ?_
 refine Zq (Zr ?_)
 refine Zy ?_
 refine Zq (Zq (Zr ?_))
 refine Zm ?_
 refine Zu (q_ln (s := q16_3_0) Tryz.underlying343 rfl) ?_
 refine Zy ?_
 refine Zb ?_
 refine VC.nilO (⟨none, 0, []⟩ : Sv Int) 3 ⟨rfl, rfl⟩ ?_
 refine VC.iter (S := Sv Bool × Sv Int × Int) (fun sg => (sg.1.l, sg.2.1.l, sg.2.2)) (fun sg => [(0, g_0.val), (7, sg.1.val), (8, q20_6_0.val), (9, sg.2.1.val), (22, i64 (q16_3_0.l.length : Int)), (23, i64 sg.2.2)]) (fun sg => Mo.tt) (fun sg => Ow.star (Sv.own q20_6_0 4) (Ow.star (Sv.own sg.1 4) (Ow.star (Sv.own sg.2.1 3) (Ow.emp)))) (q16_3_0, ⟨none, 0, []⟩, 0) [0, 7, 8, 9, 22, 23] hS rfl ?_
 clear hS
 rintro ⟨x7_7, parents9_8, x23_9⟩ m1 y1 hS hK1
 refine Zq (Zr ?_)
 refine Zu (q_lss rfl rfl) ?_
 refine Zl ?_
 refine Zq ?_
 refine Zc hS (fun h24 hS => ?_) (fun h24 hS => ?_)
 ·
  refine Zk ?_
  refine Zq (Zb (Zq (Zr ?_)))
  refine Zy ?_
  refine VC.cutJ (S := Sv Bool) (fun (x7_10 : Sv Bool) => x7_10.l) (fun (x7_10 : Sv Bool) => [(0, g_0.val), (7, x7_10.val), (8, q20_6_0.val), (9, parents9_8.val), (10, i64 x23_9), (22, i64 (q16_3_0.l.length : Int)), (23, i64 x23_9)]) (fun (x7_10 : Sv Bool) => Mo.tt) (fun (x7_10 : Sv Bool) => Ow.star (Sv.own q20_6_0 4) (Ow.star (Sv.own parents9_8 3) (Ow.star (Sv.own x7_10 4) (Ow.emp)))) hS ?_ ?_
  ·
   clear hS
   intro k11 hS
   refine Zr ?_
   refine Zy ?_
   obtain ⟨z30_12, nz30_12, hz30_12, hS⟩ := at_s hS
   refine Zu (q_ixo (s := x7_7) Tryz.underlying343 gsz4 rfl rfl nz30_12 (lt_of_get nz30_12 hz30_12)) ?_
   refine Zu (q_elo (s := x7_7) 4 gone4 rfl hz30_12 rfl) ?_
   refine Zm ?_
   refine Zspb 32 hS (fun h32 hS => ?_) (fun h32 hS => ?_)
   ·
    refine Zy ?_
    obtain ⟨z35_13, nz35_13, hz35_13, hS⟩ := at_s hS
    refine Zh (q_ixo (s := q20_6_0) Tryz.underlying343 gsz4 rfl rfl nz35_13 (lt_of_get nz35_13 hz35_13)) ?_
    refine Zh (q_elo (s := q20_6_0) 4 gone4 rfl hz35_13 rfl) ?_
    refine Zt ?_
    obtain ⟨z38_14, nz38_14, hz38_14, hS⟩ := at_s hS
    refine Zu (q_ixo (s := x7_7) Tryz.underlying343 gsz4 rfl rfl nz38_14 (lt_of_get nz38_14 hz38_14)) ?_
    refine VL.storeE (s := x7_7) (T := 4) (j := 0) (vc := [.bool z35_13]) (z35_13 : Bool) (by decide) rfl rfl hz38_14 rfl gsz4 rfl rfl (Nat.le_of_ble_eq_true rfl) rfl (fun w15 hw15 haw15 hcw15 hvw15 hbw15 how15 => ?_)
    rw [← hvw15]
    replace hS := lt_to hw15 hS
    refine VL.mt w15 [0, 7, 8, 9, 10, 22, 23] (fun _ _ h => h) hS rfl
   refine VL.skips 4 [36] (by kernel_rfl) ?_
   refine Zf ?_
   obtain ⟨z38_17, nz38_17, hz38_17, hS⟩ := at_s hS
   refine Zu (q_ixo (s := x7_7) Tryz.underlying343 gsz4 rfl rfl nz38_17 (lt_of_get nz38_17 hz38_17)) ?_
   refine VL.storeE (s := x7_7) (T := 4) (j := 0) (vc := [.bool false]) (false : Bool) (by decide) rfl rfl hz38_17 rfl gsz4 rfl rfl (Nat.le_of_ble_eq_true rfl) rfl (fun w18 hw18 haw18 hcw18 hvw18 hbw18 how18 => ?_)
   rw [← hvw18]
   replace hS := lt_to hw18 hS
   refine VL.mt w18 [0, 7, 8, 9, 10, 22, 23] (fun _ _ h => h) hS rfl
  clear hS
  rintro x7_10 hS
  refine Zq (Zr ?_)
  refine Zy ?_
  obtain ⟨z41_20, nz41_20, hz41_20, hS⟩ := at_s hS
  refine Zu (q_ixo (s := x7_10) Tryz.underlying343 gsz4 rfl rfl nz41_20 (lt_of_get nz41_20 hz41_20)) ?_
  refine Zu (q_elo (s := x7_10) 4 gone4 rfl hz41_20 rfl) ?_
  refine Zl ?_
  refine Zcb hS (fun h42 hS => ?_) (fun h42 hS => ?_)
  ·
   refine Zr ?_
   refine Zy ?_
   obtain ⟨b46, hS⟩ := gd_s hS
   refine Zu (q_sub rfl rfl b46) ?_
   obtain ⟨z47_21, nz47_21, hz47_21, hS⟩ := atm_s hS
   refine VL.deep z47_21.ok hz47_21 (fun _ q => q) ?_
   refine Zu (q_ixm (s := g_0) Tryz.underlying287 gsz56 rfl rfl nz47_21 (lt_of_get nz47_21 hz47_21)) ?_
   refine Zu (q_el (s := g_0) gone56 rfl hz47_21 rfl) ?_
   obtain ⟨b49, hS⟩ := gd_s hS
   refine VL.app (s := parents9_8) (r := z47_21) Tryz.underlying56 gapp3 (by decide) rfl Fo.out (ap1 b49) (ap2 b49 (by decide)) (by decide) (fun s49_22 hs49_22 => ?_)
   replace hS := lt_to hs49_22 hS
   refine Zy ?_
   refine VC.keep (ρ' := [(0, g_0.val), (7, x7_10.val), (8, q20_6_0.val), (9, s49_22.val), (22, i64 (q16_3_0.l.length : Int)), (23, i64 x23_9)]) [0, 7, 8, 9, 22, 23] rfl ?_
   refine Zr ?_
   obtain ⟨b50, hS⟩ := gd_s hS
   refine Zu (q_add rfl rfl b50) ?_
   refine Zm ?_
   refine VL.rnd (x7_10, s49_22, (x23_9 + 1)) [0, 7, 8, 9, 22, 23] (fun _ _ h => h) (go2 hS hK1) rfl
  refine Zk ?_
  refine Zr ?_
  obtain ⟨b50, hS⟩ := gd_s hS
  refine Zu (q_add rfl rfl b50) ?_
  refine Zm ?_
  refine VL.rnd (x7_10, parents9_8, (x23_9 + 1)) [0, 7, 8, 9, 22, 23] (fun _ _ h => h) (go2 hS hK1) rfl
 replace hS := up2 hS hK1
 refine Zx ?_
 refine Zq (Zr ?_)
 refine Zy ?_
 obtain ⟨y53_24, ey53_24, hS⟩ := bd_s hS
 refine VL.callOR (graph_Graph_seen_ct g_0 parents9_8 ey53_24) rfl (by decide) ?_
 rintro q53_24_0 rfl
 try dsimp only
 refine Zy ?_
 refine VC.keep (ρ' := [(7, x7_7.val), (11, q53_24_0.val)]) [7, 11] rfl ?_
 refine Zq (Zq (Zr ?_))
 refine Zm ?_
 refine Zu (q_ln (s := x7_7) Tryz.underlying343 rfl) ?_
 refine Zy ?_
 refine Zb ?_
 refine VC.iter (S := Sv Bool × Int) (fun sg => (sg.1.l, sg.2)) (fun sg => [(7, sg.1.val), (11, q53_24_0.val), (55, i64 (x7_7.l.length : Int)), (56, i64 sg.2)]) (fun sg => Mo.tt) (fun sg => Ow.star (Sv.own q53_24_0 4) (Ow.star (Sv.own sg.1 4) (Ow.emp))) (x7_7, 0) [7, 11, 55, 56] hS rfl ?_
 clear hS
 rintro ⟨x7_25, x56_26⟩ m1 y1 hS hK1
 refine Zq (Zr ?_)
 refine Zu (q_lss rfl rfl) ?_
 refine Zl ?_
 refine Zq ?_
 refine Zc hS (fun h57 hS => ?_) (fun h57 hS => ?_)
 ·
  refine Zk ?_
  refine Zq (Zb (Zq (Zr ?_)))
  refine Zy ?_
  refine Zr ?_
  refine Zy ?_
  obtain ⟨z63_27, nz63_27, hz63_27, hS⟩ := at_s hS
  refine Zu (q_ixo (s := x7_25) Tryz.underlying343 gsz4 rfl rfl nz63_27 (lt_of_get nz63_27 hz63_27)) ?_
  refine Zu (q_elo (s := x7_25) 4 gone4 rfl hz63_27 rfl) ?_
  refine Zm ?_
  refine Zspb 65 hS (fun h65 hS => ?_) (fun h65 hS => ?_)
  ·
   refine Zy ?_
   obtain ⟨z68_28, nz68_28, hz68_28, hS⟩ := at_s hS
   refine Zh (q_ixo (s := q53_24_0) Tryz.underlying343 gsz4 rfl rfl nz68_28 (lt_of_get nz68_28 hz68_28)) ?_
   refine Zh (q_elo (s := q53_24_0) 4 gone4 rfl hz68_28 rfl) ?_
   refine Zh (q_not rfl) ?_
   refine Zt ?_
   obtain ⟨z72_29, nz72_29, hz72_29, hS⟩ := at_s hS
   refine Zu (q_ixo (s := x7_25) Tryz.underlying343 gsz4 rfl rfl nz72_29 (lt_of_get nz72_29 hz72_29)) ?_
   refine VL.storeE (s := x7_25) (T := 4) (j := 0) (vc := [.bool (!z68_28)]) ((!z68_28) : Bool) (by decide) rfl rfl hz72_29 rfl gsz4 rfl rfl (Nat.le_of_ble_eq_true rfl) rfl (fun w30 hw30 haw30 hcw30 hvw30 hbw30 how30 => ?_)
   rw [← hvw30]
   replace hS := lt_to hw30 hS
   refine Zl ?_
   refine VC.keep (ρ' := [(7, w30.val), (11, q53_24_0.val), (55, i64 (x7_7.l.length : Int)), (56, i64 x56_26)]) [7, 11, 55, 56] rfl ?_
   refine Zr ?_
   obtain ⟨b73, hS⟩ := gd_s hS
   refine Zu (q_add rfl rfl b73) ?_
   refine Zm ?_
   refine VL.rnd (w30, (x56_26 + 1)) [7, 11, 55, 56] (fun _ _ h => h) (go2 hS hK1) rfl
  refine VL.skips 5 [70] (by kernel_rfl) ?_
  refine Zf ?_
  obtain ⟨z72_32, nz72_32, hz72_32, hS⟩ := at_s hS
  refine Zu (q_ixo (s := x7_25) Tryz.underlying343 gsz4 rfl rfl nz72_32 (lt_of_get nz72_32 hz72_32)) ?_
  refine VL.storeE (s := x7_25) (T := 4) (j := 0) (vc := [.bool false]) (false : Bool) (by decide) rfl rfl hz72_32 rfl gsz4 rfl rfl (Nat.le_of_ble_eq_true rfl) rfl (fun w33 hw33 haw33 hcw33 hvw33 hbw33 how33 => ?_)
  rw [← hvw33]
  replace hS := lt_to hw33 hS
  refine Zl ?_
  refine VC.keep (ρ' := [(7, w33.val), (11, q53_24_0.val), (55, i64 (x7_7.l.length : Int)), (56, i64 x56_26)]) [7, 11, 55, 56] rfl ?_
  refine Zr ?_
  obtain ⟨b73, hS⟩ := gd_s hS
  refine Zu (q_add rfl rfl b73) ?_
  refine Zm ?_
  refine VL.rnd (w33, (x56_26 + 1)) [7, 11, 55, 56] (fun _ _ h => h) (go2 hS hK1) rfl
 replace hS := up2 hS hK1
 refine Zx ?_
 refine Zq (Zr ?_)
 refine Zm ?_
 refine VL.shut x7_25 4 (fun _ _ _ _ => trivial) ?_
 obtain ⟨y75_35, ey75_35, hS⟩ := bd_s hS
 refine VL.callF (graph_row_ct x7_25 ey75_35) rfl (by decide) ?_
 rintro q75_35_0 rfl
 try dsimp only
 refine Zy ?_
 cases hS
 exact VC.ret (fin1 (.inr rfl) rfl rfl q75_35_0 rfl rfl (by (try dsimp only); exact InM.out) (fun _ _ => trivial))
theorem graph_Graph_Base_ct (g_0 : Sv (Sv Int)) (a_1 : Int) (b_2 : Int) {r : Int} (hS : Sh.graph_Graph_Base (g_0.l.map Sv.l) a_1 b_2 = some r) :
 Ct Tryz.prog 231 [g_0.val, i64 a_1, i64 b_2] g_0.ok (Ow.emp) (X := Unit) (fun _ => i64 r) (fun _ => True) (fun _ => Mo.tt) (fun _ => Ow.emp) := by
 refine Zo Tryz.func231 Tryz.ntmps231 fun c => ?_
 unfold Sh.graph_Graph_Base at hS
 refine Zq (Zr ?_)
 refine Zy ?_
 refine Zq (Zr ?_)
 refine Zy ?_
 obtain ⟨y11_1, ey11_1, hS⟩ := bd_s hS
 refine VL.callF (graph_Graph_Bases_ct g_0 a_1 b_2 ey11_1) rfl (by decide) ?_
 rintro q11_1_0 rfl
 try dsimp only
 refine Zy ?_
 refine Zq (Zq (Zr ?_))
 refine Zm ?_
 refine Zu (q_ln (s := q11_1_0) Tryz.underlying56 rfl) ?_
 refine Zu (q_eql rfl rfl) ?_
 refine Zl ?_
 refine VC.keep (ρ' := [(7, q11_1_0.val), (14, .bool (decide ((q11_1_0.l.length : Int) = 0)))]) [7, 14] rfl ?_
 refine Zc hS (fun h14 hS => ?_) (fun h14 hS => ?_)
 ·
  refine Zq ?_
  cases hS
 refine Zk ?_
 refine Zq (Zr ?_)
 refine Zy ?_
 refine Zu (q_ln (s := q11_1_0) Tryz.underlying56 rfl) ?_
 obtain ⟨b18, hS⟩ := gd_s hS
 refine Zu (q_sub rfl rfl b18) ?_
 obtain ⟨z19_2, nz19_2, hz19_2, hS⟩ := at_s hS
 refine Zu (q_ixm (s := q11_1_0) Tryz.underlying56 gsz3 rfl rfl nz19_2 (lt_of_get nz19_2 hz19_2)) ?_
 refine Zu (q_el (s := q11_1_0) gone3 rfl hz19_2 rfl) ?_
 refine Zy ?_
 cases hS
 exact Ze
theorem tmerge_of_ct (r_0 : Sv FilesFile) (p_1 : Str) {r : TmergeOne} (hS : Sh.tmerge_of r_0.l p_1 = some r) :
 Ct Tryz.prog 339 [r_0.val, str p_1] r_0.ok (Ow.emp) (X := Unit) (fun _ => .agg #[str r.file_path, i64 r.file_mode, str r.file_data, .bool r.is]) (fun _ => True) (fun _ => Mo.tt) (fun _ => Ow.emp) := by
 refine Zo Tryz.func339 Tryz.ntmps339 fun c => ?_
 unfold Sh.tmerge_of at hS
 refine Zq (Zr ?_)
 refine VL.alloc (cs := [str [], i64 0, str [], .bool false]) (by kernel_rfl) (by decide) fun b4_1 => ?_
 refine Zl ?_
 refine Zq (Zr ?_)
 refine Zy ?_
 obtain ⟨y10_2, ey10_2, hS⟩ := bd_s hS
 refine Zu (q_call (files_Row_Get_ct r_0 p_1 ey10_2) rfl (fun _ _ => rfl)) ?_
 refine Zm ?_
 refine Zu (q_extract rfl rfl) ?_
 refine Zu (q_extract rfl rfl) ?_
 refine VL.alloc (cs := [str [], i64 0, str []]) (by kernel_rfl) (by decide) fun b5_3 => ?_
 refine Zv (vc := [str y10_2.1.path, i64 y10_2.1.mode, str y10_2.1.data]) (cs' := [str y10_2.1.path, i64 y10_2.1.mode, str y10_2.1.data]) rfl gsz75 ?_
 refine Zy ?_
 refine VC.keep (ρ' := [(4, ptr b4_1 0), (5, ptr b5_3 0), (6, .bool y10_2.2)]) [4, 5, 6] rfl ?_
 refine Zq (Zr ?_)
 refine Zu (q_fes gagg75 rfl rfl) ?_
 refine Zm ?_
 refine Zu (q_build (vs := [(0, .agg #[str y10_2.1.path, i64 y10_2.1.mode, str y10_2.1.data]), (1, .bool y10_2.2)]) (cs := #[str y10_2.1.path, i64 y10_2.1.mode, str y10_2.1.data, .bool y10_2.2]) rfl (by kernel_rfl)) ?_
 refine Zv (vc := [str y10_2.1.path, i64 y10_2.1.mode, str y10_2.1.data, .bool y10_2.2]) (cs' := [str y10_2.1.path, i64 y10_2.1.mode, str y10_2.1.data, .bool y10_2.2]) rfl gsz385 ?_
 refine Zl ?_
 cases hS
 exact VC.ret (finG (vs := [.agg #[str y10_2.1.path, i64 y10_2.1.mode, str y10_2.1.data, .bool y10_2.2]]) (.inr rfl) rfl (RVs.cell gagg385 rfl rfl Rd.blk (RVs.nil)) () rfl trivial (by (try dsimp only); exact InM.out) (fun _ _ => trivial))
theorem tmerge_One_ct (p_0 : Str) (base_1 : Sv FilesFile) (ours_2 : Sv FilesFile) (theirs_3 : Sv FilesFile) (a_4 : Str) (b_5 : Str) {r : FilesFile × Bool × Bool} (hS : Sh.tmerge_One p_0 base_1.l ours_2.l theirs_3.l a_4 b_5 = some r) :
 Ct Tryz.prog 320 [str p_0, base_1.val, ours_2.val, theirs_3.val, str a_4, str b_5] (base_1.ok.and (ours_2.ok.and theirs_3.ok)) (Ow.emp) (X := Unit) (fun _ => .tuple #[.agg #[str r.1.path, i64 r.1.mode, str r.1.data], .bool r.2.1, .bool r.2.2]) (fun _ => True) (fun _ => Mo.tt) (fun _ => Ow.emp) := by
 refine Zo Tryz.func320 Tryz.ntmps320 fun c => ?_
 unfold Sh.tmerge_One at hS
 refine Zq (Zr ?_)
 refine VL.alloc (cs := [str [], i64 0, str []]) (by kernel_rfl) (by decide) fun b12_1 => ?_
 refine Zy ?_
 refine Zq (Zr ?_)
 refine Zy ?_
 obtain ⟨y20_2, ey20_2, hS⟩ := bd_s hS
 refine Zu (q_call (tmerge_of_ct base_1 p_0 ey20_2) rfl (fun _ _ => rfl)) ?_
 refine Zy ?_
 obtain ⟨y23_3, ey23_3, hS⟩ := bd_s hS
 refine Zu (q_call (tmerge_of_ct ours_2 p_0 ey23_3) rfl (fun _ _ => rfl)) ?_
 refine Zy ?_
 obtain ⟨y26_4, ey26_4, hS⟩ := bd_s hS
 refine Zu (q_call (tmerge_of_ct theirs_3 p_0 ey26_4) rfl (fun _ _ => rfl)) ?_
 refine VL.alloc (cs := [str [], i64 0, str [], .bool false]) (by kernel_rfl) (by decide) fun b15_5 => ?_
 refine VL.alloc (cs := [str [], i64 0, str [], .bool false]) (by kernel_rfl) (by decide) fun b16_6 => ?_
 refine VL.alloc (cs := [str [], i64 0, str [], .bool false]) (by kernel_rfl) (by decide) fun b17_7 => ?_
 refine Zv (vc := [str y20_2.file_path, i64 y20_2.file_mode, str y20_2.file_data, .bool y20_2.is]) (cs' := [str y20_2.file_path, i64 y20_2.file_mode, str y20_2.file_data, .bool y20_2.is]) rfl gsz385 ?_
 refine Zv (vc := [str y23_3.file_path, i64 y23_3.file_mode, str y23_3.file_data, .bool y23_3.is]) (cs' := [str y23_3.file_path, i64 y23_3.file_mode, str y23_3.file_data, .bool y23_3.is]) rfl gsz385 ?_
 refine Zv (vc := [str y26_4.file_path, i64 y26_4.file_mode, str y26_4.file_data, .bool y26_4.is]) (cs' := [str y26_4.file_path, i64 y26_4.file_mode, str y26_4.file_data, .bool y26_4.is]) rfl gsz385 ?_
 refine Zl ?_
 refine VC.keep (ρ' := [(4, str a_4), (5, str b_5), (12, ptr b12_1 0), (15, ptr b15_5 0), (16, ptr b16_6 0), (17, ptr b17_7 0)]) [4, 5, 12, 15, 16, 17] rfl ?_
 refine Zq (Zb ?_)
 refine VC.cutJ (S := Bool) (fun (x27_8 : Bool) => x27_8) (fun (x27_8 : Bool) => [(4, str a_4), (5, str b_5), (12, ptr b12_1 0), (15, ptr b15_5 0), (16, ptr b16_6 0), (17, ptr b17_7 0), (27, .bool x27_8)]) (fun (x27_8 : Bool) => Mo.tt) (fun (x27_8 : Bool) => Ow.star (Blk b17_7 [str y26_4.file_path, i64 y26_4.file_mode, str y26_4.file_data, .bool y26_4.is] 385) (Ow.star (Blk b16_6 [str y23_3.file_path, i64 y23_3.file_mode, str y23_3.file_data, .bool y23_3.is] 385) (Ow.star (Blk b15_5 [str y20_2.file_path, i64 y20_2.file_mode, str y20_2.file_data, .bool y20_2.is] 385) (Ow.star (Blk b12_1 [str [], i64 0, str []] 75) (Ow.emp))))) hS ?_ ?_
 ·
  clear hS
  intro k9 hS
  refine Zr ?_
  refine Zu (q_fes gagg385 rfl rfl) ?_
  refine Zu (q_fes gagg385 rfl rfl) ?_
  refine Zu (q_steql geqg385 (geqs385 y23_3.file_path y23_3.file_mode y23_3.file_data y23_3.is y26_4.file_path y26_4.file_mode y26_4.file_data y26_4.is) rfl rfl) ?_
  refine Zm ?_
  refine Zsp 31 hS (fun h31 hS => ?_) (fun h31 hS => ?_)
  ·
   refine VL.skips 3 [34] (by kernel_rfl) ?_
   refine Zy ?_
   refine VL.mt true [4, 5, 12, 15, 16, 17, 27] (fun _ _ h => h) hS rfl
  refine Zh (q_fes gagg385 rfl rfl) ?_
  refine Zh (q_fes gagg385 rfl rfl) ?_
  refine Zh (q_steql geqg385 (geqs385 y20_2.file_path y20_2.file_mode y20_2.file_data y20_2.is y26_4.file_path y26_4.file_mode y26_4.file_data y26_4.is) rfl rfl) ?_
  refine Zy ?_
  refine VL.mt (decide (y20_2.file_path = y26_4.file_path ∧ y20_2.file_mode = y26_4.file_mode ∧ y20_2.file_data = y26_4.file_data ∧ y20_2.is = y26_4.is)) [4, 5, 12, 15, 16, 17, 27] (fun _ _ h => h) hS rfl
 clear hS
 rintro x27_8 hS
 refine Zcb hS (fun h27 hS => ?_) (fun h27 hS => ?_)
 ·
  refine Zq ?_
  refine VC.draw [(0, true), (1, true), (2, true), (3, true), (4, false), (5, true), (6, true)] mixed (by kernel_rfl) (by kernel_rfl) (by kernel_rfl) ?_
  refine Zw rfl (q_field gfa385_0 rfl) ?_
  refine Zw rfl (q_fep (j := 0) (n := 3) gagg75 rfl rfl rfl) ?_
  refine Zw rfl (q_field gfa385_1 rfl) ?_
  refine Zw rfl (q_fe gone4 rfl rfl) ?_
  refine VD.one rfl ?_
  refine Zv (vc := [str y23_3.file_path, i64 y23_3.file_mode, str y23_3.file_data]) (cs' := [str y23_3.file_path, i64 y23_3.file_mode, str y23_3.file_data]) rfl gsz75 ?_
  refine VL.back (D' := [(3, .bool y23_3.is), (2, ptr b16_6 3)]) (by kernel_rfl) (Pend.cons rfl (q_fe gone4 rfl rfl) (Pend.cons rfl (q_field gfa385_1 rfl) (Pend.nil))) ?_
  refine Zw rfl (q_assign rfl) ?_
  refine Zw rfl (q_assign rfl) ?_
  refine VD.to (fun _ _ h => h) ?_
  refine VC.keep (ρ' := [(12, ptr b12_1 0), (13, .bool y23_3.is), (14, .bool false)]) [12, 13, 14] rfl ?_
  cases hS
  exact VC.ret (finG (vs := [.agg #[str y23_3.file_path, i64 y23_3.file_mode, str y23_3.file_data], .bool y23_3.is, .bool false]) (.inr rfl) rfl (RVs.cell gagg75 rfl rfl Rd.blk (RVs.tmp rfl (RVs.tmp rfl (RVs.nil)))) () rfl trivial (by (try dsimp only); exact InM.out) (fun _ _ => trivial))
 refine Zq (Zr ?_)
 refine Zu (q_fes gagg385 rfl rfl) ?_
 refine Zu (q_fes gagg385 rfl rfl) ?_
 refine Zu (q_steql geqg385 (geqs385 y20_2.file_path y20_2.file_mode y20_2.file_data y20_2.is y23_3.file_path y23_3.file_mode y23_3.file_data y23_3.is) rfl rfl) ?_
 refine Zy ?_
 refine Zc hS (fun h40 hS => ?_) (fun h40 hS => ?_)
 ·
  refine Zq ?_
  refine VC.draw [(0, true), (1, true), (2, true), (3, true), (4, false), (5, true), (6, true)] mixed (by kernel_rfl) (by kernel_rfl) (by kernel_rfl) ?_
  refine Zw rfl (q_field gfa385_0 rfl) ?_
  refine Zw rfl (q_fep (j := 0) (n := 3) gagg75 rfl rfl rfl) ?_
  refine Zw rfl (q_field gfa385_1 rfl) ?_
  refine Zw rfl (q_fe gone4 rfl rfl) ?_
  refine VD.one rfl ?_
  refine Zv (vc := [str y26_4.file_path, i64 y26_4.file_mode, str y26_4.file_data]) (cs' := [str y26_4.file_path, i64 y26_4.file_mode, str y26_4.file_data]) rfl gsz75 ?_
  refine VL.back (D' := [(3, .bool y26_4.is), (2, ptr b17_7 3)]) (by kernel_rfl) (Pend.cons rfl (q_fe gone4 rfl rfl) (Pend.cons rfl (q_field gfa385_1 rfl) (Pend.nil))) ?_
  refine Zw rfl (q_assign rfl) ?_
  refine Zw rfl (q_assign rfl) ?_
  refine VD.to (fun _ _ h => h) ?_
  refine VC.keep (ρ' := [(12, ptr b12_1 0), (13, .bool y26_4.is), (14, .bool false)]) [12, 13, 14] rfl ?_
  cases hS
  exact VC.ret (finG (vs := [.agg #[str y26_4.file_path, i64 y26_4.file_mode, str y26_4.file_data], .bool y26_4.is, .bool false]) (.inr rfl) rfl (RVs.cell gagg75 rfl rfl Rd.blk (RVs.tmp rfl (RVs.tmp rfl (RVs.nil)))) () rfl trivial (by (try dsimp only); exact InM.out) (fun _ _ => trivial))
 refine VC.cutJ (S := Bool) (fun (x48_10 : Bool) => x48_10) (fun (x48_10 : Bool) => [(4, str a_4), (5, str b_5), (12, ptr b12_1 0), (15, ptr b15_5 0), (16, ptr b16_6 0), (17, ptr b17_7 0), (48, .bool x48_10)]) (fun (x48_10 : Bool) => Mo.tt) (fun (x48_10 : Bool) => Ow.star (Blk b17_7 [str y26_4.file_path, i64 y26_4.file_mode, str y26_4.file_data, .bool y26_4.is] 385) (Ow.star (Blk b16_6 [str y23_3.file_path, i64 y23_3.file_mode, str y23_3.file_data, .bool y23_3.is] 385) (Ow.star (Blk b15_5 [str y20_2.file_path, i64 y20_2.file_mode, str y20_2.file_data, .bool y20_2.is] 385) (Ow.star (Blk b12_1 [str [], i64 0, str []] 75) (Ow.emp))))) hS ?_ ?_
 ·
  clear hS
  intro k11 hS
  refine Zr ?_
  refine Zu (q_field gfa385_1 rfl) ?_
  refine Zu (q_fe gone4 rfl rfl) ?_
  refine Zm ?_
  refine Zspb 51 hS (fun h51 hS => ?_) (fun h51 hS => ?_)
  ·
   refine Zh (q_field gfa385_1 rfl) ?_
   refine Zh (q_fe gone4 rfl rfl) ?_
   refine Zy ?_
   refine VL.mt y26_4.is [4, 5, 12, 15, 16, 17, 48] (fun _ _ h => h) hS rfl
  refine Zy ?_
  refine VL.mt false [4, 5, 12, 15, 16, 17, 48] (fun _ _ h => h) hS rfl
 clear hS
 rintro x48_10 hS
 refine Zcb hS (fun h48 hS => ?_) (fun h48 hS => ?_)
 ·
  refine Zq ?_
  cases hS
 refine Zq (Zr ?_)
 refine Zu (q_field gfa385_1 rfl) ?_
 refine Zu (q_fe gone4 rfl rfl) ?_
 refine Zy ?_
 refine Zcb hS (fun h66 hS => ?_) (fun h66 hS => ?_)
 ·
  refine Zq ?_
  cases hS
 refine Zk ?_
 refine Zq ?_
 cases hS
theorem tmerge_fault_1_ct (g_0 : FilesFile) (a_1_b : Nat) (a_1 : FilesFile) {r : Bool} (hS : Sh.tmerge_fault_1 g_0 a_1 = some r) :
 Ct Tryz.prog 341 [.agg #[str g_0.path, i64 g_0.mode, str g_0.data], ptr a_1_b 0] (Cells a_1_b 0 [str a_1.path, i64 a_1.mode, str a_1.data]) (Ow.emp) (X := Unit) (fun _ => .bool r) (fun _ => True) (fun _ => Mo.tt) (fun _ => Ow.emp) := by
 refine Zo Tryz.func341 Tryz.ntmps341 fun c => ?_
 unfold Sh.tmerge_fault_1 at hS
 refine Zq (Zr ?_)
 refine VL.box (cs := [str g_0.path, i64 g_0.mode, str g_0.data]) rfl rfl (by decide) fun b2_1 => ?_
 refine Zy ?_
 refine Zq (Zr ?_)
 refine Zu (q_field gfa75_0 rfl) ?_
 refine Zu (q_fe gone9 rfl rfl) ?_
 refine Zu (q_field gfa75_0 rfl) ?_
 refine Zu (q_fm gone9 rfl rfl) ?_
 obtain ⟨y8_2, ey8_2, hS⟩ := bd_s hS
 refine Zu (q_call (path_Clash_ct g_0.path a_1.path ey8_2) rfl (fun _ _ => rfl)) ?_
 refine Zy ?_
 cases hS
 exact Ze
theorem slices_IndexFunc_files_Row_files_File_v4_ct (s_0 : Sv FilesFile) (f_1_0_b : Nat) (f_1_0 : FilesFile) {r : Int} (hS : Sh.slices_IndexFunc_files_Row_files_File_v4 s_0.l f_1_0 = some r) :
 Ct Tryz.prog 168 [s_0.val, .func (.func 341) #[] #[ptr f_1_0_b 0]] (s_0.ok.and (Cells f_1_0_b 0 [str f_1_0.path, i64 f_1_0.mode, str f_1_0.data])) (Ow.emp) (X := Unit) (fun _ => i64 r) (fun _ => True) (fun _ => Mo.tt) (fun _ => Ow.emp) := by
 refine Zo Tryz.func168 Tryz.ntmps168 fun c => ?_
 unfold Sh.slices_IndexFunc_files_Row_files_File_v4 at hS
 refine Zq (Zr ?_)
 refine Zy ?_
 refine Zq (Zq (Zr ?_))
 refine Zm ?_
 refine Zu (q_ln (s := s_0) Tryz.underlying24 rfl) ?_
 refine Zy ?_
 refine Zb ?_
 refine VC.iter (S := Int) (fun (x8_1 : Int) => x8_1) (fun (x8_1 : Int) => [(0, s_0.val), (1, .func (.func 341) #[] #[ptr f_1_0_b 0]), (7, i64 (s_0.l.length : Int)), (8, i64 x8_1)]) (fun (x8_1 : Int) => Mo.tt) (fun (x8_1 : Int) => Ow.emp) 0 [0, 1, 7, 8] hS rfl ?_
 clear hS
 rintro x8_1 m1 y1 hS hK1
 refine Zq (Zr ?_)
 refine Zu (q_lss rfl rfl) ?_
 refine Zl ?_
 refine Zq ?_
 refine Zc hS (fun h9 hS => ?_) (fun h9 hS => ?_)
 ·
  refine Zk ?_
  refine Zq (Zb (Zq (Zr ?_)))
  refine Zy ?_
  refine Zq (Zr ?_)
  refine Zy ?_
  obtain ⟨z14_2, nz14_2, hz14_2, hS⟩ := at_s hS
  refine Zu (q_ixm (s := s_0) Tryz.underlying24 gsz75 rfl rfl nz14_2 (lt_of_get nz14_2 hz14_2)) ?_
  refine Zu (q_els (s := s_0) gagg75 rfl rfl hz14_2) ?_
  obtain ⟨y16_3, ey16_3, hS⟩ := bd_s hS
  refine Zu (q_callVC (vs := [.agg #[str z14_2.path, i64 z14_2.mode, str z14_2.data]]) (caps := [ptr f_1_0_b 0]) (tmerge_fault_1_ct z14_2 f_1_0_b f_1_0 ey16_3) rfl rfl (fun _ _ => rfl)) ?_
  refine Zl ?_
  refine VC.keep (ρ' := [(0, s_0.val), (1, .func (.func 341) #[] #[ptr f_1_0_b 0]), (7, i64 (s_0.l.length : Int)), (8, i64 x8_1), (5, i64 x8_1), (16, .bool y16_3)]) [0, 1, 7, 8, 5, 16] rfl ?_
  refine Zcb hS (fun h16 hS => ?_) (fun h16 hS => ?_)
  ·
   refine Zq (Zr ?_)
   refine Zy ?_
   replace hS := up2 hS hK1
   cases hS
   exact Ze
  refine Zk ?_
  refine Zr ?_
  obtain ⟨b18, hS⟩ := gd_s hS
  refine Zu (q_add rfl rfl b18) ?_
  refine Zm ?_
  refine VL.rnd (x8_1 + 1) [0, 1, 7, 8] (fun _ _ h => h) (go2 hS hK1) rfl
 replace hS := up2 hS hK1
 refine Zx ?_
 refine Zq (Zr ?_)
 refine Zy ?_
 cases hS
 exact Ze
theorem slices_ContainsFunc_files_Row_files_File_v2_ct (s_0 : Sv FilesFile) (f_1_0_b : Nat) (f_1_0 : FilesFile) {r : Bool} (hS : Sh.slices_ContainsFunc_files_Row_files_File_v2 s_0.l f_1_0 = some r) :
 Ct Tryz.prog 166 [s_0.val, .func (.func 341) #[] #[ptr f_1_0_b 0]] (s_0.ok.and (Cells f_1_0_b 0 [str f_1_0.path, i64 f_1_0.mode, str f_1_0.data])) (Ow.emp) (X := Unit) (fun _ => .bool r) (fun _ => True) (fun _ => Mo.tt) (fun _ => Ow.emp) := by
 refine Zo Tryz.func166 Tryz.ntmps166 fun c => ?_
 unfold Sh.slices_ContainsFunc_files_Row_files_File_v2 at hS
 refine Zq (Zr ?_)
 refine Zy ?_
 refine Zq (Zr ?_)
 refine Zy ?_
 obtain ⟨y7_1, ey7_1, hS⟩ := bd_s hS
 refine Zu (q_callR (slices_IndexFunc_files_Row_files_File_v4_ct s_0 f_1_0_b f_1_0 ey7_1) rfl (fun _ _ => rfl)) ?_
 refine Zu (q_geq rfl rfl) ?_
 refine Zy ?_
 cases hS
 exact Ze
theorem tmerge_fault_ct (r_0 : Sv FilesFile) {r : Err} (hS : Sh.tmerge_fault r_0.l = some r) :
 Ct Tryz.prog 322 [r_0.val] r_0.ok (Ow.emp) (X := Er) (fun x => x.val) (fun x => r = x.pl) (fun x => x.ok) (fun x => Ow.emp) := by
 refine Zo Tryz.func322 Tryz.ntmps322 fun c => ?_
 unfold Sh.tmerge_fault at hS
 refine Zq (Zr ?_)
 refine Zy ?_
 refine Zq (Zq (Zr ?_))
 refine Zm ?_
 refine Zu (q_ln (s := r_0) Tryz.underlying24 rfl) ?_
 refine Zu (q_gtr rfl rfl) ?_
 refine Zl ?_
 refine Zc hS (fun h7 hS => ?_) (fun h7 hS => ?_)
 ·
  refine Zq ?_
  cases hS
 refine Zk ?_
 refine Zq (Zq (Zr ?_))
 refine Zm ?_
 refine Zu (q_ln (s := r_0) Tryz.underlying24 rfl) ?_
 refine Zy ?_
 refine Zb ?_
 refine VC.iter (S := Int) (fun (x14_1 : Int) => x14_1) (fun (x14_1 : Int) => [(0, r_0.val), (12, r_0.val), (13, i64 (r_0.l.length : Int)), (14, i64 x14_1)]) (fun (x14_1 : Int) => Mo.tt) (fun (x14_1 : Int) => Ow.emp) 0 [0, 12, 13, 14] hS rfl ?_
 clear hS
 rintro x14_1 m1 y1 hS hK1
 refine Zq (Zr ?_)
 refine Zu (q_lss rfl rfl) ?_
 refine Zl ?_
 refine Zq ?_
 refine Zc hS (fun h15 hS => ?_) (fun h15 hS => ?_)
 ·
  refine Zk ?_
  refine Zq (Zb (Zq (Zr ?_)))
  refine Zm ?_
  obtain ⟨z17_2, nz17_2, hz17_2, hS⟩ := at_s hS
  refine Zu (q_ixm (s := r_0) Tryz.underlying24 gsz75 rfl rfl nz17_2 (lt_of_get nz17_2 hz17_2)) ?_
  refine Zu (q_els (s := r_0) gagg75 rfl rfl hz17_2) ?_
  refine VL.alloc (cs := [str [], i64 0, str []]) (by kernel_rfl) (by decide) fun b4_3 => ?_
  refine Za ?_
  refine Zv (vc := [str z17_2.path, i64 z17_2.mode, str z17_2.data]) (cs' := [str z17_2.path, i64 z17_2.mode, str z17_2.data]) rfl gsz75 ?_
  refine Zl ?_
  refine Zq (Zr ?_)
  refine Zy ?_
  obtain ⟨b21, hS⟩ := gd_s hS
  refine VL.sto Tryz.underlying24 gsz75 rfl rfl b21.1 (b21.2) (by decide) fun s21_4 hs21_4 => ?_
  replace hS := lt_to hs21_4 hS
  refine Zu (q_mkfn rfl) ?_
  obtain ⟨y23_6, ey23_6, hS⟩ := bd_s hS
  refine Zu (q_callR (slices_ContainsFunc_files_Row_files_File_v2_ct s21_4 b4_3 z17_2 ey23_6) rfl (fun _ _ => rfl)) ?_
  refine Zl ?_
  refine VC.keep (ρ' := [(0, r_0.val), (12, r_0.val), (13, i64 (r_0.l.length : Int)), (14, i64 x14_1), (3, i64 x14_1), (23, .bool y23_6)]) [0, 12, 13, 14, 3, 23] rfl ?_
  refine Zcb hS (fun h23 hS => ?_) (fun h23 hS => ?_)
  ·
   refine Zq ?_
   cases hS
  refine Zk ?_
  refine Zr ?_
  obtain ⟨b29, hS⟩ := gd_s hS
  refine Zu (q_add rfl rfl b29) ?_
  refine Zm ?_
  refine VL.rnd (x14_1 + 1) [0, 12, 13, 14] (fun _ _ h => h) (go2 hS hK1) rfl
 replace hS := up2 hS hK1
 refine Zx ?_
 refine Zq (Zr ?_)
 refine Zy ?_
 cases hS
 exact VC.ret (fin1 (.inr rfl) rfl rfl .nil rfl rfl (by (try dsimp only); exact InM.out) (fun _ _ => trivial))
theorem tmerge_Merge_ct (base_0 : Sv FilesFile) (ours_1 : Sv FilesFile) (theirs_2 : Sv FilesFile) (a_3 : Str) (b_4 : Str) {r : TmergeResultP × Err} (hS : Sh.tmerge_Merge base_0.l ours_1.l theirs_2.l a_3 b_4 = some r) :
 Ct Tryz.prog 276 [base_0.val, ours_1.val, theirs_2.val, str a_3, str b_4] (base_0.ok.and (ours_1.ok.and theirs_2.ok)) (Ow.emp) (X := TmergeResult × Er) (fun x => .tuple #[.agg (Dat.enc x.1).toArray, x.2.val]) (fun x => r = (x.1.pl, x.2.pl)) (fun x => (x.1.m.and x.2.ok)) (fun x => Ow.emp) := by
 refine Zo Tryz.func276 Tryz.ntmps276 fun c => ?_
 unfold Sh.tmerge_Merge at hS
 refine Zq (Zr ?_)
 refine VL.alloc (cs := [.slice none 0 0, .slice none 0 0, .slice none 0 0]) (by kernel_rfl) (by decide) fun b10_1 => ?_
 refine Zy ?_
 refine Zq (Zq (Zr ?_))
 refine Zy ?_
 refine VL.lit (α := Sv FilesFile) (xs := [.tmp 22, .tmp 23, .tmp 24]) (vs := [base_0.val, ours_1.val, theirs_2.val]) [base_0, ours_1, theirs_2] Tryz.underlying313 glit24 (by decide) rfl rfl rfl rfl (by decide) (fun h m => List.forall_mem_cons.2 ⟨InM.out (X := base_0.ok) h m, List.forall_mem_cons.2 ⟨InM.out (X := ours_1.ok) h m, List.forall_mem_cons.2 ⟨InM.out (X := theirs_2.ok) h m, fun _ h => by cases h⟩⟩⟩) (by decide) (fun s25_2 hs25_2 => ?_) (by decide)
 replace hS := lt_to (congrArg (List.map Sv.l) hs25_2) hS
 refine Zu (q_lnm Sv.l (s := s25_2) Tryz.underlying313 rfl) ?_
 refine Zy ?_
 refine Zb ?_
 refine VC.iter (S := Int) (fun (x27_4 : Int) => x27_4) (fun (x27_4 : Int) => [(0, base_0.val), (1, ours_1.val), (2, theirs_2.val), (3, str a_3), (4, str b_4), (10, ptr b10_1 0), (25, s25_2.val), (26, i64 ((s25_2.l.map Sv.l).length : Int)), (27, i64 x27_4)]) (fun (x27_4 : Int) => Mo.tt) (fun (x27_4 : Int) => Ow.star (Blk b10_1 [.slice none 0 0, .slice none 0 0, .slice none 0 0] 268) (Ow.emp)) 0 [0, 1, 2, 3, 4, 10, 25, 26, 27] hS rfl ?_
 clear hS
 rintro x27_4 m1 y1 hS hK1
 refine Zq (Zr ?_)
 refine Zu (q_lss rfl rfl) ?_
 refine Zl ?_
 refine Zq ?_
 refine Zc hS (fun h28 hS => ?_) (fun h28 hS => ?_)
 ·
  refine Zk ?_
  refine Zq (Zb (Zq (Zr ?_)))
  obtain ⟨z29_5, nz29_5, hz29_5, hS⟩ := atm_s hS
  refine VL.deep z29_5.ok hz29_5 (fun _ q => q) ?_
  refine Zu (q_ixm (s := s25_2) Tryz.underlying313 gsz24 rfl rfl nz29_5 (lt_of_get nz29_5 hz29_5)) ?_
  refine Zu (q_el (s := s25_2) gone24 rfl hz29_5 rfl) ?_
  refine Zy ?_
  refine Zq (Zr ?_)
  refine Zm ?_
  obtain ⟨y32_6, ey32_6, hS⟩ := bd_s hS
  refine VL.callF (files_Row_Check_ct z29_5 ey32_6) rfl (by decide) ?_
  rintro q32_6_0 rfl
  try dsimp only
  refine Zy ?_
  refine Zq (Zr ?_)
  refine Zm ?_
  refine Zu (q_erne Tryz.underlying45 rfl) ?_
  refine Zl ?_
  refine VC.keep (ρ' := [(0, base_0.val), (1, ours_1.val), (2, theirs_2.val), (3, str a_3), (4, str b_4), (10, ptr b10_1 0), (25, s25_2.val), (26, i64 ((s25_2.l.map Sv.l).length : Int)), (27, i64 x27_4), (14, q32_6_0.val), (34, .bool (!decide (q32_6_0.pl.isNil = true)))]) [0, 1, 2, 3, 4, 10, 25, 26, 27, 14, 34] rfl ?_
  refine Zcn hS (fun h34 hS => ?_) (fun h34 hS => ?_)
  ·
   refine Zq ?_
   cases hS
  refine Zk ?_
  refine Zr ?_
  obtain ⟨b37, hS⟩ := gd_s hS
  refine Zu (q_add rfl rfl b37) ?_
  refine Zm ?_
  refine VL.rnd (x27_4 + 1) [0, 1, 2, 3, 4, 10, 25, 26, 27] (fun _ _ h => h) (go2 hS hK1) rfl
 replace hS := up2 hS hK1
 refine Zx ?_
 refine Zq (Zr ?_)
 refine VL.alloc (cs := [.slice none 0 0, .slice none 0 0, .slice none 0 0]) (by kernel_rfl) (by decide) fun b15_7 => ?_
 refine Zl ?_
 refine Zq (Zq (Zr ?_))
 refine Zy ?_
 refine VL.lit (α := Sv FilesFile) (xs := [.tmp 38, .tmp 39, .tmp 40]) (vs := [base_0.val, ours_1.val, theirs_2.val]) [base_0, ours_1, theirs_2] Tryz.underlying313 glit24 (by decide) rfl rfl rfl rfl (by decide) (fun h m => List.forall_mem_cons.2 ⟨InM.out (X := base_0.ok) h m, List.forall_mem_cons.2 ⟨InM.out (X := ours_1.ok) h m, List.forall_mem_cons.2 ⟨InM.out (X := theirs_2.ok) h m, fun _ h => by cases h⟩⟩⟩) (by decide) (fun s41_8 hs41_8 => ?_) (by decide)
 replace hS := lt_to (congrArg (List.map Sv.l) hs41_8) hS
 obtain ⟨y42_10, ey42_10, hS⟩ := bd_s hS
 refine VL.callF (files_Paths_ct s41_8 ey42_10) rfl (by decide) ?_
 rintro q42_10_0 rfl
 try dsimp only
 refine Zu (q_ln (s := q42_10_0) Tryz.underlying37 rfl) ?_
 refine Zy ?_
 refine VC.keep (ρ' := [(0, base_0.val), (1, ours_1.val), (2, theirs_2.val), (3, str a_3), (4, str b_4), (10, ptr b10_1 0), (15, ptr b15_7 0), (42, q42_10_0.val), (43, i64 (q42_10_0.l.length : Int)), (44, i64 0)]) [0, 1, 2, 3, 4, 10, 15, 42, 43, 44] rfl ?_
 refine Zb ?_
 refine VC.nilO (⟨none, 0, []⟩ : Sv FilesFile) 75 ⟨rfl, rfl⟩ ?_
 refine VC.reB b15_7 (cs' := [(⟨none, 0, []⟩ : Sv FilesFile).val, .slice none 0 0, .slice none 0 0]) rfl ?_
 refine VC.iter (S := Int × Sv FilesFile) (fun sg => (sg.1, sg.2.l)) (fun sg => [(0, base_0.val), (1, ours_1.val), (2, theirs_2.val), (3, str a_3), (4, str b_4), (10, ptr b10_1 0), (15, ptr b15_7 0), (42, q42_10_0.val), (43, i64 (q42_10_0.l.length : Int)), (44, i64 sg.1)]) (fun sg => Mo.tt) (fun sg => Ow.star (Blk b15_7 [sg.2.val, .slice none 0 0, .slice none 0 0] 268) (Ow.star (Blk b10_1 [.slice none 0 0, .slice none 0 0, .slice none 0 0] 268) (Ow.star (Sv.own sg.2 75) (Ow.emp)))) (0, (⟨none, 0, []⟩ : Sv FilesFile)) [0, 1, 2, 3, 4, 10, 15, 42, 43, 44] hS rfl ?_
 clear hS
 rintro ⟨x44_11, c0_12⟩ m1 y1 hS hK1
 refine Zq (Zr ?_)
 refine Zu (q_lss rfl rfl) ?_
 refine Zl ?_
 refine Zq ?_
 refine Zc hS (fun h45 hS => ?_) (fun h45 hS => ?_)
 ·
  refine Zk ?_
  refine Zq (Zb (Zq (Zr ?_)))
  obtain ⟨z46_13, nz46_13, hz46_13, hS⟩ := at_s hS
  refine Zu (q_ixm (s := q42_10_0) Tryz.underlying37 gsz9 rfl rfl nz46_13 (lt_of_get nz46_13 hz46_13)) ?_
  refine Zu (q_el (s := q42_10_0) gone9 rfl hz46_13 rfl) ?_
  refine Zy ?_
  refine Zq (Zr ?_)
  refine Zy ?_
  obtain ⟨y55_14, ey55_14, hS⟩ := bd_s hS
  refine Zu (q_call (tmerge_One_ct z46_13 base_0 ours_1 theirs_2 a_3 b_4 ey55_14) rfl (fun _ _ => rfl)) ?_
  refine Zm ?_
  refine Zu (q_extract rfl rfl) ?_
  refine Zu (q_extract rfl rfl) ?_
  refine Zu (q_extract rfl rfl) ?_
  refine VL.alloc (cs := [str [], i64 0, str []]) (by kernel_rfl) (by decide) fun b18_15 => ?_
  refine Zv (vc := [str y55_14.1.path, i64 y55_14.1.mode, str y55_14.1.data]) (cs' := [str y55_14.1.path, i64 y55_14.1.mode, str y55_14.1.data]) rfl gsz75 ?_
  refine Zy ?_
  refine VC.keep (ρ' := [(0, base_0.val), (1, ours_1.val), (2, theirs_2.val), (3, str a_3), (4, str b_4), (10, ptr b10_1 0), (15, ptr b15_7 0), (42, q42_10_0.val), (43, i64 (q42_10_0.l.length : Int)), (44, i64 x44_11), (17, str z46_13), (18, ptr b18_15 0), (19, .bool y55_14.2.1), (20, .bool y55_14.2.2)]) [0, 1, 2, 3, 4, 10, 15, 42, 43, 44, 17, 18, 19, 20] rfl ?_
  refine VC.cutJ (S := Sv FilesFile) (fun (c0_16 : Sv FilesFile) => c0_16.l) (fun (c0_16 : Sv FilesFile) => [(0, base_0.val), (1, ours_1.val), (2, theirs_2.val), (3, str a_3), (4, str b_4), (10, ptr b10_1 0), (15, ptr b15_7 0), (17, str z46_13), (20, .bool y55_14.2.2), (42, q42_10_0.val), (43, i64 (q42_10_0.l.length : Int)), (44, i64 x44_11)]) (fun (c0_16 : Sv FilesFile) => Mo.tt) (fun (c0_16 : Sv FilesFile) => Ow.star (Blk b18_15 [str y55_14.1.path, i64 y55_14.1.mode, str y55_14.1.data] 75) (Ow.star (Blk b15_7 [c0_16.val, .slice none 0 0, .slice none 0 0] 268) (Ow.star (Blk b10_1 [.slice none 0 0, .slice none 0 0, .slice none 0 0] 268) (Ow.star (Sv.own c0_16 75) (Ow.emp))))) hS ?_ ?_
  ·
   clear hS
   intro k17 hS
   refine Zq (Zr ?_)
   refine Zy ?_
   refine Zcb hS (fun h59 hS => ?_) (fun h59 hS => ?_)
   ·
    refine Zr ?_
    refine Zu (q_field gfa268_0 rfl) ?_
    refine Zu (q_fe gone24 rfl rfl) ?_
    refine Zu (q_fes gagg75 rfl rfl) ?_
    refine VL.lit (α := FilesFile) (xs := [.tmp 62]) (vs := [.agg #[str y55_14.1.path, i64 y55_14.1.mode, str y55_14.1.data]]) [⟨y55_14.1.path, y55_14.1.mode, y55_14.1.data⟩] Tryz.underlying24 glit75 (by decide) rfl rfl rfl rfl (by decide) (fun _ _ _ _ => trivial) (by decide) (fun s63_18 hs63_18 => ?_) (by decide)
    replace hS := lt_to hs63_18 hS
    obtain ⟨b64, hS⟩ := gd_s hS
    refine VL.app (s := c0_12) (r := s63_18) Tryz.underlying24 gapp75 (by decide) rfl Fo.out (ap1 b64) (ap2 b64 (by decide)) (by decide) (fun s64_20 hs64_20 => ?_)
    replace hS := lt_to hs64_20 hS
    refine Zu (q_field gfa268_0 rfl) ?_
    refine Zv (vc := [s64_20.val]) (cs' := [s64_20.val, .slice none 0 0, .slice none 0 0]) rfl gsz24 ?_
    refine VL.mt s64_20 [0, 1, 2, 3, 4, 10, 15, 17, 20, 42, 43, 44] (fun _ _ h => h) hS rfl
   refine VC.skip_mt c0_12 [0, 1, 2, 3, 4, 10, 15, 17, 20, 42, 43, 44] (fun _ _ h => h) hS rfl
  clear hS
  rintro c0_16 hS
  refine Zq (Zr ?_)
  refine Zy ?_
  refine Zcb hS (fun h66 hS => ?_) (fun h66 hS => ?_)
  ·
   refine Zq ?_
   cases hS
  refine Zk ?_
  refine Zr ?_
  obtain ⟨b83, hS⟩ := gd_s hS
  refine Zu (q_add rfl rfl b83) ?_
  refine Zm ?_
  refine VL.rnd ((x44_11 + 1), c0_16) [0, 1, 2, 3, 4, 10, 15, 42, 43, 44] (fun _ _ h => h) (go2 hS hK1) rfl
 replace hS := up2 hS hK1
 refine Zx ?_
 refine VC.keep (ρ' := [(10, ptr b10_1 0), (15, ptr b15_7 0)]) [10, 15] rfl ?_
 refine Zq (Zq (Zr ?_))
 refine Zu (q_field gfa268_0 rfl) ?_
 refine Zu (q_fe gone24 rfl rfl) ?_
 refine VL.shut c0_12 75 (fun _ _ _ _ => trivial) ?_
 obtain ⟨y86_22, ey86_22, hS⟩ := bd_s hS
 refine VL.callF (tmerge_fault_ct c0_12 ey86_22) rfl (by decide) ?_
 rintro q86_22_0 rfl
 try dsimp only
 refine Zy ?_
 refine Zq (Zr ?_)
 refine Zm ?_
 refine Zu (q_erne Tryz.underlying45 rfl) ?_
 refine Zl ?_
 refine Zcn hS (fun h88 hS => ?_) (fun h88 hS => ?_)
 ·
  refine Zq ?_
  cases hS
 refine Zk ?_
 refine Zq ?_
 refine VC.draw [(0, true), (1, true), (3, true), (4, true), (6, true), (7, true), (2, false), (5, false), (8, false), (9, true), (10, false), (11, true)] mixed (by kernel_rfl) (by kernel_rfl) (by kernel_rfl) ?_
 refine Zw rfl (q_field gfa268_0 rfl) ?_
 refine Zw rfl (q_fe gone24 rfl rfl) ?_
 refine Zw rfl (q_field gfa268_1 rfl) ?_
 refine Zw rfl (q_fe gone25 rfl rfl) ?_
 refine Zw rfl (q_field gfa268_2 rfl) ?_
 refine Zw rfl (q_fe gone37 rfl rfl) ?_
 refine VD.one rfl ?_
 obtain ⟨y93_23, ey93_23, hS⟩ := bd_s hS
 refine VL.callF (slices_Clip_files_Row_files_File_ct c0_12 ey93_23) rfl (by decide) ?_
 rintro q93_23_0 rfl
 try dsimp only
 refine VL.back (D' := [(7, .slice none 0 0), (6, ptr b15_7 2), (4, .slice none 0 0), (3, ptr b15_7 1)]) (by kernel_rfl) (Pend.cons rfl (q_fe gone37 rfl rfl) (Pend.cons rfl (q_field gfa268_2 rfl) (Pend.cons rfl (q_fe gone25 rfl rfl) (Pend.cons rfl (q_field gfa268_1 rfl) (Pend.nil))))) ?_
 refine VD.one rfl ?_
 obtain ⟨y96_24, ey96_24, hS⟩ := bd_s hS
 refine VL.callF (slices_Clip_index_Entry_index_Entry_ct ⟨none, 0, []⟩ ey96_24) rfl (by decide) ?_
 rintro q96_24_0 rfl
 try dsimp only
 refine VL.back (D' := [(7, .slice none 0 0), (6, ptr b15_7 2)]) (by kernel_rfl) (Pend.cons rfl (q_fe gone37 rfl rfl) (Pend.cons rfl (q_field gfa268_2 rfl) (Pend.nil))) ?_
 refine VD.one rfl ?_
 obtain ⟨y99_25, ey99_25, hS⟩ := bd_s hS
 refine VL.callF (slices_Clip_string_string_ct ⟨none, 0, []⟩ ey99_25) rfl (by decide) ?_
 rintro q99_25_0 rfl
 try dsimp only
 refine VL.back (D' := []) (by kernel_rfl) (Pend.nil) ?_
 refine Zw rfl (q_build (vs := [(0, q93_23_0.val), (1, q96_24_0.val), (2, q99_25_0.val)]) (cs := #[q93_23_0.val, q96_24_0.val, q99_25_0.val]) rfl (by kernel_rfl)) ?_
 refine VD.one rfl ?_
 refine Zv (vc := [q93_23_0.val, q96_24_0.val, q99_25_0.val]) (cs' := [q93_23_0.val, q96_24_0.val, q99_25_0.val]) rfl gsz268 ?_
 refine VL.back (D' := []) (by kernel_rfl) (Pend.nil) ?_
 refine Zw rfl (q_assign rfl) ?_
 refine VD.to (fun _ _ h => h) ?_
 refine VC.keep (ρ' := [(10, ptr b10_1 0), (11, .nilIface)]) [10, 11] rfl ?_
 cases hS
 exact VC.ret (finG (vs := [.agg #[q93_23_0.val, q96_24_0.val, q99_25_0.val], .nilIface]) (.inr rfl) rfl (RVs.cell gagg268 rfl rfl Rd.blk (RVs.tmp rfl (RVs.nil))) (⟨q93_23_0, q96_24_0, q99_25_0⟩, .nil) rfl rfl (by (try dsimp only); exact InM.out) (fun _ _ => trivial))
end Go.Proofs.YtdfbpkpldjpioaaGreatDoor
end

section
set_option linter.unusedVariables false
namespace Go.Proofs.YtdfbpkpldjpioaaGreatDoor
set_option maxHeartbeats 40000000
set_option maxRecDepth 100000
set_option synthInstance.maxSize 2000
set_option synthInstance.maxHeartbeats 1000000
open Go.RowKit Go.V
open Go.S hiding Str
theorem repo_merged_ct (s_0 : StateState) (base_1 : Sv FilesFile) (theirs_2 : Sv FilesFile) (name_3 : Str) {r : StateStateP × TmergeResultP × Err} (hS : Sh.repo_merged s_0.pl base_1.l theirs_2.l name_3 = some r) :
 Ct Tryz.prog 211 [.agg (zStateState s_0).toArray, base_1.val, theirs_2.val, str name_3] (s_0.now_work.ok.and (s_0.now_index.ok.and (s_0.now_refs.ok.and (s_0.now_seq_doing.ok.and (s_0.now_seq_todo.ok.and (s_0.now_seq_index.ok.and (s_0.now_seq_work.ok.and (s_0.now_stash.ok.and (s_0.commits.ok.and (s_0.log_back.ok.and (s_0.log_forth.ok.and (base_1.ok.and theirs_2.ok)))))))))))) (Ow.emp) (X := StateState × TmergeResult × Er) (fun x => .tuple #[.agg (Dat.enc x.1).toArray, .agg (Dat.enc x.2.1).toArray, x.2.2.val]) (fun x => r = (x.1.pl, x.2.1.pl, x.2.2.pl)) (fun x => (x.1.m.and (x.2.1.m.and x.2.2.ok))) (fun x => Ow.emp) := by
 refine Zo Tryz.func211 Tryz.ntmps211 fun c => ?_
 unfold Sh.repo_merged at hS
 refine Zq (Zr ?_)
 refine VL.box (cs := (zStateState s_0)) rfl rfl (by decide) fun b4_1 => ?_
 refine VL.alloc (cs := [.slice none 0 0, .slice none 0 0, .slice none 0 0, str [], i64 0, str [], i64 0, str [], .slice none 0 0, .slice none 0 0, i64 0, str [], str [], i64 0, .slice none 0 0, .slice none 0 0, .slice none 0 0, .slice none 0 0, .slice none 0 0, .slice none 0 0, i64 0]) (by kernel_rfl) (by decide) fun b8_2 => ?_
 refine VL.alloc (cs := [.slice none 0 0, .slice none 0 0, .slice none 0 0]) (by kernel_rfl) (by decide) fun b9_3 => ?_
 refine Zy ?_
 refine Zq (Zr ?_)
 refine Zm ?_
 refine Zu (q_fes gagg41 rfl rfl) ?_
 obtain ⟨y17_4, ey17_4, hS⟩ := bd_s hS
 refine VL.callF (repo_head_ct s_0 ey17_4) rfl (by decide) ?_
 rintro q17_4_0 rfl
 try dsimp only
 refine Zy ?_
 obtain ⟨y20_5, ey20_5, hS⟩ := bd_s hS
 refine VL.callF (tmerge_Merge_ct base_1 q17_4_0 theirs_2 [72, 69, 65, 68] name_3 ey20_5) rfl (by decide) ?_
 rintro ⟨q20_5_0, q20_5_1⟩ rfl
 try dsimp only
 refine Zm ?_
 refine Zu (q_extract rfl rfl) ?_
 refine Zu (q_extract rfl rfl) ?_
 refine VL.alloc (cs := [.slice none 0 0, .slice none 0 0, .slice none 0 0]) (by kernel_rfl) (by decide) fun b11_6 => ?_
 refine Zv (vc := [q20_5_0.files.val, q20_5_0.entries.val, q20_5_0.conflicts.val]) (cs' := [q20_5_0.files.val, q20_5_0.entries.val, q20_5_0.conflicts.val]) rfl gsz268 ?_
 refine Zy ?_
 refine VC.keep (ρ' := [(4, ptr b4_1 0), (8, ptr b8_2 0), (9, ptr b9_3 0), (11, ptr b11_6 0), (12, q20_5_1.val)]) [4, 8, 9, 11, 12] rfl ?_
 refine Zq (Zq (Zr ?_))
 refine Zm ?_
 refine Zu (q_erne Tryz.underlying45 rfl) ?_
 refine Zl ?_
 refine Zcn hS (fun h24 hS => ?_) (fun h24 hS => ?_)
 ·
  refine Zq ?_
  cases hS
 refine Zk ?_
 refine Zq (Zr ?_)
 refine Zu (q_fes gagg41 rfl rfl) ?_
 refine Zu (q_fes gagg268 rfl rfl) ?_
 obtain ⟨y31_7, ey31_7, hS⟩ := bd_s hS
 refine VL.callF (repo_laid_ct s_0 q20_5_0 ey31_7) rfl (by decide) ?_
 rintro ⟨q31_7_0, q31_7_1⟩ rfl
 try dsimp only
 refine Zm ?_
 refine Zu (q_extract rfl rfl) ?_
 refine Zu (q_extract rfl rfl) ?_
 refine VL.alloc (cs := [.slice none 0 0, .slice none 0 0, .slice none 0 0, str [], i64 0, str [], i64 0, str [], .slice none 0 0, .slice none 0 0, i64 0, str [], str [], i64 0, .slice none 0 0, .slice none 0 0, .slice none 0 0, .slice none 0 0, .slice none 0 0, .slice none 0 0, i64 0]) (by kernel_rfl) (by decide) fun b13_8 => ?_
 refine Zv (vc := (zStateState q31_7_0)) (cs' := (zStateState q31_7_0)) rfl gsz41 ?_
 refine Zy ?_
 refine VC.keep (ρ' := [(8, ptr b8_2 0), (9, ptr b9_3 0), (11, ptr b11_6 0), (12, q31_7_1.val), (13, ptr b13_8 0)]) [8, 9, 11, 12, 13] rfl ?_
 refine Zq ?_
 refine VC.draw [(0, true), (1, true), (2, true), (3, false), (4, false), (5, true)] mixed (by kernel_rfl) (by kernel_rfl) (by kernel_rfl) ?_
 refine Zw rfl (q_fes gagg41 rfl rfl) ?_
 refine Zw rfl (q_fes gagg268 rfl rfl) ?_
 refine Zw rfl (q_move rfl) ?_
 refine VD.one rfl ?_
 refine Zv (vc := (zStateState q31_7_0)) (cs' := (zStateState q31_7_0)) rfl gsz41 ?_
 refine VL.back (D' := [(1, .agg #[q20_5_0.files.val, q20_5_0.entries.val, q20_5_0.conflicts.val])]) (by kernel_rfl) (Pend.cons rfl (q_fes gagg268 rfl rfl) (Pend.nil)) ?_
 refine VD.one rfl ?_
 refine Zv (vc := [q20_5_0.files.val, q20_5_0.entries.val, q20_5_0.conflicts.val]) (cs' := [q20_5_0.files.val, q20_5_0.entries.val, q20_5_0.conflicts.val]) rfl gsz268 ?_
 refine VL.back (D' := []) (by kernel_rfl) (Pend.nil) ?_
 refine Zw rfl (q_assign rfl) ?_
 refine VD.to (fun _ _ h => h) ?_
 cases hS
 exact VC.ret (finG (vs := [.agg (zStateState q31_7_0).toArray, .agg #[q20_5_0.files.val, q20_5_0.entries.val, q20_5_0.conflicts.val], q31_7_1.val]) (.inr rfl) rfl (RVs.cell gagg41 rfl rfl Rd.blk (RVs.cell gagg268 rfl rfl Rd.blk (RVs.tmp rfl (RVs.nil)))) (q31_7_0, ⟨q20_5_0.files, q20_5_0.entries, q20_5_0.conflicts⟩, q31_7_1) rfl rfl (by (try dsimp only); exact InM.out) (fun _ _ => trivial))
theorem repo_merge_ct (s_0 : StateState) (name_1 : Str) {r : StateStateP × Bool × Err} (hS : Sh.repo_merge s_0.pl name_1 = some r) :
 Ct Tryz.prog 134 [.agg (zStateState s_0).toArray, str name_1] (s_0.now_work.ok.and (s_0.now_index.ok.and (s_0.now_refs.ok.and (s_0.now_seq_doing.ok.and (s_0.now_seq_todo.ok.and (s_0.now_seq_index.ok.and (s_0.now_seq_work.ok.and (s_0.now_stash.ok.and (s_0.commits.ok.and (s_0.log_back.ok.and s_0.log_forth.ok)))))))))) (Ow.emp) (X := StateState × Bool × Er) (fun x => .tuple #[.agg (Dat.enc x.1).toArray, .bool x.2.1, x.2.2.val]) (fun x => r = (x.1.pl, x.2.1, x.2.2.pl)) (fun x => (x.1.m.and x.2.2.ok)) (fun x => Ow.emp) := by
 refine Zo Tryz.func134 Tryz.ntmps134 fun c => ?_
 unfold Sh.repo_merge at hS
 refine Zq (Zr ?_)
 refine VL.box (cs := (zStateState s_0)) rfl rfl (by decide) fun b2_1 => ?_
 refine VL.alloc (cs := [.slice none 0 0, .slice none 0 0, .slice none 0 0, str [], i64 0, str [], i64 0, str [], .slice none 0 0, .slice none 0 0, i64 0, str [], str [], i64 0, .slice none 0 0, .slice none 0 0, .slice none 0 0, .slice none 0 0, .slice none 0 0, .slice none 0 0, i64 0]) (by kernel_rfl) (by decide) fun b4_2 => ?_
 refine Zy ?_
 refine Zq (Zr ?_)
 refine Zu (q_fes gagg41 rfl rfl) ?_
 refine Zm ?_
 obtain ⟨y18_3, ey18_3, hS⟩ := bd_s hS
 refine Zu (q_call (repo_find_ct s_0 name_1 ey18_3) rfl (fun _ _ => rfl)) ?_
 refine Zm ?_
 refine Zu (q_extract rfl rfl) ?_
 refine Zu (q_extract rfl rfl) ?_
 refine Zy ?_
 refine VC.keep (ρ' := [(1, str name_1), (2, ptr b2_1 0), (4, ptr b4_2 0), (7, i64 y18_3.1), (8, .bool y18_3.2)]) [1, 2, 4, 7, 8] rfl ?_
 refine Zq ?_
 refine VC.draw [(0, true), (1, true), (2, true), (3, true), (4, true), (5, false), (6, true), (7, true)] mixed (by kernel_rfl) (by kernel_rfl) (by kernel_rfl) ?_
 refine Zw rfl (q_field gfa41_0 rfl) ?_
 refine Zw rfl (q_field gfa35_3 rfl) ?_
 refine Zw rfl (q_field gfa28_1 rfl) ?_
 refine Zw rfl (q_fe gone3 rfl rfl) ?_
 refine Zw rfl (q_fes gagg41 rfl rfl) ?_
 refine VD.one rfl ?_
 obtain ⟨y26_4, ey26_4, hS⟩ := bd_s hS
 refine VL.callF (state_Graph_ct s_0 ey26_4) rfl (by decide) ?_
 rintro q26_4_0 rfl
 try dsimp only
 refine VL.back (D' := [(3, i64 s_0.now_head_commit), (2, ptr b2_1 4), (1, ptr b2_1 3), (0, ptr b2_1 0)]) (by kernel_rfl) (Pend.cons rfl (q_fe gone3 rfl rfl) (Pend.cons rfl (q_field gfa28_1 rfl) (Pend.cons rfl (q_field gfa35_3 rfl) (Pend.cons rfl (q_field gfa41_0 rfl) (Pend.nil))))) ?_
 refine Zw rfl (q_assign rfl) ?_
 refine Zw rfl (q_assign rfl) ?_
 refine VD.to (fun _ _ h => h) ?_
 refine Zq (Zb (Zq (Zr ?_)))
 refine Zm ?_
 refine Zu (q_not rfl) ?_
 refine Zy ?_
 refine VC.keep (ρ' := [(1, str name_1), (2, ptr b2_1 0), (4, ptr b4_2 0), (7, i64 y18_3.1), (9, i64 s_0.now_head_commit), (10, q26_4_0.val), (27, .bool (!y18_3.2))]) [1, 2, 4, 7, 9, 10, 27] rfl ?_
 refine Zcb hS (fun h27 hS => ?_) (fun h27 hS => ?_)
 ·
  refine Zq ?_
  cases hS
 refine Zq (Zr ?_)
 refine Zm ?_
 refine Zu (q_eql rfl rfl) ?_
 refine Zy ?_
 refine Zc hS (fun h32 hS => ?_) (fun h32 hS => ?_)
 ·
  refine Zq ?_
  cases hS
 refine Zq (Zr ?_)
 refine Zu (q_fes gagg41 rfl rfl) ?_
 obtain ⟨y39_5, ey39_5, hS⟩ := bd_s hS
 refine Zu (q_call (repo_clean_ct s_0 ey39_5) rfl (fun _ _ => rfl)) ?_
 refine Zu (q_not rfl) ?_
 refine Zy ?_
 refine VC.keep (ρ' := [(1, str name_1), (2, ptr b2_1 0), (4, ptr b4_2 0), (7, i64 y18_3.1), (9, i64 s_0.now_head_commit), (10, q26_4_0.val), (37, .bool (!y39_5))]) [1, 2, 4, 7, 9, 10, 37] rfl ?_
 refine Zcb hS (fun h37 hS => ?_) (fun h37 hS => ?_)
 ·
  refine Zq ?_
  cases hS
 refine Zk ?_
 refine Zq (Zr ?_)
 refine Zu (q_field gfa41_0 rfl) ?_
 refine Zu (q_field gfa35_2 rfl) ?_
 refine Zu (q_fe gone26 rfl rfl) ?_
 refine Zm ?_
 obtain ⟨z47_6, nz47_6, hz47_6, hS⟩ := at_s hS
 refine Zu (q_ixm (s := s_0.now_refs) Tryz.underlying26 gsz113 rfl rfl nz47_6 (lt_of_get nz47_6 hz47_6)) ?_
 refine Zu (q_field gfa113_1 rfl) ?_
 refine Zu (q_elf (s := s_0.now_refs) gone3 rfl hz47_6 rfl) ?_
 refine Zy ?_
 refine VC.keep (ρ' := [(1, str name_1), (2, ptr b2_1 0), (4, ptr b4_2 0), (9, i64 s_0.now_head_commit), (10, q26_4_0.val), (11, i64 z47_6.commit)]) [1, 2, 4, 9, 10, 11] rfl ?_
 refine Zq (Zq (Zr ?_))
 refine Zy ?_
 obtain ⟨y53_7, ey53_7, hS⟩ := bd_s hS
 refine Zu (q_call (graph_Graph_Is_ct q26_4_0 z47_6.commit s_0.now_head_commit ey53_7) rfl (fun _ _ => rfl)) ?_
 refine Zl ?_
 refine Zcb hS (fun h53 hS => ?_) (fun h53 hS => ?_)
 ·
  refine Zq (Zr ?_)
  refine Zu (q_fes gagg41 rfl rfl) ?_
  refine Zu (q_mkif Tryz.underlying50 (fun _ h => by cases h) rfl) ?_
  refine Zv (vc := (zStateState s_0)) (cs' := (zStateState s_0)) rfl gsz41 ?_
  refine Zy ?_
  refine VC.keep (ρ' := [(4, ptr b4_2 0), (5, .bool false), (6, (Er.no 10).val)]) [4, 5, 6] rfl ?_
  cases hS
  exact VC.ret (finG (vs := [.agg (zStateState s_0).toArray, .bool false, (Er.no 10).val]) (.inr rfl) rfl (RVs.cell gagg41 rfl rfl Rd.blk (RVs.tmp rfl (RVs.tmp rfl (RVs.nil)))) (s_0, false, (Er.no 10)) rfl rfl (by (try dsimp only); exact InM.out) (fun _ _ => trivial))
 refine Zk ?_
 refine Zq (Zr ?_)
 refine Zu (q_fes gagg41 rfl rfl) ?_
 refine Zm ?_
 obtain ⟨y58_8, ey58_8, hS⟩ := bd_s hS
 refine VL.callF (state_Tree_ct s_0 z47_6.commit ey58_8) rfl (by decide) ?_
 rintro q58_8_0 rfl
 try dsimp only
 refine Zy ?_
 refine VC.keep (ρ' := [(1, str name_1), (2, ptr b2_1 0), (4, ptr b4_2 0), (9, i64 s_0.now_head_commit), (10, q26_4_0.val), (11, i64 z47_6.commit), (12, q58_8_0.val)]) [1, 2, 4, 9, 10, 11, 12] rfl ?_
 refine Zq (Zq (Zr ?_))
 refine Zy ?_
 obtain ⟨y62_9, ey62_9, hS⟩ := bd_s hS
 refine Zu (q_call (graph_Graph_Is_ct q26_4_0 s_0.now_head_commit z47_6.commit ey62_9) rfl (fun _ _ => rfl)) ?_
 refine Zl ?_
 refine Zcb hS (fun h62 hS => ?_) (fun h62 hS => ?_)
 ·
  refine Zq (Zq (Zr ?_))
  refine Zu (q_fes gagg41 rfl rfl) ?_
  refine Zm ?_
  refine Zu (q_build (vs := [(0, q58_8_0.val)]) (cs := #[q58_8_0.val, .slice none 0 0, .slice none 0 0]) rfl (by kernel_rfl)) ?_
  obtain ⟨y67_10, ey67_10, hS⟩ := bd_s hS
  refine VL.callF (repo_laid_ct s_0 (⟨q58_8_0, ⟨none, 0, []⟩, ⟨none, 0, []⟩⟩ : TmergeResult) ey67_10) rfl (by decide) ?_
  rintro ⟨q67_10_0, q67_10_1⟩ rfl
  try dsimp only
  refine Zm ?_
  refine Zu (q_extract rfl rfl) ?_
  refine Zu (q_extract rfl rfl) ?_
  refine Zv (vc := (zStateState q67_10_0)) (cs' := (zStateState q67_10_0)) rfl gsz41 ?_
  refine Zy ?_
  refine VC.keep (ρ' := [(2, ptr b2_1 0), (4, ptr b4_2 0), (11, i64 z47_6.commit), (6, q67_10_1.val)]) [2, 4, 11, 6] rfl ?_
  refine Zq (Zr ?_)
  refine Zm ?_
  refine Zu (q_erne Tryz.underlying45 rfl) ?_
  refine Zl ?_
  refine Zcn hS (fun h71 hS => ?_) (fun h71 hS => ?_)
  ·
   refine Zq ?_
   cases hS
  refine Zk ?_
  refine Zq (Zr ?_)
  refine Zu (q_fes gagg41 rfl rfl) ?_
  refine Zm ?_
  obtain ⟨y76_11, ey76_11, hS⟩ := bd_s hS
  refine VL.callF (repo_move_ct q67_10_0 z47_6.commit ey76_11) rfl (by decide) ?_
  rintro q76_11_0 rfl
  try dsimp only
  refine Zv (vc := (zStateState q76_11_0)) (cs' := (zStateState q76_11_0)) rfl gsz41 ?_
  refine Zy ?_
  cases hS
  exact VC.ret (finG (vs := [.agg (zStateState q76_11_0).toArray, .bool false, .nilIface]) (.inr rfl) rfl (RVs.cell gagg41 rfl rfl Rd.blk (RVs.tmp rfl (RVs.tmp rfl (RVs.nil)))) (q76_11_0, false, .nil) rfl rfl (by (try dsimp only); exact InM.out) (fun _ _ => trivial))
 refine Zk ?_
 refine Zq ?_
 refine VC.drawG (n := 10) (listed := #[true, true, true, true, true, true, false, true, true, false, false, false, false, false, false, false, false, false]) [(0, true), (1, true), (2, true), (3, true), (4, true), (5, true), (7, true), (8, true)] mixed (by kernel_rfl) (by kernel_rfl) (by kernel_rfl) (by kernel_rfl) ?_
 refine VD.q rfl (q_fes gagg41 rfl rfl) (by decide) ?_
 refine VD.q rfl (q_fes gagg41 rfl rfl) (by decide) ?_
 refine VD.q rfl (q_move rfl) (by decide) ?_
 refine VD.q rfl (q_move rfl) (by decide) ?_
 refine VD.q rfl (q_move rfl) (by decide) ?_
 obtain ⟨y83_12, ey83_12, hS⟩ := bd_s hS
 refine VD.q rfl (q_call (graph_Graph_Base_ct q26_4_0 s_0.now_head_commit z47_6.commit ey83_12) rfl (fun _ _ => rfl)) (by decide) ?_
 refine VD.q rfl (q_move rfl) (by decide) ?_
 refine VD.q rfl (q_move rfl) (by decide) ?_
 obtain ⟨y84_13, ey84_13, hS⟩ := bd_s hS
 obtain ⟨y87_14, ey87_14, hS⟩ := bd_s hS
 refine VD.toG fun hcl => ?_
 refine VG.fork (l := [6, 14]) (n := 9) (by kernel_rfl) rfl fun i hi => ?_
 obtain rfl | rfl : i = 6 ∨ i = 14 := by simpa using hi
 ·
  refine VGo.of rfl ?_
  refine VL.callF (state_Tree_ct s_0 y83_12 ey84_13) rfl (by decide) ?_
  rintro q84_7061_0 rfl
  try dsimp only
  refine VL.backX (D' := [(0, .agg (zStateState s_0).toArray)]) (listed' := #[true, true, true, true, true, true, true, true, true, false, false, false, false, false, false, false, false, false]) (Pend.cons rfl (q_fes gagg41 rfl rfl) (Pend.nil)) (by kernel_rfl) (by kernel_rfl) ?_
  refine VG.fork (l := [9, 14]) (n := 8) (by kernel_rfl) rfl fun i hi => ?_
  obtain rfl | rfl : i = 9 ∨ i = 14 := by simpa using hi
  ·
   refine VGo.of rfl ?_
   refine VL.callF (repo_merged_ct s_0 q84_7061_0 q58_8_0 name_1 ey87_14) rfl (by decide) ?_
   rintro ⟨q87_7091_0, q87_7091_1, q87_7091_2⟩ rfl
   try dsimp only
   refine VL.backX (D' := []) (listed' := #[true, true, true, true, true, true, true, true, true, true, false, false, false, false, false, false, false, false]) (Pend.nil) (by kernel_rfl) (by kernel_rfl) ?_
   refine VG.ord [(10, true), (11, true), (12, true), (13, true), (14, false), (15, false), (16, false), (17, true)] (by kernel_rfl) (closed_of (by kernel_rfl)) (by kernel_rfl) ?_
   refine Zw rfl (q_move rfl) ?_
   refine Zw rfl (q_extract rfl rfl) ?_
   refine Zw rfl (q_extract rfl rfl) ?_
   refine Zw rfl (q_extract rfl rfl) ?_
   refine VD.one rfl ?_
   refine VL.alloc (cs := [.slice none 0 0, .slice none 0 0, .slice none 0 0]) (by kernel_rfl) (by decide) fun b13_7141 => ?_
   refine VL.back (D' := [(13, q87_7091_2.val), (12, .agg #[q87_7091_1.files.val, q87_7091_1.entries.val, q87_7091_1.conflicts.val]), (11, .agg (zStateState q87_7091_0).toArray), (10, .tuple #[.agg (zStateState q87_7091_0).toArray, .agg #[q87_7091_1.files.val, q87_7091_1.entries.val, q87_7091_1.conflicts.val], q87_7091_2.val])]) (by kernel_rfl) (Pend.cons rfl (q_extract rfl rfl) (Pend.cons rfl (q_extract rfl rfl) (Pend.cons rfl (q_extract rfl rfl) (Pend.cons rfl (q_move rfl) (Pend.nil))))) ?_
   refine VD.one rfl ?_
   refine Zv (vc := (zStateState q87_7091_0)) (cs' := (zStateState q87_7091_0)) rfl gsz41 ?_
   refine VL.back (D' := [(13, q87_7091_2.val), (12, .agg #[q87_7091_1.files.val, q87_7091_1.entries.val, q87_7091_1.conflicts.val])]) (by kernel_rfl) (Pend.cons rfl (q_extract rfl rfl) (Pend.cons rfl (q_extract rfl rfl) (Pend.nil))) ?_
   refine VD.one rfl ?_
   refine Zv (vc := [q87_7091_1.files.val, q87_7091_1.entries.val, q87_7091_1.conflicts.val]) (cs' := [q87_7091_1.files.val, q87_7091_1.entries.val, q87_7091_1.conflicts.val]) rfl gsz268 ?_
   refine VL.back (D' := [(13, q87_7091_2.val)]) (by kernel_rfl) (Pend.cons rfl (q_extract rfl rfl) (Pend.nil)) ?_
   refine Zw rfl (q_assign rfl) ?_
   refine VD.to (fun _ _ h => h) ?_
   refine VC.keep (ρ' := [(1, str name_1), (2, ptr b2_1 0), (4, ptr b4_2 0), (9, i64 s_0.now_head_commit), (11, i64 z47_6.commit), (13, ptr b13_7141 0), (6, q87_7091_2.val)]) [1, 2, 4, 9, 11, 13, 6] rfl ?_
   refine Zq (Zr ?_)
   refine Zm ?_
   obtain ⟨b92, hS⟩ := gd_s hS
   obtain ⟨y92_15, ey92_15, hS⟩ := lt_s hS
   refine Zu (q_catE rfl rfl b92 ey92_15) ?_
   refine Zy ?_
   refine Zq (Zb (Zq (Zr ?_)))
   refine Zm ?_
   refine Zu (q_erne Tryz.underlying45 rfl) ?_
   refine Zy ?_
   refine Zcn hS (fun h93 hS => ?_) (fun h93 hS => ?_)
   ·
    refine Zq ?_
    cases hS
   refine Zq (Zr ?_)
   refine Zu (q_field gfa268_2 rfl) ?_
   refine Zu (q_fe gone37 rfl rfl) ?_
   refine Zu (q_ln (s := q87_7091_1.conflicts) Tryz.underlying37 rfl) ?_
   refine Zu (q_gtr rfl rfl) ?_
   refine Zy ?_
   refine VC.keep (ρ' := [(2, ptr b2_1 0), (4, ptr b4_2 0), (9, i64 s_0.now_head_commit), (11, i64 z47_6.commit), (13, ptr b13_7141 0), (14, str y92_15), (98, .bool (decide (0 < (q87_7091_1.conflicts.l.length : Int))))]) [2, 4, 9, 11, 13, 14, 98] rfl ?_
   refine Zc hS (fun h98 hS => ?_) (fun h98 hS => ?_)
   ·
    refine Zq ?_
    cases hS
   refine Zq (Zr ?_)
   refine Zu (q_fes gagg41 rfl rfl) ?_
   obtain ⟨y113_16, ey113_16, hS⟩ := bd_s hS
   refine Zu (q_call (repo_room_ct q87_7091_0 ey113_16) rfl (fun _ _ => rfl)) ?_
   refine Zu (q_not rfl) ?_
   refine Zy ?_
   refine Zcb hS (fun h111 hS => ?_) (fun h111 hS => ?_)
   ·
    refine Zq ?_
    cases hS
   refine Zk ?_
   refine Zq (Zr ?_)
   refine Zu (q_fes gagg41 rfl rfl) ?_
   refine Zu (q_field gfa268_0 rfl) ?_
   refine Zu (q_fe gone24 rfl rfl) ?_
   refine Zy ?_
   refine VL.lit (α := Int) (xs := [.tmp 120, .tmp 121]) (vs := [i64 s_0.now_head_commit, i64 z47_6.commit]) [s_0.now_head_commit, z47_6.commit] Tryz.underlying56 glit3 (by decide) rfl rfl rfl rfl (by decide) (fun _ _ _ _ => trivial) (by decide) (fun s122_17 hs122_17 => ?_) (by decide)
   replace hS := lt_to hs122_17 hS
   refine Zm ?_
   obtain ⟨y124_19, ey124_19, hS⟩ := bd_s hS
   refine VL.callF (repo_made_ct q87_7091_0 q87_7091_1.files s122_17 y92_15 ey124_19) rfl (by decide) ?_
   rintro q124_19_0 rfl
   try dsimp only
   refine Zv (vc := (zStateState q124_19_0)) (cs' := (zStateState q124_19_0)) rfl gsz41 ?_
   refine Zy ?_
   refine VC.keep (ρ' := [(4, ptr b4_2 0), (5, .bool false), (6, .nilIface)]) [4, 5, 6] rfl ?_
   cases hS
   exact VC.ret (finG (vs := [.agg (zStateState q124_19_0).toArray, .bool false, .nilIface]) (.inr rfl) rfl (RVs.cell gagg41 rfl rfl Rd.blk (RVs.tmp rfl (RVs.tmp rfl (RVs.nil)))) (q124_19_0, false, .nil) rfl rfl (by (try dsimp only); exact InM.out) (fun _ _ => trivial))
  refine VGo.of rfl ?_
  refine VL.alloc (cs := [.slice none 0 0, .slice none 0 0, .slice none 0 0]) (by kernel_rfl) (by decide) fun b13_7141 => ?_
  refine VL.backX (D' := [(0, .agg (zStateState s_0).toArray)]) (listed' := #[true, true, true, true, true, true, true, true, true, false, false, false, false, false, true, false, false, false]) (Pend.cons rfl (q_fes gagg41 rfl rfl) (Pend.nil)) (by kernel_rfl) (by kernel_rfl) ?_
  refine VG.ord [(9, false), (10, true), (11, true), (12, true), (13, true), (15, false), (16, false), (17, true)] (by kernel_rfl) (closed_of (by kernel_rfl)) (by kernel_rfl) ?_
  refine VD.one rfl ?_
  refine VL.callF (repo_merged_ct s_0 q84_7061_0 q58_8_0 name_1 ey87_14) rfl (by decide) ?_
  rintro ⟨q87_7091_0, q87_7091_1, q87_7091_2⟩ rfl
  try dsimp only
  refine VL.back (D' := []) (by kernel_rfl) (Pend.nil) ?_
  refine Zw rfl (q_move rfl) ?_
  refine Zw rfl (q_extract rfl rfl) ?_
  refine Zw rfl (q_extract rfl rfl) ?_
  refine Zw rfl (q_extract rfl rfl) ?_
  refine VD.one rfl ?_
  refine Zv (vc := (zStateState q87_7091_0)) (cs' := (zStateState q87_7091_0)) rfl gsz41 ?_
  refine VL.back (D' := [(13, q87_7091_2.val), (12, .agg #[q87_7091_1.files.val, q87_7091_1.entries.val, q87_7091_1.conflicts.val])]) (by kernel_rfl) (Pend.cons rfl (q_extract rfl rfl) (Pend.cons rfl (q_extract rfl rfl) (Pend.nil))) ?_
  refine VD.one rfl ?_
  refine Zv (vc := [q87_7091_1.files.val, q87_7091_1.entries.val, q87_7091_1.conflicts.val]) (cs' := [q87_7091_1.files.val, q87_7091_1.entries.val, q87_7091_1.conflicts.val]) rfl gsz268 ?_
  refine VL.back (D' := [(13, q87_7091_2.val)]) (by kernel_rfl) (Pend.cons rfl (q_extract rfl rfl) (Pend.nil)) ?_
  refine Zw rfl (q_assign rfl) ?_
  refine VD.to (fun _ _ h => h) ?_
  refine VC.keep (ρ' := [(1, str name_1), (2, ptr b2_1 0), (4, ptr b4_2 0), (9, i64 s_0.now_head_commit), (11, i64 z47_6.commit), (13, ptr b13_7141 0), (6, q87_7091_2.val)]) [1, 2, 4, 9, 11, 13, 6] rfl ?_
  refine Zq (Zr ?_)
  refine Zm ?_
  obtain ⟨b92, hS⟩ := gd_s hS
  obtain ⟨y92_15, ey92_15, hS⟩ := lt_s hS
  refine Zu (q_catE rfl rfl b92 ey92_15) ?_
  refine Zy ?_
  refine Zq (Zb (Zq (Zr ?_)))
  refine Zm ?_
  refine Zu (q_erne Tryz.underlying45 rfl) ?_
  refine Zy ?_
  refine Zcn hS (fun h93 hS => ?_) (fun h93 hS => ?_)
  ·
   refine Zq ?_
   cases hS
  refine Zq (Zr ?_)
  refine Zu (q_field gfa268_2 rfl) ?_
  refine Zu (q_fe gone37 rfl rfl) ?_
  refine Zu (q_ln (s := q87_7091_1.conflicts) Tryz.underlying37 rfl) ?_
  refine Zu (q_gtr rfl rfl) ?_
  refine Zy ?_
  refine VC.keep (ρ' := [(2, ptr b2_1 0), (4, ptr b4_2 0), (9, i64 s_0.now_head_commit), (11, i64 z47_6.commit), (13, ptr b13_7141 0), (14, str y92_15), (98, .bool (decide (0 < (q87_7091_1.conflicts.l.length : Int))))]) [2, 4, 9, 11, 13, 14, 98] rfl ?_
  refine Zc hS (fun h98 hS => ?_) (fun h98 hS => ?_)
  ·
   refine Zq ?_
   cases hS
  refine Zq (Zr ?_)
  refine Zu (q_fes gagg41 rfl rfl) ?_
  obtain ⟨y113_16, ey113_16, hS⟩ := bd_s hS
  refine Zu (q_call (repo_room_ct q87_7091_0 ey113_16) rfl (fun _ _ => rfl)) ?_
  refine Zu (q_not rfl) ?_
  refine Zy ?_
  refine Zcb hS (fun h111 hS => ?_) (fun h111 hS => ?_)
  ·
   refine Zq ?_
   cases hS
  refine Zk ?_
  refine Zq (Zr ?_)
  refine Zu (q_fes gagg41 rfl rfl) ?_
  refine Zu (q_field gfa268_0 rfl) ?_
  refine Zu (q_fe gone24 rfl rfl) ?_
  refine Zy ?_
  refine VL.lit (α := Int) (xs := [.tmp 120, .tmp 121]) (vs := [i64 s_0.now_head_commit, i64 z47_6.commit]) [s_0.now_head_commit, z47_6.commit] Tryz.underlying56 glit3 (by decide) rfl rfl rfl rfl (by decide) (fun _ _ _ _ => trivial) (by decide) (fun s122_17 hs122_17 => ?_) (by decide)
  replace hS := lt_to hs122_17 hS
  refine Zm ?_
  obtain ⟨y124_19, ey124_19, hS⟩ := bd_s hS
  refine VL.callF (repo_made_ct q87_7091_0 q87_7091_1.files s122_17 y92_15 ey124_19) rfl (by decide) ?_
  rintro q124_19_0 rfl
  try dsimp only
  refine Zv (vc := (zStateState q124_19_0)) (cs' := (zStateState q124_19_0)) rfl gsz41 ?_
  refine Zy ?_
  refine VC.keep (ρ' := [(4, ptr b4_2 0), (5, .bool false), (6, .nilIface)]) [4, 5, 6] rfl ?_
  cases hS
  exact VC.ret (finG (vs := [.agg (zStateState q124_19_0).toArray, .bool false, .nilIface]) (.inr rfl) rfl (RVs.cell gagg41 rfl rfl Rd.blk (RVs.tmp rfl (RVs.tmp rfl (RVs.nil)))) (q124_19_0, false, .nil) rfl rfl (by (try dsimp only); exact InM.out) (fun _ _ => trivial))
 refine VGo.of rfl ?_
 refine VL.alloc (cs := [.slice none 0 0, .slice none 0 0, .slice none 0 0]) (by kernel_rfl) (by decide) fun b13_7141 => ?_
 refine VL.backX (D' := [(5, i64 y83_12), (1, .agg (zStateState s_0).toArray), (0, .agg (zStateState s_0).toArray)]) (listed' := #[true, true, true, true, true, true, false, true, true, false, false, false, false, false, true, false, false, false]) (Pend.cons rfl (q_call (graph_Graph_Base_ct q26_4_0 s_0.now_head_commit z47_6.commit ey83_12) rfl (fun _ _ => rfl)) (Pend.cons rfl (q_fes gagg41 rfl rfl) (Pend.cons rfl (q_fes gagg41 rfl rfl) (Pend.nil)))) (by kernel_rfl) (by kernel_rfl) ?_
 refine VG.ord [(6, false), (9, false), (10, true), (11, true), (12, true), (13, true), (15, false), (16, false), (17, true)] (by kernel_rfl) (closed_of (by kernel_rfl)) (by kernel_rfl) ?_
 refine VD.one rfl ?_
 refine VL.callF (state_Tree_ct s_0 y83_12 ey84_13) rfl (by decide) ?_
 rintro q84_7061_0 rfl
 try dsimp only
 refine VL.back (D' := [(0, .agg (zStateState s_0).toArray)]) (by kernel_rfl) (Pend.cons rfl (q_fes gagg41 rfl rfl) (Pend.nil)) ?_
 refine VD.one rfl ?_
 refine VL.callF (repo_merged_ct s_0 q84_7061_0 q58_8_0 name_1 ey87_14) rfl (by decide) ?_
 rintro ⟨q87_7091_0, q87_7091_1, q87_7091_2⟩ rfl
 try dsimp only
 refine VL.back (D' := []) (by kernel_rfl) (Pend.nil) ?_
 refine Zw rfl (q_move rfl) ?_
 refine Zw rfl (q_extract rfl rfl) ?_
 refine Zw rfl (q_extract rfl rfl) ?_
 refine Zw rfl (q_extract rfl rfl) ?_
 refine VD.one rfl ?_
 refine Zv (vc := (zStateState q87_7091_0)) (cs' := (zStateState q87_7091_0)) rfl gsz41 ?_
 refine VL.back (D' := [(13, q87_7091_2.val), (12, .agg #[q87_7091_1.files.val, q87_7091_1.entries.val, q87_7091_1.conflicts.val])]) (by kernel_rfl) (Pend.cons rfl (q_extract rfl rfl) (Pend.cons rfl (q_extract rfl rfl) (Pend.nil))) ?_
 refine VD.one rfl ?_
 refine Zv (vc := [q87_7091_1.files.val, q87_7091_1.entries.val, q87_7091_1.conflicts.val]) (cs' := [q87_7091_1.files.val, q87_7091_1.entries.val, q87_7091_1.conflicts.val]) rfl gsz268 ?_
 refine VL.back (D' := [(13, q87_7091_2.val)]) (by kernel_rfl) (Pend.cons rfl (q_extract rfl rfl) (Pend.nil)) ?_
 refine Zw rfl (q_assign rfl) ?_
 refine VD.to (fun _ _ h => h) ?_
 refine VC.keep (ρ' := [(1, str name_1), (2, ptr b2_1 0), (4, ptr b4_2 0), (9, i64 s_0.now_head_commit), (11, i64 z47_6.commit), (13, ptr b13_7141 0), (6, q87_7091_2.val)]) [1, 2, 4, 9, 11, 13, 6] rfl ?_
 refine Zq (Zr ?_)
 refine Zm ?_
 obtain ⟨b92, hS⟩ := gd_s hS
 obtain ⟨y92_15, ey92_15, hS⟩ := lt_s hS
 refine Zu (q_catE rfl rfl b92 ey92_15) ?_
 refine Zy ?_
 refine Zq (Zb (Zq (Zr ?_)))
 refine Zm ?_
 refine Zu (q_erne Tryz.underlying45 rfl) ?_
 refine Zy ?_
 refine Zcn hS (fun h93 hS => ?_) (fun h93 hS => ?_)
 ·
  refine Zq ?_
  cases hS
 refine Zq (Zr ?_)
 refine Zu (q_field gfa268_2 rfl) ?_
 refine Zu (q_fe gone37 rfl rfl) ?_
 refine Zu (q_ln (s := q87_7091_1.conflicts) Tryz.underlying37 rfl) ?_
 refine Zu (q_gtr rfl rfl) ?_
 refine Zy ?_
 refine VC.keep (ρ' := [(2, ptr b2_1 0), (4, ptr b4_2 0), (9, i64 s_0.now_head_commit), (11, i64 z47_6.commit), (13, ptr b13_7141 0), (14, str y92_15), (98, .bool (decide (0 < (q87_7091_1.conflicts.l.length : Int))))]) [2, 4, 9, 11, 13, 14, 98] rfl ?_
 refine Zc hS (fun h98 hS => ?_) (fun h98 hS => ?_)
 ·
  refine Zq ?_
  cases hS
 refine Zq (Zr ?_)
 refine Zu (q_fes gagg41 rfl rfl) ?_
 obtain ⟨y113_16, ey113_16, hS⟩ := bd_s hS
 refine Zu (q_call (repo_room_ct q87_7091_0 ey113_16) rfl (fun _ _ => rfl)) ?_
 refine Zu (q_not rfl) ?_
 refine Zy ?_
 refine Zcb hS (fun h111 hS => ?_) (fun h111 hS => ?_)
 ·
  refine Zq ?_
  cases hS
 refine Zk ?_
 refine Zq (Zr ?_)
 refine Zu (q_fes gagg41 rfl rfl) ?_
 refine Zu (q_field gfa268_0 rfl) ?_
 refine Zu (q_fe gone24 rfl rfl) ?_
 refine Zy ?_
 refine VL.lit (α := Int) (xs := [.tmp 120, .tmp 121]) (vs := [i64 s_0.now_head_commit, i64 z47_6.commit]) [s_0.now_head_commit, z47_6.commit] Tryz.underlying56 glit3 (by decide) rfl rfl rfl rfl (by decide) (fun _ _ _ _ => trivial) (by decide) (fun s122_17 hs122_17 => ?_) (by decide)
 replace hS := lt_to hs122_17 hS
 refine Zm ?_
 obtain ⟨y124_19, ey124_19, hS⟩ := bd_s hS
 refine VL.callF (repo_made_ct q87_7091_0 q87_7091_1.files s122_17 y92_15 ey124_19) rfl (by decide) ?_
 rintro q124_19_0 rfl
 try dsimp only
 refine Zv (vc := (zStateState q124_19_0)) (cs' := (zStateState q124_19_0)) rfl gsz41 ?_
 refine Zy ?_
 refine VC.keep (ρ' := [(4, ptr b4_2 0), (5, .bool false), (6, .nilIface)]) [4, 5, 6] rfl ?_
 cases hS
 exact VC.ret (finG (vs := [.agg (zStateState q124_19_0).toArray, .bool false, .nilIface]) (.inr rfl) rfl (RVs.cell gagg41 rfl rfl Rd.blk (RVs.tmp rfl (RVs.tmp rfl (RVs.nil)))) (q124_19_0, false, .nil) rfl rfl (by (try dsimp only); exact InM.out) (fun _ _ => trivial))
theorem repo_idle_ct (s_0 : StateState) (c_1 : CmdCmd) {r : StateStateP × Bool × Err} (hS : Sh.repo_idle s_0.pl c_1.pl = some r) :
 Ct Tryz.prog 68 [.agg (zStateState s_0).toArray, .agg #[str c_1.verb, str c_1.name, i64 c_1.n, str c_1.text, .bool c_1.force, c_1.todo.val]] (s_0.now_work.ok.and (s_0.now_index.ok.and (s_0.now_refs.ok.and (s_0.now_seq_doing.ok.and (s_0.now_seq_todo.ok.and (s_0.now_seq_index.ok.and (s_0.now_seq_work.ok.and (s_0.now_stash.ok.and (s_0.commits.ok.and (s_0.log_back.ok.and (s_0.log_forth.ok.and c_1.todo.ok))))))))))) (Ow.emp) (X := StateState × Bool × Er) (fun x => .tuple #[.agg (Dat.enc x.1).toArray, .bool x.2.1, x.2.2.val]) (fun x => r = (x.1.pl, x.2.1, x.2.2.pl)) (fun x => (x.1.m.and x.2.2.ok)) (fun x => Ow.emp) := by
 refine Zo Tryz.func68 Tryz.ntmps68 fun c => ?_
 unfold Sh.repo_idle at hS
 refine Zq (Zr ?_)
 refine VL.box (cs := (zStateState s_0)) rfl rfl (by decide) fun b2_1 => ?_
 refine VL.box (cs := [str c_1.verb, str c_1.name, i64 c_1.n, str c_1.text, .bool c_1.force, c_1.todo.val]) rfl rfl (by decide) fun b3_2 => ?_
 refine VL.alloc (cs := [.slice none 0 0, .slice none 0 0, .slice none 0 0, str [], i64 0, str [], i64 0, str [], .slice none 0 0, .slice none 0 0, i64 0, str [], str [], i64 0, .slice none 0 0, .slice none 0 0, .slice none 0 0, .slice none 0 0, .slice none 0 0, .slice none 0 0, i64 0]) (by kernel_rfl) (by decide) fun b4_3 => ?_
 refine Zy ?_
 refine VC.cutJ (S := Er × Sv FilesFile × Sv IndexEntry × Sv NamesRef × Str × Int × Str × Int × Str × Sv TodoStep × Sv TodoStep × Int × Str × Str × Int × Sv IndexEntry × Sv FilesFile × Sv ShelfShelf × Sv StateCommit × Sv Str × Sv Str × Int) (fun sg => (sg.1.pl, sg.2.1.l, sg.2.2.1.l, sg.2.2.2.1.l, sg.2.2.2.2.1, sg.2.2.2.2.2.1, sg.2.2.2.2.2.2.1, sg.2.2.2.2.2.2.2.1, sg.2.2.2.2.2.2.2.2.1, sg.2.2.2.2.2.2.2.2.2.1.l, sg.2.2.2.2.2.2.2.2.2.2.1.l, sg.2.2.2.2.2.2.2.2.2.2.2.1, sg.2.2.2.2.2.2.2.2.2.2.2.2.1, sg.2.2.2.2.2.2.2.2.2.2.2.2.2.1, sg.2.2.2.2.2.2.2.2.2.2.2.2.2.2.1, sg.2.2.2.2.2.2.2.2.2.2.2.2.2.2.2.1.l, sg.2.2.2.2.2.2.2.2.2.2.2.2.2.2.2.2.1.l, (sg.2.2.2.2.2.2.2.2.2.2.2.2.2.2.2.2.2.1.l.map ShelfShelf.pl), (sg.2.2.2.2.2.2.2.2.2.2.2.2.2.2.2.2.2.2.1.l.map StateCommit.pl), sg.2.2.2.2.2.2.2.2.2.2.2.2.2.2.2.2.2.2.2.1.l, sg.2.2.2.2.2.2.2.2.2.2.2.2.2.2.2.2.2.2.2.2.1.l, sg.2.2.2.2.2.2.2.2.2.2.2.2.2.2.2.2.2.2.2.2.2)) (fun sg => [(4, ptr b4_3 0), (6, sg.1.val)]) (fun sg => (sg.1.ok.and (sg.2.1.ok.and (sg.2.2.1.ok.and (sg.2.2.2.1.ok.and (sg.2.2.2.2.2.2.2.2.2.1.ok.and (sg.2.2.2.2.2.2.2.2.2.2.1.ok.and (sg.2.2.2.2.2.2.2.2.2.2.2.2.2.2.2.1.ok.and (sg.2.2.2.2.2.2.2.2.2.2.2.2.2.2.2.2.1.ok.and (sg.2.2.2.2.2.2.2.2.2.2.2.2.2.2.2.2.2.1.ok.and (sg.2.2.2.2.2.2.2.2.2.2.2.2.2.2.2.2.2.2.1.ok.and (sg.2.2.2.2.2.2.2.2.2.2.2.2.2.2.2.2.2.2.2.1.ok.and sg.2.2.2.2.2.2.2.2.2.2.2.2.2.2.2.2.2.2.2.2.1.ok)))))))))))) (fun sg => Ow.star (Blk b4_3 [sg.2.1.val, sg.2.2.1.val, sg.2.2.2.1.val, str sg.2.2.2.2.1, i64 sg.2.2.2.2.2.1, str sg.2.2.2.2.2.2.1, i64 sg.2.2.2.2.2.2.2.1, str sg.2.2.2.2.2.2.2.2.1, sg.2.2.2.2.2.2.2.2.2.1.val, sg.2.2.2.2.2.2.2.2.2.2.1.val, i64 sg.2.2.2.2.2.2.2.2.2.2.2.1, str sg.2.2.2.2.2.2.2.2.2.2.2.2.1, str sg.2.2.2.2.2.2.2.2.2.2.2.2.2.1, i64 sg.2.2.2.2.2.2.2.2.2.2.2.2.2.2.1, sg.2.2.2.2.2.2.2.2.2.2.2.2.2.2.2.1.val, sg.2.2.2.2.2.2.2.2.2.2.2.2.2.2.2.2.1.val, sg.2.2.2.2.2.2.2.2.2.2.2.2.2.2.2.2.2.1.val, sg.2.2.2.2.2.2.2.2.2.2.2.2.2.2.2.2.2.2.1.val, sg.2.2.2.2.2.2.2.2.2.2.2.2.2.2.2.2.2.2.2.1.val, sg.2.2.2.2.2.2.2.2.2.2.2.2.2.2.2.2.2.2.2.2.1.val, i64 sg.2.2.2.2.2.2.2.2.2.2.2.2.2.2.2.2.2.2.2.2.2] 41) (Ow.star (Blk b3_2 [str c_1.verb, str c_1.name, i64 c_1.n, str c_1.text, .bool c_1.force, c_1.todo.val] 60) (Ow.star (Blk b2_1 (zStateState s_0) 41) (Ow.emp)))) hS ?_ ?_
 ·
  clear hS
  intro k26 hS
  refine Zq (Zr ?_)
  refine Zu (q_field gfa60_0 rfl) ?_
  refine Zu (q_fe gone9 rfl rfl) ?_
  refine Zl ?_
  refine Zb (Zq (Zb ?_))
  refine VC.cutJ (S := Unit) (fun (_ : Unit) => ()) (fun (_ : Unit) => [(2, ptr b2_1 0), (3, ptr b3_2 0), (4, ptr b4_3 0)]) (fun (_ : Unit) => Mo.tt) (fun (_ : Unit) => Ow.star (Blk b4_3 [.slice none 0 0, .slice none 0 0, .slice none 0 0, str [], i64 0, str [], i64 0, str [], .slice none 0 0, .slice none 0 0, i64 0, str [], str [], i64 0, .slice none 0 0, .slice none 0 0, .slice none 0 0, .slice none 0 0, .slice none 0 0, .slice none 0 0, i64 0] 41) (Ow.star (Blk b3_2 [str c_1.verb, str c_1.name, i64 c_1.n, str c_1.text, .bool c_1.force, c_1.todo.val] 60) (Ow.star (Blk b2_1 (zStateState s_0) 41) (Ow.emp)))) hS ?_ ?_
  ·
   clear hS
   intro k27 hS
   refine Zb (Zb ?_)
   refine VC.cutJ (S := Unit) (fun (_ : Unit) => ()) (fun (_ : Unit) => [(2, ptr b2_1 0), (3, ptr b3_2 0), (4, ptr b4_3 0)]) (fun (_ : Unit) => Mo.tt) (fun (_ : Unit) => Ow.star (Blk b4_3 [.slice none 0 0, .slice none 0 0, .slice none 0 0, str [], i64 0, str [], i64 0, str [], .slice none 0 0, .slice none 0 0, i64 0, str [], str [], i64 0, .slice none 0 0, .slice none 0 0, .slice none 0 0, .slice none 0 0, .slice none 0 0, .slice none 0 0, i64 0] 41) (Ow.star (Blk b3_2 [str c_1.verb, str c_1.name, i64 c_1.n, str c_1.text, .bool c_1.force, c_1.todo.val] 60) (Ow.star (Blk b2_1 (zStateState s_0) 41) (Ow.emp)))) hS ?_ ?_
   ·
    clear hS
    intro k28 hS
    refine Zb (Zb (Zq (Zb (Zq (Zb (Zq (Zb (Zq (Zb (Zq (Zb (Zq (Zb (Zq (Zb (Zq (Zq (Zq (Zr ?_)))))))))))))))))))
    refine Zy ?_
    refine Zc hS (fun h9 hS => ?_) (fun h9 hS => ?_)
    ·
     refine Zx ?_
     refine VC.keep (ρ' := [(2, ptr b2_1 0), (3, ptr b3_2 0), (4, ptr b4_3 0)]) [2, 3, 4] rfl ?_
     refine Zq (Zr ?_)
     refine Zu (q_fes gagg41 rfl rfl) ?_
     refine Zu (q_field gfa60_1 rfl) ?_
     refine Zu (q_fe gone9 rfl rfl) ?_
     obtain ⟨y35_29, ey35_29, hS⟩ := bd_s hS
     refine VL.callF (repo_branch_ct s_0 c_1.name ey35_29) rfl (by decide) ?_
     rintro ⟨q35_29_0, q35_29_1⟩ rfl
     try dsimp only
     refine Zm ?_
     refine Zu (q_extract rfl rfl) ?_
     refine Zu (q_extract rfl rfl) ?_
     refine Zv (vc := (zStateState q35_29_0)) (cs' := (zStateState q35_29_0)) rfl gsz41 ?_
     refine Zy ?_
     refine VC.keep (ρ' := [(4, ptr b4_3 0), (6, q35_29_1.val)]) [4, 6] rfl ?_
     refine VC.exit_mt (q35_29_1, q35_29_0.now_work, q35_29_0.now_index, q35_29_0.now_refs, q35_29_0.now_head_branch, q35_29_0.now_head_commit, q35_29_0.now_seq_kind, q35_29_0.now_seq_other, q35_29_0.now_seq_text, q35_29_0.now_seq_doing, q35_29_0.now_seq_todo, q35_29_0.now_seq_made, q35_29_0.now_seq_branch, q35_29_0.now_seq_head_branch, q35_29_0.now_seq_head_commit, q35_29_0.now_seq_index, q35_29_0.now_seq_work, q35_29_0.now_stash, q35_29_0.commits, q35_29_0.log_back, q35_29_0.log_forth, q35_29_0.time) [4, 6] (fun _ _ h => h) hS rfl
    refine Zk ?_
    refine VC.keep (ρ' := [(2, ptr b2_1 0), (3, ptr b3_2 0), (4, ptr b4_3 0), (8, str c_1.verb)]) [2, 3, 4, 8] rfl ?_
    refine Zq (Zq (Zr ?_))
    refine Zy ?_
    refine Zc hS (fun h11 hS => ?_) (fun h11 hS => ?_)
    ·
     refine Zx ?_
     refine Zq ?_
     cases hS
    refine Zk ?_
    refine Zq (Zq (Zr ?_))
    refine Zy ?_
    refine Zc hS (fun h13 hS => ?_) (fun h13 hS => ?_)
    ·
     refine Zx ?_
     refine Zq (Zr ?_)
     refine Zu (q_fes gagg41 rfl rfl) ?_
     refine Zu (q_fes gagg60 rfl rfl) ?_
     obtain ⟨y48_30, ey48_30, hS⟩ := bd_s hS
     refine VL.callF (repo_change_ct s_0 c_1 ey48_30) rfl (by decide) ?_
     rintro ⟨q48_30_0, q48_30_1⟩ rfl
     try dsimp only
     refine Zm ?_
     refine Zu (q_extract rfl rfl) ?_
     refine Zu (q_extract rfl rfl) ?_
     refine Zv (vc := (zStateState q48_30_0)) (cs' := (zStateState q48_30_0)) rfl gsz41 ?_
     refine Zy ?_
     refine VC.keep (ρ' := [(4, ptr b4_3 0), (6, q48_30_1.val)]) [4, 6] rfl ?_
     refine VC.exit_mt (q48_30_1, q48_30_0.now_work, q48_30_0.now_index, q48_30_0.now_refs, q48_30_0.now_head_branch, q48_30_0.now_head_commit, q48_30_0.now_seq_kind, q48_30_0.now_seq_other, q48_30_0.now_seq_text, q48_30_0.now_seq_doing, q48_30_0.now_seq_todo, q48_30_0.now_seq_made, q48_30_0.now_seq_branch, q48_30_0.now_seq_head_branch, q48_30_0.now_seq_head_commit, q48_30_0.now_seq_index, q48_30_0.now_seq_work, q48_30_0.now_stash, q48_30_0.commits, q48_30_0.log_back, q48_30_0.log_forth, q48_30_0.time) [4, 6] (fun _ _ h => h) hS rfl
    refine Zk ?_
    refine Zq (Zq (Zr ?_))
    refine Zy ?_
    refine Zc hS (fun h15 hS => ?_) (fun h15 hS => ?_)
    ·
     refine Zx ?_
     refine Zq ?_
     cases hS
    refine Zk ?_
    refine Zq (Zq (Zr ?_))
    refine Zy ?_
    refine VC.keep (ρ' := [(2, ptr b2_1 0), (3, ptr b3_2 0), (4, ptr b4_3 0), (8, str c_1.verb), (17, .bool (decide (c_1.verb = [115, 116, 97, 115, 104])))]) [2, 3, 4, 8, 17] rfl ?_
    refine Zc hS (fun h17 hS => ?_) (fun h17 hS => ?_)
    ·
     refine Zx ?_
     refine Zq ?_
     cases hS
    refine Zk ?_
    refine Zq (Zq (Zr ?_))
    refine Zy ?_
    refine Zc hS (fun h19 hS => ?_) (fun h19 hS => ?_)
    ·
     refine Zx ?_
     refine Zq ?_
     cases hS
    refine Zk ?_
    refine Zq (Zq (Zr ?_))
    refine Zy ?_
    refine Zc hS (fun h21 hS => ?_) (fun h21 hS => ?_)
    ·
     refine Zx ?_
     refine Zq (Zq (Zr ?_))
     refine Zu (q_fes gagg41 rfl rfl) ?_
     refine Zu (q_field gfa60_1 rfl) ?_
     refine Zu (q_fe gone9 rfl rfl) ?_
     obtain ⟨y74_31, ey74_31, hS⟩ := bd_s hS
     refine VL.callF (repo_merge_ct s_0 c_1.name ey74_31) rfl (by decide) ?_
     rintro ⟨q74_31_0, q74_31_1, q74_31_2⟩ rfl
     try dsimp only
     refine Zu (q_extract rfl rfl) ?_
     refine Zu (q_extract rfl rfl) ?_
     refine Zu (q_extract rfl rfl) ?_
     refine Zv (vc := (zStateState q74_31_0)) (cs' := (zStateState q74_31_0)) rfl gsz41 ?_
     refine Zy ?_
     refine VC.keep (ρ' := [(4, ptr b4_3 0), (5, .bool q74_31_1), (6, q74_31_2.val)]) [4, 5, 6] rfl ?_
     cases hS
     exact VC.ret (finG (vs := [.agg (zStateState q74_31_0).toArray, .bool q74_31_1, q74_31_2.val]) (.inr rfl) rfl (RVs.cell gagg41 rfl rfl Rd.blk (RVs.tmp rfl (RVs.tmp rfl (RVs.nil)))) (q74_31_0, q74_31_1, q74_31_2) rfl rfl (by (try dsimp only); exact InM.out) (fun _ _ => trivial))
    refine Zk ?_
    refine Zq (Zq (Zr ?_))
    refine Zy ?_
    refine Zc hS (fun h23 hS => ?_) (fun h23 hS => ?_)
    ·
     refine VC.exit_mt () [2, 3, 4] (fun _ _ h => h) hS rfl
    refine Zk ?_
    refine VC.keep (ρ' := [(2, ptr b2_1 0), (3, ptr b3_2 0), (4, ptr b4_3 0), (8, str c_1.verb)]) [2, 3, 4, 8] rfl ?_
    refine Zq (Zq (Zr ?_))
    refine Zy ?_
    refine Zc hS (fun h25 hS => ?_) (fun h25 hS => ?_)
    ·
     refine VC.exit_mt () [2, 3, 4] (fun _ _ h => h) hS rfl
    refine Zk ?_
    refine Zq (Zq (Zr ?_))
    refine Zy ?_
    refine Zc hS (fun h27 hS => ?_) (fun h27 hS => ?_)
    ·
     refine VC.exit_mt () [2, 3, 4] (fun _ _ h => h) hS rfl
    refine Zk ?_
    refine Zq (Zr ?_)
    refine Zy ?_
    refine Zc hS (fun h29 hS => ?_) (fun h29 hS => ?_)
    ·
     refine VC.exit_mt () [2, 3, 4] (fun _ _ h => h) hS rfl
    refine Zk ?_
    refine Zx ?_
    refine Zq (Zq ?_)
    cases hS
   clear hS
   rintro _ hS
   refine Zq (Zq ?_)
   cases hS
  clear hS
  rintro _ hS
  refine Zq (Zq ?_)
  cases hS
 clear hS
 rintro ⟨err6_4, c0_5, c1_6, c2_7, c3_8, c4_9, c5_10, c6_11, c7_12, c8_13, c9_14, c10_15, c11_16, c12_17, c13_18, c14_19, c15_20, c16_21, c17_22, c18_23, c19_24, c20_25⟩ hS
 refine Zq (Zr ?_)
 refine Zu (q_fes gagg41 rfl rfl) ?_
 refine Zm ?_
 refine Zv (vc := [c0_5.val, c1_6.val, c2_7.val, str c3_8, i64 c4_9, str c5_10, i64 c6_11, str c7_12, c8_13.val, c9_14.val, i64 c10_15, str c11_16, str c12_17, i64 c13_18, c14_19.val, c15_20.val, c16_21.val, c17_22.val, c18_23.val, c19_24.val, i64 c20_25]) (cs' := [c0_5.val, c1_6.val, c2_7.val, str c3_8, i64 c4_9, str c5_10, i64 c6_11, str c7_12, c8_13.val, c9_14.val, i64 c10_15, str c11_16, str c12_17, i64 c13_18, c14_19.val, c15_20.val, c16_21.val, c17_22.val, c18_23.val, c19_24.val, i64 c20_25]) rfl gsz41 ?_
 refine Zy ?_
 cases hS
 exact VC.ret (finG (vs := [.agg #[c0_5.val, c1_6.val, c2_7.val, str c3_8, i64 c4_9, str c5_10, i64 c6_11, str c7_12, c8_13.val, c9_14.val, i64 c10_15, str c11_16, str c12_17, i64 c13_18, c14_19.val, c15_20.val, c16_21.val, c17_22.val, c18_23.val, c19_24.val, i64 c20_25], .bool false, err6_4.val]) (.inr rfl) rfl (RVs.cell gagg41 rfl rfl Rd.blk (RVs.tmp rfl (RVs.tmp rfl (RVs.nil)))) (⟨c0_5, c1_6, c2_7, c3_8, c4_9, c5_10, c6_11, c7_12, c8_13, c9_14, c10_15, c11_16, c12_17, c13_18, c14_19, c15_20, c16_21, c17_22, c18_23, c19_24, c20_25⟩, false, err6_4) rfl rfl (by (try dsimp only); exact InM.out) (fun _ _ => trivial))
theorem repo_run_ct (s_0 : StateState) (c_1 : CmdCmd) {r : StateStateP × Bool × Err} (hS : Sh.repo_run s_0.pl c_1.pl = some r) :
 Ct Tryz.prog 32 [.agg (zStateState s_0).toArray, .agg #[str c_1.verb, str c_1.name, i64 c_1.n, str c_1.text, .bool c_1.force, c_1.todo.val]] (s_0.now_work.ok.and (s_0.now_index.ok.and (s_0.now_refs.ok.and (s_0.now_seq_doing.ok.and (s_0.now_seq_todo.ok.and (s_0.now_seq_index.ok.and (s_0.now_seq_work.ok.and (s_0.now_stash.ok.and (s_0.commits.ok.and (s_0.log_back.ok.and (s_0.log_forth.ok.and c_1.todo.ok))))))))))) (Ow.emp) (X := StateState × Bool × Er) (fun x => .tuple #[.agg (Dat.enc x.1).toArray, .bool x.2.1, x.2.2.val]) (fun x => r = (x.1.pl, x.2.1, x.2.2.pl)) (fun x => (x.1.m.and x.2.2.ok)) (fun x => Ow.emp) := by
 refine Zo Tryz.func32 Tryz.ntmps32 fun c => ?_
 unfold Sh.repo_run at hS
 refine Zq (Zr ?_)
 refine VL.box (cs := (zStateState s_0)) rfl rfl (by decide) fun b2_1 => ?_
 refine VL.box (cs := [str c_1.verb, str c_1.name, i64 c_1.n, str c_1.text, .bool c_1.force, c_1.todo.val]) rfl rfl (by decide) fun b3_2 => ?_
 refine VL.alloc (cs := [.slice none 0 0, .slice none 0 0, .slice none 0 0, str [], i64 0, str [], i64 0, str [], .slice none 0 0, .slice none 0 0, i64 0, str [], str [], i64 0, .slice none 0 0, .slice none 0 0, .slice none 0 0, .slice none 0 0, .slice none 0 0, .slice none 0 0, i64 0]) (by kernel_rfl) (by decide) fun b4_3 => ?_
 refine Zy ?_
 refine VC.cutJ (S := Er × Sv FilesFile × Sv IndexEntry × Sv NamesRef × Str × Int × Str × Int × Str × Sv TodoStep × Sv TodoStep × Int × Str × Str × Int × Sv IndexEntry × Sv FilesFile × Sv ShelfShelf × Sv StateCommit × Sv Str × Sv Str × Int) (fun sg => (sg.1.pl, sg.2.1.l, sg.2.2.1.l, sg.2.2.2.1.l, sg.2.2.2.2.1, sg.2.2.2.2.2.1, sg.2.2.2.2.2.2.1, sg.2.2.2.2.2.2.2.1, sg.2.2.2.2.2.2.2.2.1, sg.2.2.2.2.2.2.2.2.2.1.l, sg.2.2.2.2.2.2.2.2.2.2.1.l, sg.2.2.2.2.2.2.2.2.2.2.2.1, sg.2.2.2.2.2.2.2.2.2.2.2.2.1, sg.2.2.2.2.2.2.2.2.2.2.2.2.2.1, sg.2.2.2.2.2.2.2.2.2.2.2.2.2.2.1, sg.2.2.2.2.2.2.2.2.2.2.2.2.2.2.2.1.l, sg.2.2.2.2.2.2.2.2.2.2.2.2.2.2.2.2.1.l, (sg.2.2.2.2.2.2.2.2.2.2.2.2.2.2.2.2.2.1.l.map ShelfShelf.pl), (sg.2.2.2.2.2.2.2.2.2.2.2.2.2.2.2.2.2.2.1.l.map StateCommit.pl), sg.2.2.2.2.2.2.2.2.2.2.2.2.2.2.2.2.2.2.2.1.l, sg.2.2.2.2.2.2.2.2.2.2.2.2.2.2.2.2.2.2.2.2.1.l, sg.2.2.2.2.2.2.2.2.2.2.2.2.2.2.2.2.2.2.2.2.2)) (fun sg => [(4, ptr b4_3 0), (6, sg.1.val)]) (fun sg => (sg.1.ok.and (sg.2.1.ok.and (sg.2.2.1.ok.and (sg.2.2.2.1.ok.and (sg.2.2.2.2.2.2.2.2.2.1.ok.and (sg.2.2.2.2.2.2.2.2.2.2.1.ok.and (sg.2.2.2.2.2.2.2.2.2.2.2.2.2.2.2.1.ok.and (sg.2.2.2.2.2.2.2.2.2.2.2.2.2.2.2.2.1.ok.and (sg.2.2.2.2.2.2.2.2.2.2.2.2.2.2.2.2.2.1.ok.and (sg.2.2.2.2.2.2.2.2.2.2.2.2.2.2.2.2.2.2.1.ok.and (sg.2.2.2.2.2.2.2.2.2.2.2.2.2.2.2.2.2.2.2.1.ok.and sg.2.2.2.2.2.2.2.2.2.2.2.2.2.2.2.2.2.2.2.2.1.ok)))))))))))) (fun sg => Ow.star (Blk b4_3 [sg.2.1.val, sg.2.2.1.val, sg.2.2.2.1.val, str sg.2.2.2.2.1, i64 sg.2.2.2.2.2.1, str sg.2.2.2.2.2.2.1, i64 sg.2.2.2.2.2.2.2.1, str sg.2.2.2.2.2.2.2.2.1, sg.2.2.2.2.2.2.2.2.2.1.val, sg.2.2.2.2.2.2.2.2.2.2.1.val, i64 sg.2.2.2.2.2.2.2.2.2.2.2.1, str sg.2.2.2.2.2.2.2.2.2.2.2.2.1, str sg.2.2.2.2.2.2.2.2.2.2.2.2.2.1, i64 sg.2.2.2.2.2.2.2.2.2.2.2.2.2.2.1, sg.2.2.2.2.2.2.2.2.2.2.2.2.2.2.2.1.val, sg.2.2.2.2.2.2.2.2.2.2.2.2.2.2.2.2.1.val, sg.2.2.2.2.2.2.2.2.2.2.2.2.2.2.2.2.2.1.val, sg.2.2.2.2.2.2.2.2.2.2.2.2.2.2.2.2.2.2.1.val, sg.2.2.2.2.2.2.2.2.2.2.2.2.2.2.2.2.2.2.2.1.val, sg.2.2.2.2.2.2.2.2.2.2.2.2.2.2.2.2.2.2.2.2.1.val, i64 sg.2.2.2.2.2.2.2.2.2.2.2.2.2.2.2.2.2.2.2.2.2] 41) (Ow.star (Blk b3_2 [str c_1.verb, str c_1.name, i64 c_1.n, str c_1.text, .bool c_1.force, c_1.todo.val] 60) (Ow.star (Blk b2_1 (zStateState s_0) 41) (Ow.emp)))) hS ?_ ?_
 ·
  clear hS
  intro k26 hS
  refine Zq (Zr ?_)
  refine Zu (q_field gfa60_0 rfl) ?_
  refine Zu (q_fe gone9 rfl rfl) ?_
  refine Zl ?_
  refine Zb (Zq (Zr ?_))
  refine Zy ?_
  refine Zc hS (fun h22 hS => ?_) (fun h22 hS => ?_)
  ·
   refine Zr ?_
   refine Zu (q_fes gagg41 rfl rfl) ?_
   refine Zu (q_field gfa60_1 rfl) ?_
   refine Zu (q_fe gone9 rfl rfl) ?_
   obtain ⟨y28_27, ey28_27, hS⟩ := bd_s hS
   refine VL.callF (repo_add_ct s_0 c_1.name ey28_27) rfl (by decide) ?_
   rintro ⟨q28_27_0, q28_27_1⟩ rfl
   try dsimp only
   refine Zm ?_
   refine Zu (q_extract rfl rfl) ?_
   refine Zu (q_extract rfl rfl) ?_
   refine Zv (vc := (zStateState q28_27_0)) (cs' := (zStateState q28_27_0)) rfl gsz41 ?_
   refine Za ?_
   refine VL.mt (q28_27_1, q28_27_0.now_work, q28_27_0.now_index, q28_27_0.now_refs, q28_27_0.now_head_branch, q28_27_0.now_head_commit, q28_27_0.now_seq_kind, q28_27_0.now_seq_other, q28_27_0.now_seq_text, q28_27_0.now_seq_doing, q28_27_0.now_seq_todo, q28_27_0.now_seq_made, q28_27_0.now_seq_branch, q28_27_0.now_seq_head_branch, q28_27_0.now_seq_head_commit, q28_27_0.now_seq_index, q28_27_0.now_seq_work, q28_27_0.now_stash, q28_27_0.commits, q28_27_0.log_back, q28_27_0.log_forth, q28_27_0.time) [4, 6] (fun _ _ h => h) hS rfl
  refine Zq (Zr ?_)
  refine Zy ?_
  refine VC.keep (ρ' := [(2, ptr b2_1 0), (3, ptr b3_2 0), (4, ptr b4_3 0), (8, str c_1.verb), (31, .bool (decide (c_1.verb = [114, 109])))]) [2, 3, 4, 8, 31] rfl ?_
  refine Zc hS (fun h31 hS => ?_) (fun h31 hS => ?_)
  ·
   cases hS
  refine Zq (Zr ?_)
  refine Zy ?_
  refine Zc hS (fun h39 hS => ?_) (fun h39 hS => ?_)
  ·
   refine Zr ?_
   refine Zu (q_fes gagg41 rfl rfl) ?_
   refine Zu (q_field gfa60_3 rfl) ?_
   refine Zu (q_fe gone9 rfl rfl) ?_
   obtain ⟨y45_28, ey45_28, hS⟩ := bd_s hS
   refine VL.callF (repo_commit_ct s_0 c_1.text ey45_28) rfl (by decide) ?_
   rintro ⟨q45_28_0, q45_28_1⟩ rfl
   try dsimp only
   refine Zm ?_
   refine Zu (q_extract rfl rfl) ?_
   refine Zu (q_extract rfl rfl) ?_
   refine Zv (vc := (zStateState q45_28_0)) (cs' := (zStateState q45_28_0)) rfl gsz41 ?_
   refine Za ?_
   refine VL.mt (q45_28_1, q45_28_0.now_work, q45_28_0.now_index, q45_28_0.now_refs, q45_28_0.now_head_branch, q45_28_0.now_head_commit, q45_28_0.now_seq_kind, q45_28_0.now_seq_other, q45_28_0.now_seq_text, q45_28_0.now_seq_doing, q45_28_0.now_seq_todo, q45_28_0.now_seq_made, q45_28_0.now_seq_branch, q45_28_0.now_seq_head_branch, q45_28_0.now_seq_head_commit, q45_28_0.now_seq_index, q45_28_0.now_seq_work, q45_28_0.now_stash, q45_28_0.commits, q45_28_0.log_back, q45_28_0.log_forth, q45_28_0.time) [4, 6] (fun _ _ h => h) hS rfl
  refine Zq (Zr ?_)
  refine Zy ?_
  refine Zc hS (fun h48 hS => ?_) (fun h48 hS => ?_)
  ·
   refine Zq ?_
   cases hS
  refine Zq (Zr ?_)
  refine Zy ?_
  refine Zc hS (fun h55 hS => ?_) (fun h55 hS => ?_)
  ·
   refine Zq ?_
   cases hS
  refine Zq (Zr ?_)
  refine Zy ?_
  refine VC.keep (ρ' := [(2, ptr b2_1 0), (3, ptr b3_2 0), (4, ptr b4_3 0), (8, str c_1.verb), (62, .bool (decide (c_1.verb = [97, 98, 111, 114, 116])))]) [2, 3, 4, 8, 62] rfl ?_
  refine Zc hS (fun h62 hS => ?_) (fun h62 hS => ?_)
  ·
   cases hS
  refine Zq (Zr ?_)
  refine Zy ?_
  refine Zc hS (fun h69 hS => ?_) (fun h69 hS => ?_)
  ·
   cases hS
  refine Zq (Zr ?_)
  refine Zy ?_
  refine Zc hS (fun h76 hS => ?_) (fun h76 hS => ?_)
  ·
   cases hS
  refine Zq (Zq (Zr ?_))
  refine Zu (q_field gfa41_0 rfl) ?_
  refine Zu (q_field gfa35_4 rfl) ?_
  refine Zu (q_field gfa31_0 rfl) ?_
  refine Zu (q_fe gone9 rfl rfl) ?_
  refine Zu (q_sne rfl rfl) ?_
  refine Zl ?_
  refine VC.keep (ρ' := [(2, ptr b2_1 0), (3, ptr b3_2 0), (4, ptr b4_3 0), (13, .bool (!decide (s_0.now_seq_kind = [])))]) [2, 3, 4, 13] rfl ?_
  refine Zcn hS (fun h13 hS => ?_) (fun h13 hS => ?_)
  ·
   refine Zq ?_
   cases hS
  refine Zk ?_
  refine Zq (Zr ?_)
  refine Zu (q_fes gagg41 rfl rfl) ?_
  refine Zu (q_fes gagg60 rfl rfl) ?_
  obtain ⟨y18_29, ey18_29, hS⟩ := bd_s hS
  refine VL.callF (repo_idle_ct s_0 c_1 ey18_29) rfl (by decide) ?_
  rintro ⟨q18_29_0, q18_29_1, q18_29_2⟩ rfl
  try dsimp only
  refine Zu (q_extract rfl rfl) ?_
  refine Zu (q_extract rfl rfl) ?_
  refine Zu (q_extract rfl rfl) ?_
  refine Zv (vc := (zStateState q18_29_0)) (cs' := (zStateState q18_29_0)) rfl gsz41 ?_
  refine Zy ?_
  refine VC.keep (ρ' := [(4, ptr b4_3 0), (5, .bool q18_29_1), (6, q18_29_2.val)]) [4, 5, 6] rfl ?_
  cases hS
  exact VC.ret (finG (vs := [.agg (zStateState q18_29_0).toArray, .bool q18_29_1, q18_29_2.val]) (.inr rfl) rfl (RVs.cell gagg41 rfl rfl Rd.blk (RVs.tmp rfl (RVs.tmp rfl (RVs.nil)))) (q18_29_0, q18_29_1, q18_29_2) rfl rfl (by (try dsimp only); exact InM.out) (fun _ _ => trivial))
 clear hS
 rintro ⟨err6_4, c0_5, c1_6, c2_7, c3_8, c4_9, c5_10, c6_11, c7_12, c8_13, c9_14, c10_15, c11_16, c12_17, c13_18, c14_19, c15_20, c16_21, c17_22, c18_23, c19_24, c20_25⟩ hS
 refine Zq (Zr ?_)
 refine Zu (q_fes gagg41 rfl rfl) ?_
 refine Zm ?_
 refine Zv (vc := [c0_5.val, c1_6.val, c2_7.val, str c3_8, i64 c4_9, str c5_10, i64 c6_11, str c7_12, c8_13.val, c9_14.val, i64 c10_15, str c11_16, str c12_17, i64 c13_18, c14_19.val, c15_20.val, c16_21.val, c17_22.val, c18_23.val, c19_24.val, i64 c20_25]) (cs' := [c0_5.val, c1_6.val, c2_7.val, str c3_8, i64 c4_9, str c5_10, i64 c6_11, str c7_12, c8_13.val, c9_14.val, i64 c10_15, str c11_16, str c12_17, i64 c13_18, c14_19.val, c15_20.val, c16_21.val, c17_22.val, c18_23.val, c19_24.val, i64 c20_25]) rfl gsz41 ?_
 refine Zy ?_
 cases hS
 exact VC.ret (finG (vs := [.agg #[c0_5.val, c1_6.val, c2_7.val, str c3_8, i64 c4_9, str c5_10, i64 c6_11, str c7_12, c8_13.val, c9_14.val, i64 c10_15, str c11_16, str c12_17, i64 c13_18, c14_19.val, c15_20.val, c16_21.val, c17_22.val, c18_23.val, c19_24.val, i64 c20_25], .bool false, err6_4.val]) (.inr rfl) rfl (RVs.cell gagg41 rfl rfl Rd.blk (RVs.tmp rfl (RVs.tmp rfl (RVs.nil)))) (⟨c0_5, c1_6, c2_7, c3_8, c4_9, c5_10, c6_11, c7_12, c8_13, c9_14, c10_15, c11_16, c12_17, c13_18, c14_19, c15_20, c16_21, c17_22, c18_23, c19_24, c20_25⟩, false, err6_4) rfl rfl (by (try dsimp only); exact InM.out) (fun _ _ => trivial))
theorem state_Mark_ct (n_0 : StateNow) {r : Str} (hS : Sh.state_Mark n_0.pl = some r) :
 Ct Tryz.prog 36 [.agg (zStateNow n_0).toArray] (n_0.work.ok.and (n_0.index.ok.and (n_0.refs.ok.and (n_0.seq_doing.ok.and (n_0.seq_todo.ok.and (n_0.seq_index.ok.and (n_0.seq_work.ok.and n_0.stash.ok))))))) (Ow.emp) (X := Unit) (fun _ => str r) (fun _ => True) (fun _ => Mo.tt) (fun _ => Ow.emp) := by
 refine Zo Tryz.func36 Tryz.ntmps36 fun c => ?_
 unfold Sh.state_Mark at hS
 refine Zq (Zr ?_)
 refine VL.box (cs := (zStateNow n_0)) rfl rfl (by decide) fun b1_1 => ?_
 refine Zy ?_
 refine Zq (Zr ?_)
 refine VL.alloc (cs := [.slice none 0 0]) (by kernel_rfl) (by decide) fun b3_2 => ?_
 refine Zl ?_
 refine Zq (Zr ?_)
 refine Zu (q_fes gagg35 rfl rfl) ?_
 refine VL.nilO (⟨none, 0, []⟩ : Sv UInt8) 5 ⟨rfl, rfl⟩ ?_
 refine VL.reB b3_2 (cs' := [(⟨none, 0, []⟩ : Sv UInt8).val]) rfl ?_
 obtain ⟨y5_3, ey5_3, hS⟩ := bd_s hS
 refine VL.callO (state_writer_now_ct b3_2 (⟨(⟨none, 0, []⟩ : Sv UInt8)⟩ : StateWriter) n_0 ey5_3) rfl (by decide) ?_
 rintro q5_3_0 rfl
 try dsimp only
 refine Zl ?_
 refine Zq (Zr ?_)
 refine Zu (q_field gfa143_0 rfl) ?_
 obtain ⟨y7_4, ey7_4, hS⟩ := bd_s hS
 refine VL.callO (codec_Enc_Bytes_ct b3_2 q5_3_0 ey7_4) rfl (by decide) ?_
 rintro q7_4_0 rfl
 try dsimp only
 refine Zu (q_b2s (s := q7_4_0) Tryz.underlying64 Tryz.underlying5 Tryz.underlying9 rfl) ?_
 refine Zy ?_
 cases hS
 exact Ze
theorem slices_Clone_string_string_ct (s_0 : Sv Str) {r : List Str} (hS : Sh.slices_Clone_string_string s_0.l = some r) :
 Ct Tryz.prog 138 [s_0.val] s_0.ok (Ow.emp) (X := Sv Str) (fun x => x.val) (fun x => r = x.l) (fun x => Mo.tt) (fun x => Sv.own x 9) := by
 refine Zo Tryz.func138 Tryz.ntmps138 fun c => ?_
 unfold Sh.slices_Clone_string_string at hS
 refine Zq (Zr ?_)
 refine Zy ?_
 refine Zq (Zq (Zr ?_))
 refine Zm ?_
 refine Zu (q_slnil (s := s_0) Tryz.underlying37 rfl) ?_
 refine Zl ?_
 refine VC.slnil (s := s_0) rfl (fun h4 => ?_) ?_
 ·
  have hS : (some []) = some r := by
    simp [lt, gd, h4] at hS ⊢
    try exact hS
  refine Zq (Zr ?_)
  refine Zy ?_
  refine VC.nilO (⟨none, 0, []⟩ : Sv Str) 9 ⟨rfl, rfl⟩ ?_
  cases hS
  exact VC.ret (fin1 (.inr rfl) rfl rfl ⟨none, 0, []⟩ rfl rfl (by (try dsimp only); exact InM.out) (by (try dsimp only); exact EntO.out))
 refine Zk ?_
 refine Zq (Zr ?_)
 refine VL.lit0 (α := Str) Tryz.underlying37 ghas9 (by decide) (fun s5_1 hs5_1 hcs5_1 => ?_)
 refine VL.nilO s5_1 9 ⟨hcs5_1, hs5_1⟩ ?_
 replace hS := lt_to hs5_1 hS
 refine Zm ?_
 obtain ⟨b7, hS⟩ := gd_s hS
 refine VL.app (s := s5_1) (r := s_0) Tryz.underlying37 gapp9 (by decide) rfl Fo.out (ap1 b7) (ap2 b7 (by decide)) (by decide) (fun s7_3 hs7_3 => ?_)
 replace hS := lt_to hs7_3 hS
 refine Zy ?_
 cases hS
 exact VC.ret (fin1 (.inr rfl) rfl rfl s7_3 rfl rfl (by (try dsimp only); exact InM.out) (by (try dsimp only); exact EntO.out))
theorem oplog_push_ct (l_0 : Sv Str) (s_1 : Str) {r : List Str} (hS : Sh.oplog_push l_0.l s_1 = some r) :
 Ct Tryz.prog 69 [l_0.val, str s_1] l_0.ok (Ow.emp) (X := Sv Str) (fun x => x.val) (fun x => r = x.l) (fun x => x.ok) (fun x => Ow.emp) := by
 refine Zo Tryz.func69 Tryz.ntmps69 fun c => ?_
 unfold Sh.oplog_push at hS
 refine Zq (Zr ?_)
 refine Zy ?_
 refine Zq (Zr ?_)
 refine Zm ?_
 obtain ⟨y7_1, ey7_1, hS⟩ := bd_s hS
 refine VL.callO (slices_Clone_string_string_ct l_0 ey7_1) rfl (by decide) ?_
 rintro q7_1_0 rfl
 try dsimp only
 refine Zm ?_
 refine VL.lit (α := Str) (xs := [.tmp 8]) (vs := [str s_1]) [s_1] Tryz.underlying37 glit9 (by decide) rfl rfl rfl rfl (by decide) (fun _ _ _ _ => trivial) (by decide) (fun s9_2 hs9_2 => ?_) (by decide)
 replace hS := lt_to hs9_2 hS
 obtain ⟨b10, hS⟩ := gd_s hS
 refine VL.app (s := q7_1_0) (r := s9_2) Tryz.underlying37 gapp9 (by decide) rfl Fo.out (ap1 b10) (ap2 b10 (by decide)) (by decide) (fun s10_4 hs10_4 => ?_)
 replace hS := lt_to hs10_4 hS
 refine Zy ?_
 refine Zq (Zr ?_)
 refine Zy ?_
 refine Zu (q_ln (s := s10_4) Tryz.underlying37 rfl) ?_
 obtain ⟨b14, hS⟩ := gd_s hS
 refine Zu (q_sub rfl rfl b14) ?_
 refine Zu (q_max rfl) ?_
 refine VL.shut s10_4 9 (fun _ _ _ _ => trivial) ?_
 obtain ⟨b16, hS⟩ := gd_s hS
 refine VL.sfrom Tryz.underlying37 gsz9 rfl rfl b16.1 (b16.2) (by decide) fun s16_6 hs16_6 => ?_
 replace hS := lt_to hs16_6 hS
 obtain ⟨y17_8, ey17_8, hS⟩ := bd_s hS
 refine VL.callF (slices_Clip_string_string_ct s16_6 ey17_8) rfl (by decide) ?_
 rintro q17_8_0 rfl
 try dsimp only
 refine Zy ?_
 refine VC.keep (ρ' := [(4, q17_8_0.val)]) [4] rfl ?_
 cases hS
 exact VC.ret (fin1 (.inr rfl) rfl rfl q17_8_0 rfl rfl (by (try dsimp only); exact InM.out) (fun _ _ => trivial))
theorem oplog_Log_Do_ct (l_0 : OplogLog) (now_1 : Str) {r : OplogLogP} (hS : Sh.oplog_Log_Do l_0.pl now_1 = some r) :
 Ct Tryz.prog 35 [.agg #[l_0.back.val, l_0.forth.val], str now_1] (l_0.back.ok.and l_0.forth.ok) (Ow.emp) (X := OplogLog) (fun x => .agg (Dat.enc x).toArray) (fun x => r = x.pl) (fun x => x.m) (fun x => Ow.emp) := by
 refine Zo Tryz.func35 Tryz.ntmps35 fun c => ?_
 unfold Sh.oplog_Log_Do at hS
 refine Zq (Zr ?_)
 refine VL.box (cs := [l_0.back.val, l_0.forth.val]) rfl rfl (by decide) fun b2_1 => ?_
 refine VL.alloc (cs := [.slice none 0 0, .slice none 0 0]) (by kernel_rfl) (by decide) fun b4_2 => ?_
 refine Zl ?_
 refine Zq (Zr ?_)
 refine Zu (q_field gfa39_0 rfl) ?_
 refine Zu (q_fe gone37 rfl rfl) ?_
 refine Zm ?_
 obtain ⟨y8_3, ey8_3, hS⟩ := bd_s hS
 refine VL.callF (oplog_push_ct l_0.back now_1 ey8_3) rfl (by decide) ?_
 rintro q8_3_0 rfl
 try dsimp only
 refine Zu (q_build (vs := [(0, q8_3_0.val)]) (cs := #[q8_3_0.val, .slice none 0 0]) rfl (by kernel_rfl)) ?_
 refine Zv (vc := [q8_3_0.val, .slice none 0 0]) (cs' := [q8_3_0.val, .slice none 0 0]) rfl gsz39 ?_
 refine Zl ?_
 cases hS
 exact VC.ret (finG (vs := [.agg #[q8_3_0.val, .slice none 0 0]]) (.inr rfl) rfl (RVs.cell gagg39 rfl rfl Rd.blk (RVs.nil)) ⟨q8_3_0, ⟨none, 0, []⟩⟩ rfl rfl (by (try dsimp only); exact InM.out) (fun _ _ => trivial))
theorem repo_Do_ct (s_0 : StateState) (c_1 : CmdCmd) {r : StateStateP × Err} (hS : Sh.repo_Do s_0.pl c_1.pl = some r) :
 Ct Tryz.prog 15 [.agg (zStateState s_0).toArray, .agg #[str c_1.verb, str c_1.name, i64 c_1.n, str c_1.text, .bool c_1.force, c_1.todo.val]] (s_0.now_work.ok.and (s_0.now_index.ok.and (s_0.now_refs.ok.and (s_0.now_seq_doing.ok.and (s_0.now_seq_todo.ok.and (s_0.now_seq_index.ok.and (s_0.now_seq_work.ok.and (s_0.now_stash.ok.and (s_0.commits.ok.and (s_0.log_back.ok.and (s_0.log_forth.ok.and c_1.todo.ok))))))))))) (Ow.emp) (X := StateState × Er) (fun x => .tuple #[.agg (Dat.enc x.1).toArray, x.2.val]) (fun x => r = (x.1.pl, x.2.pl)) (fun x => (x.1.m.and x.2.ok)) (fun x => Ow.emp) := by
 refine Zo Tryz.func15 Tryz.ntmps15 fun c => ?_
 unfold Sh.repo_Do at hS
 refine Zq (Zr ?_)
 refine VL.box (cs := (zStateState s_0)) rfl rfl (by decide) fun b2_1 => ?_
 refine VL.box (cs := [str c_1.verb, str c_1.name, i64 c_1.n, str c_1.text, .bool c_1.force, c_1.todo.val]) rfl rfl (by decide) fun b3_2 => ?_
 refine VL.alloc (cs := [.slice none 0 0, .slice none 0 0, .slice none 0 0, str [], i64 0, str [], i64 0, str [], .slice none 0 0, .slice none 0 0, i64 0, str [], str [], i64 0, .slice none 0 0, .slice none 0 0, .slice none 0 0, .slice none 0 0, .slice none 0 0, .slice none 0 0, i64 0]) (by kernel_rfl) (by decide) fun b4_3 => ?_
 refine Zy ?_
 refine Zq (Zq (Zr ?_))
 refine Zu (q_fes gagg60 rfl rfl) ?_
 obtain ⟨y11_4, ey11_4, hS⟩ := bd_s hS
 refine VL.callF (cmd_Check_ct c_1 ey11_4) rfl (by decide) ?_
 rintro q11_4_0 rfl
 try dsimp only
 refine Zy ?_
 refine Zq (Zr ?_)
 refine Zm ?_
 refine Zu (q_erne Tryz.underlying45 rfl) ?_
 refine Zl ?_
 refine Zcn hS (fun h13 hS => ?_) (fun h13 hS => ?_)
 ·
  refine Zq ?_
  cases hS
 refine Zk ?_
 refine VC.keep (ρ' := [(2, ptr b2_1 0), (3, ptr b3_2 0), (4, ptr b4_3 0)]) [2, 3, 4] rfl ?_
 refine Zq (Zr ?_)
 refine Zu (q_fes gagg41 rfl rfl) ?_
 refine Zu (q_fes gagg60 rfl rfl) ?_
 obtain ⟨y20_5, ey20_5, hS⟩ := bd_s hS
 refine VL.callF (repo_run_ct s_0 c_1 ey20_5) rfl (by decide) ?_
 rintro ⟨q20_5_0, q20_5_1, q20_5_2⟩ rfl
 try dsimp only
 refine Zm ?_
 refine Zu (q_extract rfl rfl) ?_
 refine Zu (q_extract rfl rfl) ?_
 refine Zu (q_extract rfl rfl) ?_
 refine VL.alloc (cs := [.slice none 0 0, .slice none 0 0, .slice none 0 0, str [], i64 0, str [], i64 0, str [], .slice none 0 0, .slice none 0 0, i64 0, str [], str [], i64 0, .slice none 0 0, .slice none 0 0, .slice none 0 0, .slice none 0 0, .slice none 0 0, .slice none 0 0, i64 0]) (by kernel_rfl) (by decide) fun b7_6 => ?_
 refine Zv (vc := (zStateState q20_5_0)) (cs' := (zStateState q20_5_0)) rfl gsz41 ?_
 refine Zy ?_
 refine VC.keep (ρ' := [(2, ptr b2_1 0), (3, ptr b3_2 0), (4, ptr b4_3 0), (7, ptr b7_6 0), (8, .bool q20_5_1), (9, q20_5_2.val)]) [2, 3, 4, 7, 8, 9] rfl ?_
 refine VC.cutJ (S := Er) (fun (err9_7 : Er) => err9_7.pl) (fun (err9_7 : Er) => [(2, ptr b2_1 0), (3, ptr b3_2 0), (4, ptr b4_3 0), (7, ptr b7_6 0), (9, err9_7.val)]) (fun (err9_7 : Er) => err9_7.ok) (fun (err9_7 : Er) => Ow.star (Blk b7_6 (zStateState q20_5_0) 41) (Ow.star (Blk b4_3 [.slice none 0 0, .slice none 0 0, .slice none 0 0, str [], i64 0, str [], i64 0, str [], .slice none 0 0, .slice none 0 0, i64 0, str [], str [], i64 0, .slice none 0 0, .slice none 0 0, .slice none 0 0, .slice none 0 0, .slice none 0 0, .slice none 0 0, i64 0] 41) (Ow.star (Blk b3_2 [str c_1.verb, str c_1.name, i64 c_1.n, str c_1.text, .bool c_1.force, c_1.todo.val] 60) (Ow.star (Blk b2_1 (zStateState s_0) 41) (Ow.emp))))) hS ?_ ?_
 ·
  clear hS
  intro k8 hS
  refine Zq (Zr ?_)
  refine Zm ?_
  refine Zu (q_erne Tryz.underlying45 rfl) ?_
  refine Zl ?_
  refine Zcn hS (fun h25 hS => ?_) (fun h25 hS => ?_)
  ·
   refine Zq ?_
   refine VC.draw [(1, true), (2, true), (4, true), (0, false), (3, true), (5, true), (6, false), (7, true), (8, true)] mixed (by kernel_rfl) (by kernel_rfl) (by kernel_rfl) ?_
   refine Zw rfl (q_field gfa60_0 rfl) ?_
   refine Zw rfl (q_fe gone9 rfl rfl) ?_
   refine Zw rfl (q_move rfl) ?_
   refine VD.one rfl ?_
   obtain ⟨y26_9, ey26_9, hS⟩ := bd_s hS
   refine VL.callF (cmd_Verbs_ct ey26_9) rfl (by decide) ?_
   rintro q26_9_0 rfl
   try dsimp only
   refine VL.back (D' := [(2, str c_1.verb), (1, ptr b3_2 0)]) (by kernel_rfl) (Pend.cons rfl (q_fe gone9 rfl rfl) (Pend.cons rfl (q_field gfa60_0 rfl) (Pend.nil))) ?_
   obtain ⟨y29_10, ey29_10, hS⟩ := bd_s hS
   refine Zw rfl (q_call (slices_Index_string_string_ct q26_9_0 c_1.verb ey29_10) rfl (fun _ _ => rfl)) ?_
   refine Zw rfl (q_build (vs := [(0, str [100, 111]), (1, i64 y29_10), (2, q20_5_2.val)]) (cs := #[str [100, 111], i64 y29_10, q20_5_2.val]) rfl (by generalize q20_5_2 = z0; cases z0 <;> kernel_rfl)) ?_
   refine VD.one rfl ?_
   refine VL.box (cs := [str [100, 111], i64 y29_10, q20_5_2.val]) rfl rfl (by decide) fun b32_11 => ?_
   refine VL.back (D' := []) (by kernel_rfl) (Pend.nil) ?_
   refine VD.shutB b32_11 ?_
   refine Zw rfl (q_mkif Tryz.underlying91 (fun _ h => by cases h) rfl) ?_
   refine Zw rfl (q_assign rfl) ?_
   refine VD.to (fun _ _ h => h) ?_
   refine VC.keep (ρ' := [(2, ptr b2_1 0), (3, ptr b3_2 0), (4, ptr b4_3 0), (7, ptr b7_6 0), (8, .bool q20_5_1), (9, (Er.fault b32_11 [100, 111] y29_10 q20_5_2).val)]) [2, 3, 4, 7, 8, 9] rfl ?_
   refine Zq (Zr ?_)
   refine Zm ?_
   refine Zu (q_not rfl) ?_
   refine Zl ?_
   refine Zcb hS (fun h35 hS => ?_) (fun h35 hS => ?_)
   ·
    refine Zq (Zr ?_)
    refine Zu (q_fes gagg41 rfl rfl) ?_
    obtain ⟨y37_12, ey37_12, hS⟩ := bd_s hS
    refine VL.callF (repo_apart_ct s_0 ey37_12) rfl (by decide) ?_
    rintro q37_12_0 rfl
    try dsimp only
    refine Zm ?_
    refine Zv (vc := (zStateState q37_12_0)) (cs' := (zStateState q37_12_0)) rfl gsz41 ?_
    refine Zy ?_
    refine VC.keep (ρ' := [(4, ptr b4_3 0), (5, (Er.fault b32_11 [100, 111] y29_10 q20_5_2).val)]) [4, 5] rfl ?_
    cases hS
    exact VC.ret (finG (vs := [.agg (zStateState q37_12_0).toArray, (Er.fault b32_11 [100, 111] y29_10 q20_5_2).val]) (.inr rfl) rfl (RVs.cell gagg41 rfl rfl Rd.blk (RVs.tmp rfl (RVs.nil))) (q37_12_0, (Er.fault b32_11 [100, 111] y29_10 q20_5_2)) rfl rfl (by (try dsimp only); exact InM.out) (fun _ _ => trivial))
   refine VC.skip_mt (Er.fault b32_11 [100, 111] y29_10 q20_5_2) [2, 3, 4, 7, 9] (fun _ _ h => h) hS rfl
  refine VC.skip_mt q20_5_2 [2, 3, 4, 7, 9] (fun _ _ h => h) hS rfl
 clear hS
 rintro err9_7 hS
 refine VC.cutJ (S := Sv Str × Sv Str) (fun sg => (sg.1.l, sg.2.l)) (fun sg => [(4, ptr b4_3 0), (7, ptr b7_6 0), (9, err9_7.val)]) (fun sg => (sg.1.ok.and sg.2.ok)) (fun sg => Ow.star (Blk b7_6 [q20_5_0.now_work.val, q20_5_0.now_index.val, q20_5_0.now_refs.val, str q20_5_0.now_head_branch, i64 q20_5_0.now_head_commit, str q20_5_0.now_seq_kind, i64 q20_5_0.now_seq_other, str q20_5_0.now_seq_text, q20_5_0.now_seq_doing.val, q20_5_0.now_seq_todo.val, i64 q20_5_0.now_seq_made, str q20_5_0.now_seq_branch, str q20_5_0.now_seq_head_branch, i64 q20_5_0.now_seq_head_commit, q20_5_0.now_seq_index.val, q20_5_0.now_seq_work.val, q20_5_0.now_stash.val, q20_5_0.commits.val, sg.1.val, sg.2.val, i64 q20_5_0.time] 41) (Ow.star (Blk b4_3 [.slice none 0 0, .slice none 0 0, .slice none 0 0, str [], i64 0, str [], i64 0, str [], .slice none 0 0, .slice none 0 0, i64 0, str [], str [], i64 0, .slice none 0 0, .slice none 0 0, .slice none 0 0, .slice none 0 0, .slice none 0 0, .slice none 0 0, i64 0] 41) (Ow.star (Blk b3_2 [str c_1.verb, str c_1.name, i64 c_1.n, str c_1.text, .bool c_1.force, c_1.todo.val] 60) (Ow.star (Blk b2_1 (zStateState s_0) 41) (Ow.emp))))) hS ?_ ?_
 ·
  clear hS
  intro k15 hS
  refine VC.cutJ (S := Bool) (fun (x46_16 : Bool) => x46_16) (fun (x46_16 : Bool) => [(2, ptr b2_1 0), (4, ptr b4_3 0), (7, ptr b7_6 0), (9, err9_7.val), (46, .bool x46_16)]) (fun (x46_16 : Bool) => Mo.tt) (fun (x46_16 : Bool) => Ow.star (Blk b7_6 (zStateState q20_5_0) 41) (Ow.star (Blk b4_3 [.slice none 0 0, .slice none 0 0, .slice none 0 0, str [], i64 0, str [], i64 0, str [], .slice none 0 0, .slice none 0 0, i64 0, str [], str [], i64 0, .slice none 0 0, .slice none 0 0, .slice none 0 0, .slice none 0 0, .slice none 0 0, .slice none 0 0, i64 0] 41) (Ow.star (Blk b3_2 [str c_1.verb, str c_1.name, i64 c_1.n, str c_1.text, .bool c_1.force, c_1.todo.val] 60) (Ow.star (Blk b2_1 (zStateState s_0) 41) (Ow.emp))))) hS ?_ ?_
  ·
   clear hS
   intro k17 hS
   refine Zr ?_
   refine Zu (q_field gfa60_0 rfl) ?_
   refine Zu (q_fe gone9 rfl rfl) ?_
   refine Zu (q_sne rfl rfl) ?_
   refine Zm ?_
   refine Zspn 42 hS (fun h42 hS => ?_) (fun h42 hS => ?_)
   ·
    refine Zh (q_field gfa60_0 rfl) ?_
    refine Zh (q_fe gone9 rfl rfl) ?_
    refine Zh (q_sne rfl rfl) ?_
    refine Zt ?_
    refine VL.mt (!decide (c_1.verb = [114, 101, 100, 111])) [2, 4, 7, 9, 46] (fun _ _ h => h) hS rfl
   refine VL.skips 3 [45] (by kernel_rfl) ?_
   refine Zf ?_
   refine VL.mt false [2, 4, 7, 9, 46] (fun _ _ h => h) hS rfl
  clear hS
  rintro x46_16 hS
  refine Zcb hS (fun h46 hS => ?_) (fun h46 hS => ?_)
  ·
   refine VC.draw [(0, true), (1, true), (2, true), (3, true), (4, true), (5, false), (6, true), (7, false)] mixed (by kernel_rfl) (by kernel_rfl) (by kernel_rfl) ?_
   refine Zw rfl (q_field gfa41_2 rfl) ?_
   refine Zw rfl (q_fep (j := 18) (n := 2) gagg39 rfl rfl rfl) ?_
   refine Zw rfl (q_field gfa41_0 rfl) ?_
   refine Zw rfl (q_fep (j := 0) (n := 17) gagg35 rfl rfl rfl) ?_
   obtain ⟨y51_18, ey51_18, hS⟩ := bd_s hS
   refine Zw rfl (q_call (state_Mark_ct (⟨s_0.now_work, s_0.now_index, s_0.now_refs, s_0.now_head_branch, s_0.now_head_commit, s_0.now_seq_kind, s_0.now_seq_other, s_0.now_seq_text, s_0.now_seq_doing, s_0.now_seq_todo, s_0.now_seq_made, s_0.now_seq_branch, s_0.now_seq_head_branch, s_0.now_seq_head_commit, s_0.now_seq_index, s_0.now_seq_work, s_0.now_stash⟩ : StateNow) ey51_18) rfl (fun _ _ => rfl)) ?_
   refine VD.one rfl ?_
   obtain ⟨y52_19, ey52_19, hS⟩ := bd_s hS
   refine VL.callF (oplog_Log_Do_ct (⟨s_0.log_back, s_0.log_forth⟩ : OplogLog) y51_18 ey52_19) rfl (by decide) ?_
   rintro q52_19_0 rfl
   try dsimp only
   refine VL.back (D' := []) (by kernel_rfl) (Pend.nil) ?_
   refine Zw rfl (q_field gfa41_2 rfl) ?_
   refine VD.one rfl ?_
   refine Zv (vc := [q52_19_0.back.val, q52_19_0.forth.val]) (cs' := [q20_5_0.now_work.val, q20_5_0.now_index.val, q20_5_0.now_refs.val, str q20_5_0.now_head_branch, i64 q20_5_0.now_head_commit, str q20_5_0.now_seq_kind, i64 q20_5_0.now_seq_other, str q20_5_0.now_seq_text, q20_5_0.now_seq_doing.val, q20_5_0.now_seq_todo.val, i64 q20_5_0.now_seq_made, str q20_5_0.now_seq_branch, str q20_5_0.now_seq_head_branch, i64 q20_5_0.now_seq_head_commit, q20_5_0.now_seq_index.val, q20_5_0.now_seq_work.val, q20_5_0.now_stash.val, q20_5_0.commits.val, q52_19_0.back.val, q52_19_0.forth.val, i64 q20_5_0.time]) rfl gsz39 ?_
   refine VL.back (D' := []) (by kernel_rfl) (Pend.nil) ?_
   refine VD.mt (q52_19_0.back, q52_19_0.forth) [4, 7, 9] (fun _ _ h => h) hS rfl
  refine VC.skip_mt (q20_5_0.log_back, q20_5_0.log_forth) [4, 7, 9] (fun _ _ h => h) hS rfl
 clear hS
 rintro ⟨c18_13, c19_14⟩ hS
 refine Zq (Zr ?_)
 refine Zu (q_fes gagg41 rfl rfl) ?_
 obtain ⟨y55_20, ey55_20, hS⟩ := bd_s hS
 refine VL.callF (repo_apart_ct (⟨q20_5_0.now_work, q20_5_0.now_index, q20_5_0.now_refs, q20_5_0.now_head_branch, q20_5_0.now_head_commit, q20_5_0.now_seq_kind, q20_5_0.now_seq_other, q20_5_0.now_seq_text, q20_5_0.now_seq_doing, q20_5_0.now_seq_todo, q20_5_0.now_seq_made, q20_5_0.now_seq_branch, q20_5_0.now_seq_head_branch, q20_5_0.now_seq_head_commit, q20_5_0.now_seq_index, q20_5_0.now_seq_work, q20_5_0.now_stash, q20_5_0.commits, c18_13, c19_14, q20_5_0.time⟩ : StateState) ey55_20) rfl (by decide) ?_
 rintro q55_20_0 rfl
 try dsimp only
 refine Zm ?_
 refine Zv (vc := (zStateState q55_20_0)) (cs' := (zStateState q55_20_0)) rfl gsz41 ?_
 refine Zy ?_
 cases hS
 exact VC.ret (finG (vs := [.agg (zStateState q55_20_0).toArray, err9_7.val]) (.inr rfl) rfl (RVs.cell gagg41 rfl rfl Rd.blk (RVs.tmp rfl (RVs.nil))) (q55_20_0, err9_7) rfl rfl (by (try dsimp only); exact InM.out) (fun _ _ => trivial))
theorem rectotop_say_ct (s_0 : StateState) (line_1 : Str) {r : StateStateP × Err} (hS : Sh.rectotop_say s_0.pl line_1 = some r) :
 Ct Tryz.prog 8 [.agg (zStateState s_0).toArray, str line_1] (s_0.now_work.ok.and (s_0.now_index.ok.and (s_0.now_refs.ok.and (s_0.now_seq_doing.ok.and (s_0.now_seq_todo.ok.and (s_0.now_seq_index.ok.and (s_0.now_seq_work.ok.and (s_0.now_stash.ok.and (s_0.commits.ok.and (s_0.log_back.ok.and s_0.log_forth.ok)))))))))) (Ow.emp) (X := StateState × Er) (fun x => .tuple #[.agg (Dat.enc x.1).toArray, x.2.val]) (fun x => r = (x.1.pl, x.2.pl)) (fun x => (x.1.m.and x.2.ok)) (fun x => Ow.emp) := by
 refine Zo Tryz.func8 Tryz.ntmps8 fun c => ?_
 unfold Sh.rectotop_say at hS
 refine Zq (Zr ?_)
 refine VL.box (cs := (zStateState s_0)) rfl rfl (by decide) fun b2_1 => ?_
 refine VL.alloc (cs := [.slice none 0 0, .slice none 0 0, .slice none 0 0, str [], i64 0, str [], i64 0, str [], .slice none 0 0, .slice none 0 0, i64 0, str [], str [], i64 0, .slice none 0 0, .slice none 0 0, .slice none 0 0, .slice none 0 0, .slice none 0 0, .slice none 0 0, i64 0]) (by kernel_rfl) (by decide) fun b4_2 => ?_
 refine Zy ?_
 refine Zq (Zr ?_)
 refine Zm ?_
 obtain ⟨y10_3, ey10_3, hS⟩ := bd_s hS
 refine VL.callF (cmd_Parse_ct line_1 ey10_3) rfl (by decide) ?_
 rintro ⟨q10_3_0, q10_3_1⟩ rfl
 try dsimp only
 refine Zm ?_
 refine Zu (q_extract rfl rfl) ?_
 refine Zu (q_extract rfl rfl) ?_
 refine VL.alloc (cs := [str [], str [], i64 0, str [], .bool false, .slice none 0 0]) (by kernel_rfl) (by decide) fun b6_4 => ?_
 refine Zv (vc := [str q10_3_0.verb, str q10_3_0.name, i64 q10_3_0.n, str q10_3_0.text, .bool q10_3_0.force, q10_3_0.todo.val]) (cs' := [str q10_3_0.verb, str q10_3_0.name, i64 q10_3_0.n, str q10_3_0.text, .bool q10_3_0.force, q10_3_0.todo.val]) rfl gsz60 ?_
 refine Zy ?_
 refine VC.keep (ρ' := [(2, ptr b2_1 0), (4, ptr b4_2 0), (6, ptr b6_4 0), (7, q10_3_1.val)]) [2, 4, 6, 7] rfl ?_
 refine Zq (Zq (Zr ?_))
 refine Zm ?_
 refine Zu (q_erne Tryz.underlying45 rfl) ?_
 refine Zl ?_
 refine Zcn hS (fun h14 hS => ?_) (fun h14 hS => ?_)
 ·
  refine Zq ?_
  cases hS
 refine Zk ?_
 refine Zq (Zr ?_)
 refine Zu (q_fes gagg41 rfl rfl) ?_
 refine Zu (q_fes gagg60 rfl rfl) ?_
 obtain ⟨y19_5, ey19_5, hS⟩ := bd_s hS
 refine VL.callF (repo_Do_ct s_0 q10_3_0 ey19_5) rfl (by decide) ?_
 rintro ⟨q19_5_0, q19_5_1⟩ rfl
 try dsimp only
 refine Zu (q_extract rfl rfl) ?_
 refine Zu (q_extract rfl rfl) ?_
 refine Zv (vc := (zStateState q19_5_0)) (cs' := (zStateState q19_5_0)) rfl gsz41 ?_
 refine Zy ?_
 refine VC.keep (ρ' := [(4, ptr b4_2 0), (5, q19_5_1.val)]) [4, 5] rfl ?_
 cases hS
 exact VC.ret (finG (vs := [.agg (zStateState q19_5_0).toArray, q19_5_1.val]) (.inr rfl) rfl (RVs.cell gagg41 rfl rfl Rd.blk (RVs.tmp rfl (RVs.nil))) (q19_5_0, q19_5_1) rfl rfl (by (try dsimp only); exact InM.out) (fun _ _ => trivial))
theorem rectotop_saved_ct (s_0 : StateState) (p_1 : Str) (data_2 : Str) (text_3 : Str) {r : StateStateP} (hS : Sh.rectotop_saved s_0.pl p_1 data_2 text_3 = some r) :
 Ct Tryz.prog 6 [.agg (zStateState s_0).toArray, str p_1, str data_2, str text_3] (s_0.now_work.ok.and (s_0.now_index.ok.and (s_0.now_refs.ok.and (s_0.now_seq_doing.ok.and (s_0.now_seq_todo.ok.and (s_0.now_seq_index.ok.and (s_0.now_seq_work.ok.and (s_0.now_stash.ok.and (s_0.commits.ok.and (s_0.log_back.ok.and s_0.log_forth.ok)))))))))) (Ow.emp) (X := StateState) (fun x => .agg (Dat.enc x).toArray) (fun x => r = x.pl) (fun x => x.m) (fun x => Ow.emp) := by
 refine Zo Tryz.func6 Tryz.ntmps6 fun c => ?_
 unfold Sh.rectotop_saved at hS
 refine Zq (Zr ?_)
 refine VL.box (cs := (zStateState s_0)) rfl rfl (by decide) fun b4_1 => ?_
 refine VL.alloc (cs := [.slice none 0 0, .slice none 0 0, .slice none 0 0, str [], i64 0, str [], i64 0, str [], .slice none 0 0, .slice none 0 0, i64 0, str [], str [], i64 0, .slice none 0 0, .slice none 0 0, .slice none 0 0, .slice none 0 0, .slice none 0 0, .slice none 0 0, i64 0]) (by kernel_rfl) (by decide) fun b8_2 => ?_
 refine Zl ?_
 refine Zq (Zr ?_)
 refine Zu (q_fes gagg41 rfl rfl) ?_
 refine Zy ?_
 obtain ⟨y12_3, ey12_3, hS⟩ := bd_s hS
 refine VL.callF (rectotop_write_ct s_0 p_1 data_2 ey12_3) rfl (by decide) ?_
 rintro q12_3_0 rfl
 try dsimp only
 refine Zv (vc := (zStateState q12_3_0)) (cs' := (zStateState q12_3_0)) rfl gsz41 ?_
 refine Zl ?_
 refine Zq (Zr ?_)
 refine Zu (q_fes gagg41 rfl rfl) ?_
 refine Zm ?_
 obtain ⟨b16, hS⟩ := gd_s hS
 obtain ⟨y16_4, ey16_4, hS⟩ := lt_s hS
 refine Zu (q_catE rfl rfl b16 ey16_4) ?_
 obtain ⟨y17_5, ey17_5, hS⟩ := bd_s hS
 refine VL.callF (rectotop_say_ct q12_3_0 y16_4 ey17_5) rfl (by decide) ?_
 rintro ⟨q17_5_0, q17_5_1⟩ rfl
 try dsimp only
 refine Zm ?_
 refine Zu (q_extract rfl rfl) ?_
 refine Zu (q_extract rfl rfl) ?_
 refine Zv (vc := (zStateState q17_5_0)) (cs' := (zStateState q17_5_0)) rfl gsz41 ?_
 refine Zl ?_
 refine VC.keep (ρ' := [(3, str text_3), (4, ptr b4_1 0), (8, ptr b8_2 0)]) [3, 4, 8] rfl ?_
 refine Zq (Zr ?_)
 refine Zu (q_fes gagg41 rfl rfl) ?_
 refine Zm ?_
 obtain ⟨b23, hS⟩ := gd_s hS
 obtain ⟨y23_6, ey23_6, hS⟩ := lt_s hS
 refine Zu (q_catE rfl rfl b23 ey23_6) ?_
 obtain ⟨y24_7, ey24_7, hS⟩ := bd_s hS
 refine VL.callF (rectotop_say_ct q17_5_0 y23_6 ey24_7) rfl (by decide) ?_
 rintro ⟨q24_7_0, q24_7_1⟩ rfl
 try dsimp only
 refine Zm ?_
 refine Zu (q_extract rfl rfl) ?_
 refine Zu (q_extract rfl rfl) ?_
 refine Zv (vc := (zStateState q24_7_0)) (cs' := (zStateState q24_7_0)) rfl gsz41 ?_
 refine Zl ?_
 refine Zq (Zr ?_)
 refine Zu (q_fes gagg41 rfl rfl) ?_
 refine Zv (vc := (zStateState q24_7_0)) (cs' := (zStateState q24_7_0)) rfl gsz41 ?_
 refine Zl ?_
 refine VC.keep (ρ' := [(8, ptr b8_2 0)]) [8] rfl ?_
 cases hS
 exact VC.ret (finG (vs := [.agg (zStateState q24_7_0).toArray]) (.inr rfl) rfl (RVs.cell gagg41 rfl rfl Rd.blk (RVs.nil)) q24_7_0 rfl rfl (by (try dsimp only); exact InM.out) (fun _ _ => trivial))
theorem rectotop_work_ct (s_0 : StateState) (p_1 : Str) {r : Str} (hS : Sh.rectotop_work s_0.pl p_1 = some r) :
 Ct Tryz.prog 12 [.agg (zStateState s_0).toArray, str p_1] (s_0.now_work.ok.and (s_0.now_index.ok.and (s_0.now_refs.ok.and (s_0.now_seq_doing.ok.and (s_0.now_seq_todo.ok.and (s_0.now_seq_index.ok.and (s_0.now_seq_work.ok.and (s_0.now_stash.ok.and (s_0.commits.ok.and (s_0.log_back.ok.and s_0.log_forth.ok)))))))))) (Ow.emp) (X := Unit) (fun _ => str r) (fun _ => True) (fun _ => Mo.tt) (fun _ => Ow.emp) := by
 refine Zo Tryz.func12 Tryz.ntmps12 fun c => ?_
 unfold Sh.rectotop_work at hS
 refine Zq (Zr ?_)
 refine VL.box (cs := (zStateState s_0)) rfl rfl (by decide) fun b2_1 => ?_
 refine Zy ?_
 refine Zq (Zr ?_)
 refine Zu (q_field gfa41_0 rfl) ?_
 refine Zu (q_field gfa35_0 rfl) ?_
 refine Zu (q_fe gone24 rfl rfl) ?_
 refine Zm ?_
 obtain ⟨y12_2, ey12_2, hS⟩ := bd_s hS
 refine Zu (q_call (files_Row_Get_ct s_0.now_work p_1 ey12_2) rfl (fun _ _ => rfl)) ?_
 refine Zm ?_
 refine Zu (q_extract rfl rfl) ?_
 refine Zu (q_extract rfl rfl) ?_
 refine VL.alloc (cs := [str [], i64 0, str []]) (by kernel_rfl) (by decide) fun b5_3 => ?_
 refine Zv (vc := [str y12_2.1.path, i64 y12_2.1.mode, str y12_2.1.data]) (cs' := [str y12_2.1.path, i64 y12_2.1.mode, str y12_2.1.data]) rfl gsz75 ?_
 refine Zy ?_
 refine VC.keep (ρ' := [(5, ptr b5_3 0), (6, .bool y12_2.2)]) [5, 6] rfl ?_
 refine Zq (Zq (Zr ?_))
 refine Zm ?_
 refine Zu (q_not rfl) ?_
 refine Zl ?_
 refine Zcb hS (fun h16 hS => ?_) (fun h16 hS => ?_)
 ·
  refine Zq (Zr ?_)
  refine Zy ?_
  cases hS
  exact Ze
 refine Zk ?_
 refine Zq (Zr ?_)
 refine Zu (q_field gfa75_2 rfl) ?_
 refine Zu (q_fe gone9 rfl rfl) ?_
 refine Zy ?_
 cases hS
 exact Ze
theorem rectotop_known_ct  {r : Bool} (hS : Sh.rectotop_known = some r) :
 Ct Tryz.prog 5 [] Mo.tt (Ow.emp) (X := Unit) (fun _ => .bool r) (fun _ => True) (fun _ => Mo.tt) (fun _ => Ow.emp) := by
 refine Zo Tryz.func5 Tryz.ntmps5 fun c => ?_
 unfold Sh.rectotop_known at hS
 refine Zq (Zr ?_)
 refine Zy ?_
 refine Zq (Zr ?_)
 obtain ⟨y6_1, ey6_1, hS⟩ := bd_s hS
 refine VL.callF (state_New_ct ey6_1) rfl (by decide) ?_
 rintro q6_1_0 rfl
 try dsimp only
 obtain ⟨y7_2, ey7_2, hS⟩ := bd_s hS
 refine VL.callF (rectotop_saved_ct q6_1_0 [97] [120, 10] [111, 110, 101] ey7_2) rfl (by decide) ?_
 rintro q7_2_0 rfl
 try dsimp only
 refine VL.alloc (cs := [.slice none 0 0, .slice none 0 0, .slice none 0 0, str [], i64 0, str [], i64 0, str [], .slice none 0 0, .slice none 0 0, i64 0, str [], str [], i64 0, .slice none 0 0, .slice none 0 0, .slice none 0 0, .slice none 0 0, .slice none 0 0, .slice none 0 0, i64 0]) (by kernel_rfl) (by decide) fun b1_3 => ?_
 refine Zv (vc := (zStateState q7_2_0)) (cs' := (zStateState q7_2_0)) rfl gsz41 ?_
 refine Zl ?_
 refine Zq (Zr ?_)
 refine Zu (q_fes gagg41 rfl rfl) ?_
 obtain ⟨y10_4, ey10_4, hS⟩ := bd_s hS
 refine VL.callF (rectotop_say_ct q7_2_0 [98, 114, 97, 110, 99, 104, 32, 100, 101, 118] ey10_4) rfl (by decide) ?_
 rintro ⟨q10_4_0, q10_4_1⟩ rfl
 try dsimp only
 refine Zm ?_
 refine Zu (q_extract rfl rfl) ?_
 refine Zu (q_extract rfl rfl) ?_
 refine Zv (vc := (zStateState q10_4_0)) (cs' := (zStateState q10_4_0)) rfl gsz41 ?_
 refine Zy ?_
 refine Zq (Zr ?_)
 refine Zu (q_fes gagg41 rfl rfl) ?_
 obtain ⟨y14_5, ey14_5, hS⟩ := bd_s hS
 refine VL.callF (rectotop_saved_ct q10_4_0 [98] [121, 10] [116, 119, 111] ey14_5) rfl (by decide) ?_
 rintro q14_5_0 rfl
 try dsimp only
 refine Zv (vc := (zStateState q14_5_0)) (cs' := (zStateState q14_5_0)) rfl gsz41 ?_
 refine Zl ?_
 refine VC.keep (ρ' := [(1, ptr b1_3 0), (2, q10_4_1.val)]) [1, 2] rfl ?_
 refine Zq (Zr ?_)
 refine Zu (q_fes gagg41 rfl rfl) ?_
 obtain ⟨y17_6, ey17_6, hS⟩ := bd_s hS
 refine VL.callF (rectotop_say_ct q14_5_0 [115, 119, 105, 116, 99, 104, 32, 100, 101, 118] ey17_6) rfl (by decide) ?_
 rintro ⟨q17_6_0, q17_6_1⟩ rfl
 try dsimp only
 refine Zm ?_
 refine Zu (q_extract rfl rfl) ?_
 refine Zu (q_extract rfl rfl) ?_
 refine Zv (vc := (zStateState q17_6_0)) (cs' := (zStateState q17_6_0)) rfl gsz41 ?_
 refine Zy ?_
 refine Zq (Zr ?_)
 refine Zu (q_fes gagg41 rfl rfl) ?_
 obtain ⟨y21_7, ey21_7, hS⟩ := bd_s hS
 refine Zu (q_call (rectotop_work_ct q17_6_0 [98] ey21_7) rfl (fun _ _ => rfl)) ?_
 refine Zy ?_
 refine VC.keep (ρ' := [(1, ptr b1_3 0), (2, q10_4_1.val), (3, q17_6_1.val), (4, str y21_7)]) [1, 2, 3, 4] rfl ?_
 refine Zq (Zr ?_)
 refine Zu (q_fes gagg41 rfl rfl) ?_
 obtain ⟨y23_8, ey23_8, hS⟩ := bd_s hS
 refine VL.callF (rectotop_saved_ct q17_6_0 [99] [122, 10] [116, 104, 114, 101, 101] ey23_8) rfl (by decide) ?_
 rintro q23_8_0 rfl
 try dsimp only
 refine Zv (vc := (zStateState q23_8_0)) (cs' := (zStateState q23_8_0)) rfl gsz41 ?_
 refine Zl ?_
 refine Zq (Zr ?_)
 refine Zu (q_fes gagg41 rfl rfl) ?_
 obtain ⟨y26_9, ey26_9, hS⟩ := bd_s hS
 refine VL.callF (rectotop_say_ct q23_8_0 [109, 101, 114, 103, 101, 32, 109, 97, 105, 110] ey26_9) rfl (by decide) ?_
 rintro ⟨q26_9_0, q26_9_1⟩ rfl
 try dsimp only
 refine Zm ?_
 refine Zu (q_extract rfl rfl) ?_
 refine Zu (q_extract rfl rfl) ?_
 refine Zv (vc := (zStateState q26_9_0)) (cs' := (zStateState q26_9_0)) rfl gsz41 ?_
 refine Zy ?_
 refine VC.keep (ρ' := [(1, ptr b1_3 0), (2, q10_4_1.val), (3, q17_6_1.val), (4, str y21_7), (5, q26_9_1.val)]) [1, 2, 3, 4, 5] rfl ?_
 refine Zq (Zr ?_)
 refine Zm ?_
 refine Zu (q_ereq Tryz.underlying45 rfl) ?_
 refine Zm ?_
 refine Zsp 31 hS (fun h31 hS => ?_) (fun h31 hS => ?_)
 ·
  refine Zg ?_
  refine Zh (q_ereq Tryz.underlying45 rfl) ?_
  refine Zy ?_
  refine Zsp 35 hS (fun h35 hS => ?_) (fun h35 hS => ?_)
  ·
   refine Zg ?_
   refine Zh (q_ereq Tryz.underlying45 rfl) ?_
   refine Zy ?_
   refine Zsp 39 hS (fun h39 hS => ?_) (fun h39 hS => ?_)
   ·
    refine Zg ?_
    refine Zh (q_seq rfl rfl) ?_
    refine Zy ?_
    refine Zsp 43 hS (fun h43 hS => ?_) (fun h43 hS => ?_)
    ·
     refine Zh (q_fes gagg41 rfl rfl) ?_
     obtain ⟨y45_10, ey45_10, hS⟩ := bd_s hS
     refine Zh (q_call (rectotop_work_ct q26_9_0 [98] ey45_10) rfl (fun _ _ => rfl)) ?_
     refine Zh (q_seq rfl rfl) ?_
     refine Zy ?_
     refine Zsp 48 hS (fun h48 hS => ?_) (fun h48 hS => ?_)
     ·
      refine Zh (q_field gfa41_1 rfl) ?_
      refine Zh (q_fe gone36 rfl rfl) ?_
      refine Zh (q_lnm StateCommit.pl (s := q26_9_0.commits) Tryz.underlying36 rfl) ?_
      refine Zh (q_eql rfl rfl) ?_
      refine Zy ?_
      refine Zsp 54 hS (fun h54 hS => ?_) (fun h54 hS => ?_)
      ·
       refine Zh (q_field gfa41_1 rfl) ?_
       refine Zh (q_fe gone36 rfl rfl) ?_
       obtain ⟨z57_11, nz57_11, hz57_11, hS⟩ := atm_s hS
       refine VL.deep z57_11.m hz57_11 (fun _ q => q) ?_
       refine Zh (q_ixm (s := q26_9_0.commits) Tryz.underlying36 gsz58 rfl rfl nz57_11 (lt_of_get nz57_11 hz57_11)) ?_
       refine Zh (q_field gfa58_1 rfl) ?_
       refine Zh (q_elf (s := q26_9_0.commits) gone56 rfl hz57_11 rfl) ?_
       refine Zh (q_ln (s := z57_11.parents) Tryz.underlying56 rfl) ?_
       refine Zh (q_eql rfl rfl) ?_
       refine Zy ?_
       refine VC.keep (ρ' := [(0, .bool (decide ((z57_11.parents.l.length : Int) = 2)))]) [0] rfl ?_
       cases hS
       exact Ze
      refine VL.skips 7 [61] (by kernel_rfl) ?_
      refine Zy ?_
      refine VC.keep (ρ' := [(0, .bool false)]) [0] rfl ?_
      cases hS
      exact Ze
     refine VL.skips 4 [52] (by kernel_rfl) ?_
     refine Zf ?_
     refine Zm ?_
     refine VL.skips 7 [61] (by kernel_rfl) ?_
     refine Zy ?_
     refine VC.keep (ρ' := [(0, .bool false)]) [0] rfl ?_
     cases hS
     exact Ze
    refine VL.skips 3 [46] (by kernel_rfl) ?_
    refine Zf ?_
    refine Zm ?_
    refine VL.skips 4 [52] (by kernel_rfl) ?_
    refine Zf ?_
    refine Zm ?_
    refine VL.skips 7 [61] (by kernel_rfl) ?_
    refine Zy ?_
    refine VC.keep (ρ' := [(0, .bool false)]) [0] rfl ?_
    cases hS
    exact Ze
   refine Zn ?_
   refine Zn ?_
   refine Zf ?_
   refine Zm ?_
   refine VL.skips 3 [46] (by kernel_rfl) ?_
   refine Zf ?_
   refine Zm ?_
   refine VL.skips 4 [52] (by kernel_rfl) ?_
   refine Zf ?_
   refine Zm ?_
   refine VL.skips 7 [61] (by kernel_rfl) ?_
   refine Zy ?_
   refine VC.keep (ρ' := [(0, .bool false)]) [0] rfl ?_
   cases hS
   exact Ze
  refine Zn ?_
  refine Zn ?_
  refine Zf ?_
  refine Zm ?_
  refine Zn ?_
  refine Zn ?_
  refine Zf ?_
  refine Zm ?_
  refine VL.skips 3 [46] (by kernel_rfl) ?_
  refine Zf ?_
  refine Zm ?_
  refine VL.skips 4 [52] (by kernel_rfl) ?_
  refine Zf ?_
  refine Zm ?_
  refine VL.skips 7 [61] (by kernel_rfl) ?_
  refine Zy ?_
  refine VC.keep (ρ' := [(0, .bool false)]) [0] rfl ?_
  cases hS
  exact Ze
 refine Zn ?_
 refine Zn ?_
 refine Zf ?_
 refine Zm ?_
 refine Zn ?_
 refine Zn ?_
 refine Zf ?_
 refine Zm ?_
 refine Zn ?_
 refine Zn ?_
 refine Zf ?_
 refine Zm ?_
 refine VL.skips 3 [46] (by kernel_rfl) ?_
 refine Zf ?_
 refine Zm ?_
 refine VL.skips 4 [52] (by kernel_rfl) ?_
 refine Zf ?_
 refine Zm ?_
 refine VL.skips 7 [61] (by kernel_rfl) ?_
 refine Zy ?_
 refine VC.keep (ρ' := [(0, .bool false)]) [0] rfl ?_
 cases hS
 exact Ze
theorem rectotop_word_ct (n_0 : Int) {r : Str} (hS : Sh.rectotop_word n_0 = some r) :
 Ct Tryz.prog 9 [.int .u8 n_0] Mo.tt (Ow.emp) (X := Unit) (fun _ => str r) (fun _ => True) (fun _ => Mo.tt) (fun _ => Ow.emp) := by
 refine Zo Tryz.func9 Tryz.ntmps9 fun c => ?_
 unfold Sh.rectotop_word at hS
 refine Zq (Zr ?_)
 refine Zy ?_
 refine Zq (Zr ?_)
 refine Zm ?_
 obtain ⟨b4, hS⟩ := gd_s hS
 refine Zu (q_rem rfl rfl b4) ?_
 obtain ⟨b5, hS⟩ := gd_s hS
 refine Zu (q_addW rfl rfl (wu8_in b5)) ?_
 obtain ⟨b6_5, hS⟩ := gd_s hS
 obtain ⟨u6_2, eu6_2, hS⟩ := lt_s hS
 refine VL.setv 5 rfl (congrArg (Value.int .u8) (u8_z b6_5 eu6_2)) ?_
 refine VL.lit (α := UInt8) (xs := [.tmp 5]) (vs := [.int .u8 (u6_2.toNat : Int)]) [u6_2] Tryz.underlying64 glit5 (by decide) rfl rfl rfl rfl (by decide) (fun _ _ _ _ => trivial) (by decide) (fun s6_1 hs6_1 => ?_) (by decide)
 replace hS := lt_to hs6_1 hS
 refine Zu (q_b2s (s := s6_1) Tryz.underlying64 Tryz.underlying5 Tryz.underlying9 rfl) ?_
 obtain ⟨b8, hS⟩ := gd_s hS
 obtain ⟨y8_4, ey8_4, hS⟩ := lt_s hS
 refine Zu (q_catE rfl rfl b8 ey8_4) ?_
 refine Zy ?_
 cases hS
 exact Ze
theorem slices_Equal_names_Ref_names_Ref_ct (s1_0 : Sv NamesRef) (s2_1 : Sv NamesRef) {r : Bool} (hS : Sh.slices_Equal_names_Ref_names_Ref s1_0.l s2_1.l = some r) :
 Ct Tryz.prog 39 [s1_0.val, s2_1.val] (s1_0.ok.and s2_1.ok) (Ow.emp) (X := Unit) (fun _ => .bool r) (fun _ => True) (fun _ => Mo.tt) (fun _ => Ow.emp) := by
 refine Zo Tryz.func39 Tryz.ntmps39 fun c => ?_
 unfold Sh.slices_Equal_names_Ref_names_Ref at hS
 refine Zq (Zr ?_)
 refine Zy ?_
 refine Zq (Zq (Zr ?_))
 refine Zm ?_
 refine Zu (q_ln (s := s1_0) Tryz.underlying26 rfl) ?_
 refine Zm ?_
 refine Zu (q_ln (s := s2_1) Tryz.underlying26 rfl) ?_
 refine Zu (q_neq rfl rfl) ?_
 refine Zl ?_
 refine Zcn hS (fun h10 hS => ?_) (fun h10 hS => ?_)
 ·
  refine Zq (Zr ?_)
  refine Zy ?_
  cases hS
  exact Ze
 refine Zk ?_
 refine Zq (Zq (Zr ?_))
 refine Zm ?_
 refine Zu (q_ln (s := s1_0) Tryz.underlying26 rfl) ?_
 refine Zy ?_
 refine VC.keep (ρ' := [(0, s1_0.val), (1, s2_1.val), (12, i64 (s1_0.l.length : Int)), (13, i64 0)]) [0, 1, 12, 13] rfl ?_
 refine Zb ?_
 refine VC.iter (S := Int) (fun (x13_1 : Int) => x13_1) (fun (x13_1 : Int) => [(0, s1_0.val), (1, s2_1.val), (12, i64 (s1_0.l.length : Int)), (13, i64 x13_1)]) (fun (x13_1 : Int) => Mo.tt) (fun (x13_1 : Int) => Ow.emp) 0 [0, 1, 12, 13] hS rfl ?_
 clear hS
 rintro x13_1 m1 y1 hS hK1
 refine Zq (Zr ?_)
 refine Zu (q_lss rfl rfl) ?_
 refine Zl ?_
 refine Zq ?_
 refine Zc hS (fun h14 hS => ?_) (fun h14 hS => ?_)
 ·
  refine Zk ?_
  refine Zq (Zb (Zq (Zr ?_)))
  refine Zy ?_
  refine Zq ?_
  refine VC.draw ((List.range 9).map fun k => (k, true)) mixed (by kernel_rfl) (by kernel_rfl) (by kernel_rfl) ?_
  refine Zw rfl (q_move rfl) ?_
  refine Zw rfl (q_move rfl) ?_
  obtain ⟨z18_2, nz18_2, hz18_2, hS⟩ := at_s hS
  refine Zw rfl (q_ixm (s := s1_0) Tryz.underlying26 gsz113 rfl rfl nz18_2 (lt_of_get nz18_2 hz18_2)) ?_
  refine Zw rfl (q_els (s := s1_0) gagg113 rfl rfl hz18_2) ?_
  refine Zw rfl (q_move rfl) ?_
  refine Zw rfl (q_move rfl) ?_
  obtain ⟨z22_3, nz22_3, hz22_3, hS⟩ := at_s hS
  refine Zw rfl (q_ixm (s := s2_1) Tryz.underlying26 gsz113 rfl rfl nz22_3 (lt_of_get nz22_3 hz22_3)) ?_
  refine Zw rfl (q_els (s := s2_1) gagg113 rfl rfl hz22_3) ?_
  refine Zw rfl (q_stneq geqg113 (geqs113 z18_2.name z18_2.commit z22_3.name z22_3.commit) rfl rfl) ?_
  refine VD.to (fun _ _ h => h) ?_
  refine VC.keep (ρ' := [(0, s1_0.val), (1, s2_1.val), (12, i64 (s1_0.l.length : Int)), (13, i64 x13_1), (24, .bool (!decide (z18_2.name = z22_3.name ∧ z18_2.commit = z22_3.commit)))]) [0, 1, 12, 13, 24] rfl ?_
  refine Zcn hS (fun h24 hS => ?_) (fun h24 hS => ?_)
  ·
   refine Zq (Zr ?_)
   refine Zy ?_
   replace hS := up2 hS hK1
   cases hS
   exact Ze
  refine Zk ?_
  refine Zr ?_
  obtain ⟨b25, hS⟩ := gd_s hS
  refine Zu (q_add rfl rfl b25) ?_
  refine Zm ?_
  refine VL.rnd (x13_1 + 1) [0, 1, 12, 13] (fun _ _ h => h) (go2 hS hK1) rfl
 replace hS := up2 hS hK1
 refine Zx ?_
 refine Zq (Zr ?_)
 refine Zy ?_
 cases hS
 exact Ze
theorem slices_Equal_todo_Step_todo_Step_ct (s1_0 : Sv TodoStep) (s2_1 : Sv TodoStep) {r : Bool} (hS : Sh.slices_Equal_todo_Step_todo_Step s1_0.l s2_1.l = some r) :
 Ct Tryz.prog 75 [s1_0.val, s2_1.val] (s1_0.ok.and s2_1.ok) (Ow.emp) (X := Unit) (fun _ => .bool r) (fun _ => True) (fun _ => Mo.tt) (fun _ => Ow.emp) := by
 refine Zo Tryz.func75 Tryz.ntmps75 fun c => ?_
 unfold Sh.slices_Equal_todo_Step_todo_Step at hS
 refine Zq (Zr ?_)
 refine Zy ?_
 refine Zq (Zq (Zr ?_))
 refine Zm ?_
 refine Zu (q_ln (s := s1_0) Tryz.underlying29 rfl) ?_
 refine Zm ?_
 refine Zu (q_ln (s := s2_1) Tryz.underlying29 rfl) ?_
 refine Zu (q_neq rfl rfl) ?_
 refine Zl ?_
 refine Zcn hS (fun h10 hS => ?_) (fun h10 hS => ?_)
 ·
  refine Zq (Zr ?_)
  refine Zy ?_
  cases hS
  exact Ze
 refine Zk ?_
 refine Zq (Zq (Zr ?_))
 refine Zm ?_
 refine Zu (q_ln (s := s1_0) Tryz.underlying29 rfl) ?_
 refine Zy ?_
 refine VC.keep (ρ' := [(0, s1_0.val), (1, s2_1.val), (12, i64 (s1_0.l.length : Int)), (13, i64 0)]) [0, 1, 12, 13] rfl ?_
 refine Zb ?_
 refine VC.iter (S := Int) (fun (x13_1 : Int) => x13_1) (fun (x13_1 : Int) => [(0, s1_0.val), (1, s2_1.val), (12, i64 (s1_0.l.length : Int)), (13, i64 x13_1)]) (fun (x13_1 : Int) => Mo.tt) (fun (x13_1 : Int) => Ow.emp) 0 [0, 1, 12, 13] hS rfl ?_
 clear hS
 rintro x13_1 m1 y1 hS hK1
 refine Zq (Zr ?_)
 refine Zu (q_lss rfl rfl) ?_
 refine Zl ?_
 refine Zq ?_
 refine Zc hS (fun h14 hS => ?_) (fun h14 hS => ?_)
 ·
  refine Zk ?_
  refine Zq (Zb (Zq (Zr ?_)))
  refine Zy ?_
  refine Zq ?_
  refine VC.draw ((List.range 9).map fun k => (k, true)) mixed (by kernel_rfl) (by kernel_rfl) (by kernel_rfl) ?_
  refine Zw rfl (q_move rfl) ?_
  refine Zw rfl (q_move rfl) ?_
  obtain ⟨z18_2, nz18_2, hz18_2, hS⟩ := at_s hS
  refine Zw rfl (q_ixm (s := s1_0) Tryz.underlying29 gsz129 rfl rfl nz18_2 (lt_of_get nz18_2 hz18_2)) ?_
  refine Zw rfl (q_els (s := s1_0) gagg129 rfl rfl hz18_2) ?_
  refine Zw rfl (q_move rfl) ?_
  refine Zw rfl (q_move rfl) ?_
  obtain ⟨z22_3, nz22_3, hz22_3, hS⟩ := at_s hS
  refine Zw rfl (q_ixm (s := s2_1) Tryz.underlying29 gsz129 rfl rfl nz22_3 (lt_of_get nz22_3 hz22_3)) ?_
  refine Zw rfl (q_els (s := s2_1) gagg129 rfl rfl hz22_3) ?_
  refine Zw rfl (q_stneq geqg129 (geqs129 z18_2.verb z18_2.commit z18_2.text z22_3.verb z22_3.commit z22_3.text) rfl rfl) ?_
  refine VD.to (fun _ _ h => h) ?_
  refine VC.keep (ρ' := [(0, s1_0.val), (1, s2_1.val), (12, i64 (s1_0.l.length : Int)), (13, i64 x13_1), (24, .bool (!decide (z18_2.verb = z22_3.verb ∧ z18_2.commit = z22_3.commit ∧ z18_2.text = z22_3.text)))]) [0, 1, 12, 13, 24] rfl ?_
  refine Zcn hS (fun h24 hS => ?_) (fun h24 hS => ?_)
  ·
   refine Zq (Zr ?_)
   refine Zy ?_
   replace hS := up2 hS hK1
   cases hS
   exact Ze
  refine Zk ?_
  refine Zr ?_
  obtain ⟨b25, hS⟩ := gd_s hS
  refine Zu (q_add rfl rfl b25) ?_
  refine Zm ?_
  refine VL.rnd (x13_1 + 1) [0, 1, 12, 13] (fun _ _ h => h) (go2 hS hK1) rfl
 replace hS := up2 hS hK1
 refine Zx ?_
 refine Zq (Zr ?_)
 refine Zy ?_
 cases hS
 exact Ze
theorem state_sameSeq_ct (a_0 : StateSeq) (b_1 : StateSeq) {r : Bool} (hS : Sh.state_sameSeq a_0.pl b_1.pl = some r) :
 Ct Tryz.prog 40 [.agg (zStateSeq a_0).toArray, .agg (zStateSeq b_1).toArray] (a_0.doing.ok.and (a_0.todo.ok.and (a_0.index.ok.and (a_0.work.ok.and (b_1.doing.ok.and (b_1.todo.ok.and (b_1.index.ok.and b_1.work.ok))))))) (Ow.emp) (X := Unit) (fun _ => .bool r) (fun _ => True) (fun _ => Mo.tt) (fun _ => Ow.emp) := by
 refine Zo Tryz.func40 Tryz.ntmps40 fun c => ?_
 unfold Sh.state_sameSeq at hS
 refine Zq (Zr ?_)
 refine VL.box (cs := (zStateSeq a_0)) rfl rfl (by decide) fun b2_1 => ?_
 refine VL.box (cs := (zStateSeq b_1)) rfl rfl (by decide) fun b3_2 => ?_
 refine Zy ?_
 refine Zq (Zr ?_)
 refine Zu (q_field gfa31_0 rfl) ?_
 refine Zu (q_fe gone9 rfl rfl) ?_
 refine Zu (q_field gfa31_0 rfl) ?_
 refine Zu (q_fe gone9 rfl rfl) ?_
 refine Zy ?_
 refine Zsp 10 hS (fun h10 hS => ?_) (fun h10 hS => ?_)
 ·
  refine Zh (q_field gfa31_1 rfl) ?_
  refine Zh (q_fe gone3 rfl rfl) ?_
  refine Zh (q_field gfa31_1 rfl) ?_
  refine Zh (q_fe gone3 rfl rfl) ?_
  refine Zh (q_eql rfl rfl) ?_
  refine Zy ?_
  refine Zsp 17 hS (fun h17 hS => ?_) (fun h17 hS => ?_)
  ·
   refine Zh (q_field gfa31_2 rfl) ?_
   refine Zh (q_fe gone9 rfl rfl) ?_
   refine Zh (q_field gfa31_2 rfl) ?_
   refine Zh (q_fe gone9 rfl rfl) ?_
   refine Zh (q_seq rfl rfl) ?_
   refine Zy ?_
   refine Zsp 24 hS (fun h24 hS => ?_) (fun h24 hS => ?_)
   ·
    refine Zh (q_field gfa31_3 rfl) ?_
    refine Zh (q_fe gone29 rfl rfl) ?_
    refine Zh (q_field gfa31_3 rfl) ?_
    refine Zh (q_fe gone29 rfl rfl) ?_
    obtain ⟨y29_3, ey29_3, hS⟩ := bd_s hS
    refine Zh (q_call (slices_Equal_todo_Step_todo_Step_ct a_0.doing b_1.doing ey29_3) rfl (fun _ _ => rfl)) ?_
    refine Zy ?_
    refine Zspb 31 hS (fun h31 hS => ?_) (fun h31 hS => ?_)
    ·
     refine Zh (q_field gfa31_4 rfl) ?_
     refine Zh (q_fe gone29 rfl rfl) ?_
     refine Zh (q_field gfa31_4 rfl) ?_
     refine Zh (q_fe gone29 rfl rfl) ?_
     obtain ⟨y36_4, ey36_4, hS⟩ := bd_s hS
     refine Zh (q_call (slices_Equal_todo_Step_todo_Step_ct a_0.todo b_1.todo ey36_4) rfl (fun _ _ => rfl)) ?_
     refine Zy ?_
     refine Zspb 38 hS (fun h38 hS => ?_) (fun h38 hS => ?_)
     ·
      refine Zh (q_field gfa31_5 rfl) ?_
      refine Zh (q_fe gone3 rfl rfl) ?_
      refine Zh (q_field gfa31_5 rfl) ?_
      refine Zh (q_fe gone3 rfl rfl) ?_
      refine Zh (q_eql rfl rfl) ?_
      refine Zy ?_
      refine Zsp 45 hS (fun h45 hS => ?_) (fun h45 hS => ?_)
      ·
       refine Zh (q_field gfa31_6 rfl) ?_
       refine Zh (q_fe gone9 rfl rfl) ?_
       refine Zh (q_field gfa31_6 rfl) ?_
       refine Zh (q_fe gone9 rfl rfl) ?_
       refine Zh (q_seq rfl rfl) ?_
       refine Zy ?_
       refine Zsp 52 hS (fun h52 hS => ?_) (fun h52 hS => ?_)
       ·
        refine Zh (q_field gfa31_7 rfl) ?_
        refine Zh (q_fep (j := 7) (n := 2) gagg28 rfl rfl rfl) ?_
        refine Zh (q_field gfa31_7 rfl) ?_
        refine Zh (q_fep (j := 7) (n := 2) gagg28 rfl rfl rfl) ?_
        refine Zh (q_steql geqg28 (geqs28 a_0.head_branch a_0.head_commit b_1.head_branch b_1.head_commit) rfl rfl) ?_
        refine Zy ?_
        refine Zsp 59 hS (fun h59 hS => ?_) (fun h59 hS => ?_)
        ·
         refine Zh (q_field gfa31_8 rfl) ?_
         refine Zh (q_fe gone25 rfl rfl) ?_
         refine Zh (q_field gfa31_8 rfl) ?_
         refine Zh (q_fe gone25 rfl rfl) ?_
         obtain ⟨y64_5, ey64_5, hS⟩ := bd_s hS
         refine Zh (q_call (index_Same_ct a_0.index b_1.index ey64_5) rfl (fun _ _ => rfl)) ?_
         refine Zy ?_
         refine Zspb 66 hS (fun h66 hS => ?_) (fun h66 hS => ?_)
         ·
          refine Zh (q_field gfa31_9 rfl) ?_
          refine Zh (q_fe gone24 rfl rfl) ?_
          refine Zh (q_field gfa31_9 rfl) ?_
          refine Zh (q_fe gone24 rfl rfl) ?_
          obtain ⟨y71_6, ey71_6, hS⟩ := bd_s hS
          refine Zh (q_call (files_Row_Same_ct a_0.work b_1.work ey71_6) rfl (fun _ _ => rfl)) ?_
          refine Zy ?_
          refine VC.keep (ρ' := [(4, .bool y71_6)]) [4] rfl ?_
          cases hS
          exact Ze
         refine VL.skips 5 [71] (by kernel_rfl) ?_
         refine Zy ?_
         refine VC.keep (ρ' := [(4, .bool false)]) [4] rfl ?_
         cases hS
         exact Ze
        refine VL.skips 5 [64] (by kernel_rfl) ?_
        refine Zf ?_
        refine Zm ?_
        refine VL.skips 5 [71] (by kernel_rfl) ?_
        refine Zy ?_
        refine VC.keep (ρ' := [(4, .bool false)]) [4] rfl ?_
        cases hS
        exact Ze
       refine VL.skips 5 [57] (by kernel_rfl) ?_
       refine Zf ?_
       refine Zm ?_
       refine VL.skips 5 [64] (by kernel_rfl) ?_
       refine Zf ?_
       refine Zm ?_
       refine VL.skips 5 [71] (by kernel_rfl) ?_
       refine Zy ?_
       refine VC.keep (ρ' := [(4, .bool false)]) [4] rfl ?_
       cases hS
       exact Ze
      refine VL.skips 5 [50] (by kernel_rfl) ?_
      refine Zf ?_
      refine Zm ?_
      refine VL.skips 5 [57] (by kernel_rfl) ?_
      refine Zf ?_
      refine Zm ?_
      refine VL.skips 5 [64] (by kernel_rfl) ?_
      refine Zf ?_
      refine Zm ?_
      refine VL.skips 5 [71] (by kernel_rfl) ?_
      refine Zy ?_
      refine VC.keep (ρ' := [(4, .bool false)]) [4] rfl ?_
      cases hS
      exact Ze
     refine VL.skips 5 [43] (by kernel_rfl) ?_
     refine Zf ?_
     refine Zm ?_
     refine VL.skips 5 [50] (by kernel_rfl) ?_
     refine Zf ?_
     refine Zm ?_
     refine VL.skips 5 [57] (by kernel_rfl) ?_
     refine Zf ?_
     refine Zm ?_
     refine VL.skips 5 [64] (by kernel_rfl) ?_
     refine Zf ?_
     refine Zm ?_
     refine VL.skips 5 [71] (by kernel_rfl) ?_
     refine Zy ?_
     refine VC.keep (ρ' := [(4, .bool false)]) [4] rfl ?_
     cases hS
     exact Ze
    refine VL.skips 5 [36] (by kernel_rfl) ?_
    refine Zf ?_
    refine Zm ?_
    refine VL.skips 5 [43] (by kernel_rfl) ?_
    refine Zf ?_
    refine Zm ?_
    refine VL.skips 5 [50] (by kernel_rfl) ?_
    refine Zf ?_
    refine Zm ?_
    refine VL.skips 5 [57] (by kernel_rfl) ?_
    refine Zf ?_
    refine Zm ?_
    refine VL.skips 5 [64] (by kernel_rfl) ?_
    refine Zf ?_
    refine Zm ?_
    refine VL.skips 5 [71] (by kernel_rfl) ?_
    refine Zy ?_
    refine VC.keep (ρ' := [(4, .bool false)]) [4] rfl ?_
    cases hS
    exact Ze
   refine VL.skips 5 [29] (by kernel_rfl) ?_
   refine Zf ?_
   refine Zm ?_
   refine VL.skips 5 [36] (by kernel_rfl) ?_
   refine Zf ?_
   refine Zm ?_
   refine VL.skips 5 [43] (by kernel_rfl) ?_
   refine Zf ?_
   refine Zm ?_
   refine VL.skips 5 [50] (by kernel_rfl) ?_
   refine Zf ?_
   refine Zm ?_
   refine VL.skips 5 [57] (by kernel_rfl) ?_
   refine Zf ?_
   refine Zm ?_
   refine VL.skips 5 [64] (by kernel_rfl) ?_
   refine Zf ?_
   refine Zm ?_
   refine VL.skips 5 [71] (by kernel_rfl) ?_
   refine Zy ?_
   refine VC.keep (ρ' := [(4, .bool false)]) [4] rfl ?_
   cases hS
   exact Ze
  refine VL.skips 5 [22] (by kernel_rfl) ?_
  refine Zf ?_
  refine Zm ?_
  refine VL.skips 5 [29] (by kernel_rfl) ?_
  refine Zf ?_
  refine Zm ?_
  refine VL.skips 5 [36] (by kernel_rfl) ?_
  refine Zf ?_
  refine Zm ?_
  refine VL.skips 5 [43] (by kernel_rfl) ?_
  refine Zf ?_
  refine Zm ?_
  refine VL.skips 5 [50] (by kernel_rfl) ?_
  refine Zf ?_
  refine Zm ?_
  refine VL.skips 5 [57] (by kernel_rfl) ?_
  refine Zf ?_
  refine Zm ?_
  refine VL.skips 5 [64] (by kernel_rfl) ?_
  refine Zf ?_
  refine Zm ?_
  refine VL.skips 5 [71] (by kernel_rfl) ?_
  refine Zy ?_
  refine VC.keep (ρ' := [(4, .bool false)]) [4] rfl ?_
  cases hS
  exact Ze
 refine VL.skips 5 [15] (by kernel_rfl) ?_
 refine Zf ?_
 refine Zm ?_
 refine VL.skips 5 [22] (by kernel_rfl) ?_
 refine Zf ?_
 refine Zm ?_
 refine VL.skips 5 [29] (by kernel_rfl) ?_
 refine Zf ?_
 refine Zm ?_
 refine VL.skips 5 [36] (by kernel_rfl) ?_
 refine Zf ?_
 refine Zm ?_
 refine VL.skips 5 [43] (by kernel_rfl) ?_
 refine Zf ?_
 refine Zm ?_
 refine VL.skips 5 [50] (by kernel_rfl) ?_
 refine Zf ?_
 refine Zm ?_
 refine VL.skips 5 [57] (by kernel_rfl) ?_
 refine Zf ?_
 refine Zm ?_
 refine VL.skips 5 [64] (by kernel_rfl) ?_
 refine Zf ?_
 refine Zm ?_
 refine VL.skips 5 [71] (by kernel_rfl) ?_
 refine Zy ?_
 refine VC.keep (ρ' := [(4, .bool false)]) [4] rfl ?_
 cases hS
 exact Ze
theorem shelf_Stack_Same_1_ct (x_0 : ShelfShelf) (y_1 : ShelfShelf) {r : Bool} (hS : Sh.shelf_Stack_Same_1 x_0.pl y_1.pl = some r) :
 Ct Tryz.prog 77 [.agg #[i64 x_0.base, x_0.index.val, x_0.work.val, str x_0.text], .agg #[i64 y_1.base, y_1.index.val, y_1.work.val, str y_1.text]] (x_0.index.ok.and (x_0.work.ok.and (y_1.index.ok.and y_1.work.ok))) (Ow.emp) (X := Unit) (fun _ => .bool r) (fun _ => True) (fun _ => Mo.tt) (fun _ => Ow.emp) := by
 refine Zo Tryz.func77 Tryz.ntmps77 fun c => ?_
 unfold Sh.shelf_Stack_Same_1 at hS
 refine Zq (Zr ?_)
 refine VL.box (cs := [i64 x_0.base, x_0.index.val, x_0.work.val, str x_0.text]) rfl rfl (by decide) fun b2_1 => ?_
 refine VL.box (cs := [i64 y_1.base, y_1.index.val, y_1.work.val, str y_1.text]) rfl rfl (by decide) fun b3_2 => ?_
 refine Zy ?_
 refine Zq ?_
 cases hS
theorem slices_EqualFunc_shelf_Stack_shelf_Stack_shelf_Shelf_shelf_Shelf_ct (s1_0 : Sv ShelfShelf) (s2_1 : Sv ShelfShelf) {r : Bool} (hS : Sh.slices_EqualFunc_shelf_Stack_shelf_Stack_shelf_Shelf_shelf_Shelf (s1_0.l.map ShelfShelf.pl) (s2_1.l.map ShelfShelf.pl) = some r) :
 Ct Tryz.prog 76 [s1_0.val, s2_1.val, .func (.func 77) #[] #[]] (s1_0.ok.and s2_1.ok) (Ow.emp) (X := Unit) (fun _ => .bool r) (fun _ => True) (fun _ => Mo.tt) (fun _ => Ow.emp) := by
 refine Zo Tryz.func76 Tryz.ntmps76 fun c => ?_
 unfold Sh.slices_EqualFunc_shelf_Stack_shelf_Stack_shelf_Shelf_shelf_Shelf at hS
 refine Zq (Zr ?_)
 refine Zy ?_
 refine Zq (Zq (Zr ?_))
 refine Zm ?_
 refine Zu (q_lnm ShelfShelf.pl (s := s1_0) Tryz.underlying33 rfl) ?_
 refine Zm ?_
 refine Zu (q_lnm ShelfShelf.pl (s := s2_1) Tryz.underlying33 rfl) ?_
 refine Zu (q_neq rfl rfl) ?_
 refine Zl ?_
 refine Zcn hS (fun h14 hS => ?_) (fun h14 hS => ?_)
 ·
  refine Zq (Zr ?_)
  refine Zy ?_
  cases hS
  exact Ze
 refine Zk ?_
 refine Zq (Zq (Zr ?_))
 refine Zm ?_
 refine Zu (q_lnm ShelfShelf.pl (s := s1_0) Tryz.underlying33 rfl) ?_
 refine Zy ?_
 refine VC.keep (ρ' := [(1, s2_1.val), (2, .func (.func 77) #[] #[]), (15, s1_0.val), (16, i64 ((s1_0.l.map ShelfShelf.pl).length : Int)), (17, i64 0)]) [1, 2, 15, 16, 17] rfl ?_
 refine Zb ?_
 refine VC.iter (S := Int) (fun (x17_1 : Int) => x17_1) (fun (x17_1 : Int) => [(1, s2_1.val), (2, .func (.func 77) #[] #[]), (15, s1_0.val), (16, i64 ((s1_0.l.map ShelfShelf.pl).length : Int)), (17, i64 x17_1)]) (fun (x17_1 : Int) => Mo.tt) (fun (x17_1 : Int) => Ow.emp) 0 [1, 2, 15, 16, 17] hS rfl ?_
 clear hS
 rintro x17_1 m1 y1 hS hK1
 refine Zq (Zr ?_)
 refine Zu (q_lss rfl rfl) ?_
 refine Zl ?_
 refine Zq ?_
 refine Zc hS (fun h18 hS => ?_) (fun h18 hS => ?_)
 ·
  refine Zk ?_
  refine Zq (Zb (Zq (Zr ?_)))
  refine Zm ?_
  obtain ⟨z20_2, nz20_2, hz20_2, hS⟩ := atm_s hS
  refine VL.deep z20_2.m hz20_2 (fun _ q => q) ?_
  refine Zu (q_ixm (s := s1_0) Tryz.underlying33 gsz154 rfl rfl nz20_2 (lt_of_get nz20_2 hz20_2)) ?_
  refine Zu (q_els (s := s1_0) gagg154 rfl rfl hz20_2) ?_
  refine VL.alloc (cs := [i64 0, .slice none 0 0, .slice none 0 0, str []]) (by kernel_rfl) (by decide) fun b8_3 => ?_
  refine Za ?_
  refine Zv (vc := [i64 z20_2.base, z20_2.index.val, z20_2.work.val, str z20_2.text]) (cs' := [i64 z20_2.base, z20_2.index.val, z20_2.work.val, str z20_2.text]) rfl gsz154 ?_
  refine Zl ?_
  refine Zq (Zr ?_)
  refine Zy ?_
  obtain ⟨z24_4, nz24_4, hz24_4, hS⟩ := atm_s hS
  refine VL.deep z24_4.m hz24_4 (fun _ q => q) ?_
  refine Zu (q_ixm (s := s2_1) Tryz.underlying33 gsz154 rfl rfl nz24_4 (lt_of_get nz24_4 hz24_4)) ?_
  refine Zu (q_els (s := s2_1) gagg154 rfl rfl hz24_4) ?_
  refine VL.alloc (cs := [i64 0, .slice none 0 0, .slice none 0 0, str []]) (by kernel_rfl) (by decide) fun b9_5 => ?_
  refine Zv (vc := [i64 z24_4.base, z24_4.index.val, z24_4.work.val, str z24_4.text]) (cs' := [i64 z24_4.base, z24_4.index.val, z24_4.work.val, str z24_4.text]) rfl gsz154 ?_
  refine Zl ?_
  refine VC.keep (ρ' := [(1, s2_1.val), (2, .func (.func 77) #[] #[]), (15, s1_0.val), (16, i64 ((s1_0.l.map ShelfShelf.pl).length : Int)), (17, i64 x17_1), (8, ptr b8_3 0), (9, ptr b9_5 0)]) [1, 2, 15, 16, 17, 8, 9] rfl ?_
  refine Zq (Zr ?_)
  refine Zm ?_
  refine Zu (q_fes gagg154 rfl rfl) ?_
  refine Zu (q_fes gagg154 rfl rfl) ?_
  obtain ⟨y29_6, ey29_6, hS⟩ := bd_s hS
  refine Zu (q_callV (shelf_Stack_Same_1_ct z20_2 z24_4 ey29_6) rfl rfl (fun _ _ => rfl)) ?_
  refine Zu (q_not rfl) ?_
  refine Zl ?_
  refine Zcb hS (fun h30 hS => ?_) (fun h30 hS => ?_)
  ·
   refine Zq (Zr ?_)
   refine Zy ?_
   refine VC.keep (ρ' := [(6, .bool false)]) [6] rfl ?_
   replace hS := up2 hS hK1
   cases hS
   exact Ze
  refine Zk ?_
  refine VC.keep (ρ' := [(1, s2_1.val), (2, .func (.func 77) #[] #[]), (15, s1_0.val), (16, i64 ((s1_0.l.map ShelfShelf.pl).length : Int)), (17, i64 x17_1)]) [1, 2, 15, 16, 17] rfl ?_
  refine Zr ?_
  obtain ⟨b31, hS⟩ := gd_s hS
  refine Zu (q_add rfl rfl b31) ?_
  refine Zm ?_
  refine VL.rnd (x17_1 + 1) [1, 2, 15, 16, 17] (fun _ _ h => h) (go2 hS hK1) rfl
 replace hS := up2 hS hK1
 refine Zx ?_
 refine Zq (Zr ?_)
 refine Zy ?_
 cases hS
 exact Ze
theorem shelf_Stack_Same_ct (s_0 : Sv ShelfShelf) (t_1 : Sv ShelfShelf) {r : Bool} (hS : Sh.shelf_Stack_Same (s_0.l.map ShelfShelf.pl) (t_1.l.map ShelfShelf.pl) = some r) :
 Ct Tryz.prog 41 [s_0.val, t_1.val] (s_0.ok.and t_1.ok) (Ow.emp) (X := Unit) (fun _ => .bool r) (fun _ => True) (fun _ => Mo.tt) (fun _ => Ow.emp) := by
 refine Zo Tryz.func41 Tryz.ntmps41 fun c => ?_
 unfold Sh.shelf_Stack_Same at hS
 refine Zq (Zr ?_)
 refine Zy ?_
 refine Zq (Zr ?_)
 refine Zy ?_
 obtain ⟨y7_1, ey7_1, hS⟩ := bd_s hS
 refine Zu (q_call (slices_EqualFunc_shelf_Stack_shelf_Stack_shelf_Shelf_shelf_Shelf_ct s_0 t_1 ey7_1) rfl (fun _ _ => rfl)) ?_
 refine Zy ?_
 cases hS
 exact Ze
end Go.Proofs.YtdfbpkpldjpioaaGreatDoor
end
