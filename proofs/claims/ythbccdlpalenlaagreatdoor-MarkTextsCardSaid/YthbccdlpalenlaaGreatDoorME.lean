/- Part of the proofs of: the laws MarkTexts and StateBytes: any text as a Now that has that very text, or an error; any bytes as a state, or an error (any text, any bytes) -/
import Derived.Test.YthbccdlpalenlaaGreatDoorMD
set_option linter.unusedVariables false
set_option linter.unusedSimpArgs false
set_option linter.unusedSectionVars false
section
set_option linter.unusedVariables false
namespace Go.Proofs.YthbccdlpalenlaaGreatDoor
set_option maxHeartbeats 4000000
set_option maxRecDepth 100000
set_option synthInstance.maxSize 2000
set_option synthInstance.maxHeartbeats 1000000
open Go.RowKit Go.V
open Go.S hiding Str
theorem state_Weight_ct (s_0 : StateState) {r : Int × Err} (hS : Sh.state_Weight s_0.pl = some r) :
 Ct Tryz.prog 33 [.agg (zStateState s_0).toArray] (s_0.now_work.ok.and (s_0.now_index.ok.and (s_0.now_refs.ok.and (s_0.now_seq_doing.ok.and (s_0.now_seq_todo.ok.and (s_0.now_seq_index.ok.and (s_0.now_seq_work.ok.and (s_0.now_stash.ok.and (s_0.commits.ok.and (s_0.log_back.ok.and s_0.log_forth.ok)))))))))) (Ow.emp) (X := Int × Er) (fun x => .tuple #[i64 x.1, x.2.val]) (fun x => r = (x.1, x.2.pl)) (fun x => x.2.ok) (fun x => Ow.emp) := by
 refine Zo Tryz.func33 Tryz.ntmps33 fun c => ?_
 unfold Sh.state_Weight at hS
 refine Zq (Zr ?_)
 refine VL.box (cs := (zStateState s_0)) rfl rfl (by decide) fun b1_1 => ?_
 refine Zy ?_
 refine Zq (Zr ?_)
 refine VL.alloc (cs := [i64 0]) (by kernel_rfl) (by decide) fun b4_2 => ?_
 refine Zl ?_
 refine Zq (Zr ?_)
 refine Zu (q_field gfa93_0 rfl) ?_
 refine Zu (q_fep (j := 0) (n := 17) gagg61 rfl rfl rfl) ?_
 obtain ⟨y13_3, ey13_3, hS⟩ := bd_s hS
 refine VL.callO (state_scale_now_ct b4_2 (⟨0⟩ : StateScale) (⟨s_0.now_work, s_0.now_index, s_0.now_refs, s_0.now_head_branch, s_0.now_head_commit, s_0.now_seq_kind, s_0.now_seq_other, s_0.now_seq_text, s_0.now_seq_doing, s_0.now_seq_todo, s_0.now_seq_made, s_0.now_seq_branch, s_0.now_seq_head_branch, s_0.now_seq_head_commit, s_0.now_seq_index, s_0.now_seq_work, s_0.now_stash⟩ : StateNow) ey13_3) rfl (by decide) ?_
 rintro _ rfl
 try dsimp only
 refine Zl ?_
 refine Zq (Zq (Zr ?_))
 refine Zu (q_field gfa93_1 rfl) ?_
 refine Zu (q_fe gone68 rfl rfl) ?_
 refine Zu (q_lnm StateCommit.pl (s := s_0.commits) Tryz.underlying68 rfl) ?_
 refine Zy ?_
 refine VC.keep (ρ' := [(1, ptr b1_1 0), (4, ptr b4_2 0), (15, s_0.commits.val), (16, i64 ((s_0.commits.l.map StateCommit.pl).length : Int)), (17, i64 0)]) [1, 4, 15, 16, 17] rfl ?_
 refine Zb ?_
 refine VC.iter (S := Int × Int) (fun sg => (sg.1, sg.2)) (fun sg => [(1, ptr b1_1 0), (4, ptr b4_2 0), (15, s_0.commits.val), (16, i64 ((s_0.commits.l.map StateCommit.pl).length : Int)), (17, i64 sg.1)]) (fun sg => Mo.tt) (fun sg => Ow.star (Blk b4_2 [i64 sg.2] 176) (Ow.star (Blk b1_1 (zStateState s_0) 93) (Ow.emp))) (0, y13_3.n) [1, 4, 15, 16, 17] hS rfl ?_
 clear hS
 rintro ⟨x17_4, c0_5⟩ m1 y1 hS hK1
 refine Zq (Zr ?_)
 refine Zu (q_lss rfl rfl) ?_
 refine Zl ?_
 refine Zq ?_
 refine Zc hS (fun h18 hS => ?_) (fun h18 hS => ?_)
 ·
  refine Zk ?_
  refine Zq (Zb (Zq (Zr ?_)))
  obtain ⟨z19_6, nz19_6, hz19_6, hS⟩ := atm_s hS
  refine VL.deep z19_6.m hz19_6 (fun _ q => q) ?_
  refine Zu (q_ixm (s := s_0.commits) Tryz.underlying68 gsz110 rfl rfl nz19_6 (lt_of_get nz19_6 hz19_6)) ?_
  refine Zu (q_els (s := s_0.commits) gagg110 rfl rfl hz19_6) ?_
  refine VL.alloc (cs := [.slice none 0 0, .slice none 0 0, i64 0, str []]) (by kernel_rfl) (by decide) fun b6_7 => ?_
  refine Zv (vc := [z19_6.tree.val, z19_6.parents.val, i64 z19_6.time, str z19_6.text]) (cs' := [z19_6.tree.val, z19_6.parents.val, i64 z19_6.time, str z19_6.text]) rfl gsz110 ?_
  refine Zl ?_
  refine Zq (Zr ?_)
  refine Zu (q_field gfa110_3 rfl) ?_
  refine Zu (q_fe gone9 rfl rfl) ?_
  refine VL.lit (α := Str) (xs := [.tmp 22]) (vs := [str z19_6.text]) [z19_6.text] Tryz.underlying89 glit9 (by decide) rfl rfl rfl rfl (by decide) (fun _ _ _ _ => trivial) (by decide) (fun s23_8 hs23_8 => ?_) (by decide)
  replace hS := lt_to hs23_8 hS
  obtain ⟨y24_10, ey24_10, hS⟩ := bd_s hS
  refine VL.callO (state_scale_thing_ct b4_2 (⟨c0_5⟩ : StateScale) s23_8 ey24_10) rfl (by decide) ?_
  rintro _ rfl
  try dsimp only
  refine Zl ?_
  refine VC.keep (ρ' := [(1, ptr b1_1 0), (4, ptr b4_2 0), (15, s_0.commits.val), (16, i64 ((s_0.commits.l.map StateCommit.pl).length : Int)), (17, i64 x17_4), (6, ptr b6_7 0)]) [1, 4, 15, 16, 17, 6] rfl ?_
  refine Zr ?_
  refine Zu (q_field gfa110_0 rfl) ?_
  refine Zu (q_fe gone50 rfl rfl) ?_
  obtain ⟨y27_11, ey27_11, hS⟩ := bd_s hS
  refine VL.callO (state_scale_row_ct b4_2 y24_10 z19_6.tree ey27_11) rfl (by decide) ?_
  rintro _ rfl
  try dsimp only
  refine Zl ?_
  refine Zr ?_
  obtain ⟨b28, hS⟩ := gd_s hS
  refine Zu (q_add rfl rfl b28) ?_
  refine Zm ?_
  refine VL.rnd ((x17_4 + 1), y27_11.n) [1, 4, 15, 16, 17] (fun _ _ h => h) (go2 hS hK1) rfl
 replace hS := up2 hS hK1
 refine Zx ?_
 refine Zq (Zq (Zr ?_))
 refine Zu (q_field gfa93_2 rfl) ?_
 refine Zu (q_field gfa91_0 rfl) ?_
 refine Zu (q_fe gone89 rfl rfl) ?_
 refine Zu (q_field gfa93_2 rfl) ?_
 refine Zu (q_field gfa91_1 rfl) ?_
 refine Zu (q_fe gone89 rfl rfl) ?_
 refine VL.lit (α := Sv Str) (xs := [.tmp 31, .tmp 34]) (vs := [s_0.log_back.val, s_0.log_forth.val]) [s_0.log_back, s_0.log_forth] Tryz.underlying279 glit89 (by decide) rfl rfl rfl rfl (by decide) (fun h m => List.forall_mem_cons.2 ⟨InM.out (X := s_0.log_back.ok) h m, List.forall_mem_cons.2 ⟨InM.out (X := s_0.log_forth.ok) h m, fun _ h => by cases h⟩⟩) (by decide) (fun s35_12 hs35_12 => ?_) (by decide)
 replace hS := lt_to (congrArg (List.map Sv.l) hs35_12) hS
 obtain ⟨y36_14, ey36_14, hS⟩ := bd_s hS
 refine VL.callO (slices_Concat_string_string_ct s35_12 ey36_14) rfl (by decide) ?_
 rintro q36_14_0 rfl
 try dsimp only
 refine Zu (q_ln (s := q36_14_0) Tryz.underlying89 rfl) ?_
 refine Zy ?_
 refine VC.keep (ρ' := [(4, ptr b4_2 0), (36, q36_14_0.val), (37, i64 (q36_14_0.l.length : Int)), (38, i64 0)]) [4, 36, 37, 38] rfl ?_
 refine Zb ?_
 refine VC.iter (S := Int × Int) (fun sg => (sg.1, sg.2)) (fun sg => [(4, ptr b4_2 0), (36, q36_14_0.val), (37, i64 (q36_14_0.l.length : Int)), (38, i64 sg.1)]) (fun sg => Mo.tt) (fun sg => Ow.star (Blk b4_2 [i64 sg.2] 176) (Ow.star (Blk b1_1 (zStateState s_0) 93) (Ow.star (Sv.own q36_14_0 9) (Ow.emp)))) (0, c0_5) [4, 36, 37, 38] hS rfl ?_
 clear hS
 rintro ⟨x38_15, c0_16⟩ m1 y1 hS hK1
 refine Zq (Zr ?_)
 refine Zu (q_lss rfl rfl) ?_
 refine Zl ?_
 refine Zq ?_
 refine Zc hS (fun h39 hS => ?_) (fun h39 hS => ?_)
 ·
  refine Zk ?_
  refine Zq (Zb (Zq (Zr ?_)))
  obtain ⟨z40_17, nz40_17, hz40_17, hS⟩ := at_s hS
  refine Zu (q_ixo (s := q36_14_0) Tryz.underlying89 gsz9 rfl rfl nz40_17 (lt_of_get nz40_17 hz40_17)) ?_
  refine Zu (q_elo (s := q36_14_0) 9 gone9 rfl hz40_17 rfl) ?_
  refine Zy ?_
  refine Zq (Zr ?_)
  refine Zm ?_
  obtain ⟨y44_18, ey44_18, hS⟩ := bd_s hS
  refine VL.callF (state_Unmark_ct z40_17 ey44_18) rfl (by decide) ?_
  rintro ⟨q44_18_0, q44_18_1⟩ rfl
  try dsimp only
  refine Zm ?_
  refine Zu (q_extract rfl rfl) ?_
  refine Zu (q_extract rfl rfl) ?_
  refine VL.alloc (cs := [.slice none 0 0, .slice none 0 0, .slice none 0 0, str [], i64 0, str [], i64 0, str [], .slice none 0 0, .slice none 0 0, i64 0, str [], str [], i64 0, .slice none 0 0, .slice none 0 0, .slice none 0 0]) (by kernel_rfl) (by decide) fun b9_19 => ?_
  refine Zv (vc := (zStateNow q44_18_0)) (cs' := (zStateNow q44_18_0)) rfl gsz61 ?_
  refine Zy ?_
  refine VC.keep (ρ' := [(4, ptr b4_2 0), (36, q36_14_0.val), (37, i64 (q36_14_0.l.length : Int)), (38, i64 x38_15), (9, ptr b9_19 0), (10, q44_18_1.val)]) [4, 36, 37, 38, 9, 10] rfl ?_
  refine Zq (Zq (Zr ?_))
  refine Zm ?_
  refine Zu (q_erne Tryz.underlying26 rfl) ?_
  refine Zl ?_
  refine Zcn hS (fun h48 hS => ?_) (fun h48 hS => ?_)
  ·
   refine Zq (Zr ?_)
   refine Zy ?_
   refine VC.keep (ρ' := [(2, i64 0), (3, q44_18_1.val)]) [2, 3] rfl ?_
   replace hS := up2 hS hK1
   cases hS
   exact VC.ret (fin2 (.inr rfl) rfl rfl rfl (0, q44_18_1) rfl rfl (by (try dsimp only); exact InM.out) (fun _ _ => trivial))
  refine Zk ?_
  refine Zq (Zr ?_)
  obtain ⟨y50_20, ey50_20, hS⟩ := bd_s hS
  refine VL.callO (state_scale_thing_ct b4_2 (⟨c0_16⟩ : StateScale) ⟨none, 0, []⟩ ey50_20) rfl (by decide) ?_
  rintro _ rfl
  try dsimp only
  refine Zl ?_
  refine Zr ?_
  refine Zu (q_fes gagg61 rfl rfl) ?_
  obtain ⟨y52_21, ey52_21, hS⟩ := bd_s hS
  refine VL.callO (state_scale_now_ct b4_2 y50_20 q44_18_0 ey52_21) rfl (by decide) ?_
  rintro _ rfl
  try dsimp only
  refine Zl ?_
  refine VC.keep (ρ' := [(4, ptr b4_2 0), (36, q36_14_0.val), (37, i64 (q36_14_0.l.length : Int)), (38, i64 x38_15)]) [4, 36, 37, 38] rfl ?_
  refine Zr ?_
  obtain ⟨b53, hS⟩ := gd_s hS
  refine Zu (q_add rfl rfl b53) ?_
  refine Zm ?_
  refine VL.rnd ((x38_15 + 1), y52_21.n) [4, 36, 37, 38] (fun _ _ h => h) (go2 hS hK1) rfl
 replace hS := up2 hS hK1
 refine Zx ?_
 refine Zq (Zr ?_)
 refine Zu (q_field gfa176_0 rfl) ?_
 refine Zu (q_fe gone3 rfl rfl) ?_
 refine Zy ?_
 cases hS
 exact VC.ret (fin2 (.inr rfl) rfl rfl rfl (c0_16, .nil) rfl rfl (by (try dsimp only); exact InM.out) (fun _ _ => trivial))
theorem slices_Equal_files_Row_files_File_ct (s1_0 : Sv FilesFile) (s2_1 : Sv FilesFile) {r : Bool} (hS : Sh.slices_Equal_files_Row_files_File s1_0.l s2_1.l = some r) :
 Ct Tryz.prog 205 [s1_0.val, s2_1.val] (s1_0.ok.and s2_1.ok) (Ow.emp) (X := Unit) (fun _ => .bool r) (fun _ => True) (fun _ => Mo.tt) (fun _ => Ow.emp) := by
 refine Zo Tryz.func205 Tryz.ntmps205 fun c => ?_
 unfold Sh.slices_Equal_files_Row_files_File at hS
 refine Zq (Zr ?_)
 refine Zy ?_
 refine Zq (Zq (Zr ?_))
 refine Zm ?_
 refine Zu (q_ln (s := s1_0) Tryz.underlying50 rfl) ?_
 refine Zm ?_
 refine Zu (q_ln (s := s2_1) Tryz.underlying50 rfl) ?_
 refine Zu (q_neq rfl rfl) ?_
 refine Zl ?_
 refine Zcn hS (fun h10 hS => ?_) (fun h10 hS => ?_)
 ·
  refine Zq (Zr ?_)
  refine Zy ?_
  cases hS
  exact Ze
 refine Zk ?_
 refine Zq (Zq (Zr ?_))
 refine Zm ?_
 refine Zu (q_ln (s := s1_0) Tryz.underlying50 rfl) ?_
 refine Zy ?_
 refine VC.keep (ρ' := [(0, s1_0.val), (1, s2_1.val), (12, i64 (s1_0.l.length : Int)), (13, i64 0)]) [0, 1, 12, 13] rfl ?_
 refine Zb ?_
 refine VC.iter (S := Int) (fun (x13_1 : Int) => x13_1) (fun (x13_1 : Int) => [(0, s1_0.val), (1, s2_1.val), (12, i64 (s1_0.l.length : Int)), (13, i64 x13_1)]) (fun (x13_1 : Int) => Mo.tt) (fun (x13_1 : Int) => Ow.emp) 0 [0, 1, 12, 13] hS rfl ?_
 clear hS
 rintro x13_1 m1 y1 hS hK1
 refine Zq (Zr ?_)
 refine Zu (q_lss rfl rfl) ?_
 refine Zl ?_
 refine Zq ?_
 refine Zc hS (fun h14 hS => ?_) (fun h14 hS => ?_)
 ·
  refine Zk ?_
  refine Zq (Zb (Zq (Zr ?_)))
  refine Zy ?_
  refine Zq ?_
  refine VC.draw ((List.range 9).map fun k => (k, true)) mixed (by kernel_rfl) (by kernel_rfl) (by kernel_rfl) ?_
  refine Zw rfl (q_move rfl) ?_
  refine Zw rfl (q_move rfl) ?_
  obtain ⟨z18_2, nz18_2, hz18_2, hS⟩ := at_s hS
  refine Zw rfl (q_ixm (s := s1_0) Tryz.underlying50 gsz185 rfl rfl nz18_2 (lt_of_get nz18_2 hz18_2)) ?_
  refine Zw rfl (q_els (s := s1_0) gagg185 rfl rfl hz18_2) ?_
  refine Zw rfl (q_move rfl) ?_
  refine Zw rfl (q_move rfl) ?_
  obtain ⟨z22_3, nz22_3, hz22_3, hS⟩ := at_s hS
  refine Zw rfl (q_ixm (s := s2_1) Tryz.underlying50 gsz185 rfl rfl nz22_3 (lt_of_get nz22_3 hz22_3)) ?_
  refine Zw rfl (q_els (s := s2_1) gagg185 rfl rfl hz22_3) ?_
  refine Zw rfl (q_stneq geqg185 (geqs185 z18_2.path z18_2.mode z18_2.data z22_3.path z22_3.mode z22_3.data) rfl rfl) ?_
  refine VD.to (fun _ _ h => h) ?_
  refine VC.keep (ρ' := [(0, s1_0.val), (1, s2_1.val), (12, i64 (s1_0.l.length : Int)), (13, i64 x13_1), (24, .bool (!decide (z18_2.path = z22_3.path ∧ z18_2.mode = z22_3.mode ∧ z18_2.data = z22_3.data)))]) [0, 1, 12, 13, 24] rfl ?_
  refine Zcn hS (fun h24 hS => ?_) (fun h24 hS => ?_)
  ·
   refine Zq (Zr ?_)
   refine Zy ?_
   replace hS := up2 hS hK1
   cases hS
   exact Ze
  refine Zk ?_
  refine Zr ?_
  obtain ⟨b25, hS⟩ := gd_s hS
  refine Zu (q_add rfl rfl b25) ?_
  refine Zm ?_
  refine VL.rnd (x13_1 + 1) [0, 1, 12, 13] (fun _ _ h => h) (go2 hS hK1) rfl
 replace hS := up2 hS hK1
 refine Zx ?_
 refine Zq (Zr ?_)
 refine Zy ?_
 cases hS
 exact Ze
theorem files_Row_Same_ct (r_0 : Sv FilesFile) (q_1 : Sv FilesFile) {r : Bool} (hS : Sh.files_Row_Same r_0.l q_1.l = some r) :
 Ct Tryz.prog 156 [r_0.val, q_1.val] (r_0.ok.and q_1.ok) (Ow.emp) (X := Unit) (fun _ => .bool r) (fun _ => True) (fun _ => Mo.tt) (fun _ => Ow.emp) := by
 refine Zo Tryz.func156 Tryz.ntmps156 fun c => ?_
 unfold Sh.files_Row_Same at hS
 refine Zq (Zr ?_)
 refine Zy ?_
 refine Zq (Zr ?_)
 refine Zy ?_
 obtain ⟨y7_1, ey7_1, hS⟩ := bd_s hS
 refine Zu (q_call (slices_Equal_files_Row_files_File_ct r_0 q_1 ey7_1) rfl (fun _ _ => rfl)) ?_
 refine Zy ?_
 cases hS
 exact Ze
theorem index_Same_1_ct (x_0 : IndexEntry) (y_1 : IndexEntry) {r : Bool} (hS : Sh.index_Same_1 x_0 y_1 = some r) :
 Ct Tryz.prog 207 [.agg #[str x_0.path, i64 x_0.stage, i64 x_0.mode, str x_0.data, i64 x_0.time, i64 x_0.size], .agg #[str y_1.path, i64 y_1.stage, i64 y_1.mode, str y_1.data, i64 y_1.time, i64 y_1.size]] Mo.tt (Ow.emp) (X := Unit) (fun _ => .bool r) (fun _ => True) (fun _ => Mo.tt) (fun _ => Ow.emp) := by
 refine Zo Tryz.func207 Tryz.ntmps207 fun c => ?_
 unfold Sh.index_Same_1 at hS
 refine Zq (Zr ?_)
 refine VL.box (cs := [str x_0.path, i64 x_0.stage, i64 x_0.mode, str x_0.data, i64 x_0.time, i64 x_0.size]) rfl rfl (by decide) fun b2_1 => ?_
 refine VL.box (cs := [str y_1.path, i64 y_1.stage, i64 y_1.mode, str y_1.data, i64 y_1.time, i64 y_1.size]) rfl rfl (by decide) fun b3_2 => ?_
 refine Zy ?_
 refine Zq (Zr ?_)
 refine Zu (q_field gfa218_0 rfl) ?_
 refine Zu (q_fe gone9 rfl rfl) ?_
 refine Zu (q_field gfa218_0 rfl) ?_
 refine Zu (q_fe gone9 rfl rfl) ?_
 refine Zy ?_
 refine Zsp 10 hS (fun h10 hS => ?_) (fun h10 hS => ?_)
 ·
  refine Zh (q_field gfa218_1 rfl) ?_
  refine Zh (q_fe gone3 rfl rfl) ?_
  refine Zh (q_field gfa218_1 rfl) ?_
  refine Zh (q_fe gone3 rfl rfl) ?_
  refine Zh (q_eql rfl rfl) ?_
  refine Zy ?_
  refine Zsp 17 hS (fun h17 hS => ?_) (fun h17 hS => ?_)
  ·
   refine Zh (q_field gfa218_2 rfl) ?_
   refine Zh (q_fe gone3 rfl rfl) ?_
   refine Zh (q_field gfa218_2 rfl) ?_
   refine Zh (q_fe gone3 rfl rfl) ?_
   refine Zh (q_eql rfl rfl) ?_
   refine Zy ?_
   refine Zsp 24 hS (fun h24 hS => ?_) (fun h24 hS => ?_)
   ·
    refine Zh (q_field gfa218_3 rfl) ?_
    refine Zh (q_fe gone9 rfl rfl) ?_
    refine Zh (q_field gfa218_3 rfl) ?_
    refine Zh (q_fe gone9 rfl rfl) ?_
    refine Zh (q_seq rfl rfl) ?_
    refine Zy ?_
    refine VC.keep (ρ' := [(4, .bool (decide (x_0.data = y_1.data)))]) [4] rfl ?_
    cases hS
    exact Ze
   refine VL.runs 7 [(4, some false)] (by kernel_rfl) ?_
   refine Zl ?_
   refine VC.keep (ρ' := [(4, .bool false)]) [4] rfl ?_
   cases hS
   exact Ze
  refine VL.runs 14 [(4, some false)] (by kernel_rfl) ?_
  refine Zl ?_
  refine VC.keep (ρ' := [(4, .bool false)]) [4] rfl ?_
  cases hS
  exact Ze
 refine VL.runs 21 [(4, some false)] (by kernel_rfl) ?_
 refine Zl ?_
 refine VC.keep (ρ' := [(4, .bool false)]) [4] rfl ?_
 cases hS
 exact Ze
theorem slices_EqualFunc_index_Entry_index_Entry_index_Entry_index_Entry_ct (s1_0 : Sv IndexEntry) (s2_1 : Sv IndexEntry) {r : Bool} (hS : Sh.slices_EqualFunc_index_Entry_index_Entry_index_Entry_index_Entry s1_0.l s2_1.l = some r) :
 Ct Tryz.prog 206 [s1_0.val, s2_1.val, .func (.func 207) #[] #[]] (s1_0.ok.and s2_1.ok) (Ow.emp) (X := Unit) (fun _ => .bool r) (fun _ => True) (fun _ => Mo.tt) (fun _ => Ow.emp) := by
 refine Zo Tryz.func206 Tryz.ntmps206 fun c => ?_
 unfold Sh.slices_EqualFunc_index_Entry_index_Entry_index_Entry_index_Entry at hS
 refine Zq (Zr ?_)
 refine Zy ?_
 refine Zq (Zq (Zr ?_))
 refine Zm ?_
 refine Zu (q_ln (s := s1_0) Tryz.underlying51 rfl) ?_
 refine Zm ?_
 refine Zu (q_ln (s := s2_1) Tryz.underlying51 rfl) ?_
 refine Zu (q_neq rfl rfl) ?_
 refine Zl ?_
 refine Zcn hS (fun h14 hS => ?_) (fun h14 hS => ?_)
 ·
  refine Zq (Zr ?_)
  refine Zy ?_
  cases hS
  exact Ze
 refine Zk ?_
 refine Zq (Zq (Zr ?_))
 refine Zm ?_
 refine Zu (q_ln (s := s1_0) Tryz.underlying51 rfl) ?_
 refine Zy ?_
 refine VC.keep (ρ' := [(1, s2_1.val), (2, .func (.func 207) #[] #[]), (15, s1_0.val), (16, i64 (s1_0.l.length : Int)), (17, i64 0)]) [1, 2, 15, 16, 17] rfl ?_
 refine Zb ?_
 refine VC.iter (S := Int) (fun (x17_1 : Int) => x17_1) (fun (x17_1 : Int) => [(1, s2_1.val), (2, .func (.func 207) #[] #[]), (15, s1_0.val), (16, i64 (s1_0.l.length : Int)), (17, i64 x17_1)]) (fun (x17_1 : Int) => Mo.tt) (fun (x17_1 : Int) => Ow.emp) 0 [1, 2, 15, 16, 17] hS rfl ?_
 clear hS
 rintro x17_1 m1 y1 hS hK1
 refine Zq (Zr ?_)
 refine Zu (q_lss rfl rfl) ?_
 refine Zl ?_
 refine Zq ?_
 refine Zc hS (fun h18 hS => ?_) (fun h18 hS => ?_)
 ·
  refine Zk ?_
  refine Zq (Zb (Zq (Zr ?_)))
  refine Zm ?_
  obtain ⟨z20_2, nz20_2, hz20_2, hS⟩ := at_s hS
  refine Zu (q_ixm (s := s1_0) Tryz.underlying51 gsz218 rfl rfl nz20_2 (lt_of_get nz20_2 hz20_2)) ?_
  refine Zu (q_els (s := s1_0) gagg218 rfl rfl hz20_2) ?_
  refine VL.alloc (cs := [str [], i64 0, i64 0, str [], i64 0, i64 0]) (by kernel_rfl) (by decide) fun b8_3 => ?_
  refine Za ?_
  refine Zv (vc := [str z20_2.path, i64 z20_2.stage, i64 z20_2.mode, str z20_2.data, i64 z20_2.time, i64 z20_2.size]) (cs' := [str z20_2.path, i64 z20_2.stage, i64 z20_2.mode, str z20_2.data, i64 z20_2.time, i64 z20_2.size]) rfl gsz218 ?_
  refine Zl ?_
  refine Zq (Zr ?_)
  refine Zy ?_
  obtain ⟨z24_4, nz24_4, hz24_4, hS⟩ := at_s hS
  refine Zu (q_ixm (s := s2_1) Tryz.underlying51 gsz218 rfl rfl nz24_4 (lt_of_get nz24_4 hz24_4)) ?_
  refine Zu (q_els (s := s2_1) gagg218 rfl rfl hz24_4) ?_
  refine VL.alloc (cs := [str [], i64 0, i64 0, str [], i64 0, i64 0]) (by kernel_rfl) (by decide) fun b9_5 => ?_
  refine Zv (vc := [str z24_4.path, i64 z24_4.stage, i64 z24_4.mode, str z24_4.data, i64 z24_4.time, i64 z24_4.size]) (cs' := [str z24_4.path, i64 z24_4.stage, i64 z24_4.mode, str z24_4.data, i64 z24_4.time, i64 z24_4.size]) rfl gsz218 ?_
  refine Zl ?_
  refine VC.keep (ρ' := [(1, s2_1.val), (2, .func (.func 207) #[] #[]), (15, s1_0.val), (16, i64 (s1_0.l.length : Int)), (17, i64 x17_1), (8, ptr b8_3 0), (9, ptr b9_5 0)]) [1, 2, 15, 16, 17, 8, 9] rfl ?_
  refine Zq (Zr ?_)
  refine Zm ?_
  refine Zu (q_fes gagg218 rfl rfl) ?_
  refine Zu (q_fes gagg218 rfl rfl) ?_
  obtain ⟨y29_6, ey29_6, hS⟩ := bd_s hS
  refine Zu (q_callV (index_Same_1_ct z20_2 z24_4 ey29_6) rfl rfl (fun _ _ => rfl)) ?_
  refine Zu (q_not rfl) ?_
  refine Zl ?_
  refine Zcb hS (fun h30 hS => ?_) (fun h30 hS => ?_)
  ·
   refine Zq (Zr ?_)
   refine Zy ?_
   refine VC.keep (ρ' := [(6, .bool false)]) [6] rfl ?_
   replace hS := up2 hS hK1
   cases hS
   exact Ze
  refine Zk ?_
  refine VC.keep (ρ' := [(1, s2_1.val), (2, .func (.func 207) #[] #[]), (15, s1_0.val), (16, i64 (s1_0.l.length : Int)), (17, i64 x17_1)]) [1, 2, 15, 16, 17] rfl ?_
  refine Zr ?_
  obtain ⟨b31, hS⟩ := gd_s hS
  refine Zu (q_add rfl rfl b31) ?_
  refine Zm ?_
  refine VL.rnd (x17_1 + 1) [1, 2, 15, 16, 17] (fun _ _ h => h) (go2 hS hK1) rfl
 replace hS := up2 hS hK1
 refine Zx ?_
 refine Zq (Zr ?_)
 refine Zy ?_
 cases hS
 exact Ze
theorem index_Same_ct (a_0 : Sv IndexEntry) (b_1 : Sv IndexEntry) {r : Bool} (hS : Sh.index_Same a_0.l b_1.l = some r) :
 Ct Tryz.prog 157 [a_0.val, b_1.val] (a_0.ok.and b_1.ok) (Ow.emp) (X := Unit) (fun _ => .bool r) (fun _ => True) (fun _ => Mo.tt) (fun _ => Ow.emp) := by
 refine Zo Tryz.func157 Tryz.ntmps157 fun c => ?_
 unfold Sh.index_Same at hS
 refine Zq (Zr ?_)
 refine Zy ?_
 refine Zq (Zr ?_)
 refine Zy ?_
 obtain ⟨y7_1, ey7_1, hS⟩ := bd_s hS
 refine Zu (q_call (slices_EqualFunc_index_Entry_index_Entry_index_Entry_index_Entry_ct a_0 b_1 ey7_1) rfl (fun _ _ => rfl)) ?_
 refine Zy ?_
 cases hS
 exact Ze
theorem slices_Equal_names_Ref_names_Ref_ct (s1_0 : Sv NamesRef) (s2_1 : Sv NamesRef) {r : Bool} (hS : Sh.slices_Equal_names_Ref_names_Ref s1_0.l s2_1.l = some r) :
 Ct Tryz.prog 158 [s1_0.val, s2_1.val] (s1_0.ok.and s2_1.ok) (Ow.emp) (X := Unit) (fun _ => .bool r) (fun _ => True) (fun _ => Mo.tt) (fun _ => Ow.emp) := by
 refine Zo Tryz.func158 Tryz.ntmps158 fun c => ?_
 unfold Sh.slices_Equal_names_Ref_names_Ref at hS
 refine Zq (Zr ?_)
 refine Zy ?_
 refine Zq (Zq (Zr ?_))
 refine Zm ?_
 refine Zu (q_ln (s := s1_0) Tryz.underlying52 rfl) ?_
 refine Zm ?_
 refine Zu (q_ln (s := s2_1) Tryz.underlying52 rfl) ?_
 refine Zu (q_neq rfl rfl) ?_
 refine Zl ?_
 refine Zcn hS (fun h10 hS => ?_) (fun h10 hS => ?_)
 ·
  refine Zq (Zr ?_)
  refine Zy ?_
  cases hS
  exact Ze
 refine Zk ?_
 refine Zq (Zq (Zr ?_))
 refine Zm ?_
 refine Zu (q_ln (s := s1_0) Tryz.underlying52 rfl) ?_
 refine Zy ?_
 refine VC.keep (ρ' := [(0, s1_0.val), (1, s2_1.val), (12, i64 (s1_0.l.length : Int)), (13, i64 0)]) [0, 1, 12, 13] rfl ?_
 refine Zb ?_
 refine VC.iter (S := Int) (fun (x13_1 : Int) => x13_1) (fun (x13_1 : Int) => [(0, s1_0.val), (1, s2_1.val), (12, i64 (s1_0.l.length : Int)), (13, i64 x13_1)]) (fun (x13_1 : Int) => Mo.tt) (fun (x13_1 : Int) => Ow.emp) 0 [0, 1, 12, 13] hS rfl ?_
 clear hS
 rintro x13_1 m1 y1 hS hK1
 refine Zq (Zr ?_)
 refine Zu (q_lss rfl rfl) ?_
 refine Zl ?_
 refine Zq ?_
 refine Zc hS (fun h14 hS => ?_) (fun h14 hS => ?_)
 ·
  refine Zk ?_
  refine Zq (Zb (Zq (Zr ?_)))
  refine Zy ?_
  refine Zq ?_
  refine VC.draw ((List.range 9).map fun k => (k, true)) mixed (by kernel_rfl) (by kernel_rfl) (by kernel_rfl) ?_
  refine Zw rfl (q_move rfl) ?_
  refine Zw rfl (q_move rfl) ?_
  obtain ⟨z18_2, nz18_2, hz18_2, hS⟩ := at_s hS
  refine Zw rfl (q_ixm (s := s1_0) Tryz.underlying52 gsz216 rfl rfl nz18_2 (lt_of_get nz18_2 hz18_2)) ?_
  refine Zw rfl (q_els (s := s1_0) gagg216 rfl rfl hz18_2) ?_
  refine Zw rfl (q_move rfl) ?_
  refine Zw rfl (q_move rfl) ?_
  obtain ⟨z22_3, nz22_3, hz22_3, hS⟩ := at_s hS
  refine Zw rfl (q_ixm (s := s2_1) Tryz.underlying52 gsz216 rfl rfl nz22_3 (lt_of_get nz22_3 hz22_3)) ?_
  refine Zw rfl (q_els (s := s2_1) gagg216 rfl rfl hz22_3) ?_
  refine Zw rfl (q_stneq geqg216 (geqs216 z18_2.name z18_2.commit z22_3.name z22_3.commit) rfl rfl) ?_
  refine VD.to (fun _ _ h => h) ?_
  refine VC.keep (ρ' := [(0, s1_0.val), (1, s2_1.val), (12, i64 (s1_0.l.length : Int)), (13, i64 x13_1), (24, .bool (!decide (z18_2.name = z22_3.name ∧ z18_2.commit = z22_3.commit)))]) [0, 1, 12, 13, 24] rfl ?_
  refine Zcn hS (fun h24 hS => ?_) (fun h24 hS => ?_)
  ·
   refine Zq (Zr ?_)
   refine Zy ?_
   replace hS := up2 hS hK1
   cases hS
   exact Ze
  refine Zk ?_
  refine Zr ?_
  obtain ⟨b25, hS⟩ := gd_s hS
  refine Zu (q_add rfl rfl b25) ?_
  refine Zm ?_
  refine VL.rnd (x13_1 + 1) [0, 1, 12, 13] (fun _ _ h => h) (go2 hS hK1) rfl
 replace hS := up2 hS hK1
 refine Zx ?_
 refine Zq (Zr ?_)
 refine Zy ?_
 cases hS
 exact Ze
theorem slices_Equal_todo_Step_todo_Step_ct (s1_0 : Sv TodoStep) (s2_1 : Sv TodoStep) {r : Bool} (hS : Sh.slices_Equal_todo_Step_todo_Step s1_0.l s2_1.l = some r) :
 Ct Tryz.prog 208 [s1_0.val, s2_1.val] (s1_0.ok.and s2_1.ok) (Ow.emp) (X := Unit) (fun _ => .bool r) (fun _ => True) (fun _ => Mo.tt) (fun _ => Ow.emp) := by
 refine Zo Tryz.func208 Tryz.ntmps208 fun c => ?_
 unfold Sh.slices_Equal_todo_Step_todo_Step at hS
 refine Zq (Zr ?_)
 refine Zy ?_
 refine Zq (Zq (Zr ?_))
 refine Zm ?_
 refine Zu (q_ln (s := s1_0) Tryz.underlying55 rfl) ?_
 refine Zm ?_
 refine Zu (q_ln (s := s2_1) Tryz.underlying55 rfl) ?_
 refine Zu (q_neq rfl rfl) ?_
 refine Zl ?_
 refine Zcn hS (fun h10 hS => ?_) (fun h10 hS => ?_)
 ·
  refine Zq (Zr ?_)
  refine Zy ?_
  cases hS
  exact Ze
 refine Zk ?_
 refine Zq (Zq (Zr ?_))
 refine Zm ?_
 refine Zu (q_ln (s := s1_0) Tryz.underlying55 rfl) ?_
 refine Zy ?_
 refine VC.keep (ρ' := [(0, s1_0.val), (1, s2_1.val), (12, i64 (s1_0.l.length : Int)), (13, i64 0)]) [0, 1, 12, 13] rfl ?_
 refine Zb ?_
 refine VC.iter (S := Int) (fun (x13_1 : Int) => x13_1) (fun (x13_1 : Int) => [(0, s1_0.val), (1, s2_1.val), (12, i64 (s1_0.l.length : Int)), (13, i64 x13_1)]) (fun (x13_1 : Int) => Mo.tt) (fun (x13_1 : Int) => Ow.emp) 0 [0, 1, 12, 13] hS rfl ?_
 clear hS
 rintro x13_1 m1 y1 hS hK1
 refine Zq (Zr ?_)
 refine Zu (q_lss rfl rfl) ?_
 refine Zl ?_
 refine Zq ?_
 refine Zc hS (fun h14 hS => ?_) (fun h14 hS => ?_)
 ·
  refine Zk ?_
  refine Zq (Zb (Zq (Zr ?_)))
  refine Zy ?_
  refine Zq ?_
  refine VC.draw ((List.range 9).map fun k => (k, true)) mixed (by kernel_rfl) (by kernel_rfl) (by kernel_rfl) ?_
  refine Zw rfl (q_move rfl) ?_
  refine Zw rfl (q_move rfl) ?_
  obtain ⟨z18_2, nz18_2, hz18_2, hS⟩ := at_s hS
  refine Zw rfl (q_ixm (s := s1_0) Tryz.underlying55 gsz278 rfl rfl nz18_2 (lt_of_get nz18_2 hz18_2)) ?_
  refine Zw rfl (q_els (s := s1_0) gagg278 rfl rfl hz18_2) ?_
  refine Zw rfl (q_move rfl) ?_
  refine Zw rfl (q_move rfl) ?_
  obtain ⟨z22_3, nz22_3, hz22_3, hS⟩ := at_s hS
  refine Zw rfl (q_ixm (s := s2_1) Tryz.underlying55 gsz278 rfl rfl nz22_3 (lt_of_get nz22_3 hz22_3)) ?_
  refine Zw rfl (q_els (s := s2_1) gagg278 rfl rfl hz22_3) ?_
  refine Zw rfl (q_stneq geqg278 (geqs278 z18_2.verb z18_2.commit z18_2.text z22_3.verb z22_3.commit z22_3.text) rfl rfl) ?_
  refine VD.to (fun _ _ h => h) ?_
  refine VC.keep (ρ' := [(0, s1_0.val), (1, s2_1.val), (12, i64 (s1_0.l.length : Int)), (13, i64 x13_1), (24, .bool (!decide (z18_2.verb = z22_3.verb ∧ z18_2.commit = z22_3.commit ∧ z18_2.text = z22_3.text)))]) [0, 1, 12, 13, 24] rfl ?_
  refine Zcn hS (fun h24 hS => ?_) (fun h24 hS => ?_)
  ·
   refine Zq (Zr ?_)
   refine Zy ?_
   replace hS := up2 hS hK1
   cases hS
   exact Ze
  refine Zk ?_
  refine Zr ?_
  obtain ⟨b25, hS⟩ := gd_s hS
  refine Zu (q_add rfl rfl b25) ?_
  refine Zm ?_
  refine VL.rnd (x13_1 + 1) [0, 1, 12, 13] (fun _ _ h => h) (go2 hS hK1) rfl
 replace hS := up2 hS hK1
 refine Zx ?_
 refine Zq (Zr ?_)
 refine Zy ?_
 cases hS
 exact Ze
theorem state_sameSeq_ct (a_0 : StateSeq) (b_1 : StateSeq) {r : Bool} (hS : Sh.state_sameSeq a_0.pl b_1.pl = some r) :
 Ct Tryz.prog 159 [.agg (zStateSeq a_0).toArray, .agg (zStateSeq b_1).toArray] (a_0.doing.ok.and (a_0.todo.ok.and (a_0.index.ok.and (a_0.work.ok.and (b_1.doing.ok.and (b_1.todo.ok.and (b_1.index.ok.and b_1.work.ok))))))) (Ow.emp) (X := Unit) (fun _ => .bool r) (fun _ => True) (fun _ => Mo.tt) (fun _ => Ow.emp) := by
 refine Zo Tryz.func159 Tryz.ntmps159 fun c => ?_
 unfold Sh.state_sameSeq at hS
 refine Zq (Zr ?_)
 refine VL.box (cs := (zStateSeq a_0)) rfl rfl (by decide) fun b2_1 => ?_
 refine VL.box (cs := (zStateSeq b_1)) rfl rfl (by decide) fun b3_2 => ?_
 refine Zy ?_
 refine Zq (Zr ?_)
 refine Zu (q_field gfa57_0 rfl) ?_
 refine Zu (q_fe gone9 rfl rfl) ?_
 refine Zu (q_field gfa57_0 rfl) ?_
 refine Zu (q_fe gone9 rfl rfl) ?_
 refine Zy ?_
 refine Zsp 10 hS (fun h10 hS => ?_) (fun h10 hS => ?_)
 ·
  refine Zh (q_field gfa57_1 rfl) ?_
  refine Zh (q_fe gone3 rfl rfl) ?_
  refine Zh (q_field gfa57_1 rfl) ?_
  refine Zh (q_fe gone3 rfl rfl) ?_
  refine Zh (q_eql rfl rfl) ?_
  refine Zy ?_
  refine Zsp 17 hS (fun h17 hS => ?_) (fun h17 hS => ?_)
  ·
   refine Zh (q_field gfa57_2 rfl) ?_
   refine Zh (q_fe gone9 rfl rfl) ?_
   refine Zh (q_field gfa57_2 rfl) ?_
   refine Zh (q_fe gone9 rfl rfl) ?_
   refine Zh (q_seq rfl rfl) ?_
   refine Zy ?_
   refine Zsp 24 hS (fun h24 hS => ?_) (fun h24 hS => ?_)
   ·
    refine Zh (q_field gfa57_3 rfl) ?_
    refine Zh (q_fe gone55 rfl rfl) ?_
    refine Zh (q_field gfa57_3 rfl) ?_
    refine Zh (q_fe gone55 rfl rfl) ?_
    obtain ⟨y29_3, ey29_3, hS⟩ := bd_s hS
    refine Zh (q_call (slices_Equal_todo_Step_todo_Step_ct a_0.doing b_1.doing ey29_3) rfl (fun _ _ => rfl)) ?_
    refine Zy ?_
    refine Zspb 31 hS (fun h31 hS => ?_) (fun h31 hS => ?_)
    ·
     refine Zh (q_field gfa57_4 rfl) ?_
     refine Zh (q_fe gone55 rfl rfl) ?_
     refine Zh (q_field gfa57_4 rfl) ?_
     refine Zh (q_fe gone55 rfl rfl) ?_
     obtain ⟨y36_4, ey36_4, hS⟩ := bd_s hS
     refine Zh (q_call (slices_Equal_todo_Step_todo_Step_ct a_0.todo b_1.todo ey36_4) rfl (fun _ _ => rfl)) ?_
     refine Zy ?_
     refine Zspb 38 hS (fun h38 hS => ?_) (fun h38 hS => ?_)
     ·
      refine Zh (q_field gfa57_5 rfl) ?_
      refine Zh (q_fe gone3 rfl rfl) ?_
      refine Zh (q_field gfa57_5 rfl) ?_
      refine Zh (q_fe gone3 rfl rfl) ?_
      refine Zh (q_eql rfl rfl) ?_
      refine Zy ?_
      refine Zsp 45 hS (fun h45 hS => ?_) (fun h45 hS => ?_)
      ·
       refine Zh (q_field gfa57_6 rfl) ?_
       refine Zh (q_fe gone9 rfl rfl) ?_
       refine Zh (q_field gfa57_6 rfl) ?_
       refine Zh (q_fe gone9 rfl rfl) ?_
       refine Zh (q_seq rfl rfl) ?_
       refine Zy ?_
       refine Zsp 52 hS (fun h52 hS => ?_) (fun h52 hS => ?_)
       ·
        refine Zh (q_field gfa57_7 rfl) ?_
        refine Zh (q_fep (j := 7) (n := 2) gagg54 rfl rfl rfl) ?_
        refine Zh (q_field gfa57_7 rfl) ?_
        refine Zh (q_fep (j := 7) (n := 2) gagg54 rfl rfl rfl) ?_
        refine Zh (q_steql geqg54 (geqs54 a_0.head_branch a_0.head_commit b_1.head_branch b_1.head_commit) rfl rfl) ?_
        refine Zy ?_
        refine Zsp 59 hS (fun h59 hS => ?_) (fun h59 hS => ?_)
        ·
         refine Zh (q_field gfa57_8 rfl) ?_
         refine Zh (q_fe gone51 rfl rfl) ?_
         refine Zh (q_field gfa57_8 rfl) ?_
         refine Zh (q_fe gone51 rfl rfl) ?_
         obtain ⟨y64_5, ey64_5, hS⟩ := bd_s hS
         refine Zh (q_call (index_Same_ct a_0.index b_1.index ey64_5) rfl (fun _ _ => rfl)) ?_
         refine Zy ?_
         refine Zspb 66 hS (fun h66 hS => ?_) (fun h66 hS => ?_)
         ·
          refine Zh (q_field gfa57_9 rfl) ?_
          refine Zh (q_fe gone50 rfl rfl) ?_
          refine Zh (q_field gfa57_9 rfl) ?_
          refine Zh (q_fe gone50 rfl rfl) ?_
          obtain ⟨y71_6, ey71_6, hS⟩ := bd_s hS
          refine Zh (q_call (files_Row_Same_ct a_0.work b_1.work ey71_6) rfl (fun _ _ => rfl)) ?_
          refine Zy ?_
          refine VC.keep (ρ' := [(4, .bool y71_6)]) [4] rfl ?_
          cases hS
          exact Ze
         refine VL.runs 7 [(4, some false)] (by kernel_rfl) ?_
         refine Zl ?_
         refine VC.keep (ρ' := [(4, .bool false)]) [4] rfl ?_
         cases hS
         exact Ze
        refine VL.runs 14 [(4, some false)] (by kernel_rfl) ?_
        refine Zl ?_
        refine VC.keep (ρ' := [(4, .bool false)]) [4] rfl ?_
        cases hS
        exact Ze
       refine VL.runs 21 [(4, some false)] (by kernel_rfl) ?_
       refine Zl ?_
       refine VC.keep (ρ' := [(4, .bool false)]) [4] rfl ?_
       cases hS
       exact Ze
      refine VL.runs 28 [(4, some false)] (by kernel_rfl) ?_
      refine Zl ?_
      refine VC.keep (ρ' := [(4, .bool false)]) [4] rfl ?_
      cases hS
      exact Ze
     refine VL.runs 35 [(4, some false)] (by kernel_rfl) ?_
     refine Zl ?_
     refine VC.keep (ρ' := [(4, .bool false)]) [4] rfl ?_
     cases hS
     exact Ze
    refine VL.runs 42 [(4, some false)] (by kernel_rfl) ?_
    refine Zl ?_
    refine VC.keep (ρ' := [(4, .bool false)]) [4] rfl ?_
    cases hS
    exact Ze
   refine VL.runs 49 [(4, some false)] (by kernel_rfl) ?_
   refine Zl ?_
   refine VC.keep (ρ' := [(4, .bool false)]) [4] rfl ?_
   cases hS
   exact Ze
  refine VL.runs 56 [(4, some false)] (by kernel_rfl) ?_
  refine Zl ?_
  refine VC.keep (ρ' := [(4, .bool false)]) [4] rfl ?_
  cases hS
  exact Ze
 refine VL.runs 63 [(4, some false)] (by kernel_rfl) ?_
 refine Zl ?_
 refine VC.keep (ρ' := [(4, .bool false)]) [4] rfl ?_
 cases hS
 exact Ze
theorem shelf_Stack_Same_1_ct (x_0 : ShelfShelf) (y_1 : ShelfShelf) {r : Bool} (hS : Sh.shelf_Stack_Same_1 x_0.pl y_1.pl = some r) :
 Ct Tryz.prog 210 [.agg #[i64 x_0.base, x_0.index.val, x_0.work.val, str x_0.text], .agg #[i64 y_1.base, y_1.index.val, y_1.work.val, str y_1.text]] (x_0.index.ok.and (x_0.work.ok.and (y_1.index.ok.and y_1.work.ok))) (Ow.emp) (X := Unit) (fun _ => .bool r) (fun _ => True) (fun _ => Mo.tt) (fun _ => Ow.emp) := by
 refine Zo Tryz.func210 Tryz.ntmps210 fun c => ?_
 unfold Sh.shelf_Stack_Same_1 at hS
 refine Zq (Zr ?_)
 refine VL.box (cs := [i64 x_0.base, x_0.index.val, x_0.work.val, str x_0.text]) rfl rfl (by decide) fun b2_1 => ?_
 refine VL.box (cs := [i64 y_1.base, y_1.index.val, y_1.work.val, str y_1.text]) rfl rfl (by decide) fun b3_2 => ?_
 refine Zy ?_
 refine Zq (Zr ?_)
 refine Zu (q_field gfa155_0 rfl) ?_
 refine Zu (q_fe gone3 rfl rfl) ?_
 refine Zu (q_field gfa155_0 rfl) ?_
 refine Zu (q_fe gone3 rfl rfl) ?_
 refine Zu (q_eql rfl rfl) ?_
 refine Zm ?_
 refine Zsp 10 hS (fun h10 hS => ?_) (fun h10 hS => ?_)
 ·
  refine Zh (q_field gfa155_1 rfl) ?_
  refine Zh (q_fe gone50 rfl rfl) ?_
  refine Zh (q_field gfa155_1 rfl) ?_
  refine Zh (q_fe gone50 rfl rfl) ?_
  obtain ⟨y15_3, ey15_3, hS⟩ := bd_s hS
  refine Zh (q_call (files_Row_Same_ct x_0.index y_1.index ey15_3) rfl (fun _ _ => rfl)) ?_
  refine Zy ?_
  refine Zspb 17 hS (fun h17 hS => ?_) (fun h17 hS => ?_)
  ·
   refine Zh (q_field gfa155_2 rfl) ?_
   refine Zh (q_fe gone50 rfl rfl) ?_
   refine Zh (q_field gfa155_2 rfl) ?_
   refine Zh (q_fe gone50 rfl rfl) ?_
   obtain ⟨y22_4, ey22_4, hS⟩ := bd_s hS
   refine Zh (q_call (files_Row_Same_ct x_0.work y_1.work ey22_4) rfl (fun _ _ => rfl)) ?_
   refine Zy ?_
   refine Zspb 24 hS (fun h24 hS => ?_) (fun h24 hS => ?_)
   ·
    refine Zh (q_field gfa155_3 rfl) ?_
    refine Zh (q_fe gone9 rfl rfl) ?_
    refine Zh (q_field gfa155_3 rfl) ?_
    refine Zh (q_fe gone9 rfl rfl) ?_
    refine Zh (q_seq rfl rfl) ?_
    refine Zy ?_
    refine VC.keep (ρ' := [(4, .bool (decide (x_0.text = y_1.text)))]) [4] rfl ?_
    cases hS
    exact Ze
   refine VL.runs 7 [(4, some false)] (by kernel_rfl) ?_
   refine Zl ?_
   refine VC.keep (ρ' := [(4, .bool false)]) [4] rfl ?_
   cases hS
   exact Ze
  refine VL.runs 14 [(4, some false)] (by kernel_rfl) ?_
  refine Zl ?_
  refine VC.keep (ρ' := [(4, .bool false)]) [4] rfl ?_
  cases hS
  exact Ze
 refine VL.runs 21 [(4, some false)] (by kernel_rfl) ?_
 refine Zl ?_
 refine VC.keep (ρ' := [(4, .bool false)]) [4] rfl ?_
 cases hS
 exact Ze
theorem slices_EqualFunc_shelf_Stack_shelf_Stack_shelf_Shelf_shelf_Shelf_ct (s1_0 : Sv ShelfShelf) (s2_1 : Sv ShelfShelf) {r : Bool} (hS : Sh.slices_EqualFunc_shelf_Stack_shelf_Stack_shelf_Shelf_shelf_Shelf (s1_0.l.map ShelfShelf.pl) (s2_1.l.map ShelfShelf.pl) = some r) :
 Ct Tryz.prog 209 [s1_0.val, s2_1.val, .func (.func 210) #[] #[]] (s1_0.ok.and s2_1.ok) (Ow.emp) (X := Unit) (fun _ => .bool r) (fun _ => True) (fun _ => Mo.tt) (fun _ => Ow.emp) := by
 refine Zo Tryz.func209 Tryz.ntmps209 fun c => ?_
 unfold Sh.slices_EqualFunc_shelf_Stack_shelf_Stack_shelf_Shelf_shelf_Shelf at hS
 refine Zq (Zr ?_)
 refine Zy ?_
 refine Zq (Zq (Zr ?_))
 refine Zm ?_
 refine Zu (q_lnm ShelfShelf.pl (s := s1_0) Tryz.underlying59 rfl) ?_
 refine Zm ?_
 refine Zu (q_lnm ShelfShelf.pl (s := s2_1) Tryz.underlying59 rfl) ?_
 refine Zu (q_neq rfl rfl) ?_
 refine Zl ?_
 refine Zcn hS (fun h14 hS => ?_) (fun h14 hS => ?_)
 ·
  refine Zq (Zr ?_)
  refine Zy ?_
  cases hS
  exact Ze
 refine Zk ?_
 refine Zq (Zq (Zr ?_))
 refine Zm ?_
 refine Zu (q_lnm ShelfShelf.pl (s := s1_0) Tryz.underlying59 rfl) ?_
 refine Zy ?_
 refine VC.keep (ρ' := [(1, s2_1.val), (2, .func (.func 210) #[] #[]), (15, s1_0.val), (16, i64 ((s1_0.l.map ShelfShelf.pl).length : Int)), (17, i64 0)]) [1, 2, 15, 16, 17] rfl ?_
 refine Zb ?_
 refine VC.iter (S := Int) (fun (x17_1 : Int) => x17_1) (fun (x17_1 : Int) => [(1, s2_1.val), (2, .func (.func 210) #[] #[]), (15, s1_0.val), (16, i64 ((s1_0.l.map ShelfShelf.pl).length : Int)), (17, i64 x17_1)]) (fun (x17_1 : Int) => Mo.tt) (fun (x17_1 : Int) => Ow.emp) 0 [1, 2, 15, 16, 17] hS rfl ?_
 clear hS
 rintro x17_1 m1 y1 hS hK1
 refine Zq (Zr ?_)
 refine Zu (q_lss rfl rfl) ?_
 refine Zl ?_
 refine Zq ?_
 refine Zc hS (fun h18 hS => ?_) (fun h18 hS => ?_)
 ·
  refine Zk ?_
  refine Zq (Zb (Zq (Zr ?_)))
  refine Zm ?_
  obtain ⟨z20_2, nz20_2, hz20_2, hS⟩ := atm_s hS
  refine VL.deep z20_2.m hz20_2 (fun _ q => q) ?_
  refine Zu (q_ixm (s := s1_0) Tryz.underlying59 gsz155 rfl rfl nz20_2 (lt_of_get nz20_2 hz20_2)) ?_
  refine Zu (q_els (s := s1_0) gagg155 rfl rfl hz20_2) ?_
  refine VL.alloc (cs := [i64 0, .slice none 0 0, .slice none 0 0, str []]) (by kernel_rfl) (by decide) fun b8_3 => ?_
  refine Za ?_
  refine Zv (vc := [i64 z20_2.base, z20_2.index.val, z20_2.work.val, str z20_2.text]) (cs' := [i64 z20_2.base, z20_2.index.val, z20_2.work.val, str z20_2.text]) rfl gsz155 ?_
  refine Zl ?_
  refine Zq (Zr ?_)
  refine Zy ?_
  obtain ⟨z24_4, nz24_4, hz24_4, hS⟩ := atm_s hS
  refine VL.deep z24_4.m hz24_4 (fun _ q => q) ?_
  refine Zu (q_ixm (s := s2_1) Tryz.underlying59 gsz155 rfl rfl nz24_4 (lt_of_get nz24_4 hz24_4)) ?_
  refine Zu (q_els (s := s2_1) gagg155 rfl rfl hz24_4) ?_
  refine VL.alloc (cs := [i64 0, .slice none 0 0, .slice none 0 0, str []]) (by kernel_rfl) (by decide) fun b9_5 => ?_
  refine Zv (vc := [i64 z24_4.base, z24_4.index.val, z24_4.work.val, str z24_4.text]) (cs' := [i64 z24_4.base, z24_4.index.val, z24_4.work.val, str z24_4.text]) rfl gsz155 ?_
  refine Zl ?_
  refine VC.keep (ρ' := [(1, s2_1.val), (2, .func (.func 210) #[] #[]), (15, s1_0.val), (16, i64 ((s1_0.l.map ShelfShelf.pl).length : Int)), (17, i64 x17_1), (8, ptr b8_3 0), (9, ptr b9_5 0)]) [1, 2, 15, 16, 17, 8, 9] rfl ?_
  refine Zq (Zr ?_)
  refine Zm ?_
  refine Zu (q_fes gagg155 rfl rfl) ?_
  refine Zu (q_fes gagg155 rfl rfl) ?_
  obtain ⟨y29_6, ey29_6, hS⟩ := bd_s hS
  refine Zu (q_callV (shelf_Stack_Same_1_ct z20_2 z24_4 ey29_6) rfl rfl (fun _ _ => rfl)) ?_
  refine Zu (q_not rfl) ?_
  refine Zl ?_
  refine Zcb hS (fun h30 hS => ?_) (fun h30 hS => ?_)
  ·
   refine Zq (Zr ?_)
   refine Zy ?_
   refine VC.keep (ρ' := [(6, .bool false)]) [6] rfl ?_
   replace hS := up2 hS hK1
   cases hS
   exact Ze
  refine Zk ?_
  refine VC.keep (ρ' := [(1, s2_1.val), (2, .func (.func 210) #[] #[]), (15, s1_0.val), (16, i64 ((s1_0.l.map ShelfShelf.pl).length : Int)), (17, i64 x17_1)]) [1, 2, 15, 16, 17] rfl ?_
  refine Zr ?_
  obtain ⟨b31, hS⟩ := gd_s hS
  refine Zu (q_add rfl rfl b31) ?_
  refine Zm ?_
  refine VL.rnd (x17_1 + 1) [1, 2, 15, 16, 17] (fun _ _ h => h) (go2 hS hK1) rfl
 replace hS := up2 hS hK1
 refine Zx ?_
 refine Zq (Zr ?_)
 refine Zy ?_
 cases hS
 exact Ze
theorem shelf_Stack_Same_ct (s_0 : Sv ShelfShelf) (t_1 : Sv ShelfShelf) {r : Bool} (hS : Sh.shelf_Stack_Same (s_0.l.map ShelfShelf.pl) (t_1.l.map ShelfShelf.pl) = some r) :
 Ct Tryz.prog 160 [s_0.val, t_1.val] (s_0.ok.and t_1.ok) (Ow.emp) (X := Unit) (fun _ => .bool r) (fun _ => True) (fun _ => Mo.tt) (fun _ => Ow.emp) := by
 refine Zo Tryz.func160 Tryz.ntmps160 fun c => ?_
 unfold Sh.shelf_Stack_Same at hS
 refine Zq (Zr ?_)
 refine Zy ?_
 refine Zq (Zr ?_)
 refine Zy ?_
 obtain ⟨y7_1, ey7_1, hS⟩ := bd_s hS
 refine Zu (q_call (slices_EqualFunc_shelf_Stack_shelf_Stack_shelf_Shelf_shelf_Shelf_ct s_0 t_1 ey7_1) rfl (fun _ _ => rfl)) ?_
 refine Zy ?_
 cases hS
 exact Ze
theorem state_sameNow_ct (a_0 : StateNow) (b_1 : StateNow) {r : Bool} (hS : Sh.state_sameNow a_0.pl b_1.pl = some r) :
 Ct Tryz.prog 73 [.agg (zStateNow a_0).toArray, .agg (zStateNow b_1).toArray] (a_0.work.ok.and (a_0.index.ok.and (a_0.refs.ok.and (a_0.seq_doing.ok.and (a_0.seq_todo.ok.and (a_0.seq_index.ok.and (a_0.seq_work.ok.and (a_0.stash.ok.and (b_1.work.ok.and (b_1.index.ok.and (b_1.refs.ok.and (b_1.seq_doing.ok.and (b_1.seq_todo.ok.and (b_1.seq_index.ok.and (b_1.seq_work.ok.and b_1.stash.ok))))))))))))))) (Ow.emp) (X := Unit) (fun _ => .bool r) (fun _ => True) (fun _ => Mo.tt) (fun _ => Ow.emp) := by
 refine Zo Tryz.func73 Tryz.ntmps73 fun c => ?_
 unfold Sh.state_sameNow at hS
 refine Zq (Zr ?_)
 refine VL.box (cs := (zStateNow a_0)) rfl rfl (by decide) fun b2_1 => ?_
 refine VL.box (cs := (zStateNow b_1)) rfl rfl (by decide) fun b3_2 => ?_
 refine Zy ?_
 refine Zq (Zr ?_)
 refine Zu (q_field gfa61_0 rfl) ?_
 refine Zu (q_fe gone50 rfl rfl) ?_
 refine Zu (q_field gfa61_0 rfl) ?_
 refine Zu (q_fe gone50 rfl rfl) ?_
 obtain ⟨y9_3, ey9_3, hS⟩ := bd_s hS
 refine Zu (q_call (files_Row_Same_ct a_0.work b_1.work ey9_3) rfl (fun _ _ => rfl)) ?_
 refine Zm ?_
 refine Zspb 10 hS (fun h10 hS => ?_) (fun h10 hS => ?_)
 ·
  refine Zh (q_field gfa61_1 rfl) ?_
  refine Zh (q_fe gone51 rfl rfl) ?_
  refine Zh (q_field gfa61_1 rfl) ?_
  refine Zh (q_fe gone51 rfl rfl) ?_
  obtain ⟨y15_4, ey15_4, hS⟩ := bd_s hS
  refine Zh (q_call (index_Same_ct a_0.index b_1.index ey15_4) rfl (fun _ _ => rfl)) ?_
  refine Zy ?_
  refine Zspb 17 hS (fun h17 hS => ?_) (fun h17 hS => ?_)
  ·
   refine Zh (q_field gfa61_2 rfl) ?_
   refine Zh (q_fe gone52 rfl rfl) ?_
   refine Zh (q_field gfa61_2 rfl) ?_
   refine Zh (q_fe gone52 rfl rfl) ?_
   obtain ⟨y22_5, ey22_5, hS⟩ := bd_s hS
   refine Zh (q_call (slices_Equal_names_Ref_names_Ref_ct a_0.refs b_1.refs ey22_5) rfl (fun _ _ => rfl)) ?_
   refine Zy ?_
   refine Zspb 24 hS (fun h24 hS => ?_) (fun h24 hS => ?_)
   ·
    refine Zh (q_field gfa61_3 rfl) ?_
    refine Zh (q_fep (j := 3) (n := 2) gagg54 rfl rfl rfl) ?_
    refine Zh (q_field gfa61_3 rfl) ?_
    refine Zh (q_fep (j := 3) (n := 2) gagg54 rfl rfl rfl) ?_
    refine Zh (q_steql geqg54 (geqs54 a_0.head_branch a_0.head_commit b_1.head_branch b_1.head_commit) rfl rfl) ?_
    refine Zy ?_
    refine Zsp 31 hS (fun h31 hS => ?_) (fun h31 hS => ?_)
    ·
     refine Zh (q_field gfa61_4 rfl) ?_
     refine Zh (q_fep (j := 5) (n := 11) gagg57 rfl rfl rfl) ?_
     refine Zh (q_field gfa61_4 rfl) ?_
     refine Zh (q_fep (j := 5) (n := 11) gagg57 rfl rfl rfl) ?_
     obtain ⟨y36_6, ey36_6, hS⟩ := bd_s hS
     refine Zh (q_call (state_sameSeq_ct (⟨a_0.seq_kind, a_0.seq_other, a_0.seq_text, a_0.seq_doing, a_0.seq_todo, a_0.seq_made, a_0.seq_branch, a_0.seq_head_branch, a_0.seq_head_commit, a_0.seq_index, a_0.seq_work⟩ : StateSeq) (⟨b_1.seq_kind, b_1.seq_other, b_1.seq_text, b_1.seq_doing, b_1.seq_todo, b_1.seq_made, b_1.seq_branch, b_1.seq_head_branch, b_1.seq_head_commit, b_1.seq_index, b_1.seq_work⟩ : StateSeq) ey36_6) rfl (fun _ _ => rfl)) ?_
     refine Zy ?_
     refine Zspb 38 hS (fun h38 hS => ?_) (fun h38 hS => ?_)
     ·
      refine Zh (q_field gfa61_5 rfl) ?_
      refine Zh (q_fe gone59 rfl rfl) ?_
      refine Zh (q_field gfa61_5 rfl) ?_
      refine Zh (q_fe gone59 rfl rfl) ?_
      obtain ⟨y43_7, ey43_7, hS⟩ := bd_s hS
      refine Zh (q_call (shelf_Stack_Same_ct a_0.stash b_1.stash ey43_7) rfl (fun _ _ => rfl)) ?_
      refine Zy ?_
      refine VC.keep (ρ' := [(4, .bool y43_7)]) [4] rfl ?_
      cases hS
      exact Ze
     refine VL.runs 7 [(4, some false)] (by kernel_rfl) ?_
     refine Zl ?_
     refine VC.keep (ρ' := [(4, .bool false)]) [4] rfl ?_
     cases hS
     exact Ze
    refine VL.runs 14 [(4, some false)] (by kernel_rfl) ?_
    refine Zl ?_
    refine VC.keep (ρ' := [(4, .bool false)]) [4] rfl ?_
    cases hS
    exact Ze
   refine VL.runs 21 [(4, some false)] (by kernel_rfl) ?_
   refine Zl ?_
   refine VC.keep (ρ' := [(4, .bool false)]) [4] rfl ?_
   cases hS
   exact Ze
  refine VL.runs 28 [(4, some false)] (by kernel_rfl) ?_
  refine Zl ?_
  refine VC.keep (ρ' := [(4, .bool false)]) [4] rfl ?_
  cases hS
  exact Ze
 refine VL.runs 35 [(4, some false)] (by kernel_rfl) ?_
 refine Zl ?_
 refine VC.keep (ρ' := [(4, .bool false)]) [4] rfl ?_
 cases hS
 exact Ze
theorem slices_Equal_int_int_ct (s1_0 : Sv Int) (s2_1 : Sv Int) {r : Bool} (hS : Sh.slices_Equal_int_int s1_0.l s2_1.l = some r) :
 Ct Tryz.prog 122 [s1_0.val, s2_1.val] (s1_0.ok.and s2_1.ok) (Ow.emp) (X := Unit) (fun _ => .bool r) (fun _ => True) (fun _ => Mo.tt) (fun _ => Ow.emp) := by
 refine Zo Tryz.func122 Tryz.ntmps122 fun c => ?_
 unfold Sh.slices_Equal_int_int at hS
 refine Zq (Zr ?_)
 refine Zy ?_
 refine Zq (Zq (Zr ?_))
 refine Zm ?_
 refine Zu (q_ln (s := s1_0) Tryz.underlying32 rfl) ?_
 refine Zm ?_
 refine Zu (q_ln (s := s2_1) Tryz.underlying32 rfl) ?_
 refine Zu (q_neq rfl rfl) ?_
 refine Zl ?_
 refine Zcn hS (fun h10 hS => ?_) (fun h10 hS => ?_)
 ·
  refine Zq (Zr ?_)
  refine Zy ?_
  cases hS
  exact Ze
 refine Zk ?_
 refine Zq (Zq (Zr ?_))
 refine Zm ?_
 refine Zu (q_ln (s := s1_0) Tryz.underlying32 rfl) ?_
 refine Zy ?_
 refine VC.keep (ρ' := [(0, s1_0.val), (1, s2_1.val), (12, i64 (s1_0.l.length : Int)), (13, i64 0)]) [0, 1, 12, 13] rfl ?_
 refine Zb ?_
 refine VC.iter (S := Int) (fun (x13_1 : Int) => x13_1) (fun (x13_1 : Int) => [(0, s1_0.val), (1, s2_1.val), (12, i64 (s1_0.l.length : Int)), (13, i64 x13_1)]) (fun (x13_1 : Int) => Mo.tt) (fun (x13_1 : Int) => Ow.emp) 0 [0, 1, 12, 13] hS rfl ?_
 clear hS
 rintro x13_1 m1 y1 hS hK1
 refine Zq (Zr ?_)
 refine Zu (q_lss rfl rfl) ?_
 refine Zl ?_
 refine Zq ?_
 refine Zc hS (fun h14 hS => ?_) (fun h14 hS => ?_)
 ·
  refine Zk ?_
  refine Zq (Zb (Zq (Zr ?_)))
  refine Zy ?_
  refine Zq ?_
  refine VC.draw ((List.range 9).map fun k => (k, true)) mixed (by kernel_rfl) (by kernel_rfl) (by kernel_rfl) ?_
  refine Zw rfl (q_move rfl) ?_
  refine Zw rfl (q_move rfl) ?_
  obtain ⟨z18_2, nz18_2, hz18_2, hS⟩ := at_s hS
  refine Zw rfl (q_ixm (s := s1_0) Tryz.underlying32 gsz3 rfl rfl nz18_2 (lt_of_get nz18_2 hz18_2)) ?_
  refine Zw rfl (q_el (s := s1_0) gone3 rfl hz18_2 rfl) ?_
  refine Zw rfl (q_move rfl) ?_
  refine Zw rfl (q_move rfl) ?_
  obtain ⟨z22_3, nz22_3, hz22_3, hS⟩ := at_s hS
  refine Zw rfl (q_ixm (s := s2_1) Tryz.underlying32 gsz3 rfl rfl nz22_3 (lt_of_get nz22_3 hz22_3)) ?_
  refine Zw rfl (q_el (s := s2_1) gone3 rfl hz22_3 rfl) ?_
  refine Zw rfl (q_neq rfl rfl) ?_
  refine VD.to (fun _ _ h => h) ?_
  refine VC.keep (ρ' := [(0, s1_0.val), (1, s2_1.val), (12, i64 (s1_0.l.length : Int)), (13, i64 x13_1), (24, .bool (!decide (z18_2 = z22_3)))]) [0, 1, 12, 13, 24] rfl ?_
  refine Zcn hS (fun h24 hS => ?_) (fun h24 hS => ?_)
  ·
   refine Zq (Zr ?_)
   refine Zy ?_
   replace hS := up2 hS hK1
   cases hS
   exact Ze
  refine Zk ?_
  refine Zr ?_
  obtain ⟨b25, hS⟩ := gd_s hS
  refine Zu (q_add rfl rfl b25) ?_
  refine Zm ?_
  refine VL.rnd (x13_1 + 1) [0, 1, 12, 13] (fun _ _ h => h) (go2 hS hK1) rfl
 replace hS := up2 hS hK1
 refine Zx ?_
 refine Zq (Zr ?_)
 refine Zy ?_
 cases hS
 exact Ze
theorem state_sameCommit_ct (a_0 : StateCommit) (b_1 : StateCommit) {r : Bool} (hS : Sh.state_sameCommit a_0.pl b_1.pl = some r) :
 Ct Tryz.prog 75 [.agg #[a_0.tree.val, a_0.parents.val, i64 a_0.time, str a_0.text], .agg #[b_1.tree.val, b_1.parents.val, i64 b_1.time, str b_1.text]] (a_0.tree.ok.and (a_0.parents.ok.and (b_1.tree.ok.and b_1.parents.ok))) (Ow.emp) (X := Unit) (fun _ => .bool r) (fun _ => True) (fun _ => Mo.tt) (fun _ => Ow.emp) := by
 refine Zo Tryz.func75 Tryz.ntmps75 fun c => ?_
 unfold Sh.state_sameCommit at hS
 refine Zq (Zr ?_)
 refine VL.box (cs := [a_0.tree.val, a_0.parents.val, i64 a_0.time, str a_0.text]) rfl rfl (by decide) fun b2_1 => ?_
 refine VL.box (cs := [b_1.tree.val, b_1.parents.val, i64 b_1.time, str b_1.text]) rfl rfl (by decide) fun b3_2 => ?_
 refine Zy ?_
 refine Zq (Zr ?_)
 refine Zu (q_field gfa110_0 rfl) ?_
 refine Zu (q_fe gone50 rfl rfl) ?_
 refine Zu (q_field gfa110_0 rfl) ?_
 refine Zu (q_fe gone50 rfl rfl) ?_
 obtain ⟨y9_3, ey9_3, hS⟩ := bd_s hS
 refine Zu (q_call (files_Row_Same_ct a_0.tree b_1.tree ey9_3) rfl (fun _ _ => rfl)) ?_
 refine Zm ?_
 refine Zspb 10 hS (fun h10 hS => ?_) (fun h10 hS => ?_)
 ·
  refine Zh (q_field gfa110_1 rfl) ?_
  refine Zh (q_fe gone32 rfl rfl) ?_
  refine Zh (q_field gfa110_1 rfl) ?_
  refine Zh (q_fe gone32 rfl rfl) ?_
  obtain ⟨y15_4, ey15_4, hS⟩ := bd_s hS
  refine Zh (q_call (slices_Equal_int_int_ct a_0.parents b_1.parents ey15_4) rfl (fun _ _ => rfl)) ?_
  refine Zy ?_
  refine Zspb 17 hS (fun h17 hS => ?_) (fun h17 hS => ?_)
  ·
   refine Zh (q_field gfa110_2 rfl) ?_
   refine Zh (q_fe gone3 rfl rfl) ?_
   refine Zh (q_field gfa110_2 rfl) ?_
   refine Zh (q_fe gone3 rfl rfl) ?_
   refine Zh (q_eql rfl rfl) ?_
   refine Zy ?_
   refine Zsp 24 hS (fun h24 hS => ?_) (fun h24 hS => ?_)
   ·
    refine Zh (q_field gfa110_3 rfl) ?_
    refine Zh (q_fe gone9 rfl rfl) ?_
    refine Zh (q_field gfa110_3 rfl) ?_
    refine Zh (q_fe gone9 rfl rfl) ?_
    refine Zh (q_seq rfl rfl) ?_
    refine Zy ?_
    refine VC.keep (ρ' := [(4, .bool (decide (a_0.text = b_1.text)))]) [4] rfl ?_
    cases hS
    exact Ze
   refine VL.runs 7 [(4, some false)] (by kernel_rfl) ?_
   refine Zl ?_
   refine VC.keep (ρ' := [(4, .bool false)]) [4] rfl ?_
   cases hS
   exact Ze
  refine VL.runs 14 [(4, some false)] (by kernel_rfl) ?_
  refine Zl ?_
  refine VC.keep (ρ' := [(4, .bool false)]) [4] rfl ?_
  cases hS
  exact Ze
 refine VL.runs 21 [(4, some false)] (by kernel_rfl) ?_
 refine Zl ?_
 refine VC.keep (ρ' := [(4, .bool false)]) [4] rfl ?_
 cases hS
 exact Ze
theorem slices_EqualFunc_state_Commit_state_Commit_state_Commit_state_Commit_ct (s1_0 : Sv StateCommit) (s2_1 : Sv StateCommit) {r : Bool} (hS : Sh.slices_EqualFunc_state_Commit_state_Commit_state_Commit_state_Commit (s1_0.l.map StateCommit.pl) (s2_1.l.map StateCommit.pl) = some r) :
 Ct Tryz.prog 74 [s1_0.val, s2_1.val, .func (.func 75) #[] #[]] (s1_0.ok.and s2_1.ok) (Ow.emp) (X := Unit) (fun _ => .bool r) (fun _ => True) (fun _ => Mo.tt) (fun _ => Ow.emp) := by
 refine Zo Tryz.func74 Tryz.ntmps74 fun c => ?_
 unfold Sh.slices_EqualFunc_state_Commit_state_Commit_state_Commit_state_Commit at hS
 refine Zq (Zr ?_)
 refine Zy ?_
 refine Zq (Zq (Zr ?_))
 refine Zm ?_
 refine Zu (q_lnm StateCommit.pl (s := s1_0) Tryz.underlying68 rfl) ?_
 refine Zm ?_
 refine Zu (q_lnm StateCommit.pl (s := s2_1) Tryz.underlying68 rfl) ?_
 refine Zu (q_neq rfl rfl) ?_
 refine Zl ?_
 refine Zcn hS (fun h14 hS => ?_) (fun h14 hS => ?_)
 ·
  refine Zq (Zr ?_)
  refine Zy ?_
  cases hS
  exact Ze
 refine Zk ?_
 refine Zq (Zq (Zr ?_))
 refine Zm ?_
 refine Zu (q_lnm StateCommit.pl (s := s1_0) Tryz.underlying68 rfl) ?_
 refine Zy ?_
 refine VC.keep (ρ' := [(1, s2_1.val), (2, .func (.func 75) #[] #[]), (15, s1_0.val), (16, i64 ((s1_0.l.map StateCommit.pl).length : Int)), (17, i64 0)]) [1, 2, 15, 16, 17] rfl ?_
 refine Zb ?_
 refine VC.iter (S := Int) (fun (x17_1 : Int) => x17_1) (fun (x17_1 : Int) => [(1, s2_1.val), (2, .func (.func 75) #[] #[]), (15, s1_0.val), (16, i64 ((s1_0.l.map StateCommit.pl).length : Int)), (17, i64 x17_1)]) (fun (x17_1 : Int) => Mo.tt) (fun (x17_1 : Int) => Ow.emp) 0 [1, 2, 15, 16, 17] hS rfl ?_
 clear hS
 rintro x17_1 m1 y1 hS hK1
 refine Zq (Zr ?_)
 refine Zu (q_lss rfl rfl) ?_
 refine Zl ?_
 refine Zq ?_
 refine Zc hS (fun h18 hS => ?_) (fun h18 hS => ?_)
 ·
  refine Zk ?_
  refine Zq (Zb (Zq (Zr ?_)))
  refine Zm ?_
  obtain ⟨z20_2, nz20_2, hz20_2, hS⟩ := atm_s hS
  refine VL.deep z20_2.m hz20_2 (fun _ q => q) ?_
  refine Zu (q_ixm (s := s1_0) Tryz.underlying68 gsz110 rfl rfl nz20_2 (lt_of_get nz20_2 hz20_2)) ?_
  refine Zu (q_els (s := s1_0) gagg110 rfl rfl hz20_2) ?_
  refine VL.alloc (cs := [.slice none 0 0, .slice none 0 0, i64 0, str []]) (by kernel_rfl) (by decide) fun b8_3 => ?_
  refine Za ?_
  refine Zv (vc := [z20_2.tree.val, z20_2.parents.val, i64 z20_2.time, str z20_2.text]) (cs' := [z20_2.tree.val, z20_2.parents.val, i64 z20_2.time, str z20_2.text]) rfl gsz110 ?_
  refine Zl ?_
  refine Zq (Zr ?_)
  refine Zy ?_
  obtain ⟨z24_4, nz24_4, hz24_4, hS⟩ := atm_s hS
  refine VL.deep z24_4.m hz24_4 (fun _ q => q) ?_
  refine Zu (q_ixm (s := s2_1) Tryz.underlying68 gsz110 rfl rfl nz24_4 (lt_of_get nz24_4 hz24_4)) ?_
  refine Zu (q_els (s := s2_1) gagg110 rfl rfl hz24_4) ?_
  refine VL.alloc (cs := [.slice none 0 0, .slice none 0 0, i64 0, str []]) (by kernel_rfl) (by decide) fun b9_5 => ?_
  refine Zv (vc := [z24_4.tree.val, z24_4.parents.val, i64 z24_4.time, str z24_4.text]) (cs' := [z24_4.tree.val, z24_4.parents.val, i64 z24_4.time, str z24_4.text]) rfl gsz110 ?_
  refine Zl ?_
  refine VC.keep (ρ' := [(1, s2_1.val), (2, .func (.func 75) #[] #[]), (15, s1_0.val), (16, i64 ((s1_0.l.map StateCommit.pl).length : Int)), (17, i64 x17_1), (8, ptr b8_3 0), (9, ptr b9_5 0)]) [1, 2, 15, 16, 17, 8, 9] rfl ?_
  refine Zq (Zr ?_)
  refine Zm ?_
  refine Zu (q_fes gagg110 rfl rfl) ?_
  refine Zu (q_fes gagg110 rfl rfl) ?_
  obtain ⟨y29_6, ey29_6, hS⟩ := bd_s hS
  refine Zu (q_callV (state_sameCommit_ct z20_2 z24_4 ey29_6) rfl rfl (fun _ _ => rfl)) ?_
  refine Zu (q_not rfl) ?_
  refine Zl ?_
  refine Zcb hS (fun h30 hS => ?_) (fun h30 hS => ?_)
  ·
   refine Zq (Zr ?_)
   refine Zy ?_
   refine VC.keep (ρ' := [(6, .bool false)]) [6] rfl ?_
   replace hS := up2 hS hK1
   cases hS
   exact Ze
  refine Zk ?_
  refine VC.keep (ρ' := [(1, s2_1.val), (2, .func (.func 75) #[] #[]), (15, s1_0.val), (16, i64 ((s1_0.l.map StateCommit.pl).length : Int)), (17, i64 x17_1)]) [1, 2, 15, 16, 17] rfl ?_
  refine Zr ?_
  obtain ⟨b31, hS⟩ := gd_s hS
  refine Zu (q_add rfl rfl b31) ?_
  refine Zm ?_
  refine VL.rnd (x17_1 + 1) [1, 2, 15, 16, 17] (fun _ _ h => h) (go2 hS hK1) rfl
 replace hS := up2 hS hK1
 refine Zx ?_
 refine Zq (Zr ?_)
 refine Zy ?_
 cases hS
 exact Ze
theorem state_sameMark_ct (a_0 : Str) (b_1 : Str) {r : Bool} (hS : Sh.state_sameMark a_0 b_1 = some r) :
 Ct Tryz.prog 77 [str a_0, str b_1] Mo.tt (Ow.emp) (X := Unit) (fun _ => .bool r) (fun _ => True) (fun _ => Mo.tt) (fun _ => Ow.emp) := by
 refine Zo Tryz.func77 Tryz.ntmps77 fun c => ?_
 unfold Sh.state_sameMark at hS
 refine Zq (Zr ?_)
 refine Zy ?_
 refine Zq (Zr ?_)
 refine Zm ?_
 obtain ⟨y11_1, ey11_1, hS⟩ := bd_s hS
 refine VL.callF (state_Unmark_ct a_0 ey11_1) rfl (by decide) ?_
 rintro ⟨q11_1_0, q11_1_1⟩ rfl
 try dsimp only
 refine Zm ?_
 refine Zu (q_extract rfl rfl) ?_
 refine Zu (q_extract rfl rfl) ?_
 refine VL.alloc (cs := [.slice none 0 0, .slice none 0 0, .slice none 0 0, str [], i64 0, str [], i64 0, str [], .slice none 0 0, .slice none 0 0, i64 0, str [], str [], i64 0, .slice none 0 0, .slice none 0 0, .slice none 0 0]) (by kernel_rfl) (by decide) fun b5_2 => ?_
 refine Zv (vc := (zStateNow q11_1_0)) (cs' := (zStateNow q11_1_0)) rfl gsz61 ?_
 refine Zy ?_
 refine Zq (Zr ?_)
 refine Zm ?_
 obtain ⟨y16_3, ey16_3, hS⟩ := bd_s hS
 refine VL.callF (state_Unmark_ct b_1 ey16_3) rfl (by decide) ?_
 rintro ⟨q16_3_0, q16_3_1⟩ rfl
 try dsimp only
 refine Zm ?_
 refine Zu (q_extract rfl rfl) ?_
 refine Zu (q_extract rfl rfl) ?_
 refine VL.alloc (cs := [.slice none 0 0, .slice none 0 0, .slice none 0 0, str [], i64 0, str [], i64 0, str [], .slice none 0 0, .slice none 0 0, i64 0, str [], str [], i64 0, .slice none 0 0, .slice none 0 0, .slice none 0 0]) (by kernel_rfl) (by decide) fun b7_4 => ?_
 refine Zv (vc := (zStateNow q16_3_0)) (cs' := (zStateNow q16_3_0)) rfl gsz61 ?_
 refine Zy ?_
 refine VC.keep (ρ' := [(0, str a_0), (1, str b_1), (5, ptr b5_2 0), (6, q11_1_1.val), (7, ptr b7_4 0), (8, q16_3_1.val)]) [0, 1, 5, 6, 7, 8] rfl ?_
 refine Zq ?_
 refine VC.cutJ (S := Bool) (fun (x24_5 : Bool) => x24_5) (fun (x24_5 : Bool) => [(0, str a_0), (1, str b_1), (5, ptr b5_2 0), (7, ptr b7_4 0), (24, .bool x24_5)]) (fun (x24_5 : Bool) => Mo.tt) (fun (x24_5 : Bool) => Ow.star (Blk b7_4 (zStateNow q16_3_0) 61) (Ow.star (Blk b5_2 (zStateNow q11_1_0) 61) (Ow.emp))) hS ?_ ?_
 ·
  clear hS
  intro k6 hS
  refine Zr ?_
  refine Zm ?_
  refine Zu (q_erne Tryz.underlying26 rfl) ?_
  refine Zm ?_
  refine Zspn 21 hS (fun h21 hS => ?_) (fun h21 hS => ?_)
  ·
   refine VL.runs 3 [(24, some true)] (by kernel_rfl) ?_
   refine VL.mt true [0, 1, 5, 7, 24] (fun _ _ h => h) hS rfl
  refine Zg ?_
  refine Zh (q_erne Tryz.underlying26 rfl) ?_
  refine Zf ?_
  refine VL.mt (!decide (q16_3_1.pl.isNil = true)) [0, 1, 5, 7, 24] (fun _ _ h => h) hS rfl
 clear hS
 rintro x24_5 hS
 refine Zcb hS (fun h24 hS => ?_) (fun h24 hS => ?_)
 ·
  refine Zq (Zr ?_)
  refine Zy ?_
  cases hS
  exact Ze
 refine Zk ?_
 refine Zq (Zr ?_)
 refine Zu (q_fes gagg61 rfl rfl) ?_
 refine Zu (q_fes gagg61 rfl rfl) ?_
 obtain ⟨y30_7, ey30_7, hS⟩ := bd_s hS
 refine Zu (q_call (state_sameNow_ct q11_1_0 q16_3_0 ey30_7) rfl (fun _ _ => rfl)) ?_
 refine Zy ?_
 cases hS
 exact Ze
theorem slices_EqualFunc_string_string_string_string_ct (s1_0 : Sv Str) (s2_1 : Sv Str) {r : Bool} (hS : Sh.slices_EqualFunc_string_string_string_string s1_0.l s2_1.l = some r) :
 Ct Tryz.prog 76 [s1_0.val, s2_1.val, .func (.func 77) #[] #[]] (s1_0.ok.and s2_1.ok) (Ow.emp) (X := Unit) (fun _ => .bool r) (fun _ => True) (fun _ => Mo.tt) (fun _ => Ow.emp) := by
 refine Zo Tryz.func76 Tryz.ntmps76 fun c => ?_
 unfold Sh.slices_EqualFunc_string_string_string_string at hS
 refine Zq (Zr ?_)
 refine Zy ?_
 refine Zq (Zq (Zr ?_))
 refine Zm ?_
 refine Zu (q_ln (s := s1_0) Tryz.underlying89 rfl) ?_
 refine Zm ?_
 refine Zu (q_ln (s := s2_1) Tryz.underlying89 rfl) ?_
 refine Zu (q_neq rfl rfl) ?_
 refine Zl ?_
 refine Zcn hS (fun h14 hS => ?_) (fun h14 hS => ?_)
 ·
  refine Zq (Zr ?_)
  refine Zy ?_
  cases hS
  exact Ze
 refine Zk ?_
 refine Zq (Zq (Zr ?_))
 refine Zm ?_
 refine Zu (q_ln (s := s1_0) Tryz.underlying89 rfl) ?_
 refine Zy ?_
 refine VC.keep (ρ' := [(1, s2_1.val), (2, .func (.func 77) #[] #[]), (15, s1_0.val), (16, i64 (s1_0.l.length : Int)), (17, i64 0)]) [1, 2, 15, 16, 17] rfl ?_
 refine Zb ?_
 refine VC.iter (S := Int) (fun (x17_1 : Int) => x17_1) (fun (x17_1 : Int) => [(1, s2_1.val), (2, .func (.func 77) #[] #[]), (15, s1_0.val), (16, i64 (s1_0.l.length : Int)), (17, i64 x17_1)]) (fun (x17_1 : Int) => Mo.tt) (fun (x17_1 : Int) => Ow.emp) 0 [1, 2, 15, 16, 17] hS rfl ?_
 clear hS
 rintro x17_1 m1 y1 hS hK1
 refine Zq (Zr ?_)
 refine Zu (q_lss rfl rfl) ?_
 refine Zl ?_
 refine Zq ?_
 refine Zc hS (fun h18 hS => ?_) (fun h18 hS => ?_)
 ·
  refine Zk ?_
  refine Zq (Zb (Zq (Zr ?_)))
  refine Zm ?_
  obtain ⟨z20_2, nz20_2, hz20_2, hS⟩ := at_s hS
  refine Zu (q_ixm (s := s1_0) Tryz.underlying89 gsz9 rfl rfl nz20_2 (lt_of_get nz20_2 hz20_2)) ?_
  refine Zu (q_el (s := s1_0) gone9 rfl hz20_2 rfl) ?_
  refine Zy ?_
  refine Zq (Zr ?_)
  refine Zy ?_
  obtain ⟨z24_3, nz24_3, hz24_3, hS⟩ := at_s hS
  refine Zu (q_ixm (s := s2_1) Tryz.underlying89 gsz9 rfl rfl nz24_3 (lt_of_get nz24_3 hz24_3)) ?_
  refine Zu (q_el (s := s2_1) gone9 rfl hz24_3 rfl) ?_
  refine Zy ?_
  refine VC.keep (ρ' := [(1, s2_1.val), (2, .func (.func 77) #[] #[]), (15, s1_0.val), (16, i64 (s1_0.l.length : Int)), (17, i64 x17_1), (8, str z20_2), (9, str z24_3)]) [1, 2, 15, 16, 17, 8, 9] rfl ?_
  refine Zq (Zr ?_)
  refine Zy ?_
  obtain ⟨y29_4, ey29_4, hS⟩ := bd_s hS
  refine Zu (q_callV (state_sameMark_ct z20_2 z24_3 ey29_4) rfl rfl (fun _ _ => rfl)) ?_
  refine Zu (q_not rfl) ?_
  refine Zl ?_
  refine Zcb hS (fun h30 hS => ?_) (fun h30 hS => ?_)
  ·
   refine Zq (Zr ?_)
   refine Zy ?_
   refine VC.keep (ρ' := [(6, .bool false)]) [6] rfl ?_
   replace hS := up2 hS hK1
   cases hS
   exact Ze
  refine Zk ?_
  refine VC.keep (ρ' := [(1, s2_1.val), (2, .func (.func 77) #[] #[]), (15, s1_0.val), (16, i64 (s1_0.l.length : Int)), (17, i64 x17_1)]) [1, 2, 15, 16, 17] rfl ?_
  refine Zr ?_
  obtain ⟨b31, hS⟩ := gd_s hS
  refine Zu (q_add rfl rfl b31) ?_
  refine Zm ?_
  refine VL.rnd (x17_1 + 1) [1, 2, 15, 16, 17] (fun _ _ h => h) (go2 hS hK1) rfl
 replace hS := up2 hS hK1
 refine Zx ?_
 refine Zq (Zr ?_)
 refine Zy ?_
 cases hS
 exact Ze
theorem state_Same_ct (a_0 : StateState) (b_1 : StateState) {r : Bool} (hS : Sh.state_Same a_0.pl b_1.pl = some r) :
 Ct Tryz.prog 28 [.agg (zStateState a_0).toArray, .agg (zStateState b_1).toArray] (a_0.now_work.ok.and (a_0.now_index.ok.and (a_0.now_refs.ok.and (a_0.now_seq_doing.ok.and (a_0.now_seq_todo.ok.and (a_0.now_seq_index.ok.and (a_0.now_seq_work.ok.and (a_0.now_stash.ok.and (a_0.commits.ok.and (a_0.log_back.ok.and (a_0.log_forth.ok.and (b_1.now_work.ok.and (b_1.now_index.ok.and (b_1.now_refs.ok.and (b_1.now_seq_doing.ok.and (b_1.now_seq_todo.ok.and (b_1.now_seq_index.ok.and (b_1.now_seq_work.ok.and (b_1.now_stash.ok.and (b_1.commits.ok.and (b_1.log_back.ok.and b_1.log_forth.ok))))))))))))))))))))) (Ow.emp) (X := Unit) (fun _ => .bool r) (fun _ => True) (fun _ => Mo.tt) (fun _ => Ow.emp) := by
 refine Zo Tryz.func28 Tryz.ntmps28 fun c => ?_
 unfold Sh.state_Same at hS
 refine Zq (Zr ?_)
 refine VL.box (cs := (zStateState a_0)) rfl rfl (by decide) fun b2_1 => ?_
 refine VL.box (cs := (zStateState b_1)) rfl rfl (by decide) fun b3_2 => ?_
 refine Zy ?_
 refine Zq (Zr ?_)
 refine Zu (q_field gfa93_0 rfl) ?_
 refine Zu (q_fep (j := 0) (n := 17) gagg61 rfl rfl rfl) ?_
 refine Zu (q_field gfa93_0 rfl) ?_
 refine Zu (q_fep (j := 0) (n := 17) gagg61 rfl rfl rfl) ?_
 obtain ⟨y9_3, ey9_3, hS⟩ := bd_s hS
 refine Zu (q_call (state_sameNow_ct (⟨a_0.now_work, a_0.now_index, a_0.now_refs, a_0.now_head_branch, a_0.now_head_commit, a_0.now_seq_kind, a_0.now_seq_other, a_0.now_seq_text, a_0.now_seq_doing, a_0.now_seq_todo, a_0.now_seq_made, a_0.now_seq_branch, a_0.now_seq_head_branch, a_0.now_seq_head_commit, a_0.now_seq_index, a_0.now_seq_work, a_0.now_stash⟩ : StateNow) (⟨b_1.now_work, b_1.now_index, b_1.now_refs, b_1.now_head_branch, b_1.now_head_commit, b_1.now_seq_kind, b_1.now_seq_other, b_1.now_seq_text, b_1.now_seq_doing, b_1.now_seq_todo, b_1.now_seq_made, b_1.now_seq_branch, b_1.now_seq_head_branch, b_1.now_seq_head_commit, b_1.now_seq_index, b_1.now_seq_work, b_1.now_stash⟩ : StateNow) ey9_3) rfl (fun _ _ => rfl)) ?_
 refine Zm ?_
 refine Zspb 10 hS (fun h10 hS => ?_) (fun h10 hS => ?_)
 ·
  refine Zh (q_field gfa93_1 rfl) ?_
  refine Zh (q_fe gone68 rfl rfl) ?_
  refine Zh (q_field gfa93_1 rfl) ?_
  refine Zh (q_fe gone68 rfl rfl) ?_
  obtain ⟨y15_4, ey15_4, hS⟩ := bd_s hS
  refine Zh (q_call (slices_EqualFunc_state_Commit_state_Commit_state_Commit_state_Commit_ct a_0.commits b_1.commits ey15_4) rfl (fun _ _ => rfl)) ?_
  refine Zy ?_
  refine Zspb 17 hS (fun h17 hS => ?_) (fun h17 hS => ?_)
  ·
   refine Zh (q_field gfa93_3 rfl) ?_
   refine Zh (q_fe gone3 rfl rfl) ?_
   refine Zh (q_field gfa93_3 rfl) ?_
   refine Zh (q_fe gone3 rfl rfl) ?_
   refine Zh (q_eql rfl rfl) ?_
   refine Zy ?_
   refine Zsp 24 hS (fun h24 hS => ?_) (fun h24 hS => ?_)
   ·
    refine Zh (q_field gfa93_2 rfl) ?_
    refine Zh (q_field gfa91_0 rfl) ?_
    refine Zh (q_fe gone89 rfl rfl) ?_
    refine Zh (q_field gfa93_2 rfl) ?_
    refine Zh (q_field gfa91_0 rfl) ?_
    refine Zh (q_fe gone89 rfl rfl) ?_
    obtain ⟨y31_5, ey31_5, hS⟩ := bd_s hS
    refine Zh (q_call (slices_EqualFunc_string_string_string_string_ct a_0.log_back b_1.log_back ey31_5) rfl (fun _ _ => rfl)) ?_
    refine Zy ?_
    refine Zspb 33 hS (fun h33 hS => ?_) (fun h33 hS => ?_)
    ·
     refine Zh (q_field gfa93_2 rfl) ?_
     refine Zh (q_field gfa91_1 rfl) ?_
     refine Zh (q_fe gone89 rfl rfl) ?_
     refine Zh (q_field gfa93_2 rfl) ?_
     refine Zh (q_field gfa91_1 rfl) ?_
     refine Zh (q_fe gone89 rfl rfl) ?_
     obtain ⟨y40_6, ey40_6, hS⟩ := bd_s hS
     refine Zh (q_call (slices_EqualFunc_string_string_string_string_ct a_0.log_forth b_1.log_forth ey40_6) rfl (fun _ _ => rfl)) ?_
     refine Zy ?_
     refine VC.keep (ρ' := [(4, .bool y40_6)]) [4] rfl ?_
     cases hS
     exact Ze
    refine VL.runs 9 [(4, some false)] (by kernel_rfl) ?_
    refine Zl ?_
    refine VC.keep (ρ' := [(4, .bool false)]) [4] rfl ?_
    cases hS
    exact Ze
   refine VL.runs 18 [(4, some false)] (by kernel_rfl) ?_
   refine Zl ?_
   refine VC.keep (ρ' := [(4, .bool false)]) [4] rfl ?_
   cases hS
   exact Ze
  refine VL.runs 25 [(4, some false)] (by kernel_rfl) ?_
  refine Zl ?_
  refine VC.keep (ρ' := [(4, .bool false)]) [4] rfl ?_
  cases hS
  exact Ze
 refine VL.runs 32 [(4, some false)] (by kernel_rfl) ?_
 refine Zl ?_
 refine VC.keep (ρ' := [(4, .bool false)]) [4] rfl ?_
 cases hS
 exact Ze
theorem unicode_utf8_RuneCountInString_ct (s_0 : Str) {r : Int} (hS : Sh.unicode_utf8_RuneCountInString s_0 = some r) :
 Ct Tryz.prog 299 [str s_0] Mo.tt (Ow.emp) (X := Unit) (fun _ => i64 r) (fun _ => True) (fun _ => Mo.tt) (fun _ => Ow.emp) := by
 refine Zo Tryz.func299 Tryz.ntmps299 fun c => ?_
 unfold Sh.unicode_utf8_RuneCountInString at hS
 refine Zq (Zr ?_)
 refine Zy ?_
 refine Zq (Zq (Zr ?_))
 refine Zm ?_
 cases hS
theorem unicode_utf8_decodeRuneInStringSlow_ct (s_0 : Str) {r : Int × Int} (hS : Sh.unicode_utf8_decodeRuneInStringSlow s_0 = some r) :
 Ct Tryz.prog 303 [str s_0] Mo.tt (Ow.emp) (X := Unit) (fun _ => .tuple #[.int .i32 r.1, i64 r.2]) (fun _ => True) (fun _ => Mo.tt) (fun _ => Ow.emp) := by
 refine Zo Tryz.func303 Tryz.ntmps303 fun c => ?_
 unfold Sh.unicode_utf8_decodeRuneInStringSlow at hS
 refine Zq (Zr ?_)
 refine Zy ?_
 refine Zq (Zr ?_)
 refine Zm ?_
 refine Zu (q_slen Tryz.underlying9 rfl) ?_
 refine Zy ?_
 refine Zq (Zq (Zr ?_))
 refine Zm ?_
 refine Zu (q_lss rfl rfl) ?_
 refine Zl ?_
 refine Zc hS (fun h16 hS => ?_) (fun h16 hS => ?_)
 ·
  refine Zq (Zr ?_)
  refine Zy ?_
  cases hS
  exact VC.ret (fin2 (.inr rfl) rfl rfl rfl () rfl trivial (fun _ _ => trivial) (fun _ _ => trivial))
 refine Zk ?_
 refine Zq (Zr ?_)
 refine Zm ?_
 obtain ⟨z18_1, nz18_1, hz18_1, hS⟩ := at_s hS
 refine Zu (q_sidx Tryz.underlying9 rfl rfl nz18_1 hz18_1) ?_
 refine Zy ?_
 refine VC.keep (ρ' := [(0, str s_0), (4, i64 (s_0.length : Int)), (5, .int .u8 (z18_1.toNat : Int))]) [0, 4, 5] rfl ?_
 refine Zq (Zr ?_)
 refine Zm ?_
 cases hS
theorem unicode_utf8_DecodeRuneInString_ct (s_0 : Str) {r : Int × Int} (hS : Sh.unicode_utf8_DecodeRuneInString s_0 = some r) :
 Ct Tryz.prog 300 [str s_0] Mo.tt (Ow.emp) (X := Unit) (fun _ => .tuple #[.int .i32 r.1, i64 r.2]) (fun _ => True) (fun _ => Mo.tt) (fun _ => Ow.emp) := by
 refine Zo Tryz.func300 Tryz.ntmps300 fun c => ?_
 unfold Sh.unicode_utf8_DecodeRuneInString at hS
 refine Zq (Zr ?_)
 refine Zy ?_
 refine Zq ?_
 refine VC.cutJ (S := Bool) (fun (x10_1 : Bool) => x10_1) (fun (x10_1 : Bool) => [(0, str s_0), (10, .bool x10_1)]) (fun (x10_1 : Bool) => Mo.tt) (fun (x10_1 : Bool) => Ow.emp) hS ?_ ?_
 ·
  clear hS
  intro k2 hS
  refine Zr ?_
  refine Zm ?_
  refine Zu (q_sne rfl rfl) ?_
  refine Zm ?_
  refine Zspn 6 hS (fun h6 hS => ?_) (fun h6 hS => ?_)
  ·
   refine Zg ?_
   obtain ⟨z8_3, nz8_3, hz8_3, hS⟩ := at_s hS
   refine Zh (q_sidx Tryz.underlying9 rfl rfl nz8_3 hz8_3) ?_
   refine Zh (q_lss rfl rfl) ?_
   refine Zt ?_
   refine VL.mt (decide ((z8_3.toNat : Int) < 128)) [0, 10] (fun _ _ h => h) hS rfl
  refine VL.runs 4 [(10, some false)] (by kernel_rfl) ?_
  refine VL.mt false [0, 10] (fun _ _ h => h) hS rfl
 clear hS
 rintro x10_1 hS
 refine Zcb hS (fun h10 hS => ?_) (fun h10 hS => ?_)
 ·
  refine Zq (Zr ?_)
  refine Zm ?_
  obtain ⟨z12_4, nz12_4, hz12_4, hS⟩ := at_s hS
  refine Zu (q_sidx Tryz.underlying9 rfl rfl nz12_4 hz12_4) ?_
  refine Zu (q_conv Tryz.underlying5 Tryz.underlying21 rfl (wr_i32 z12_4)) ?_
  refine Zy ?_
  cases hS
  exact VC.ret (fin2 (.inr rfl) rfl rfl rfl () rfl trivial (fun _ _ => trivial) (fun _ _ => trivial))
 refine Zr ?_
 refine Zm ?_
 obtain ⟨y16_5, ey16_5, hS⟩ := bd_s hS
 refine Zu (q_call (unicode_utf8_decodeRuneInStringSlow_ct s_0 ey16_5) rfl (fun _ _ => rfl)) ?_
 refine Zm ?_
 refine Zu (q_extract rfl rfl) ?_
 refine Zu (q_extract rfl rfl) ?_
 refine Zy ?_
 cases hS
 exact VC.ret (fin2 (.inr rfl) rfl rfl rfl () rfl trivial (fun _ _ => trivial) (fun _ _ => trivial))
theorem strings_explode_ct (s_0 : Str) (n_1 : Int) {r : List Str} (hS : Sh.strings_explode s_0 n_1 = some r) :
 Ct Tryz.prog 291 [str s_0, i64 n_1] Mo.tt (Ow.emp) (X := Sv Str) (fun x => x.val) (fun x => r = x.l) (fun x => Mo.tt) (fun x => Sv.own x 9) := by
 refine Zo Tryz.func291 Tryz.ntmps291 fun c => ?_
 unfold Sh.strings_explode at hS
 refine Zq (Zr ?_)
 refine Zy ?_
 refine Zq (Zr ?_)
 refine Zm ?_
 obtain ⟨y11_1, ey11_1, hS⟩ := bd_s hS
 refine Zu (q_call (unicode_utf8_RuneCountInString_ct s_0 ey11_1) rfl (fun _ _ => rfl)) ?_
 refine Zy ?_
 refine VC.cutJ (S := Int) (fun (n1_2 : Int) => n1_2) (fun (n1_2 : Int) => [(0, str s_0), (1, i64 n1_2)]) (fun (n1_2 : Int) => Mo.tt) (fun (n1_2 : Int) => Ow.emp) hS ?_ ?_
 ·
  clear hS
  intro k3 hS
  refine VC.cutJ (S := Bool) (fun (x18_4 : Bool) => x18_4) (fun (x18_4 : Bool) => [(0, str s_0), (1, i64 n_1), (5, i64 y11_1), (18, .bool x18_4)]) (fun (x18_4 : Bool) => Mo.tt) (fun (x18_4 : Bool) => Ow.emp) hS ?_ ?_
  ·
   clear hS
   intro k5 hS
   refine Zr ?_
   refine Zm ?_
   refine Zu (q_lss rfl rfl) ?_
   refine Zm ?_
   refine Zsp 14 hS (fun h14 hS => ?_) (fun h14 hS => ?_)
   ·
    refine VL.runs 4 [(18, some true)] (by kernel_rfl) ?_
    refine VL.mt true [0, 1, 5, 18] (fun _ _ h => h) hS rfl
   refine Zy ?_
   refine Zh (q_gtr rfl rfl) ?_
   refine Zf ?_
   refine VL.mt (decide (y11_1 < n_1)) [0, 1, 5, 18] (fun _ _ h => h) hS rfl
  clear hS
  rintro x18_4 hS
  refine Zcb hS (fun h18 hS => ?_) (fun h18 hS => ?_)
  ·
   refine Zr ?_
   refine Zy ?_
   refine VL.mt y11_1 [0, 1] (fun _ _ h => h) hS rfl
  refine VC.skip_mt n_1 [0, 1] (fun _ _ h => h) hS rfl
 clear hS
 rintro n1_2 hS
 refine Zq (Zr ?_)
 refine Zm ?_
 obtain ⟨b21, hS⟩ := gd_s hS
 refine VL.make (α := Str) (z := []) Tryz.underlying89 gmk9 (by decide) rfl rfl b21.1 (Int.le_refl _) (by omega) (by omega) (by decide) (fun s21_6 hs21_6 => ?_)
 replace hS := lt_to hs21_6 hS
 refine Zy ?_
 refine Zq (Zq (Zr ?_))
 refine Zy ?_
 refine Zb ?_
 refine VC.iter (S := Str × Sv Str × Int) (fun sg => (sg.1, sg.2.1.l, sg.2.2)) (fun sg => [(0, str sg.1), (1, i64 n1_2), (6, sg.2.1.val), (7, i64 sg.2.2)]) (fun sg => Mo.tt) (fun sg => Ow.star (Sv.own sg.2.1 9) (Ow.emp)) (s_0, s21_6, 0) [0, 1, 6, 7] hS rfl ?_
 clear hS
 rintro ⟨s0_8, a6_9, i7_10⟩ m1 y1 hS hK1
 refine Zq (Zq (Zr ?_))
 refine Zy ?_
 obtain ⟨b24, hS⟩ := gd_s hS
 refine Zu (q_sub rfl rfl b24) ?_
 refine Zu (q_lss rfl rfl) ?_
 refine Zl ?_
 refine Zc hS (fun h25 hS => ?_) (fun h25 hS => ?_)
 ·
  refine Zk ?_
  refine Zq (Zb (Zq (Zr ?_)))
  refine Zm ?_
  obtain ⟨y30_11, ey30_11, hS⟩ := bd_s hS
  refine Zu (q_call (unicode_utf8_DecodeRuneInString_ct s0_8 ey30_11) rfl (fun _ _ => rfl)) ?_
  refine Zm ?_
  refine Zu (q_extract rfl rfl) ?_
  refine Zu (q_extract rfl rfl) ?_
  refine Zy ?_
  refine VC.keep (ρ' := [(0, str s0_8), (1, i64 n1_2), (6, a6_9.val), (7, i64 i7_10), (9, i64 y30_11.2)]) [0, 1, 6, 7, 9] rfl ?_
  refine Zq (Zr ?_)
  refine Zy ?_
  obtain ⟨b37, hS⟩ := gd_s hS
  obtain ⟨y37_12, ey37_12, hS⟩ := lt_s hS
  refine Zu (q_stoE Tryz.underlying9 rfl rfl b37.1 b37.2 ey37_12) ?_
  obtain ⟨z38_13, nz38_13, hz38_13, hS⟩ := at_s hS
  refine Zu (q_ixo (s := a6_9) Tryz.underlying89 gsz9 rfl rfl nz38_13 (lt_of_get nz38_13 hz38_13)) ?_
  refine VL.storeE (s := a6_9) (T := 9) (j := 0) (vc := [str y37_12]) (y37_12 : Str) (by decide) rfl rfl hz38_13 rfl gsz9 rfl rfl (Nat.le_of_ble_eq_true rfl) rfl (fun w14 hw14 haw14 hcw14 hvw14 hbw14 how14 => ?_)
  rw [← hvw14]
  replace hS := lt_to hw14 hS
  refine Zl ?_
  refine Zr ?_
  refine Zy ?_
  obtain ⟨b41, hS⟩ := gd_s hS
  obtain ⟨y41_16, ey41_16, hS⟩ := lt_s hS
  refine Zu (q_sfromE Tryz.underlying9 rfl rfl b41.1 b41.2 ey41_16) ?_
  refine Zy ?_
  refine VC.keep (ρ' := [(0, str y41_16), (1, i64 n1_2), (6, w14.val), (7, i64 i7_10)]) [0, 1, 6, 7] rfl ?_
  refine Zr ?_
  refine Zm ?_
  obtain ⟨b27, hS⟩ := gd_s hS
  refine Zu (q_add rfl rfl b27) ?_
  refine Za ?_
  refine VL.rnd (y41_16, w14, (i7_10 + 1)) [0, 1, 6, 7] (fun _ _ h => h) (go2 hS hK1) rfl
 replace hS := up2 hS hK1
 refine Zx ?_
 refine Zq (Zq (Zr ?_))
 refine Zm ?_
 refine Zu (q_gtr rfl rfl) ?_
 refine Zl ?_
 refine Zc hS (fun h43 hS => ?_) (fun h43 hS => ?_)
 ·
  refine Zr ?_
  refine Zy ?_
  obtain ⟨b46, hS⟩ := gd_s hS
  refine Zu (q_sub rfl rfl b46) ?_
  refine Zm ?_
  obtain ⟨z48_17, nz48_17, hz48_17, hS⟩ := at_s hS
  refine Zu (q_ixo (s := a6_9) Tryz.underlying89 gsz9 rfl rfl nz48_17 (lt_of_get nz48_17 hz48_17)) ?_
  refine VL.storeE (s := a6_9) (T := 9) (j := 0) (vc := [str s0_8]) (s0_8 : Str) (by decide) rfl rfl hz48_17 rfl gsz9 rfl rfl (Nat.le_of_ble_eq_true rfl) rfl (fun w18 hw18 haw18 hcw18 hvw18 hbw18 how18 => ?_)
  rw [← hvw18]
  replace hS := lt_to hw18 hS
  refine Zl ?_
  refine VC.keep (ρ' := [(6, w18.val)]) [6] rfl ?_
  refine Zq (Zr ?_)
  refine Zy ?_
  cases hS
  exact VC.ret (fin1 (.inr rfl) rfl rfl w18 rfl rfl (by (try dsimp only); exact InM.out) (by (try dsimp only); exact EntO.out))
 refine Zk ?_
 refine Zq (Zr ?_)
 refine Zy ?_
 refine VC.keep (ρ' := [(4, a6_9.val)]) [4] rfl ?_
 cases hS
 exact VC.ret (fin1 (.inr rfl) rfl rfl a6_9 rfl rfl (by (try dsimp only); exact InM.out) (by (try dsimp only); exact EntO.out))
theorem internal_stringslite_IndexByte_ct (s_0 : Str) (c_1 : Int) {r : Int} (hS : Sh.internal_stringslite_IndexByte s_0 c_1 = some r) :
 Ct Tryz.prog 304 [str s_0, .int .u8 c_1] Mo.tt (Ow.emp) (X := Unit) (fun _ => i64 r) (fun _ => True) (fun _ => Mo.tt) (fun _ => Ow.emp) := by
 refine Zo Tryz.func304 Tryz.ntmps304 fun c => ?_
 unfold Sh.internal_stringslite_IndexByte at hS
 refine Zq (Zr ?_)
 refine Zy ?_
 refine Zq (Zr ?_)
 refine Zy ?_
 refine Zu (q_extern Tryz.func308 rfl rfl (by kernel_rfl) (by kernel_rfl) rfl (fun w => x_ixS s_0 c_1 w)) ?_
 refine Zy ?_
 cases hS
 exact Ze
theorem internal_stringslite_Index_ct (s_0 : Str) (substr_1 : Str) {r : Int} (hS : Sh.internal_stringslite_Index s_0 substr_1 = some r) :
 Ct Tryz.prog 302 [str s_0, str substr_1] Mo.tt (Ow.emp) (X := Unit) (fun _ => i64 r) (fun _ => True) (fun _ => Mo.tt) (fun _ => Ow.emp) := by
 refine Zo Tryz.func302 Tryz.ntmps302 fun c => ?_
 unfold Sh.internal_stringslite_Index at hS
 refine Zq (Zr ?_)
 refine Zy ?_
 refine Zq (Zr ?_)
 refine Zm ?_
 refine Zu (q_slen Tryz.underlying9 rfl) ?_
 refine Zy ?_
 refine Zq (Zb ?_)
 refine VC.cutJ (S := Bool) (fun (x16_1 : Bool) => x16_1) (fun (x16_1 : Bool) => [(0, str s_0), (1, str substr_1), (5, i64 (substr_1.length : Int)), (16, .bool x16_1)]) (fun (x16_1 : Bool) => Mo.tt) (fun (x16_1 : Bool) => Ow.emp) hS ?_ ?_
 ·
  clear hS
  intro k2 hS
  refine Zr ?_
  refine Zm ?_
  refine Zu (q_eql rfl rfl) ?_
  refine Zm ?_
  refine Zsp 19 hS (fun h19 hS => ?_) (fun h19 hS => ?_)
  ·
   refine VL.runs 5 [(16, some true)] (by kernel_rfl) ?_
   refine VL.mt true [0, 1, 5, 16] (fun _ _ h => h) hS rfl
  refine Zy ?_
  refine Zh (q_seq rfl rfl) ?_
  refine Zy ?_
  refine VL.mt (decide (substr_1 = s_0)) [0, 1, 5, 16] (fun _ _ h => h) hS rfl
 clear hS
 rintro x16_1 hS
 refine Zcb hS (fun h16 hS => ?_) (fun h16 hS => ?_)
 ·
  refine Zq (Zr ?_)
  refine Zy ?_
  cases hS
  exact Ze
 refine Zq (Zr ?_)
 refine Zm ?_
 refine Zu (q_eql rfl rfl) ?_
 refine Zy ?_
 refine Zc hS (fun h24 hS => ?_) (fun h24 hS => ?_)
 ·
  refine Zq (Zr ?_)
  refine Zy ?_
  obtain ⟨z29_3, nz29_3, hz29_3, hS⟩ := at_s hS
  refine Zu (q_sidx Tryz.underlying9 rfl rfl nz29_3 hz29_3) ?_
  obtain ⟨y30_4, ey30_4, hS⟩ := bd_s hS
  refine Zu (q_call (internal_stringslite_IndexByte_ct s_0 (z29_3.toNat : Int) ey30_4) rfl (fun _ _ => rfl)) ?_
  refine Zy ?_
  refine VC.keep (ρ' := [(4, i64 y30_4)]) [4] rfl ?_
  cases hS
  exact Ze
 refine Zq (Zr ?_)
 refine Zy ?_
 refine Zu (q_slen Tryz.underlying9 rfl) ?_
 refine Zu (q_geq rfl rfl) ?_
 refine Zy ?_
 refine VC.keep (ρ' := [(0, str s_0), (1, str substr_1), (5, i64 (substr_1.length : Int)), (31, .bool (decide ((s_0.length : Int) ≤ (substr_1.length : Int))))]) [0, 1, 5, 31] rfl ?_
 refine Zc hS (fun h31 hS => ?_) (fun h31 hS => ?_)
 ·
  refine Zq (Zr ?_)
  refine Zy ?_
  cases hS
  exact Ze
 refine Zq (Zr ?_)
 refine Zm ?_
 cases hS
theorem strings_Index_ct (s_0 : Str) (substr_1 : Str) {r : Int} (hS : Sh.strings_Index s_0 substr_1 = some r) :
 Ct Tryz.prog 293 [str s_0, str substr_1] Mo.tt (Ow.emp) (X := Unit) (fun _ => i64 r) (fun _ => True) (fun _ => Mo.tt) (fun _ => Ow.emp) := by
 refine Zo Tryz.func293 Tryz.ntmps293 fun c => ?_
 unfold Sh.strings_Index at hS
 refine Zq (Zr ?_)
 refine Zy ?_
 refine Zq (Zr ?_)
 refine Zy ?_
 obtain ⟨y7_1, ey7_1, hS⟩ := bd_s hS
 refine Zu (q_call (internal_stringslite_Index_ct s_0 substr_1 ey7_1) rfl (fun _ _ => rfl)) ?_
 refine Zy ?_
 cases hS
 exact Ze
theorem strings_Count_ct (s_0 : Str) (substr_1 : Str) {r : Int} (hS : Sh.strings_Count s_0 substr_1 = some r) :
 Ct Tryz.prog 292 [str s_0, str substr_1] Mo.tt (Ow.emp) (X := Unit) (fun _ => i64 r) (fun _ => True) (fun _ => Mo.tt) (fun _ => Ow.emp) := by
 refine Zo Tryz.func292 Tryz.ntmps292 fun c => ?_
 unfold Sh.strings_Count at hS
 refine Zq (Zr ?_)
 refine Zy ?_
 refine Zq (Zq (Zr ?_))
 refine Zm ?_
 refine Zu (q_slen Tryz.underlying9 rfl) ?_
 refine Zu (q_eql rfl rfl) ?_
 refine Zl ?_
 refine Zc hS (fun h9 hS => ?_) (fun h9 hS => ?_)
 ·
  refine Zq (Zr ?_)
  refine Zm ?_
  obtain ⟨y11_1, ey11_1, hS⟩ := bd_s hS
  refine Zu (q_call (unicode_utf8_RuneCountInString_ct s_0 ey11_1) rfl (fun _ _ => rfl)) ?_
  obtain ⟨b12, hS⟩ := gd_s hS
  refine Zu (q_add rfl rfl b12) ?_
  refine Zy ?_
  cases hS
  exact Ze
 refine Zk ?_
 refine Zq (Zq (Zr ?_))
 refine Zm ?_
 refine Zu (q_slen Tryz.underlying9 rfl) ?_
 refine Zu (q_eql rfl rfl) ?_
 refine Zl ?_
 refine Zc hS (fun h15 hS => ?_) (fun h15 hS => ?_)
 ·
  refine Zq (Zr ?_)
  refine Zy ?_
  obtain ⟨z18_2, nz18_2, hz18_2, hS⟩ := at_s hS
  refine Zu (q_sidx Tryz.underlying9 rfl rfl nz18_2 hz18_2) ?_
  refine Zu (q_extern Tryz.func301 rfl rfl (by kernel_rfl) (by kernel_rfl) rfl (fun w => x_cntS s_0 (z18_2.toNat : Int) w)) ?_
  refine Zy ?_
  refine VC.keep (ρ' := [(4, i64 (cntB s_0 (z18_2.toNat : Int)))]) [4] rfl ?_
  cases hS
  exact Ze
 refine Zk ?_
 refine Zq (Zr ?_)
 refine Zy ?_
 refine Zb ?_
 refine VC.iter (S := Str × Int) (fun sg => (sg.1, sg.2)) (fun sg => [(0, str sg.1), (1, str substr_1), (5, i64 sg.2)]) (fun sg => Mo.tt) (fun sg => Ow.emp) (s_0, 0) [0, 1, 5] hS rfl ?_
 clear hS
 rintro ⟨s0_3, n5_4⟩ m1 y1 hS hK1
 refine Zb (Zq (Zr ?_))
 refine Zy ?_
 obtain ⟨y22_5, ey22_5, hS⟩ := bd_s hS
 refine Zu (q_call (strings_Index_ct s0_3 substr_1 ey22_5) rfl (fun _ _ => rfl)) ?_
 refine Zy ?_
 refine Zq (Zq (Zr ?_))
 refine Zm ?_
 refine Zu (q_eql rfl rfl) ?_
 refine Zl ?_
 refine Zc hS (fun h24 hS => ?_) (fun h24 hS => ?_)
 ·
  refine Zq (Zr ?_)
  refine Zy ?_
  refine VC.keep (ρ' := [(4, i64 n5_4)]) [4] rfl ?_
  replace hS := up2 hS hK1
  cases hS
  exact Ze
 refine Zk ?_
 refine Zq (Zr ?_)
 refine Zm ?_
 obtain ⟨b27, hS⟩ := gd_s hS
 refine Zu (q_add rfl rfl b27) ?_
 refine Zy ?_
 refine VC.keep (ρ' := [(0, str s0_3), (1, str substr_1), (5, i64 (n5_4 + 1)), (6, i64 y22_5)]) [0, 1, 5, 6] rfl ?_
 refine Zr ?_
 refine Zy ?_
 refine Zu (q_slen Tryz.underlying9 rfl) ?_
 obtain ⟨b32, hS⟩ := gd_s hS
 refine Zu (q_add rfl rfl b32) ?_
 obtain ⟨b33, hS⟩ := gd_s hS
 obtain ⟨y33_6, ey33_6, hS⟩ := lt_s hS
 refine Zu (q_sfromE Tryz.underlying9 rfl rfl b33.1 b33.2 ey33_6) ?_
 refine Za ?_
 refine VL.rnd (y33_6, (n5_4 + 1)) [0, 1, 5] (fun _ _ h => h) (go2 hS hK1) rfl
theorem strings_genSplit_ct (s_0 : Str) (sep_1 : Str) (sepSave_2 : Int) (n_3 : Int) {r : List Str} (hS : Sh.strings_genSplit s_0 sep_1 sepSave_2 n_3 = some r) :
 Ct Tryz.prog 274 [str s_0, str sep_1, i64 sepSave_2, i64 n_3] Mo.tt (Ow.emp) (X := Sv Str) (fun x => x.val) (fun x => r = x.l) (fun x => x.ok) (fun x => Ow.emp) := by
 refine Zo Tryz.func274 Tryz.ntmps274 fun c => ?_
 unfold Sh.strings_genSplit at hS
 refine Zq (Zr ?_)
 refine Zy ?_
 refine Zq (Zq (Zr ?_))
 refine Zm ?_
 refine Zu (q_eql rfl rfl) ?_
 refine Zl ?_
 refine Zc hS (fun h13 hS => ?_) (fun h13 hS => ?_)
 ·
  refine Zq (Zr ?_)
  refine Zy ?_
  cases hS
  exact VC.ret (fin1 (.inr rfl) rfl rfl ⟨none, 0, []⟩ rfl rfl (by (try dsimp only); exact InM.out) (fun _ _ => trivial))
 refine Zk ?_
 refine Zq (Zq (Zr ?_))
 refine Zy ?_
 refine Zc hS (fun h15 hS => ?_) (fun h15 hS => ?_)
 ·
  refine Zq (Zr ?_)
  refine Zy ?_
  obtain ⟨y18_1, ey18_1, hS⟩ := bd_s hS
  refine VL.callO (strings_explode_ct s_0 n_3 ey18_1) rfl (by decide) ?_
  rintro q18_1_0 rfl
  try dsimp only
  refine Zy ?_
  refine VC.keep (ρ' := [(8, q18_1_0.val)]) [8] rfl ?_
  refine VC.shut q18_1_0 9 (fun _ _ _ _ => trivial) ?_
  cases hS
  exact VC.ret (fin1 (.inr rfl) rfl rfl q18_1_0 rfl rfl (by (try dsimp only); exact InM.out) (fun _ _ => trivial))
 refine Zk ?_
 refine VC.cutJ (S := Int) (fun (n3_2 : Int) => n3_2) (fun (n3_2 : Int) => [(0, str s_0), (1, str sep_1), (2, i64 sepSave_2), (3, i64 n3_2)]) (fun (n3_2 : Int) => Mo.tt) (fun (n3_2 : Int) => Ow.emp) hS ?_ ?_
 ·
  clear hS
  intro k3 hS
  refine Zq (Zr ?_)
  refine Zm ?_
  refine Zu (q_lss rfl rfl) ?_
  refine Zl ?_
  refine Zc hS (fun h20 hS => ?_) (fun h20 hS => ?_)
  ·
   refine Zr ?_
   refine Zy ?_
   obtain ⟨y23_4, ey23_4, hS⟩ := bd_s hS
   refine Zu (q_call (strings_Count_ct s_0 sep_1 ey23_4) rfl (fun _ _ => rfl)) ?_
   obtain ⟨b24, hS⟩ := gd_s hS
   refine Zu (q_add rfl rfl b24) ?_
   refine Za ?_
   refine VL.mt (y23_4 + 1) [0, 1, 2, 3] (fun _ _ h => h) hS rfl
  refine VC.skip_mt n_3 [0, 1, 2, 3] (fun _ _ h => h) hS rfl
 clear hS
 rintro n3_2 hS
 refine Zq (Zr ?_)
 refine Zy ?_
 refine Zu (q_slen Tryz.underlying9 rfl) ?_
 obtain ⟨b28, hS⟩ := gd_s hS
 refine Zu (q_add rfl rfl b28) ?_
 refine Zu (q_min rfl) ?_
 refine Zy ?_
 refine Zq (Zr ?_)
 refine Zm ?_
 obtain ⟨b31, hS⟩ := gd_s hS
 refine VL.make (α := Str) (z := []) Tryz.underlying89 gmk9 (by decide) rfl rfl b31.1 (Int.le_refl _) (by omega) (by omega) (by decide) (fun s31_5 hs31_5 => ?_)
 replace hS := lt_to hs31_5 hS
 refine Zy ?_
 refine VC.keep (ρ' := [(0, str s_0), (1, str sep_1), (2, i64 sepSave_2), (3, i64 (min n3_2 ((s_0.length : Int) + 1))), (9, s31_5.val)]) [0, 1, 2, 3, 9] rfl ?_
 refine Zq (Zr ?_)
 refine Zm ?_
 obtain ⟨b33, hS⟩ := gd_s hS
 refine Zu (q_sub rfl rfl b33) ?_
 refine Zy ?_
 refine Zq (Zr ?_)
 refine Zy ?_
 refine VC.cutJ (S := Str × Sv Str × Int) (fun sg => (sg.1, sg.2.1.l, sg.2.2)) (fun sg => [(0, str sg.1), (9, sg.2.1.val), (10, i64 sg.2.2)]) (fun sg => Mo.tt) (fun sg => Ow.star (Sv.own sg.2.1 9) (Ow.emp)) hS ?_ ?_
 ·
  clear hS
  intro k10 hS
  refine Zb ?_
  refine VC.iter (S := Str × Sv Str × Int) (fun sg => (sg.1, sg.2.1.l, sg.2.2)) (fun sg => [(0, str sg.1), (1, str sep_1), (2, i64 sepSave_2), (3, i64 ((min n3_2 ((s_0.length : Int) + 1)) - 1)), (9, sg.2.1.val), (10, i64 sg.2.2)]) (fun sg => Mo.tt) (fun sg => Ow.star (Sv.own sg.2.1 9) (Ow.emp)) (s_0, s31_5, 0) [0, 1, 2, 3, 9, 10] hS rfl ?_
  clear hS
  rintro ⟨s0_11, a9_12, i10_13⟩ m1 y1 hS hK1
  refine Zq (Zq (Zr ?_))
  refine Zy ?_
  refine Zu (q_lss rfl rfl) ?_
  refine Zl ?_
  refine Zc hS (fun h36 hS => ?_) (fun h36 hS => ?_)
  ·
   refine Zk ?_
   refine Zb (Zq (Zr ?_))
   refine Zy ?_
   obtain ⟨y39_14, ey39_14, hS⟩ := bd_s hS
   refine Zu (q_call (strings_Index_ct s0_11 sep_1 ey39_14) rfl (fun _ _ => rfl)) ?_
   refine Zy ?_
   refine Zq (Zq (Zr ?_))
   refine Zm ?_
   refine Zu (q_lss rfl rfl) ?_
   refine Zl ?_
   refine VC.keep (ρ' := [(0, str s0_11), (1, str sep_1), (2, i64 sepSave_2), (3, i64 ((min n3_2 ((s_0.length : Int) + 1)) - 1)), (9, a9_12.val), (10, i64 i10_13), (11, i64 y39_14), (41, .bool (decide (y39_14 < 0)))]) [0, 1, 2, 3, 9, 10, 11, 41] rfl ?_
   refine Zc hS (fun h41 hS => ?_) (fun h41 hS => ?_)
   ·
    replace hS := up2 hS hK1
    refine VC.exit_mt (s0_11, a9_12, i10_13) [0, 9, 10] (fun _ _ h => h) hS rfl
   refine Zk ?_
   refine Zq (Zr ?_)
   refine Zy ?_
   obtain ⟨b47, hS⟩ := gd_s hS
   refine Zu (q_add rfl rfl b47) ?_
   obtain ⟨b48, hS⟩ := gd_s hS
   obtain ⟨y48_15, ey48_15, hS⟩ := lt_s hS
   refine Zu (q_stoE Tryz.underlying9 rfl rfl b48.1 b48.2 ey48_15) ?_
   obtain ⟨z49_16, nz49_16, hz49_16, hS⟩ := at_s hS
   refine Zu (q_ixo (s := a9_12) Tryz.underlying89 gsz9 rfl rfl nz49_16 (lt_of_get nz49_16 hz49_16)) ?_
   refine VL.storeE (s := a9_12) (T := 9) (j := 0) (vc := [str y48_15]) (y48_15 : Str) (by decide) rfl rfl hz49_16 rfl gsz9 rfl rfl (Nat.le_of_ble_eq_true rfl) rfl (fun w17 hw17 haw17 hcw17 hvw17 hbw17 how17 => ?_)
   rw [← hvw17]
   replace hS := lt_to hw17 hS
   refine Zl ?_
   refine VC.keep (ρ' := [(0, str s0_11), (1, str sep_1), (2, i64 sepSave_2), (3, i64 ((min n3_2 ((s_0.length : Int) + 1)) - 1)), (9, w17.val), (10, i64 i10_13), (11, i64 y39_14)]) [0, 1, 2, 3, 9, 10, 11] rfl ?_
   refine Zq (Zr ?_)
   refine Zy ?_
   refine Zu (q_slen Tryz.underlying9 rfl) ?_
   obtain ⟨b54, hS⟩ := gd_s hS
   refine Zu (q_add rfl rfl b54) ?_
   obtain ⟨b55, hS⟩ := gd_s hS
   obtain ⟨y55_19, ey55_19, hS⟩ := lt_s hS
   refine Zu (q_sfromE Tryz.underlying9 rfl rfl b55.1 b55.2 ey55_19) ?_
   refine Zy ?_
   refine VC.keep (ρ' := [(0, str y55_19), (1, str sep_1), (2, i64 sepSave_2), (3, i64 ((min n3_2 ((s_0.length : Int) + 1)) - 1)), (9, w17.val), (10, i64 i10_13)]) [0, 1, 2, 3, 9, 10] rfl ?_
   refine Zr ?_
   refine Zm ?_
   obtain ⟨b57, hS⟩ := gd_s hS
   refine Zu (q_add rfl rfl b57) ?_
   refine Za ?_
   refine VL.rnd (y55_19, w17, (i10_13 + 1)) [0, 1, 2, 3, 9, 10] (fun _ _ h => h) (go2 hS hK1) rfl
  replace hS := up2 hS hK1
  refine VC.exit_mt (s0_11, a9_12, i10_13) [0, 9, 10] (fun _ _ h => h) hS rfl
 clear hS
 rintro ⟨s0_7, a9_8, i10_9⟩ hS
 refine Zq (Zr ?_)
 refine Zy ?_
 obtain ⟨z61_20, nz61_20, hz61_20, hS⟩ := at_s hS
 refine Zu (q_ixo (s := a9_8) Tryz.underlying89 gsz9 rfl rfl nz61_20 (lt_of_get nz61_20 hz61_20)) ?_
 refine VL.storeE (s := a9_8) (T := 9) (j := 0) (vc := [str s0_7]) (s0_7 : Str) (by decide) rfl rfl hz61_20 rfl gsz9 rfl rfl (Nat.le_of_ble_eq_true rfl) rfl (fun w21 hw21 haw21 hcw21 hvw21 hbw21 how21 => ?_)
 rw [← hvw21]
 replace hS := lt_to hw21 hS
 refine Zl ?_
 refine Zq (Zr ?_)
 refine Zy ?_
 obtain ⟨b64, hS⟩ := gd_s hS
 refine Zu (q_add rfl rfl b64) ?_
 refine VL.shut w21 9 (fun _ _ _ _ => trivial) ?_
 obtain ⟨b65, hS⟩ := gd_s hS
 refine VL.sto Tryz.underlying89 gsz9 rfl rfl b65.1 (b65.2) (by decide) fun s65_23 hs65_23 => ?_
 replace hS := lt_to hs65_23 hS
 refine Zy ?_
 refine VC.keep (ρ' := [(8, s65_23.val)]) [8] rfl ?_
 cases hS
 exact VC.ret (fin1 (.inr rfl) rfl rfl s65_23 rfl rfl (by (try dsimp only); exact InM.out) (fun _ _ => trivial))
theorem strings_Split_ct (s_0 : Str) (sep_1 : Str) {r : List Str} (hS : Sh.strings_Split s_0 sep_1 = some r) :
 Ct Tryz.prog 247 [str s_0, str sep_1] Mo.tt (Ow.emp) (X := Sv Str) (fun x => x.val) (fun x => r = x.l) (fun x => x.ok) (fun x => Ow.emp) := by
 refine Zo Tryz.func247 Tryz.ntmps247 fun c => ?_
 unfold Sh.strings_Split at hS
 refine Zq (Zr ?_)
 refine Zy ?_
 refine Zq (Zr ?_)
 refine Zy ?_
 obtain ⟨y7_1, ey7_1, hS⟩ := bd_s hS
 refine VL.callF (strings_genSplit_ct s_0 sep_1 0 (-1) ey7_1) rfl (by decide) ?_
 rintro q7_1_0 rfl
 try dsimp only
 refine Zy ?_
 cases hS
 exact VC.ret (fin1 (.inr rfl) rfl rfl q7_1_0 rfl rfl (by (try dsimp only); exact InM.out) (fun _ _ => trivial))
theorem path_good_ct (c_0 : Int) {r : Bool} (hS : Sh.path_good c_0 = some r) :
 Ct Tryz.prog 275 [.int .u8 c_0] Mo.tt (Ow.emp) (X := Unit) (fun _ => .bool r) (fun _ => True) (fun _ => Mo.tt) (fun _ => Ow.emp) := by
 refine Zo Tryz.func275 Tryz.ntmps275 fun c => ?_
 unfold Sh.path_good at hS
 refine Zq (Zr ?_)
 refine Zy ?_
 refine VC.cutJ (S := Unit) (fun (_ : Unit) => ()) (fun (_ : Unit) => [(0, .int .u8 c_0)]) (fun (_ : Unit) => Mo.tt) (fun (_ : Unit) => Ow.emp) hS ?_ ?_
 ·
  clear hS
  intro k1 hS
  refine Zq (Zr ?_)
  refine Zy ?_
  refine Zb ?_
  refine VC.cutJ (S := Unit) (fun (_ : Unit) => ()) (fun (_ : Unit) => []) (fun (_ : Unit) => Mo.tt) (fun (_ : Unit) => Ow.emp) hS ?_ ?_
  ·
   clear hS
   intro k2 hS
   refine Zb (Zb (Zb (Zq (Zq (Zq (Zr ?_))))))
   refine Zu (q_eql rfl rfl) ?_
   refine Zy ?_
   refine Zc hS (fun h4 hS => ?_) (fun h4 hS => ?_)
   ·
    refine VC.exit_mt () [] (fun _ _ h => h) hS rfl
   refine Zk ?_
   refine Zq (Zq (Zr ?_))
   refine Zu (q_eql rfl rfl) ?_
   refine Zy ?_
   refine Zc hS (fun h6 hS => ?_) (fun h6 hS => ?_)
   ·
    refine VC.exit_mt () [] (fun _ _ h => h) hS rfl
   refine Zk ?_
   refine Zq (Zr ?_)
   refine Zu (q_eql rfl rfl) ?_
   refine Zy ?_
   refine Zc hS (fun h8 hS => ?_) (fun h8 hS => ?_)
   ·
    refine VC.exit_mt () [] (fun _ _ h => h) hS rfl
   refine Zk ?_
   refine VC.exit_mt () [0] (fun _ _ h => h) hS rfl
  clear hS
  rintro _ hS
  refine Zq (Zq (Zr ?_))
  refine Zy ?_
  cases hS
  exact Ze
 clear hS
 rintro _ hS
 refine Zq (Zr ?_)
 refine Zm ?_
 refine Zu (q_geq rfl rfl) ?_
 refine Zm ?_
 refine Zsp 12 hS (fun h12 hS => ?_) (fun h12 hS => ?_)
 ·
  refine Zg ?_
  refine Zh (q_leq rfl rfl) ?_
  refine Zy ?_
  refine Zsp 16 hS (fun h16 hS => ?_) (fun h16 hS => ?_)
  ·
   refine VL.runs 8 [(2, some true)] (by kernel_rfl) ?_
   refine Zl ?_
   cases hS
   exact Ze
  refine Zg ?_
  refine Zh (q_geq rfl rfl) ?_
  refine Zg ?_
  refine Zsp 19 hS (fun h19 hS => ?_) (fun h19 hS => ?_)
  ·
   refine Zg ?_
   refine Zh (q_leq rfl rfl) ?_
   refine Zh (q_pick_t rfl rfl) ?_
   refine Zy ?_
   refine VC.keep (ρ' := [(2, .bool (decide (c_0 ≤ 57)))]) [2] rfl ?_
   cases hS
   exact Ze
  refine Zy ?_
  refine Zh (q_pick_f rfl rfl) ?_
  refine Zy ?_
  refine VC.keep (ρ' := [(2, .bool false)]) [2] rfl ?_
  cases hS
  exact Ze
 refine VL.runs 4 [(16, some false)] (by kernel_rfl) ?_
 refine Zg ?_
 refine Zh (q_geq rfl rfl) ?_
 refine Zg ?_
 refine Zsp 19 hS (fun h19 hS => ?_) (fun h19 hS => ?_)
 ·
  refine Zg ?_
  refine Zh (q_leq rfl rfl) ?_
  refine Zh (q_pick_t rfl rfl) ?_
  refine Zy ?_
  refine VC.keep (ρ' := [(2, .bool (decide (c_0 ≤ 57)))]) [2] rfl ?_
  cases hS
  exact Ze
 refine Zy ?_
 refine Zh (q_pick_f rfl rfl) ?_
 refine Zy ?_
 refine VC.keep (ρ' := [(2, .bool false)]) [2] rfl ?_
 cases hS
 exact Ze
theorem path_part_ct (s_0 : Str) {r : Bool} (hS : Sh.path_part s_0 = some r) :
 Ct Tryz.prog 248 [str s_0] Mo.tt (Ow.emp) (X := Unit) (fun _ => .bool r) (fun _ => True) (fun _ => Mo.tt) (fun _ => Ow.emp) := by
 refine Zo Tryz.func248 Tryz.ntmps248 fun c => ?_
 unfold Sh.path_part at hS
 refine Zq (Zr ?_)
 refine Zy ?_
 refine Zq ?_
 refine VC.cutJ (S := Bool) (fun (x14_1 : Bool) => x14_1) (fun (x14_1 : Bool) => [(0, str s_0), (14, .bool x14_1)]) (fun (x14_1 : Bool) => Mo.tt) (fun (x14_1 : Bool) => Ow.emp) hS ?_ ?_
 ·
  clear hS
  intro k2 hS
  refine Zr ?_
  refine Zy ?_
  refine Zsp 7 hS (fun h7 hS => ?_) (fun h7 hS => ?_)
  ·
   refine VL.runs 7 [(14, some true)] (by kernel_rfl) ?_
   refine VL.mt true [0, 14] (fun _ _ h => h) hS rfl
  refine Zg ?_
  refine Zh (q_seq rfl rfl) ?_
  refine Zy ?_
  refine Zsp 11 hS (fun h11 hS => ?_) (fun h11 hS => ?_)
  ·
   refine VL.runs 3 [(14, some true)] (by kernel_rfl) ?_
   refine VL.mt true [0, 14] (fun _ _ h => h) hS rfl
  refine Zg ?_
  refine Zh (q_seq rfl rfl) ?_
  refine Zf ?_
  refine VL.mt (decide (s_0 = [46, 46])) [0, 14] (fun _ _ h => h) hS rfl
 clear hS
 rintro x14_1 hS
 refine Zcb hS (fun h14 hS => ?_) (fun h14 hS => ?_)
 ·
  refine Zq (Zr ?_)
  refine Zy ?_
  cases hS
  exact Ze
 refine Zk ?_
 refine Zq (Zq (Zr ?_))
 refine Zm ?_
 obtain ⟨b16, hS⟩ := gd_s hS
 refine VL.s2b Tryz.underlying9 Tryz.underlying22 Tryz.underlying5 rfl b16 (by decide) fun s16_3 hs16_3 => ?_
 replace hS := lt_to hs16_3 hS
 refine Zu (q_ln (s := s16_3) Tryz.underlying22 rfl) ?_
 refine Zy ?_
 refine Zb ?_
 refine VC.iter (S := Int) (fun (x18_5 : Int) => x18_5) (fun (x18_5 : Int) => [(16, s16_3.val), (17, i64 (s16_3.l.length : Int)), (18, i64 x18_5)]) (fun (x18_5 : Int) => Mo.tt) (fun (x18_5 : Int) => Ow.emp) 0 [16, 17, 18] hS rfl ?_
 clear hS
 rintro x18_5 m1 y1 hS hK1
 refine Zq (Zr ?_)
 refine Zu (q_lss rfl rfl) ?_
 refine Zl ?_
 refine Zq ?_
 refine Zc hS (fun h19 hS => ?_) (fun h19 hS => ?_)
 ·
  refine Zk ?_
  refine Zq (Zb (Zq (Zr ?_)))
  obtain ⟨z20_6, nz20_6, hz20_6, hS⟩ := at_s hS
  refine Zu (q_ixm (s := s16_3) Tryz.underlying22 gsz5 rfl rfl nz20_6 (lt_of_get nz20_6 hz20_6)) ?_
  refine Zu (q_el (s := s16_3) gone5 rfl hz20_6 rfl) ?_
  refine Zy ?_
  refine Zq (Zr ?_)
  refine Zm ?_
  obtain ⟨y23_7, ey23_7, hS⟩ := bd_s hS
  refine Zu (q_call (path_good_ct (z20_6.toNat : Int) ey23_7) rfl (fun _ _ => rfl)) ?_
  refine Zu (q_not rfl) ?_
  refine Zl ?_
  refine Zcb hS (fun h24 hS => ?_) (fun h24 hS => ?_)
  ·
   refine Zq (Zr ?_)
   refine Zy ?_
   refine VC.keep (ρ' := [(2, .bool false)]) [2] rfl ?_
   replace hS := up2 hS hK1
   cases hS
   exact Ze
  refine Zk ?_
  refine Zr ?_
  obtain ⟨b25, hS⟩ := gd_s hS
  refine Zu (q_add rfl rfl b25) ?_
  refine Zm ?_
  refine VL.rnd (x18_5 + 1) [16, 17, 18] (fun _ _ h => h) (go2 hS hK1) rfl
 replace hS := up2 hS hK1
 refine Zx ?_
 refine Zq (Zr ?_)
 refine Zy ?_
 cases hS
 exact Ze
theorem path_Check_ct (p_0 : Str) {r : Int} (hS : Sh.path_Check p_0 = some r) :
 Ct Tryz.prog 217 [str p_0] Mo.tt (Ow.emp) (X := Unit) (fun _ => i64 r) (fun _ => True) (fun _ => Mo.tt) (fun _ => Ow.emp) := by
 refine Zo Tryz.func217 Tryz.ntmps217 fun c => ?_
 unfold Sh.path_Check at hS
 refine Zq (Zr ?_)
 refine Zy ?_
 refine Zq (Zq (Zr ?_))
 refine Zm ?_
 refine Zu (q_slen Tryz.underlying9 rfl) ?_
 refine Zu (q_gtr rfl rfl) ?_
 refine Zl ?_
 refine Zc hS (fun h7 hS => ?_) (fun h7 hS => ?_)
 ·
  refine Zq (Zr ?_)
  refine Zy ?_
  cases hS
  exact Ze
 refine Zk ?_
 refine Zq (Zq (Zr ?_))
 refine Zm ?_
 obtain ⟨y9_1, ey9_1, hS⟩ := bd_s hS
 refine VL.callF (strings_Split_ct p_0 [47] ey9_1) rfl (by decide) ?_
 rintro q9_1_0 rfl
 try dsimp only
 refine Zu (q_ln (s := q9_1_0) Tryz.underlying89 rfl) ?_
 refine Zy ?_
 refine Zb ?_
 refine VC.iter (S := Int) (fun (x11_2 : Int) => x11_2) (fun (x11_2 : Int) => [(9, q9_1_0.val), (10, i64 (q9_1_0.l.length : Int)), (11, i64 x11_2)]) (fun (x11_2 : Int) => Mo.tt) (fun (x11_2 : Int) => Ow.emp) 0 [9, 10, 11] hS rfl ?_
 clear hS
 rintro x11_2 m1 y1 hS hK1
 refine Zq (Zr ?_)
 refine Zu (q_lss rfl rfl) ?_
 refine Zl ?_
 refine Zq ?_
 refine Zc hS (fun h12 hS => ?_) (fun h12 hS => ?_)
 ·
  refine Zk ?_
  refine Zq (Zb (Zq (Zr ?_)))
  obtain ⟨z13_3, nz13_3, hz13_3, hS⟩ := at_s hS
  refine Zu (q_ixm (s := q9_1_0) Tryz.underlying89 gsz9 rfl rfl nz13_3 (lt_of_get nz13_3 hz13_3)) ?_
  refine Zu (q_el (s := q9_1_0) gone9 rfl hz13_3 rfl) ?_
  refine Zy ?_
  refine Zq (Zr ?_)
  refine Zm ?_
  obtain ⟨y16_4, ey16_4, hS⟩ := bd_s hS
  refine Zu (q_call (path_part_ct z13_3 ey16_4) rfl (fun _ _ => rfl)) ?_
  refine Zu (q_not rfl) ?_
  refine Zl ?_
  refine Zcb hS (fun h17 hS => ?_) (fun h17 hS => ?_)
  ·
   refine Zq (Zr ?_)
   refine Zy ?_
   refine VC.keep (ρ' := [(2, i64 5)]) [2] rfl ?_
   replace hS := up2 hS hK1
   cases hS
   exact Ze
  refine Zk ?_
  refine Zr ?_
  obtain ⟨b18, hS⟩ := gd_s hS
  refine Zu (q_add rfl rfl b18) ?_
  refine Zm ?_
  refine VL.rnd (x11_2 + 1) [9, 10, 11] (fun _ _ h => h) (go2 hS hK1) rfl
 replace hS := up2 hS hK1
 refine Zx ?_
 refine Zq (Zr ?_)
 refine Zy ?_
 cases hS
 exact Ze
theorem cmp_isNaN_string_ct (x_0 : Str) {r : Bool} (hS : Sh.cmp_isNaN_string x_0 = some r) :
 Ct Tryz.prog 227 [str x_0] Mo.tt (Ow.emp) (X := Unit) (fun _ => .bool r) (fun _ => True) (fun _ => Mo.tt) (fun _ => Ow.emp) := by
 refine Zo Tryz.func227 Tryz.ntmps227 fun c => ?_
 unfold Sh.cmp_isNaN_string at hS
 refine Zq (Zr ?_)
 refine Zy ?_
 refine Zq (Zr ?_)
 refine Zy ?_
 refine Zu (q_sne rfl rfl) ?_
 refine Zy ?_
 cases hS
 exact Ze
theorem cmp_Compare_string_ct (x_0 : Str) (y_1 : Str) {r : Int} (hS : Sh.cmp_Compare_string x_0 y_1 = some r) :
 Ct Tryz.prog 182 [str x_0, str y_1] Mo.tt (Ow.emp) (X := Unit) (fun _ => i64 r) (fun _ => True) (fun _ => Mo.tt) (fun _ => Ow.emp) := by
 refine Zo Tryz.func182 Tryz.ntmps182 fun c => ?_
 unfold Sh.cmp_Compare_string at hS
 refine Zq (Zr ?_)
 refine Zy ?_
 refine Zq (Zr ?_)
 refine Zm ?_
 obtain ⟨y8_1, ey8_1, hS⟩ := bd_s hS
 refine Zu (q_call (cmp_isNaN_string_ct x_0 ey8_1) rfl (fun _ _ => rfl)) ?_
 refine Zy ?_
 refine Zq (Zr ?_)
 refine Zm ?_
 obtain ⟨y10_2, ey10_2, hS⟩ := bd_s hS
 refine Zu (q_call (cmp_isNaN_string_ct y_1 ey10_2) rfl (fun _ _ => rfl)) ?_
 refine Zy ?_
 refine Zq (Zq (Zr ?_))
 refine Zy ?_
 refine Zcb hS (fun h11 hS => ?_) (fun h11 hS => ?_)
 ·
  refine Zq (Zq (Zr ?_))
  refine Zy ?_
  refine VC.keep (ρ' := [(12, .bool y10_2)]) [12] rfl ?_
  refine Zcb hS (fun h12 hS => ?_) (fun h12 hS => ?_)
  ·
   refine Zq (Zr ?_)
   refine Zy ?_
   cases hS
   exact Ze
  refine Zk ?_
  refine Zq (Zr ?_)
  refine Zy ?_
  cases hS
  exact Ze
 refine Zk ?_
 refine Zq (Zq (Zr ?_))
 refine Zy ?_
 refine VC.keep (ρ' := [(0, str x_0), (1, str y_1), (13, .bool y10_2)]) [0, 1, 13] rfl ?_
 refine Zcb hS (fun h13 hS => ?_) (fun h13 hS => ?_)
 ·
  refine Zq (Zr ?_)
  refine Zy ?_
  cases hS
  exact Ze
 refine Zk ?_
 refine Zq (Zq (Zr ?_))
 refine Zy ?_
 refine Zu (q_slss rfl rfl) ?_
 refine Zl ?_
 refine Zcb hS (fun h16 hS => ?_) (fun h16 hS => ?_)
 ·
  refine Zq (Zr ?_)
  refine Zy ?_
  cases hS
  exact Ze
 refine Zk ?_
 refine Zq (Zq (Zr ?_))
 refine Zy ?_
 refine Zu (q_sgtr rfl rfl) ?_
 refine Zl ?_
 refine Zcb hS (fun h19 hS => ?_) (fun h19 hS => ?_)
 ·
  refine Zq (Zr ?_)
  refine Zy ?_
  cases hS
  exact Ze
 refine Zk ?_
 refine Zq (Zr ?_)
 refine Zy ?_
 cases hS
 exact Ze
theorem path_Compare_ct (a_0 : Str) (b_1 : Str) {r : Int} (hS : Sh.path_Compare a_0 b_1 = some r) :
 Ct Tryz.prog 218 [str a_0, str b_1] Mo.tt (Ow.emp) (X := Unit) (fun _ => i64 r) (fun _ => True) (fun _ => Mo.tt) (fun _ => Ow.emp) := by
 refine Zo Tryz.func218 Tryz.ntmps218 fun c => ?_
 unfold Sh.path_Compare at hS
 refine Zq (Zr ?_)
 refine Zy ?_
 refine Zq (Zr ?_)
 refine Zy ?_
 obtain ⟨y7_1, ey7_1, hS⟩ := bd_s hS
 refine Zu (q_call (cmp_Compare_string_ct a_0 b_1 ey7_1) rfl (fun _ _ => rfl)) ?_
 refine Zy ?_
 cases hS
 exact Ze
theorem internal_stringslite_HasPrefix_ct (s_0 : Str) (prefix_1 : Str) {r : Bool} (hS : Sh.internal_stringslite_HasPrefix s_0 prefix_1 = some r) :
 Ct Tryz.prog 294 [str s_0, str prefix_1] Mo.tt (Ow.emp) (X := Unit) (fun _ => .bool r) (fun _ => True) (fun _ => Mo.tt) (fun _ => Ow.emp) := by
 refine Zo Tryz.func294 Tryz.ntmps294 fun c => ?_
 unfold Sh.internal_stringslite_HasPrefix at hS
 refine Zq (Zr ?_)
 refine Zy ?_
 refine Zq (Zr ?_)
 refine Zm ?_
 refine Zu (q_slen Tryz.underlying9 rfl) ?_
 refine Zm ?_
 refine Zu (q_slen Tryz.underlying9 rfl) ?_
 refine Zu (q_geq rfl rfl) ?_
 refine Zm ?_
 refine Zsp 10 hS (fun h10 hS => ?_) (fun h10 hS => ?_)
 ·
  refine Zy ?_
  refine Zh (q_slen Tryz.underlying9 rfl) ?_
  obtain ⟨b14, hS⟩ := gd_s hS
  obtain ⟨y14_1, ey14_1, hS⟩ := lt_s hS
  refine Zh (q_stoE Tryz.underlying9 rfl rfl b14.1 b14.2 ey14_1) ?_
  refine Zg ?_
  refine Zh (q_seq rfl rfl) ?_
  refine Zy ?_
  refine VC.keep (ρ' := [(4, .bool (decide (y14_1 = prefix_1)))]) [4] rfl ?_
  cases hS
  exact Ze
 refine VL.runs 8 [(4, some false)] (by kernel_rfl) ?_
 refine Zl ?_
 cases hS
 exact Ze
theorem strings_HasPrefix_ct (s_0 : Str) (prefix_1 : Str) {r : Bool} (hS : Sh.strings_HasPrefix s_0 prefix_1 = some r) :
 Ct Tryz.prog 276 [str s_0, str prefix_1] Mo.tt (Ow.emp) (X := Unit) (fun _ => .bool r) (fun _ => True) (fun _ => Mo.tt) (fun _ => Ow.emp) := by
 refine Zo Tryz.func276 Tryz.ntmps276 fun c => ?_
 unfold Sh.strings_HasPrefix at hS
 refine Zq (Zr ?_)
 refine Zy ?_
 refine Zq (Zr ?_)
 refine Zy ?_
 obtain ⟨y7_1, ey7_1, hS⟩ := bd_s hS
 refine Zu (q_call (internal_stringslite_HasPrefix_ct s_0 prefix_1 ey7_1) rfl (fun _ _ => rfl)) ?_
 refine Zy ?_
 cases hS
 exact Ze
theorem path_Under_ct (p_0 : Str) (dir_1 : Str) {r : Bool} (hS : Sh.path_Under p_0 dir_1 = some r) :
 Ct Tryz.prog 250 [str p_0, str dir_1] Mo.tt (Ow.emp) (X := Unit) (fun _ => .bool r) (fun _ => True) (fun _ => Mo.tt) (fun _ => Ow.emp) := by
 refine Zo Tryz.func250 Tryz.ntmps250 fun c => ?_
 unfold Sh.path_Under at hS
 refine Zq (Zr ?_)
 refine Zy ?_
 refine Zq (Zq (Zr ?_))
 refine Zy ?_
 refine Zc hS (fun h6 hS => ?_) (fun h6 hS => ?_)
 ·
  refine Zq (Zr ?_)
  refine Zm ?_
  refine Zu (q_sne rfl rfl) ?_
  refine Zy ?_
  cases hS
  exact Ze
 refine Zk ?_
 refine Zq (Zr ?_)
 refine Zm ?_
 refine Zu (q_slen Tryz.underlying9 rfl) ?_
 refine Zm ?_
 refine Zu (q_slen Tryz.underlying9 rfl) ?_
 obtain ⟨b13, hS⟩ := gd_s hS
 refine Zu (q_add rfl rfl b13) ?_
 refine Zu (q_gtr rfl rfl) ?_
 refine Zm ?_
 refine Zsp 15 hS (fun h15 hS => ?_) (fun h15 hS => ?_)
 ·
  refine Zy ?_
  obtain ⟨b18, hS⟩ := gd_s hS
  obtain ⟨y18_1, ey18_1, hS⟩ := lt_s hS
  refine Zh (q_catE rfl rfl b18 ey18_1) ?_
  obtain ⟨y19_2, ey19_2, hS⟩ := bd_s hS
  refine Zh (q_call (strings_HasPrefix_ct p_0 y18_1 ey19_2) rfl (fun _ _ => rfl)) ?_
  refine Zy ?_
  refine VC.keep (ρ' := [(4, .bool y19_2)]) [4] rfl ?_
  cases hS
  exact Ze
 refine VL.runs 6 [(4, some false)] (by kernel_rfl) ?_
 refine Zl ?_
 refine VC.keep (ρ' := [(4, .bool false)]) [4] rfl ?_
 cases hS
 exact Ze
theorem path_Clash_ct (a_0 : Str) (b_1 : Str) {r : Bool} (hS : Sh.path_Clash a_0 b_1 = some r) :
 Ct Tryz.prog 221 [str a_0, str b_1] Mo.tt (Ow.emp) (X := Unit) (fun _ => .bool r) (fun _ => True) (fun _ => Mo.tt) (fun _ => Ow.emp) := by
 refine Zo Tryz.func221 Tryz.ntmps221 fun c => ?_
 unfold Sh.path_Clash at hS
 refine Zq (Zr ?_)
 refine Zy ?_
 refine Zq (Zr ?_)
 refine Zm ?_
 refine Zu (q_sne rfl rfl) ?_
 refine Zm ?_
 refine Zspn 7 hS (fun h7 hS => ?_) (fun h7 hS => ?_)
 ·
  refine Zg ?_
  refine Zh (q_sne rfl rfl) ?_
  refine Zy ?_
  refine Zspn 11 hS (fun h11 hS => ?_) (fun h11 hS => ?_)
  ·
   refine Zy ?_
   obtain ⟨y14_1, ey14_1, hS⟩ := bd_s hS
   refine Zh (q_call (path_Under_ct a_0 b_1 ey14_1) rfl (fun _ _ => rfl)) ?_
   refine Zg ?_
   refine Zspb 15 hS (fun h15 hS => ?_) (fun h15 hS => ?_)
   ·
    refine VL.runs 3 [(18, none)] (by kernel_rfl) ?_
    refine Zh (q_pick_t rfl rfl) ?_
    refine Zy ?_
    refine VC.keep (ρ' := [(4, .bool true)]) [4] rfl ?_
    cases hS
    exact Ze
   refine Zy ?_
   obtain ⟨y18_2, ey18_2, hS⟩ := bd_s hS
   refine Zh (q_call (path_Under_ct b_1 a_0 ey18_2) rfl (fun _ _ => rfl)) ?_
   refine Zh (q_pick_f rfl rfl) ?_
   refine Zy ?_
   refine VC.keep (ρ' := [(4, .bool y18_2)]) [4] rfl ?_
   cases hS
   exact Ze
  refine VL.runs 10 [(4, some false)] (by kernel_rfl) ?_
  refine Zl ?_
  cases hS
  exact Ze
 refine VL.runs 14 [(4, some false)] (by kernel_rfl) ?_
 refine Zl ?_
 cases hS
 exact Ze
theorem files_Row_wrong_1_ct (g_0 : FilesFile) (a_1_b : Nat) (a_1 : FilesFile) {r : Bool} (hS : Sh.files_Row_wrong_1 g_0 a_1 = some r) :
 Ct Tryz.prog 220 [.agg #[str g_0.path, i64 g_0.mode, str g_0.data], ptr a_1_b 0] (Cells a_1_b 0 [str a_1.path, i64 a_1.mode, str a_1.data]) (Ow.emp) (X := Unit) (fun _ => .bool r) (fun _ => True) (fun _ => Mo.tt) (fun _ => Ow.emp) := by
 refine Zo Tryz.func220 Tryz.ntmps220 fun c => ?_
 unfold Sh.files_Row_wrong_1 at hS
 refine Zq (Zr ?_)
 refine VL.box (cs := [str g_0.path, i64 g_0.mode, str g_0.data]) rfl rfl (by decide) fun b2_1 => ?_
 refine Zy ?_
 refine Zq (Zr ?_)
 refine Zu (q_field gfa185_0 rfl) ?_
 refine Zu (q_fe gone9 rfl rfl) ?_
 refine Zu (q_field gfa185_0 rfl) ?_
 refine Zu (q_fm gone9 rfl rfl) ?_
 obtain ⟨y8_2, ey8_2, hS⟩ := bd_s hS
 refine Zu (q_call (path_Clash_ct g_0.path a_1.path ey8_2) rfl (fun _ _ => rfl)) ?_
 refine Zy ?_
 cases hS
 exact Ze
theorem slices_IndexFunc_files_Row_files_File_ct (s_0 : Sv FilesFile) (f_1_0_b : Nat) (f_1_0 : FilesFile) {r : Int} (hS : Sh.slices_IndexFunc_files_Row_files_File s_0.l f_1_0 = some r) :
 Ct Tryz.prog 249 [s_0.val, .func (.func 220) #[] #[ptr f_1_0_b 0]] (s_0.ok.and (Cells f_1_0_b 0 [str f_1_0.path, i64 f_1_0.mode, str f_1_0.data])) (Ow.emp) (X := Unit) (fun _ => i64 r) (fun _ => True) (fun _ => Mo.tt) (fun _ => Ow.emp) := by
 refine Zo Tryz.func249 Tryz.ntmps249 fun c => ?_
 unfold Sh.slices_IndexFunc_files_Row_files_File at hS
 refine Zq (Zr ?_)
 refine Zy ?_
 refine Zq (Zq (Zr ?_))
 refine Zm ?_
 refine Zu (q_ln (s := s_0) Tryz.underlying50 rfl) ?_
 refine Zy ?_
 refine Zb ?_
 refine VC.iter (S := Int) (fun (x8_1 : Int) => x8_1) (fun (x8_1 : Int) => [(0, s_0.val), (1, .func (.func 220) #[] #[ptr f_1_0_b 0]), (7, i64 (s_0.l.length : Int)), (8, i64 x8_1)]) (fun (x8_1 : Int) => Mo.tt) (fun (x8_1 : Int) => Ow.emp) 0 [0, 1, 7, 8] hS rfl ?_
 clear hS
 rintro x8_1 m1 y1 hS hK1
 refine Zq (Zr ?_)
 refine Zu (q_lss rfl rfl) ?_
 refine Zl ?_
 refine Zq ?_
 refine Zc hS (fun h9 hS => ?_) (fun h9 hS => ?_)
 ·
  refine Zk ?_
  refine Zq (Zb (Zq (Zr ?_)))
  refine Zy ?_
  refine Zq (Zr ?_)
  refine Zy ?_
  obtain ⟨z14_2, nz14_2, hz14_2, hS⟩ := at_s hS
  refine Zu (q_ixm (s := s_0) Tryz.underlying50 gsz185 rfl rfl nz14_2 (lt_of_get nz14_2 hz14_2)) ?_
  refine Zu (q_els (s := s_0) gagg185 rfl rfl hz14_2) ?_
  obtain ⟨y16_3, ey16_3, hS⟩ := bd_s hS
  refine Zu (q_callVC (vs := [.agg #[str z14_2.path, i64 z14_2.mode, str z14_2.data]]) (caps := [ptr f_1_0_b 0]) (files_Row_wrong_1_ct z14_2 f_1_0_b f_1_0 ey16_3) rfl rfl (fun _ _ => rfl)) ?_
  refine Zl ?_
  refine VC.keep (ρ' := [(0, s_0.val), (1, .func (.func 220) #[] #[ptr f_1_0_b 0]), (7, i64 (s_0.l.length : Int)), (8, i64 x8_1), (5, i64 x8_1), (16, .bool y16_3)]) [0, 1, 7, 8, 5, 16] rfl ?_
  refine Zcb hS (fun h16 hS => ?_) (fun h16 hS => ?_)
  ·
   refine Zq (Zr ?_)
   refine Zy ?_
   replace hS := up2 hS hK1
   cases hS
   exact Ze
  refine Zk ?_
  refine Zr ?_
  obtain ⟨b18, hS⟩ := gd_s hS
  refine Zu (q_add rfl rfl b18) ?_
  refine Zm ?_
  refine VL.rnd (x8_1 + 1) [0, 1, 7, 8] (fun _ _ h => h) (go2 hS hK1) rfl
 replace hS := up2 hS hK1
 refine Zx ?_
 refine Zq (Zr ?_)
 refine Zy ?_
 cases hS
 exact Ze
theorem slices_ContainsFunc_files_Row_files_File_ct (s_0 : Sv FilesFile) (f_1_0_b : Nat) (f_1_0 : FilesFile) {r : Bool} (hS : Sh.slices_ContainsFunc_files_Row_files_File s_0.l f_1_0 = some r) :
 Ct Tryz.prog 219 [s_0.val, .func (.func 220) #[] #[ptr f_1_0_b 0]] (s_0.ok.and (Cells f_1_0_b 0 [str f_1_0.path, i64 f_1_0.mode, str f_1_0.data])) (Ow.emp) (X := Unit) (fun _ => .bool r) (fun _ => True) (fun _ => Mo.tt) (fun _ => Ow.emp) := by
 refine Zo Tryz.func219 Tryz.ntmps219 fun c => ?_
 unfold Sh.slices_ContainsFunc_files_Row_files_File at hS
 refine Zq (Zr ?_)
 refine Zy ?_
 refine Zq (Zr ?_)
 refine Zy ?_
 obtain ⟨y7_1, ey7_1, hS⟩ := bd_s hS
 refine Zu (q_callR (slices_IndexFunc_files_Row_files_File_ct s_0 f_1_0_b f_1_0 ey7_1) rfl (fun _ _ => rfl)) ?_
 refine Zu (q_geq rfl rfl) ?_
 refine Zy ?_
 cases hS
 exact Ze
theorem files_Row_wrong_ct (r_0 : Sv FilesFile) (i_1 : Int) {r : Int} (hS : Sh.files_Row_wrong r_0.l i_1 = some r) :
 Ct Tryz.prog 179 [r_0.val, i64 i_1] r_0.ok (Ow.emp) (X := Unit) (fun _ => i64 r) (fun _ => True) (fun _ => Mo.tt) (fun _ => Ow.emp) := by
 refine Zo Tryz.func179 Tryz.ntmps179 fun c => ?_
 unfold Sh.files_Row_wrong at hS
 refine Zq (Zr ?_)
 refine Zy ?_
 refine Zq (Zr ?_)
 refine Zy ?_
 obtain ⟨z9_1, nz9_1, hz9_1, hS⟩ := at_s hS
 refine Zu (q_ixm (s := r_0) Tryz.underlying50 gsz185 rfl rfl nz9_1 (lt_of_get nz9_1 hz9_1)) ?_
 refine Zu (q_els (s := r_0) gagg185 rfl rfl hz9_1) ?_
 refine VL.alloc (cs := [str [], i64 0, str []]) (by kernel_rfl) (by decide) fun b5_2 => ?_
 refine Zv (vc := [str z9_1.path, i64 z9_1.mode, str z9_1.data]) (cs' := [str z9_1.path, i64 z9_1.mode, str z9_1.data]) rfl gsz185 ?_
 refine Zl ?_
 refine Zq (Zq (Zr ?_))
 refine Zu (q_field gfa185_0 rfl) ?_
 refine Zu (q_fe gone9 rfl rfl) ?_
 obtain ⟨y13_3, ey13_3, hS⟩ := bd_s hS
 refine Zu (q_call (path_Check_ct z9_1.path ey13_3) rfl (fun _ _ => rfl)) ?_
 refine Zy ?_
 refine VC.keep (ρ' := [(0, r_0.val), (1, i64 i_1), (5, ptr b5_2 0), (6, i64 y13_3)]) [0, 1, 5, 6] rfl ?_
 refine Zq (Zr ?_)
 refine Zm ?_
 refine Zu (q_neq rfl rfl) ?_
 refine Zl ?_
 refine Zcn hS (fun h15 hS => ?_) (fun h15 hS => ?_)
 ·
  refine Zq (Zr ?_)
  refine Zy ?_
  cases hS
  exact Ze
 refine Zk ?_
 refine Zq (Zb ?_)
 refine VC.cutJ (S := Bool) (fun (x17_4 : Bool) => x17_4) (fun (x17_4 : Bool) => [(0, r_0.val), (1, i64 i_1), (5, ptr b5_2 0), (17, .bool x17_4)]) (fun (x17_4 : Bool) => Mo.tt) (fun (x17_4 : Bool) => Ow.star (Blk b5_2 [str z9_1.path, i64 z9_1.mode, str z9_1.data] 185) (Ow.emp)) hS ?_ ?_
 ·
  clear hS
  intro k5 hS
  refine Zr ?_
  refine Zu (q_field gfa185_1 rfl) ?_
  refine Zu (q_fe gone3 rfl rfl) ?_
  refine Zu (q_neq rfl rfl) ?_
  refine Zm ?_
  refine Zspn 21 hS (fun h21 hS => ?_) (fun h21 hS => ?_)
  ·
   refine Zh (q_field gfa185_1 rfl) ?_
   refine Zh (q_fe gone3 rfl rfl) ?_
   refine Zh (q_neq rfl rfl) ?_
   refine Zy ?_
   refine VL.mt (!decide (z9_1.mode = 2)) [0, 1, 5, 17] (fun _ _ h => h) hS rfl
  refine VL.runs 5 [(17, some false)] (by kernel_rfl) ?_
  refine VL.mt false [0, 1, 5, 17] (fun _ _ h => h) hS rfl
 clear hS
 rintro x17_4 hS
 refine Zcb hS (fun h17 hS => ?_) (fun h17 hS => ?_)
 ·
  refine Zq (Zr ?_)
  refine Zy ?_
  cases hS
  exact Ze
 refine Zq (Zr ?_)
 refine Zu (q_field gfa185_2 rfl) ?_
 refine Zu (q_fe gone9 rfl rfl) ?_
 refine Zu (q_slen Tryz.underlying9 rfl) ?_
 refine Zu (q_gtr rfl rfl) ?_
 refine Zy ?_
 refine Zc hS (fun h26 hS => ?_) (fun h26 hS => ?_)
 ·
  refine Zq (Zr ?_)
  refine Zy ?_
  cases hS
  exact Ze
 refine VC.cutJ (S := Bool) (fun (x31_6 : Bool) => x31_6) (fun (x31_6 : Bool) => [(0, r_0.val), (1, i64 i_1), (5, ptr b5_2 0), (31, .bool x31_6)]) (fun (x31_6 : Bool) => Mo.tt) (fun (x31_6 : Bool) => Ow.star (Blk b5_2 [str z9_1.path, i64 z9_1.mode, str z9_1.data] 185) (Ow.emp)) hS ?_ ?_
 ·
  clear hS
  intro k7 hS
  refine VC.draw ((List.range 15).map fun k => (k, true)) mixed (by kernel_rfl) (by kernel_rfl) (by kernel_rfl) ?_
  refine Zw rfl (q_move rfl) ?_
  refine Zw rfl (q_gtr rfl rfl) ?_
  refine Zw rfl (q_move rfl) ?_
  refine VD.split_dec 34 rfl (fun h34 => ?_) (fun h34 => ?_)
  ·
   replace hS := it_t h34 hS
   refine Zi rfl (q_move rfl) ?_
   refine Zi rfl (q_move rfl) ?_
   obtain ⟨b37, hS⟩ := gd_s hS
   refine Zi rfl (q_sub rfl rfl b37) ?_
   obtain ⟨z38_8, nz38_8, hz38_8, hS⟩ := at_s hS
   refine Zi rfl (q_ixm (s := r_0) Tryz.underlying50 gsz185 rfl rfl nz38_8 (lt_of_get nz38_8 hz38_8)) ?_
   refine Zi rfl (q_field gfa185_0 rfl) ?_
   refine Zi rfl (q_elf (s := r_0) gone9 rfl hz38_8 rfl) ?_
   refine Zi rfl (q_field gfa185_0 rfl) ?_
   refine Zi rfl (q_fe gone9 rfl rfl) ?_
   obtain ⟨y43_9, ey43_9, hS⟩ := bd_s hS
   refine Zi rfl (q_call (path_Compare_ct z38_8.path z9_1.path ey43_9) rfl (fun _ _ => rfl)) ?_
   refine Zi rfl (q_geq rfl rfl) ?_
   refine Zw rfl (q_pick_t rfl rfl) ?_
   refine Zw rfl (q_assign rfl) ?_
   refine VD.mt (decide (0 ≤ y43_9)) [0, 1, 5, 31] (fun _ _ h => h) hS rfl
  replace hS := it_f h34 hS
  refine Zd ?_
  refine Zd ?_
  refine Zd ?_
  refine Zd ?_
  refine Zd ?_
  refine Zd ?_
  refine Zd ?_
  refine Zd ?_
  refine Zd ?_
  refine Zd ?_
  refine Zw rfl (q_pick_f rfl rfl) ?_
  refine Zw rfl (q_assign rfl) ?_
  refine VD.mt false [0, 1, 5, 31] (fun _ _ h => h) hS rfl
 clear hS
 rintro x31_6 hS
 refine Zcb hS (fun h31 hS => ?_) (fun h31 hS => ?_)
 ·
  refine Zq (Zr ?_)
  refine Zy ?_
  cases hS
  exact Ze
 refine Zq (Zr ?_)
 refine Zy ?_
 obtain ⟨b49, hS⟩ := gd_s hS
 refine VL.sto Tryz.underlying50 gsz185 rfl rfl b49.1 (b49.2) (by decide) fun s49_10 hs49_10 => ?_
 replace hS := lt_to hs49_10 hS
 refine Zu (q_mkfn rfl) ?_
 obtain ⟨y51_12, ey51_12, hS⟩ := bd_s hS
 refine Zu (q_callR (slices_ContainsFunc_files_Row_files_File_ct s49_10 b5_2 z9_1 ey51_12) rfl (fun _ _ => rfl)) ?_
 refine Zy ?_
 refine Zcb hS (fun h46 hS => ?_) (fun h46 hS => ?_)
 ·
  refine Zq (Zr ?_)
  refine Zy ?_
  refine VC.keep (ρ' := [(4, i64 11)]) [4] rfl ?_
  cases hS
  exact Ze
 refine Zk ?_
 refine Zq (Zr ?_)
 refine Zy ?_
 refine VC.keep (ρ' := [(4, i64 0)]) [4] rfl ?_
 cases hS
 exact Ze
theorem files_Row_Check_ct (r_0 : Sv FilesFile) {r : Err} (hS : Sh.files_Row_Check r_0.l = some r) :
 Ct Tryz.prog 97 [r_0.val] r_0.ok (Ow.emp) (X := Er) (fun x => x.val) (fun x => r = x.pl) (fun x => x.ok) (fun x => Ow.emp) := by
 refine Zo Tryz.func97 Tryz.ntmps97 fun c => ?_
 unfold Sh.files_Row_Check at hS
 refine Zq (Zr ?_)
 refine Zy ?_
 refine Zq (Zq (Zr ?_))
 refine Zm ?_
 refine Zu (q_ln (s := r_0) Tryz.underlying50 rfl) ?_
 refine Zu (q_gtr rfl rfl) ?_
 refine Zl ?_
 refine Zc hS (fun h7 hS => ?_) (fun h7 hS => ?_)
 ·
  refine Zq (Zr ?_)
  refine Zu (q_mkif Tryz.underlying131 (fun _ h => by cases h) rfl) ?_
  refine Zu (q_build (vs := [(0, str [102, 105, 108, 101]), (1, i64 64), (2, (Er.no 4).val)]) (cs := #[str [102, 105, 108, 101], i64 64, (Er.no 4).val]) rfl (by kernel_rfl)) ?_
  refine VL.box (cs := [str [102, 105, 108, 101], i64 64, (Er.no 4).val]) rfl rfl (by decide) fun b10_1 => ?_
  refine VL.shutB b10_1 ?_
  refine Zu (q_mkif Tryz.underlying190 (fun _ h => by cases h) rfl) ?_
  refine Zy ?_
  cases hS
  exact VC.ret (fin1 (.inr rfl) rfl rfl (Er.fault b10_1 [102, 105, 108, 101] 64 (Er.no 4)) rfl rfl (by (try dsimp only); exact InM.out) (fun _ _ => trivial))
 refine Zk ?_
 refine Zq (Zq (Zr ?_))
 refine Zm ?_
 refine Zu (q_ln (s := r_0) Tryz.underlying50 rfl) ?_
 refine Zy ?_
 refine Zb ?_
 refine VC.iter (S := Int) (fun (x14_2 : Int) => x14_2) (fun (x14_2 : Int) => [(0, r_0.val), (13, i64 (r_0.l.length : Int)), (14, i64 x14_2)]) (fun (x14_2 : Int) => Mo.tt) (fun (x14_2 : Int) => Ow.emp) 0 [0, 13, 14] hS rfl ?_
 clear hS
 rintro x14_2 m1 y1 hS hK1
 refine Zq (Zr ?_)
 refine Zu (q_lss rfl rfl) ?_
 refine Zl ?_
 refine Zq ?_
 refine Zc hS (fun h15 hS => ?_) (fun h15 hS => ?_)
 ·
  refine Zk ?_
  refine Zq (Zb (Zq (Zr ?_)))
  refine Zy ?_
  refine Zq (Zr ?_)
  refine Zy ?_
  obtain ⟨y19_3, ey19_3, hS⟩ := bd_s hS
  refine Zu (q_call (files_Row_wrong_ct r_0 x14_2 ey19_3) rfl (fun _ _ => rfl)) ?_
  refine Zy ?_
  refine Zq (Zr ?_)
  refine Zm ?_
  refine Zu (q_neq rfl rfl) ?_
  refine Zl ?_
  refine Zcn hS (fun h21 hS => ?_) (fun h21 hS => ?_)
  ·
   refine Zq (Zr ?_)
   refine Zy ?_
   refine Zu (q_mkif Tryz.underlying131 (fun _ h => by cases h) rfl) ?_
   refine Zu (q_build (vs := [(0, str [102, 105, 108, 101]), (1, i64 x14_2), (2, (Er.no y19_3).val)]) (cs := #[str [102, 105, 108, 101], i64 x14_2, (Er.no y19_3).val]) rfl (by kernel_rfl)) ?_
   refine VL.box (cs := [str [102, 105, 108, 101], i64 x14_2, (Er.no y19_3).val]) rfl rfl (by decide) fun b26_4 => ?_
   refine VL.shutB b26_4 ?_
   refine Zu (q_mkif Tryz.underlying190 (fun _ h => by cases h) rfl) ?_
   refine Zy ?_
   refine VC.keep (ρ' := [(2, (Er.fault b26_4 [102, 105, 108, 101] x14_2 (Er.no y19_3)).val)]) [2] rfl ?_
   replace hS := up2 hS hK1
   cases hS
   exact VC.ret (fin1 (.inr rfl) rfl rfl (Er.fault b26_4 [102, 105, 108, 101] x14_2 (Er.no y19_3)) rfl rfl (by (try dsimp only); exact InM.out) (fun _ _ => trivial))
  refine Zk ?_
  refine VC.keep (ρ' := [(0, r_0.val), (13, i64 (r_0.l.length : Int)), (14, i64 x14_2)]) [0, 13, 14] rfl ?_
  refine Zr ?_
  obtain ⟨b28, hS⟩ := gd_s hS
  refine Zu (q_add rfl rfl b28) ?_
  refine Zm ?_
  refine VL.rnd (x14_2 + 1) [0, 13, 14] (fun _ _ h => h) (go2 hS hK1) rfl
 replace hS := up2 hS hK1
 refine Zx ?_
 refine Zq (Zr ?_)
 refine Zy ?_
 cases hS
 exact VC.ret (fin1 (.inr rfl) rfl rfl .nil rfl rfl (by (try dsimp only); exact InM.out) (fun _ _ => trivial))
theorem cmp_isNaN_int_ct (x_0 : Int) {r : Bool} (hS : Sh.cmp_isNaN_int x_0 = some r) :
 Ct Tryz.prog 277 [i64 x_0] Mo.tt (Ow.emp) (X := Unit) (fun _ => .bool r) (fun _ => True) (fun _ => Mo.tt) (fun _ => Ow.emp) := by
 refine Zo Tryz.func277 Tryz.ntmps277 fun c => ?_
 unfold Sh.cmp_isNaN_int at hS
 refine Zq (Zr ?_)
 refine Zy ?_
 refine Zq (Zr ?_)
 refine Zy ?_
 refine Zu (q_neq rfl rfl) ?_
 refine Zy ?_
 cases hS
 exact Ze
theorem cmp_Compare_int_ct (x_0 : Int) (y_1 : Int) {r : Int} (hS : Sh.cmp_Compare_int x_0 y_1 = some r) :
 Ct Tryz.prog 252 [i64 x_0, i64 y_1] Mo.tt (Ow.emp) (X := Unit) (fun _ => i64 r) (fun _ => True) (fun _ => Mo.tt) (fun _ => Ow.emp) := by
 refine Zo Tryz.func252 Tryz.ntmps252 fun c => ?_
 unfold Sh.cmp_Compare_int at hS
 refine Zq (Zr ?_)
 refine Zy ?_
 refine Zq (Zr ?_)
 refine Zm ?_
 obtain ⟨y8_1, ey8_1, hS⟩ := bd_s hS
 refine Zu (q_call (cmp_isNaN_int_ct x_0 ey8_1) rfl (fun _ _ => rfl)) ?_
 refine Zy ?_
 refine Zq (Zr ?_)
 refine Zm ?_
 obtain ⟨y10_2, ey10_2, hS⟩ := bd_s hS
 refine Zu (q_call (cmp_isNaN_int_ct y_1 ey10_2) rfl (fun _ _ => rfl)) ?_
 refine Zy ?_
 refine Zq (Zq (Zr ?_))
 refine Zy ?_
 refine Zcb hS (fun h11 hS => ?_) (fun h11 hS => ?_)
 ·
  refine Zq (Zq (Zr ?_))
  refine Zy ?_
  refine VC.keep (ρ' := [(12, .bool y10_2)]) [12] rfl ?_
  refine Zcb hS (fun h12 hS => ?_) (fun h12 hS => ?_)
  ·
   refine Zq (Zr ?_)
   refine Zy ?_
   cases hS
   exact Ze
  refine Zk ?_
  refine Zq (Zr ?_)
  refine Zy ?_
  cases hS
  exact Ze
 refine Zk ?_
 refine Zq (Zq (Zr ?_))
 refine Zy ?_
 refine VC.keep (ρ' := [(0, i64 x_0), (1, i64 y_1), (13, .bool y10_2)]) [0, 1, 13] rfl ?_
 refine Zcb hS (fun h13 hS => ?_) (fun h13 hS => ?_)
 ·
  refine Zq (Zr ?_)
  refine Zy ?_
  cases hS
  exact Ze
 refine Zk ?_
 refine Zq (Zq (Zr ?_))
 refine Zy ?_
 refine Zu (q_lss rfl rfl) ?_
 refine Zl ?_
 refine Zc hS (fun h16 hS => ?_) (fun h16 hS => ?_)
 ·
  refine Zq (Zr ?_)
  refine Zy ?_
  cases hS
  exact Ze
 refine Zk ?_
 refine Zq (Zq (Zr ?_))
 refine Zy ?_
 refine Zu (q_gtr rfl rfl) ?_
 refine Zl ?_
 refine Zc hS (fun h19 hS => ?_) (fun h19 hS => ?_)
 ·
  refine Zq (Zr ?_)
  refine Zy ?_
  cases hS
  exact Ze
 refine Zk ?_
 refine Zq (Zr ?_)
 refine Zy ?_
 cases hS
 exact Ze
theorem cmp_Or_int_ct (vals_0 : Sv Int) {r : Int} (hS : Sh.cmp_Or_int vals_0.l = some r) :
 Ct Tryz.prog 251 [vals_0.val] vals_0.ok (Ow.emp) (X := Unit) (fun _ => i64 r) (fun _ => True) (fun _ => Mo.tt) (fun _ => Ow.emp) := by
 refine Zo Tryz.func251 Tryz.ntmps251 fun c => ?_
 unfold Sh.cmp_Or_int at hS
 refine Zq (Zr ?_)
 refine Zy ?_
 refine Zq (Zr ?_)
 refine Zy ?_
 refine Zq (Zq (Zr ?_))
 refine Zm ?_
 refine Zu (q_ln (s := vals_0) Tryz.underlying32 rfl) ?_
 refine Zy ?_
 refine Zb ?_
 refine VC.iter (S := Int) (fun (x8_1 : Int) => x8_1) (fun (x8_1 : Int) => [(3, i64 0), (6, vals_0.val), (7, i64 (vals_0.l.length : Int)), (8, i64 x8_1)]) (fun (x8_1 : Int) => Mo.tt) (fun (x8_1 : Int) => Ow.emp) 0 [3, 6, 7, 8] hS rfl ?_
 clear hS
 rintro x8_1 m1 y1 hS hK1
 refine Zq (Zr ?_)
 refine Zu (q_lss rfl rfl) ?_
 refine Zl ?_
 refine Zq ?_
 refine Zc hS (fun h9 hS => ?_) (fun h9 hS => ?_)
 ·
  refine Zk ?_
  refine Zq (Zb (Zq (Zr ?_)))
  obtain ⟨z10_2, nz10_2, hz10_2, hS⟩ := at_s hS
  refine Zu (q_ixm (s := vals_0) Tryz.underlying32 gsz3 rfl rfl nz10_2 (lt_of_get nz10_2 hz10_2)) ?_
  refine Zu (q_el (s := vals_0) gone3 rfl hz10_2 rfl) ?_
  refine Zy ?_
  refine Zq (Zr ?_)
  refine Zy ?_
  refine Zu (q_neq rfl rfl) ?_
  refine Zl ?_
  refine Zcn hS (fun h14 hS => ?_) (fun h14 hS => ?_)
  ·
   refine Zq (Zr ?_)
   refine Zy ?_
   refine VC.keep (ρ' := [(2, i64 z10_2)]) [2] rfl ?_
   replace hS := up2 hS hK1
   cases hS
   exact Ze
  refine Zk ?_
  refine VC.keep (ρ' := [(3, i64 0), (6, vals_0.val), (7, i64 (vals_0.l.length : Int)), (8, i64 x8_1)]) [3, 6, 7, 8] rfl ?_
  refine Zr ?_
  obtain ⟨b16, hS⟩ := gd_s hS
  refine Zu (q_add rfl rfl b16) ?_
  refine Zm ?_
  refine VL.rnd (x8_1 + 1) [3, 6, 7, 8] (fun _ _ h => h) (go2 hS hK1) rfl
 replace hS := up2 hS hK1
 refine Zx ?_
 refine Zq (Zr ?_)
 refine Zy ?_
 cases hS
 exact Ze
theorem index_compare_ct (a_0 : IndexEntry) (b_1 : IndexEntry) {r : Int} (hS : Sh.index_compare a_0 b_1 = some r) :
 Ct Tryz.prog 222 [.agg #[str a_0.path, i64 a_0.stage, i64 a_0.mode, str a_0.data, i64 a_0.time, i64 a_0.size], .agg #[str b_1.path, i64 b_1.stage, i64 b_1.mode, str b_1.data, i64 b_1.time, i64 b_1.size]] Mo.tt (Ow.emp) (X := Unit) (fun _ => i64 r) (fun _ => True) (fun _ => Mo.tt) (fun _ => Ow.emp) := by
 refine Zo Tryz.func222 Tryz.ntmps222 fun c => ?_
 unfold Sh.index_compare at hS
 refine Zq (Zr ?_)
 refine VL.box (cs := [str a_0.path, i64 a_0.stage, i64 a_0.mode, str a_0.data, i64 a_0.time, i64 a_0.size]) rfl rfl (by decide) fun b2_1 => ?_
 refine VL.box (cs := [str b_1.path, i64 b_1.stage, i64 b_1.mode, str b_1.data, i64 b_1.time, i64 b_1.size]) rfl rfl (by decide) fun b3_2 => ?_
 refine Zy ?_
 refine Zq ?_
 refine VC.draw [(0, true), (1, true), (2, true), (3, true), (4, true), (5, true), (6, true), (7, true), (8, true), (9, true), (10, false), (11, true), (12, true)] mixed (by kernel_rfl) (by kernel_rfl) (by kernel_rfl) ?_
 refine Zw rfl (q_field gfa218_0 rfl) ?_
 refine Zw rfl (q_fe gone9 rfl rfl) ?_
 refine Zw rfl (q_field gfa218_0 rfl) ?_
 refine Zw rfl (q_fe gone9 rfl rfl) ?_
 obtain ⟨y9_3, ey9_3, hS⟩ := bd_s hS
 refine Zw rfl (q_call (path_Compare_ct a_0.path b_1.path ey9_3) rfl (fun _ _ => rfl)) ?_
 refine Zw rfl (q_field gfa218_1 rfl) ?_
 refine Zw rfl (q_fe gone3 rfl rfl) ?_
 refine Zw rfl (q_field gfa218_1 rfl) ?_
 refine Zw rfl (q_fe gone3 rfl rfl) ?_
 obtain ⟨y14_4, ey14_4, hS⟩ := bd_s hS
 refine Zw rfl (q_call (cmp_Compare_int_ct a_0.stage b_1.stage ey14_4) rfl (fun _ _ => rfl)) ?_
 refine VD.one rfl ?_
 refine VL.lit (α := Int) (xs := [.tmp 9, .tmp 14]) (vs := [i64 y9_3, i64 y14_4]) [y9_3, y14_4] Tryz.underlying32 glit3 (by decide) rfl rfl rfl rfl (by decide) (fun _ _ _ _ => trivial) (by decide) (fun s15_5 hs15_5 => ?_) (by decide)
 replace hS := lt_to hs15_5 hS
 refine VL.back (D' := []) (by kernel_rfl) (Pend.nil) ?_
 obtain ⟨y16_7, ey16_7, hS⟩ := bd_s hS
 refine Zw rfl (q_call (cmp_Or_int_ct s15_5 ey16_7) rfl (fun _ _ => rfl)) ?_
 refine Zw rfl (q_assign rfl) ?_
 refine VD.to (fun _ _ h => h) ?_
 refine VC.keep (ρ' := [(4, i64 y16_7)]) [4] rfl ?_
 cases hS
 exact Ze
theorem index_beside_ct (a_0 : IndexEntry) (b_1 : IndexEntry) {r : Bool} (hS : Sh.index_beside a_0 b_1 = some r) :
 Ct Tryz.prog 225 [.agg #[str a_0.path, i64 a_0.stage, i64 a_0.mode, str a_0.data, i64 a_0.time, i64 a_0.size], .agg #[str b_1.path, i64 b_1.stage, i64 b_1.mode, str b_1.data, i64 b_1.time, i64 b_1.size]] Mo.tt (Ow.emp) (X := Unit) (fun _ => .bool r) (fun _ => True) (fun _ => Mo.tt) (fun _ => Ow.emp) := by
 refine Zo Tryz.func225 Tryz.ntmps225 fun c => ?_
 unfold Sh.index_beside at hS
 refine Zq (Zr ?_)
 refine VL.box (cs := [str a_0.path, i64 a_0.stage, i64 a_0.mode, str a_0.data, i64 a_0.time, i64 a_0.size]) rfl rfl (by decide) fun b2_1 => ?_
 refine VL.box (cs := [str b_1.path, i64 b_1.stage, i64 b_1.mode, str b_1.data, i64 b_1.time, i64 b_1.size]) rfl rfl (by decide) fun b3_2 => ?_
 refine Zy ?_
 refine Zq (Zr ?_)
 refine Zu (q_field gfa218_0 rfl) ?_
 refine Zu (q_fe gone9 rfl rfl) ?_
 refine Zu (q_field gfa218_0 rfl) ?_
 refine Zu (q_fe gone9 rfl rfl) ?_
 refine Zy ?_
 refine Zsp 10 hS (fun h10 hS => ?_) (fun h10 hS => ?_)
 ·
  refine Zh (q_field gfa218_1 rfl) ?_
  refine Zh (q_fe gone3 rfl rfl) ?_
  refine Zh (q_eql rfl rfl) ?_
  refine Zg ?_
  refine Zsp 14 hS (fun h14 hS => ?_) (fun h14 hS => ?_)
  ·
   refine VL.runs 3 [(17, none)] (by kernel_rfl) ?_
   refine Zh (q_pick_t rfl rfl) ?_
   refine Zy ?_
   refine VC.keep (ρ' := [(4, .bool true)]) [4] rfl ?_
   cases hS
   exact Ze
  refine Zh (q_field gfa218_1 rfl) ?_
  refine Zh (q_fe gone3 rfl rfl) ?_
  refine Zh (q_eql rfl rfl) ?_
  refine Zh (q_pick_f rfl rfl) ?_
  refine Zy ?_
  refine VC.keep (ρ' := [(4, .bool (decide (b_1.stage = 0)))]) [4] rfl ?_
  cases hS
  exact Ze
 refine VL.runs 10 [(4, some false)] (by kernel_rfl) ?_
 refine Zl ?_
 refine VC.keep (ρ' := [(4, .bool false)]) [4] rfl ?_
 cases hS
 exact Ze
theorem index_wrong_1_ct (x_0 : IndexEntry) (a_1_b : Nat) (a_1 : IndexEntry) {r : Bool} (hS : Sh.index_wrong_1 x_0 a_1 = some r) :
 Ct Tryz.prog 224 [.agg #[str x_0.path, i64 x_0.stage, i64 x_0.mode, str x_0.data, i64 x_0.time, i64 x_0.size], ptr a_1_b 0] (Cells a_1_b 0 [str a_1.path, i64 a_1.stage, i64 a_1.mode, str a_1.data, i64 a_1.time, i64 a_1.size]) (Ow.emp) (X := Unit) (fun _ => .bool r) (fun _ => True) (fun _ => Mo.tt) (fun _ => Ow.emp) := by
 refine Zo Tryz.func224 Tryz.ntmps224 fun c => ?_
 unfold Sh.index_wrong_1 at hS
 refine Zq (Zr ?_)
 refine VL.box (cs := [str x_0.path, i64 x_0.stage, i64 x_0.mode, str x_0.data, i64 x_0.time, i64 x_0.size]) rfl rfl (by decide) fun b2_1 => ?_
 refine Zy ?_
 refine Zq (Zr ?_)
 refine Zu (q_fes gagg218 rfl rfl) ?_
 refine Zu (q_fms gagg218 rfl rfl) ?_
 obtain ⟨y6_2, ey6_2, hS⟩ := bd_s hS
 refine Zu (q_call (index_beside_ct x_0 a_1 ey6_2) rfl (fun _ _ => rfl)) ?_
 refine Zy ?_
 cases hS
 exact Ze
theorem slices_IndexFunc_index_Entry_index_Entry_ct (s_0 : Sv IndexEntry) (f_1_0_b : Nat) (f_1_0 : IndexEntry) {r : Int} (hS : Sh.slices_IndexFunc_index_Entry_index_Entry s_0.l f_1_0 = some r) :
 Ct Tryz.prog 253 [s_0.val, .func (.func 224) #[] #[ptr f_1_0_b 0]] (s_0.ok.and (Cells f_1_0_b 0 [str f_1_0.path, i64 f_1_0.stage, i64 f_1_0.mode, str f_1_0.data, i64 f_1_0.time, i64 f_1_0.size])) (Ow.emp) (X := Unit) (fun _ => i64 r) (fun _ => True) (fun _ => Mo.tt) (fun _ => Ow.emp) := by
 refine Zo Tryz.func253 Tryz.ntmps253 fun c => ?_
 unfold Sh.slices_IndexFunc_index_Entry_index_Entry at hS
 refine Zq (Zr ?_)
 refine Zy ?_
 refine Zq (Zq (Zr ?_))
 refine Zm ?_
 refine Zu (q_ln (s := s_0) Tryz.underlying51 rfl) ?_
 refine Zy ?_
 refine Zb ?_
 refine VC.iter (S := Int) (fun (x8_1 : Int) => x8_1) (fun (x8_1 : Int) => [(0, s_0.val), (1, .func (.func 224) #[] #[ptr f_1_0_b 0]), (7, i64 (s_0.l.length : Int)), (8, i64 x8_1)]) (fun (x8_1 : Int) => Mo.tt) (fun (x8_1 : Int) => Ow.emp) 0 [0, 1, 7, 8] hS rfl ?_
 clear hS
 rintro x8_1 m1 y1 hS hK1
 refine Zq (Zr ?_)
 refine Zu (q_lss rfl rfl) ?_
 refine Zl ?_
 refine Zq ?_
 refine Zc hS (fun h9 hS => ?_) (fun h9 hS => ?_)
 ·
  refine Zk ?_
  refine Zq (Zb (Zq (Zr ?_)))
  refine Zy ?_
  refine Zq (Zr ?_)
  refine Zy ?_
  obtain ⟨z14_2, nz14_2, hz14_2, hS⟩ := at_s hS
  refine Zu (q_ixm (s := s_0) Tryz.underlying51 gsz218 rfl rfl nz14_2 (lt_of_get nz14_2 hz14_2)) ?_
  refine Zu (q_els (s := s_0) gagg218 rfl rfl hz14_2) ?_
  obtain ⟨y16_3, ey16_3, hS⟩ := bd_s hS
  refine Zu (q_callVC (vs := [.agg #[str z14_2.path, i64 z14_2.stage, i64 z14_2.mode, str z14_2.data, i64 z14_2.time, i64 z14_2.size]]) (caps := [ptr f_1_0_b 0]) (index_wrong_1_ct z14_2 f_1_0_b f_1_0 ey16_3) rfl rfl (fun _ _ => rfl)) ?_
  refine Zl ?_
  refine VC.keep (ρ' := [(0, s_0.val), (1, .func (.func 224) #[] #[ptr f_1_0_b 0]), (7, i64 (s_0.l.length : Int)), (8, i64 x8_1), (5, i64 x8_1), (16, .bool y16_3)]) [0, 1, 7, 8, 5, 16] rfl ?_
  refine Zcb hS (fun h16 hS => ?_) (fun h16 hS => ?_)
  ·
   refine Zq (Zr ?_)
   refine Zy ?_
   replace hS := up2 hS hK1
   cases hS
   exact Ze
  refine Zk ?_
  refine Zr ?_
  obtain ⟨b18, hS⟩ := gd_s hS
  refine Zu (q_add rfl rfl b18) ?_
  refine Zm ?_
  refine VL.rnd (x8_1 + 1) [0, 1, 7, 8] (fun _ _ h => h) (go2 hS hK1) rfl
 replace hS := up2 hS hK1
 refine Zx ?_
 refine Zq (Zr ?_)
 refine Zy ?_
 cases hS
 exact Ze
theorem slices_ContainsFunc_index_Entry_index_Entry_ct (s_0 : Sv IndexEntry) (f_1_0_b : Nat) (f_1_0 : IndexEntry) {r : Bool} (hS : Sh.slices_ContainsFunc_index_Entry_index_Entry s_0.l f_1_0 = some r) :
 Ct Tryz.prog 223 [s_0.val, .func (.func 224) #[] #[ptr f_1_0_b 0]] (s_0.ok.and (Cells f_1_0_b 0 [str f_1_0.path, i64 f_1_0.stage, i64 f_1_0.mode, str f_1_0.data, i64 f_1_0.time, i64 f_1_0.size])) (Ow.emp) (X := Unit) (fun _ => .bool r) (fun _ => True) (fun _ => Mo.tt) (fun _ => Ow.emp) := by
 refine Zo Tryz.func223 Tryz.ntmps223 fun c => ?_
 unfold Sh.slices_ContainsFunc_index_Entry_index_Entry at hS
 refine Zq (Zr ?_)
 refine Zy ?_
 refine Zq (Zr ?_)
 refine Zy ?_
 obtain ⟨y7_1, ey7_1, hS⟩ := bd_s hS
 refine Zu (q_callR (slices_IndexFunc_index_Entry_index_Entry_ct s_0 f_1_0_b f_1_0 ey7_1) rfl (fun _ _ => rfl)) ?_
 refine Zu (q_geq rfl rfl) ?_
 refine Zy ?_
 cases hS
 exact Ze
theorem index_wrong_2_ct (x_0 : IndexEntry) (a_1_b : Nat) (a_1 : IndexEntry) {r : Bool} (hS : Sh.index_wrong_2 x_0 a_1 = some r) :
 Ct Tryz.prog 226 [.agg #[str x_0.path, i64 x_0.stage, i64 x_0.mode, str x_0.data, i64 x_0.time, i64 x_0.size], ptr a_1_b 0] (Cells a_1_b 0 [str a_1.path, i64 a_1.stage, i64 a_1.mode, str a_1.data, i64 a_1.time, i64 a_1.size]) (Ow.emp) (X := Unit) (fun _ => .bool r) (fun _ => True) (fun _ => Mo.tt) (fun _ => Ow.emp) := by
 refine Zo Tryz.func226 Tryz.ntmps226 fun c => ?_
 unfold Sh.index_wrong_2 at hS
 refine Zq (Zr ?_)
 refine VL.box (cs := [str x_0.path, i64 x_0.stage, i64 x_0.mode, str x_0.data, i64 x_0.time, i64 x_0.size]) rfl rfl (by decide) fun b2_1 => ?_
 refine Zy ?_
 refine Zq (Zr ?_)
 refine Zu (q_field gfa218_0 rfl) ?_
 refine Zu (q_fe gone9 rfl rfl) ?_
 refine Zu (q_field gfa218_0 rfl) ?_
 refine Zu (q_fm gone9 rfl rfl) ?_
 obtain ⟨y8_2, ey8_2, hS⟩ := bd_s hS
 refine Zu (q_call (path_Clash_ct x_0.path a_1.path ey8_2) rfl (fun _ _ => rfl)) ?_
 refine Zy ?_
 cases hS
 exact Ze
end Go.Proofs.YthbccdlpalenlaaGreatDoor
end

section
set_option linter.unusedVariables false
namespace Go.Proofs.YthbccdlpalenlaaGreatDoor
set_option maxHeartbeats 4000000
set_option maxRecDepth 100000
set_option synthInstance.maxSize 2000
set_option synthInstance.maxHeartbeats 1000000
open Go.RowKit Go.V
open Go.S hiding Str
theorem slices_IndexFunc_index_Entry_index_Entry_v2_ct (s_0 : Sv IndexEntry) (f_1_0_b : Nat) (f_1_0 : IndexEntry) {r : Int} (hS : Sh.slices_IndexFunc_index_Entry_index_Entry_v2 s_0.l f_1_0 = some r) :
 Ct Tryz.prog 253 [s_0.val, .func (.func 226) #[] #[ptr f_1_0_b 0]] (s_0.ok.and (Cells f_1_0_b 0 [str f_1_0.path, i64 f_1_0.stage, i64 f_1_0.mode, str f_1_0.data, i64 f_1_0.time, i64 f_1_0.size])) (Ow.emp) (X := Unit) (fun _ => i64 r) (fun _ => True) (fun _ => Mo.tt) (fun _ => Ow.emp) := by
 refine Zo Tryz.func253 Tryz.ntmps253 fun c => ?_
 unfold Sh.slices_IndexFunc_index_Entry_index_Entry_v2 at hS
 refine Zq (Zr ?_)
 refine Zy ?_
 refine Zq (Zq (Zr ?_))
 refine Zm ?_
 refine Zu (q_ln (s := s_0) Tryz.underlying51 rfl) ?_
 refine Zy ?_
 refine Zb ?_
 refine VC.iter (S := Int) (fun (x8_1 : Int) => x8_1) (fun (x8_1 : Int) => [(0, s_0.val), (1, .func (.func 226) #[] #[ptr f_1_0_b 0]), (7, i64 (s_0.l.length : Int)), (8, i64 x8_1)]) (fun (x8_1 : Int) => Mo.tt) (fun (x8_1 : Int) => Ow.emp) 0 [0, 1, 7, 8] hS rfl ?_
 clear hS
 rintro x8_1 m1 y1 hS hK1
 refine Zq (Zr ?_)
 refine Zu (q_lss rfl rfl) ?_
 refine Zl ?_
 refine Zq ?_
 refine Zc hS (fun h9 hS => ?_) (fun h9 hS => ?_)
 ·
  refine Zk ?_
  refine Zq (Zb (Zq (Zr ?_)))
  refine Zy ?_
  refine Zq (Zr ?_)
  refine Zy ?_
  obtain ⟨z14_2, nz14_2, hz14_2, hS⟩ := at_s hS
  refine Zu (q_ixm (s := s_0) Tryz.underlying51 gsz218 rfl rfl nz14_2 (lt_of_get nz14_2 hz14_2)) ?_
  refine Zu (q_els (s := s_0) gagg218 rfl rfl hz14_2) ?_
  obtain ⟨y16_3, ey16_3, hS⟩ := bd_s hS
  refine Zu (q_callVC (vs := [.agg #[str z14_2.path, i64 z14_2.stage, i64 z14_2.mode, str z14_2.data, i64 z14_2.time, i64 z14_2.size]]) (caps := [ptr f_1_0_b 0]) (index_wrong_2_ct z14_2 f_1_0_b f_1_0 ey16_3) rfl rfl (fun _ _ => rfl)) ?_
  refine Zl ?_
  refine VC.keep (ρ' := [(0, s_0.val), (1, .func (.func 226) #[] #[ptr f_1_0_b 0]), (7, i64 (s_0.l.length : Int)), (8, i64 x8_1), (5, i64 x8_1), (16, .bool y16_3)]) [0, 1, 7, 8, 5, 16] rfl ?_
  refine Zcb hS (fun h16 hS => ?_) (fun h16 hS => ?_)
  ·
   refine Zq (Zr ?_)
   refine Zy ?_
   replace hS := up2 hS hK1
   cases hS
   exact Ze
  refine Zk ?_
  refine Zr ?_
  obtain ⟨b18, hS⟩ := gd_s hS
  refine Zu (q_add rfl rfl b18) ?_
  refine Zm ?_
  refine VL.rnd (x8_1 + 1) [0, 1, 7, 8] (fun _ _ h => h) (go2 hS hK1) rfl
 replace hS := up2 hS hK1
 refine Zx ?_
 refine Zq (Zr ?_)
 refine Zy ?_
 cases hS
 exact Ze
theorem slices_ContainsFunc_index_Entry_index_Entry_v2_ct (s_0 : Sv IndexEntry) (f_1_0_b : Nat) (f_1_0 : IndexEntry) {r : Bool} (hS : Sh.slices_ContainsFunc_index_Entry_index_Entry_v2 s_0.l f_1_0 = some r) :
 Ct Tryz.prog 223 [s_0.val, .func (.func 226) #[] #[ptr f_1_0_b 0]] (s_0.ok.and (Cells f_1_0_b 0 [str f_1_0.path, i64 f_1_0.stage, i64 f_1_0.mode, str f_1_0.data, i64 f_1_0.time, i64 f_1_0.size])) (Ow.emp) (X := Unit) (fun _ => .bool r) (fun _ => True) (fun _ => Mo.tt) (fun _ => Ow.emp) := by
 refine Zo Tryz.func223 Tryz.ntmps223 fun c => ?_
 unfold Sh.slices_ContainsFunc_index_Entry_index_Entry_v2 at hS
 refine Zq (Zr ?_)
 refine Zy ?_
 refine Zq (Zr ?_)
 refine Zy ?_
 obtain ⟨y7_1, ey7_1, hS⟩ := bd_s hS
 refine Zu (q_callR (slices_IndexFunc_index_Entry_index_Entry_v2_ct s_0 f_1_0_b f_1_0 ey7_1) rfl (fun _ _ => rfl)) ?_
 refine Zu (q_geq rfl rfl) ?_
 refine Zy ?_
 cases hS
 exact Ze
theorem index_wrong_ct (l_0 : Sv IndexEntry) (i_1 : Int) {r : Int} (hS : Sh.index_wrong l_0.l i_1 = some r) :
 Ct Tryz.prog 180 [l_0.val, i64 i_1] l_0.ok (Ow.emp) (X := Unit) (fun _ => i64 r) (fun _ => True) (fun _ => Mo.tt) (fun _ => Ow.emp) := by
 refine Zo Tryz.func180 Tryz.ntmps180 fun c => ?_
 unfold Sh.index_wrong at hS
 refine Zq (Zr ?_)
 refine Zy ?_
 refine Zq (Zr ?_)
 refine Zy ?_
 obtain ⟨z9_1, nz9_1, hz9_1, hS⟩ := at_s hS
 refine Zu (q_ixm (s := l_0) Tryz.underlying51 gsz218 rfl rfl nz9_1 (lt_of_get nz9_1 hz9_1)) ?_
 refine Zu (q_els (s := l_0) gagg218 rfl rfl hz9_1) ?_
 refine VL.alloc (cs := [str [], i64 0, i64 0, str [], i64 0, i64 0]) (by kernel_rfl) (by decide) fun b5_2 => ?_
 refine Zv (vc := [str z9_1.path, i64 z9_1.stage, i64 z9_1.mode, str z9_1.data, i64 z9_1.time, i64 z9_1.size]) (cs' := [str z9_1.path, i64 z9_1.stage, i64 z9_1.mode, str z9_1.data, i64 z9_1.time, i64 z9_1.size]) rfl gsz218 ?_
 refine Zl ?_
 refine Zq (Zq (Zr ?_))
 refine Zu (q_field gfa218_0 rfl) ?_
 refine Zu (q_fe gone9 rfl rfl) ?_
 obtain ⟨y13_3, ey13_3, hS⟩ := bd_s hS
 refine Zu (q_call (path_Check_ct z9_1.path ey13_3) rfl (fun _ _ => rfl)) ?_
 refine Zy ?_
 refine VC.keep (ρ' := [(0, l_0.val), (1, i64 i_1), (5, ptr b5_2 0), (6, i64 y13_3)]) [0, 1, 5, 6] rfl ?_
 refine Zq (Zr ?_)
 refine Zm ?_
 refine Zu (q_neq rfl rfl) ?_
 refine Zl ?_
 refine Zcn hS (fun h15 hS => ?_) (fun h15 hS => ?_)
 ·
  refine Zq (Zr ?_)
  refine Zy ?_
  cases hS
  exact Ze
 refine Zk ?_
 refine Zq (Zb ?_)
 refine VC.cutJ (S := Bool) (fun (x17_4 : Bool) => x17_4) (fun (x17_4 : Bool) => [(0, l_0.val), (1, i64 i_1), (5, ptr b5_2 0), (17, .bool x17_4)]) (fun (x17_4 : Bool) => Mo.tt) (fun (x17_4 : Bool) => Ow.star (Blk b5_2 [str z9_1.path, i64 z9_1.stage, i64 z9_1.mode, str z9_1.data, i64 z9_1.time, i64 z9_1.size] 218) (Ow.emp)) hS ?_ ?_
 ·
  clear hS
  intro k5 hS
  refine Zr ?_
  refine Zu (q_field gfa218_1 rfl) ?_
  refine Zu (q_fe gone3 rfl rfl) ?_
  refine Zu (q_lss rfl rfl) ?_
  refine Zm ?_
  refine Zsp 21 hS (fun h21 hS => ?_) (fun h21 hS => ?_)
  ·
   refine VL.runs 25 [(17, some true)] (by kernel_rfl) ?_
   refine VL.mt true [0, 1, 5, 17] (fun _ _ h => h) hS rfl
  refine Zh (q_field gfa218_1 rfl) ?_
  refine Zh (q_fe gone3 rfl rfl) ?_
  refine Zh (q_gtr rfl rfl) ?_
  refine Zy ?_
  refine Zsp 26 hS (fun h26 hS => ?_) (fun h26 hS => ?_)
  ·
   refine VL.runs 20 [(17, some true)] (by kernel_rfl) ?_
   refine VL.mt true [0, 1, 5, 17] (fun _ _ h => h) hS rfl
  refine Zh (q_field gfa218_2 rfl) ?_
  refine Zh (q_fe gone3 rfl rfl) ?_
  refine Zh (q_neq rfl rfl) ?_
  refine Zg ?_
  refine Zspn 30 hS (fun h30 hS => ?_) (fun h30 hS => ?_)
  ·
   refine Zh (q_field gfa218_2 rfl) ?_
   refine Zh (q_fe gone3 rfl rfl) ?_
   refine Zh (q_neq rfl rfl) ?_
   refine Zh (q_pick_t rfl rfl) ?_
   refine Zy ?_
   refine Zspn 36 hS (fun h36 hS => ?_) (fun h36 hS => ?_)
   ·
    refine VL.runs 10 [(17, some true)] (by kernel_rfl) ?_
    refine VL.mt true [0, 1, 5, 17] (fun _ _ h => h) hS rfl
   refine Zh (q_field gfa218_4 rfl) ?_
   refine Zh (q_fe gone3 rfl rfl) ?_
   refine Zh (q_lss rfl rfl) ?_
   refine Zy ?_
   refine Zsp 41 hS (fun h41 hS => ?_) (fun h41 hS => ?_)
   ·
    refine VL.runs 5 [(17, some true)] (by kernel_rfl) ?_
    refine VL.mt true [0, 1, 5, 17] (fun _ _ h => h) hS rfl
   refine Zh (q_field gfa218_5 rfl) ?_
   refine Zh (q_fe gone3 rfl rfl) ?_
   refine Zh (q_lss rfl rfl) ?_
   refine Zy ?_
   refine VL.mt (decide (z9_1.size < 0)) [0, 1, 5, 17] (fun _ _ h => h) hS rfl
  refine VL.runs 3 [(33, none)] (by kernel_rfl) ?_
  refine Zh (q_pick_f rfl rfl) ?_
  refine Zy ?_
  refine Zh (q_field gfa218_4 rfl) ?_
  refine Zh (q_fe gone3 rfl rfl) ?_
  refine Zh (q_lss rfl rfl) ?_
  refine Zy ?_
  refine Zsp 41 hS (fun h41 hS => ?_) (fun h41 hS => ?_)
  ·
   refine VL.runs 5 [(17, some true)] (by kernel_rfl) ?_
   refine VL.mt true [0, 1, 5, 17] (fun _ _ h => h) hS rfl
  refine Zh (q_field gfa218_5 rfl) ?_
  refine Zh (q_fe gone3 rfl rfl) ?_
  refine Zh (q_lss rfl rfl) ?_
  refine Zy ?_
  refine VL.mt (decide (z9_1.size < 0)) [0, 1, 5, 17] (fun _ _ h => h) hS rfl
 clear hS
 rintro x17_4 hS
 refine Zcb hS (fun h17 hS => ?_) (fun h17 hS => ?_)
 ·
  refine Zq (Zr ?_)
  refine Zy ?_
  cases hS
  exact Ze
 refine Zq (Zr ?_)
 refine Zu (q_field gfa218_3 rfl) ?_
 refine Zu (q_fe gone9 rfl rfl) ?_
 refine Zu (q_slen Tryz.underlying9 rfl) ?_
 refine Zu (q_gtr rfl rfl) ?_
 refine Zy ?_
 refine Zc hS (fun h46 hS => ?_) (fun h46 hS => ?_)
 ·
  refine Zq (Zr ?_)
  refine Zy ?_
  cases hS
  exact Ze
 refine VC.cutJ (S := Bool) (fun (x51_6 : Bool) => x51_6) (fun (x51_6 : Bool) => [(0, l_0.val), (1, i64 i_1), (5, ptr b5_2 0), (51, .bool x51_6)]) (fun (x51_6 : Bool) => Mo.tt) (fun (x51_6 : Bool) => Ow.star (Blk b5_2 [str z9_1.path, i64 z9_1.stage, i64 z9_1.mode, str z9_1.data, i64 z9_1.time, i64 z9_1.size] 218) (Ow.emp)) hS ?_ ?_
 ·
  clear hS
  intro k7 hS
  refine VC.cutJ (S := Bool) (fun (x51_8 : Bool) => x51_8) (fun (x51_8 : Bool) => [(0, l_0.val), (1, i64 i_1), (5, ptr b5_2 0), (51, .bool x51_8)]) (fun (x51_8 : Bool) => Mo.tt) (fun (x51_8 : Bool) => Ow.star (Blk b5_2 [str z9_1.path, i64 z9_1.stage, i64 z9_1.mode, str z9_1.data, i64 z9_1.time, i64 z9_1.size] 218) (Ow.emp)) hS ?_ ?_
  ·
   clear hS
   intro k9 hS
   refine VC.draw ((List.range 13).map fun k => (k, true)) mixed (by kernel_rfl) (by kernel_rfl) (by kernel_rfl) ?_
   refine Zw rfl (q_move rfl) ?_
   refine Zw rfl (q_gtr rfl rfl) ?_
   refine Zw rfl (q_move rfl) ?_
   refine VD.split_dec 54 rfl (fun h54 => ?_) (fun h54 => ?_)
   ·
    replace hS := it_t h54 hS
    refine Zi rfl (q_move rfl) ?_
    refine Zi rfl (q_move rfl) ?_
    obtain ⟨b57, hS⟩ := gd_s hS
    refine Zi rfl (q_sub rfl rfl b57) ?_
    obtain ⟨z58_10, nz58_10, hz58_10, hS⟩ := at_s hS
    refine Zi rfl (q_ixm (s := l_0) Tryz.underlying51 gsz218 rfl rfl nz58_10 (lt_of_get nz58_10 hz58_10)) ?_
    refine Zi rfl (q_els (s := l_0) gagg218 rfl rfl hz58_10) ?_
    refine Zi rfl (q_fes gagg218 rfl rfl) ?_
    obtain ⟨y61_11, ey61_11, hS⟩ := bd_s hS
    refine Zi rfl (q_call (index_compare_ct z58_10 z9_1 ey61_11) rfl (fun _ _ => rfl)) ?_
    refine Zi rfl (q_geq rfl rfl) ?_
    refine Zw rfl (q_pick_t rfl rfl) ?_
    refine Zw rfl (q_assign rfl) ?_
    refine VD.mt (decide (0 ≤ y61_11)) [0, 1, 5, 51] (fun _ _ h => h) hS rfl
   replace hS := it_f h54 hS
   refine Zd ?_
   refine Zd ?_
   refine Zd ?_
   refine Zd ?_
   refine Zd ?_
   refine Zd ?_
   refine Zd ?_
   refine Zd ?_
   refine Zw rfl (q_pick_f rfl rfl) ?_
   refine Zw rfl (q_assign rfl) ?_
   refine VD.mt false [0, 1, 5, 51] (fun _ _ h => h) hS rfl
  clear hS
  rintro x51_8 hS
  refine Zcb hS (fun h51 hS => ?_) (fun h51 hS => ?_)
  ·
   refine VC.skip_mt x51_8 [0, 1, 5, 51] (fun _ _ h => h) hS rfl
  refine Zr ?_
  refine Zy ?_
  obtain ⟨b66, hS⟩ := gd_s hS
  refine VL.sto Tryz.underlying51 gsz218 rfl rfl b66.1 (b66.2) (by decide) fun s66_12 hs66_12 => ?_
  replace hS := lt_to hs66_12 hS
  refine Zu (q_mkfn rfl) ?_
  obtain ⟨y68_14, ey68_14, hS⟩ := bd_s hS
  refine Zu (q_callR (slices_ContainsFunc_index_Entry_index_Entry_ct s66_12 b5_2 z9_1 ey68_14) rfl (fun _ _ => rfl)) ?_
  refine Za ?_
  refine VL.mt y68_14 [0, 1, 5, 51] (fun _ _ h => h) hS rfl
 clear hS
 rintro x51_6 hS
 refine Zcb hS (fun h51 hS => ?_) (fun h51 hS => ?_)
 ·
  refine Zq (Zr ?_)
  refine Zy ?_
  cases hS
  exact Ze
 refine Zq (Zr ?_)
 refine Zy ?_
 obtain ⟨b72, hS⟩ := gd_s hS
 refine VL.sto Tryz.underlying51 gsz218 rfl rfl b72.1 (b72.2) (by decide) fun s72_15 hs72_15 => ?_
 replace hS := lt_to hs72_15 hS
 refine Zu (q_mkfn rfl) ?_
 obtain ⟨y74_17, ey74_17, hS⟩ := bd_s hS
 refine Zu (q_callR (slices_ContainsFunc_index_Entry_index_Entry_v2_ct s72_15 b5_2 z9_1 ey74_17) rfl (fun _ _ => rfl)) ?_
 refine Zy ?_
 refine Zcb hS (fun h69 hS => ?_) (fun h69 hS => ?_)
 ·
  refine Zq (Zr ?_)
  refine Zy ?_
  refine VC.keep (ρ' := [(4, i64 11)]) [4] rfl ?_
  cases hS
  exact Ze
 refine Zk ?_
 refine Zq (Zr ?_)
 refine Zy ?_
 refine VC.keep (ρ' := [(4, i64 0)]) [4] rfl ?_
 cases hS
 exact Ze
theorem index_Check_ct (l_0 : Sv IndexEntry) {r : Err} (hS : Sh.index_Check l_0.l = some r) :
 Ct Tryz.prog 98 [l_0.val] l_0.ok (Ow.emp) (X := Er) (fun x => x.val) (fun x => r = x.pl) (fun x => x.ok) (fun x => Ow.emp) := by
 refine Zo Tryz.func98 Tryz.ntmps98 fun c => ?_
 unfold Sh.index_Check at hS
 refine Zq (Zr ?_)
 refine Zy ?_
 refine Zq (Zq (Zr ?_))
 refine Zm ?_
 refine Zu (q_ln (s := l_0) Tryz.underlying51 rfl) ?_
 refine Zu (q_gtr rfl rfl) ?_
 refine Zl ?_
 refine Zc hS (fun h7 hS => ?_) (fun h7 hS => ?_)
 ·
  refine Zq (Zr ?_)
  refine Zu (q_mkif Tryz.underlying131 (fun _ h => by cases h) rfl) ?_
  refine Zu (q_build (vs := [(0, str [101, 110, 116, 114, 121]), (1, i64 256), (2, (Er.no 4).val)]) (cs := #[str [101, 110, 116, 114, 121], i64 256, (Er.no 4).val]) rfl (by kernel_rfl)) ?_
  refine VL.box (cs := [str [101, 110, 116, 114, 121], i64 256, (Er.no 4).val]) rfl rfl (by decide) fun b10_1 => ?_
  refine VL.shutB b10_1 ?_
  refine Zu (q_mkif Tryz.underlying190 (fun _ h => by cases h) rfl) ?_
  refine Zy ?_
  cases hS
  exact VC.ret (fin1 (.inr rfl) rfl rfl (Er.fault b10_1 [101, 110, 116, 114, 121] 256 (Er.no 4)) rfl rfl (by (try dsimp only); exact InM.out) (fun _ _ => trivial))
 refine Zk ?_
 refine Zq (Zq (Zr ?_))
 refine Zm ?_
 refine Zu (q_ln (s := l_0) Tryz.underlying51 rfl) ?_
 refine Zy ?_
 refine Zb ?_
 refine VC.iter (S := Int) (fun (x14_2 : Int) => x14_2) (fun (x14_2 : Int) => [(0, l_0.val), (13, i64 (l_0.l.length : Int)), (14, i64 x14_2)]) (fun (x14_2 : Int) => Mo.tt) (fun (x14_2 : Int) => Ow.emp) 0 [0, 13, 14] hS rfl ?_
 clear hS
 rintro x14_2 m1 y1 hS hK1
 refine Zq (Zr ?_)
 refine Zu (q_lss rfl rfl) ?_
 refine Zl ?_
 refine Zq ?_
 refine Zc hS (fun h15 hS => ?_) (fun h15 hS => ?_)
 ·
  refine Zk ?_
  refine Zq (Zb (Zq (Zr ?_)))
  refine Zy ?_
  refine Zq (Zr ?_)
  refine Zy ?_
  obtain ⟨y19_3, ey19_3, hS⟩ := bd_s hS
  refine Zu (q_call (index_wrong_ct l_0 x14_2 ey19_3) rfl (fun _ _ => rfl)) ?_
  refine Zy ?_
  refine Zq (Zr ?_)
  refine Zm ?_
  refine Zu (q_neq rfl rfl) ?_
  refine Zl ?_
  refine Zcn hS (fun h21 hS => ?_) (fun h21 hS => ?_)
  ·
   refine Zq (Zr ?_)
   refine Zy ?_
   refine Zu (q_mkif Tryz.underlying131 (fun _ h => by cases h) rfl) ?_
   refine Zu (q_build (vs := [(0, str [101, 110, 116, 114, 121]), (1, i64 x14_2), (2, (Er.no y19_3).val)]) (cs := #[str [101, 110, 116, 114, 121], i64 x14_2, (Er.no y19_3).val]) rfl (by kernel_rfl)) ?_
   refine VL.box (cs := [str [101, 110, 116, 114, 121], i64 x14_2, (Er.no y19_3).val]) rfl rfl (by decide) fun b26_4 => ?_
   refine VL.shutB b26_4 ?_
   refine Zu (q_mkif Tryz.underlying190 (fun _ h => by cases h) rfl) ?_
   refine Zy ?_
   refine VC.keep (ρ' := [(2, (Er.fault b26_4 [101, 110, 116, 114, 121] x14_2 (Er.no y19_3)).val)]) [2] rfl ?_
   replace hS := up2 hS hK1
   cases hS
   exact VC.ret (fin1 (.inr rfl) rfl rfl (Er.fault b26_4 [101, 110, 116, 114, 121] x14_2 (Er.no y19_3)) rfl rfl (by (try dsimp only); exact InM.out) (fun _ _ => trivial))
  refine Zk ?_
  refine VC.keep (ρ' := [(0, l_0.val), (13, i64 (l_0.l.length : Int)), (14, i64 x14_2)]) [0, 13, 14] rfl ?_
  refine Zr ?_
  obtain ⟨b28, hS⟩ := gd_s hS
  refine Zu (q_add rfl rfl b28) ?_
  refine Zm ?_
  refine VL.rnd (x14_2 + 1) [0, 13, 14] (fun _ _ h => h) (go2 hS hK1) rfl
 replace hS := up2 hS hK1
 refine Zx ?_
 refine Zq (Zr ?_)
 refine Zy ?_
 cases hS
 exact VC.ret (fin1 (.inr rfl) rfl rfl .nil rfl rfl (by (try dsimp only); exact InM.out) (fun _ _ => trivial))
theorem names_Good_ct (name_0 : Str) {r : Bool} (hS : Sh.names_Good name_0 = some r) :
 Ct Tryz.prog 181 [str name_0] Mo.tt (Ow.emp) (X := Unit) (fun _ => .bool r) (fun _ => True) (fun _ => Mo.tt) (fun _ => Ow.emp) := by
 refine Zo Tryz.func181 Tryz.ntmps181 fun c => ?_
 unfold Sh.names_Good at hS
 refine Zq (Zr ?_)
 refine Zy ?_
 refine Zq (Zq (Zr ?_))
 refine Zm ?_
 obtain ⟨b6, hS⟩ := gd_s hS
 refine VL.s2b Tryz.underlying9 Tryz.underlying22 Tryz.underlying5 rfl b6 (by decide) fun s6_1 hs6_1 => ?_
 replace hS := lt_to hs6_1 hS
 refine Zu (q_ln (s := s6_1) Tryz.underlying22 rfl) ?_
 refine Zy ?_
 refine Zb ?_
 refine VC.iter (S := Int) (fun (x8_3 : Int) => x8_3) (fun (x8_3 : Int) => [(0, str name_0), (6, s6_1.val), (7, i64 (s6_1.l.length : Int)), (8, i64 x8_3)]) (fun (x8_3 : Int) => Mo.tt) (fun (x8_3 : Int) => Ow.emp) 0 [0, 6, 7, 8] hS rfl ?_
 clear hS
 rintro x8_3 m1 y1 hS hK1
 refine Zq (Zr ?_)
 refine Zu (q_lss rfl rfl) ?_
 refine Zl ?_
 refine Zq ?_
 refine Zc hS (fun h9 hS => ?_) (fun h9 hS => ?_)
 ·
  refine Zk ?_
  refine Zq (Zb (Zq (Zr ?_)))
  refine Zm ?_
  obtain ⟨z11_4, nz11_4, hz11_4, hS⟩ := at_s hS
  refine Zu (q_ixm (s := s6_1) Tryz.underlying22 gsz5 rfl rfl nz11_4 (lt_of_get nz11_4 hz11_4)) ?_
  refine Zu (q_el (s := s6_1) gone5 rfl hz11_4 rfl) ?_
  refine Zy ?_
  refine VC.cutJ (S := Bool) (fun (x34_5 : Bool) => x34_5) (fun (x34_5 : Bool) => [(0, str name_0), (6, s6_1.val), (7, i64 (s6_1.l.length : Int)), (8, i64 x8_3), (34, .bool x34_5)]) (fun (x34_5 : Bool) => Mo.tt) (fun (x34_5 : Bool) => Ow.emp) hS ?_ ?_
  ·
   clear hS
   intro k6 hS
   refine Zr ?_
   refine Zm ?_
   refine Zu (q_lss rfl rfl) ?_
   refine Zm ?_
   refine Zsp 15 hS (fun h15 hS => ?_) (fun h15 hS => ?_)
   ·
    refine VL.runs 4 [(19, some true)] (by kernel_rfl) ?_
    refine Zg ?_
    refine Zh (q_eql rfl rfl) ?_
    refine Zg ?_
    refine Zsp 22 hS (fun h22 hS => ?_) (fun h22 hS => ?_)
    ·
     refine VL.runs 10 [(32, none)] (by kernel_rfl) ?_
     refine Zh (q_pick_t rfl rfl) ?_
     refine Zt ?_
     refine VL.mt true [0, 6, 7, 8, 34] (fun _ _ h => h) hS rfl
    refine Zg ?_
    refine Zh (q_neq rfl rfl) ?_
    refine Zg ?_
    refine Zspn 25 hS (fun h25 hS => ?_) (fun h25 hS => ?_)
    ·
     refine Zg ?_
     refine Zh (q_lss rfl rfl) ?_
     refine Zg ?_
     refine Zsp 28 hS (fun h28 hS => ?_) (fun h28 hS => ?_)
     ·
      refine Zy ?_
      refine Zh (q_pick_t rfl rfl) ?_
      refine Zh (q_pick_t rfl rfl) ?_
      refine Zh (q_pick_f rfl rfl) ?_
      refine Zt ?_
      refine VL.mt true [0, 6, 7, 8, 34] (fun _ _ h => h) hS rfl
     refine Zg ?_
     refine Zh (q_gtr rfl rfl) ?_
     refine Zh (q_pick_f rfl rfl) ?_
     refine Zh (q_pick_t rfl rfl) ?_
     refine Zh (q_pick_f rfl rfl) ?_
     refine Zt ?_
     refine VL.mt (decide (57 < (z11_4.toNat : Int))) [0, 6, 7, 8, 34] (fun _ _ h => h) hS rfl
    refine VL.runs 6 [(31, none)] (by kernel_rfl) ?_
    refine Zh (q_pick_f rfl rfl) ?_
    refine Zh (q_pick_f rfl rfl) ?_
    refine Zt ?_
    refine VL.mt false [0, 6, 7, 8, 34] (fun _ _ h => h) hS rfl
   refine Zg ?_
   refine Zh (q_gtr rfl rfl) ?_
   refine Zy ?_
   refine Zsp 19 hS (fun h19 hS => ?_) (fun h19 hS => ?_)
   ·
    refine Zg ?_
    refine Zh (q_eql rfl rfl) ?_
    refine Zg ?_
    refine Zsp 22 hS (fun h22 hS => ?_) (fun h22 hS => ?_)
    ·
     refine VL.runs 10 [(32, none)] (by kernel_rfl) ?_
     refine Zh (q_pick_t rfl rfl) ?_
     refine Zt ?_
     refine VL.mt true [0, 6, 7, 8, 34] (fun _ _ h => h) hS rfl
    refine Zg ?_
    refine Zh (q_neq rfl rfl) ?_
    refine Zg ?_
    refine Zspn 25 hS (fun h25 hS => ?_) (fun h25 hS => ?_)
    ·
     refine Zg ?_
     refine Zh (q_lss rfl rfl) ?_
     refine Zg ?_
     refine Zsp 28 hS (fun h28 hS => ?_) (fun h28 hS => ?_)
     ·
      refine Zy ?_
      refine Zh (q_pick_t rfl rfl) ?_
      refine Zh (q_pick_t rfl rfl) ?_
      refine Zh (q_pick_f rfl rfl) ?_
      refine Zt ?_
      refine VL.mt true [0, 6, 7, 8, 34] (fun _ _ h => h) hS rfl
     refine Zg ?_
     refine Zh (q_gtr rfl rfl) ?_
     refine Zh (q_pick_f rfl rfl) ?_
     refine Zh (q_pick_t rfl rfl) ?_
     refine Zh (q_pick_f rfl rfl) ?_
     refine Zt ?_
     refine VL.mt (decide (57 < (z11_4.toNat : Int))) [0, 6, 7, 8, 34] (fun _ _ h => h) hS rfl
    refine VL.runs 6 [(31, none)] (by kernel_rfl) ?_
    refine Zh (q_pick_f rfl rfl) ?_
    refine Zh (q_pick_f rfl rfl) ?_
    refine Zt ?_
    refine VL.mt false [0, 6, 7, 8, 34] (fun _ _ h => h) hS rfl
   refine VL.runs 15 [(34, some false)] (by kernel_rfl) ?_
   refine VL.mt false [0, 6, 7, 8, 34] (fun _ _ h => h) hS rfl
  clear hS
  rintro x34_5 hS
  refine Zcb hS (fun h34 hS => ?_) (fun h34 hS => ?_)
  ·
   refine Zq (Zr ?_)
   refine Zy ?_
   replace hS := up2 hS hK1
   cases hS
   exact Ze
  refine Zk ?_
  refine Zr ?_
  obtain ⟨b35, hS⟩ := gd_s hS
  refine Zu (q_add rfl rfl b35) ?_
  refine Zm ?_
  refine VL.rnd (x8_3 + 1) [0, 6, 7, 8] (fun _ _ h => h) (go2 hS hK1) rfl
 replace hS := up2 hS hK1
 refine Zx ?_
 refine Zq (Zr ?_)
 refine Zm ?_
 refine Zu (q_slen Tryz.underlying9 rfl) ?_
 refine Zu (q_geq rfl rfl) ?_
 refine Zm ?_
 refine Zsp 39 hS (fun h39 hS => ?_) (fun h39 hS => ?_)
 ·
  refine Zg ?_
  refine Zh (q_slen Tryz.underlying9 rfl) ?_
  refine Zh (q_leq rfl rfl) ?_
  refine Zy ?_
  refine VC.keep (ρ' := [(2, .bool (decide ((name_0.length : Int) ≤ 32)))]) [2] rfl ?_
  cases hS
  exact Ze
 refine VL.runs 5 [(2, some false)] (by kernel_rfl) ?_
 refine Zl ?_
 cases hS
 exact Ze
theorem state_has_ct (s_0 : StateState) (id_1 : Int) {r : Bool} (hS : Sh.state_has s_0.pl id_1 = some r) :
 Ct Tryz.prog 91 [.agg (zStateState s_0).toArray, i64 id_1] (s_0.now_work.ok.and (s_0.now_index.ok.and (s_0.now_refs.ok.and (s_0.now_seq_doing.ok.and (s_0.now_seq_todo.ok.and (s_0.now_seq_index.ok.and (s_0.now_seq_work.ok.and (s_0.now_stash.ok.and (s_0.commits.ok.and (s_0.log_back.ok.and s_0.log_forth.ok)))))))))) (Ow.emp) (X := Unit) (fun _ => .bool r) (fun _ => True) (fun _ => Mo.tt) (fun _ => Ow.emp) := by
 refine Zo Tryz.func91 Tryz.ntmps91 fun c => ?_
 unfold Sh.state_has at hS
 refine Zq (Zr ?_)
 refine VL.box (cs := (zStateState s_0)) rfl rfl (by decide) fun b2_1 => ?_
 refine Zy ?_
 refine Zq (Zr ?_)
 refine Zm ?_
 refine Zu (q_geq rfl rfl) ?_
 refine Zm ?_
 refine Zsp 7 hS (fun h7 hS => ?_) (fun h7 hS => ?_)
 ·
  refine Zg ?_
  refine Zh (q_field gfa93_1 rfl) ?_
  refine Zh (q_fe gone68 rfl rfl) ?_
  refine Zh (q_lnm StateCommit.pl (s := s_0.commits) Tryz.underlying68 rfl) ?_
  refine Zh (q_leq rfl rfl) ?_
  refine Zy ?_
  refine VC.keep (ρ' := [(4, .bool (decide (id_1 ≤ ((s_0.commits.l.map StateCommit.pl).length : Int))))]) [4] rfl ?_
  cases hS
  exact Ze
 refine VL.runs 7 [(4, some false)] (by kernel_rfl) ?_
 refine Zl ?_
 cases hS
 exact Ze
theorem state_refs_ct (s_0 : StateState) {r : Int} (hS : Sh.state_refs s_0.pl = some r) :
 Ct Tryz.prog 100 [.agg (zStateState s_0).toArray] (s_0.now_work.ok.and (s_0.now_index.ok.and (s_0.now_refs.ok.and (s_0.now_seq_doing.ok.and (s_0.now_seq_todo.ok.and (s_0.now_seq_index.ok.and (s_0.now_seq_work.ok.and (s_0.now_stash.ok.and (s_0.commits.ok.and (s_0.log_back.ok.and s_0.log_forth.ok)))))))))) (Ow.emp) (X := Unit) (fun _ => i64 r) (fun _ => True) (fun _ => Mo.tt) (fun _ => Ow.emp) := by
 refine Zo Tryz.func100 Tryz.ntmps100 fun c => ?_
 unfold Sh.state_refs at hS
 refine Zq (Zr ?_)
 refine VL.box (cs := (zStateState s_0)) rfl rfl (by decide) fun b1_1 => ?_
 refine Zy ?_
 refine Zq (Zq (Zr ?_))
 refine Zu (q_field gfa93_0 rfl) ?_
 refine Zu (q_field gfa61_2 rfl) ?_
 refine Zu (q_fe gone52 rfl rfl) ?_
 refine Zu (q_ln (s := s_0.now_refs) Tryz.underlying52 rfl) ?_
 refine Zy ?_
 refine Zb ?_
 refine VC.iter (S := Int) (fun (x9_2 : Int) => x9_2) (fun (x9_2 : Int) => [(1, ptr b1_1 0), (7, s_0.now_refs.val), (8, i64 (s_0.now_refs.l.length : Int)), (9, i64 x9_2)]) (fun (x9_2 : Int) => Mo.tt) (fun (x9_2 : Int) => Ow.star (Blk b1_1 (zStateState s_0) 93) (Ow.emp)) 0 [1, 7, 8, 9] hS rfl ?_
 clear hS
 rintro x9_2 m1 y1 hS hK1
 refine Zq (Zr ?_)
 refine Zu (q_lss rfl rfl) ?_
 refine Zl ?_
 refine Zq ?_
 refine Zc hS (fun h10 hS => ?_) (fun h10 hS => ?_)
 ·
  refine Zk ?_
  refine Zq (Zb (Zq (Zr ?_)))
  refine Zm ?_
  obtain ⟨z12_3, nz12_3, hz12_3, hS⟩ := at_s hS
  refine Zu (q_ixm (s := s_0.now_refs) Tryz.underlying52 gsz216 rfl rfl nz12_3 (lt_of_get nz12_3 hz12_3)) ?_
  refine Zu (q_els (s := s_0.now_refs) gagg216 rfl rfl hz12_3) ?_
  refine VL.alloc (cs := [str [], i64 0]) (by kernel_rfl) (by decide) fun b4_4 => ?_
  refine Za ?_
  refine Zv (vc := [str z12_3.name, i64 z12_3.commit]) (cs' := [str z12_3.name, i64 z12_3.commit]) rfl gsz216 ?_
  refine Zl ?_
  refine Zb (Zq (Zr ?_))
  refine Zu (q_field gfa216_0 rfl) ?_
  refine Zu (q_fe gone9 rfl rfl) ?_
  obtain ⟨y17_5, ey17_5, hS⟩ := bd_s hS
  refine Zu (q_call (names_Good_ct z12_3.name ey17_5) rfl (fun _ _ => rfl)) ?_
  refine Zu (q_not rfl) ?_
  refine Zy ?_
  refine VC.keep (ρ' := [(1, ptr b1_1 0), (7, s_0.now_refs.val), (8, i64 (s_0.now_refs.l.length : Int)), (9, i64 x9_2), (4, ptr b4_4 0), (3, i64 x9_2), (14, .bool (!y17_5))]) [1, 7, 8, 9, 4, 3, 14] rfl ?_
  refine Zcb hS (fun h14 hS => ?_) (fun h14 hS => ?_)
  ·
   refine Zq (Zr ?_)
   refine Zy ?_
   replace hS := up2 hS hK1
   cases hS
   exact Ze
  refine VC.cutJ (S := Bool) (fun (x19_6 : Bool) => x19_6) (fun (x19_6 : Bool) => [(1, ptr b1_1 0), (4, ptr b4_4 0), (7, s_0.now_refs.val), (8, i64 (s_0.now_refs.l.length : Int)), (9, i64 x9_2), (19, .bool x19_6)]) (fun (x19_6 : Bool) => Mo.tt) (fun (x19_6 : Bool) => Ow.star (Blk b4_4 [str z12_3.name, i64 z12_3.commit] 216) (Ow.star (Blk b1_1 (zStateState s_0) 93) (Ow.emp))) hS ?_ ?_
  ·
   clear hS
   intro k7 hS
   refine VC.draw ((List.range 17).map fun k => (k, true)) mixed (by kernel_rfl) (by kernel_rfl) (by kernel_rfl) ?_
   refine Zw rfl (q_move rfl) ?_
   refine Zw rfl (q_gtr rfl rfl) ?_
   refine Zw rfl (q_move rfl) ?_
   refine VD.split_dec 22 rfl (fun h22 => ?_) (fun h22 => ?_)
   ·
    replace hS := it_t h22 hS
    refine Zi rfl (q_field gfa93_0 rfl) ?_
    refine Zi rfl (q_field gfa61_2 rfl) ?_
    refine Zi rfl (q_fe gone52 rfl rfl) ?_
    refine Zi rfl (q_move rfl) ?_
    obtain ⟨b27, hS⟩ := gd_s hS
    refine Zi rfl (q_sub rfl rfl b27) ?_
    obtain ⟨z28_8, nz28_8, hz28_8, hS⟩ := at_s hS
    refine Zi rfl (q_ixm (s := s_0.now_refs) Tryz.underlying52 gsz216 rfl rfl nz28_8 (lt_of_get nz28_8 hz28_8)) ?_
    refine Zi rfl (q_field gfa216_0 rfl) ?_
    refine Zi rfl (q_elf (s := s_0.now_refs) gone9 rfl hz28_8 rfl) ?_
    refine Zi rfl (q_field gfa216_0 rfl) ?_
    refine Zi rfl (q_fe gone9 rfl rfl) ?_
    obtain ⟨y33_9, ey33_9, hS⟩ := bd_s hS
    refine Zi rfl (q_call (cmp_Compare_string_ct z28_8.name z12_3.name ey33_9) rfl (fun _ _ => rfl)) ?_
    refine Zi rfl (q_geq rfl rfl) ?_
    refine Zw rfl (q_pick_t rfl rfl) ?_
    refine Zw rfl (q_assign rfl) ?_
    refine VD.mt (decide (0 ≤ y33_9)) [1, 4, 7, 8, 9, 19] (fun _ _ h => h) hS rfl
   replace hS := it_f h22 hS
   refine Zd ?_
   refine Zd ?_
   refine Zd ?_
   refine Zd ?_
   refine Zd ?_
   refine Zd ?_
   refine Zd ?_
   refine Zd ?_
   refine Zd ?_
   refine Zd ?_
   refine Zd ?_
   refine Zd ?_
   refine Zw rfl (q_pick_f rfl rfl) ?_
   refine Zw rfl (q_assign rfl) ?_
   refine VD.mt false [1, 4, 7, 8, 9, 19] (fun _ _ h => h) hS rfl
  clear hS
  rintro x19_6 hS
  refine Zcb hS (fun h19 hS => ?_) (fun h19 hS => ?_)
  ·
   refine Zq (Zr ?_)
   refine Zy ?_
   replace hS := up2 hS hK1
   cases hS
   exact Ze
  refine Zq (Zr ?_)
  refine Zu (q_fes gagg93 rfl rfl) ?_
  refine Zu (q_field gfa216_1 rfl) ?_
  refine Zu (q_fe gone3 rfl rfl) ?_
  obtain ⟨y40_10, ey40_10, hS⟩ := bd_s hS
  refine Zu (q_call (state_has_ct s_0 z12_3.commit ey40_10) rfl (fun _ _ => rfl)) ?_
  refine Zu (q_not rfl) ?_
  refine Zy ?_
  refine VC.keep (ρ' := [(1, ptr b1_1 0), (7, s_0.now_refs.val), (8, i64 (s_0.now_refs.l.length : Int)), (9, i64 x9_2), (36, .bool (!y40_10))]) [1, 7, 8, 9, 36] rfl ?_
  refine Zcb hS (fun h36 hS => ?_) (fun h36 hS => ?_)
  ·
   refine Zq (Zr ?_)
   refine Zy ?_
   replace hS := up2 hS hK1
   cases hS
   exact Ze
  refine Zk ?_
  refine Zr ?_
  obtain ⟨b42, hS⟩ := gd_s hS
  refine Zu (q_add rfl rfl b42) ?_
  refine Zm ?_
  refine VL.rnd (x9_2 + 1) [1, 7, 8, 9] (fun _ _ h => h) (go2 hS hK1) rfl
 replace hS := up2 hS hK1
 refine Zx ?_
 refine Zq (Zr ?_)
 refine Zy ?_
 cases hS
 exact Ze
theorem state_number_ct (e_0 : Int) {r : Err} (hS : Sh.state_number e_0 = some r) :
 Ct Tryz.prog 99 [i64 e_0] Mo.tt (Ow.emp) (X := Er) (fun x => x.val) (fun x => r = x.pl) (fun x => x.ok) (fun x => Ow.emp) := by
 refine Zo Tryz.func99 Tryz.ntmps99 fun c => ?_
 unfold Sh.state_number at hS
 refine Zq (Zr ?_)
 refine Zy ?_
 refine Zq (Zq (Zr ?_))
 refine Zm ?_
 refine Zu (q_eql rfl rfl) ?_
 refine Zl ?_
 refine Zc hS (fun h4 hS => ?_) (fun h4 hS => ?_)
 ·
  refine Zq (Zr ?_)
  refine Zy ?_
  cases hS
  exact VC.ret (fin1 (.inr rfl) rfl rfl .nil rfl rfl (by (try dsimp only); exact InM.out) (fun _ _ => trivial))
 refine Zk ?_
 refine Zq (Zr ?_)
 refine Zm ?_
 refine Zu (q_mkif Tryz.underlying131 (fun _ h => by cases h) rfl) ?_
 refine Zy ?_
 cases hS
 exact VC.ret (fin1 (.inr rfl) rfl rfl (Er.no e_0) rfl rfl (by (try dsimp only); exact InM.out) (fun _ _ => trivial))
theorem state_at_1_ct (r_0 : NamesRef) (a_1_b : Nat) (a_1 : Str) {r : Bool} (hS : Sh.state_at_1 r_0 a_1 = some r) :
 Ct Tryz.prog 229 [.agg #[str r_0.name, i64 r_0.commit], ptr a_1_b 0] (Cells a_1_b 0 [str a_1]) (Ow.emp) (X := Unit) (fun _ => .bool r) (fun _ => True) (fun _ => Mo.tt) (fun _ => Ow.emp) := by
 refine Zo Tryz.func229 Tryz.ntmps229 fun c => ?_
 unfold Sh.state_at_1 at hS
 refine Zq (Zr ?_)
 refine VL.box (cs := [str r_0.name, i64 r_0.commit]) rfl rfl (by decide) fun b2_1 => ?_
 refine Zy ?_
 refine Zq (Zr ?_)
 refine Zu (q_field gfa216_0 rfl) ?_
 refine Zu (q_fe gone9 rfl rfl) ?_
 refine Zu (q_fm gone9 rfl rfl) ?_
 refine Zy ?_
 cases hS
 exact Ze
theorem slices_IndexFunc_names_Ref_names_Ref_ct (s_0 : Sv NamesRef) (f_1_0_b : Nat) (f_1_0 : Str) {r : Int} (hS : Sh.slices_IndexFunc_names_Ref_names_Ref s_0.l f_1_0 = some r) :
 Ct Tryz.prog 228 [s_0.val, .func (.func 229) #[] #[ptr f_1_0_b 0]] (s_0.ok.and (Cells f_1_0_b 0 [str f_1_0])) (Ow.emp) (X := Unit) (fun _ => i64 r) (fun _ => True) (fun _ => Mo.tt) (fun _ => Ow.emp) := by
 refine Zo Tryz.func228 Tryz.ntmps228 fun c => ?_
 unfold Sh.slices_IndexFunc_names_Ref_names_Ref at hS
 refine Zq (Zr ?_)
 refine Zy ?_
 refine Zq (Zq (Zr ?_))
 refine Zm ?_
 refine Zu (q_ln (s := s_0) Tryz.underlying52 rfl) ?_
 refine Zy ?_
 refine Zb ?_
 refine VC.iter (S := Int) (fun (x8_1 : Int) => x8_1) (fun (x8_1 : Int) => [(0, s_0.val), (1, .func (.func 229) #[] #[ptr f_1_0_b 0]), (7, i64 (s_0.l.length : Int)), (8, i64 x8_1)]) (fun (x8_1 : Int) => Mo.tt) (fun (x8_1 : Int) => Ow.emp) 0 [0, 1, 7, 8] hS rfl ?_
 clear hS
 rintro x8_1 m1 y1 hS hK1
 refine Zq (Zr ?_)
 refine Zu (q_lss rfl rfl) ?_
 refine Zl ?_
 refine Zq ?_
 refine Zc hS (fun h9 hS => ?_) (fun h9 hS => ?_)
 ·
  refine Zk ?_
  refine Zq (Zb (Zq (Zr ?_)))
  refine Zy ?_
  refine Zq (Zr ?_)
  refine Zy ?_
  obtain ⟨z14_2, nz14_2, hz14_2, hS⟩ := at_s hS
  refine Zu (q_ixm (s := s_0) Tryz.underlying52 gsz216 rfl rfl nz14_2 (lt_of_get nz14_2 hz14_2)) ?_
  refine Zu (q_els (s := s_0) gagg216 rfl rfl hz14_2) ?_
  obtain ⟨y16_3, ey16_3, hS⟩ := bd_s hS
  refine Zu (q_callVC (vs := [.agg #[str z14_2.name, i64 z14_2.commit]]) (caps := [ptr f_1_0_b 0]) (state_at_1_ct z14_2 f_1_0_b f_1_0 ey16_3) rfl rfl (fun _ _ => rfl)) ?_
  refine Zl ?_
  refine VC.keep (ρ' := [(0, s_0.val), (1, .func (.func 229) #[] #[ptr f_1_0_b 0]), (7, i64 (s_0.l.length : Int)), (8, i64 x8_1), (5, i64 x8_1), (16, .bool y16_3)]) [0, 1, 7, 8, 5, 16] rfl ?_
  refine Zcb hS (fun h16 hS => ?_) (fun h16 hS => ?_)
  ·
   refine Zq (Zr ?_)
   refine Zy ?_
   replace hS := up2 hS hK1
   cases hS
   exact Ze
  refine Zk ?_
  refine Zr ?_
  obtain ⟨b18, hS⟩ := gd_s hS
  refine Zu (q_add rfl rfl b18) ?_
  refine Zm ?_
  refine VL.rnd (x8_1 + 1) [0, 1, 7, 8] (fun _ _ h => h) (go2 hS hK1) rfl
 replace hS := up2 hS hK1
 refine Zx ?_
 refine Zq (Zr ?_)
 refine Zy ?_
 cases hS
 exact Ze
theorem state_at_ct (l_0 : Sv NamesRef) (name_1 : Str) {r : Int} (hS : Sh.state_at l_0.l name_1 = some r) :
 Ct Tryz.prog 183 [l_0.val, str name_1] l_0.ok (Ow.emp) (X := Unit) (fun _ => i64 r) (fun _ => True) (fun _ => Mo.tt) (fun _ => Ow.emp) := by
 refine Zo Tryz.func183 Tryz.ntmps183 fun c => ?_
 unfold Sh.state_at at hS
 refine Zq (Zr ?_)
 refine VL.box (cs := [str name_1]) rfl rfl (by decide) fun b3_1 => ?_
 refine Zy ?_
 refine Zq (Zr ?_)
 refine Zm ?_
 refine Zu (q_mkfn rfl) ?_
 obtain ⟨y8_2, ey8_2, hS⟩ := bd_s hS
 refine Zu (q_callR (slices_IndexFunc_names_Ref_names_Ref_ct l_0 b3_1 name_1 ey8_2) rfl (fun _ _ => rfl)) ?_
 refine Zy ?_
 refine Zq (Zq (Zr ?_))
 refine Zm ?_
 refine Zu (q_lss rfl rfl) ?_
 refine Zl ?_
 refine Zc hS (fun h10 hS => ?_) (fun h10 hS => ?_)
 ·
  refine Zq (Zr ?_)
  refine Zy ?_
  cases hS
  exact Ze
 refine Zk ?_
 refine Zq (Zr ?_)
 refine Zy ?_
 obtain ⟨z13_3, nz13_3, hz13_3, hS⟩ := at_s hS
 refine Zu (q_ixm (s := l_0) Tryz.underlying52 gsz216 rfl rfl nz13_3 (lt_of_get nz13_3 hz13_3)) ?_
 refine Zu (q_field gfa216_1 rfl) ?_
 refine Zu (q_elf (s := l_0) gone3 rfl hz13_3 rfl) ?_
 refine Zy ?_
 refine VC.keep (ρ' := [(4, i64 z13_3.commit)]) [4] rfl ?_
 cases hS
 exact Ze
theorem state_head_ct (s_0 : StateState) {r : Int} (hS : Sh.state_head s_0.pl = some r) :
 Ct Tryz.prog 101 [.agg (zStateState s_0).toArray] (s_0.now_work.ok.and (s_0.now_index.ok.and (s_0.now_refs.ok.and (s_0.now_seq_doing.ok.and (s_0.now_seq_todo.ok.and (s_0.now_seq_index.ok.and (s_0.now_seq_work.ok.and (s_0.now_stash.ok.and (s_0.commits.ok.and (s_0.log_back.ok.and s_0.log_forth.ok)))))))))) (Ow.emp) (X := Unit) (fun _ => i64 r) (fun _ => True) (fun _ => Mo.tt) (fun _ => Ow.emp) := by
 refine Zo Tryz.func101 Tryz.ntmps101 fun c => ?_
 unfold Sh.state_head at hS
 refine Zq (Zr ?_)
 refine VL.box (cs := (zStateState s_0)) rfl rfl (by decide) fun b1_1 => ?_
 refine Zy ?_
 refine Zq (Zr ?_)
 refine Zu (q_field gfa93_0 rfl) ?_
 refine Zu (q_field gfa61_3 rfl) ?_
 refine Zu (q_fep (j := 3) (n := 2) gagg54 rfl rfl rfl) ?_
 refine VL.alloc (cs := [str [], i64 0]) (by kernel_rfl) (by decide) fun b3_2 => ?_
 refine Zv (vc := [str s_0.now_head_branch, i64 s_0.now_head_commit]) (cs' := [str s_0.now_head_branch, i64 s_0.now_head_commit]) rfl gsz54 ?_
 refine Zl ?_
 refine Zq (Zb ?_)
 refine VC.cutJ (S := Bool) (fun (x7_3 : Bool) => x7_3) (fun (x7_3 : Bool) => [(1, ptr b1_1 0), (3, ptr b3_2 0), (7, .bool x7_3)]) (fun (x7_3 : Bool) => Mo.tt) (fun (x7_3 : Bool) => Ow.star (Blk b3_2 [str s_0.now_head_branch, i64 s_0.now_head_commit] 54) (Ow.star (Blk b1_1 (zStateState s_0) 93) (Ow.emp))) hS ?_ ?_
 ·
  clear hS
  intro k4 hS
  refine Zr ?_
  refine Zu (q_field gfa54_0 rfl) ?_
  refine Zu (q_fe gone9 rfl rfl) ?_
  refine Zy ?_
  refine Zsp 11 hS (fun h11 hS => ?_) (fun h11 hS => ?_)
  ·
   refine Zh (q_fes gagg93 rfl rfl) ?_
   refine Zh (q_field gfa54_1 rfl) ?_
   refine Zh (q_fe gone3 rfl rfl) ?_
   obtain ⟨y15_5, ey15_5, hS⟩ := bd_s hS
   refine Zh (q_call (state_has_ct s_0 s_0.now_head_commit ey15_5) rfl (fun _ _ => rfl)) ?_
   refine Zh (q_not rfl) ?_
   refine Zy ?_
   refine VL.mt (!y15_5) [1, 3, 7] (fun _ _ h => h) hS rfl
  refine VL.runs 7 [(7, some false)] (by kernel_rfl) ?_
  refine VL.mt false [1, 3, 7] (fun _ _ h => h) hS rfl
 clear hS
 rintro x7_3 hS
 refine Zcb hS (fun h7 hS => ?_) (fun h7 hS => ?_)
 ·
  refine Zq (Zr ?_)
  refine Zy ?_
  cases hS
  exact Ze
 refine Zq (Zr ?_)
 refine Zu (q_field gfa54_0 rfl) ?_
 refine Zu (q_fe gone9 rfl rfl) ?_
 refine Zy ?_
 refine Zc hS (fun h18 hS => ?_) (fun h18 hS => ?_)
 ·
  refine Zq (Zr ?_)
  refine Zy ?_
  cases hS
  exact Ze
 refine Zq (Zr ?_)
 refine Zu (q_field gfa54_0 rfl) ?_
 refine Zu (q_fe gone9 rfl rfl) ?_
 obtain ⟨y25_6, ey25_6, hS⟩ := bd_s hS
 refine Zu (q_call (names_Good_ct s_0.now_head_branch ey25_6) rfl (fun _ _ => rfl)) ?_
 refine Zu (q_not rfl) ?_
 refine Zy ?_
 refine VC.keep (ρ' := [(1, ptr b1_1 0), (3, ptr b3_2 0), (22, .bool (!y25_6))]) [1, 3, 22] rfl ?_
 refine Zcb hS (fun h22 hS => ?_) (fun h22 hS => ?_)
 ·
  refine Zq (Zr ?_)
  refine Zy ?_
  cases hS
  exact Ze
 refine Zq ?_
 refine VC.draw ((List.range 10).map fun k => (k, true)) mixed (by kernel_rfl) (by kernel_rfl) (by kernel_rfl) ?_
 refine Zw rfl (q_field gfa54_1 rfl) ?_
 refine Zw rfl (q_fe gone3 rfl rfl) ?_
 refine Zw rfl (q_field gfa93_0 rfl) ?_
 refine Zw rfl (q_field gfa61_2 rfl) ?_
 refine Zw rfl (q_fe gone52 rfl rfl) ?_
 refine Zw rfl (q_field gfa54_0 rfl) ?_
 refine Zw rfl (q_fe gone9 rfl rfl) ?_
 obtain ⟨y35_7, ey35_7, hS⟩ := bd_s hS
 refine Zw rfl (q_call (state_at_ct s_0.now_refs s_0.now_head_branch ey35_7) rfl (fun _ _ => rfl)) ?_
 refine Zw rfl (q_neq rfl rfl) ?_
 refine Zw rfl (q_assign rfl) ?_
 refine VD.to (fun _ _ h => h) ?_
 refine VC.keep (ρ' := [(27, .bool (!decide (s_0.now_head_commit = y35_7)))]) [27] rfl ?_
 refine Zcn hS (fun h27 hS => ?_) (fun h27 hS => ?_)
 ·
  refine Zq (Zr ?_)
  refine Zy ?_
  cases hS
  exact Ze
 refine Zk ?_
 refine Zq (Zr ?_)
 refine Zy ?_
 cases hS
 exact Ze
theorem slices_Clone_int_int_ct (s_0 : Sv Int) {r : List Int} (hS : Sh.slices_Clone_int_int s_0.l = some r) :
 Ct Tryz.prog 89 [s_0.val] s_0.ok (Ow.emp) (X := Sv Int) (fun x => x.val) (fun x => r = x.l) (fun x => Mo.tt) (fun x => Sv.own x 3) := by
 refine Zo Tryz.func89 Tryz.ntmps89 fun c => ?_
 unfold Sh.slices_Clone_int_int at hS
 refine Zq (Zr ?_)
 refine Zy ?_
 refine Zq (Zq (Zr ?_))
 refine Zm ?_
 refine Zu (q_slnil (s := s_0) Tryz.underlying32 rfl) ?_
 refine Zl ?_
 refine VC.slnil (s := s_0) rfl (fun h4 => ?_) ?_
 ·
  have hS : (some []) = some r := by
    simp [lt, gd, h4] at hS ⊢
    try exact hS
  refine Zq (Zr ?_)
  refine Zy ?_
  refine VC.nilO (⟨none, 0, []⟩ : Sv Int) 3 ⟨rfl, rfl⟩ ?_
  cases hS
  exact VC.ret (fin1 (.inr rfl) rfl rfl ⟨none, 0, []⟩ rfl rfl (by (try dsimp only); exact InM.out) (by (try dsimp only); exact EntO.out))
 refine Zk ?_
 refine Zq (Zr ?_)
 refine VL.lit0 (α := Int) Tryz.underlying32 ghas3 (by decide) (fun s5_1 hs5_1 hcs5_1 => ?_)
 refine VL.nilO s5_1 3 ⟨hcs5_1, hs5_1⟩ ?_
 replace hS := lt_to hs5_1 hS
 refine Zm ?_
 obtain ⟨b7, hS⟩ := gd_s hS
 refine VL.app (s := s5_1) (r := s_0) Tryz.underlying32 gapp3 (by decide) rfl Fo.out (ap1 b7) (ap2 b7 (by decide)) (by decide) (fun s7_3 hs7_3 => ?_)
 replace hS := lt_to hs7_3 hS
 refine Zy ?_
 cases hS
 exact VC.ret (fin1 (.inr rfl) rfl rfl s7_3 rfl rfl (by (try dsimp only); exact InM.out) (by (try dsimp only); exact EntO.out))
theorem slices_Clip_graph_Graph_int_ct (s_0 : Sv (Sv Int)) {r : List (List Int)} (hS : Sh.slices_Clip_graph_Graph_int (s_0.l.map Sv.l) = some r) :
 Ct Tryz.prog 90 [s_0.val] s_0.ok (Ow.emp) (X := Sv (Sv Int)) (fun x => x.val) (fun x => r = (x.l.map Sv.l)) (fun x => x.ok) (fun x => Ow.emp) := by
 refine Zo Tryz.func90 Tryz.ntmps90 fun c => ?_
 unfold Sh.slices_Clip_graph_Graph_int at hS
 refine Zq (Zr ?_)
 refine Zy ?_
 refine Zq (Zr ?_)
 refine Zy ?_
 refine Zu (q_lnm Sv.l (s := s_0) Tryz.underlying107 rfl) ?_
 refine Zm ?_
 refine Zu (q_lnm Sv.l (s := s_0) Tryz.underlying107 rfl) ?_
 obtain ⟨b8, hS⟩ := gd_s hS
 refine VL.stom Tryz.underlying107 gsz32 rfl rfl rfl b8.1 (len_m b8.2) (by decide) fun s8_1 hs8_1 => ?_
 replace hS := lt_to ((congrArg (List.map Sv.l) hs8_1).trans List.map_take) hS
 refine Zy ?_
 cases hS
 exact VC.ret (fin1 (.inr rfl) rfl rfl s8_1 rfl rfl (by (try dsimp only); exact InM.out) (fun _ _ => trivial))
theorem state_Graph_ct (s_0 : StateState) {r : List (List Int)} (hS : Sh.state_Graph s_0.pl = some r) :
 Ct Tryz.prog 35 [.agg (zStateState s_0).toArray] (s_0.now_work.ok.and (s_0.now_index.ok.and (s_0.now_refs.ok.and (s_0.now_seq_doing.ok.and (s_0.now_seq_todo.ok.and (s_0.now_seq_index.ok.and (s_0.now_seq_work.ok.and (s_0.now_stash.ok.and (s_0.commits.ok.and (s_0.log_back.ok.and s_0.log_forth.ok)))))))))) (Ow.emp) (X := Sv (Sv Int)) (fun x => x.val) (fun x => r = (x.l.map Sv.l)) (fun x => x.ok) (fun x => Ow.emp) := by
 refine Zo Tryz.func35 Tryz.ntmps35 fun c => ?_
 unfold Sh.state_Graph at hS
 refine Zq (Zr ?_)
 refine VL.box (cs := (zStateState s_0)) rfl rfl (by decide) fun b1_1 => ?_
 refine Zy ?_
 refine Zq (Zr ?_)
 refine Zy ?_
 refine Zq (Zq (Zr ?_))
 refine Zu (q_field gfa93_1 rfl) ?_
 refine Zu (q_fe gone68 rfl rfl) ?_
 refine Zu (q_lnm StateCommit.pl (s := s_0.commits) Tryz.underlying68 rfl) ?_
 refine Zy ?_
 refine Zb ?_
 refine VC.nilO (⟨none, 0, []⟩ : Sv (Sv Int)) 32 ⟨rfl, rfl⟩ ?_
 refine VC.maNil (s := (⟨none, 0, []⟩ : Sv (Sv Int))) rfl ?_
 refine VC.iter (S := Sv (Sv Int) × Int) (fun sg => ((sg.1.l.map Sv.l), sg.2)) (fun sg => [(3, sg.1.val), (7, s_0.commits.val), (8, i64 ((s_0.commits.l.map StateCommit.pl).length : Int)), (9, i64 sg.2)]) (fun sg => (MAl sg.1.l)) (fun sg => Ow.star (Blk b1_1 (zStateState s_0) 93) (Ow.star (Sv.own sg.1 32) (Ow.emp))) (⟨none, 0, []⟩, 0) [3, 7, 8, 9] hS rfl ?_
 clear hS
 rintro ⟨out3_2, x9_3⟩ m1 y1 hS hK1
 refine Zq (Zr ?_)
 refine Zu (q_lss rfl rfl) ?_
 refine Zl ?_
 refine Zq ?_
 refine Zc hS (fun h10 hS => ?_) (fun h10 hS => ?_)
 ·
  refine Zk ?_
  refine Zq (Zb (Zq (Zr ?_)))
  obtain ⟨z11_4, nz11_4, hz11_4, hS⟩ := atm_s hS
  refine VL.deep z11_4.m hz11_4 (fun _ q => q) ?_
  refine Zu (q_ixm (s := s_0.commits) Tryz.underlying68 gsz110 rfl rfl nz11_4 (lt_of_get nz11_4 hz11_4)) ?_
  refine Zu (q_els (s := s_0.commits) gagg110 rfl rfl hz11_4) ?_
  refine VL.alloc (cs := [.slice none 0 0, .slice none 0 0, i64 0, str []]) (by kernel_rfl) (by decide) fun b5_5 => ?_
  refine Zv (vc := [z11_4.tree.val, z11_4.parents.val, i64 z11_4.time, str z11_4.text]) (cs' := [z11_4.tree.val, z11_4.parents.val, i64 z11_4.time, str z11_4.text]) rfl gsz110 ?_
  refine Zl ?_
  refine Zr ?_
  refine Zm ?_
  refine Zu (q_field gfa110_1 rfl) ?_
  refine Zu (q_fe gone32 rfl rfl) ?_
  obtain ⟨y16_6, ey16_6, hS⟩ := bd_s hS
  refine VL.callO (slices_Clone_int_int_ct z11_4.parents ey16_6) rfl (by decide) ?_
  rintro q16_6_0 rfl
  try dsimp only
  refine VL.shut q16_6_0 3 (fun _ _ _ _ => trivial) ?_
  obtain ⟨y17_7, ey17_7, hS⟩ := bd_s hS
  refine VL.callF (slices_Clip_int_int_ct q16_6_0 ey17_7) rfl (by decide) ?_
  rintro q17_7_0 rfl
  try dsimp only
  refine VL.lit (α := Sv Int) (xs := [.tmp 17]) (vs := [q17_7_0.val]) [q17_7_0] Tryz.underlying107 glit32 (by decide) rfl rfl rfl rfl (by decide) (fun h m => List.forall_mem_cons.2 ⟨InM.out (X := q17_7_0.ok) h m, fun _ h => by cases h⟩) (by decide) (fun s18_8 hs18_8 => ?_) (by decide)
  replace hS := lt_to (congrArg (List.map Sv.l) hs18_8) hS
  obtain ⟨b19, hS⟩ := gd_s hS
  refine VL.app (s := out3_2) (r := s18_8) Tryz.underlying107 gapp32 (by decide) rfl Fo.out (ap1 (apm b19)) (ap2 (apm b19) (by decide)) (by decide) (fun s19_10 hs19_10 => ?_)
  replace hS := lt_to ((congrArg (List.map Sv.l) hs19_10).trans List.map_append) hS
  refine VL.maApp hs19_10 ?_
  refine Zy ?_
  refine VC.keep (ρ' := [(3, s19_10.val), (7, s_0.commits.val), (8, i64 ((s_0.commits.l.map StateCommit.pl).length : Int)), (9, i64 x9_3)]) [3, 7, 8, 9] rfl ?_
  refine Zr ?_
  obtain ⟨b20, hS⟩ := gd_s hS
  refine Zu (q_add rfl rfl b20) ?_
  refine Zm ?_
  refine VL.rnd (s19_10, (x9_3 + 1)) [3, 7, 8, 9] (fun _ _ h => h) (go2 hS hK1) rfl
 replace hS := up2 hS hK1
 refine Zx ?_
 refine Zq (Zr ?_)
 refine Zm ?_
 refine VL.shut out3_2 32 (fun h m => InM.out (X := MAl out3_2.l) h m) ?_
 obtain ⟨y22_12, ey22_12, hS⟩ := bd_s hS
 refine VL.callF (slices_Clip_graph_Graph_int_ct out3_2 ey22_12) rfl (by decide) ?_
 rintro q22_12_0 rfl
 try dsimp only
 refine Zy ?_
 cases hS
 exact VC.ret (fin1 (.inr rfl) rfl rfl q22_12_0 rfl rfl (by (try dsimp only); exact InM.out) (fun _ _ => trivial))
theorem graph_wrong_1_ct (p_0 : Int) (a_1_b : Nat) (a_1 : Int) {r : Bool} (hS : Sh.graph_wrong_1 p_0 a_1 = some r) :
 Ct Tryz.prog 255 [i64 p_0, ptr a_1_b 0] (Cells a_1_b 0 [i64 a_1]) (Ow.emp) (X := Unit) (fun _ => .bool r) (fun _ => True) (fun _ => Mo.tt) (fun _ => Ow.emp) := by
 refine Zo Tryz.func255 Tryz.ntmps255 fun c => ?_
 unfold Sh.graph_wrong_1 at hS
 refine Zq (Zr ?_)
 refine Zy ?_
 refine Zq (Zr ?_)
 refine Zm ?_
 refine Zu (q_lss rfl rfl) ?_
 refine Zm ?_
 refine Zsp 6 hS (fun h6 hS => ?_) (fun h6 hS => ?_)
 ·
  refine VL.runs 5 [(3, some true)] (by kernel_rfl) ?_
  refine Zl ?_
  cases hS
  exact Ze
 refine Zg ?_
 refine Zh (q_fm gone3 rfl rfl) ?_
 refine Zh (q_geq rfl rfl) ?_
 refine Zy ?_
 cases hS
 exact Ze
theorem slices_IndexFunc_int_int_ct (s_0 : Sv Int) (f_1_0_b : Nat) (f_1_0 : Int) {r : Int} (hS : Sh.slices_IndexFunc_int_int s_0.l f_1_0 = some r) :
 Ct Tryz.prog 278 [s_0.val, .func (.func 255) #[] #[ptr f_1_0_b 0]] (s_0.ok.and (Cells f_1_0_b 0 [i64 f_1_0])) (Ow.emp) (X := Unit) (fun _ => i64 r) (fun _ => True) (fun _ => Mo.tt) (fun _ => Ow.emp) := by
 refine Zo Tryz.func278 Tryz.ntmps278 fun c => ?_
 unfold Sh.slices_IndexFunc_int_int at hS
 refine Zq (Zr ?_)
 refine Zy ?_
 refine Zq (Zq (Zr ?_))
 refine Zm ?_
 refine Zu (q_ln (s := s_0) Tryz.underlying32 rfl) ?_
 refine Zy ?_
 refine Zb ?_
 refine VC.iter (S := Int) (fun (x8_1 : Int) => x8_1) (fun (x8_1 : Int) => [(0, s_0.val), (1, .func (.func 255) #[] #[ptr f_1_0_b 0]), (7, i64 (s_0.l.length : Int)), (8, i64 x8_1)]) (fun (x8_1 : Int) => Mo.tt) (fun (x8_1 : Int) => Ow.emp) 0 [0, 1, 7, 8] hS rfl ?_
 clear hS
 rintro x8_1 m1 y1 hS hK1
 refine Zq (Zr ?_)
 refine Zu (q_lss rfl rfl) ?_
 refine Zl ?_
 refine Zq ?_
 refine Zc hS (fun h9 hS => ?_) (fun h9 hS => ?_)
 ·
  refine Zk ?_
  refine Zq (Zb (Zq (Zr ?_)))
  refine Zy ?_
  refine Zq (Zr ?_)
  refine Zy ?_
  obtain ⟨z14_2, nz14_2, hz14_2, hS⟩ := at_s hS
  refine Zu (q_ixm (s := s_0) Tryz.underlying32 gsz3 rfl rfl nz14_2 (lt_of_get nz14_2 hz14_2)) ?_
  refine Zu (q_el (s := s_0) gone3 rfl hz14_2 rfl) ?_
  obtain ⟨y16_3, ey16_3, hS⟩ := bd_s hS
  refine Zu (q_callVC (vs := [i64 z14_2]) (caps := [ptr f_1_0_b 0]) (graph_wrong_1_ct z14_2 f_1_0_b f_1_0 ey16_3) rfl rfl (fun _ _ => rfl)) ?_
  refine Zl ?_
  refine VC.keep (ρ' := [(0, s_0.val), (1, .func (.func 255) #[] #[ptr f_1_0_b 0]), (7, i64 (s_0.l.length : Int)), (8, i64 x8_1), (5, i64 x8_1), (16, .bool y16_3)]) [0, 1, 7, 8, 5, 16] rfl ?_
  refine Zcb hS (fun h16 hS => ?_) (fun h16 hS => ?_)
  ·
   refine Zq (Zr ?_)
   refine Zy ?_
   replace hS := up2 hS hK1
   cases hS
   exact Ze
  refine Zk ?_
  refine Zr ?_
  obtain ⟨b18, hS⟩ := gd_s hS
  refine Zu (q_add rfl rfl b18) ?_
  refine Zm ?_
  refine VL.rnd (x8_1 + 1) [0, 1, 7, 8] (fun _ _ h => h) (go2 hS hK1) rfl
 replace hS := up2 hS hK1
 refine Zx ?_
 refine Zq (Zr ?_)
 refine Zy ?_
 cases hS
 exact Ze
theorem slices_ContainsFunc_int_int_ct (s_0 : Sv Int) (f_1_0_b : Nat) (f_1_0 : Int) {r : Bool} (hS : Sh.slices_ContainsFunc_int_int s_0.l f_1_0 = some r) :
 Ct Tryz.prog 254 [s_0.val, .func (.func 255) #[] #[ptr f_1_0_b 0]] (s_0.ok.and (Cells f_1_0_b 0 [i64 f_1_0])) (Ow.emp) (X := Unit) (fun _ => .bool r) (fun _ => True) (fun _ => Mo.tt) (fun _ => Ow.emp) := by
 refine Zo Tryz.func254 Tryz.ntmps254 fun c => ?_
 unfold Sh.slices_ContainsFunc_int_int at hS
 refine Zq (Zr ?_)
 refine Zy ?_
 refine Zq (Zr ?_)
 refine Zy ?_
 obtain ⟨y7_1, ey7_1, hS⟩ := bd_s hS
 refine Zu (q_callR (slices_IndexFunc_int_int_ct s_0 f_1_0_b f_1_0 ey7_1) rfl (fun _ _ => rfl)) ?_
 refine Zu (q_geq rfl rfl) ?_
 refine Zy ?_
 cases hS
 exact Ze
theorem graph_wrong_ct (id_0 : Int) (l_1 : Sv Int) {r : Int} (hS : Sh.graph_wrong id_0 l_1.l = some r) :
 Ct Tryz.prog 230 [i64 id_0, l_1.val] l_1.ok (Ow.emp) (X := Unit) (fun _ => i64 r) (fun _ => True) (fun _ => Mo.tt) (fun _ => Ow.emp) := by
 refine Zo Tryz.func230 Tryz.ntmps230 fun c => ?_
 unfold Sh.graph_wrong at hS
 refine Zq (Zr ?_)
 refine VL.box (cs := [i64 id_0]) rfl rfl (by decide) fun b2_1 => ?_
 refine Zy ?_
 refine Zq ?_
 refine VC.cutJ (S := Bool) (fun (x12_2 : Bool) => x12_2) (fun (x12_2 : Bool) => [(1, l_1.val), (12, .bool x12_2)]) (fun (x12_2 : Bool) => Mo.tt) (fun (x12_2 : Bool) => Ow.star (Blk b2_1 [i64 id_0] 3) (Ow.emp)) hS ?_ ?_
 ·
  clear hS
  intro k3 hS
  refine Zr ?_
  refine Zm ?_
  refine Zu (q_ln (s := l_1) Tryz.underlying32 rfl) ?_
  refine Zu (q_gtr rfl rfl) ?_
  refine Zm ?_
  refine Zsp 8 hS (fun h8 hS => ?_) (fun h8 hS => ?_)
  ·
   refine VL.runs 4 [(12, some true)] (by kernel_rfl) ?_
   refine VL.mt true [1, 12] (fun _ _ h => h) hS rfl
  refine Zg ?_
  refine Zh (q_mkfn rfl) ?_
  obtain ⟨y11_4, ey11_4, hS⟩ := bd_s hS
  refine Zh (q_callR (slices_ContainsFunc_int_int_ct l_1 b2_1 id_0 ey11_4) rfl (fun _ _ => rfl)) ?_
  refine Zf ?_
  refine VL.mt y11_4 [1, 12] (fun _ _ h => h) hS rfl
 clear hS
 rintro x12_2 hS
 refine Zcb hS (fun h12 hS => ?_) (fun h12 hS => ?_)
 ·
  refine Zq (Zr ?_)
  refine Zy ?_
  cases hS
  exact Ze
 refine Zk ?_
 refine Zq ?_
 refine VC.cutJ (S := Bool) (fun (x24_5 : Bool) => x24_5) (fun (x24_5 : Bool) => [(24, .bool x24_5)]) (fun (x24_5 : Bool) => Mo.tt) (fun (x24_5 : Bool) => Ow.star (Blk b2_1 [i64 id_0] 3) (Ow.emp)) hS ?_ ?_
 ·
  clear hS
  intro k6 hS
  refine VC.draw ((List.range 12).map fun k => (k, true)) mixed (by kernel_rfl) (by kernel_rfl) (by kernel_rfl) ?_
  refine Zw rfl (q_move rfl) ?_
  refine Zw rfl (q_ln (s := l_1) Tryz.underlying32 rfl) ?_
  refine Zw rfl (q_eql rfl rfl) ?_
  refine Zw rfl (q_move rfl) ?_
  refine VD.split_dec 16 rfl (fun h16 => ?_) (fun h16 => ?_)
  ·
   replace hS := it_t h16 hS
   refine Zi rfl (q_move rfl) ?_
   obtain ⟨z18_7, nz18_7, hz18_7, hS⟩ := at_s hS
   refine Zi rfl (q_ixm (s := l_1) Tryz.underlying32 gsz3 rfl rfl nz18_7 (lt_of_get nz18_7 hz18_7)) ?_
   refine Zi rfl (q_el (s := l_1) gone3 rfl hz18_7 rfl) ?_
   refine Zi rfl (q_move rfl) ?_
   obtain ⟨z21_8, nz21_8, hz21_8, hS⟩ := at_s hS
   refine Zi rfl (q_ixm (s := l_1) Tryz.underlying32 gsz3 rfl rfl nz21_8 (lt_of_get nz21_8 hz21_8)) ?_
   refine Zi rfl (q_el (s := l_1) gone3 rfl hz21_8 rfl) ?_
   refine Zi rfl (q_eql rfl rfl) ?_
   refine Zw rfl (q_pick_t rfl rfl) ?_
   refine VD.mt (decide (z18_7 = z21_8)) [24] (fun _ _ h => h) hS rfl
  replace hS := it_f h16 hS
  refine Zd ?_
  refine Zd ?_
  refine Zd ?_
  refine Zd ?_
  refine Zd ?_
  refine Zd ?_
  refine Zd ?_
  refine Zw rfl (q_pick_f rfl rfl) ?_
  refine VD.mt false [24] (fun _ _ h => h) hS rfl
 clear hS
 rintro x24_5 hS
 refine Zcb hS (fun h24 hS => ?_) (fun h24 hS => ?_)
 ·
  refine Zq (Zr ?_)
  refine Zy ?_
  cases hS
  exact Ze
 refine Zk ?_
 refine Zq (Zr ?_)
 refine Zy ?_
 cases hS
 exact Ze
theorem graph_Graph_Check_ct (g_0 : Sv (Sv Int)) {r : Int} (hS : Sh.graph_Graph_Check (g_0.l.map Sv.l) = some r) :
 Ct Tryz.prog 184 [g_0.val] g_0.ok (Ow.emp) (X := Unit) (fun _ => i64 r) (fun _ => True) (fun _ => Mo.tt) (fun _ => Ow.emp) := by
 refine Zo Tryz.func184 Tryz.ntmps184 fun c => ?_
 unfold Sh.graph_Graph_Check at hS
 refine Zq (Zr ?_)
 refine Zy ?_
 refine Zq (Zq (Zr ?_))
 refine Zm ?_
 refine Zu (q_lnm Sv.l (s := g_0) Tryz.underlying107 rfl) ?_
 refine Zu (q_gtr rfl rfl) ?_
 refine Zl ?_
 refine Zc hS (fun h8 hS => ?_) (fun h8 hS => ?_)
 ·
  refine Zq (Zr ?_)
  refine Zy ?_
  cases hS
  exact Ze
 refine Zk ?_
 refine Zq (Zq (Zr ?_))
 refine Zm ?_
 refine Zu (q_lnm Sv.l (s := g_0) Tryz.underlying107 rfl) ?_
 refine Zy ?_
 refine Zb ?_
 refine VC.iter (S := Int) (fun (x11_1 : Int) => x11_1) (fun (x11_1 : Int) => [(9, g_0.val), (10, i64 ((g_0.l.map Sv.l).length : Int)), (11, i64 x11_1)]) (fun (x11_1 : Int) => Mo.tt) (fun (x11_1 : Int) => Ow.emp) 0 [9, 10, 11] hS rfl ?_
 clear hS
 rintro x11_1 m1 y1 hS hK1
 refine Zq (Zr ?_)
 refine Zu (q_lss rfl rfl) ?_
 refine Zl ?_
 refine Zq ?_
 refine Zc hS (fun h12 hS => ?_) (fun h12 hS => ?_)
 ·
  refine Zk ?_
  refine Zq (Zb (Zq (Zr ?_)))
  refine Zm ?_
  obtain ⟨z14_2, nz14_2, hz14_2, hS⟩ := atm_s hS
  refine VL.deep z14_2.ok hz14_2 (fun _ q => q) ?_
  refine Zu (q_ixm (s := g_0) Tryz.underlying107 gsz32 rfl rfl nz14_2 (lt_of_get nz14_2 hz14_2)) ?_
  refine Zu (q_el (s := g_0) gone32 rfl hz14_2 rfl) ?_
  refine Zy ?_
  refine Zq (Zr ?_)
  refine Zm ?_
  obtain ⟨b17, hS⟩ := gd_s hS
  refine Zu (q_add rfl rfl b17) ?_
  refine Zm ?_
  obtain ⟨y19_3, ey19_3, hS⟩ := bd_s hS
  refine Zu (q_call (graph_wrong_ct (x11_1 + 1) z14_2 ey19_3) rfl (fun _ _ => rfl)) ?_
  refine Zy ?_
  refine VC.keep (ρ' := [(9, g_0.val), (10, i64 ((g_0.l.map Sv.l).length : Int)), (11, i64 x11_1), (5, i64 y19_3)]) [9, 10, 11, 5] rfl ?_
  refine Zq (Zr ?_)
  refine Zm ?_
  refine Zu (q_neq rfl rfl) ?_
  refine Zl ?_
  refine Zcn hS (fun h21 hS => ?_) (fun h21 hS => ?_)
  ·
   refine Zq (Zr ?_)
   refine Zy ?_
   replace hS := up2 hS hK1
   cases hS
   exact Ze
  refine Zk ?_
  refine Zr ?_
  obtain ⟨b23, hS⟩ := gd_s hS
  refine Zu (q_add rfl rfl b23) ?_
  refine Zm ?_
  refine VL.rnd (x11_1 + 1) [9, 10, 11] (fun _ _ h => h) (go2 hS hK1) rfl
 replace hS := up2 hS hK1
 refine Zx ?_
 refine Zq (Zr ?_)
 refine Zy ?_
 cases hS
 exact Ze
theorem state_commits_ct (s_0 : StateState) {r : Err} (hS : Sh.state_commits s_0.pl = some r) :
 Ct Tryz.prog 102 [.agg (zStateState s_0).toArray] (s_0.now_work.ok.and (s_0.now_index.ok.and (s_0.now_refs.ok.and (s_0.now_seq_doing.ok.and (s_0.now_seq_todo.ok.and (s_0.now_seq_index.ok.and (s_0.now_seq_work.ok.and (s_0.now_stash.ok.and (s_0.commits.ok.and (s_0.log_back.ok.and s_0.log_forth.ok)))))))))) (Ow.emp) (X := Er) (fun x => x.val) (fun x => r = x.pl) (fun x => x.ok) (fun x => Ow.emp) := by
 refine Zo Tryz.func102 Tryz.ntmps102 fun c => ?_
 unfold Sh.state_commits at hS
 refine Zq (Zr ?_)
 refine VL.box (cs := (zStateState s_0)) rfl rfl (by decide) fun b1_1 => ?_
 refine Zy ?_
 refine Zq (Zq (Zr ?_))
 refine Zu (q_fes gagg93 rfl rfl) ?_
 obtain ⟨y8_2, ey8_2, hS⟩ := bd_s hS
 refine VL.callF (state_Graph_ct s_0 ey8_2) rfl (by decide) ?_
 rintro q8_2_0 rfl
 try dsimp only
 obtain ⟨y9_3, ey9_3, hS⟩ := bd_s hS
 refine Zu (q_call (graph_Graph_Check_ct q8_2_0 ey9_3) rfl (fun _ _ => rfl)) ?_
 refine Zy ?_
 refine Zq (Zr ?_)
 refine Zm ?_
 refine Zu (q_neq rfl rfl) ?_
 refine Zl ?_
 refine Zcn hS (fun h11 hS => ?_) (fun h11 hS => ?_)
 ·
  refine Zq (Zr ?_)
  refine Zm ?_
  refine Zu (q_mkif Tryz.underlying131 (fun _ h => by cases h) rfl) ?_
  refine Zy ?_
  refine VC.keep (ρ' := [(2, (Er.no y9_3).val)]) [2] rfl ?_
  cases hS
  exact VC.ret (fin1 (.inr rfl) rfl rfl (Er.no y9_3) rfl rfl (by (try dsimp only); exact InM.out) (fun _ _ => trivial))
 refine Zk ?_
 refine Zq (Zq (Zr ?_))
 refine Zu (q_field gfa93_1 rfl) ?_
 refine Zu (q_fe gone68 rfl rfl) ?_
 refine Zu (q_lnm StateCommit.pl (s := s_0.commits) Tryz.underlying68 rfl) ?_
 refine Zy ?_
 refine VC.keep (ρ' := [(15, s_0.commits.val), (16, i64 ((s_0.commits.l.map StateCommit.pl).length : Int)), (17, i64 0)]) [15, 16, 17] rfl ?_
 refine Zb ?_
 refine VC.iter (S := Int) (fun (x17_4 : Int) => x17_4) (fun (x17_4 : Int) => [(15, s_0.commits.val), (16, i64 ((s_0.commits.l.map StateCommit.pl).length : Int)), (17, i64 x17_4)]) (fun (x17_4 : Int) => Mo.tt) (fun (x17_4 : Int) => Ow.star (Blk b1_1 (zStateState s_0) 93) (Ow.emp)) 0 [15, 16, 17] hS rfl ?_
 clear hS
 rintro x17_4 m1 y1 hS hK1
 refine Zq (Zr ?_)
 refine Zu (q_lss rfl rfl) ?_
 refine Zl ?_
 refine Zq ?_
 refine Zc hS (fun h18 hS => ?_) (fun h18 hS => ?_)
 ·
  refine Zk ?_
  refine Zq (Zb (Zq (Zr ?_)))
  obtain ⟨z19_5, nz19_5, hz19_5, hS⟩ := atm_s hS
  refine VL.deep z19_5.m hz19_5 (fun _ q => q) ?_
  refine Zu (q_ixm (s := s_0.commits) Tryz.underlying68 gsz110 rfl rfl nz19_5 (lt_of_get nz19_5 hz19_5)) ?_
  refine Zu (q_els (s := s_0.commits) gagg110 rfl rfl hz19_5) ?_
  refine VL.alloc (cs := [.slice none 0 0, .slice none 0 0, i64 0, str []]) (by kernel_rfl) (by decide) fun b5_6 => ?_
  refine Zv (vc := [z19_5.tree.val, z19_5.parents.val, i64 z19_5.time, str z19_5.text]) (cs' := [z19_5.tree.val, z19_5.parents.val, i64 z19_5.time, str z19_5.text]) rfl gsz110 ?_
  refine Zl ?_
  refine Zq (Zq (Zr ?_))
  refine Zu (q_field gfa110_0 rfl) ?_
  refine Zu (q_fe gone50 rfl rfl) ?_
  obtain ⟨y23_7, ey23_7, hS⟩ := bd_s hS
  refine VL.callF (files_Row_Check_ct z19_5.tree ey23_7) rfl (by decide) ?_
  rintro q23_7_0 rfl
  try dsimp only
  refine Zy ?_
  refine Zq (Zr ?_)
  refine Zm ?_
  refine Zu (q_erne Tryz.underlying26 rfl) ?_
  refine Zl ?_
  refine VC.keep (ρ' := [(15, s_0.commits.val), (16, i64 ((s_0.commits.l.map StateCommit.pl).length : Int)), (17, i64 x17_4), (5, ptr b5_6 0), (6, q23_7_0.val), (25, .bool (!decide (q23_7_0.pl.isNil = true)))]) [15, 16, 17, 5, 6, 25] rfl ?_
  refine Zcn hS (fun h25 hS => ?_) (fun h25 hS => ?_)
  ·
   refine Zq (Zr ?_)
   refine Zy ?_
   replace hS := up2 hS hK1
   cases hS
   exact VC.ret (fin1 (.inr rfl) rfl rfl q23_7_0 rfl rfl (by (try dsimp only); exact InM.out) (fun _ _ => trivial))
  refine Zk ?_
  refine Zq (Zq (Zr ?_))
  refine Zu (q_field gfa110_2 rfl) ?_
  refine Zu (q_fe gone3 rfl rfl) ?_
  refine Zu (q_lss rfl rfl) ?_
  refine Zl ?_
  refine Zc hS (fun h29 hS => ?_) (fun h29 hS => ?_)
  ·
   refine Zq (Zr ?_)
   refine Zu (q_mkif Tryz.underlying131 (fun _ h => by cases h) rfl) ?_
   refine Zy ?_
   refine VC.keep (ρ' := [(2, (Er.no 1).val)]) [2] rfl ?_
   replace hS := up2 hS hK1
   cases hS
   exact VC.ret (fin1 (.inr rfl) rfl rfl (Er.no 1) rfl rfl (by (try dsimp only); exact InM.out) (fun _ _ => trivial))
  refine Zk ?_
  refine Zq (Zr ?_)
  refine Zu (q_field gfa110_3 rfl) ?_
  refine Zu (q_fe gone9 rfl rfl) ?_
  refine Zu (q_slen Tryz.underlying9 rfl) ?_
  refine Zu (q_gtr rfl rfl) ?_
  refine Zl ?_
  refine VC.keep (ρ' := [(15, s_0.commits.val), (16, i64 ((s_0.commits.l.map StateCommit.pl).length : Int)), (17, i64 x17_4), (34, .bool (decide (256 < (z19_5.text.length : Int))))]) [15, 16, 17, 34] rfl ?_
  refine Zc hS (fun h34 hS => ?_) (fun h34 hS => ?_)
  ·
   refine Zq (Zr ?_)
   refine Zu (q_mkif Tryz.underlying131 (fun _ h => by cases h) rfl) ?_
   refine Zy ?_
   replace hS := up2 hS hK1
   cases hS
   exact VC.ret (fin1 (.inr rfl) rfl rfl (Er.no 4) rfl rfl (by (try dsimp only); exact InM.out) (fun _ _ => trivial))
  refine Zk ?_
  refine Zr ?_
  obtain ⟨b36, hS⟩ := gd_s hS
  refine Zu (q_add rfl rfl b36) ?_
  refine Zm ?_
  refine VL.rnd (x17_4 + 1) [15, 16, 17] (fun _ _ h => h) (go2 hS hK1) rfl
 replace hS := up2 hS hK1
 refine Zx ?_
 refine Zq (Zr ?_)
 refine Zy ?_
 cases hS
 exact VC.ret (fin1 (.inr rfl) rfl rfl .nil rfl rfl (by (try dsimp only); exact InM.out) (fun _ _ => trivial))
theorem state_stash_ct (s_0 : StateState) {r : Err} (hS : Sh.state_stash s_0.pl = some r) :
 Ct Tryz.prog 103 [.agg (zStateState s_0).toArray] (s_0.now_work.ok.and (s_0.now_index.ok.and (s_0.now_refs.ok.and (s_0.now_seq_doing.ok.and (s_0.now_seq_todo.ok.and (s_0.now_seq_index.ok.and (s_0.now_seq_work.ok.and (s_0.now_stash.ok.and (s_0.commits.ok.and (s_0.log_back.ok.and s_0.log_forth.ok)))))))))) (Ow.emp) (X := Er) (fun x => x.val) (fun x => r = x.pl) (fun x => x.ok) (fun x => Ow.emp) := by
 refine Zo Tryz.func103 Tryz.ntmps103 fun c => ?_
 unfold Sh.state_stash at hS
 refine Zq (Zr ?_)
 refine VL.box (cs := (zStateState s_0)) rfl rfl (by decide) fun b1_1 => ?_
 refine Zy ?_
 refine Zq (Zq (Zr ?_))
 refine Zu (q_field gfa93_0 rfl) ?_
 refine Zu (q_field gfa61_5 rfl) ?_
 refine Zu (q_fe gone59 rfl rfl) ?_
 refine Zu (q_lnm ShelfShelf.pl (s := s_0.now_stash) Tryz.underlying59 rfl) ?_
 refine Zy ?_
 refine Zb ?_
 refine VC.iter (S := Int) (fun (x11_2 : Int) => x11_2) (fun (x11_2 : Int) => [(1, ptr b1_1 0), (9, s_0.now_stash.val), (10, i64 ((s_0.now_stash.l.map ShelfShelf.pl).length : Int)), (11, i64 x11_2)]) (fun (x11_2 : Int) => Mo.tt) (fun (x11_2 : Int) => Ow.star (Blk b1_1 (zStateState s_0) 93) (Ow.emp)) 0 [1, 9, 10, 11] hS rfl ?_
 clear hS
 rintro x11_2 m1 y1 hS hK1
 refine Zq (Zr ?_)
 refine Zu (q_lss rfl rfl) ?_
 refine Zl ?_
 refine Zq ?_
 refine Zc hS (fun h12 hS => ?_) (fun h12 hS => ?_)
 ·
  refine Zk ?_
  refine Zq (Zb (Zq (Zr ?_)))
  obtain ⟨z13_3, nz13_3, hz13_3, hS⟩ := atm_s hS
  refine VL.deep z13_3.m hz13_3 (fun _ q => q) ?_
  refine Zu (q_ixm (s := s_0.now_stash) Tryz.underlying59 gsz155 rfl rfl nz13_3 (lt_of_get nz13_3 hz13_3)) ?_
  refine Zu (q_els (s := s_0.now_stash) gagg155 rfl rfl hz13_3) ?_
  refine VL.alloc (cs := [i64 0, .slice none 0 0, .slice none 0 0, str []]) (by kernel_rfl) (by decide) fun b4_4 => ?_
  refine Zv (vc := [i64 z13_3.base, z13_3.index.val, z13_3.work.val, str z13_3.text]) (cs' := [i64 z13_3.base, z13_3.index.val, z13_3.work.val, str z13_3.text]) rfl gsz155 ?_
  refine Zl ?_
  refine Zq (Zq (Zr ?_))
  refine Zu (q_fes gagg93 rfl rfl) ?_
  refine Zu (q_field gfa155_0 rfl) ?_
  refine Zu (q_fe gone3 rfl rfl) ?_
  obtain ⟨y18_5, ey18_5, hS⟩ := bd_s hS
  refine Zu (q_call (state_has_ct s_0 z13_3.base ey18_5) rfl (fun _ _ => rfl)) ?_
  refine Zu (q_not rfl) ?_
  refine Zl ?_
  refine VC.keep (ρ' := [(1, ptr b1_1 0), (9, s_0.now_stash.val), (10, i64 ((s_0.now_stash.l.map ShelfShelf.pl).length : Int)), (11, i64 x11_2), (4, ptr b4_4 0), (19, .bool (!y18_5))]) [1, 9, 10, 11, 4, 19] rfl ?_
  refine Zcb hS (fun h19 hS => ?_) (fun h19 hS => ?_)
  ·
   refine Zq (Zr ?_)
   refine Zu (q_mkif Tryz.underlying131 (fun _ h => by cases h) rfl) ?_
   refine Zy ?_
   replace hS := up2 hS hK1
   cases hS
   exact VC.ret (fin1 (.inr rfl) rfl rfl (Er.no 1) rfl rfl (by (try dsimp only); exact InM.out) (fun _ _ => trivial))
  refine Zk ?_
  refine Zq (Zq (Zr ?_))
  refine Zu (q_field gfa155_1 rfl) ?_
  refine Zu (q_fe gone50 rfl rfl) ?_
  obtain ⟨y23_6, ey23_6, hS⟩ := bd_s hS
  refine VL.callF (files_Row_Check_ct z13_3.index ey23_6) rfl (by decide) ?_
  rintro q23_6_0 rfl
  try dsimp only
  refine Zy ?_
  refine Zq (Zr ?_)
  refine Zm ?_
  refine Zu (q_erne Tryz.underlying26 rfl) ?_
  refine Zl ?_
  refine Zcn hS (fun h25 hS => ?_) (fun h25 hS => ?_)
  ·
   refine Zq (Zr ?_)
   refine Zy ?_
   refine VC.keep (ρ' := [(2, q23_6_0.val)]) [2] rfl ?_
   replace hS := up2 hS hK1
   cases hS
   exact VC.ret (fin1 (.inr rfl) rfl rfl q23_6_0 rfl rfl (by (try dsimp only); exact InM.out) (fun _ _ => trivial))
  refine Zk ?_
  refine VC.keep (ρ' := [(1, ptr b1_1 0), (9, s_0.now_stash.val), (10, i64 ((s_0.now_stash.l.map ShelfShelf.pl).length : Int)), (11, i64 x11_2), (4, ptr b4_4 0)]) [1, 9, 10, 11, 4] rfl ?_
  refine Zq (Zr ?_)
  refine Zu (q_field gfa155_2 rfl) ?_
  refine Zu (q_fe gone50 rfl rfl) ?_
  obtain ⟨y29_7, ey29_7, hS⟩ := bd_s hS
  refine VL.callF (files_Row_Check_ct z13_3.work ey29_7) rfl (by decide) ?_
  rintro q29_7_0 rfl
  try dsimp only
  refine Zy ?_
  refine Zq (Zr ?_)
  refine Zm ?_
  refine Zu (q_erne Tryz.underlying26 rfl) ?_
  refine Zl ?_
  refine Zcn hS (fun h31 hS => ?_) (fun h31 hS => ?_)
  ·
   refine Zq (Zr ?_)
   refine Zy ?_
   refine VC.keep (ρ' := [(2, q29_7_0.val)]) [2] rfl ?_
   replace hS := up2 hS hK1
   cases hS
   exact VC.ret (fin1 (.inr rfl) rfl rfl q29_7_0 rfl rfl (by (try dsimp only); exact InM.out) (fun _ _ => trivial))
  refine Zk ?_
  refine VC.keep (ρ' := [(1, ptr b1_1 0), (9, s_0.now_stash.val), (10, i64 ((s_0.now_stash.l.map ShelfShelf.pl).length : Int)), (11, i64 x11_2)]) [1, 9, 10, 11] rfl ?_
  refine Zr ?_
  obtain ⟨b33, hS⟩ := gd_s hS
  refine Zu (q_add rfl rfl b33) ?_
  refine Zm ?_
  refine VL.rnd (x11_2 + 1) [1, 9, 10, 11] (fun _ _ h => h) (go2 hS hK1) rfl
 replace hS := up2 hS hK1
 refine Zx ?_
 refine Zq (Zr ?_)
 refine Zy ?_
 cases hS
 exact VC.ret (fin1 (.inr rfl) rfl rfl .nil rfl rfl (by (try dsimp only); exact InM.out) (fun _ _ => trivial))
theorem lit_er [ErNo] (l : List Er) : (l.map Er.val).map (fun v => v.cells.toList) = l.map Dat.enc := by
 rw [List.map_map]
 exact List.map_congr_left fun e _ => by cases e <;> rfl
theorem state_Check_ct (s_0 : StateState) {r : Err} (hS : Sh.state_Check s_0.pl = some r) :
 Ct Tryz.prog 40 [.agg (zStateState s_0).toArray] (s_0.now_work.ok.and (s_0.now_index.ok.and (s_0.now_refs.ok.and (s_0.now_seq_doing.ok.and (s_0.now_seq_todo.ok.and (s_0.now_seq_index.ok.and (s_0.now_seq_work.ok.and (s_0.now_stash.ok.and (s_0.commits.ok.and (s_0.log_back.ok.and s_0.log_forth.ok)))))))))) (Ow.emp) (X := Er) (fun x => x.val) (fun x => r = x.pl) (fun x => x.ok) (fun x => Ow.emp) := by
 refine Zo Tryz.func40 Tryz.ntmps40 fun c => ?_
 unfold Sh.state_Check at hS
 refine Zq (Zr ?_)
 refine VL.box (cs := (zStateState s_0)) rfl rfl (by decide) fun b1_1 => ?_
 refine Zy ?_
 refine Zq (Zr ?_)
 refine Zy ?_
 refine VC.cutJ (S := Int) (fun (time3_2 : Int) => time3_2) (fun (time3_2 : Int) => [(1, ptr b1_1 0), (3, i64 time3_2)]) (fun (time3_2 : Int) => Mo.tt) (fun (time3_2 : Int) => Ow.star (Blk b1_1 (zStateState s_0) 93) (Ow.emp)) hS ?_ ?_
 ·
  clear hS
  intro k3 hS
  refine Zq (Zr ?_)
  refine Zu (q_field gfa93_3 rfl) ?_
  refine Zu (q_fe gone3 rfl rfl) ?_
  refine Zu (q_lss rfl rfl) ?_
  refine Zl ?_
  refine Zc hS (fun h8 hS => ?_) (fun h8 hS => ?_)
  ·
   refine Zr ?_
   refine Za ?_
   refine VL.mt 1 [1, 3] (fun _ _ h => h) hS rfl
  refine VC.skip_mt 0 [1, 3] (fun _ _ h => h) hS rfl
 clear hS
 rintro time3_2 hS
 refine Zq (Zq ?_)
 refine VC.draw [(0, true), (1, true), (2, true), (4, true), (5, true), (6, true), (8, true), (11, true), (14, true), (16, true), (18, true), (22, true), (3, false), (7, false), (9, true), (10, false), (12, true), (13, false), (15, false), (17, false), (19, false), (20, false), (21, true)] mixed (by kernel_rfl) (by kernel_rfl) (by kernel_rfl) ?_
 refine Zw rfl (q_field gfa93_0 rfl) ?_
 refine Zw rfl (q_field gfa61_0 rfl) ?_
 refine Zw rfl (q_fe gone50 rfl rfl) ?_
 refine Zw rfl (q_field gfa93_0 rfl) ?_
 refine Zw rfl (q_field gfa61_1 rfl) ?_
 refine Zw rfl (q_fe gone51 rfl rfl) ?_
 refine Zw rfl (q_fes gagg93 rfl rfl) ?_
 refine Zw rfl (q_fes gagg93 rfl rfl) ?_
 refine Zw rfl (q_fes gagg93 rfl rfl) ?_
 refine Zw rfl (q_fes gagg93 rfl rfl) ?_
 refine Zw rfl (q_move rfl) ?_
 refine Zw rfl (q_move rfl) ?_
 refine VD.one rfl ?_
 obtain ⟨y12_4, ey12_4, hS⟩ := bd_s hS
 refine VL.callF (files_Row_Check_ct s_0.now_work ey12_4) rfl (by decide) ?_
 rintro q12_4_0 rfl
 try dsimp only
 refine VL.back (D' := [(16, .agg (zStateState s_0).toArray), (14, .agg (zStateState s_0).toArray), (11, .agg (zStateState s_0).toArray), (8, .agg (zStateState s_0).toArray), (6, s_0.now_index.val), (5, ptr b1_1 1), (4, ptr b1_1 0)]) (by kernel_rfl) (Pend.cons rfl (q_fes gagg93 rfl rfl) (Pend.cons rfl (q_fes gagg93 rfl rfl) (Pend.cons rfl (q_fes gagg93 rfl rfl) (Pend.cons rfl (q_fes gagg93 rfl rfl) (Pend.cons rfl (q_fe gone51 rfl rfl) (Pend.cons rfl (q_field gfa61_1 rfl) (Pend.cons rfl (q_field gfa93_0 rfl) (Pend.nil)))))))) ?_
 refine VD.one rfl ?_
 obtain ⟨y16_5, ey16_5, hS⟩ := bd_s hS
 refine VL.callF (index_Check_ct s_0.now_index ey16_5) rfl (by decide) ?_
 rintro q16_5_0 rfl
 try dsimp only
 refine VL.back (D' := [(16, .agg (zStateState s_0).toArray), (14, .agg (zStateState s_0).toArray), (11, .agg (zStateState s_0).toArray), (8, .agg (zStateState s_0).toArray)]) (by kernel_rfl) (Pend.cons rfl (q_fes gagg93 rfl rfl) (Pend.cons rfl (q_fes gagg93 rfl rfl) (Pend.cons rfl (q_fes gagg93 rfl rfl) (Pend.cons rfl (q_fes gagg93 rfl rfl) (Pend.nil))))) ?_
 obtain ⟨y18_6, ey18_6, hS⟩ := bd_s hS
 refine Zw rfl (q_call (state_refs_ct s_0 ey18_6) rfl (fun _ _ => rfl)) ?_
 refine VD.one rfl ?_
 obtain ⟨y19_7, ey19_7, hS⟩ := bd_s hS
 refine VL.callF (state_number_ct y18_6 ey19_7) rfl (by decide) ?_
 rintro q19_7_0 rfl
 try dsimp only
 refine VL.back (D' := [(16, .agg (zStateState s_0).toArray), (14, .agg (zStateState s_0).toArray), (11, .agg (zStateState s_0).toArray)]) (by kernel_rfl) (Pend.cons rfl (q_fes gagg93 rfl rfl) (Pend.cons rfl (q_fes gagg93 rfl rfl) (Pend.cons rfl (q_fes gagg93 rfl rfl) (Pend.nil)))) ?_
 obtain ⟨y21_8, ey21_8, hS⟩ := bd_s hS
 refine Zw rfl (q_call (state_head_ct s_0 ey21_8) rfl (fun _ _ => rfl)) ?_
 refine VD.one rfl ?_
 obtain ⟨y22_9, ey22_9, hS⟩ := bd_s hS
 refine VL.callF (state_number_ct y21_8 ey22_9) rfl (by decide) ?_
 rintro q22_9_0 rfl
 try dsimp only
 refine VL.back (D' := [(16, .agg (zStateState s_0).toArray), (14, .agg (zStateState s_0).toArray)]) (by kernel_rfl) (Pend.cons rfl (q_fes gagg93 rfl rfl) (Pend.cons rfl (q_fes gagg93 rfl rfl) (Pend.nil))) ?_
 refine VD.one rfl ?_
 obtain ⟨y24_10, ey24_10, hS⟩ := bd_s hS
 refine VL.callF (state_commits_ct s_0 ey24_10) rfl (by decide) ?_
 rintro q24_10_0 rfl
 try dsimp only
 refine VL.back (D' := [(16, .agg (zStateState s_0).toArray)]) (by kernel_rfl) (Pend.cons rfl (q_fes gagg93 rfl rfl) (Pend.nil)) ?_
 refine VD.one rfl ?_
 obtain ⟨y26_11, ey26_11, hS⟩ := bd_s hS
 refine VL.callF (state_stash_ct s_0 ey26_11) rfl (by decide) ?_
 rintro q26_11_0 rfl
 try dsimp only
 refine VL.back (D' := []) (by kernel_rfl) (Pend.nil) ?_
 refine VD.one rfl ?_
 obtain ⟨y28_12, ey28_12, hS⟩ := bd_s hS
 refine VL.callF (state_number_ct time3_2 ey28_12) rfl (by decide) ?_
 rintro q28_12_0 rfl
 try dsimp only
 refine VL.back (D' := []) (by kernel_rfl) (Pend.nil) ?_
 refine VD.one rfl ?_
 refine VL.lit (α := Er) (xs := [.tmp 12, .tmp 16, .tmp 19, .tmp 22, .tmp 24, .tmp 26, .tmp 28]) (vs := [q12_4_0.val, q16_5_0.val, q19_7_0.val, q22_9_0.val, q24_10_0.val, q26_11_0.val, q28_12_0.val]) [q12_4_0, q16_5_0, q19_7_0, q22_9_0, q24_10_0, q26_11_0, q28_12_0] Tryz.underlying200 glit26 (by decide) rfl rfl (lit_er [q12_4_0, q16_5_0, q19_7_0, q22_9_0, q24_10_0, q26_11_0, q28_12_0]) rfl (by decide) (fun h m => List.forall_mem_cons.2 ⟨InM.out (X := q12_4_0.ok) h m, List.forall_mem_cons.2 ⟨InM.out (X := q16_5_0.ok) h m, List.forall_mem_cons.2 ⟨InM.out (X := q19_7_0.ok) h m, List.forall_mem_cons.2 ⟨InM.out (X := q22_9_0.ok) h m, List.forall_mem_cons.2 ⟨InM.out (X := q24_10_0.ok) h m, List.forall_mem_cons.2 ⟨InM.out (X := q26_11_0.ok) h m, List.forall_mem_cons.2 ⟨InM.out (X := q28_12_0.ok) h m, fun _ h => by cases h⟩⟩⟩⟩⟩⟩⟩) (by decide) (fun s29_13 hs29_13 => ?_) (by decide)
 replace hS := lt_to (congrArg (List.map Er.pl) hs29_13) hS
 refine VL.back (D' := []) (by kernel_rfl) (Pend.nil) ?_
 refine Zw rfl (q_lnm Er.pl (s := s29_13) Tryz.underlying200 rfl) ?_
 refine VD.to (fun _ _ h => h) ?_
 refine VC.keep (ρ' := [(31, i64 0), (29, s29_13.val), (30, i64 ((s29_13.l.map Er.pl).length : Int))]) [31, 29, 30] rfl ?_
 refine Zb ?_
 refine VC.iter (S := Int) (fun (x31_15 : Int) => x31_15) (fun (x31_15 : Int) => [(29, s29_13.val), (30, i64 ((s29_13.l.map Er.pl).length : Int)), (31, i64 x31_15)]) (fun (x31_15 : Int) => Mo.tt) (fun (x31_15 : Int) => Ow.star (Blk b1_1 (zStateState s_0) 93) (Ow.emp)) 0 [29, 30, 31] hS rfl ?_
 clear hS
 rintro x31_15 m1 y1 hS hK1
 refine Zq (Zr ?_)
 refine Zu (q_lss rfl rfl) ?_
 refine Zl ?_
 refine Zq ?_
 refine Zc hS (fun h32 hS => ?_) (fun h32 hS => ?_)
 ·
  refine Zk ?_
  refine Zq (Zb (Zq (Zr ?_)))
  refine Zm ?_
  obtain ⟨z34_16, nz34_16, hz34_16, hS⟩ := atm_s hS
  refine VL.deep z34_16.ok hz34_16 (fun _ q => q) ?_
  refine Zu (q_ixm (s := s29_13) Tryz.underlying200 gsz26 rfl rfl nz34_16 (lt_of_get nz34_16 hz34_16)) ?_
  refine Zu (q_el (s := s29_13) gone26 rfl hz34_16 rfl) ?_
  refine Zy ?_
  refine Zq (Zr ?_)
  refine Zm ?_
  refine Zu (q_erne Tryz.underlying26 rfl) ?_
  refine Zl ?_
  refine Zcn hS (fun h37 hS => ?_) (fun h37 hS => ?_)
  ·
   refine Zq (Zr ?_)
   refine Zy ?_
   refine Zu (q_build (vs := [(0, str [115, 116, 97, 116, 101]), (1, i64 x31_15), (2, z34_16.val)]) (cs := #[str [115, 116, 97, 116, 101], i64 x31_15, z34_16.val]) rfl (by generalize z34_16 = z0; cases z0 <;> kernel_rfl)) ?_
   refine VL.box (cs := [str [115, 116, 97, 116, 101], i64 x31_15, z34_16.val]) rfl rfl (by decide) fun b41_17 => ?_
   refine VL.shutB b41_17 ?_
   refine Zu (q_mkif Tryz.underlying190 (fun _ h => by cases h) rfl) ?_
   refine Zy ?_
   refine VC.keep (ρ' := [(2, (Er.fault b41_17 [115, 116, 97, 116, 101] x31_15 z34_16).val)]) [2] rfl ?_
   replace hS := up2 hS hK1
   cases hS
   exact VC.ret (fin1 (.inr rfl) rfl rfl (Er.fault b41_17 [115, 116, 97, 116, 101] x31_15 z34_16) rfl rfl (by (try dsimp only); exact InM.out) (fun _ _ => trivial))
  refine Zk ?_
  refine VC.keep (ρ' := [(29, s29_13.val), (30, i64 ((s29_13.l.map Er.pl).length : Int)), (31, i64 x31_15)]) [29, 30, 31] rfl ?_
  refine Zr ?_
  obtain ⟨b43, hS⟩ := gd_s hS
  refine Zu (q_add rfl rfl b43) ?_
  refine Zm ?_
  refine VL.rnd (x31_15 + 1) [29, 30, 31] (fun _ _ h => h) (go2 hS hK1) rfl
 replace hS := up2 hS hK1
 refine Zx ?_
 refine Zq (Zr ?_)
 refine Zy ?_
 cases hS
 exact VC.ret (fin1 (.inr rfl) rfl rfl .nil rfl rfl (by (try dsimp only); exact InM.out) (fun _ _ => trivial))
theorem star_up {A B : Ow} (hB : ∀ {x y : Hp}, x.le y → B x → B y) {x z : Hp} (l : x.le z) (h : Ow.star A B x) : Ow.star A B z := by
 obtain ⟨x1, y1, d, rfl, h1, h2⟩ := h
 refine ⟨x1, fun i => if x1 i = none then z i else none, fun i => ?_, ?_, h1, hB ?_ h2⟩
 ·
  by_cases q : x1 i = none
  ·
   exact .inl q
  exact .inr (if_neg q)
 ·
  funext i
  cases q : x1 i with
  | none => simp [Hp.join, q]
  | some o =>
    have := l i o (by simp [Hp.join, q])
    simp [Hp.join, q, this]
 intro i o e
 have q : x1 i = none := by
   rcases d i with q | q
   · exact q
   · rw [q] at e; cases e
 show (if x1 i = none then z i else none) = some o
 rw [if_pos q]
 exact l i o (by simp [Hp.join, q, e])
theorem Bd.up {T e : TypeId} {b : Nat} {l : Str} {x z : Hp} (k : x.le z) (h : Bd T e b l x) : Bd T e b l z := by
 obtain ⟨p, s, h1, h2, h3, h4⟩ := h
 exact ⟨p, s, h1, h2, h3, star_up (fun k => Sv.own_up k) k h4⟩
instance (priority := 800) EntO.bdS (E : Ow) {F : Ow} (T e : TypeId) (b : Nat) (l : Str) [i : Fo E (Bd T e b l) F] : EntO E (Bd T e b l) := ⟨fun e' he => by
  obtain ⟨x, y, dxy, j, hx, hy⟩ := i.out e' he
  exact Bd.up (T := T) (e := e) (b := b) (l := l) (by rw [j]; exact Hp.le_join_left x y) hx⟩
theorem join_ct (s : Sv Str) (sep : Str) (hb : s.l.length ≤ 4294967296 ∧ (Go.S.joinS s.l sep).length ≤ 4294967296) : Ct Tryz.prog 112 [s.val, str sep] s.ok Ow.emp (X := Unit) (fun _ => str (Go.S.joinS s.l sep)) (fun _ => True) (fun _ => Mo.tt) (fun _ => Ow.emp) :=
  Ct.of_gr (entry_of Tryz.func112 rfl (by kernel_rfl)) fun w h m l => by
    by_cases hl : s.l = []
    · have := Tryz.strings_Join_none s.a s.c ⟨⟨sep⟩⟩ w
      have e1 : s.val = .slice s.a 0 s.c := by unfold Sv.val; rw [hl]; rfl
      rw [e1]
      exact this.mono fun e w' ⟨h1, h2⟩ => ⟨by rw [h1, hl]; rfl, h2 ▸ Gr.refl w⟩
    · obtain ⟨h1, _, h3, h4, _⟩ := m
      have ha := h3 hl
      have hx : (s.l.map fun z => (⟨⟨z⟩⟩ : ByteArray)).map (·.data.toList) = s.l := by rw [List.map_map]; exact (List.map_congr_left fun z _ => rfl).trans (List.map_id _)
      have hc : ∀ (j : Nat) x, (s.l.map fun z => (⟨⟨z⟩⟩ : ByteArray))[j]? = some x → w.cell? ⟨s.b, s.o + j, none⟩ = some (.string x) := fun j x hj => by
        rw [List.getElem?_map] at hj
        cases hz : s.l[j]? with
        | none => rw [hz] at hj; cases hj
        | some z =>
          rw [hz] at hj; cases hj
          have := h4 j z hz 0 (str z) rfl
          have hs : Dat.sz Str = 1 := rfl
          rw [hs, Nat.mul_one] at this
          exact cell_of_le l (by simpa using this)
      have hlt : s.b < w.heap.size := by
        have h0 : 0 < s.l.length := List.length_pos_iff.2 hl
        have := hc 0 ⟨⟨s.l[0]⟩⟩ (by simp [h0])
        rcases Nat.lt_or_ge s.b w.heap.size with q | q
        · exact q
        · simp [World.cell?, Array.getElem?_eq_none q] at this
      have := Tryz.strings_Join s.b s.o s.c (s.l.map fun z => ⟨⟨z⟩⟩) ⟨⟨sep⟩⟩ w hc hlt (by rw [List.length_map]; omega) (by rw [List.length_map]; exact h1) (by rw [hx]; have := hb.2; unfold Go.S.joinS at this; show (Lib.join s.l sep).length ≤ _; omega)
      rw [hx, List.length_map] at this
      have e1 : s.val = .slice (some ⟨s.b, s.o, none⟩) s.l.length s.c := by unfold Sv.val; rw [ha]
      rw [e1]
      exact this.mono fun e w' ⟨h1, h2⟩ => ⟨h1, Gr.of_below h2⟩
theorem state_Text_1_ct (l_0 : Sv Str) (a_1_b : Nat) (a_1 : Str) {r : Str} (hS : Sh.state_Text_1 l_0.l a_1 = some r) :
 Ct Tryz.prog 110 [l_0.val, ptr a_1_b 0] l_0.ok (Bd 212 5 a_1_b a_1) (X := Str) (fun x => .tuple #[]) (fun x => r = x) (fun x => Mo.tt) (fun x => Bd 212 5 a_1_b x) := by
 refine Zo Tryz.func110 Tryz.ntmps110 fun c => ?_
 unfold Sh.state_Text_1 at hS
 refine Zr ?_
 refine Zm ?_
 obtain ⟨b4, hS⟩ := gd_s hS
 obtain ⟨y4_1, ey4_1, hS⟩ := lt_s hS
 refine Zu (q_call (join_ct l_0 [32] b4) rfl (fun _ _ => congrArg str ey4_1)) ?_
 obtain ⟨b5, hS⟩ := gd_s hS
 obtain ⟨y5_2, ey5_2, hS⟩ := lt_s hS
 refine Zu (q_catE rfl rfl b5 ey5_2) ?_
 obtain ⟨b6, hS⟩ := gd_s hS
 refine VL.callO (writeString_ct a_1_b a_1 y5_2 b6) rfl (by decide) ?_
 rintro _ _
 obtain ⟨acc6_3, eacc6_3, hS⟩ := lt_s hS
 rw [eacc6_3]
 cases hS
 exact VL.nil (fin0 (.inl rfl) rfl _ rfl rfl (by (try dsimp only); exact InM.out) (by (try dsimp only); exact EntO.out))
theorem itoa_ct (n : Int) (b : Go.S.I64 n) : Ct Tryz.prog 113 [i64 n] Gl Ow.emp (X := Unit) (fun _ => str (Go.S.itoaS n)) (fun _ => True) (fun _ => Mo.tt) (fun _ => Ow.emp) :=
  Ct.of_gr (entry_of Tryz.func113 rfl (by kernel_rfl)) fun w h m l => (Tryz.strconv_Itoa n b.1 b.2 w (GBlk.var (by kernel_rfl) (InM.out (X := GBlk 2 _) h m) l)).mono fun e w' ⟨h1, k, os, h2⟩ => ⟨by rw [h1, itoaS_eq b], h2 ▸ Gr.grown w k os⟩
theorem state_Text_ct (s_0 : StateState) {r : Str} (hS : Sh.state_Text s_0.pl = some r) :
 Ct Tryz.prog 42 [.agg (zStateState s_0).toArray] (s_0.now_work.ok.and (s_0.now_index.ok.and (s_0.now_refs.ok.and (s_0.now_seq_doing.ok.and (s_0.now_seq_todo.ok.and (s_0.now_seq_index.ok.and (s_0.now_seq_work.ok.and (s_0.now_stash.ok.and (s_0.commits.ok.and (s_0.log_back.ok.and (s_0.log_forth.ok.and Gl))))))))))) (Ow.emp) (X := Unit) (fun _ => str r) (fun _ => True) (fun _ => Mo.tt) (fun _ => Ow.emp) := by
 refine Zo Tryz.func42 Tryz.ntmps42 fun c => ?_
 unfold Sh.state_Text at hS
 refine Zq (Zr ?_)
 refine VL.box (cs := (zStateState s_0)) rfl rfl (by decide) fun b1_1 => ?_
 refine Zy ?_
 refine Zq (Zr ?_)
 refine VL.alloc (cs := [.pointer none, .slice none 0 0]) (by kernel_rfl) (by decide) fun b3_2 => ?_
 refine VL.toBd 5 b3_2 ?_
 refine Zl ?_
 refine Zq (Zr ?_)
 refine Zu (q_mkfn rfl) ?_
 refine Zy ?_
 refine Zq (Zr ?_)
 refine Zy ?_
 refine VC.cutJ (S := Str) (fun (acc_3 : Str) => acc_3) (fun (acc_3 : Str) => [(1, ptr b1_1 0), (3, ptr b3_2 0), (4, .func (.func 110) #[] #[ptr b3_2 0]), (5, .func (.func 113) #[] #[])]) (fun (acc_3 : Str) => Mo.tt) (fun (acc_3 : Str) => Ow.star (Blk b1_1 (zStateState s_0) 93) (Ow.star (Bd 212 5 b3_2 acc_3) (Ow.emp))) hS ?_ ?_
 ·
  clear hS
  intro k4 hS
  refine Zq (Zr ?_)
  refine Zu (q_field gfa93_0 rfl) ?_
  refine Zu (q_field gfa61_3 rfl) ?_
  refine Zu (q_field gfa54_0 rfl) ?_
  refine Zu (q_fe gone9 rfl rfl) ?_
  refine Zu (q_sne rfl rfl) ?_
  refine Zl ?_
  refine VC.keep (ρ' := [(1, ptr b1_1 0), (3, ptr b3_2 0), (4, .func (.func 110) #[] #[ptr b3_2 0]), (5, .func (.func 113) #[] #[]), (23, .bool (!decide (s_0.now_head_branch = [])))]) [1, 3, 4, 5, 23] rfl ?_
  refine Zcn hS (fun h23 hS => ?_) (fun h23 hS => ?_)
  ·
   refine Zr ?_
   refine Zm ?_
   refine Zu (q_field gfa93_0 rfl) ?_
   refine Zu (q_field gfa61_3 rfl) ?_
   refine Zu (q_field gfa54_0 rfl) ?_
   refine Zu (q_fe gone9 rfl rfl) ?_
   refine VL.lit (α := Str) (xs := [.const (str [104, 101, 97, 100]), .tmp 28]) (vs := [str [104, 101, 97, 100], str s_0.now_head_branch]) [[104, 101, 97, 100], s_0.now_head_branch] Tryz.underlying89 glit9 (by decide) rfl rfl rfl rfl (by decide) (fun _ _ _ _ => trivial) (by decide) (fun s29_5 hs29_5 => ?_) (by decide)
   replace hS := lt_to hs29_5 hS
   obtain ⟨y30_7, ey30_7, hS⟩ := bd_s hS
   refine VL.callOV (vs := [s29_5.val]) (caps := [ptr b3_2 0]) (state_Text_1_ct s29_5 b3_2 [] ey30_7) rfl rfl (by decide) ?_
   rintro _ rfl
   try dsimp only
   refine VL.mt y30_7 [1, 3, 4, 5] (fun _ _ h => h) hS rfl
  refine Zr ?_
  refine Zy ?_
  refine Zu (q_field gfa93_0 rfl) ?_
  refine Zu (q_field gfa61_3 rfl) ?_
  refine Zu (q_field gfa54_1 rfl) ?_
  refine Zu (q_fe gone3 rfl rfl) ?_
  obtain ⟨b37, hS⟩ := gd_s hS
  refine Zu (q_callV (itoa_ct s_0.now_head_commit b37) rfl rfl (fun _ _ => rfl)) ?_
  obtain ⟨b38, hS⟩ := gd_s hS
  obtain ⟨y38_8, ey38_8, hS⟩ := lt_s hS
  refine Zu (q_catE rfl rfl b38 ey38_8) ?_
  refine VL.lit (α := Str) (xs := [.const (str [104, 101, 97, 100]), .tmp 38]) (vs := [str [104, 101, 97, 100], str y38_8]) [[104, 101, 97, 100], y38_8] Tryz.underlying89 glit9 (by decide) rfl rfl rfl rfl (by decide) (fun _ _ _ _ => trivial) (by decide) (fun s39_9 hs39_9 => ?_) (by decide)
  replace hS := lt_to hs39_9 hS
  obtain ⟨y40_11, ey40_11, hS⟩ := bd_s hS
  refine VL.callOV (vs := [s39_9.val]) (caps := [ptr b3_2 0]) (state_Text_1_ct s39_9 b3_2 [] ey40_11) rfl rfl (by decide) ?_
  rintro _ rfl
  try dsimp only
  refine VL.mt y40_11 [1, 3, 4, 5] (fun _ _ h => h) hS rfl
 clear hS
 rintro acc_3 hS
 refine Zq (Zq (Zr ?_))
 refine Zu (q_field gfa93_0 rfl) ?_
 refine Zu (q_field gfa61_2 rfl) ?_
 refine Zu (q_fe gone52 rfl rfl) ?_
 refine Zu (q_ln (s := s_0.now_refs) Tryz.underlying52 rfl) ?_
 refine Zy ?_
 refine Zb ?_
 refine VC.iter (S := Int × Str) (fun sg => (sg.1, sg.2)) (fun sg => [(1, ptr b1_1 0), (3, ptr b3_2 0), (4, .func (.func 110) #[] #[ptr b3_2 0]), (5, .func (.func 113) #[] #[]), (43, s_0.now_refs.val), (44, i64 (s_0.now_refs.l.length : Int)), (45, i64 sg.1)]) (fun sg => Mo.tt) (fun sg => Ow.star (Blk b1_1 (zStateState s_0) 93) (Ow.star (Bd 212 5 b3_2 sg.2) (Ow.emp))) (0, acc_3) [1, 3, 4, 5, 43, 44, 45] hS rfl ?_
 clear hS
 rintro ⟨x45_12, acc_13⟩ m1 y1 hS hK1
 refine Zq (Zr ?_)
 refine Zu (q_lss rfl rfl) ?_
 refine Zl ?_
 refine Zq ?_
 refine Zc hS (fun h46 hS => ?_) (fun h46 hS => ?_)
 ·
  refine Zk ?_
  refine Zq (Zb (Zq (Zr ?_)))
  obtain ⟨z47_14, nz47_14, hz47_14, hS⟩ := at_s hS
  refine Zu (q_ixm (s := s_0.now_refs) Tryz.underlying52 gsz216 rfl rfl nz47_14 (lt_of_get nz47_14 hz47_14)) ?_
  refine Zu (q_els (s := s_0.now_refs) gagg216 rfl rfl hz47_14) ?_
  refine VL.alloc (cs := [str [], i64 0]) (by kernel_rfl) (by decide) fun b7_15 => ?_
  refine Zv (vc := [str z47_14.name, i64 z47_14.commit]) (cs' := [str z47_14.name, i64 z47_14.commit]) rfl gsz216 ?_
  refine Zl ?_
  refine VC.draw [(0, true), (1, true), (2, true), (3, true), (4, true), (5, true), (6, false), (7, false), (8, false)] mixed (by kernel_rfl) (by kernel_rfl) (by kernel_rfl) ?_
  refine Zw rfl (q_move rfl) ?_
  refine Zw rfl (q_field gfa216_0 rfl) ?_
  refine Zw rfl (q_fe gone9 rfl rfl) ?_
  refine Zw rfl (q_move rfl) ?_
  refine Zw rfl (q_field gfa216_1 rfl) ?_
  refine Zw rfl (q_fe gone3 rfl rfl) ?_
  refine VD.one rfl ?_
  obtain ⟨b55, hS⟩ := gd_s hS
  refine Zu (q_callV (itoa_ct z47_14.commit b55) rfl rfl (fun _ _ => rfl)) ?_
  refine VL.back (D' := [(2, str z47_14.name), (1, ptr b7_15 0)]) (by kernel_rfl) (Pend.cons rfl (q_fe gone9 rfl rfl) (Pend.cons rfl (q_field gfa216_0 rfl) (Pend.nil))) ?_
  refine VD.one rfl ?_
  refine VL.lit (α := Str) (xs := [.const (str [114, 101, 102]), .tmp 51, .tmp 55]) (vs := [str [114, 101, 102], str z47_14.name, str (itoaS z47_14.commit)]) [[114, 101, 102], z47_14.name, (itoaS z47_14.commit)] Tryz.underlying89 glit9 (by decide) rfl rfl rfl rfl (by decide) (fun _ _ _ _ => trivial) (by decide) (fun s56_16 hs56_16 => ?_) (by decide)
  replace hS := lt_to hs56_16 hS
  refine VL.back (D' := []) (by kernel_rfl) (Pend.nil) ?_
  refine VD.one rfl ?_
  obtain ⟨y57_18, ey57_18, hS⟩ := bd_s hS
  refine VL.callOV (vs := [s56_16.val]) (caps := [ptr b3_2 0]) (state_Text_1_ct s56_16 b3_2 acc_13 ey57_18) rfl rfl (by decide) ?_
  rintro _ rfl
  try dsimp only
  refine VL.back (D' := []) (by kernel_rfl) (Pend.nil) ?_
  refine VD.to (fun _ _ h => h) ?_
  refine VC.keep (ρ' := [(1, ptr b1_1 0), (3, ptr b3_2 0), (4, .func (.func 110) #[] #[ptr b3_2 0]), (5, .func (.func 113) #[] #[]), (43, s_0.now_refs.val), (44, i64 (s_0.now_refs.l.length : Int)), (45, i64 x45_12)]) [1, 3, 4, 5, 43, 44, 45] rfl ?_
  refine Zr ?_
  obtain ⟨b58, hS⟩ := gd_s hS
  refine Zu (q_add rfl rfl b58) ?_
  refine Zm ?_
  refine VL.rnd ((x45_12 + 1), y57_18) [1, 3, 4, 5, 43, 44, 45] (fun _ _ h => h) (go2 hS hK1) rfl
 replace hS := up2 hS hK1
 refine Zx ?_
 refine VC.cutJ (S := Str) (fun (acc_19 : Str) => acc_19) (fun (acc_19 : Str) => [(1, ptr b1_1 0), (3, ptr b3_2 0), (4, .func (.func 110) #[] #[ptr b3_2 0]), (5, .func (.func 113) #[] #[])]) (fun (acc_19 : Str) => Mo.tt) (fun (acc_19 : Str) => Ow.star (Blk b1_1 (zStateState s_0) 93) (Ow.star (Bd 212 5 b3_2 acc_19) (Ow.emp))) hS ?_ ?_
 ·
  clear hS
  intro k20 hS
  refine Zq (Zr ?_)
  refine Zu (q_field gfa93_0 rfl) ?_
  refine Zu (q_field gfa61_4 rfl) ?_
  refine Zu (q_field gfa57_0 rfl) ?_
  refine Zu (q_fe gone9 rfl rfl) ?_
  refine Zu (q_sne rfl rfl) ?_
  refine Zl ?_
  refine VC.keep (ρ' := [(1, ptr b1_1 0), (3, ptr b3_2 0), (4, .func (.func 110) #[] #[ptr b3_2 0]), (5, .func (.func 113) #[] #[]), (63, .bool (!decide (s_0.now_seq_kind = [])))]) [1, 3, 4, 5, 63] rfl ?_
  refine Zcn hS (fun h63 hS => ?_) (fun h63 hS => ?_)
  ·
   refine Zr ?_
   refine Zm ?_
   refine Zu (q_field gfa93_0 rfl) ?_
   refine Zu (q_field gfa61_4 rfl) ?_
   refine Zu (q_field gfa57_0 rfl) ?_
   refine Zu (q_fe gone9 rfl rfl) ?_
   refine VL.lit (α := Str) (xs := [.const (str [115, 101, 113]), .tmp 68]) (vs := [str [115, 101, 113], str s_0.now_seq_kind]) [[115, 101, 113], s_0.now_seq_kind] Tryz.underlying89 glit9 (by decide) rfl rfl rfl rfl (by decide) (fun _ _ _ _ => trivial) (by decide) (fun s69_21 hs69_21 => ?_) (by decide)
   replace hS := lt_to hs69_21 hS
   obtain ⟨y70_23, ey70_23, hS⟩ := bd_s hS
   refine VL.callOV (vs := [s69_21.val]) (caps := [ptr b3_2 0]) (state_Text_1_ct s69_21 b3_2 acc_13 ey70_23) rfl rfl (by decide) ?_
   rintro _ rfl
   try dsimp only
   refine VL.mt y70_23 [1, 3, 4, 5] (fun _ _ h => h) hS rfl
  refine VC.skip_mt acc_13 [1, 3, 4, 5] (fun _ _ h => h) hS rfl
 clear hS
 rintro acc_19 hS
 refine Zq (Zq (Zr ?_))
 refine Zu (q_field gfa93_0 rfl) ?_
 refine Zu (q_field gfa61_0 rfl) ?_
 refine Zu (q_fe gone50 rfl rfl) ?_
 refine Zu (q_ln (s := s_0.now_work) Tryz.underlying50 rfl) ?_
 refine Zy ?_
 refine Zb ?_
 refine VC.iter (S := Int × Str) (fun sg => (sg.1, sg.2)) (fun sg => [(1, ptr b1_1 0), (3, ptr b3_2 0), (4, .func (.func 110) #[] #[ptr b3_2 0]), (5, .func (.func 113) #[] #[]), (73, s_0.now_work.val), (74, i64 (s_0.now_work.l.length : Int)), (75, i64 sg.1)]) (fun sg => Mo.tt) (fun sg => Ow.star (Blk b1_1 (zStateState s_0) 93) (Ow.star (Bd 212 5 b3_2 sg.2) (Ow.emp))) (0, acc_19) [1, 3, 4, 5, 73, 74, 75] hS rfl ?_
 clear hS
 rintro ⟨x75_24, acc_25⟩ m1 y1 hS hK1
 refine Zq (Zr ?_)
 refine Zu (q_lss rfl rfl) ?_
 refine Zl ?_
 refine Zq ?_
 refine Zc hS (fun h76 hS => ?_) (fun h76 hS => ?_)
 ·
  refine Zk ?_
  refine Zq (Zb (Zq (Zr ?_)))
  obtain ⟨z77_26, nz77_26, hz77_26, hS⟩ := at_s hS
  refine Zu (q_ixm (s := s_0.now_work) Tryz.underlying50 gsz185 rfl rfl nz77_26 (lt_of_get nz77_26 hz77_26)) ?_
  refine Zu (q_els (s := s_0.now_work) gagg185 rfl rfl hz77_26) ?_
  refine VL.alloc (cs := [str [], i64 0, str []]) (by kernel_rfl) (by decide) fun b9_27 => ?_
  refine Zv (vc := [str z77_26.path, i64 z77_26.mode, str z77_26.data]) (cs' := [str z77_26.path, i64 z77_26.mode, str z77_26.data]) rfl gsz185 ?_
  refine Zl ?_
  refine VC.draw [(0, true), (1, true), (2, true), (3, true), (4, true), (5, true), (7, true), (8, true), (9, true), (10, true), (6, false), (11, false), (12, false), (13, false)] mixed (by kernel_rfl) (by kernel_rfl) (by kernel_rfl) ?_
  refine Zw rfl (q_move rfl) ?_
  refine Zw rfl (q_field gfa185_0 rfl) ?_
  refine Zw rfl (q_fe gone9 rfl rfl) ?_
  refine Zw rfl (q_move rfl) ?_
  refine Zw rfl (q_field gfa185_1 rfl) ?_
  refine Zw rfl (q_fe gone3 rfl rfl) ?_
  refine Zw rfl (q_move rfl) ?_
  refine Zw rfl (q_field gfa185_2 rfl) ?_
  refine Zw rfl (q_fe gone9 rfl rfl) ?_
  refine Zw rfl (q_slen Tryz.underlying9 rfl) ?_
  refine VD.one rfl ?_
  obtain ⟨b85, hS⟩ := gd_s hS
  refine Zu (q_callV (itoa_ct z77_26.mode b85) rfl rfl (fun _ _ => rfl)) ?_
  refine VL.back (D' := [(10, i64 (z77_26.data.length : Int)), (9, str z77_26.data), (8, ptr b9_27 2), (2, str z77_26.path), (1, ptr b9_27 0)]) (by kernel_rfl) (Pend.cons rfl (q_slen Tryz.underlying9 rfl) (Pend.cons rfl (q_fe gone9 rfl rfl) (Pend.cons rfl (q_field gfa185_2 rfl) (Pend.cons rfl (q_fe gone9 rfl rfl) (Pend.cons rfl (q_field gfa185_0 rfl) (Pend.nil)))))) ?_
  refine VD.one rfl ?_
  obtain ⟨b90, hS⟩ := gd_s hS
  refine Zu (q_callV (itoa_ct (z77_26.data.length : Int) b90) rfl rfl (fun _ _ => rfl)) ?_
  refine VL.back (D' := [(2, str z77_26.path), (1, ptr b9_27 0)]) (by kernel_rfl) (Pend.cons rfl (q_fe gone9 rfl rfl) (Pend.cons rfl (q_field gfa185_0 rfl) (Pend.nil))) ?_
  refine VD.one rfl ?_
  refine VL.lit (α := Str) (xs := [.const (str [119, 111, 114, 107]), .tmp 81, .tmp 85, .tmp 90]) (vs := [str [119, 111, 114, 107], str z77_26.path, str (itoaS z77_26.mode), str (itoaS (z77_26.data.length : Int))]) [[119, 111, 114, 107], z77_26.path, (itoaS z77_26.mode), (itoaS (z77_26.data.length : Int))] Tryz.underlying89 glit9 (by decide) rfl rfl rfl rfl (by decide) (fun _ _ _ _ => trivial) (by decide) (fun s91_28 hs91_28 => ?_) (by decide)
  replace hS := lt_to hs91_28 hS
  refine VL.back (D' := []) (by kernel_rfl) (Pend.nil) ?_
  refine VD.one rfl ?_
  obtain ⟨y92_30, ey92_30, hS⟩ := bd_s hS
  refine VL.callOV (vs := [s91_28.val]) (caps := [ptr b3_2 0]) (state_Text_1_ct s91_28 b3_2 acc_25 ey92_30) rfl rfl (by decide) ?_
  rintro _ rfl
  try dsimp only
  refine VL.back (D' := []) (by kernel_rfl) (Pend.nil) ?_
  refine VD.to (fun _ _ h => h) ?_
  refine VC.keep (ρ' := [(1, ptr b1_1 0), (3, ptr b3_2 0), (4, .func (.func 110) #[] #[ptr b3_2 0]), (5, .func (.func 113) #[] #[]), (73, s_0.now_work.val), (74, i64 (s_0.now_work.l.length : Int)), (75, i64 x75_24)]) [1, 3, 4, 5, 73, 74, 75] rfl ?_
  refine Zr ?_
  obtain ⟨b93, hS⟩ := gd_s hS
  refine Zu (q_add rfl rfl b93) ?_
  refine Zm ?_
  refine VL.rnd ((x75_24 + 1), y92_30) [1, 3, 4, 5, 73, 74, 75] (fun _ _ h => h) (go2 hS hK1) rfl
 replace hS := up2 hS hK1
 refine Zx ?_
 refine Zq (Zq (Zr ?_))
 refine Zu (q_field gfa93_0 rfl) ?_
 refine Zu (q_field gfa61_1 rfl) ?_
 refine Zu (q_fe gone51 rfl rfl) ?_
 refine Zu (q_ln (s := s_0.now_index) Tryz.underlying51 rfl) ?_
 refine Zy ?_
 refine Zb ?_
 refine VC.iter (S := Int × Str) (fun sg => (sg.1, sg.2)) (fun sg => [(1, ptr b1_1 0), (3, ptr b3_2 0), (4, .func (.func 110) #[] #[ptr b3_2 0]), (5, .func (.func 113) #[] #[]), (96, s_0.now_index.val), (97, i64 (s_0.now_index.l.length : Int)), (98, i64 sg.1)]) (fun sg => Mo.tt) (fun sg => Ow.star (Blk b1_1 (zStateState s_0) 93) (Ow.star (Bd 212 5 b3_2 sg.2) (Ow.emp))) (0, acc_25) [1, 3, 4, 5, 96, 97, 98] hS rfl ?_
 clear hS
 rintro ⟨x98_31, acc_32⟩ m1 y1 hS hK1
 refine Zq (Zr ?_)
 refine Zu (q_lss rfl rfl) ?_
 refine Zl ?_
 refine Zq ?_
 refine Zc hS (fun h99 hS => ?_) (fun h99 hS => ?_)
 ·
  refine Zk ?_
  refine Zq (Zb (Zq (Zr ?_)))
  obtain ⟨z100_33, nz100_33, hz100_33, hS⟩ := at_s hS
  refine Zu (q_ixm (s := s_0.now_index) Tryz.underlying51 gsz218 rfl rfl nz100_33 (lt_of_get nz100_33 hz100_33)) ?_
  refine Zu (q_els (s := s_0.now_index) gagg218 rfl rfl hz100_33) ?_
  refine VL.alloc (cs := [str [], i64 0, i64 0, str [], i64 0, i64 0]) (by kernel_rfl) (by decide) fun b11_34 => ?_
  refine Zv (vc := [str z100_33.path, i64 z100_33.stage, i64 z100_33.mode, str z100_33.data, i64 z100_33.time, i64 z100_33.size]) (cs' := [str z100_33.path, i64 z100_33.stage, i64 z100_33.mode, str z100_33.data, i64 z100_33.time, i64 z100_33.size]) rfl gsz218 ?_
  refine Zl ?_
  refine VC.draw [(0, true), (1, true), (2, true), (3, true), (4, true), (5, true), (7, true), (8, true), (9, true), (11, true), (12, true), (13, true), (14, true), (6, false), (10, false), (15, false), (16, false), (17, false)] mixed (by kernel_rfl) (by kernel_rfl) (by kernel_rfl) ?_
  refine Zw rfl (q_move rfl) ?_
  refine Zw rfl (q_field gfa218_0 rfl) ?_
  refine Zw rfl (q_fe gone9 rfl rfl) ?_
  refine Zw rfl (q_move rfl) ?_
  refine Zw rfl (q_field gfa218_1 rfl) ?_
  refine Zw rfl (q_fe gone3 rfl rfl) ?_
  refine Zw rfl (q_move rfl) ?_
  refine Zw rfl (q_field gfa218_2 rfl) ?_
  refine Zw rfl (q_fe gone3 rfl rfl) ?_
  refine Zw rfl (q_move rfl) ?_
  refine Zw rfl (q_field gfa218_3 rfl) ?_
  refine Zw rfl (q_fe gone9 rfl rfl) ?_
  refine Zw rfl (q_slen Tryz.underlying9 rfl) ?_
  refine VD.one rfl ?_
  obtain ⟨b108, hS⟩ := gd_s hS
  refine Zu (q_callV (itoa_ct z100_33.stage b108) rfl rfl (fun _ _ => rfl)) ?_
  refine VL.back (D' := [(14, i64 (z100_33.data.length : Int)), (13, str z100_33.data), (12, ptr b11_34 3), (9, i64 z100_33.mode), (8, ptr b11_34 2), (2, str z100_33.path), (1, ptr b11_34 0)]) (by kernel_rfl) (Pend.cons rfl (q_slen Tryz.underlying9 rfl) (Pend.cons rfl (q_fe gone9 rfl rfl) (Pend.cons rfl (q_field gfa218_3 rfl) (Pend.cons rfl (q_fe gone3 rfl rfl) (Pend.cons rfl (q_field gfa218_2 rfl) (Pend.cons rfl (q_fe gone9 rfl rfl) (Pend.cons rfl (q_field gfa218_0 rfl) (Pend.nil)))))))) ?_
  refine VD.one rfl ?_
  obtain ⟨b112, hS⟩ := gd_s hS
  refine Zu (q_callV (itoa_ct z100_33.mode b112) rfl rfl (fun _ _ => rfl)) ?_
  refine VL.back (D' := [(14, i64 (z100_33.data.length : Int)), (13, str z100_33.data), (12, ptr b11_34 3), (2, str z100_33.path), (1, ptr b11_34 0)]) (by kernel_rfl) (Pend.cons rfl (q_slen Tryz.underlying9 rfl) (Pend.cons rfl (q_fe gone9 rfl rfl) (Pend.cons rfl (q_field gfa218_3 rfl) (Pend.cons rfl (q_fe gone9 rfl rfl) (Pend.cons rfl (q_field gfa218_0 rfl) (Pend.nil)))))) ?_
  refine VD.one rfl ?_
  obtain ⟨b117, hS⟩ := gd_s hS
  refine Zu (q_callV (itoa_ct (z100_33.data.length : Int) b117) rfl rfl (fun _ _ => rfl)) ?_
  refine VL.back (D' := [(2, str z100_33.path), (1, ptr b11_34 0)]) (by kernel_rfl) (Pend.cons rfl (q_fe gone9 rfl rfl) (Pend.cons rfl (q_field gfa218_0 rfl) (Pend.nil))) ?_
  refine VD.one rfl ?_
  refine VL.lit (α := Str) (xs := [.const (str [105, 110, 100, 101, 120]), .tmp 104, .tmp 108, .tmp 112, .tmp 117]) (vs := [str [105, 110, 100, 101, 120], str z100_33.path, str (itoaS z100_33.stage), str (itoaS z100_33.mode), str (itoaS (z100_33.data.length : Int))]) [[105, 110, 100, 101, 120], z100_33.path, (itoaS z100_33.stage), (itoaS z100_33.mode), (itoaS (z100_33.data.length : Int))] Tryz.underlying89 glit9 (by decide) rfl rfl rfl rfl (by decide) (fun _ _ _ _ => trivial) (by decide) (fun s118_35 hs118_35 => ?_) (by decide)
  replace hS := lt_to hs118_35 hS
  refine VL.back (D' := []) (by kernel_rfl) (Pend.nil) ?_
  refine VD.one rfl ?_
  obtain ⟨y119_37, ey119_37, hS⟩ := bd_s hS
  refine VL.callOV (vs := [s118_35.val]) (caps := [ptr b3_2 0]) (state_Text_1_ct s118_35 b3_2 acc_32 ey119_37) rfl rfl (by decide) ?_
  rintro _ rfl
  try dsimp only
  refine VL.back (D' := []) (by kernel_rfl) (Pend.nil) ?_
  refine VD.to (fun _ _ h => h) ?_
  refine VC.keep (ρ' := [(1, ptr b1_1 0), (3, ptr b3_2 0), (4, .func (.func 110) #[] #[ptr b3_2 0]), (5, .func (.func 113) #[] #[]), (96, s_0.now_index.val), (97, i64 (s_0.now_index.l.length : Int)), (98, i64 x98_31)]) [1, 3, 4, 5, 96, 97, 98] rfl ?_
  refine Zr ?_
  obtain ⟨b120, hS⟩ := gd_s hS
  refine Zu (q_add rfl rfl b120) ?_
  refine Zm ?_
  refine VL.rnd ((x98_31 + 1), y119_37) [1, 3, 4, 5, 96, 97, 98] (fun _ _ h => h) (go2 hS hK1) rfl
 replace hS := up2 hS hK1
 refine Zx ?_
 refine Zq (Zq (Zr ?_))
 refine Zu (q_field gfa93_1 rfl) ?_
 refine Zu (q_fe gone68 rfl rfl) ?_
 refine Zu (q_lnm StateCommit.pl (s := s_0.commits) Tryz.underlying68 rfl) ?_
 refine Zy ?_
 refine Zb ?_
 refine VC.iter (S := Int × Str) (fun sg => (sg.1, sg.2)) (fun sg => [(1, ptr b1_1 0), (3, ptr b3_2 0), (4, .func (.func 110) #[] #[ptr b3_2 0]), (5, .func (.func 113) #[] #[]), (122, s_0.commits.val), (123, i64 ((s_0.commits.l.map StateCommit.pl).length : Int)), (124, i64 sg.1)]) (fun sg => Mo.tt) (fun sg => Ow.star (Blk b1_1 (zStateState s_0) 93) (Ow.star (Bd 212 5 b3_2 sg.2) (Ow.emp))) (0, acc_32) [1, 3, 4, 5, 122, 123, 124] hS rfl ?_
 clear hS
 rintro ⟨x124_38, acc_39⟩ m1 y1 hS hK1
 refine Zq (Zr ?_)
 refine Zu (q_lss rfl rfl) ?_
 refine Zl ?_
 refine Zq ?_
 refine Zc hS (fun h125 hS => ?_) (fun h125 hS => ?_)
 ·
  refine Zk ?_
  refine Zq (Zb (Zq (Zr ?_)))
  refine Zm ?_
  obtain ⟨z127_40, nz127_40, hz127_40, hS⟩ := atm_s hS
  refine VL.deep z127_40.m hz127_40 (fun _ q => q) ?_
  refine Zu (q_ixm (s := s_0.commits) Tryz.underlying68 gsz110 rfl rfl nz127_40 (lt_of_get nz127_40 hz127_40)) ?_
  refine Zu (q_els (s := s_0.commits) gagg110 rfl rfl hz127_40) ?_
  refine VL.alloc (cs := [.slice none 0 0, .slice none 0 0, i64 0, str []]) (by kernel_rfl) (by decide) fun b13_41 => ?_
  refine Za ?_
  refine Zv (vc := [z127_40.tree.val, z127_40.parents.val, i64 z127_40.time, str z127_40.text]) (cs' := [z127_40.tree.val, z127_40.parents.val, i64 z127_40.time, str z127_40.text]) rfl gsz110 ?_
  refine Zl ?_
  refine Zq (Zr ?_)
  refine Zy ?_
  refine Zq (Zq (Zr ?_))
  refine Zu (q_field gfa110_1 rfl) ?_
  refine Zu (q_fe gone32 rfl rfl) ?_
  refine Zu (q_ln (s := z127_40.parents) Tryz.underlying32 rfl) ?_
  refine Zy ?_
  refine Zb ?_
  refine VC.nilO (⟨none, 0, []⟩ : Sv Str) 9 ⟨rfl, rfl⟩ ?_
  refine VC.iter (S := Sv Str × Int) (fun sg => (sg.1.l, sg.2)) (fun sg => [(1, ptr b1_1 0), (3, ptr b3_2 0), (4, .func (.func 110) #[] #[ptr b3_2 0]), (5, .func (.func 113) #[] #[]), (12, i64 x124_38), (13, ptr b13_41 0), (14, sg.1.val), (122, s_0.commits.val), (123, i64 ((s_0.commits.l.map StateCommit.pl).length : Int)), (124, i64 x124_38), (130, z127_40.parents.val), (131, i64 (z127_40.parents.l.length : Int)), (132, i64 sg.2)]) (fun sg => Mo.tt) (fun sg => Ow.star (Blk b13_41 [z127_40.tree.val, z127_40.parents.val, i64 z127_40.time, str z127_40.text] 110) (Ow.star (Blk b1_1 (zStateState s_0) 93) (Ow.star (Bd 212 5 b3_2 acc_39) (Ow.star (Sv.own sg.1 9) (Ow.emp))))) (⟨none, 0, []⟩, 0) [1, 3, 4, 5, 12, 13, 14, 122, 123, 124, 130, 131, 132] hS rfl ?_
  clear hS
  rintro ⟨parents14_42, x132_43⟩ m2 y2 hS hK2
  refine Zq (Zr ?_)
  refine Zu (q_lss rfl rfl) ?_
  refine Zl ?_
  refine Zq ?_
  refine Zc hS (fun h133 hS => ?_) (fun h133 hS => ?_)
  ·
   refine Zk ?_
   refine Zq (Zb (Zq (Zr ?_)))
   obtain ⟨z134_44, nz134_44, hz134_44, hS⟩ := at_s hS
   refine Zu (q_ixm (s := z127_40.parents) Tryz.underlying32 gsz3 rfl rfl nz134_44 (lt_of_get nz134_44 hz134_44)) ?_
   refine Zu (q_el (s := z127_40.parents) gone3 rfl hz134_44 rfl) ?_
   refine Zy ?_
   refine Zr ?_
   refine Zy ?_
   obtain ⟨b139, hS⟩ := gd_s hS
   refine Zu (q_callV (itoa_ct z134_44 b139) rfl rfl (fun _ _ => rfl)) ?_
   refine VL.lit (α := Str) (xs := [.tmp 139]) (vs := [str (itoaS z134_44)]) [(itoaS z134_44)] Tryz.underlying89 glit9 (by decide) rfl rfl rfl rfl (by decide) (fun _ _ _ _ => trivial) (by decide) (fun s140_45 hs140_45 => ?_) (by decide)
   replace hS := lt_to hs140_45 hS
   obtain ⟨b141, hS⟩ := gd_s hS
   refine VL.app (s := parents14_42) (r := s140_45) Tryz.underlying89 gapp9 (by decide) rfl Fo.out (ap1 b141) (ap2 b141 (by decide)) (by decide) (fun s141_47 hs141_47 => ?_)
   replace hS := lt_to hs141_47 hS
   refine Zy ?_
   refine VC.keep (ρ' := [(1, ptr b1_1 0), (3, ptr b3_2 0), (4, .func (.func 110) #[] #[ptr b3_2 0]), (5, .func (.func 113) #[] #[]), (12, i64 x124_38), (13, ptr b13_41 0), (14, s141_47.val), (122, s_0.commits.val), (123, i64 ((s_0.commits.l.map StateCommit.pl).length : Int)), (124, i64 x124_38), (130, z127_40.parents.val), (131, i64 (z127_40.parents.l.length : Int)), (132, i64 x132_43)]) [1, 3, 4, 5, 12, 13, 14, 122, 123, 124, 130, 131, 132] rfl ?_
   refine Zr ?_
   obtain ⟨b142, hS⟩ := gd_s hS
   refine Zu (q_add rfl rfl b142) ?_
   refine Zm ?_
   refine VL.rnd (s141_47, (x132_43 + 1)) [1, 3, 4, 5, 12, 13, 14, 122, 123, 124, 130, 131, 132] (fun _ _ h => h) (go2 hS hK2) rfl
  replace hS := up2 hS hK2
  refine Zx ?_
  refine VC.draw [(0, true), (1, true), (2, true), (3, true), (6, true), (9, true), (10, true), (11, true), (12, true), (15, true), (16, true), (4, false), (5, true), (7, true), (8, true), (13, false), (14, true), (17, false), (18, false)] mixed (by kernel_rfl) (by kernel_rfl) (by kernel_rfl) ?_
  refine Zw rfl (q_move rfl) ?_
  refine Zw rfl (q_move rfl) ?_
  refine Zw rfl (q_move rfl) ?_
  obtain ⟨b146, hS⟩ := gd_s hS
  refine Zw rfl (q_add rfl rfl b146) ?_
  refine Zw rfl (q_move rfl) ?_
  refine Zw rfl (q_move rfl) ?_
  refine Zw rfl (q_field gfa110_0 rfl) ?_
  refine Zw rfl (q_fe gone50 rfl rfl) ?_
  refine Zw rfl (q_ln (s := z127_40.tree) Tryz.underlying50 rfl) ?_
  refine Zw rfl (q_field gfa110_3 rfl) ?_
  refine Zw rfl (q_fe gone9 rfl rfl) ?_
  refine VD.one rfl ?_
  obtain ⟨b147, hS⟩ := gd_s hS
  refine Zu (q_callV (itoa_ct (x124_38 + 1) b147) rfl rfl (fun _ _ => rfl)) ?_
  refine VL.back (D' := [(16, str z127_40.text), (15, ptr b13_41 3), (12, i64 (z127_40.tree.l.length : Int)), (11, z127_40.tree.val), (10, ptr b13_41 0)]) (by kernel_rfl) (Pend.cons rfl (q_fe gone9 rfl rfl) (Pend.cons rfl (q_field gfa110_3 rfl) (Pend.cons rfl (q_ln (s := z127_40.tree) Tryz.underlying50 rfl) (Pend.cons rfl (q_fe gone50 rfl rfl) (Pend.cons rfl (q_field gfa110_0 rfl) (Pend.nil)))))) ?_
  obtain ⟨b148, hS⟩ := gd_s hS
  obtain ⟨y148_49, ey148_49, hS⟩ := lt_s hS
  refine Zw rfl (q_catE rfl rfl b148 ey148_49) ?_
  obtain ⟨b150, hS⟩ := gd_s hS
  obtain ⟨y150_50, ey150_50, hS⟩ := lt_s hS
  refine Zw rfl (q_callR (join_ct parents14_42 [32] b150) rfl (fun _ _ => congrArg str ey150_50)) ?_
  obtain ⟨b151, hS⟩ := gd_s hS
  obtain ⟨y151_51, ey151_51, hS⟩ := lt_s hS
  refine Zw rfl (q_catE rfl rfl b151 ey151_51) ?_
  refine VD.one rfl ?_
  obtain ⟨b156, hS⟩ := gd_s hS
  refine Zu (q_callV (itoa_ct (z127_40.tree.l.length : Int) b156) rfl rfl (fun _ _ => rfl)) ?_
  refine VL.back (D' := [(8, str y151_51), (5, str y148_49), (16, str z127_40.text), (15, ptr b13_41 3)]) (by kernel_rfl) (Pend.cons rfl (q_catE rfl rfl b151 ey151_51) (Pend.cons rfl (q_catE rfl rfl b148 ey148_49) (Pend.cons rfl (q_fe gone9 rfl rfl) (Pend.cons rfl (q_field gfa110_3 rfl) (Pend.nil))))) ?_
  obtain ⟨b157, hS⟩ := gd_s hS
  obtain ⟨y157_52, ey157_52, hS⟩ := lt_s hS
  refine Zw rfl (q_catE rfl rfl b157 ey157_52) ?_
  refine VD.one rfl ?_
  refine VL.lit (α := Str) (xs := [.const (str [99, 111, 109, 109, 105, 116]), .tmp 148, .tmp 151, .tmp 157, .tmp 159]) (vs := [str [99, 111, 109, 109, 105, 116], str y148_49, str y151_51, str y157_52, str z127_40.text]) [[99, 111, 109, 109, 105, 116], y148_49, y151_51, y157_52, z127_40.text] Tryz.underlying89 glit9 (by decide) rfl rfl rfl rfl (by decide) (fun _ _ _ _ => trivial) (by decide) (fun s160_53 hs160_53 => ?_) (by decide)
  replace hS := lt_to hs160_53 hS
  refine VL.back (D' := []) (by kernel_rfl) (Pend.nil) ?_
  refine VD.one rfl ?_
  obtain ⟨y161_55, ey161_55, hS⟩ := bd_s hS
  refine VL.callOV (vs := [s160_53.val]) (caps := [ptr b3_2 0]) (state_Text_1_ct s160_53 b3_2 acc_39 ey161_55) rfl rfl (by decide) ?_
  rintro _ rfl
  try dsimp only
  refine VL.back (D' := []) (by kernel_rfl) (Pend.nil) ?_
  refine VD.to (fun _ _ h => h) ?_
  refine VC.keep (ρ' := [(1, ptr b1_1 0), (3, ptr b3_2 0), (4, .func (.func 110) #[] #[ptr b3_2 0]), (5, .func (.func 113) #[] #[]), (122, s_0.commits.val), (123, i64 ((s_0.commits.l.map StateCommit.pl).length : Int)), (124, i64 x124_38)]) [1, 3, 4, 5, 122, 123, 124] rfl ?_
  refine Zr ?_
  obtain ⟨b162, hS⟩ := gd_s hS
  refine Zu (q_add rfl rfl b162) ?_
  refine Zm ?_
  refine VL.rnd ((x124_38 + 1), y161_55) [1, 3, 4, 5, 122, 123, 124] (fun _ _ h => h) (go2 hS hK1) rfl
 replace hS := up2 hS hK1
 refine Zx ?_
 refine Zq (Zq (Zr ?_))
 refine Zu (q_field gfa93_0 rfl) ?_
 refine Zu (q_field gfa61_5 rfl) ?_
 refine Zu (q_fe gone59 rfl rfl) ?_
 refine Zu (q_lnm ShelfShelf.pl (s := s_0.now_stash) Tryz.underlying59 rfl) ?_
 refine Zy ?_
 refine VC.keep (ρ' := [(1, ptr b1_1 0), (3, ptr b3_2 0), (4, .func (.func 110) #[] #[ptr b3_2 0]), (5, .func (.func 113) #[] #[]), (166, i64 ((s_0.now_stash.l.map ShelfShelf.pl).length : Int)), (167, i64 0)]) [1, 3, 4, 5, 166, 167] rfl ?_
 refine Zb ?_
 refine VC.iter (S := Int × Str) (fun sg => (sg.1, sg.2)) (fun sg => [(1, ptr b1_1 0), (3, ptr b3_2 0), (4, .func (.func 110) #[] #[ptr b3_2 0]), (5, .func (.func 113) #[] #[]), (166, i64 ((s_0.now_stash.l.map ShelfShelf.pl).length : Int)), (167, i64 sg.1)]) (fun sg => Mo.tt) (fun sg => Ow.star (Blk b1_1 (zStateState s_0) 93) (Ow.star (Bd 212 5 b3_2 sg.2) (Ow.emp))) (0, acc_39) [1, 3, 4, 5, 166, 167] hS rfl ?_
 clear hS
 rintro ⟨x167_56, acc_57⟩ m1 y1 hS hK1
 refine Zq (Zr ?_)
 refine Zu (q_lss rfl rfl) ?_
 refine Zl ?_
 refine Zq ?_
 refine Zc hS (fun h168 hS => ?_) (fun h168 hS => ?_)
 ·
  refine Zk ?_
  refine Zq (Zb (Zq (Zr ?_)))
  refine Zy ?_
  refine Zr ?_
  refine Zy ?_
  obtain ⟨b173, hS⟩ := gd_s hS
  refine Zu (q_callV (itoa_ct x167_56 b173) rfl rfl (fun _ _ => rfl)) ?_
  refine VL.lit (α := Str) (xs := [.const (str [115, 116, 97, 115, 104]), .tmp 173]) (vs := [str [115, 116, 97, 115, 104], str (itoaS x167_56)]) [[115, 116, 97, 115, 104], (itoaS x167_56)] Tryz.underlying89 glit9 (by decide) rfl rfl rfl rfl (by decide) (fun _ _ _ _ => trivial) (by decide) (fun s174_58 hs174_58 => ?_) (by decide)
  replace hS := lt_to hs174_58 hS
  obtain ⟨y175_60, ey175_60, hS⟩ := bd_s hS
  refine VL.callOV (vs := [s174_58.val]) (caps := [ptr b3_2 0]) (state_Text_1_ct s174_58 b3_2 acc_57 ey175_60) rfl rfl (by decide) ?_
  rintro _ rfl
  try dsimp only
  refine Zl ?_
  refine VC.keep (ρ' := [(1, ptr b1_1 0), (3, ptr b3_2 0), (4, .func (.func 110) #[] #[ptr b3_2 0]), (5, .func (.func 113) #[] #[]), (166, i64 ((s_0.now_stash.l.map ShelfShelf.pl).length : Int)), (167, i64 x167_56)]) [1, 3, 4, 5, 166, 167] rfl ?_
  refine Zr ?_
  obtain ⟨b176, hS⟩ := gd_s hS
  refine Zu (q_add rfl rfl b176) ?_
  refine Zm ?_
  refine VL.rnd ((x167_56 + 1), y175_60) [1, 3, 4, 5, 166, 167] (fun _ _ h => h) (go2 hS hK1) rfl
 replace hS := up2 hS hK1
 refine Zx ?_
 refine Zq ?_
 refine VC.draw [(0, true), (1, true), (2, true), (3, true), (4, true), (5, true), (7, true), (8, true), (9, true), (10, true), (11, true), (6, false), (12, false), (13, false), (14, false)] mixed (by kernel_rfl) (by kernel_rfl) (by kernel_rfl) ?_
 refine Zw rfl (q_move rfl) ?_
 refine Zw rfl (q_move rfl) ?_
 refine Zw rfl (q_field gfa93_2 rfl) ?_
 refine Zw rfl (q_field gfa91_0 rfl) ?_
 refine Zw rfl (q_fe gone89 rfl rfl) ?_
 refine Zw rfl (q_ln (s := s_0.log_back) Tryz.underlying89 rfl) ?_
 refine Zw rfl (q_move rfl) ?_
 refine Zw rfl (q_field gfa93_2 rfl) ?_
 refine Zw rfl (q_field gfa91_1 rfl) ?_
 refine Zw rfl (q_fe gone89 rfl rfl) ?_
 refine Zw rfl (q_ln (s := s_0.log_forth) Tryz.underlying89 rfl) ?_
 refine VD.one rfl ?_
 obtain ⟨b183, hS⟩ := gd_s hS
 refine Zu (q_callV (itoa_ct (s_0.log_back.l.length : Int) b183) rfl rfl (fun _ _ => rfl)) ?_
 refine VL.back (D' := [(11, i64 (s_0.log_forth.l.length : Int)), (10, s_0.log_forth.val), (9, ptr b1_1 19), (8, ptr b1_1 18)]) (by kernel_rfl) (Pend.cons rfl (q_ln (s := s_0.log_forth) Tryz.underlying89 rfl) (Pend.cons rfl (q_fe gone89 rfl rfl) (Pend.cons rfl (q_field gfa91_1 rfl) (Pend.cons rfl (q_field gfa93_2 rfl) (Pend.nil))))) ?_
 refine VD.one rfl ?_
 obtain ⟨b189, hS⟩ := gd_s hS
 refine Zu (q_callV (itoa_ct (s_0.log_forth.l.length : Int) b189) rfl rfl (fun _ _ => rfl)) ?_
 refine VL.back (D' := []) (by kernel_rfl) (Pend.nil) ?_
 refine VD.one rfl ?_
 refine VL.lit (α := Str) (xs := [.const (str [117, 110, 100, 111]), .tmp 183, .const (str [114, 101, 100, 111]), .tmp 189]) (vs := [str [117, 110, 100, 111], str (itoaS (s_0.log_back.l.length : Int)), str [114, 101, 100, 111], str (itoaS (s_0.log_forth.l.length : Int))]) [[117, 110, 100, 111], (itoaS (s_0.log_back.l.length : Int)), [114, 101, 100, 111], (itoaS (s_0.log_forth.l.length : Int))] Tryz.underlying89 glit9 (by decide) rfl rfl rfl rfl (by decide) (fun _ _ _ _ => trivial) (by decide) (fun s190_61 hs190_61 => ?_) (by decide)
 replace hS := lt_to hs190_61 hS
 refine VL.back (D' := []) (by kernel_rfl) (Pend.nil) ?_
 refine VD.one rfl ?_
 obtain ⟨y191_63, ey191_63, hS⟩ := bd_s hS
 refine VL.callOV (vs := [s190_61.val]) (caps := [ptr b3_2 0]) (state_Text_1_ct s190_61 b3_2 acc_57 ey191_63) rfl rfl (by decide) ?_
 rintro _ rfl
 try dsimp only
 refine VL.back (D' := []) (by kernel_rfl) (Pend.nil) ?_
 refine VD.to (fun _ _ h => h) ?_
 refine VC.keep (ρ' := [(3, ptr b3_2 0)]) [3] rfl ?_
 refine Zq (Zr ?_)
 refine VL.callO (string_ct b3_2 y191_63) rfl (by decide) ?_
 rintro _ _
 refine Zy ?_
 cases hS
 exact Ze
theorem l25_known_ct  {r : Bool} (hS : Sh.l25_known = some r) :
 Ct Tryz.prog 20 [] Gl (Ow.emp) (X := Unit) (fun _ => .bool r) (fun _ => True) (fun _ => Mo.tt) (fun _ => Ow.emp) := by
 refine Zo Tryz.func20 Tryz.ntmps20 fun c => ?_
 unfold Sh.l25_known at hS
 refine Zq (Zr ?_)
 refine Zy ?_
 refine Zq (Zr ?_)
 obtain ⟨y11_1, ey11_1, hS⟩ := bd_s hS
 refine Zu (q_call (state_New_ct ey11_1) rfl (fun _ _ => rfl)) ?_
 refine VL.alloc (cs := [.slice none 0 0, .slice none 0 0, .slice none 0 0, str [], i64 0, str [], i64 0, str [], .slice none 0 0, .slice none 0 0, i64 0, str [], str [], i64 0, .slice none 0 0, .slice none 0 0, .slice none 0 0, .slice none 0 0, .slice none 0 0, .slice none 0 0, i64 0]) (by kernel_rfl) (by decide) fun b1_2 => ?_
 refine Zv (vc := [.slice none 0 0, .slice none 0 0, .slice none 0 0, str [109, 97, 105, 110], i64 0, str [], i64 0, str [], .slice none 0 0, .slice none 0 0, i64 0, str [], str [], i64 0, .slice none 0 0, .slice none 0 0, .slice none 0 0, .slice none 0 0, .slice none 0 0, .slice none 0 0, i64 0]) (cs' := [.slice none 0 0, .slice none 0 0, .slice none 0 0, str [109, 97, 105, 110], i64 0, str [], i64 0, str [], .slice none 0 0, .slice none 0 0, i64 0, str [], str [], i64 0, .slice none 0 0, .slice none 0 0, .slice none 0 0, .slice none 0 0, .slice none 0 0, .slice none 0 0, i64 0]) rfl gsz93 ?_
 refine Zl ?_
 refine Zq (Zr ?_)
 refine Zu (q_field gfa93_0 rfl) ?_
 refine Zu (q_fep (j := 0) (n := 17) gagg61 rfl rfl rfl) ?_
 obtain ⟨y14_3, ey14_3, hS⟩ := bd_s hS
 refine Zu (q_call (state_Mark_ct (⟨⟨none, 0, []⟩, ⟨none, 0, []⟩, ⟨none, 0, []⟩, [109, 97, 105, 110], 0, [], 0, [], ⟨none, 0, []⟩, ⟨none, 0, []⟩, 0, [], [], 0, ⟨none, 0, []⟩, ⟨none, 0, []⟩, ⟨none, 0, []⟩⟩ : StateNow) ey14_3) rfl (fun _ _ => rfl)) ?_
 refine Zy ?_
 refine Zq (Zr ?_)
 refine Zm ?_
 obtain ⟨y17_4, ey17_4, hS⟩ := bd_s hS
 refine VL.callF (state_Unmark_ct y14_3 ey17_4) rfl (by decide) ?_
 rintro ⟨q17_4_0, q17_4_1⟩ rfl
 try dsimp only
 refine Zm ?_
 refine Zu (q_extract rfl rfl) ?_
 refine Zu (q_extract rfl rfl) ?_
 refine VL.alloc (cs := [.slice none 0 0, .slice none 0 0, .slice none 0 0, str [], i64 0, str [], i64 0, str [], .slice none 0 0, .slice none 0 0, i64 0, str [], str [], i64 0, .slice none 0 0, .slice none 0 0, .slice none 0 0]) (by kernel_rfl) (by decide) fun b3_5 => ?_
 refine Zv (vc := (zStateNow q17_4_0)) (cs' := (zStateNow q17_4_0)) rfl gsz61 ?_
 refine Zy ?_
 refine VC.keep (ρ' := [(1, ptr b1_2 0), (2, str y14_3), (3, ptr b3_5 0), (4, q17_4_1.val)]) [1, 2, 3, 4] rfl ?_
 refine Zq (Zr ?_)
 refine Zu (q_fes gagg93 rfl rfl) ?_
 obtain ⟨y22_6, ey22_6, hS⟩ := bd_s hS
 refine VL.callF (state_Encode_ct (⟨⟨none, 0, []⟩, ⟨none, 0, []⟩, ⟨none, 0, []⟩, [109, 97, 105, 110], 0, [], 0, [], ⟨none, 0, []⟩, ⟨none, 0, []⟩, 0, [], [], 0, ⟨none, 0, []⟩, ⟨none, 0, []⟩, ⟨none, 0, []⟩, ⟨none, 0, []⟩, ⟨none, 0, []⟩, ⟨none, 0, []⟩, 0⟩ : StateState) ey22_6) rfl (by decide) ?_
 rintro q22_6_0 rfl
 try dsimp only
 obtain ⟨y23_7, ey23_7, hS⟩ := bd_s hS
 refine VL.callF (state_Decode_ct q22_6_0 ey23_7) rfl (by decide) ?_
 rintro ⟨q23_7_0, q23_7_1⟩ rfl
 try dsimp only
 refine Zm ?_
 refine Zu (q_extract rfl rfl) ?_
 refine Zu (q_extract rfl rfl) ?_
 refine VL.alloc (cs := [.slice none 0 0, .slice none 0 0, .slice none 0 0, str [], i64 0, str [], i64 0, str [], .slice none 0 0, .slice none 0 0, i64 0, str [], str [], i64 0, .slice none 0 0, .slice none 0 0, .slice none 0 0, .slice none 0 0, .slice none 0 0, .slice none 0 0, i64 0]) (by kernel_rfl) (by decide) fun b5_8 => ?_
 refine Zv (vc := (zStateState q23_7_0)) (cs' := (zStateState q23_7_0)) rfl gsz93 ?_
 refine Zy ?_
 refine Zq (Zr ?_)
 refine Zm ?_
 obtain ⟨b28, hS⟩ := gd_s hS
 obtain ⟨y28_9, ey28_9, hS⟩ := lt_s hS
 refine Zu (q_catE rfl rfl b28 ey28_9) ?_
 obtain ⟨y29_10, ey29_10, hS⟩ := bd_s hS
 refine VL.callF (state_Unmark_ct y28_9 ey29_10) rfl (by decide) ?_
 rintro ⟨q29_10_0, q29_10_1⟩ rfl
 try dsimp only
 refine Zm ?_
 refine Zu (q_extract rfl rfl) ?_
 refine Zu (q_extract rfl rfl) ?_
 refine VL.alloc (cs := [.slice none 0 0, .slice none 0 0, .slice none 0 0, str [], i64 0, str [], i64 0, str [], .slice none 0 0, .slice none 0 0, i64 0, str [], str [], i64 0, .slice none 0 0, .slice none 0 0, .slice none 0 0]) (by kernel_rfl) (by decide) fun b7_11 => ?_
 refine Zv (vc := (zStateNow q29_10_0)) (cs' := (zStateNow q29_10_0)) rfl gsz61 ?_
 refine Zy ?_
 refine VC.keep (ρ' := [(1, ptr b1_2 0), (2, str y14_3), (3, ptr b3_5 0), (4, q17_4_1.val), (5, ptr b5_8 0), (6, q23_7_1.val), (8, q29_10_1.val)]) [1, 2, 3, 4, 5, 6, 8] rfl ?_
 refine Zq (Zr ?_)
 refine Zu (q_fes gagg93 rfl rfl) ?_
 obtain ⟨y34_12, ey34_12, hS⟩ := bd_s hS
 refine VL.callF (state_Weight_ct (⟨⟨none, 0, []⟩, ⟨none, 0, []⟩, ⟨none, 0, []⟩, [109, 97, 105, 110], 0, [], 0, [], ⟨none, 0, []⟩, ⟨none, 0, []⟩, 0, [], [], 0, ⟨none, 0, []⟩, ⟨none, 0, []⟩, ⟨none, 0, []⟩, ⟨none, 0, []⟩, ⟨none, 0, []⟩, ⟨none, 0, []⟩, 0⟩ : StateState) ey34_12) rfl (by decide) ?_
 rintro ⟨q34_12_0, q34_12_1⟩ rfl
 try dsimp only
 refine Zm ?_
 refine Zu (q_extract rfl rfl) ?_
 refine Zu (q_extract rfl rfl) ?_
 refine Zy ?_
 refine Zq (Zr ?_)
 refine Zm ?_
 refine Zu (q_ereq Tryz.underlying26 rfl) ?_
 refine Zm ?_
 refine Zsp 39 hS (fun h39 hS => ?_) (fun h39 hS => ?_)
 ·
  refine Zg ?_
  refine Zh (q_ereq Tryz.underlying26 rfl) ?_
  refine Zy ?_
  refine Zsp 43 hS (fun h43 hS => ?_) (fun h43 hS => ?_)
  ·
   refine Zg ?_
   refine Zh (q_erne Tryz.underlying26 rfl) ?_
   refine Zy ?_
   refine Zspn 47 hS (fun h47 hS => ?_) (fun h47 hS => ?_)
   ·
    refine Zg ?_
    refine Zh (q_ereq Tryz.underlying26 rfl) ?_
    refine Zy ?_
    refine Zsp 51 hS (fun h51 hS => ?_) (fun h51 hS => ?_)
    ·
     refine Zh (q_field gfa61_3 rfl) ?_
     refine Zh (q_field gfa54_0 rfl) ?_
     refine Zh (q_fe gone9 rfl rfl) ?_
     refine Zh (q_seq rfl rfl) ?_
     refine Zy ?_
     refine Zsp 57 hS (fun h57 hS => ?_) (fun h57 hS => ?_)
     ·
      refine Zh (q_fes gagg61 rfl rfl) ?_
      obtain ⟨y59_13, ey59_13, hS⟩ := bd_s hS
      refine Zh (q_call (state_Mark_ct q17_4_0 ey59_13) rfl (fun _ _ => rfl)) ?_
      refine Zg ?_
      refine Zh (q_seq rfl rfl) ?_
      refine Zy ?_
      refine Zsp 63 hS (fun h63 hS => ?_) (fun h63 hS => ?_)
      ·
       refine Zh (q_fes gagg93 rfl rfl) ?_
       refine Zh (q_fes gagg93 rfl rfl) ?_
       obtain ⟨y66_14, ey66_14, hS⟩ := bd_s hS
       refine Zh (q_call (state_Same_ct (⟨⟨none, 0, []⟩, ⟨none, 0, []⟩, ⟨none, 0, []⟩, [109, 97, 105, 110], 0, [], 0, [], ⟨none, 0, []⟩, ⟨none, 0, []⟩, 0, [], [], 0, ⟨none, 0, []⟩, ⟨none, 0, []⟩, ⟨none, 0, []⟩, ⟨none, 0, []⟩, ⟨none, 0, []⟩, ⟨none, 0, []⟩, 0⟩ : StateState) q23_7_0 ey66_14) rfl (fun _ _ => rfl)) ?_
       refine Zy ?_
       refine Zspb 68 hS (fun h68 hS => ?_) (fun h68 hS => ?_)
       ·
        refine Zh (q_fes gagg93 rfl rfl) ?_
        refine VL.guard rfl rfl ?_
        obtain ⟨y70_15, ey70_15, hS⟩ := bd_s hS
        refine VL.callF (state_Check_ct (⟨⟨none, 0, []⟩, ⟨none, 0, []⟩, ⟨none, 0, []⟩, [109, 97, 105, 110], 0, [], 0, [], ⟨none, 0, []⟩, ⟨none, 0, []⟩, 0, [], [], 0, ⟨none, 0, []⟩, ⟨none, 0, []⟩, ⟨none, 0, []⟩, ⟨none, 0, []⟩, ⟨none, 0, []⟩, ⟨none, 0, []⟩, 0⟩ : StateState) ey70_15) rfl (by decide) ?_
        rintro q70_15_0 rfl
        try dsimp only
        refine Zh (q_ereq Tryz.underlying26 rfl) ?_
        refine Zy ?_
        refine Zsp 73 hS (fun h73 hS => ?_) (fun h73 hS => ?_)
        ·
         refine Zh (q_fes gagg93 rfl rfl) ?_
         obtain ⟨y75_16, ey75_16, hS⟩ := bd_s hS
         refine Zh (q_call (state_Text_ct (⟨⟨none, 0, []⟩, ⟨none, 0, []⟩, ⟨none, 0, []⟩, [109, 97, 105, 110], 0, [], 0, [], ⟨none, 0, []⟩, ⟨none, 0, []⟩, 0, [], [], 0, ⟨none, 0, []⟩, ⟨none, 0, []⟩, ⟨none, 0, []⟩, ⟨none, 0, []⟩, ⟨none, 0, []⟩, ⟨none, 0, []⟩, 0⟩ : StateState) ey75_16) rfl (fun _ _ => rfl)) ?_
         refine Zh (q_seq rfl rfl) ?_
         refine Zy ?_
         refine Zsp 78 hS (fun h78 hS => ?_) (fun h78 hS => ?_)
         ·
          refine Zg ?_
          refine Zh (q_eql rfl rfl) ?_
          refine Zy ?_
          refine VC.keep (ρ' := [(0, .bool (decide (q34_12_0 = 4)))]) [0] rfl ?_
          cases hS
          exact Ze
         refine VL.runs 4 [(0, some false)] (by kernel_rfl) ?_
         refine Zl ?_
         refine VC.keep (ρ' := [(0, .bool false)]) [0] rfl ?_
         cases hS
         exact Ze
        refine VL.runs 9 [(0, some false)] (by kernel_rfl) ?_
        refine Zl ?_
        refine VC.keep (ρ' := [(0, .bool false)]) [0] rfl ?_
        cases hS
        exact Ze
       refine VL.runs 14 [(0, some false)] (by kernel_rfl) ?_
       refine Zl ?_
       refine VC.keep (ρ' := [(0, .bool false)]) [0] rfl ?_
       cases hS
       exact Ze
      refine VL.runs 19 [(0, some false)] (by kernel_rfl) ?_
      refine Zl ?_
      refine VC.keep (ρ' := [(0, .bool false)]) [0] rfl ?_
      cases hS
      exact Ze
     refine VL.runs 25 [(0, some false)] (by kernel_rfl) ?_
     refine Zl ?_
     refine VC.keep (ρ' := [(0, .bool false)]) [0] rfl ?_
     cases hS
     exact Ze
    refine VL.runs 31 [(0, some false)] (by kernel_rfl) ?_
    refine Zl ?_
    refine VC.keep (ρ' := [(0, .bool false)]) [0] rfl ?_
    cases hS
    exact Ze
   refine VL.runs 35 [(0, some false)] (by kernel_rfl) ?_
   refine Zl ?_
   refine VC.keep (ρ' := [(0, .bool false)]) [0] rfl ?_
   cases hS
   exact Ze
  refine VL.runs 39 [(0, some false)] (by kernel_rfl) ?_
  refine Zl ?_
  refine VC.keep (ρ' := [(0, .bool false)]) [0] rfl ?_
  cases hS
  exact Ze
 refine VL.runs 43 [(0, some false)] (by kernel_rfl) ?_
 refine Zl ?_
 refine VC.keep (ρ' := [(0, .bool false)]) [0] rfl ?_
 cases hS
 exact Ze
theorem l25_MarkTexts_ct (s_0 : Str) {r : Bool} (hS : Sh.l25_MarkTexts s_0 = some r) :
 Ct Tryz.prog 5 [str s_0] Gl (Ow.emp) (X := Unit) (fun _ => .bool r) (fun _ => True) (fun _ => Mo.tt) (fun _ => Ow.emp) := by
 refine Zo Tryz.func5 Tryz.ntmps5 fun c => ?_
 unfold Sh.l25_MarkTexts at hS
 refine Zq (Zr ?_)
 refine Zy ?_
 refine Zq (Zq (Zr ?_))
 obtain ⟨y5_1, ey5_1, hS⟩ := bd_s hS
 refine Zu (q_call (l25_known_ct ey5_1) rfl (fun _ _ => rfl)) ?_
 refine Zu (q_not rfl) ?_
 refine Zl ?_
 refine Zcb hS (fun h6 hS => ?_) (fun h6 hS => ?_)
 ·
  refine Zq (Zr ?_)
  refine Zy ?_
  cases hS
  exact Ze
 refine Zk ?_
 refine Zq (Zq (Zr ?_))
 refine Zm ?_
 refine Zu (q_slen Tryz.underlying9 rfl) ?_
 refine Zu (q_gtr rfl rfl) ?_
 refine Zl ?_
 refine Zc hS (fun h9 hS => ?_) (fun h9 hS => ?_)
 ·
  refine Zq (Zr ?_)
  refine Zy ?_
  cases hS
  exact Ze
 refine Zk ?_
 refine Zq (Zr ?_)
 refine Zm ?_
 obtain ⟨y12_2, ey12_2, hS⟩ := bd_s hS
 refine VL.callF (state_Unmark_ct s_0 ey12_2) rfl (by decide) ?_
 rintro ⟨q12_2_0, q12_2_1⟩ rfl
 try dsimp only
 refine Zm ?_
 refine Zu (q_extract rfl rfl) ?_
 refine Zu (q_extract rfl rfl) ?_
 refine VL.alloc (cs := [.slice none 0 0, .slice none 0 0, .slice none 0 0, str [], i64 0, str [], i64 0, str [], .slice none 0 0, .slice none 0 0, i64 0, str [], str [], i64 0, .slice none 0 0, .slice none 0 0, .slice none 0 0]) (by kernel_rfl) (by decide) fun b3_3 => ?_
 refine Zv (vc := (zStateNow q12_2_0)) (cs' := (zStateNow q12_2_0)) rfl gsz61 ?_
 refine Zy ?_
 refine VC.keep (ρ' := [(0, str s_0), (3, ptr b3_3 0), (4, q12_2_1.val)]) [0, 3, 4] rfl ?_
 refine Zq (Zr ?_)
 refine Zm ?_
 refine Zu (q_erne Tryz.underlying26 rfl) ?_
 refine Zm ?_
 refine Zspn 17 hS (fun h17 hS => ?_) (fun h17 hS => ?_)
 ·
  refine VL.runs 6 [(2, some true)] (by kernel_rfl) ?_
  refine Zl ?_
  cases hS
  exact Ze
 refine Zh (q_fes gagg61 rfl rfl) ?_
 obtain ⟨y19_4, ey19_4, hS⟩ := bd_s hS
 refine Zh (q_call (state_Mark_ct q12_2_0 ey19_4) rfl (fun _ _ => rfl)) ?_
 refine Zg ?_
 refine Zh (q_seq rfl rfl) ?_
 refine Zy ?_
 refine VC.keep (ρ' := [(2, .bool (decide (y19_4 = s_0)))]) [2] rfl ?_
 cases hS
 exact Ze
theorem l25_StateBytes_ct (b_0 : Sv UInt8) {r : Bool} (hS : Sh.l25_StateBytes b_0.l = some r) :
 Ct Tryz.prog 7 [b_0.val] (b_0.ok.and Gl) (Ow.emp) (X := Unit) (fun _ => .bool r) (fun _ => True) (fun _ => Mo.tt) (fun _ => Ow.emp) := by
 refine Zo Tryz.func7 Tryz.ntmps7 fun c => ?_
 unfold Sh.l25_StateBytes at hS
 refine Zq (Zr ?_)
 refine Zy ?_
 refine Zq (Zq (Zr ?_))
 obtain ⟨y7_1, ey7_1, hS⟩ := bd_s hS
 refine Zu (q_call (l25_known_ct ey7_1) rfl (fun _ _ => rfl)) ?_
 refine Zu (q_not rfl) ?_
 refine Zl ?_
 refine Zcb hS (fun h8 hS => ?_) (fun h8 hS => ?_)
 ·
  refine Zq (Zr ?_)
  refine Zy ?_
  cases hS
  exact Ze
 refine Zk ?_
 refine Zq (Zq (Zr ?_))
 refine Zm ?_
 refine Zu (q_ln (s := b_0) Tryz.underlying22 rfl) ?_
 refine Zu (q_gtr rfl rfl) ?_
 refine Zl ?_
 refine Zc hS (fun h11 hS => ?_) (fun h11 hS => ?_)
 ·
  refine Zq (Zr ?_)
  refine Zy ?_
  cases hS
  exact Ze
 refine Zk ?_
 refine Zq (Zr ?_)
 refine Zm ?_
 obtain ⟨y14_2, ey14_2, hS⟩ := bd_s hS
 refine VL.callF (state_Decode_ct b_0 ey14_2) rfl (by decide) ?_
 rintro ⟨q14_2_0, q14_2_1⟩ rfl
 try dsimp only
 refine Zm ?_
 refine Zu (q_extract rfl rfl) ?_
 refine Zu (q_extract rfl rfl) ?_
 refine VL.alloc (cs := [.slice none 0 0, .slice none 0 0, .slice none 0 0, str [], i64 0, str [], i64 0, str [], .slice none 0 0, .slice none 0 0, i64 0, str [], str [], i64 0, .slice none 0 0, .slice none 0 0, .slice none 0 0, .slice none 0 0, .slice none 0 0, .slice none 0 0, i64 0]) (by kernel_rfl) (by decide) fun b3_3 => ?_
 refine Zv (vc := (zStateState q14_2_0)) (cs' := (zStateState q14_2_0)) rfl gsz93 ?_
 refine Zy ?_
 refine VC.keep (ρ' := [(3, ptr b3_3 0), (4, q14_2_1.val)]) [3, 4] rfl ?_
 refine Zq (Zq (Zr ?_))
 refine Zm ?_
 refine Zu (q_erne Tryz.underlying26 rfl) ?_
 refine Zl ?_
 refine Zcn hS (fun h18 hS => ?_) (fun h18 hS => ?_)
 ·
  refine Zq (Zr ?_)
  refine Zy ?_
  cases hS
  exact Ze
 refine Zk ?_
 refine Zq (Zr ?_)
 refine Zu (q_fes gagg93 rfl rfl) ?_
 obtain ⟨y21_4, ey21_4, hS⟩ := bd_s hS
 refine VL.callF (state_Encode_ct q14_2_0 ey21_4) rfl (by decide) ?_
 rintro q21_4_0 rfl
 try dsimp only
 obtain ⟨y22_5, ey22_5, hS⟩ := bd_s hS
 refine VL.callF (state_Decode_ct q21_4_0 ey22_5) rfl (by decide) ?_
 rintro ⟨q22_5_0, q22_5_1⟩ rfl
 try dsimp only
 refine Zm ?_
 refine Zu (q_extract rfl rfl) ?_
 refine Zu (q_extract rfl rfl) ?_
 refine VL.alloc (cs := [.slice none 0 0, .slice none 0 0, .slice none 0 0, str [], i64 0, str [], i64 0, str [], .slice none 0 0, .slice none 0 0, i64 0, str [], str [], i64 0, .slice none 0 0, .slice none 0 0, .slice none 0 0, .slice none 0 0, .slice none 0 0, .slice none 0 0, i64 0]) (by kernel_rfl) (by decide) fun b5_6 => ?_
 refine Zv (vc := (zStateState q22_5_0)) (cs' := (zStateState q22_5_0)) rfl gsz93 ?_
 refine Zy ?_
 refine VC.keep (ρ' := [(3, ptr b3_3 0), (5, ptr b5_6 0), (6, q22_5_1.val)]) [3, 5, 6] rfl ?_
 refine Zq (Zr ?_)
 refine Zm ?_
 refine Zu (q_ereq Tryz.underlying26 rfl) ?_
 refine Zm ?_
 refine Zsp 27 hS (fun h27 hS => ?_) (fun h27 hS => ?_)
 ·
  refine Zh (q_fes gagg93 rfl rfl) ?_
  refine Zh (q_fes gagg93 rfl rfl) ?_
  obtain ⟨y30_7, ey30_7, hS⟩ := bd_s hS
  refine Zh (q_call (state_Same_ct q14_2_0 q22_5_0 ey30_7) rfl (fun _ _ => rfl)) ?_
  refine Zy ?_
  refine VC.keep (ρ' := [(2, .bool y30_7)]) [2] rfl ?_
  cases hS
  exact Ze
 refine VL.runs 5 [(2, some false)] (by kernel_rfl) ?_
 refine Zl ?_
 cases hS
 exact Ze
end Go.Proofs.YthbccdlpalenlaaGreatDoor
end

section
set_option linter.unusedVariables false
namespace Go.Proofs.YthbccdlpalenlaaGreatDoor
set_option maxHeartbeats 4000000
set_option maxRecDepth 100000
set_option synthInstance.maxSize 2000
set_option synthInstance.maxHeartbeats 1000000
open Go.RowKit Go.V
open Go.S hiding Str
end Go.Proofs.YthbccdlpalenlaaGreatDoor
end

section
set_option linter.unusedVariables false
namespace Go.Proofs.YthbccdlpalenlaaGreatDoor
set_option maxHeartbeats 4000000
set_option maxRecDepth 100000
set_option synthInstance.maxSize 2000
set_option synthInstance.maxHeartbeats 1000000
open Go.RowKit Go.V
open Go.S hiding Str
end Go.Proofs.YthbccdlpalenlaaGreatDoor
end

section
set_option linter.unusedVariables false
namespace Go.Proofs.YthbccdlpalenlaaGreatDoor
set_option maxHeartbeats 4000000
set_option maxRecDepth 100000
set_option synthInstance.maxSize 2000
set_option synthInstance.maxHeartbeats 1000000
open Go.RowKit Go.V
open Go.S hiding Str
end Go.Proofs.YthbccdlpalenlaaGreatDoor
end

section
set_option linter.unusedVariables false
namespace Go.Proofs.YthbccdlpalenlaaGreatDoor
set_option maxHeartbeats 4000000
set_option maxRecDepth 100000
set_option synthInstance.maxSize 2000
set_option synthInstance.maxHeartbeats 1000000
open Go.RowKit Go.V
open Go.S hiding Str
end Go.Proofs.YthbccdlpalenlaaGreatDoor
end

section
namespace Go.S
theorem at_get {α : Type} {l : List α} {i : Int} (h0 : 0 ≤ i) (h : i < l.length) : ∃ z, l[i.toNat]? = some z := ⟨_, List.getElem?_eq_getElem (by omega)⟩
end Go.S
end

section
namespace Go.S
theorem get_lt {α : Type} {l : List α} {i : Nat} {x : α} (h : l[i]? = some x) : i < l.length := (List.getElem?_eq_some_iff.1 h).1
theorem take_snoc {α : Type} {l : List α} {i : Int} {z : α} (h0 : 0 ≤ i) (h : l[i.toNat]? = some z) : l.take (i + 1).toNat = l.take i.toNat ++ [z] := by
  rw [show (i + 1).toNat = i.toNat + 1 by omega, List.take_add_one, h]; rfl
theorem ok_jnP {S R : Type} {K : S → Option R} {F : (S → Option R) → Option R} {Q : R → Prop} (P : S → Prop) (hK : ∀ s, P s → Ok (K s) Q) (hF : ∀ K' : S → Option R, (∀ s, P s → Ok (K' s) Q) → Ok (F K') Q) : Ok (jn K F) Q := hF K hK
end Go.S
end

section
namespace Go.S
open Go
theorem wU64 {n : Nat} (h : n < 18446744073709551616) : IntKind.wrap .u64 (n : Int) = n := IntWalk.u64_in _ (by omega)
theorem wU8 {n : Nat} (h : n < 256) : IntKind.wrap .u8 (n : Int) = n := IntWalk.u8_in _ (by omega)
theorem bAnd64 {x y : Nat} (hx : x < 18446744073709551616) (hy : y < 18446744073709551616) : bAnd .u64 x y = ((x &&& y : Nat) : Int) := by
  unfold bAnd
  have h : (BitVec.ofInt IntKind.u64.bits (x : Int) &&& BitVec.ofInt IntKind.u64.bits (y : Int)).toNat = x &&& y := by
    show (BitVec.ofInt 64 (x : Int) &&& BitVec.ofInt 64 (y : Int)).toNat = x &&& y
    rw [BitVec.toNat_and, BitVec.ofInt_natCast, BitVec.ofInt_natCast, BitVec.toNat_ofNat, BitVec.toNat_ofNat, Nat.mod_eq_of_lt (by omega), Nat.mod_eq_of_lt (by omega)]
  rw [h]
  exact wU64 (Nat.lt_of_le_of_lt Nat.and_le_left hx)
theorem bOr64 {x y : Nat} (hx : x < 18446744073709551616) (hy : y < 18446744073709551616) : bOr .u64 x y = ((x ||| y : Nat) : Int) := by
  unfold bOr
  have h : (BitVec.ofInt IntKind.u64.bits (x : Int) ||| BitVec.ofInt IntKind.u64.bits (y : Int)).toNat = x ||| y := by
    show (BitVec.ofInt 64 (x : Int) ||| BitVec.ofInt 64 (y : Int)).toNat = x ||| y
    rw [BitVec.toNat_or, BitVec.ofInt_natCast, BitVec.ofInt_natCast, BitVec.toNat_ofNat, BitVec.toNat_ofNat, Nat.mod_eq_of_lt (by omega), Nat.mod_eq_of_lt (by omega)]
  rw [h]
  exact wU64 (Nat.or_lt_two_pow (n := 64) hx hy)
theorem bOr8 {x y : Nat} (hx : x < 256) (hy : y < 256) : bOr .u8 x y = ((x ||| y : Nat) : Int) := by
  unfold bOr
  have h : (BitVec.ofInt IntKind.u8.bits (x : Int) ||| BitVec.ofInt IntKind.u8.bits (y : Int)).toNat = x ||| y := by
    show (BitVec.ofInt 8 (x : Int) ||| BitVec.ofInt 8 (y : Int)).toNat = x ||| y
    rw [BitVec.toNat_or, BitVec.ofInt_natCast, BitVec.ofInt_natCast, BitVec.toNat_ofNat, BitVec.toNat_ofNat, Nat.mod_eq_of_lt (by omega), Nat.mod_eq_of_lt (by omega)]
  rw [h]
  exact wU8 (Nat.or_lt_two_pow (n := 8) hx hy)
theorem bAnd8 {x y : Nat} (hx : x < 256) (hy : y < 256) : bAnd .u8 x y = ((x &&& y : Nat) : Int) := by
  unfold bAnd
  have h : (BitVec.ofInt IntKind.u8.bits (x : Int) &&& BitVec.ofInt IntKind.u8.bits (y : Int)).toNat = x &&& y := by
    show (BitVec.ofInt 8 (x : Int) &&& BitVec.ofInt 8 (y : Int)).toNat = x &&& y
    rw [BitVec.toNat_and, BitVec.ofInt_natCast, BitVec.ofInt_natCast, BitVec.toNat_ofNat, BitVec.toNat_ofNat, Nat.mod_eq_of_lt (by omega), Nat.mod_eq_of_lt (by omega)]
  rw [h]
  exact wU8 (Nat.lt_of_le_of_lt Nat.and_le_left hx)
theorem bXor64 {x y : Nat} (hx : x < 18446744073709551616) (hy : y < 18446744073709551616) : bXor .u64 x y = ((x ^^^ y : Nat) : Int) := by
  unfold bXor
  have h : (BitVec.ofInt IntKind.u64.bits (x : Int) ^^^ BitVec.ofInt IntKind.u64.bits (y : Int)).toNat = x ^^^ y := by
    show (BitVec.ofInt 64 (x : Int) ^^^ BitVec.ofInt 64 (y : Int)).toNat = x ^^^ y
    rw [BitVec.toNat_xor, BitVec.ofInt_natCast, BitVec.ofInt_natCast, BitVec.toNat_ofNat, BitVec.toNat_ofNat, Nat.mod_eq_of_lt (by omega), Nat.mod_eq_of_lt (by omega)]
  rw [h]
  exact wU64 (Nat.xor_lt_two_pow (n := 64) hx hy)
theorem sHr64 (x k : Nat) (hk : k ≤ 64) : sHr .u64 x (k : Int) = ((x / 2 ^ k : Nat) : Int) := by
  unfold sHr
  show Int.fdiv (x : Int) (2 ^ min (k : Int).toNat 64) = _
  rw [Int.toNat_natCast, Nat.min_eq_left hk]
  rw [show ((2 : Int) ^ k) = ((2 ^ k : Nat) : Int) by simp]
  rw [Int.fdiv_eq_ediv_of_nonneg _ (Int.natCast_nonneg _)]
  simp
theorem sHl64 (x k : Nat) (hk : k ≤ 64) (h : x * 2 ^ k < 18446744073709551616) : sHl .u64 x (k : Int) = ((x * 2 ^ k : Nat) : Int) := by
  unfold sHl
  show IntKind.wrap .u64 ((x : Int) * 2 ^ min (k : Int).toNat 64) = _
  rw [Int.toNat_natCast, Nat.min_eq_left hk, show ((x : Int) * 2 ^ k) = ((x * 2 ^ k : Nat) : Int) by simp]
  exact wU64 h
theorem and127 (x : Nat) : x &&& 127 = x % 128 := Nat.and_two_pow_sub_one_eq_mod x 7
theorem and1 (x : Nat) : x &&& 1 = x % 2 := Nat.and_two_pow_sub_one_eq_mod x 1
theorem or128 {x : Nat} (h : x < 128) : x ||| 128 = x + 128 := by
  have := Nat.two_pow_add_eq_or_of_lt (i := 7) h 1
  rw [Nat.or_comm, show (128 : Nat) = 2 ^ 7 * 1 by rfl, ← this]
  omega
theorem or_shift {v x k : Nat} (h : v < 2 ^ k) : v ||| x * 2 ^ k = v + x * 2 ^ k := by
  have := Nat.two_pow_add_eq_or_of_lt h x
  rw [Nat.or_comm, Nat.mul_comm x, ← this, Nat.add_comm]
end Go.S
end

section
namespace Go.S
open Go
end Go.S
end

section
namespace Go.S
open Go
def vu (u : Nat) : List UInt8 := if u < 128 then [UInt8.ofNat u] else UInt8.ofNat (u % 128 + 128) :: vu (u / 128)
termination_by u
decreasing_by omega
theorem vu_lo {u : Nat} (h : u < 128) : vu u = [UInt8.ofNat u] := by rw [vu, if_pos h]
theorem vu_hi {u : Nat} (h : ¬ u < 128) : vu u = UInt8.ofNat (u % 128 + 128) :: vu (u / 128) := by rw [vu, if_neg h]
theorem vu_len : ∀ (k u : Nat), 1 ≤ k → u < 128 ^ k → (vu u).length ≤ k
  | k, u, hk, h => by
    by_cases h1 : u < 128
    · rw [vu_lo h1]; simpa using hk
    · rw [vu_hi h1]
      match k, hk with
      | k + 1, _ =>
        have hk1 : 1 ≤ k := by
          rcases Nat.eq_zero_or_pos k with q | q
          · subst q; simp at h; omega
          · exact q
        have := vu_len k (u / 128) hk1 (by rw [Nat.pow_succ] at h; omega)
        simp; omega
  termination_by k => k
def zigN (n : Int) : Nat := if 0 ≤ n then (2 * n).toNat else (-2 * n - 1).toNat
def encI (n : Int) : List UInt8 := vu (zigN n)
theorem zigN_lt {n : Int} (h : I64 n) : zigN n < 18446744073709551616 := by
  obtain ⟨h1, h2⟩ := h
  unfold zigN
  split <;> omega
theorem encI_len {n : Int} (h : I64 n) : (encI n).length ≤ 10 := vu_len 10 _ (by decide) (by have := zigN_lt h; omega)
def encT (s : List UInt8) : List UInt8 := encI s.length ++ s
theorem zig_prog {n : Int} (h : I64 n) : bXor .u64 (sHl .u64 (IntKind.wrap .u64 n) 1) (IntKind.wrap .u64 (sHr .i64 n 63)) = (zigN n : Int) := by
  obtain ⟨h1, h2⟩ := h
  have hs : sHr .i64 n 63 = if 0 ≤ n then 0 else -1 := by
    unfold sHr
    show Int.fdiv n (2 ^ 63) = _
    rw [Int.fdiv_eq_ediv_of_nonneg _ (by decide)]
    split <;> omega
  unfold zigN
  rw [hs]
  by_cases h0 : 0 ≤ n
  · rw [if_pos h0, if_pos h0]
    obtain ⟨m, rfl⟩ : ∃ m : Nat, n = m := ⟨n.toNat, by omega⟩
    have e1 := sHl64 m 1 (by decide) (by omega)
    rw [wU64 (by omega)]
    rw [show ((1 : Nat) : Int) = 1 from rfl] at e1
    rw [e1, show IntKind.wrap .u64 (0 : Int) = ((0 : Nat) : Int) from rfl, bXor64 (by omega) (by omega), Nat.xor_zero]
    omega
  · rw [if_neg h0, if_neg h0]
    have e0 : IntKind.wrap .u64 n = n + 18446744073709551616 := by
      simp only [IntKind.wrap, IntKind.bits, IntKind.signed]
      simp
      omega
    have e1 : sHl .u64 (n + 18446744073709551616) 1 = 2 * n + 18446744073709551616 := by
      unfold sHl
      show IntKind.wrap .u64 ((n + 18446744073709551616) * 2 ^ 1) = _
      simp only [IntKind.wrap, IntKind.bits, IntKind.signed]
      simp
      omega
    have e2 : IntKind.wrap .u64 (-1) = ((18446744073709551615 : Nat) : Int) := by decide
    rw [e0, e1, e2]
    obtain ⟨m, hm⟩ : ∃ m : Nat, 2 * n + 18446744073709551616 = m := ⟨(2 * n + 18446744073709551616).toNat, by omega⟩
    rw [hm, bXor64 (by omega) (by omega)]
    have hx : m ^^^ 18446744073709551615 = 18446744073709551615 - m := by
      have hb : (BitVec.ofNat 64 m ^^^ BitVec.allOnes 64) = ~~~ (BitVec.ofNat 64 m) := BitVec.xor_allOnes
      have := congrArg BitVec.toNat hb
      rw [BitVec.toNat_xor, BitVec.toNat_not, BitVec.toNat_ofNat, Nat.mod_eq_of_lt (by omega), BitVec.toNat_allOnes] at this
      exact this
    rw [hx]
    omega
theorem loop_enc {v : Nat} {c : List UInt8} {R : Type} (hv : v < 18446744073709551616) (hc : c.length + 10 ≤ 4294967296) {K : List UInt8 → Option R} {Q : R → Prop} (hK : Ok (K (c ++ vu v)) Q)
    (B : Int × List UInt8 → Option ((Int × List UInt8) ⊕ R)) (hB : ∀ t, B t = if 128 ≤ t.1 then (gd ((0 : Int) ≤ (bOr .u8 (IntKind.wrap .u8 (bAnd .u64 t.1 127)) 128) ∧ (bOr .u8 (IntKind.wrap .u8 (bAnd .u64 t.1 127)) 128) ≤ 255) (
      lt (UInt8.ofNat (bOr .u8 (IntKind.wrap .u8 (bAnd .u64 t.1 127)) 128).toNat) (fun u31_7 => lt [u31_7] (fun y31_8 => gd (t.2.length + y31_8.length ≤ 4294967296) (lt (t.2 ++ y31_8) (fun y32_10 => go ((sHr .u64 t.1 7), y32_10)))))))
      else up (gd ((0 : Int) ≤ (IntKind.wrap .u8 t.1) ∧ (IntKind.wrap .u8 t.1) ≤ 255) (lt (UInt8.ofNat (IntKind.wrap .u8 t.1).toNat) (fun u44_12 => lt [u44_12] (fun y44_13 => gd (t.2.length + y44_13.length ≤ 4294967296) (lt (t.2 ++ y44_13) K)))))) :
    Ok (iter B ((v : Int), c)) Q := by
  have hlen := vu_len 10 v (by decide) (by omega)
  refine ok_iter (I := fun t => ∃ u : Nat, t.1 = u ∧ u < 18446744073709551616 ∧ t.2 ++ vu u = c ++ vu v) (μ := fun t => t.1.toNat) ?_ ⟨v, rfl, hv, rfl⟩
  rintro ⟨v', c'⟩ ⟨u, hu, hu2, hcc⟩
  dsimp only at hu hcc
  subst hu
  have hl2 := congrArg List.length hcc
  simp only [List.length_append] at hl2
  rw [hB]
  dsimp only
  simp only [ok_if, ok_up, ok_gd, ok_lt, ok_go]
  refine ⟨fun h => ?_, fun h => ?_⟩
  · have h' : ¬ u < 128 := by omega
    have e1 : bAnd .u64 (u : Int) 127 = ((u % 128 : Nat) : Int) := by
      have := bAnd64 (x := u) (y := 127) hu2 (by decide)
      rw [and127] at this; exact this
    have e2 : bOr .u8 (IntKind.wrap .u8 (bAnd .u64 (u : Int) 127)) 128 = ((u % 128 + 128 : Nat) : Int) := by
      rw [e1, wU8 (by omega)]
      have := bOr8 (x := u % 128) (y := 128) (by omega) (by decide)
      rw [or128 (by omega)] at this; exact this
    have e3 : sHr .u64 (u : Int) 7 = ((u / 128 : Nat) : Int) := sHr64 u 7 (by decide)
    rw [e2, e3]
    rw [vu_hi h'] at hcc hl2
    simp only [List.length_cons] at hl2
    refine ⟨⟨by omega, by omega⟩, by simp; omega, ⟨u / 128, rfl, by omega, ?_⟩, by omega⟩
    rw [← hcc, Int.toNat_natCast]; simp
  · have h' : u < 128 := by omega
    have e1 : IntKind.wrap .u8 (u : Int) = u := wU8 (by omega)
    rw [e1, Int.toNat_natCast]
    rw [vu_lo h'] at hcc hl2
    rw [hcc]
    exact ⟨⟨by omega, by omega⟩, by simp at hl2 ⊢; omega, hK⟩
end Go.S
end

section
namespace Go.S
open Go
def dU (b : List UInt8) (p : Nat) : Nat → Nat → Nat → Int × Nat × Nat
  | 0, _, _ => (2, 0, 0)
  | f + 1, i, v => match b[p + i]? with
    | none => (3, 0, 0)
    | some c =>
      if (i = 9 ∧ 1 < c.toNat) ∨ (0 < i ∧ c.toNat = 0) then (2, 0, 0)
      else if c.toNat < 128 then (0, v + c.toNat % 128 * 2 ^ (7 * i), p + i + 1)
      else dU b p f (i + 1) (v + c.toNat % 128 * 2 ^ (7 * i))
theorem pow56 {i : Nat} (h : i ≤ 8) : 2 ^ (7 * i) ≤ 72057594037927936 := by
  have := Nat.pow_le_pow_right (n := 2) (by decide) (show 7 * i ≤ 56 by omega)
  simpa using this
theorem acc_eq {c : UInt8} {i v : Nat} (hi : i ≤ 9) (hv : v < 2 ^ (7 * i)) (hc : i = 9 → c.toNat ≤ 1) : v + c.toNat % 128 * 2 ^ (7 * i) < 18446744073709551616 ∧ v + c.toNat % 128 * 2 ^ (7 * i) < 2 ^ (7 * (i + 1)) ∧
    c.toNat % 128 * 2 ^ (7 * i) < 18446744073709551616 ∧ v < 18446744073709551616 := by
  have hm : c.toNat % 128 ≤ 127 := by omega
  have hp : 2 ^ (7 * (i + 1)) = 128 * 2 ^ (7 * i) := by rw [show 7 * (i + 1) = 7 + 7 * i by omega, Nat.pow_add]
  have hmul : c.toNat % 128 * 2 ^ (7 * i) ≤ 127 * 2 ^ (7 * i) := Nat.mul_le_mul hm (Nat.le_refl _)
  rw [hp]
  by_cases h9 : i = 9
  · subst h9
    have h1 := hc rfl
    have h2 : c.toNat % 128 ≤ 1 := by omega
    have h3 : c.toNat % 128 * 2 ^ (7 * 9) ≤ 1 * 2 ^ (7 * 9) := Nat.mul_le_mul h2 (Nat.le_refl _)
    have e : 2 ^ (7 * 9) = 9223372036854775808 := by decide
    rw [e] at *
    omega
  · have := pow56 (i := i) (by omega)
    generalize 2 ^ (7 * i) = P at *
    omega
theorem acc_prog {c : UInt8} {i v : Nat} (hi : i ≤ 9) (hv : v < 2 ^ (7 * i)) (hc : i = 9 → c.toNat ≤ 1) :
    bOr .u64 (v : Int) (sHl .u64 (IntKind.wrap .u64 (bAnd .u8 (c.toNat : Int) 127)) (7 * (i : Int))) = ((v + c.toNat % 128 * 2 ^ (7 * i) : Nat) : Int) := by
  obtain ⟨h1, _, h3, h4⟩ := acc_eq hi hv hc
  have hb := c.toNat_lt
  have e1 := bAnd8 (x := c.toNat) (y := 127) (by omega) (by decide)
  rw [and127] at e1
  rw [show (127 : Int) = ((127 : Nat) : Int) from rfl, e1, wU64 (by omega)]
  rw [show (7 * (i : Int)) = ((7 * i : Nat) : Int) by omega, sHl64 _ _ (by omega) h3, bOr64 h4 h3, or_shift hv]
theorem dU_step {b : List UInt8} {p f i v : Nat} {c : UInt8} (h : b[p + i]? = some c) : dU b p (f + 1) i v = if (i = 9 ∧ 1 < c.toNat) ∨ (0 < i ∧ c.toNat = 0) then (2, 0, 0) else if c.toNat < 128 then (0, v + c.toNat % 128 * 2 ^ (7 * i), p + i + 1) else dU b p f (i + 1) (v + c.toNat % 128 * 2 ^ (7 * i)) := by
  rw [dU, h]
theorem dU_bound (b : List UInt8) (p : Nat) : ∀ (f i v : Nat), i + f = 10 → v < 2 ^ (7 * i) → (dU b p f i v).1 = 0 → (dU b p f i v).2.1 < 18446744073709551616 ∧ p < (dU b p f i v).2.2 ∧ (dU b p f i v).2.2 ≤ b.length
  | 0, i, v, _, _, h => by simp [dU] at h
  | f + 1, i, v, hf, hv, h => by
    cases hc : b[p + i]? with
    | none => rw [dU, hc] at h; cases h
    | some c =>
      rw [dU_step hc] at h ⊢
      split at h
      · cases h
      · next hn =>
        have hc9 : i = 9 → c.toNat ≤ 1 := fun e => by
          rcases Nat.lt_or_ge 1 c.toNat with q | q
          · exact absurd (.inl ⟨e, q⟩) hn
          · exact q
        obtain ⟨a1, a2, _, _⟩ := acc_eq (i := i) (v := v) (c := c) (by omega) hv hc9
        rw [if_neg hn]
        split
        · have := get_lt hc
          exact ⟨a1, by dsimp only; omega, by dsimp only; omega⟩
        · next h128 =>
          rw [if_neg h128] at h
          exact dU_bound b p f (i + 1) _ (by omega) a2 h
theorem dU_err (b : List UInt8) (p : Nat) : ∀ (f i v : Nat), (dU b p f i v).1 = 0 ∨ (dU b p f i v).1 = 2 ∨ (dU b p f i v).1 = 3
  | 0, _, _ => .inr (.inl rfl)
  | f + 1, i, v => by
    cases hc : b[p + i]? with
    | none => rw [dU, hc]; exact .inr (.inr rfl)
    | some c =>
      rw [dU_step hc]
      split
      · exact .inr (.inl rfl)
      · split
        · exact .inl rfl
        · exact dU_err b p f (i + 1) _
structure DS where
  at_ : Nat
  bad : Option (Nat × Int)
def byteW : List UInt8 := [98, 121, 116, 101]
def errD : Option (Nat × Int) → Err
  | none => .nil
  | some (p, e) => .fault byteW p (.no e)
def cP (b : List UInt8) (s : DS) : CodecDecP := ⟨b, s.at_, errD s.bad⟩
def Dok (b : List UInt8) (s : DS) : Prop := s.at_ ≤ b.length ∧ match s.bad with
  | none => True
  | some (p, e) => p ≤ b.length ∧ (e = 2 ∨ e = 3)
def valI (u : Nat) : Int := if u % 2 = 0 then ((u / 2 : Nat) : Int) else -((u / 2 : Nat) : Int) - 1
def sInt (b : List UInt8) (s : DS) : Int × DS := match s.bad with
  | some _ => (0, s)
  | none => if (dU b s.at_ 10 0 0).1 = 0 then (valI (dU b s.at_ 10 0 0).2.1, ⟨(dU b s.at_ 10 0 0).2.2, none⟩) else (0, ⟨s.at_, some (s.at_, (dU b s.at_ 10 0 0).1)⟩)
theorem sInt_ok {b : List UInt8} {s : DS} (h : Dok b s) : Dok b (sInt b s).2 ∧ I64 (sInt b s).1 := by
  unfold sInt
  cases hs : s.bad with
  | some q => exact ⟨h, by dsimp only; exact ⟨by omega, by omega⟩⟩
  | none =>
    dsimp only
    split
    · next h0 =>
      have hb := dU_bound b s.at_ 10 0 0 rfl (by decide) h0
      refine ⟨⟨hb.2.2, trivial⟩, ?_⟩
      unfold valI I64
      split <;> omega
    · next h0 =>
      have he := dU_err b s.at_ 10 0 0
      refine ⟨⟨h.1, h.1, ?_⟩, by dsimp only; exact ⟨by omega, by omega⟩⟩
      rcases he with q | q
      · exact absurd q h0
      · exact q
theorem uint_ok {d : CodecDecP} {p : Nat} (hp : d.at_ = p) (h1 : p ≤ d.b.length) (hl : d.b.length ≤ 1000000000) :
    Sh.codec_Dec_uint d = some (if (dU d.b p 10 0 0).1 = 0 then (((dU d.b p 10 0 0).2.1 : Int), 0, ⟨d.b, ((dU d.b p 10 0 0).2.2 : Int), d.err⟩) else (0, (dU d.b p 10 0 0).1, ⟨d.b, d.at_, d.err⟩)) := by
  apply Ok.eq
  unfold Sh.codec_Dec_uint
  refine ok_iter (I := fun t => 0 ≤ t.2 ∧ t.2 ≤ 9 ∧ ∃ v : Nat, t.1 = v ∧ v < 2 ^ (7 * t.2.toNat) ∧ dU d.b p (10 - t.2.toNat) t.2.toNat v = dU d.b p 10 0 0) (μ := fun t => (10 - t.2).toNat) ?_ ⟨by simp, by simp, 0, rfl, by decide, rfl⟩
  rintro ⟨x, i⟩ ⟨i0, i9, v, hx, hv, hd⟩
  dsimp only at i0 i9 hx hv hd ⊢
  subst hx
  rw [hp]
  simp only [ok_if, ok_up, ok_bd, ok_gd, ok_lt, ok_go, ok_some, ok_at]
  rw [show 10 - i.toNat = (9 - i.toNat) + 1 by omega] at hd
  refine ⟨fun _ => ⟨⟨by omega, by omega⟩, fun hs => ?_, fun hs => ⟨⟨by omega, by omega⟩, by omega, ?_⟩⟩, fun h => by omega⟩
  · have hn : d.b[p + i.toNat]? = none := List.getElem?_eq_none (by omega)
    rw [dU, hn] at hd
    rw [← hd]; rfl
  · obtain ⟨c, hc⟩ := at_get (l := d.b) (i := (p : Int) + i) (by omega) (by omega)
    have hc' : d.b[p + i.toNat]? = some c := by rw [show p + i.toNat = ((p : Int) + i).toNat by omega]; exact hc
    rw [dU_step hc'] at hd
    refine ⟨c, hc, ?_⟩
    have bad : ((i.toNat = 9 ∧ 1 < c.toNat) ∨ (0 < i.toNat ∧ c.toNat = 0)) → ((0 : Int), (2 : Int), (⟨d.b, (p : Int), d.err⟩ : CodecDecP)) = if (dU d.b p 10 0 0).1 = 0 then (((dU d.b p 10 0 0).2.1 : Int), 0, ⟨d.b, ((dU d.b p 10 0 0).2.2 : Int), d.err⟩) else (0, (dU d.b p 10 0 0).1, ⟨d.b, (p : Int), d.err⟩) := fun q => by
      rw [if_pos q] at hd
      rw [← hd]; rfl
    refine ok_jnP (fun _ => ¬ ((i.toNat = 9 ∧ 1 < c.toNat) ∨ (0 < i.toNat ∧ c.toNat = 0))) ?_ ?_
    · intro _ hn
      rw [if_neg hn] at hd
      have hc9 : i.toNat = 9 → c.toNat ≤ 1 := fun e => by
        rcases Nat.lt_or_ge 1 c.toNat with q | q
        · exact absurd (.inl ⟨e, q⟩) hn
        · exact q
      have ea := acc_prog (c := c) (i := i.toNat) (by omega) hv hc9
      have hea := acc_eq (c := c) (i := i.toNat) (by omega) hv hc9
      rw [show ((i.toNat : Nat) : Int) = i by omega] at ea
      simp only [ok_if, ok_up, ok_gd, ok_go, ok_some]
      rw [ea]
      refine ⟨⟨by omega, by omega⟩, by omega, fun h128 => ⟨⟨by omega, by omega⟩, ⟨by omega, by omega⟩, ?_⟩, fun h128 => ?_⟩
      · rw [if_pos (by omega)] at hd
        rw [← hd]
        simp
        omega
      · rw [if_neg (by omega)] at hd
        have h9 : i.toNat ≠ 9 := fun e => by have := hc9 e; omega
        refine ⟨⟨by omega, by omega⟩, ⟨by omega, by omega, _, rfl, ?_, ?_⟩, by omega⟩
        · rw [show (i + 1).toNat = i.toNat + 1 by omega]; exact hea.2.1
        · rw [show (i + 1).toNat = i.toNat + 1 by omega, show 10 - (i.toNat + 1) = 9 - i.toNat by omega]; exact hd
    · intro K hK
      simp only [ok_if, ok_up, ok_some]
      refine ⟨fun h9 => ⟨fun h1 => bad (.inl ⟨by omega, by omega⟩), fun h1 => ⟨fun h0 => ⟨fun hz => bad (.inr ⟨by omega, by omega⟩), fun hz => hK () ?_⟩, fun h0 => by omega⟩⟩, fun h9 => ⟨fun h0 => ⟨fun hz => bad (.inr ⟨by omega, by omega⟩), fun hz => hK () ?_⟩, fun h0 => hK () ?_⟩⟩ <;> omega
theorem bXorI {x : Nat} (hx : x < 9223372036854775808) : bXor .i64 (x : Int) 0 = x ∧ bXor .i64 (x : Int) (-1) = -(x : Int) - 1 := by
  have w : ∀ n : Int, -9223372036854775808 ≤ n ∧ n ≤ 9223372036854775807 → IntKind.wrap .i64 n = n := fun n h => IntWalk.i64_in _ h
  constructor
  · unfold bXor
    have h : (BitVec.ofInt IntKind.i64.bits (x : Int) ^^^ BitVec.ofInt IntKind.i64.bits 0).toNat = x := by
      show (BitVec.ofInt 64 (x : Int) ^^^ BitVec.ofInt 64 0).toNat = x
      rw [show BitVec.ofInt 64 0 = 0#64 from rfl, BitVec.xor_zero, BitVec.ofInt_natCast, BitVec.toNat_ofNat, Nat.mod_eq_of_lt (by omega)]
    rw [h]
    exact w _ ⟨by omega, by omega⟩
  · unfold bXor
    have h : (BitVec.ofInt IntKind.i64.bits (x : Int) ^^^ BitVec.ofInt IntKind.i64.bits (-1)).toNat = 18446744073709551615 - x := by
      show (BitVec.ofInt 64 (x : Int) ^^^ BitVec.ofInt 64 (-1)).toNat = _
      rw [show BitVec.ofInt 64 (-1) = BitVec.allOnes 64 by decide, BitVec.xor_allOnes, BitVec.toNat_not, BitVec.ofInt_natCast, BitVec.toNat_ofNat, Nat.mod_eq_of_lt (by omega)]
    rw [h]
    simp only [IntKind.wrap, IntKind.bits, IntKind.signed]
    simp
    omega
theorem val_prog {u : Nat} (hu : u < 18446744073709551616) : bXor .i64 (IntKind.wrap .i64 (sHr .u64 (u : Int) 1)) (IntKind.wrap .i64 (0 - (IntKind.wrap .i64 (bAnd .u64 (u : Int) 1)))) = valI u := by
  have e1 : sHr .u64 (u : Int) 1 = ((u / 2 : Nat) : Int) := sHr64 u 1 (by decide)
  have e2 : bAnd .u64 (u : Int) 1 = ((u % 2 : Nat) : Int) := by
    have := bAnd64 (x := u) (y := 1) hu (by decide)
    rw [and1] at this; exact this
  have w : ∀ n : Int, -9223372036854775808 ≤ n ∧ n ≤ 9223372036854775807 → IntKind.wrap .i64 n = n := fun n h => IntWalk.i64_in _ h
  have hb := bXorI (x := u / 2) (by omega)
  rw [e1, e2, w _ ⟨by omega, by omega⟩, w ((u % 2 : Nat) : Int) ⟨by omega, by omega⟩, w _ ⟨by omega, by omega⟩]
  unfold valI
  by_cases h : u % 2 = 0
  · rw [if_pos h, h]; exact hb.1
  · rw [if_neg h, show u % 2 = 1 by omega]; exact hb.2
theorem decInt_ok {b : List UInt8} {s : DS} (h : Dok b s) (hl : b.length ≤ 1000000000) : Sh.codec_Dec_Int (cP b s) = some ((sInt b s).1, cP b (sInt b s).2) := by
  apply Ok.eq
  unfold Sh.codec_Dec_Int sInt
  cases hs : s.bad with
  | some q =>
    obtain ⟨p, e⟩ := q
    have e1 : (cP b s).err.isNil = false := by simp [cP, hs, errD, Err.isNil]
    rw [e1, if_neg (by simp), ok_some]
  | none =>
    have e1 : (cP b s).err.isNil = true := by simp [cP, hs, errD, Err.isNil]
    rw [e1, if_pos rfl, uint_ok (d := cP b s) (p := s.at_) rfl h.1 hl, Option.bind_some]
    have hbd : (cP b s).b = b := rfl
    rw [hbd]
    by_cases h0 : (dU b s.at_ 10 0 0).1 = 0
    · have hb := dU_bound b s.at_ 10 0 0 rfl (by decide) h0
      rw [if_pos h0, if_pos h0, if_pos rfl, ok_some]
      dsimp only
      rw [val_prog hb.1]
      simp [cP, hs]
    · rw [if_neg h0, if_neg h0, if_neg h0]
      unfold Sh.codec_Dec_fail
      simp only [ok_bd, ok_some]
      simp [cP, errD, byteW]
end Go.S
end

section
namespace Go.S
open Go
def sText (b : List UInt8) (s : DS) : List UInt8 × DS := match (sInt b s).2.bad with
  | some _ => ([], (sInt b s).2)
  | none =>
    if (sInt b s).1 < 0 then ([], ⟨(sInt b s).2.at_, some (s.at_, 2)⟩)
    else if (b.length : Int) - (sInt b s).2.at_ < (sInt b s).1 then ([], ⟨(sInt b s).2.at_, some (s.at_, 3)⟩)
    else ((b.drop (sInt b s).2.at_).take (sInt b s).1.toNat, ⟨(sInt b s).2.at_ + (sInt b s).1.toNat, none⟩)
theorem sText_ok {b : List UInt8} {s : DS} (h : Dok b s) : Dok b (sText b s).2 ∧ (sText b s).1.length ≤ b.length := by
  have h1 := sInt_ok h
  unfold sText
  cases hs : (sInt b s).2.bad with
  | some q => exact ⟨h1.1, Nat.zero_le _⟩
  | none =>
    dsimp only
    split
    · exact ⟨⟨h1.1.1, h.1, .inl rfl⟩, Nat.zero_le _⟩
    · split
      · exact ⟨⟨h1.1.1, h.1, .inr rfl⟩, Nat.zero_le _⟩
      · refine ⟨⟨by dsimp only; omega, trivial⟩, by rw [List.length_take, List.length_drop]; omega⟩
theorem decText_ok {b : List UInt8} {s : DS} (h : Dok b s) (hl : b.length ≤ 1000000000) : Sh.codec_Dec_Text (cP b s) = some ((sText b s).1, cP b (sText b s).2) := by
  apply Ok.eq
  unfold Sh.codec_Dec_Text
  have h1 := sInt_ok h
  rw [decInt_ok h hl, Option.bind_some]
  unfold sText
  generalize hr : sInt b s = r at *
  obtain ⟨n, s'⟩ := r
  dsimp only at h1 ⊢
  have hp := h1.1.1
  cases hs : s'.bad with
  | some q =>
    obtain ⟨p, e⟩ := q
    have e1 : (cP b s').err.isNil = false := by simp [cP, hs, errD, Err.isNil]
    rw [e1, if_neg (by simp), ok_some]
  | none =>
    have e1 : (cP b s').err.isNil = true := by simp [cP, hs, errD, Err.isNil]
    rw [e1, if_pos rfl]
    have hb : (cP b s').b = b := rfl
    have ha : (cP b s').at_ = s'.at_ := rfl
    have ha0 : (cP b s).at_ = s.at_ := rfl
    have he : (cP b s').err = .nil := by simp [cP, hs, errD]
    unfold Sh.codec_Dec_fail
    simp only [ok_if, ok_some, ok_gd, ok_lt, ok_bd, hb, ha, ha0, he]
    refine ⟨fun h0 => ?_, fun h0 => ⟨⟨by omega, by omega⟩, fun h2 => ?_, fun h2 => ⟨⟨by omega, by omega⟩, ⟨by omega, by omega, by omega⟩, ⟨by omega, by omega⟩, ?_⟩⟩⟩
    · rw [if_pos h0]; rfl
    · rw [if_neg h0, if_pos h2]; rfl
    · rw [if_neg h0, if_neg h2]
      rw [show ((s'.at_ : Int) + n).toNat - (s'.at_ : Int).toNat = n.toNat by omega, Int.toNat_natCast]
      simp [cP, errD]
      omega
def sLeft (b : List UInt8) (s : DS) : Int := match s.bad with
  | some _ => 0
  | none => (b.length : Int) - s.at_
theorem left_ok {b : List UInt8} {s : DS} (h : Dok b s) (hl : b.length ≤ 1000000000) : Sh.codec_Dec_Left (cP b s) = some (sLeft b s) := by
  apply Ok.eq
  unfold Sh.codec_Dec_Left sLeft
  have hp := h.1
  cases hs : s.bad with
  | some q =>
    have e1 : (cP b s).err.isNil = false := by obtain ⟨p, e⟩ := q; simp [cP, hs, errD, Err.isNil]
    rw [e1, if_neg (by simp), ok_some]
  | none =>
    have e1 : (cP b s).err.isNil = true := by simp [cP, hs, errD, Err.isNil]
    rw [e1, if_pos rfl]
    simp only [ok_gd, ok_some]
    exact ⟨⟨by simp [cP]; omega, by simp [cP]; omega⟩, rfl⟩
end Go.S
end

section
namespace Go.S
open Go
def Eat (b : List UInt8) (s s' : DS) (xs : List UInt8) : Prop := s.bad = none ∧ s'.bad = none ∧ s'.at_ = s.at_ + xs.length ∧ b.drop s.at_ = xs ++ b.drop s'.at_
theorem Eat.refl {b : List UInt8} {s : DS} (h : s.bad = none) : Eat b s s [] := ⟨h, h, rfl, rfl⟩
theorem Eat.trans {b : List UInt8} {s s1 s2 : DS} {xs ys : List UInt8} (h : Eat b s s1 xs) (g : Eat b s1 s2 ys) : Eat b s s2 (xs ++ ys) := by
  obtain ⟨a1, a2, a3, a4⟩ := h
  obtain ⟨b1, b2, b3, b4⟩ := g
  exact ⟨a1, b2, by rw [b3, a3, List.length_append]; omega, by rw [a4, b4, List.append_assoc]⟩
theorem dU_inv {b : List UInt8} {p : Nat} : ∀ (f i v : Nat), i + f = 10 → (dU b p f i v).1 = 0 → ∃ w : Nat, (dU b p f i v).2.1 = v + w * 2 ^ (7 * i) ∧ (0 < i → 0 < w) ∧ (dU b p f i v).2.2 = p + i + (vu w).length ∧ b.drop (p + i) = vu w ++ b.drop (p + i + (vu w).length)
  | 0, i, v, _, h => by simp [dU] at h
  | f + 1, i, v, hf, h => by
    cases hc : b[p + i]? with
    | none => rw [dU, hc] at h; cases h
    | some c =>
      rw [dU_step hc] at h ⊢
      have hd : b.drop (p + i) = c :: b.drop (p + i + 1) := by
        obtain ⟨h1, h2⟩ := List.getElem?_eq_some_iff.1 hc
        rw [List.drop_eq_getElem_cons h1, h2]
      split at h
      · cases h
      · next hn =>
        rw [if_neg hn]
        by_cases h128 : c.toNat < 128
        · rw [if_pos h128]
          have ec : vu (c.toNat % 128) = [c] := by
            rw [vu_lo (by omega), Nat.mod_eq_of_lt h128]
            simp
          refine ⟨c.toNat % 128, rfl, fun hi => ?_, by rw [ec]; rfl, by rw [ec, hd]; rfl⟩
          rcases Nat.eq_zero_or_pos c.toNat with q | q
          · exact absurd (.inr ⟨hi, q⟩) hn
          · omega
        · rw [if_neg h128] at h ⊢
          obtain ⟨w, e1, e2, e3, e4⟩ := dU_inv f (i + 1) _ (by omega) h
          have hw := e2 (by omega)
          have hb := c.toNat_lt
          have hv : vu (c.toNat % 128 + 128 * w) = c :: vu w := by
            rw [vu_hi (by omega)]
            rw [show (c.toNat % 128 + 128 * w) % 128 = c.toNat % 128 by omega, show (c.toNat % 128 + 128 * w) / 128 = w by omega, show c.toNat % 128 + 128 = c.toNat by omega]
            simp
          have hp2 : 2 ^ (7 * (i + 1)) = 128 * 2 ^ (7 * i) := by rw [show 7 * (i + 1) = 7 + 7 * i by omega, Nat.pow_add]
          refine ⟨c.toNat % 128 + 128 * w, ?_, fun _ => by omega, ?_, ?_⟩
          · rw [e1, hp2, Nat.add_mul, Nat.mul_comm 128 w, Nat.mul_assoc]; omega
          · rw [e3, hv]; simp; omega
          · rw [hv, hd, show p + i + 1 = p + (i + 1) by omega, e4]
            simp only [List.length_cons, List.cons_append]
            rw [show p + (i + 1) + (vu w).length = p + i + ((vu w).length + 1) by omega]
theorem zig_val {u : Nat} (h : u < 18446744073709551616) : zigN (valI u) = u := by
  unfold valI zigN
  split <;> split <;> omega
theorem sInt_eat {b : List UInt8} {s : DS} (e : (sInt b s).2.bad = none) : Eat b s (sInt b s).2 (encI (sInt b s).1) := by
  unfold sInt at e ⊢
  cases hs : s.bad with
  | some q => rw [hs] at e; dsimp only at e; rw [hs] at e; cases e
  | none =>
    rw [hs] at e
    dsimp only at e ⊢
    by_cases h0 : (dU b s.at_ 10 0 0).1 = 0
    · rw [if_pos h0] at e ⊢
      obtain ⟨w, e1, _, e3, e4⟩ := dU_inv 10 0 0 rfl h0
      have hb := dU_bound b s.at_ 10 0 0 rfl (by decide) h0
      have ew : (dU b s.at_ 10 0 0).2.1 = w := by rw [e1]; simp
      refine ⟨hs, rfl, ?_, ?_⟩
      · dsimp only; rw [e3]; unfold encI; rw [zig_val hb.1, ew]; rfl
      · dsimp only; unfold encI; rw [zig_val hb.1, ew, e3]; exact e4
    · rw [if_neg h0] at e; cases e
theorem sInt_pos {b : List UInt8} {s : DS} (e : (sInt b s).2.bad = none) : s.at_ < (sInt b s).2.at_ := by
  have := (sInt_eat e).2.2.1
  have h1 : 1 ≤ (encI (sInt b s).1).length := by
    unfold encI
    by_cases h : zigN (sInt b s).1 < 128
    · rw [vu_lo h]; exact Nat.le_refl _
    · rw [vu_hi h]; simp
  omega
theorem sText_eat {b : List UInt8} {s : DS} (h : Dok b s) (e : (sText b s).2.bad = none) : Eat b s (sText b s).2 (encT (sText b s).1) := by
  have h1 := sInt_ok h
  unfold sText at e ⊢
  cases hs : (sInt b s).2.bad with
  | some q => rw [hs] at e; dsimp only at e; rw [hs] at e; cases e
  | none =>
    have he := sInt_eat hs
    rw [hs] at e
    dsimp only at e ⊢
    split at e
    · cases e
    · next n0 =>
      split at e
      · cases e
      · next n1 =>
        rw [if_neg n0, if_neg n1]
        have hl : ((b.drop (sInt b s).2.at_).take (sInt b s).1.toNat).length = (sInt b s).1.toNat := by
          rw [List.length_take, List.length_drop]; omega
        have hq : Eat b (sInt b s).2 ⟨(sInt b s).2.at_ + (sInt b s).1.toNat, none⟩ ((b.drop (sInt b s).2.at_).take (sInt b s).1.toNat) := by
          refine ⟨hs, rfl, by rw [hl], ?_⟩
          dsimp only
          rw [← List.drop_drop, List.take_append_drop]
        have := he.trans hq
        unfold encT
        rw [hl, show (((sInt b s).1.toNat : Nat) : Int) = (sInt b s).1 by omega]
        exact this
theorem Eat.len {b : List UInt8} {s s' : DS} {xs : List UInt8} (h : Eat b s s' xs) (g : Dok b s') : xs.length ≤ b.length := by
  have := h.2.2.1
  have := g.1
  omega
end Go.S
end
